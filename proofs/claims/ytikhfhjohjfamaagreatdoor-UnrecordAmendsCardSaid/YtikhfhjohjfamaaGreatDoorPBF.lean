/- Lemmas. -/
import Derived.Test.YtikhfhjohjfamaaGreatDoorPBE
import Derived.Test.YtikhfhjohjfamaaGreatDoorPBD
import Derived.Test.YtikhfhjohjfamaaGreatDoorPBC
import Derived.Test.YtikhfhjohjfamaaGreatDoorZD
set_option linter.unusedVariables false
set_option linter.unusedSimpArgs false
set_option maxRecDepth 100000
namespace Go.Proofs.Q
open Go Go.Bb Go.RowKit Go.Proofs.Lg
open Go.Ab (D RD)
def fM(b:List ay):List AV:=(b.map aO).flatten.map .d
theorem uc(b:List ay):(fM b).length=b.length*172:=by
 unfold fM;rw[aM,Go.Ab.flatten_len (sz:=172) _ λr a=>by obtain⟨x,_,rfl⟩:=bM.1 a;exact bB x,aM]
theorem Q2(b:List ay)(x:ay):fM b++(aO x).map .d=fM (b++[x]):=by
 simp[fM]
theorem DB(x:ay):(aO x).map .d=fM [x]:=by simp[fM]
theorem EI(s:List aa)(f:Nat): ∀l:List D,dw (bE s (f+1)) (l.map .d)=some l
 |[]=>rfl
 |x::l=>by
  rw[bX];have h:=EI s f l;simp only[dw,h];rfl
theorem vR(sz:Nat): ∀(rows:List (List D)),(∀r∈rows,r.length=sz)->chunk sz rows.length rows.flatten=rows
 |[],_=>rfl
 |r::rows,h=>by
  have a:=h r (by simp);rw[aY,chunk,gG,ij a8,dL a8,Dd a8,iM a8,bt,
   vR sz rows λr a=>h r (by simp[a])]
theorem DW{s:List aa}{r e sz n f:Nat}{rows:List (List D)}(h:s[r]?=some (.vec e sz (rows.flatten.map .d)))(h0:0<sz)(b:rows.length=n)(a: ∀r∈rows,r.length=sz):bE s (f+2) (.vec r n sz)=some (.sl sz rows):=by
 subst b;unfold bE;rw[h];simp only;rw[if_pos ⟨trivial,h0,by rw[aM,Go.Ab.flatten_len rows a]⟩,EI,eY,vR sz rows a]
def nN(v:AV)(s:List aa)(b:List ay):Prop:=(v= .nil 172/\b=[])\/ ∃r,v= .vec r b.length 172/\s[r]?=some (.vec 46 172 (fM b))
theorem DV{s:List aa}{r f:Nat}{b:List ay}(h:s[r]?=some (.vec 46 172 (fM b))):bE s (f+2) (.vec r b.length 172)=some (.sl 172 (b.map aO)):=
 DW h a8 (aM ..) λr a=>by obtain⟨x,_,rfl⟩:=bM.1 a;exact bB x
theorem nN.deep{v:AV}{s:List aa}{b:List ay}(h:nN v s b)(f:Nat):bE s (f+2) v=some (.sl 172 (b.map aO)):=by
 rcases h with⟨rfl,rfl⟩|⟨r,rfl,h⟩
 .rfl
 .exact DV h
theorem nN.of{v:AV}{s a:List aa}{b:List ay}(h:nN v s b)(hk: ∀(r e z:Nat) (cs:List AV),s[r]?=some (aa.vec e z cs)->a[r]?=some (aa.vec e z cs)):nN v a b:=by
 rcases h with h|⟨r,h1,h2⟩
 .exact .inl h
 .exact .inr ⟨r,h1,hk _ _ _ _ h2⟩
def nt:CC:=fo [o0 11 (.box (.c (.agg qC))),oN (.st 172 (.t 11) (.t 41))]
def nu:CC:= .block 3 (fo [o0 42 (.ld none (.t 6)),o0 43 (.ld (some 172) (.t 11)),o0 44 (.bsf 172 1 xo [(0,172,(.t 43))]),o0 45 (.app true 46 172 296 (.t 42) (.t 44)),oN (.st 1 (.t 6) (.t 45))])
def oF(i:Nat)(fr:Fr)(own:List ay)(l:List ay)(s:List aa):Prop:= ∃v,s[0]?=some (.cells [v])/\nN v s (own++l)/\s[i]?=some (.loop ⟨.ready,none,fr,[41],61,nt,nu⟩)
theorem oF.app{i:Nat}{fr:Fr}{own l:List ay}{s:List aa}(h:oF i fr own l s)(o:aa):oF i fr own l (s++[o]):=by
 obtain⟨v,a,b,c⟩:=h;exact⟨v,cF a _,b.of λr e z n d=>cF d _,cF c _⟩
theorem oF.set{i:Nat}{fr:Fr}{own l:List ay}{s:List aa}(h:oF i fr own l s){j:Nat}{cs a:List AV}(g:i+1<=j)(hc:s[j]?=some (.cells cs)):oF i fr own l (s.set j (.cells a)):=by
 obtain⟨v,c,d,f⟩:=h;refine⟨v,?_,d.of λr e z n b=> ?_,?_⟩
 .rw[bC a8];exact c
 .rw[bC (by rintro rfl;rw[hc]at b;cases b)];exact b
 .rw[bC a8];exact f
theorem oF.len{i:Nat}{fr:Fr}{own l:List ay}{s:List aa}(h:oF i fr own l s):i+1<=s.length:=by
 obtain⟨v,b,c,a⟩:=h;exact(aV.1 a).1
set_option maxHeartbeats 2000000 in
theorem Rf{i:Nat}{fr:Fr}{own l:List ay}{s:List aa}(hi:0<i)(C:Bb.look fr 6=some (.ptr 0 0))(x:ay)(h:oF i fr own l s)(Q:own.length+l.length<=1000000){K:AV->List aa->Prop}(L: ∀H,oF i fr own (l++[x]) H->j9 (i+1) s H->K (.d (dB true)) H):iQ Tryz.prog i [.d (.agg (aO x))] s K:=by
 have M:=h.len;obtain⟨v,I,J,w⟩:=h;unfold iQ;rw[w];refine⟨rfl,rfl,?_⟩;simp only[nt,nu,putL,oK,xJ];have hne:i≠s.length:=by omega
 repeat' first|refine ab (λ_=> ?_) λ_=> ?_|refine aH ?_|simp only[dt,C,bB,lR,cG,aM,wj,wy,qg,aE,simprocAttr,ax,aD,aB,aw]
 unfold kZ;rw[cF w];refine⟨rfl,?_⟩;have E:s.length<(s++[aa.cells (List.map AV.d (aO x))]).length:=by simp
 have t0:((s++[aa.cells (List.map AV.d (aO x))]).set i (.loop {({st:= .ready,pend:=none,fr:=fr,ps:=[41],N:=61,ca:=nt,cb:=nu}:ku)with st:= .busy}))[0]?=some (.cells [v]):=by
  rw[bC a8];exact cF I _
 have A:((s++[aa.cells (List.map AV.d (aO x))]).set i (.loop {({st:= .ready,pend:=none,fr:=fr,ps:=[41],N:=61,ca:=nt,cb:=nu}:ku)with st:= .busy}))[s.length]?=some (.cells ((aO x).map .d)):=by
  rw[bC hne];simp
 have u:((s++[aa.cells (List.map AV.d (aO x))]).set i (.loop {({st:= .ready,pend:=none,fr:=fr,ps:=[41],N:=61,ca:=nt,cb:=nu}:ku)with st:= .busy}))[i]?=some (.loop ⟨.busy,none,fr,[41],61,nt,nu⟩):=by
  rw[fB,if_pos rfl,if_pos a8]
 have g:nN v ((s++[aa.cells (List.map AV.d (aO x))]).set i (.loop {({st:= .ready,pend:=none,fr:=fr,ps:=[41],N:=61,ca:=nt,cb:=nu}:ku)with st:= .busy})) (own++l):=J.of λr e z n f=>by
  rw[bC (by rintro rfl;rw[w]at f;cases f)];exact cF f _
 have a: ∀j cs,i+1<=j->s[j]?=some (.cells cs)->((s++[aa.cells (List.map AV.d (aO x))]).set i (.loop {({st:= .ready,pend:=none,fr:=fr,ps:=[41],N:=61,ca:=nt,cb:=nu}:ku)with st:= .busy}))[j]?=some (.cells cs):=λj cs y hc=>by
  rw[bC a8];exact cF hc _
 generalize((s++[aa.cells (List.map AV.d (aO x))]).set i (.loop {({st:= .ready,pend:=none,fr:=fr,ps:=[41],N:=61,ca:=nt,cb:=nu}:ku)with st:= .busy}))=T at t0 A u g a⊢;have P:=(aV.1 A).1;have O:=(aV.1 u).1;clear I J w E;have m:(own++l).length=own.length+l.length:=aQ
 have c:own++(l++[x])=own++l++[x]:=(bk _ _ _).symm;obtain⟨b,hb⟩: ∃b,b=own++l:=⟨_,rfl⟩
 rw[<-hb]at g m c;rcases g with⟨rfl,F⟩|⟨r,rfl,f⟩
 .have p:bw 1 296=true:=by decide
  have t0J:=cF t0
  repeat' first|refine ab (λ_=> ?_) λ_=> ?_|refine aH ?_|simp only[dt,C,t0,t0J,A,p,bB,lR,cG,aM,gG,List.flatten_nil,bq,wj,wy,qg,aE,simprocAttr,ax,aD,aB,aw]
  rw[DB x];unfold mh;have B:((T++[aa.vec 46 172 (fM [x])]).set 0 (aa.cells [AV.vec T.length 1 172]))[i]?=some (.loop ⟨.busy,none,fr,[41],61,nt,nu⟩):=by
   rw[bC a8];exact cF u _
  rw[B];refine L _ ⟨.vec T.length 1 172,?_,?_,?_⟩ λj cs y hc=> ?_
  .rw[bC a8,fB,if_pos rfl,if_pos (by simp)]
  .rw[c,F];refine .inr ⟨T.length,by simp,?_⟩;rw[bC a8,bC a8];simp
  .rw[fB,if_pos rfl,if_pos (by simp;omega)]
  .rw[bC a8,bC a8];exact cF (a j cs y hc) _
 .have p:bw (b.length+1) 296=true:=room_le a8 a8;have q:0≠r:=by rintro rfl;rw[t0]at f;cases f
  have t0s: ∀o,(T.set r o)[0]?=some (.cells [.vec r b.length 172]):=λo=>by rw[bC (Ne.symm q)];exact t0
  have D:=uc b
  repeat' first|refine ab (λ_=> ?_) λ_=> ?_|refine aH ?_|simp only[dt,C,t0,t0s,A,p,f,D,bB,lR,cG,aM,gG,List.flatten_nil,bq,Q2,wj,wy,qg,aE,simprocAttr,ax,aD,aB,aw]
  unfold mh;have t:r≠i:=by rintro rfl;rw[u]at f;cases f
  have G:=(aV.1 f).1;have B:((T.set r (aa.vec 46 172 (fM (b++[x])))).set 0 (aa.cells [AV.vec r (b.length+1) 172]))[i]?=some (.loop ⟨.busy,none,fr,[41],61,nt,nu⟩):=by
   rw[bC a8,bC t];exact u
  rw[B];refine L _ ⟨.vec r (b.length+1) 172,?_,?_,?_⟩ λj cs y hc=> ?_
  .rw[bC a8,fB,if_pos rfl,if_pos (by simp;omega)]
  .rw[c];refine .inr ⟨r,by simp,?_⟩;rw[bC (Ne.symm t),bC q,fB,if_pos rfl,if_pos G]
  .rw[fB,if_pos rfl,if_pos (by simp;omega)]
  .have k:=a j cs y hc;rw[bC a8,bC a8,bC (by rintro rfl;rw[f]at k;cases k)];exact k
theorem IP{fr:Fr}{s:List aa}{v:AV}{own:List ay}{x:az}(q:Bb.look fr 6=some (.ptr 0 0))(a:s[0]?=some (.cells [v]))(f:nN v s own)(B:1<=x.kind)(C:x.kind<=7)(w:own.length<=100000)(g:x.lines.length<=2000):
  mc (dH Tryz.prog) Tryz.prog (.clo 292 [] [.d (.ref [dI own.length]),.d (.ref (aR x))]) [.yld s.length] (s++[.loop ⟨.ready,none,fr,[41],61,nt,nu⟩]) λ_ b=> ∃c,(b[0]?=some (.cells [c])/\nN c b (own++fK x own.length))/\b[s.length]?=some (.loop ⟨.ready,none,fr,[41],61,nt,nu⟩):=by
 have hi:0<s.length:=(aV.1 a).1;refine mc.fn (bs.mono (UH x own.length s.length (s.length+1) (oF s.length fr own) B C a8 g (λl s o h=>h.app o) (λl s j cs i h u hc=>h.set u hc) (λl s h=>h.len) (λl y s K h g t=>Rf hi q y h a8 t) _ ⟨v,cF a _,?_,by simp⟩) ?_)
 .rw[bq];exact f.of λr e z n A=>cF A _
 .rintro d b ⟨_,c,k,m,p⟩;exact⟨c,⟨k,m⟩,p⟩
theorem Td(c:az)(n:Nat): ∀(i:Nat) (a:ay),(fK c n)[i]?=some a->a.id=eM ((n+i:Nat):Int):=by
 intro i a h;unfold fK at h
 repeat' split at h
 all_goals first
  |(
   match i,h with
   |0,h=>simp at h;subst h;simp
   |i+1,h=>simp at h)
  |skip
 by_cases hi:i<c.lines.length
 .rw[fP (by simpa using hi),List.getElem?_mapIdx]at h;obtain⟨s,e,rfl⟩:=dy.1 h;show eM (n+i)=_;unfold eM;congr 1
 .rw[iY (by simpa using Nat.le_of_not_lt hi),List.length_mapIdx,dj]at h;obtain⟨j,d,rfl⟩:=dy.1 h;have b:=(aV.1 d).1;rw[dX]at b;rw[qK b]at d;cases d;show eM ((n:Int)+(c.lines.length:Int)+((i-c.lines.length:Nat):Int))=_;unfold eM;congr 1;omega
theorem sd.app{own:List ay}(h:sd own)(c:az):sd (own++fK c own.length):=λi a ha=>by
 by_cases hi:i<own.length
 .rw[fP hi]at ha;exact h i a ha
 .rw[iY a8]at ha;rw[Td c _ _ a ha];congr 2;omega
theorem EH{c:az}{n:Nat}(h:c.lines.length<=1000):(fK c n).length<=2001:=by
 unfold fK
 repeat' split
 all_goals(try simp)
 omega
def dp(p:aU):List ay:=if(cQ p).2≠0 then[]else(dN p).1
def qc(p:aU):Int:=if isName p.author=false then 5 else if 1000<(p.message.size:Int)then 4 else if p.time<0\/1099511627776<p.time then 2 else if iz p.deps≠0 then iz p.deps else if(p.changes.length:Int)=0 then 1 else if 400<(p.changes.length:Int)then 4 else 0
theorem HM(p:aU):dN p=if qc p≠0 then([],qc p)else eH p.changes []:=by
 unfold dN qc
 repeat' split
 all_goals first|rfl|omega|(simp_all;done)
theorem Ij: ∀{l:List Dg} {q:Option Dg},jy q l=0-> ∀d∈l,isZero d=false
 |[],_,_,d,a=>by cases a
 |x::l,q,h,d,a=>by
  rw[jy]at h;split at h
  .cases h
  rename_i b;split at h
  .cases h
  rcases bF.1 a with rfl|a
  .simpa using b
  .exact Ij h d a
structure db(p:aU):Prop where
 chg:p.changes.length<=40
 line: ∀c∈p.changes,c.lines.length<=1000/\c.over.length<=100000
set_option maxHeartbeats 4000000 in
theorem KZ(p:aU)(hp:bS p)(hN:db p):bs Tryz.prog 163 [.d (.agg (br p))] [] λd Z=> ∃v,d= .tup [v,.d (dS (cQ p).1),.d (dI (cQ p).2)]/\nN v Z (dp p):=by
 have L:=UG p hp.z (by have:=hN.chg;omega);change aI _ _ _ (dI (qc p))at L;refine xz Tryz.f163 ?_ [100001,100044,45] [[6,22,4,3,2,1,20,21],[40,21,20,1,2,3,4,22,6]];refine AC.cutJ [1] [(1,.d (.ref (br p)))] (λs=>s=[]) ?_ λs O=> ?_
 .exact bL trivial trivial
 subst O;refine AC.cutJ [1] [(1,.d (.ref (br p)))] (λs=>s=[]/\qc p=0) ?_ λs O=> ?_
 .by_cases h:qc p=0
  .rw[h]at L;refine aC trivial @L ?_
   all_goals exact h
  .have S:(qc p !=0)=true:=by simpa using h
   have M:(dN p).2=qc p:=by rw[HM,if_pos h]
   have e3:dp p=[]:=by unfold dp cQ;rw[if_pos];rw[M,if_pos h];exact h
   have e4:cQ p=(⟨#[]⟩,qc p):=by unfold cQ;rw[M,if_pos h]
   rw[e3,e4];refine aC @S @L ?_
   all_goals exact⟨_,rfl,.inl ⟨rfl,rfl⟩⟩
 obtain⟨rfl,h0⟩:=O;have A:dN p=eH p.changes []:=by rw[HM,h0,if_neg (by simp)]
 refine AC.cutJ [1,6] [(1,.d (.ref (br p))),(6,.ptr 0 0)] (λs=>s=[.cells [.nil 172]]) ?_ λs O=> ?_
 .exact bL trivial trivial
 subst O;have l: ∀e,eH p.changes []=([],e)->e≠0->dp p=[]/\cQ p=(⟨#[]⟩,e):=λe h he=>by
  have I:(dN p).2=e:=by rw[A,h]
  have h3:cQ p=(⟨#[]⟩,e):=by unfold cQ;rw[I,if_pos he]
  exact⟨by unfold dp;rw[h3,if_pos he],h3⟩
 have a1:=hN.chg;have hz:=hp.z.chg;refine AC.cutJ [1,6] [(1,.d (.ref (br p))),(6,.ptr 0 0)] (λs=> ∃v,s[0]?=some (.cells [v])/\nN v s (dN p).1/\(dN p).2=0) ?_ λs O=> ?_
 .refine aC trivial trivial ?_
  refine aZ.overI p.changes (λk (b:List ay×List aa)=>[(22,iN k)]) (λ_ b=>b.2) (λr b=>eH r b.1) (eH p.changes []) (λk b=>(∃v,b.2[0]?=some (.cells [v])/\nN v b.2 b.1)/\b.1.length<=2001*k/\sd b.1) ([],[.cells [.nil 172]]) a8 aA aA rfl rfl ⟨⟨_,rfl,.inl ⟨rfl,rfl⟩⟩,by simp,λi a h=>by simp at h⟩ (λk b x hg hk t P o hJ=> ?_) (λb t o hJ=> ?_)
  .obtain⟨own,s⟩:=b;obtain⟨⟨v,j,g⟩,G,u⟩:=hJ;dsimp only at o j g G u;have Y:=bR hg;obtain⟨X,a0⟩:=hN.line x Y;have Q:=Uz x (hz x Y).s.name;have w:=cF j;rw[eH]at o;by_cases T:fm x=0
   .rw[if_neg (by simpa using T)]at o;rw[T]at Q;obtain⟨⟨k1,k7⟩,B,_⟩:=nY T;have R:=UA x own a0 a8;rw[Ye a8 u k1 k7 (λh=>by
     rw[<-xf x k1 k7]at B;simp only[lX,dW,jF,decide_eq_true_eq]at B;obtain⟨-,-,-,-,-,-,-,a3⟩:=B;exact gV a8)]at R
    by_cases m:iG x own=0
    .rw[if_neg (by simpa using m)]at o;rw[m]at R;have F:=λs=>UI x own.length s;clear l A L h0;rcases id g with⟨rfl,rfl⟩|⟨r,rfl,hrv⟩
     .repeat' first|refine ab (λ_=> ?_) λ_=> ?_|refine aH ?_|refine af.data (Q) rfl ?_|refine af.data (R) rfl ?_|(refine af.fn ((F _).mono ?_);rintro _ Z ⟨rfl,rfl⟩)|simp only[t,P,hg,j,w,bne_self_eq_false,gF,dV,aM,wj,wy,qg,aE,simprocAttr,ax,aD,aB,aw]
      refine⟨trivial,_,_,_,rfl,(IP (x:=x) rfl (w _) (g.of λr e z n m=>cF m _) k1 k7 a8 a8).mono ?_⟩;rintro _ Z ⟨v',⟨H,C⟩,D⟩;unfold mZ;rw[D];refine⟨by simp,?_⟩;have E:=D;rw[aQ,oJ]at E;refine aC (ga @t (ga @P @wj)) trivial ?_;refine⟨(_,_),rfl,o,⟨v',?_,C.of λr e z n m=> ?_⟩,?_,u.app x⟩
      .dsimp only;rw[bC a8];exact H
      .rw[bC (by rintro rfl;rw[E]at m;cases m)];exact m
      .have K:=λn=>EH (c:=x) (n:=n) X;dsimp only;rw[aQ];exact ez (Nat.add_le_add G (K _)) a8
     .have N: ∀J:List aa,dw (bE (s++J) 5) ([]++[.d (.agg (aR x)),.vec r own.length 172]++[])=some [.agg (aR x),.sl 172 (own.map aO)]:=λJ=>by
       simp only[bt,bq,dw,DV (f:=3) (cF hrv J)];rfl
      repeat' first|refine ab (λ_=> ?_) λ_=> ?_|refine aH ?_|refine af.data (Q) rfl ?_|(refine af.reads R (N _) rfl ?_)|(refine af.fn ((F _).mono ?_);rintro _ Z ⟨rfl,rfl⟩)|simp only[t,P,hg,j,w,bne_self_eq_false,gF,dV,aM,wj,wy,qg,aE,simprocAttr,ax,aD,aB,aw]
      refine⟨trivial,_,_,_,rfl,(IP (x:=x) rfl (w _) (g.of λr e z n m=>cF m _) k1 k7 a8 a8).mono ?_⟩;rintro _ Z ⟨v',⟨H,C⟩,D⟩;unfold mZ;rw[D];refine⟨by simp,?_⟩;have E:=D;rw[aQ,oJ]at E;refine aC (ga @t (ga @P @wj)) trivial ?_;refine⟨(_,_),rfl,o,⟨v',?_,C.of λr e z n m=> ?_⟩,?_,u.app x⟩
      .dsimp only;rw[bC a8];exact H
      .rw[bC (by rintro rfl;rw[E]at m;cases m)];exact m
      .have K:=λn=>EH (c:=x) (n:=n) X;dsimp only;rw[aQ];exact ez (Nat.add_le_add G (K _)) a8
    .rw[if_pos (by simpa using m)]at o;have M:(iG x own !=0)=true:=by simpa using m
     obtain⟨U,I⟩:=l _ o m;rw[U,I];clear l o A U I L h0;rcases g with⟨rfl,rfl⟩|⟨r,rfl,hrv⟩
     .refine aC (ga @t (ga @P (ga @hg (ga @M (ga @j (ga @w (ga @gF (ga @dV @wj)))))))) (ga @Q @R) ?_
      all_goals exact⟨_,rfl,.inl ⟨rfl,rfl⟩⟩
     .have N: ∀J:List aa,dw (bE (s++J) 5) ([]++[.d (.agg (aR x)),.vec r own.length 172]++[])=some [.agg (aR x),.sl 172 (own.map aO)]:=λJ=>by
       simp only[bt,bq,dw,DV (f:=3) (cF hrv J)];rfl
      repeat' first|refine ab (λ_=> ?_) λ_=> ?_|refine aH ?_|refine af.data (Q) rfl ?_|(refine af.reads R (N _) rfl ?_)|simp only[t,P,hg,M,j,w,bne_self_eq_false,gF,dV,aM,wj,wy,qg,aE,simprocAttr,ax,aD,aB,aw]
      all_goals exact⟨_,rfl,.inl ⟨rfl,rfl⟩⟩
   .rw[if_pos (by simpa using T)]at o;have M:(fm x !=0)=true:=by simpa using T
    obtain⟨U,I⟩:=l _ o T;rw[U,I];clear l o A U I L h0;refine aC (ga @t (ga @P (ga @hg (ga @M (ga @gF (ga @dV @wj)))))) @Q ?_
    all_goals exact⟨_,rfl,.inl ⟨rfl,rfl⟩⟩
  .obtain⟨own,s⟩:=b;obtain⟨⟨v,j,g⟩,G,u⟩:=hJ;dsimp only at o j g G u;rw[eH]at o;have I:dN p=(own,0):=by rw[A,o]
   clear l;rw[I];refine aC @t trivial ?_
   all_goals exact⟨v,j,g⟩
 obtain⟨v,j,g,V⟩:=O;have cE:=UE Sy p (hp.enc V) (by
  refine Ij (q:=none) ?_;have t:iz p.deps=0:=by
   unfold qc at h0
   repeat' split at h0
   all_goals first|omega|(simp_all;done)
  unfold iz at t;split at t
  .omega
  .exact t)
 clear l L;have y:cQ p=oX p:=by unfold cQ;rw[if_neg (by simpa using V)]
 rw[y];refine bG ?_;by_cases W:65536<(jM (jQ p)).size
 .have S:decide (((jM (jQ p)).size:Int)>65536)=true:=by simp;omega
  have K:oX p=(⟨#[]⟩,4):=by unfold oX;rw[if_pos W]
  have h6:dp p=[]:=by unfold dp;rw[y,K];rfl
  rw[K,h6];refine aC @S @cE ?_
  all_goals exact⟨_,rfl,.inl ⟨rfl,rfl⟩⟩
 .have S:decide (((jM (jQ p)).size:Int)>65536)=false:=by simp;omega
  have K:oX p=(jM (jQ p),0):=by unfold oX;rw[if_neg W]
  have h6:dp p=(dN p).1:=by unfold dp;rw[y,K];rfl
  rw[K,h6];rcases id g with⟨rfl,a2⟩|⟨r,rfl,hrv⟩
  .refine aC (ga @S @j) @cE ?_
   all_goals exact⟨_,rfl,g⟩
  .refine aC (ga @S @j) @cE ?_
   all_goals exact⟨_,rfl,g⟩
theorem F3(p:aU)(hp:bS p)(a:db p):aI Tryz.prog 163 [.agg (br p)] (.tup [.sl 172 ((dp p).map aO),dS (cQ p).1,dI (cQ p).2]):=by
 obtain⟨d,e,c,v,rfl,hg⟩:=KZ p hp a;refine aI.of_runs c ?_;have b:=hg.deep 2;simp only[bE,dw,b];rfl
theorem KX(p:aU)(hp:bS p)(b:db p):aI Tryz.prog 94 [.agg (br p)] (dI (gj p)):=by
 have a:=F3 p hp b;refine aL Tryz.f94 ?_ [100001];refine aC trivial @a ?_
 all_goals rfl
theorem F1(p:aU)(hp:bS p)(b:db p):aI Tryz.prog 179 [.agg (br p)] (.tup [dS (cQ p).1,dI (cQ p).2]):=by
 have a:=F3 p hp b;refine aL Tryz.f179 ?_ [100001];exact bL trivial @a
theorem Uy(p:aU)(hp:bS p)(b:db p):aI Tryz.prog 162 [.agg (br p)] (dI (dp p).length):=by
 have a:=F3 p hp b;refine aL Tryz.f162 ?_ [100001];exact bL trivial @a
theorem EL: ∀(l:List Dg) (x:Dg),x∈dJ l↔x∈l
 |[],x=>by simp[dJ]
 |[a],x=>by simp[dJ]
 |a::b::r,x=>by
  rw[dJ];have c:=EL (b::r) x;by_cases h:a=b
  .subst h;rw[if_pos rfl,c];simp
  .rw[if_neg h,bF,c];simp
theorem HY: ∀{l:List Dg},l.Pairwise (λa b=>fp a b=true)->bT (dJ l)
 |[],_=>List.Pairwise.nil
 |[a],_=>List.pairwise_singleton _ _
 |a::b::r,h=>by
  rw[dJ];have g:=gX.1 h;have i:=HY g.2;by_cases e:a=b
  .rw[if_pos e];exact i
  .rw[if_neg e];refine gX.2 ⟨λx f=> ?_,i⟩;rw[EL]at f;have c:bY a b<0:=by
    have:=g.1 b (by simp);simp only[fp,decide_eq_true_eq]at this;rcases Int.lt_or_eq_of_le this with h|h
    .exact h
    .exact absurd ((k8 a b).1 h) e
   rcases bF.1 f with rfl|f
   .exact c
   .have d:=(gX.1 g.2).1 x f;simp only[fp,decide_eq_true_eq]at d;rcases Int.lt_or_eq_of_le d with h|h
    .exact nk c h
    .rw[<-(k8 b x).1 h];exact c
theorem MY(l:List Dg):(l.mergeSort fp).Pairwise (λa b=>fp a b=true):=by
 refine List.pairwise_mergeSort (λa b c d e=> ?_) (λa b=> ?_) l
 .simp only[fp,decide_eq_true_eq]at*;rcases Int.lt_or_eq_of_le d with h|h
  .rcases Int.lt_or_eq_of_le e with h'|h'
   .exact Int.le_of_lt (nk h h')
   .rw[<-(k8 b c).1 h'];exact d
  .rw[(k8 a b).1 h];exact e
 .simp only[fp,jF,decide_eq_true_eq];have:=w8 a b;omega
def ry(c:az):List Dg:=((fR c).filter λr=> !isZero r.1.p).map (·.1.p)
def BV(p:aU):List Dg:=p.deps++p.changes.flatMap ry
theorem Ks{p:aU}(h:gj p=0):dJ ((BV p).mergeSort fp)=bu p:=by
 refine Ge (HY (MY _)) (Tn p) λx=> ?_;rw[EL,List.mem_mergeSort];unfold bu;rw[if_neg (by simpa using h),(BO p.changes _ (rQ p.deps [] bT.nil).1).2 x,(rQ p.deps [] bT.nil).2 x];unfold BV;rw[fk,vu];have e:=(jx (vQ h)).2.2.1
 have hc: ∀c∈p.changes,(x∈ry c↔ ∃y∈iV c,isZero y.p=false/\y.p=x):=λc hc=>by
  rw[<-Yb (e c hc) x];unfold ry Cg;simp only[bM,na];constructor
  .rintro⟨r,⟨b,d⟩,rfl⟩;exact⟨r.1,⟨r,b,rfl⟩,by simpa using d,rfl⟩
  .rintro⟨y,⟨r,b,rfl⟩,d,rfl⟩;exact⟨r,⟨b,by simpa using d⟩,rfl⟩
 constructor
 .rintro(h|⟨c,a,h⟩)
  .exact .inr (.inl h)
  .exact .inl ⟨c,a,(hc c a).1 h⟩
 .rintro(⟨c,a,h⟩|h|h)
  .exact .inr ⟨c,a,(hc c a).2 h⟩
  .exact .inl h
  .cases h
theorem G9(n:Nat)(ds:List D):gu n (ds.map .d)=ds.map .d:=by
 rw[mR,ll];rfl
theorem YW(n:Nat)(c:az)(t:Nat):(nW c t).shift n=nW c t:=by
 have h:gu n (pV c t)=pV c t:=by unfold pV;split<;>rfl
 show AV.clo (fT t) (gu n []) (gu n (pV c t))= .clo (fT t) [] (pV c t);rw[h];rfl
theorem MM(n:Nat)(c:az): ∀l:List (ak×Nat),gu n (rowsC c l)=rowsC c l
 |[]=>rfl
 |p::l=>by
  have a:=MM n c l;show gu n (di p.1 (nW c p.2)++rowsC c l)=di p.1 (nW c p.2)++rowsC c l;rw[mR,fF,<-mR,<-mR,a];congr 1;unfold di;rw[mR,fF,<-mR,G9];show _++[(nW c p.2).shift n]=_;rw[YW]
theorem Yi(c:az)(g:c.over.length<=100000)(s:List aa):bs Tryz.prog 263 [.d (.agg (aR c))] s λd b=> ∃J,b=s++J/\((d= .nil 34/\fR c=[])\/ ∃r,d= .vec r (fR c).length 34/\b[r]?=some (.vec 287 34 (rowsC c (fR c)))):=by
 obtain⟨d,b,a,J,rfl,e⟩:=L6 c g;refine⟨_,_,a.frame (xs:=[.d (.agg (aR c))]) rfl s,_,rfl,?_⟩;rcases e.rowsC with⟨rfl,f⟩|⟨r,rfl,hr⟩
 .exact .inl ⟨rfl,f⟩
 .refine .inr ⟨s.length+(r+1),rfl,?_⟩;rw[iY a8,nQ,bX,List.getElem?_cons_succ,dj,hr];show some (aa.vec 287 34 (gu s.length _))=_;rw[MM]
def pD(v:AV)(s:List aa)(b:List Dg):Prop:=(v= .emp 32/\b=[])\/(b≠[]/\ ∃r,v= .vec r b.length 32/\s[r]?=some (.vec 30 32 (dx b)))
theorem pD.of{v:AV}{s a:List aa}{b:List Dg}(h:pD v s b)(hk: ∀(r:Nat) (ds:List AV),s[r]?=some (.vec 30 32 ds)->a[r]?=some (.vec 30 32 ds)):pD v a b:=by
 rcases h with h|⟨h0,r,h1,h2⟩
 .exact .inl h
 .exact .inr ⟨h0,r,h1,hk _ _ h2⟩
theorem Qn(l:List Dg)(b:l.length<=1000000)(s:List aa):bs Tryz.prog 262 [.d (.sl 32 (l.map au))] s λd a=>(∃J,a=s++J)/\pD d a l:=by
 cases l with
 |nil=>
  refine(Ql 32 s).mono ?_;rintro d a ⟨rfl,rfl⟩;exact⟨⟨[],by simp⟩,.inl ⟨rfl,rfl⟩⟩
 |cons x l=>
  refine(Qm x l (by simp at b;omega) s).mono ?_;rintro d a ⟨rfl,rfl⟩;exact⟨⟨_,rfl⟩,.inr ⟨by simp,s.length,rfl,by simp⟩⟩
theorem Qz(s:List aa):bs Tryz.prog 265 [.emp 32] s λd b=>bE b 5 d=some (.sl 32 []):=by
 refine cz Tryz.f265 ?_ [] [[0,3],[5,3,4,0]];have a:decide ((0:Int)<2)=true:=by decide
 exact bL (ga @a @wj) trivial
theorem Z9(v:AV)(s:List aa)(b:List Dg)(h:pD v s b)(f:b.length<=1000000):bs Tryz.prog 264 [v,.clo 183 [] []] s λd c=>d=vT/\pD v c (b.mergeSort fp):=by
 rcases h with⟨rfl,rfl⟩|⟨h0,r,rfl,h2⟩
 .refine(Z3 _ s).mono ?_;rintro d c ⟨rfl,rfl⟩;exact⟨rfl,.inl ⟨rfl,by simp⟩⟩
 .refine(MU h2 h0 f).mono ?_;rintro d c ⟨rfl,rfl⟩;have g:=(aV.1 h2).1;have a:(b.mergeSort fp).length=b.length:=lj _;refine⟨rfl,.inr ⟨λe=>h0 (by rw[e]at a;exact gV a.symm),r,by rw[a],?_⟩⟩;rw[fB,if_pos rfl,if_pos g]
theorem QC(v:AV)(s:List aa)(b:List Dg)(h:pD v s b)(a:b.length<=1000000):bs Tryz.prog 265 [v] s λd c=>bE c 5 d=some (.sl 32 ((dJ b).map au)):=by
 rcases h with⟨rfl,rfl⟩|⟨h0,r,rfl,h2⟩
 .exact Qz s
 .exact QA h2 a
def wI(l:List (ak×Nat)):List Dg:=(l.filter λr=> !isZero r.1.p).map (·.1.p)
theorem Uk(y:ak)(t:Nat)(l:List (ak×Nat)):wI ((y,t)::l)=if isZero y.p=true then wI l else y.p::wI l:=by
 unfold wI;by_cases h:isZero y.p=true
 .rw[if_pos h];simp[h]
 .rw[if_neg h];simp[h]
theorem Mb(x:ak)(a:AV):(di x a).take 32=(au x.p).map .d:=by
 unfold di;rw[ij (by rw[aM,aN];omega),<-List.map_take,ph]
theorem J8(d:Dg):[au d].flatten=au d:=by simp
theorem jC(P:Program)(d:AV): ∀(l:List CO) (K:Fr->List aa->List Nat->Prop) (a:List Nat) (fr:Fr) (s:List aa) (m t:Nat),dO P l K a fr (some t) m s d=cW P l K (m::a) ((t,d)::fr) s:=λl K a fr s m t=>OC P l K a fr s m t d
set_option maxHeartbeats 4000000 in
theorem F2(p:aU)(hp:bS p)(Y:db p):aI Tryz.prog 185 [.agg (br p)] (.sl 32 ((bu p).map au)):=by
 have V:=KX p hp Y;by_cases h:gj p=0
 .rw[<-Ks h];rw[h]at V;obtain⟨a6,z,a0,_⟩:=jx (vQ h);have a5:=Y.chg;refine Oc ?_;refine xz Tryz.f185 ?_ [100001,100036,37] [[17,3,15,16],[24,3,22,17,15,16,23]];refine AC.cutJ [1] [(1,.d (.ref (br p)))] (λs=>s=[]) ?_ λs S=> ?_
  .exact bL trivial trivial
  subst S;refine AC.cutJ [1] [(1,.d (.ref (br p)))] (λs=>s=[]) ?_ λs S=> ?_
  .exact bL trivial @V
  subst S;refine bG ?_;have C:=Qn p.deps a8
  repeat' first|refine ab (λ_=> ?_) λ_=> ?_|refine aH ?_|(refine af.fn ((C _).mono ?_);rintro d s0 ⟨-,O⟩)|simp only[wj,wy,qg,aE,simprocAttr,ax,aD,aB,aw]
  have hP:=jC Tryz.prog d;refine aC (ga @hP @wj) trivial ?_;obtain⟨R,L⟩: ∃R,R=BV p:=⟨_,rfl⟩
  rw[<-L];refine aZ.overI p.changes (λk (b:List Dg×AV×List aa)=>[(17,iN k),(3,b.2.1)]) (λ_ b=>b.2.2) (λr b=>b.1++r.flatMap ry) R (λk b=>pD b.2.1 b.2.2 b.1/\b.1.length<=100+404*k) (p.deps,d,s0) a8 aA aA rfl L ⟨O,by dsimp only;omega⟩ (λk b x hg hk hd hw u c=> ?_) (λb hd u c=> ?_)
  .obtain⟨o,v,s⟩:=b;obtain⟨c,F⟩:=c;dsimp only at u c F;have T:=bR hg;have a3:=(Y.line x T).2;have a7:=ym (a0 x T);have i:=jC Tryz.prog v;have a2:=Yi x a3;have a9:=FM x;clear O C V
   repeat' first|refine ab (λ_=> ?_) λ_=> ?_|refine aH ?_|(refine af.fn ((a2 _).mono ?_);rintro e I ⟨J,rfl,N⟩)|simp only[hd,hw,hg,i,gF,dV,aM,wj,wy,qg,aE,simprocAttr,ax,aD,aB,aw]
   rw[jt,<-bk]at u;have n:pD v (s++[aa.cells (List.map AV.d (aR x))]++J) o:=c.of λr ds Q=>cF (cF Q _) _;simp only[bk,gb,bt]at N n;generalize s++aa.cells (List.map AV.d (aR x))::J=s1 at N n⊢;clear c;rcases N with⟨rfl,hn⟩|⟨r,rfl,Q⟩
   .refine aC (ga @i @wj) trivial ?_;refine aZ.overI ([]:List Nat) (λk (b:Unit)=>[(24,iN k)]) (λ_ _=>s1) (λ_ _=>()) () (λ_ _=>True) () (by simp) aA aA rfl rfl trivial (λk b x hg=>by cases hg) (λb m a _=> ?_);have P:ry x=[]:=by unfold ry;rw[hn];rfl
    rw[P,bq]at u;refine aC (ga @i (ga @hw @wj)) trivial ?_;exact⟨(o,v,s1),rfl,rfl,u,n,by dsimp only;omega⟩
   .refine aC (ga @i @wj) trivial ?_;have z:=FV x (fR x);obtain⟨g,hcells⟩: ∃g,g=rowsC x (fR x):=⟨_,rfl⟩
    rw[<-hcells]at Q z;refine aZ.overI (fR x) (λj (b:List Dg×AV×List aa)=>[(24,iN j),(3,b.2.1)]) (λ_ b=>b.2.2) (λq b=>b.1++wI q) (o++ry x) (λj b=>(pD b.2.1 b.2.2 b.1/\b.1.length<=100+404*k+j)/\b.2.2[r]?=some (.vec 287 34 g)) (o,v,s1) a8 aA aA rfl rfl ⟨⟨n,by dsimp only;omega⟩,Q⟩ (λj b y hg D m H a c=> ?_) (λb m a c=> ?_)
    .obtain⟨o',U,I⟩:=b;obtain⟨⟨c,A⟩,f⟩:=c;dsimp only at a c A f;have l:=jC Tryz.prog U;have w:=FU x (fR x) j y hg;rw[<-hcells]at w;have B:=cF f;have E:j*34+34<=(fR x).length*34:=by omega
     obtain⟨y,t⟩:=y;have K:=BY y;dsimp only at w;rw[Uk]at a;clear n Q u hg;by_cases W:isZero y.p=true
     .rw[W]at K;rw[if_pos W]at a
      repeat' first|refine ab (λ_=> ?_) λ_=> ?_|refine aH ?_|refine af.data (K) rfl ?_|simp only[l,m,H,D,f,B,z,w,E,qq,jm,fv,qt,jk,jl,fY,wj,wy,qg,aE,simprocAttr,ax,aD,aB,aw]
      exact⟨(o',U,_),rfl,rfl,a,⟨c.of λr ds h=>cF h _,by dsimp only;omega⟩,B _⟩
     .rw[show isZero y.p=false by simpa using W]at K;rw[if_neg W]at a;rcases c with⟨rfl,rfl⟩|⟨P,r3,rfl,hr3⟩
      .have G:bw 1 32=true:=by decide
       repeat' first|refine ab (λ_=> ?_) λ_=> ?_|refine aH ?_|refine af.data (K) rfl ?_|simp only[m,H,D,f,B,z,w,E,G,J8,wS,b9,aM,Mb,qq,jm,fv,qt,jk,jl,fY,wj,wy,qg,aE,simprocAttr,ax,aD,aB,aw]
       refine⟨([y.p],_,_),rfl,rfl,by simpa using a,⟨.inr ⟨by simp,I.length+1,rfl,?_⟩,by simp;omega⟩,?_⟩
       .rw[vL];simp
       .exact cF f _
      .have G:bw (o'.length+1) 32=true:=room_le a8 a8;have a1:=cF hr3;have M:=mr o'
       repeat' first|refine ab (λ_=> ?_) λ_=> ?_|refine aH ?_|refine af.data (K) rfl ?_|simp only[l,m,H,D,f,B,hr3,a1,z,M,w,E,G,J8,wS,b9,aM,Mb,qq,jm,fv,qt,jk,jl,fY,wj,wy,qg,aE,simprocAttr,ax,aD,aB,aw]
       have hne:r3≠r:=by rintro rfl;rw[hr3]at f;cases f
       have a4:=(aV.1 hr3).1;refine⟨(o'++[y.p],.vec r3 (o'.length+1) 32,_),rfl,rfl,by simpa using a,⟨.inr ⟨by simp,r3,by simp,?_⟩,by simp;omega⟩,?_⟩
       .rw[fB,if_pos rfl,if_pos (by simp;omega),vK,vL]
       .rw[bC hne];exact B _
    .obtain⟨o',U,I⟩:=b;obtain⟨⟨c,A⟩,f⟩:=c;dsimp only at a c A f;have l:=jC Tryz.prog U;have e0:wI []=[]:=rfl;rw[e0,bq]at a;rw[a]at u;refine aC (ga @l (ga @m (ga @hw @wj))) trivial ?_;exact⟨(o',U,I),rfl,rfl,u,c,by dsimp only;omega⟩
  .obtain⟨o,v,s⟩:=b;obtain⟨c,F⟩:=c;dsimp only at u c F;rw[vq,bq]at u;subst u;have i:=jC Tryz.prog v;have S:=Z9 v s R c a8
   repeat' first|refine ab (λ_=> ?_) λ_=> ?_|refine aH ?_|(refine af.fn (S.mono ?_);rintro _ I ⟨rfl,X⟩)|simp only[i,hd,wj,wy,qg,aE,simprocAttr,ax,aD,aB,aw]
   have hc:=QC v I _ X (by rw[lj];omega)
   repeat' first|refine ab (λ_=> ?_) λ_=> ?_|refine aH ?_|(refine af.fn (hc.mono ?_);intro e b0 N)|simp only[i,wj,wy,qg,aE,simprocAttr,ax,aD,aB,aw]
   have Z:=jC Tryz.prog e;refine aC (ga @Z @wj) trivial ?_
   all_goals exact N
 .have e1:(gj p !=0)=true:=by simpa using h
  have e2:bu p=[]:=by unfold bu;rw[if_pos h]
  rw[e2];refine aL Tryz.f185 ?_ [100001,100036,37] [[17,3,15,16],[24,3,22,17,15,16,23]];exact bL @e1 @V
end Go.Proofs.Q
