/- Part of a proof. -/
import Derived.Test.YtfoljakejdgfcaaGreatDoorZT
import Derived.Test.YtfoljakejdgfcaaGreatDoorPBL
set_option linter.unusedVariables false
set_option linter.unusedSimpArgs false
namespace Go.Proofs.Q
open Go Go.Bb Go.RowKit Go.Proofs.Lg
open Go.Ab (D RD)
def qc(l:List aZ)(r:Int):Int:=if km l≠0 then km l else r
theorem Q4(x:aZ)(l:List aZ)(r:Int):qc (x::l) r=if kj x then qc l r else 3:=by
 unfold qc;rw[km];by_cases h:kj x=true
 ·simp[h]
 ·simp[h]
theorem Q5(r:Int):qc [] r=r:=by simp[qc,km]
def tX(c:af):Int:=if c.kind=7∧(c.over.length:Int)=0 then 1 else if 400<(c.over.length:Int)then 4 else if iR c.over=false then 9 else 0
theorem OT(c:af):ya c=if c.kind<1∨7<c.kind then 8
 else if mK c=false then 1
 else if c.kind=1∧(c.type<1∨4<c.type)then 8
 else if c.kind=2∧isName c.name=false then 5
 else if c.mode<0∨511<c.mode then 2
 else if 65536<(c.data.size:Int)then 4
 else if c.kind=5∧(c.lines.length:Int)=0 then 1
 else if 2000<(c.lines.length:Int)then 4
 else qc c.lines (tX c):=rfl
set_option maxRecDepth 20000 in
set_option maxHeartbeats 4000000 in
theorem Ug(c:af)(A:c.name.size≤9223372036854775807):aE Tryz.prog 131 [.agg (aQ c)] (dI (gm c)):=by
 rw[←OU];obtain⟨X,e⟩: ∃X,X=ya c:=⟨_,rfl⟩
 rw[←e];rw[OT]at e;by_cases h0:c.kind<1∨7<c.kind
 ·rw[if_pos h0]at e;refine aI (F:=np) DY (by simp[np]) ?_;simp only[np]
  repeat' first|refine ak (fun _=> ?_) fun _=> ?_|refine aD ?_|simp only[gt_iff_lt,wy,qg,aC,reduceCtorEq,reduceIte,Nat.reduceAdd,Nat.reduceMul,Nat.reduceEqDiff,Nat.reduceLT,Nat.reduceLeDiff,Nat.reduceSub,ax,aB,ay,au]
  all_goals first|(rw[e];done)|omega
 rw[if_neg h0]at e;have j:decide (c.kind<1)=false:=by simp;omega
 have l:decide (c.kind>7)=false:=by simp;omega
 have f:=Uw c a8 a8;by_cases h:mK c=false
 ·rw[if_pos h]at e;rw[h]at f;refine aI (F:=np) DY (by simp[np]) ?_;simp only[np]
  repeat' first|refine ak (fun _=> ?_) fun _=> ?_|refine aD ?_|refine aj.data (f) rfl ?_|simp only[j,l,wy,qg,aC,reduceCtorEq,reduceIte,Nat.reduceAdd,Nat.reduceMul,Nat.reduceEqDiff,Nat.reduceLT,Nat.reduceLeDiff,Nat.reduceSub,ax,aB,ay,au]
  all_goals(rw[e];done)
 rw[if_neg h]at e;rw[show mK c=true by simpa using h]at f;have i:=JK c.name A;obtain⟨B,q⟩: ∃B,B=isName c.name:=⟨_,rfl⟩
 rw[←q]at e i;obtain⟨Y,n⟩: ∃Y,Y=qc c.lines (tX c):=⟨_,rfl⟩
 rw[←n]at e;clear h0 h q A;refine ph (F:=np) DY (by simp[np]) ?_;simp only[np];refine AC.cut [1] [(1,.d (.ref (aQ c)))] [] True ?_ fun J _=> ?_
 ·repeat' first|refine ak (fun _=> ?_) fun _=> ?_|refine aD ?_|simp only[decide_true,wy,qg,aC,reduceCtorEq,reduceIte,Nat.reduceAdd,Nat.reduceMul,Nat.reduceEqDiff,Nat.reduceLT,Nat.reduceLeDiff,Nat.reduceSub,ax,aB,ay,au]
  all_goals exact⟨_,rfl⟩
 refine AC.cut [1] [(1,.d (.ref (aQ c)))] [] (X=Y∧c.lines.length≤2000) ?_ fun J C=> ?_
 ·repeat' first|refine ak (fun _=> ?_) fun _=> ?_|refine aD ?_|refine aj.data (f) rfl ?_|refine aj.data (i) rfl ?_|simp only[j,l,gt_iff_lt,wy,qg,aC,reduceCtorEq,reduceIte,Nat.reduceAdd,Nat.reduceMul,Nat.reduceEqDiff,Nat.reduceLT,Nat.reduceLeDiff,Nat.reduceSub,ax,aB,ay,au]
  all_goals first
   |(
     refine⟨⟨_,rfl⟩,?_,by omega⟩;clear n f i j l
     first|(simp_all;done)|(simp_all;intros;omega)|((repeat'(split at e))<;>first|exact e|(exfalso;omega)|(exfalso;simp_all;done)|(exfalso;simp_all;omega)))
   |(clear n f i j l;simp_all;done)
   |(clear n f i j l;simp_all;omega)
 obtain⟨rfl,p⟩:=C;clear e f i j l;refine AC.cut [1] [(1,.d (.ref (aQ c)))] [] (X=tX c) ?_ fun J t=> ?_
 ·repeat' first|refine ak (fun _=> ?_) fun _=> ?_|refine aD ?_|simp only[decide_true,wy,qg,aC,reduceCtorEq,reduceIte,Nat.reduceAdd,Nat.reduceMul,Nat.reduceEqDiff,Nat.reduceLT,Nat.reduceLeDiff,Nat.reduceSub,ax,aB,ay,au]
  refine aX.over c.lines (fun k (_:Unit)=>[(75,iN k)]) (fun _ _=>[]++J) (fun r _=>qc r (tX c)) X () a8 aA aA rfl n (fun k _ x hg u g w a=> ?_) (fun _ g a=> ?_)
  ·have s:=Q6 x;rw[Q4]at a;by_cases v:kj x=true
   ·rw[if_pos v]at a;rw[v]at s
    repeat' first|refine ak (fun _=> ?_) fun _=> ?_|refine aD ?_|refine aj.data (s) rfl ?_|simp only[g,w,hg,eG,wy,qg,aC,reduceCtorEq,reduceIte,Nat.reduceAdd,Nat.reduceMul,Nat.reduceEqDiff,Nat.reduceLT,Nat.reduceLeDiff,Nat.reduceSub,ax,aB,ay,au]
    all_goals exact⟨(),a⟩
   ·rw[if_neg v]at a;rw[show kj x=false by simpa using v]at s
    repeat' first|refine ak (fun _=> ?_) fun _=> ?_|refine aD ?_|refine aj.data (s) rfl ?_|simp only[g,w,hg,eG,wy,qg,aC,reduceCtorEq,reduceIte,Nat.reduceAdd,Nat.reduceMul,Nat.reduceEqDiff,Nat.reduceLT,Nat.reduceLeDiff,Nat.reduceSub,ax,aB,ay,au]
    all_goals rw[a]
  ·rw[Q5]at a
   repeat' first|refine ak (fun _=> ?_) fun _=> ?_|refine aD ?_|simp only[g,wy,qg,aC,reduceCtorEq,reduceIte,Nat.reduceAdd,Nat.reduceMul,Nat.reduceEqDiff,Nat.reduceLT,Nat.reduceLeDiff,Nat.reduceSub,ax,aB,ay,au]
   all_goals exact⟨⟨_,rfl⟩,a⟩
 clear n p;refine AC.cut [1] [(1,.d (.ref (aQ c)))] [] (X=(if iR c.over=false then 9 else 0)∧c.over.length≤400) ?_ fun J o=> ?_
 ·repeat' first|refine ak (fun _=> ?_) fun _=> ?_|refine aD ?_|simp only[gt_iff_lt,wy,qg,aC,reduceCtorEq,reduceIte,Nat.reduceAdd,Nat.reduceMul,Nat.reduceEqDiff,Nat.reduceLT,Nat.reduceLeDiff,Nat.reduceSub,ax,aB,ay,au]
  all_goals first
   |(refine⟨⟨_,rfl⟩,?_,by omega⟩;rw[t];unfold tX;clear t;first|(rw[if_neg (by simp_all),if_neg a8];done)|(rw[if_neg (by simp_all;omega),if_neg a8];done))
   |(rw[t];unfold tX;clear t;first|(rw[if_pos (by simp_all)];done)|(rw[if_neg (by simp_all;omega),if_pos a8];done)|(rw[if_neg (by simp_all),if_pos a8];done))
 obtain⟨o,D⟩:=o;refine bL ?_
 repeat' first|refine ak (fun _=> ?_) fun _=> ?_|refine aD ?_|simp only[decide_true,wy,qg,aC,reduceCtorEq,reduceIte,Nat.reduceAdd,Nat.reduceMul,Nat.reduceEqDiff,Nat.reduceLT,Nat.reduceLeDiff,Nat.reduceSub,ax,aB,ay,au]
 refine aX.tr (fun(b:Nat×List aa)=>[(5,iN (b.1+1))]) (fun b=>b.2) (fun m b=>m+b.1=c.over.length∧iR c.over=iR (c.over.drop b.1)) c.over.length (0,J) aA aA rfl ⟨rfl,rfl⟩ ?_;rintro m ⟨k,J⟩ ⟨hm,a⟩;dsimp only at hm a;by_cases u:k+1<c.over.length
 ·have h0:c.over[k]?=some c.over[k]:=bV a8;have h:c.over[k+1]?=some c.over[k+1]:=bV u;have g:decide (((k+1:Nat):Int)<(c.over.length:Int))=true:=by simp;omega
  have w:IntKind.i64.wrap (((k+1:Nat):Int)+1)=((k+1+1:Nat):Int):=ck a8 a8;have z:IntKind.i64.wrap (((k+1:Nat):Int)-1)=(k:Int):=ck a8 a8;rw[js (by omega:k<c.over.length),js u]at a
  repeat' first|refine ak (fun _=> ?_) fun _=> ?_|refine aD ?_|refine aj.data (Uc _ _) rfl ?_|simp only[g,w,z,h0,h,wy,qg,aC,reduceCtorEq,reduceIte,Nat.reduceAdd,Nat.reduceMul,Nat.reduceEqDiff,Nat.reduceLT,Nat.reduceLeDiff,Nat.reduceSub,ax,aB,ay,au]
  ·rename_i hc;rw[iR,if_pos (by simpa using hc)]at a;rw[o,a];rfl
  ·rename_i hc;rw[iR,if_neg (by simpa using hc),←js u]at a;exact⟨m-1,(k+1,J),by omega,rfl,rfl,by omega,a⟩
 ·have g:decide (((k+1:Nat):Int)<(c.over.length:Int))=false:=by simp;omega
  have y:iR (c.over.drop k)=true:=by
   have:(c.over.drop k).length≤1:=by rw[ax];omega
   match c.over.drop k,this with
   |[],_=>rfl
   |[_],_=>rfl
  rw[y]at a;rw[a]at o
  repeat' first|refine ak (fun _=> ?_) fun _=> ?_|refine aD ?_|simp only[g,wy,qg,aC,reduceCtorEq,reduceIte,Nat.reduceAdd,Nat.reduceMul,Nat.reduceEqDiff,Nat.reduceLT,Nat.reduceLeDiff,Nat.reduceSub,ax,aB,ay,au]
  all_goals(rw[o];simp)
def eK(b:List aJ):List AV:=(b.map aO).flatten.map .d
theorem r8(b:List aJ):(eK b).length=b.length*172:=by
 unfold eK;rw[aL,Go.Ab.flatten_len (sz:=172) _ fun r a=>by obtain⟨x,_,rfl⟩:=cy.1 a;exact bJ x,aL]
theorem NF(b:List aJ)(x:aJ):eK b++(aO x).map .d=eK (b++[x]):=by
 simp[eK]
theorem CQ(x:aJ):(aO x).map .d=eK [x]:=by simp[eK]
theorem DL(s:List aa)(f:Nat): ∀l:List D,cU (bu s (f+1)) (l.map .d)=some l
 |[]=>rfl
 |x::l=>by
  rw[bO];have h:=DL s f l;simp only[cU,h];rfl
theorem xy(sz:Nat): ∀(rows:List (List D)),(∀r∈rows,r.length=sz)→chunk sz rows.length rows.flatten=rows
 |[],_=>rfl
 |r::rows,h=>by
  have a:=h r (by simp);rw[aU,chunk,fA,gf a8,dm a8,Cu a8,gy a8,bn,
   xy sz rows fun r a=>h r (by simp[a])]
theorem Ol{s:List aa}{r e sz n f:Nat}{rows:List (List D)}(h:s[r]?=some (.vec e sz (rows.flatten.map .d)))(h0:0<sz)(b:rows.length=n)(a: ∀r∈rows,r.length=sz):bu s (f+2) (.vec r n sz)=some (.sl sz rows):=by
 subst b;unfold bu;rw[h];simp only;rw[if_pos ⟨trivial,h0,by rw[aL,Go.Ab.flatten_len rows a]⟩,DL,eY,xy sz rows a]
def lh(v:AV)(s:List aa)(b:List aJ):Prop:=(v= .nil 172∧b=[])∨ ∃r,v= .vec r b.length 172∧s[r]?=some (.vec 71 172 (eK b))
theorem D8{s:List aa}{r f:Nat}{b:List aJ}(h:s[r]?=some (.vec 71 172 (eK b))):bu s (f+2) (.vec r b.length 172)=some (.sl 172 (b.map aO)):=
 Ol h a8 (aL ..) fun r a=>by obtain⟨x,_,rfl⟩:=cy.1 a;exact bJ x
theorem lh.deep{v:AV}{s:List aa}{b:List aJ}(h:lh v s b)(f:Nat):bu s (f+2) v=some (.sl 172 (b.map aO)):=by
 rcases h with⟨rfl,rfl⟩|⟨r,rfl,h⟩
 ·rfl
 ·exact D8 h
theorem lh.of{v:AV}{s a:List aa}{b:List aJ}(h:lh v s b)(c: ∀(r e z:Nat) (cs:List AV),s[r]?=some (aa.vec e z cs)→a[r]?=some (aa.vec e z cs)):lh v a b:=by
 rcases h with h|⟨r,h1,h2⟩
 ·exact .inl h
 ·exact .inr ⟨r,h1,c _ _ _ _ h2⟩
def kQ:CC:=fo [o0 11 (.box (.c (.agg gG))),oN (.st 172 (.t 11) (.t 41))]
def kR:CC:= .block 3 (fo [o0 42 (.ld none (.t 6)),o0 43 (.ld (some 172) (.t 11)),o0 44 (.bsf 172 1 eu [(0,172,(.t 43))]),o0 45 (.app true 71 172 296 (.t 42) (.t 44)),oN (.st 1 (.t 6) (.t 45))])
def lX(i:Nat)(fr:Fr)(own:List aJ)(l:List aJ)(s:List aa):Prop:= ∃v,s[0]?=some (.cells [v])∧lh v s (own++l)∧s[i]?=some (.loop ⟨.ready,none,fr,[41],61,kQ,kR⟩)
theorem lX.app{i:Nat}{fr:Fr}{own l:List aJ}{s:List aa}(h:lX i fr own l s)(o:aa):lX i fr own l (s++[o]):=by
 obtain⟨v,a,b,c⟩:=h;exact⟨v,bP a _,b.of fun r e z n d=>bP d _,bP c _⟩
theorem lX.set{i:Nat}{fr:Fr}{own l:List aJ}{s:List aa}(h:lX i fr own l s){j:Nat}{cs a:List AV}(g:i+1≤j)(hc:s[j]?=some (.cells cs)):lX i fr own l (s.set j (.cells a)):=by
 obtain⟨v,c,d,f⟩:=h;refine⟨v,?_,d.of fun r e z n b=> ?_,?_⟩
 ·rw[bs a8];exact c
 ·rw[bs (by rintro rfl;rw[hc]at b;cases b)];exact b
 ·rw[bs a8];exact f
theorem lX.len{i:Nat}{fr:Fr}{own l:List aJ}{s:List aa}(h:lX i fr own l s):i+1≤s.length:=by
 obtain⟨v,b,c,a⟩:=h;exact(aR.1 a).1
set_option maxHeartbeats 2000000 in
theorem OG{i:Nat}{fr:Fr}{own l:List aJ}{s:List aa}(hi:0<i)(C:Bb.look fr 6=some (.ptr 0 0))(x:aJ)(h:lX i fr own l s)(Q:own.length+l.length≤1000000){K:AV→List aa→Prop}(L: ∀H,lX i fr own (l++[x]) H→gH (i+1) s H→K (.d (dB true)) H):gh Tryz.prog i [.d (.agg (aO x))] s K:=by
 have M:=h.len;obtain⟨v,I,J,w⟩:=h;unfold gh;rw[w];refine⟨rfl,rfl,?_⟩;simp only[kQ,kR,putL,mc,uK];have hne:i≠s.length:=by omega
 repeat' first|refine ak (fun _=> ?_) fun _=> ?_|refine aD ?_|simp only[cG,C,bJ,jI,ef,aL,wj,wy,qg,aC,reduceCtorEq,reduceIte,Nat.reduceAdd,Nat.reduceMul,Nat.reduceEqDiff,Nat.reduceLT,Nat.reduceLeDiff,Nat.reduceSub,ax,aB,ay,au]
 unfold jn;rw[bP w];refine⟨rfl,?_⟩;have E:s.length<(s++[aa.cells (List.map AV.d (aO x))]).length:=by simp
 have t0:((s++[aa.cells (List.map AV.d (aO x))]).set i (.loop {({st:= .ready,pend:=none,fr:=fr,ps:=[41],N:=61,ca:=kQ,cb:=kR}:j1)with st:= .busy}))[0]?=some (.cells [v]):=by
  rw[bs a8];exact bP I _
 have A:((s++[aa.cells (List.map AV.d (aO x))]).set i (.loop {({st:= .ready,pend:=none,fr:=fr,ps:=[41],N:=61,ca:=kQ,cb:=kR}:j1)with st:= .busy}))[s.length]?=some (.cells ((aO x).map .d)):=by
  rw[bs hne];simp
 have u:((s++[aa.cells (List.map AV.d (aO x))]).set i (.loop {({st:= .ready,pend:=none,fr:=fr,ps:=[41],N:=61,ca:=kQ,cb:=kR}:j1)with st:= .busy}))[i]?=some (.loop ⟨.busy,none,fr,[41],61,kQ,kR⟩):=by
  rw[ey,if_pos rfl,if_pos a8]
 have g:lh v ((s++[aa.cells (List.map AV.d (aO x))]).set i (.loop {({st:= .ready,pend:=none,fr:=fr,ps:=[41],N:=61,ca:=kQ,cb:=kR}:j1)with st:= .busy})) (own++l):=J.of fun r e z n f=>by
  rw[bs (by rintro rfl;rw[w]at f;cases f)];exact bP f _
 have a: ∀j cs,i+1≤j→s[j]?=some (.cells cs)→((s++[aa.cells (List.map AV.d (aO x))]).set i (.loop {({st:= .ready,pend:=none,fr:=fr,ps:=[41],N:=61,ca:=kQ,cb:=kR}:j1)with st:= .busy}))[j]?=some (.cells cs):=fun j cs y hc=>by
  rw[bs a8];exact bP hc _
 generalize((s++[aa.cells (List.map AV.d (aO x))]).set i (.loop {({st:= .ready,pend:=none,fr:=fr,ps:=[41],N:=61,ca:=kQ,cb:=kR}:j1)with st:= .busy}))=T at t0 A u g a⊢;have P:=(aR.1 A).1;have O:=(aR.1 u).1;clear I J w E;have m:(own++l).length=own.length+l.length:=aN
 have c:own++(l++[x])=own++l++[x]:=(bj _ _ _).symm;obtain⟨b,hb⟩: ∃b,b=own++l:=⟨_,rfl⟩
 rw[←hb]at g m c;rcases g with⟨rfl,F⟩|⟨r,rfl,f⟩
 ·have p:br 1 296=true:=by decide
  have t0J:=bP t0
  repeat' first|refine ak (fun _=> ?_) fun _=> ?_|refine aD ?_|simp only[cG,C,t0,t0J,A,p,bJ,jI,ef,aL,fA,List.flatten_nil,bg,wj,wy,qg,aC,reduceCtorEq,reduceIte,Nat.reduceAdd,Nat.reduceMul,Nat.reduceEqDiff,Nat.reduceLT,Nat.reduceLeDiff,Nat.reduceSub,ax,aB,ay,au]
  rw[CQ x];unfold jW;have B:((T++[aa.vec 71 172 (eK [x])]).set 0 (aa.cells [AV.vec T.length 1 172]))[i]?=some (.loop ⟨.busy,none,fr,[41],61,kQ,kR⟩):=by
   rw[bs a8];exact bP u _
  rw[B];refine L _ ⟨.vec T.length 1 172,?_,?_,?_⟩ fun j cs y hc=> ?_
  ·rw[bs a8,ey,if_pos rfl,if_pos (by simp)]
  ·rw[c,F];refine .inr ⟨T.length,by simp,?_⟩;rw[bs a8,bs a8];simp
  ·rw[ey,if_pos rfl,if_pos (by simp;omega)]
  ·rw[bs a8,bs a8];exact bP (a j cs y hc) _
 ·have p:br (b.length+1) 296=true:=room_le a8 a8;have q:0≠r:=by rintro rfl;rw[t0]at f;cases f
  have t0s: ∀o,(T.set r o)[0]?=some (.cells [.vec r b.length 172]):=fun o=>by rw[bs (Ne.symm q)];exact t0
  have D:=r8 b
  repeat' first|refine ak (fun _=> ?_) fun _=> ?_|refine aD ?_|simp only[cG,C,t0,t0s,A,p,f,D,bJ,jI,ef,aL,fA,List.flatten_nil,bg,NF,wj,wy,qg,aC,reduceCtorEq,reduceIte,Nat.reduceAdd,Nat.reduceMul,Nat.reduceEqDiff,Nat.reduceLT,Nat.reduceLeDiff,Nat.reduceSub,ax,aB,ay,au]
  unfold jW;have t:r≠i:=by rintro rfl;rw[u]at f;cases f
  have G:=(aR.1 f).1;have B:((T.set r (aa.vec 71 172 (eK (b++[x])))).set 0 (aa.cells [AV.vec r (b.length+1) 172]))[i]?=some (.loop ⟨.busy,none,fr,[41],61,kQ,kR⟩):=by
   rw[bs a8,bs t];exact u
  rw[B];refine L _ ⟨.vec r (b.length+1) 172,?_,?_,?_⟩ fun j cs y hc=> ?_
  ·rw[bs a8,ey,if_pos rfl,if_pos (by simp;omega)]
  ·rw[c];refine .inr ⟨r,by simp,?_⟩;rw[bs (Ne.symm t),bs q,ey,if_pos rfl,if_pos G]
  ·rw[ey,if_pos rfl,if_pos (by simp;omega)]
  ·have k:=a j cs y hc;rw[bs a8,bs a8,bs (by rintro rfl;rw[f]at k;cases k)];exact k
theorem Hl{fr:Fr}{s:List aa}{v:AV}{own:List aJ}{x:af}(q:Bb.look fr 6=some (.ptr 0 0))(a:s[0]?=some (.cells [v]))(f:lh v s own)(B:1≤x.kind)(C:x.kind≤7)(w:own.length≤100000)(g:x.lines.length≤2000):
  jP (dx Tryz.prog) Tryz.prog (.clo 182 [] [.d (.ref [dI own.length]),.d (.ref (aQ x))]) [.yld s.length] (s++[.loop ⟨.ready,none,fr,[41],61,kQ,kR⟩]) fun _ b=> ∃c,(b[0]?=some (.cells [c])∧lh c b (own++fF x own.length))∧b[s.length]?=some (.loop ⟨.ready,none,fr,[41],61,kQ,kR⟩):=by
 have hi:0<s.length:=(aR.1 a).1;refine jP.fn (aT.mono (Uo x own.length s.length (s.length+1) (lX s.length fr own) B C a8 g (fun l s o h=>h.app o) (fun l s j cs i h u hc=>h.set u hc) (fun l s h=>h.len) (fun l y s K h g t=>OG hi q y h a8 t) _ ⟨v,bP a _,?_,by simp⟩) ?_)
 ·rw[bg];exact f.of fun r e z n A=>bP A _
 ·rintro d b ⟨_,c,k,m,p⟩;exact⟨c,⟨k,m⟩,p⟩
theorem Qf(c:af)(n:Nat): ∀(i:Nat) (a:aJ),(fF c n)[i]?=some a→a.id=dL ((n+i:Nat):Int):=by
 intro i a h;unfold fF at h
 repeat' split at h
 all_goals first
  |(
   match i,h with
   |0,h=>simp at h;subst h;simp
   |i+1,h=>simp at h)
  |skip
 by_cases hi:i<c.lines.length
 ·rw[eQ (by simpa using hi),List.getElem?_mapIdx]at h;obtain⟨s,e,rfl⟩:=db.1 h;show dL (n+i)=_;unfold dL;congr 1
 ·rw[gZ (by simpa using Nat.le_of_not_lt hi),List.length_mapIdx,cC]at h;obtain⟨j,d,rfl⟩:=db.1 h;have b:=(aR.1 d).1;rw[dX]at b;rw[nV b]at d;cases d;show dL ((n:Int)+(c.lines.length:Int)+((i-c.lines.length:Nat):Int))=_;unfold dL;congr 1;omega
theorem pC.app{own:List aJ}(h:pC own)(c:af):pC (own++fF c own.length):=fun i a ha=>by
 by_cases hi:i<own.length
 ·rw[eQ hi]at ha;exact h i a ha
 ·rw[gZ a8]at ha;rw[Qf c _ _ a ha];congr 2;omega
theorem DK{c:af}{n:Nat}(h:c.lines.length≤1000):(fF c n).length≤2001:=by
 unfold fF
 repeat' split
 all_goals(try simp)
 omega
def dq(p:b9):List aJ:=if(dK p).2≠0 then[]else(dT p).1
def ni(p:b9):Int:=if isName p.author=false then 5 else if 1000<(p.message.size:Int)then 4 else if p.time<0∨1099511627776<p.time then 2 else if fN p.deps≠0 then fN p.deps else if(p.changes.length:Int)=0 then 1 else if 400<(p.changes.length:Int)then 4 else 0
theorem GB(p:b9):dT p=if ni p≠0 then([],ni p)else eU p.changes []:=by
 unfold dT ni
 repeat' split
 all_goals first|rfl|omega|(simp_all;done)
theorem H3: ∀{l:List Dg} {q:Option Dg},il q l=0→ ∀d∈l,isZero d=false
 |[],_,_,d,a=>by cases a
 |x::l,q,h,d,a=>by
  rw[il]at h;split at h
  ·cases h
  rename_i b;split at h
  ·cases h
  rcases bY.1 a with rfl|a
  ·simpa using b
  ·exact H3 h d a
structure e8(p:b9):Prop where
 chg:p.changes.length≤40
 line: ∀c∈p.changes,c.lines.length≤1000∧c.over.length≤100000
set_option maxHeartbeats 4000000 in
theorem JJ(p:b9)(hp:cV p)(hN:e8 p):aT Tryz.prog 92 [.d (.agg (bk p))] [] fun d s'=> ∃v,d= .tup [v,.d (dS (dK p).1),.d (dI (dK p).2)]∧lh v s' (dq p):=by
 have M:=Un p hp.z (by have:=hN.chg;omega);change aE _ _ _ (dI (ni p))at M;refine aT.ofA (F:=ze) S1 (by simp[ze]) ?_;simp only[ze];refine AC.cutJ [1] [(1,.d (.ref (bk p)))] (fun s=>s=[]) ?_ fun s P=> ?_
 ·exact bx trivial trivial
 subst P;refine AC.cutJ [1] [(1,.d (.ref (bk p)))] (fun s=>s=[]∧ni p=0) ?_ fun s P=> ?_
 ·by_cases h:ni p=0
  ·rw[h]at M;refine aw trivial @M ?_
   all_goals exact h
  ·have T:(ni p !=0)=true:=by simpa using h
   have N:(dT p).2=ni p:=by rw[GB,if_pos h]
   have e3:dq p=[]:=by unfold dq dK;rw[if_pos];rw[N,if_pos h];exact h
   have e4:dK p=(⟨#[]⟩,ni p):=by unfold dK;rw[N,if_pos h]
   rw[e3,e4];refine aw @T @M ?_
   all_goals exact⟨_,rfl,.inl ⟨rfl,rfl⟩⟩
 obtain⟨rfl,h0⟩:=P;have A:dT p=eU p.changes []:=by rw[GB,h0,if_neg (by simp)]
 refine AC.cutJ [1,6] [(1,.d (.ref (bk p))),(6,.ptr 0 0)] (fun s=>s=[.cells [.nil 172]]) ?_ fun s P=> ?_
 ·exact bx trivial trivial
 subst P;have l: ∀e,eU p.changes []=([],e)→e≠0→dq p=[]∧dK p=(⟨#[]⟩,e):=fun e h he=>by
  have K:(dT p).2=e:=by rw[A,h]
  have h3:dK p=(⟨#[]⟩,e):=by unfold dK;rw[K,if_pos he]
  exact⟨by unfold dq;rw[h3,if_pos he],h3⟩
 have a1:=hN.chg;have hz:=hp.z.chg;refine AC.cutJ [1,6] [(1,.d (.ref (bk p))),(6,.ptr 0 0)] (fun s=> ∃v,s[0]?=some (.cells [v])∧lh v s (dT p).1∧(dT p).2=0) ?_ fun s P=> ?_
 ·refine aw trivial trivial ?_
  refine aX.overI p.changes (fun k (b:List aJ×List aa)=>[(22,iN k)]) (fun _ b=>b.2) (fun r b=>eU r b.1) (eU p.changes []) (fun k b=>(∃v,b.2[0]?=some (.cells [v])∧lh v b.2 b.1)∧b.1.length≤2001*k∧pC b.1) ([],[.cells [.nil 172]]) a8 aA aA rfl rfl ⟨⟨_,rfl,.inl ⟨rfl,rfl⟩⟩,by simp,fun i a h=>by simp at h⟩ (fun k b x hg hk t Q o hJ=> ?_) (fun b t o hJ=> ?_)
  ·obtain⟨own,s⟩:=b;obtain⟨⟨v,j,g⟩,H,u⟩:=hJ;dsimp only at o j g H u;have Z:=bT hg;obtain⟨Y,a0⟩:=hN.line x Z;have R:=Ug x (hz x Z).s.name;have w:=bP j;rw[eU]at o;by_cases U:gm x=0
   ·rw[if_neg (by simpa using U)]at o;rw[U]at R;obtain⟨⟨k1,k7⟩,B,_⟩:=oD U;have S:=Uh x own a0 a8;rw[XA a8 u k1 k7 (fun h=>by
     rw[←C7 x k1 k7]at B;simp only[mK,eI,jN,decide_eq_true_eq]at B;obtain⟨-,-,-,-,-,-,-,a3⟩:=B;exact fx a8)]at S
    by_cases m:jJ x own=0
    ·rw[if_neg (by simpa using m)]at o;rw[m]at S;have G:=fun s=>Up x own.length s;clear l A M h0;rcases id g with⟨rfl,rfl⟩|⟨r,rfl,hrv⟩
     ·repeat' first|refine ak (fun _=> ?_) fun _=> ?_|refine aD ?_|refine aj.data (R) rfl ?_|refine aj.data (S) rfl ?_|(refine aj.fn ((G _).mono ?_);rintro _ s' ⟨rfl,rfl⟩)|simp only[t,Q,hg,j,w,bne_self_eq_false,fI,dN,aL,wj,wy,qg,aC,reduceCtorEq,reduceIte,Nat.reduceAdd,Nat.reduceMul,Nat.reduceEqDiff,Nat.reduceLT,Nat.reduceLeDiff,Nat.reduceSub,ax,aB,ay,au]
      refine⟨trivial,_,_,_,rfl,(Hl (x:=x) rfl (w _) (g.of fun r e z n m=>bP m _) k1 k7 a8 a8).mono ?_⟩;rintro _ s' ⟨v',⟨I,C⟩,D⟩;unfold kH;rw[D];refine⟨by simp,?_⟩;have E:=D;rw[aN,qP]at E;refine aw (ga @t (ga @Q @wj)) trivial ?_;refine⟨(_,_),rfl,o,⟨v',?_,C.of fun r e z n m=> ?_⟩,?_,u.app x⟩
      ·dsimp only;rw[bs a8];exact I
      ·rw[bs (by rintro rfl;rw[E]at m;cases m)];exact m
      ·have L:=fun n=>DK (c:=x) (n:=n) Y;dsimp only;rw[aN];exact eS (Nat.add_le_add H (L _)) a8
     ·have O: ∀J:List aa,cU (bu (s++J) 5) ([]++[.d (.agg (aQ x)),.vec r own.length 172]++[])=some [.agg (aQ x),.sl 172 (own.map aO)]:=fun J=>by
       simp only[bn,bg,cU,D8 (f:=3) (bP hrv J)];rfl
      repeat' first|refine ak (fun _=> ?_) fun _=> ?_|refine aD ?_|refine aj.data (R) rfl ?_|(refine aj.reads S (O _) rfl ?_)|(refine aj.fn ((G _).mono ?_);rintro _ s' ⟨rfl,rfl⟩)|simp only[t,Q,hg,j,w,bne_self_eq_false,fI,dN,aL,wj,wy,qg,aC,reduceCtorEq,reduceIte,Nat.reduceAdd,Nat.reduceMul,Nat.reduceEqDiff,Nat.reduceLT,Nat.reduceLeDiff,Nat.reduceSub,ax,aB,ay,au]
      refine⟨trivial,_,_,_,rfl,(Hl (x:=x) rfl (w _) (g.of fun r e z n m=>bP m _) k1 k7 a8 a8).mono ?_⟩;rintro _ s' ⟨v',⟨I,C⟩,D⟩;unfold kH;rw[D];refine⟨by simp,?_⟩;have E:=D;rw[aN,qP]at E;refine aw (ga @t (ga @Q @wj)) trivial ?_;refine⟨(_,_),rfl,o,⟨v',?_,C.of fun r e z n m=> ?_⟩,?_,u.app x⟩
      ·dsimp only;rw[bs a8];exact I
      ·rw[bs (by rintro rfl;rw[E]at m;cases m)];exact m
      ·have L:=fun n=>DK (c:=x) (n:=n) Y;dsimp only;rw[aN];exact eS (Nat.add_le_add H (L _)) a8
    ·rw[if_pos (by simpa using m)]at o;have N:(jJ x own !=0)=true:=by simpa using m
     obtain⟨V,K⟩:=l _ o m;rw[V,K];clear l o A V K M h0;rcases g with⟨rfl,rfl⟩|⟨r,rfl,hrv⟩
     ·refine aw (ga @t (ga @Q (ga @hg (ga @N (ga @j (ga @w (ga @fI (ga @dN @wj)))))))) (ga @R @S) ?_
      all_goals exact⟨_,rfl,.inl ⟨rfl,rfl⟩⟩
     ·have O: ∀J:List aa,cU (bu (s++J) 5) ([]++[.d (.agg (aQ x)),.vec r own.length 172]++[])=some [.agg (aQ x),.sl 172 (own.map aO)]:=fun J=>by
       simp only[bn,bg,cU,D8 (f:=3) (bP hrv J)];rfl
      repeat' first|refine ak (fun _=> ?_) fun _=> ?_|refine aD ?_|refine aj.data (R) rfl ?_|(refine aj.reads S (O _) rfl ?_)|simp only[t,Q,hg,N,j,w,bne_self_eq_false,fI,dN,aL,wj,wy,qg,aC,reduceCtorEq,reduceIte,Nat.reduceAdd,Nat.reduceMul,Nat.reduceEqDiff,Nat.reduceLT,Nat.reduceLeDiff,Nat.reduceSub,ax,aB,ay,au]
      all_goals exact⟨_,rfl,.inl ⟨rfl,rfl⟩⟩
   ·rw[if_pos (by simpa using U)]at o;have N:(gm x !=0)=true:=by simpa using U
    obtain⟨V,K⟩:=l _ o U;rw[V,K];clear l o A V K M h0;refine aw (ga @t (ga @Q (ga @hg (ga @N (ga @fI (ga @dN @wj)))))) @R ?_
    all_goals exact⟨_,rfl,.inl ⟨rfl,rfl⟩⟩
  ·obtain⟨own,s⟩:=b;obtain⟨⟨v,j,g⟩,H,u⟩:=hJ;dsimp only at o j g H u;rw[eU]at o;have K:dT p=(own,0):=by rw[A,o]
   clear l;rw[K];refine aw @t trivial ?_
   all_goals exact⟨v,j,g⟩
 obtain⟨v,j,g,W⟩:=P;have cE:=Ul PI p (hp.enc W) (by
  refine H3 (q:=none) ?_;have t:fN p.deps=0:=by
   unfold ni at h0
   repeat' split at h0
   all_goals first|omega|(simp_all;done)
  unfold fN at t;split at t
  ·omega
  ·exact t)
 clear l M;have y:dK p=nf p:=by unfold dK;rw[if_neg (by simpa using W)]
 rw[y];refine bL ?_;by_cases X:65536<(kP (kn p)).size
 ·have T:decide (((kP (kn p)).size:Int)>65536)=true:=by simp;omega
  have L:nf p=(⟨#[]⟩,4):=by unfold nf;rw[if_pos X]
  have h6:dq p=[]:=by unfold dq;rw[y,L];rfl
  rw[L,h6];refine aw @T @cE ?_
  all_goals exact⟨_,rfl,.inl ⟨rfl,rfl⟩⟩
 ·have T:decide (((kP (kn p)).size:Int)>65536)=false:=by simp;omega
  have L:nf p=(kP (kn p),0):=by unfold nf;rw[if_neg X]
  have h6:dq p=(dT p).1:=by unfold dq;rw[y,L];rfl
  rw[L,h6];rcases id g with⟨rfl,a2⟩|⟨r,rfl,hrv⟩
  ·refine aw (ga @T @j) @cE ?_
   all_goals exact⟨_,rfl,g⟩
  ·refine aw (ga @T @j) @cE ?_
   all_goals exact⟨_,rfl,g⟩
theorem Ec(p:b9)(c:cV p)(a:e8 p):aE Tryz.prog 92 [.agg (bk p)] (.tup [.sl 172 ((dq p).map aO),dS (dK p).1,dI (dK p).2]):=by
 obtain⟨d,f,e,v,rfl,hg⟩:=JJ p c a;refine aE.of_runs e ?_;have b:=hg.deep 2;simp only[bu,cU,b];rfl
end Go.Proofs.Q
