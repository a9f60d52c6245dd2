/- Lemmas. -/
import Derived.Test.YtellfinifjmloaaGreatDoorPBD
import Derived.Test.YtellfinifjmloaaGreatDoorPBC
import Derived.Test.YtellfinifjmloaaGreatDoorPBB
import Derived.Lib.Overlaps
import Derived.Laws.Externs
import Derived.Laws.IdiomCopy
set_option linter.unusedVariables false
set_option linter.unusedSimpArgs false
namespace Go.Proofs.Q
open Go Go.Bb Go.RowKit Go.Proofs.Lg
open Go.Ab (D RD)
def eS(b:List au):List AV:=(b.map aI).flatten.map .d
theorem so(b:List au):(eS b).length=b.length*172:=by
 unfold eS;rw[aQ,Go.Ab.flatten_len (sz:=172) _ fun r a=>by obtain⟨x,_,rfl⟩:=bR.1 a;exact bb x,aQ]
theorem Rr(b:List au)(x:au):eS b++(aI x).map .d=eS (b++[x]):=by
 simp[eS]
theorem F2(x:au):(aI x).map .d=eS [x]:=by simp[eS]
theorem G5(s:List aa)(f:Nat): ∀l:List D,dA (bA s (f+1)) (l.map .d)=some l
 |[]=>rfl
 |x::l=>by
  rw[bV];have h:=G5 s f l;simp only[dA,h];rfl
theorem uI(sz:Nat): ∀(rows:List (List D)),(∀r∈rows,r.length=sz)→chunk sz rows.length rows.flatten=rows
 |[],_=>rfl
 |r::rows,h=>by
  have a:=h r (by simp);rw[aY,chunk,fL,gj a8,dq a8,EL a8,gC a8,bm,
   uI sz rows fun r a=>h r (by simp[a])]
theorem Fi{s:List aa}{r e sz n f:Nat}{rows:List (List D)}(h:s[r]?=some (.vec e sz (rows.flatten.map .d)))(b:0<sz)(c:rows.length=n)(a: ∀r∈rows,r.length=sz):bA s (f+2) (.vec r n sz)=some (.sl sz rows):=by
 subst c;unfold bA;rw[h];simp only;rw[if_pos ⟨trivial,b,by rw[aQ,Go.Ab.flatten_len rows a]⟩,G5,eZ,uI sz rows a]
def mM(v:AV)(s:List aa)(b:List au):Prop:=(v= .nil 172∧b=[])∨ ∃r,v= .vec r b.length 172∧s[r]?=some (.vec 32 172 (eS b))
theorem Fh{s:List aa}{r f:Nat}{b:List au}(h:s[r]?=some (.vec 32 172 (eS b))):bA s (f+2) (.vec r b.length 172)=some (.sl 172 (b.map aI)):=
 Fi h a8 (aQ ..) fun r a=>by obtain⟨x,_,rfl⟩:=bR.1 a;exact bb x
theorem mM.deep{v:AV}{s:List aa}{b:List au}(h:mM v s b)(f:Nat):bA s (f+2) v=some (.sl 172 (b.map aI)):=by
 rcases h with⟨rfl,rfl⟩|⟨r,rfl,h⟩
 ·rfl
 ·exact Fh h
theorem mM.of{v:AV}{s a:List aa}{b:List au}(h:mM v s b)(hk: ∀(r e z:Nat) (cs:List AV),s[r]?=some (aa.vec e z cs)→a[r]?=some (aa.vec e z cs)):mM v a b:=by
 rcases h with h|⟨r,h1,h2⟩
 ·exact .inl h
 ·exact .inr ⟨r,h1,hk _ _ _ _ h2⟩
def ma:CC:=fo [o0 11 (.box (.c (.agg dZ))),oN (.st 172 (.t 11) (.t 41))]
def mb:CC:= .block 3 (fo [o0 42 (.ld none (.t 6)),o0 43 (.ld (some 172) (.t 11)),o0 44 (.bsf 172 1 ee [(0,172,(.t 43))]),o0 45 (.app true 32 172 296 (.t 42) (.t 44)),oN (.st 1 (.t 6) (.t 45))])
def nF(i:Nat)(fr:Fr)(own:List au)(l:List au)(s:List aa):Prop:= ∃v,s[0]?=some (.cells [v])∧mM v s (own++l)∧s[i]?=some (.loop ⟨.ready,none,fr,[41],61,ma,mb⟩)
theorem nF.app{i:Nat}{fr:Fr}{own l:List au}{s:List aa}(h:nF i fr own l s)(o:aa):nF i fr own l (s++[o]):=by
 obtain⟨v,a,b,c⟩:=h;exact⟨v,bW a _,b.of fun r e z n d=>bW d _,bW c _⟩
theorem nF.set{i:Nat}{fr:Fr}{own l:List au}{s:List aa}(h:nF i fr own l s){j:Nat}{cs a:List AV}(g:i+1≤j)(hc:s[j]?=some (.cells cs)):nF i fr own l (s.set j (.cells a)):=by
 obtain⟨v,c,d,f⟩:=h;refine⟨v,?_,d.of fun r e z n b=> ?_,?_⟩
 ·rw[bC a8];exact c
 ·rw[bC (by rintro rfl;rw[hc]at b;cases b)];exact b
 ·rw[bC a8];exact f
theorem nF.len{i:Nat}{fr:Fr}{own l:List au}{s:List aa}(h:nF i fr own l s):i+1≤s.length:=by
 obtain⟨v,b,c,a⟩:=h;exact(b9.1 a).1
set_option maxHeartbeats 2000000 in
theorem Sn{i:Nat}{fr:Fr}{own l:List au}{s:List aa}(hi:0<i)(C:Bb.look fr 6=some (.ptr 0 0))(x:au)(h:nF i fr own l s)(Q:own.length+l.length≤1000000){K:AV→List aa→Prop}(L: ∀H,nF i fr own (l++[x]) H→I4 (i+1) s H→K (.d (dB true)) H):iD Tryz.prog i [.d (.agg (aI x))] s K:=by
 have M:=h.len;obtain⟨v,I,J,w⟩:=h;unfold iD;rw[w];refine⟨rfl,rfl,?_⟩;simp only[ma,mb,putL,oM,List.zip_nil_right];have hne:i≠s.length:=by omega
 repeat' first|refine ae (fun _=> ?_) fun _=> ?_|refine aL ?_|simp only[dC,C,bb,kI,bz,aQ,wj,wy,qg,aH,simprocAttr,aA,aF,aE,aw]
 unfold kN;rw[bW w];refine⟨rfl,?_⟩;have E:s.length<(s++[aa.cells (List.map AV.d (aI x))]).length:=by simp
 have t0:((s++[aa.cells (List.map AV.d (aI x))]).set i (.loop {({st:= .ready,pend:=none,fr:=fr,ps:=[41],N:=61,ca:=ma,cb:=mb}:je)with st:= .busy}))[0]?=some (.cells [v]):=by
  rw[bC a8];exact bW I _
 have A:((s++[aa.cells (List.map AV.d (aI x))]).set i (.loop {({st:= .ready,pend:=none,fr:=fr,ps:=[41],N:=61,ca:=ma,cb:=mb}:je)with st:= .busy}))[s.length]?=some (.cells ((aI x).map .d)):=by
  rw[bC hne];simp
 have u:((s++[aa.cells (List.map AV.d (aI x))]).set i (.loop {({st:= .ready,pend:=none,fr:=fr,ps:=[41],N:=61,ca:=ma,cb:=mb}:je)with st:= .busy}))[i]?=some (.loop ⟨.busy,none,fr,[41],61,ma,mb⟩):=by
  rw[eP,if_pos rfl,if_pos a8]
 have g:mM v ((s++[aa.cells (List.map AV.d (aI x))]).set i (.loop {({st:= .ready,pend:=none,fr:=fr,ps:=[41],N:=61,ca:=ma,cb:=mb}:je)with st:= .busy})) (own++l):=J.of fun r e z n f=>by
  rw[bC (by rintro rfl;rw[w]at f;cases f)];exact bW f _
 have a: ∀j cs,i+1≤j→s[j]?=some (.cells cs)→((s++[aa.cells (List.map AV.d (aI x))]).set i (.loop {({st:= .ready,pend:=none,fr:=fr,ps:=[41],N:=61,ca:=ma,cb:=mb}:je)with st:= .busy}))[j]?=some (.cells cs):=fun j cs y hc=>by
  rw[bC a8];exact bW hc _
 generalize((s++[aa.cells (List.map AV.d (aI x))]).set i (.loop {({st:= .ready,pend:=none,fr:=fr,ps:=[41],N:=61,ca:=ma,cb:=mb}:je)with st:= .busy}))=T at t0 A u g a⊢;have P:=(b9.1 A).1;have O:=(b9.1 u).1;clear I J w E;have m:(own++l).length=own.length+l.length:=aR
 have c:own++(l++[x])=own++l++[x]:=(bj _ _ _).symm;obtain⟨b,hb⟩: ∃b,b=own++l:=⟨_,rfl⟩
 rw[←hb]at g m c;rcases g with⟨rfl,F⟩|⟨r,rfl,f⟩
 ·have p:bw 1 296=true:=by decide
  have t0J:=bW t0
  repeat' first|refine ae (fun _=> ?_) fun _=> ?_|refine aL ?_|simp only[dC,C,t0,t0J,A,p,bb,kI,bz,aQ,fL,List.flatten_nil,bg,wj,wy,qg,aH,simprocAttr,aA,aF,aE,aw]
  rw[F2 x];unfold mV;have B:((T++[aa.vec 32 172 (eS [x])]).set 0 (aa.cells [AV.vec T.length 1 172]))[i]?=some (.loop ⟨.busy,none,fr,[41],61,ma,mb⟩):=by
   rw[bC a8];exact bW u _
  rw[B];refine L _ ⟨.vec T.length 1 172,?_,?_,?_⟩ fun j cs y hc=> ?_
  ·rw[bC a8,eP,if_pos rfl,if_pos (by simp)]
  ·rw[c,F];refine .inr ⟨T.length,by simp,?_⟩;rw[bC a8,bC a8];simp
  ·rw[eP,if_pos rfl,if_pos (by simp;omega)]
  ·rw[bC a8,bC a8];exact bW (a j cs y hc) _
 ·have p:bw (b.length+1) 296=true:=room_le a8 a8;have q:0≠r:=by rintro rfl;rw[t0]at f;cases f
  have t0s: ∀o,(T.set r o)[0]?=some (.cells [.vec r b.length 172]):=fun o=>by rw[bC (Ne.symm q)];exact t0
  have D:=so b
  repeat' first|refine ae (fun _=> ?_) fun _=> ?_|refine aL ?_|simp only[dC,C,t0,t0s,A,p,f,D,bb,kI,bz,aQ,fL,List.flatten_nil,bg,Rr,wj,wy,qg,aH,simprocAttr,aA,aF,aE,aw]
  unfold mV;have t:r≠i:=by rintro rfl;rw[u]at f;cases f
  have G:=(b9.1 f).1;have B:((T.set r (aa.vec 32 172 (eS (b++[x])))).set 0 (aa.cells [AV.vec r (b.length+1) 172]))[i]?=some (.loop ⟨.busy,none,fr,[41],61,ma,mb⟩):=by
   rw[bC a8,bC t];exact u
  rw[B];refine L _ ⟨.vec r (b.length+1) 172,?_,?_,?_⟩ fun j cs y hc=> ?_
  ·rw[bC a8,eP,if_pos rfl,if_pos (by simp;omega)]
  ·rw[c];refine .inr ⟨r,by simp,?_⟩;rw[bC (Ne.symm t),bC q,eP,if_pos rfl,if_pos G]
  ·rw[eP,if_pos rfl,if_pos (by simp;omega)]
  ·have k:=a j cs y hc;rw[bC a8,bC a8,bC (by rintro rfl;rw[f]at k;cases k)];exact k
theorem JV{fr:Fr}{s:List aa}{v:AV}{own:List au}{x:aC}(q:Bb.look fr 6=some (.ptr 0 0))(a:s[0]?=some (.cells [v]))(f:mM v s own)(B:1≤x.kind)(C:x.kind≤7)(w:own.length≤100000)(g:x.lines.length≤2000):
  lN (eu Tryz.prog) Tryz.prog (.clo 188 [] [.d (.ref [dI own.length]),.d (.ref (aV x))]) [.yld s.length] (s++[.loop ⟨.ready,none,fr,[41],61,ma,mb⟩]) fun _ b=> ∃c,(b[0]?=some (.cells [c])∧mM c b (own++fh x own.length))∧b[s.length]?=some (.loop ⟨.ready,none,fr,[41],61,ma,mb⟩):=by
 have hi:0<s.length:=(b9.1 a).1;refine lN.fn (b7.mono (Ze x own.length s.length (s.length+1) (nF s.length fr own) B C a8 g (fun l s o h=>h.app o) (fun l s j cs i h u hc=>h.set u hc) (fun l s h=>h.len) (fun l y s K h g t=>Sn hi q y h a8 t) _ ⟨v,bW a _,?_,by simp⟩) ?_)
 ·rw[bg];exact f.of fun r e z n A=>bW A _
 ·rintro d b ⟨_,c,k,m,p⟩;exact⟨c,⟨k,m⟩,p⟩
theorem V1(c:aC)(n:Nat): ∀(i:Nat) (a:au),(fh c n)[i]?=some a→a.id=dM ((n+i:Nat):Int):=by
 intro i a h;unfold fh at h
 repeat' split at h
 all_goals first
  |(
   match i,h with
   |0,h=>simp at h;subst h;simp
   |i+1,h=>simp at h)
  |skip
 by_cases hi:i<c.lines.length
 ·rw[fM (by simpa using hi),List.getElem?_mapIdx]at h;obtain⟨s,e,rfl⟩:=dt.1 h;show dM (n+i)=_;unfold dM;congr 1
 ·rw[iO (by simpa using Nat.le_of_not_lt hi),List.length_mapIdx,dL]at h;obtain⟨j,d,rfl⟩:=dt.1 h;have b:=(b9.1 d).1;rw[ew]at b;rw[qA b]at d;cases d;show dM ((n:Int)+(c.lines.length:Int)+((i-c.lines.length:Nat):Int))=_;unfold dM;congr 1;omega
theorem qI.app{own:List au}(h:qI own)(c:aC):qI (own++fh c own.length):=fun i a ha=>by
 by_cases hi:i<own.length
 ·rw[fM hi]at ha;exact h i a ha
 ·rw[iO a8]at ha;rw[V1 c _ _ a ha];congr 2;omega
theorem G4{c:aC}{n:Nat}(h:c.lines.length≤1000):(fh c n).length≤2001:=by
 unfold fh
 repeat' split
 all_goals(try simp)
 omega
def eG(p:aX):List au:=if(cV p).2≠0 then[]else(dw p).1
def ph(p:aX):Int:=if isName p.author=false then 5 else if 1000<(p.message.size:Int)then 4 else if p.time<0∨1099511627776<p.time then 2 else if gl p.deps≠0 then gl p.deps else if(p.changes.length:Int)=0 then 1 else if 400<(p.changes.length:Int)then 4 else 0
theorem F7(p:aX):dw p=if ph p≠0 then([],ph p)else dW p.changes []:=by
 unfold dw ph
 repeat' split
 all_goals first|rfl|omega|(simp_all;done)
theorem Jz: ∀{l:List Dg} {q:Option Dg},iF q l=0→ ∀d∈l,isZero d=false
 |[],_,_,d,a=>by cases a
 |x::l,q,h,d,a=>by
  rw[iF]at h;split at h
  ·cases h
  rename_i b;split at h
  ·cases h
  rcases bM.1 a with rfl|a
  ·simpa using b
  ·exact Jz h d a
structure du(p:aX):Prop where
 chg:p.changes.length≤40
 line: ∀c∈p.changes,c.lines.length≤1000∧c.over.length≤100000
set_option maxHeartbeats 4000000 in
theorem N4(p:aX)(hp:cz p)(hN:du p):b7 Tryz.prog 82 [.d (.agg (bc p))] [] fun d s'=> ∃v,d= .tup [v,.d (dS (cV p).1),.d (dI (cV p).2)]∧mM v s' (eG p):=by
 have M:=Zd p hp.z (by have:=hN.chg;omega);change aG _ _ _ (dI (ph p))at M;refine b7.ofA (F:=Ba) WR (by simp[Ba]) ?_;simp only[Ba];refine AC.cutJ [1] [(1,.d (.ref (bc p)))] (fun s=>s=[]) ?_ fun s P=> ?_
 ·exact bU ab ab
 subst P;refine AC.cutJ [1] [(1,.d (.ref (bc p)))] (fun s=>s=[]∧ph p=0) ?_ fun s P=> ?_
 ·by_cases h:ph p=0
  ·rw[h]at M;refine aO ab @M ?_
   all_goals exact h
  ·have T:(ph p !=0)=true:=by simpa using h
   have N:(dw p).2=ph p:=by rw[F7,if_pos h]
   have e3:eG p=[]:=by unfold eG cV;rw[if_pos];rw[N,if_pos h];exact h
   have e4:cV p=(⟨#[]⟩,ph p):=by unfold cV;rw[N,if_pos h]
   rw[e3,e4];refine aO @T @M ?_
   all_goals exact⟨_,rfl,.inl ⟨rfl,rfl⟩⟩
 obtain⟨rfl,U⟩:=P;have A:dw p=dW p.changes []:=by rw[F7,U,if_neg (by simp)]
 refine AC.cutJ [1,6] [(1,.d (.ref (bc p))),(6,.ptr 0 0)] (fun s=>s=[.cells [.nil 172]]) ?_ fun s P=> ?_
 ·exact bU ab ab
 subst P;have l: ∀e,dW p.changes []=([],e)→e≠0→eG p=[]∧cV p=(⟨#[]⟩,e):=fun e h he=>by
  have K:(dw p).2=e:=by rw[A,h]
  have h3:cV p=(⟨#[]⟩,e):=by unfold cV;rw[K,if_pos he]
  exact⟨by unfold eG;rw[h3,if_pos he],h3⟩
 have a2:=hN.chg;have hz:=hp.z.chg;refine AC.cutJ [1,6] [(1,.d (.ref (bc p))),(6,.ptr 0 0)] (fun s=> ∃v,s[0]?=some (.cells [v])∧mM v s (dw p).1∧(dw p).2=0) ?_ fun s P=> ?_
 ·refine aO ab ab ?_
  refine aZ.overI p.changes (fun k (b:List au×List aa)=>[(22,iN k)]) (fun _ b=>b.2) (fun r b=>dW r b.1) (dW p.changes []) (fun k b=>(∃v,b.2[0]?=some (.cells [v])∧mM v b.2 b.1)∧b.1.length≤2001*k∧qI b.1) ([],[.cells [.nil 172]]) a8 aB aB rfl rfl ⟨⟨_,rfl,.inl ⟨rfl,rfl⟩⟩,by simp,fun i a h=>by simp at h⟩ (fun k b x hg hk t Q o hJ=> ?_) (fun b t o hJ=> ?_)
  ·obtain⟨own,s⟩:=b;obtain⟨⟨v,j,g⟩,H,u⟩:=hJ;dsimp only at o j g H u;have a0:=bX hg;obtain⟨Z,a1⟩:=hN.line x a0;have R:=Z6 x (hz x a0).s.name;have w:=bW j;rw[dW]at o;by_cases V:ft x=0
   ·rw[if_neg (by simpa using V)]at o;rw[V]at R;obtain⟨⟨k1,k7⟩,B,_⟩:=pd V;have S:=Z7 x own a1 a8;rw[a2B a8 u k1 k7 (fun h=>by
     rw[←yy x k1 k7]at B;simp only[nx,er,jf,decide_eq_true_eq]at B;obtain⟨-,-,-,-,-,-,-,a4⟩:=B;exact fK a8)]at S
    by_cases m:gO x own=0
    ·rw[if_neg (by simpa using m)]at o;rw[m]at S;have G:=fun s=>Zf x own.length s;clear l A M U;rcases id g with⟨rfl,rfl⟩|⟨r,rfl,hrv⟩
     ·repeat' first|refine ae (fun _=> ?_) fun _=> ?_|refine aL ?_|refine aq.data (R) rfl ?_|refine aq.data (S) rfl ?_|(refine aq.fn ((G _).mono ?_);rintro _ s' ⟨rfl,rfl⟩)|simp only[t,Q,hg,j,w,bne_self_eq_false,fb,de,aQ,wj,wy,qg,aH,simprocAttr,aA,aF,aE,aw]
      refine⟨trivial,_,_,_,rfl,(JV (x:=x) rfl (w _) (g.of fun r e z n m=>bW m _) k1 k7 a8 a8).mono ?_⟩;rintro _ s' ⟨v',⟨I,C⟩,D⟩;unfold mL;rw[D];refine⟨by simp,?_⟩;have E:=D;rw[aR,qC]at E;refine aO (ga @t (ga @Q @wj)) ab ?_;refine⟨(_,_),rfl,o,⟨v',?_,C.of fun r e z n m=> ?_⟩,?_,u.app x⟩
      ·dsimp only;rw[bC a8];exact I
      ·rw[bC (by rintro rfl;rw[E]at m;cases m)];exact m
      ·have L:=fun n=>G4 (c:=x) (n:=n) Z;dsimp only;rw[aR];exact ef (Nat.add_le_add H (L _)) a8
     ·have O: ∀J:List aa,dA (bA (s++J) 5) ([]++[.d (.agg (aV x)),.vec r own.length 172]++[])=some [.agg (aV x),.sl 172 (own.map aI)]:=fun J=>by
       simp only[bm,bg,dA,Fh (f:=3) (bW hrv J)];rfl
      repeat' first|refine ae (fun _=> ?_) fun _=> ?_|refine aL ?_|refine aq.data (R) rfl ?_|(refine aq.reads S (O _) rfl ?_)|(refine aq.fn ((G _).mono ?_);rintro _ s' ⟨rfl,rfl⟩)|simp only[t,Q,hg,j,w,bne_self_eq_false,fb,de,aQ,wj,wy,qg,aH,simprocAttr,aA,aF,aE,aw]
      refine⟨trivial,_,_,_,rfl,(JV (x:=x) rfl (w _) (g.of fun r e z n m=>bW m _) k1 k7 a8 a8).mono ?_⟩;rintro _ s' ⟨v',⟨I,C⟩,D⟩;unfold mL;rw[D];refine⟨by simp,?_⟩;have E:=D;rw[aR,qC]at E;refine aO (ga @t (ga @Q @wj)) ab ?_;refine⟨(_,_),rfl,o,⟨v',?_,C.of fun r e z n m=> ?_⟩,?_,u.app x⟩
      ·dsimp only;rw[bC a8];exact I
      ·rw[bC (by rintro rfl;rw[E]at m;cases m)];exact m
      ·have L:=fun n=>G4 (c:=x) (n:=n) Z;dsimp only;rw[aR];exact ef (Nat.add_le_add H (L _)) a8
    ·rw[if_pos (by simpa using m)]at o;have N:(gO x own !=0)=true:=by simpa using m
     obtain⟨W,K⟩:=l _ o m;rw[W,K];clear l o A W K M U;rcases g with⟨rfl,rfl⟩|⟨r,rfl,hrv⟩
     ·refine aO (ga @t (ga @Q (ga @hg (ga @N (ga @j (ga @w (ga @fb (ga @de @wj)))))))) (ga @R @S) ?_
      all_goals exact⟨_,rfl,.inl ⟨rfl,rfl⟩⟩
     ·have O: ∀J:List aa,dA (bA (s++J) 5) ([]++[.d (.agg (aV x)),.vec r own.length 172]++[])=some [.agg (aV x),.sl 172 (own.map aI)]:=fun J=>by
       simp only[bm,bg,dA,Fh (f:=3) (bW hrv J)];rfl
      repeat' first|refine ae (fun _=> ?_) fun _=> ?_|refine aL ?_|refine aq.data (R) rfl ?_|(refine aq.reads S (O _) rfl ?_)|simp only[t,Q,hg,N,j,w,bne_self_eq_false,fb,de,aQ,wj,wy,qg,aH,simprocAttr,aA,aF,aE,aw]
      all_goals exact⟨_,rfl,.inl ⟨rfl,rfl⟩⟩
   ·rw[if_pos (by simpa using V)]at o;have N:(ft x !=0)=true:=by simpa using V
    obtain⟨W,K⟩:=l _ o V;rw[W,K];clear l o A W K M U;refine aO (ga @t (ga @Q (ga @hg (ga @N (ga @fb (ga @de @wj)))))) @R ?_
    all_goals exact⟨_,rfl,.inl ⟨rfl,rfl⟩⟩
  ·obtain⟨own,s⟩:=b;obtain⟨⟨v,j,g⟩,H,u⟩:=hJ;dsimp only at o j g H u;rw[dW]at o;have K:dw p=(own,0):=by rw[A,o]
   clear l;rw[K];refine aO @t ab ?_
   all_goals exact⟨v,j,g⟩
 obtain⟨v,j,g,X⟩:=P;have cE:=Zb Tr p (hp.enc X) (by
  refine Jz (q:=none) ?_;have t:gl p.deps=0:=by
   unfold ph at U
   repeat' split at U
   all_goals first|omega|(simp_all;done)
  unfold gl at t;split at t
  ·omega
  ·exact t)
 clear l M;have y:cV p=pc p:=by unfold cV;rw[if_neg (by simpa using X)]
 rw[y];refine bD ?_;by_cases Y:65536<(lZ (ll p)).size
 ·have T:decide (((lZ (ll p)).size:Int)>65536)=true:=by simp;omega
  have L:pc p=(⟨#[]⟩,4):=by unfold pc;rw[if_pos Y]
  have h6:eG p=[]:=by unfold eG;rw[y,L];rfl
  rw[L,h6];refine aO @T @cE ?_
  all_goals exact⟨_,rfl,.inl ⟨rfl,rfl⟩⟩
 ·have T:decide (((lZ (ll p)).size:Int)>65536)=false:=by simp;omega
  have L:pc p=(lZ (ll p),0):=by unfold pc;rw[if_neg Y]
  have h6:eG p=(dw p).1:=by unfold eG;rw[y,L];rfl
  rw[L,h6];rcases id g with⟨rfl,a3⟩|⟨r,rfl,hrv⟩
  ·refine aO (ga @T @j) @cE ?_
   all_goals exact⟨_,rfl,g⟩
  ·refine aO (ga @T @j) @cE ?_
   all_goals exact⟨_,rfl,g⟩
theorem Gp(p:aX)(hp:cz p)(a:du p):aG Tryz.prog 82 [.agg (bc p)] (.tup [.sl 172 ((eG p).map aI),dS (cV p).1,dI (cV p).2]):=by
 obtain⟨d,e,c,v,rfl,hg⟩:=N4 p hp a;refine aG.of_runs c ?_;have b:=hg.deep 2;simp only[bA,dA,b];rfl
theorem Z4(p:aX)(hp:cz p)(b:du p):aG Tryz.prog 61 [.agg (bc p)] (dI (iZ p)):=by
 have a:=Gp p hp b;refine aM (F:=AZ) WG (by simp[AZ]) ?_;simp only[AZ];refine aO ab @a ?_
 all_goals rfl
theorem Gn(p:aX)(hp:cz p)(b:du p):aG Tryz.prog 159 [.agg (bc p)] (.tup [dS (cV p).1,dI (cV p).2]):=by
 have a:=Gp p hp b;refine aM (F:=B3) WJ (by simp[B3]) ?_;simp only[B3];exact bU ab @a
theorem Z5(p:aX)(hp:cz p)(b:du p):aG Tryz.prog 38 [.agg (bc p)] (dI (eG p).length):=by
 have a:=Gp p hp b;refine aM (F:=B1) WI (by simp[B1]) ?_;simp only[B1];exact bU ab @a
theorem G7: ∀(l:List Dg) (x:Dg),x∈di l↔x∈l
 |[],x=>by simp[di]
 |[a],x=>by simp[di]
 |a::b::r,x=>by
  rw[di];have c:=G7 (b::r) x;by_cases h:a=b
  ·subst h;rw[if_pos rfl,c];simp
  ·rw[if_neg h,bM,c];simp
theorem Jj: ∀{l:List Dg},l.Pairwise (fun a b=>j9 a b=true)→dQ (di l)
 |[],_=>List.Pairwise.nil
 |[a],_=>List.pairwise_singleton _ _
 |a::b::r,h=>by
  rw[di];have g:=gY.1 h;have i:=Jj g.2;by_cases e:a=b
  ·rw[if_pos e];exact i
  ·rw[if_neg e];refine gY.2 ⟨fun x f=> ?_,i⟩;rw[G7]at f;have c:bS a b<0:=by
    have:=g.1 b (by simp);simp only[j9,decide_eq_true_eq]at this;rcases Int.lt_or_eq_of_le this with h|h
    ·exact h
    ·exact absurd ((jz a b).1 h) e
   rcases bM.1 f with rfl|f
   ·exact c
   ·have d:=(gY.1 g.2).1 x f;simp only[j9,decide_eq_true_eq]at d;rcases Int.lt_or_eq_of_le d with h|h
    ·exact n0 c h
    ·rw[←(jz b x).1 h];exact c
theorem a3w(l:List Dg):(l.mergeSort j9).Pairwise (fun a b=>j9 a b=true):=by
 refine List.pairwise_mergeSort (fun a b c d e=> ?_) (fun a b=> ?_) l
 ·simp only[j9,decide_eq_true_eq]at*;rcases Int.lt_or_eq_of_le d with h|h
  ·rcases Int.lt_or_eq_of_le e with h'|h'
   ·exact Int.le_of_lt (n0 h h')
   ·rw[←(jz b c).1 h'];exact d
  ·rw[(jz a b).1 h];exact e
 ·simp only[j9,jf,decide_eq_true_eq];have:=uO a b;omega
def qj(c:aC):List Dg:=((fa c).filter fun r=> !isZero r.1.p).map (·.1.p)
def DI(p:aX):List Dg:=p.deps++p.changes.flatMap qj
theorem LP{p:aX}(h:iZ p=0):di ((DI p).mergeSort j9)=cD p:=by
 refine OO (Jj (a3w _)) (Vd p) fun x=> ?_;rw[G7,List.mem_mergeSort];unfold cD;rw[if_neg (by simpa using h),(Dy p.changes _ (yG p.deps [] dQ.nil).1).2 x,(yG p.deps [] dQ.nil).2 x];unfold DI;rw[eJ,uh];have e:=(jy (uH h)).2.2.1
 have hc: ∀c∈p.changes,(x∈qj c↔ ∃y∈kJ c,isZero y.p=false∧y.p=x):=fun c hc=>by
  rw[←a2y (e c hc) x];unfold qj DZ;simp only[bR,ug];constructor
  ·rintro⟨r,⟨b,d⟩,rfl⟩;exact⟨r.1,⟨r,b,rfl⟩,by simpa using d,rfl⟩
  ·rintro⟨y,⟨r,b,rfl⟩,d,rfl⟩;exact⟨r,⟨b,by simpa using d⟩,rfl⟩
 constructor
 ·rintro(h|⟨c,a,h⟩)
  ·exact .inr (.inl h)
  ·exact .inl ⟨c,a,(hc c a).1 h⟩
 ·rintro(⟨c,a,h⟩|h|h)
  ·exact .inr ⟨c,a,(hc c a).2 h⟩
  ·exact .inl h
  ·cases h
theorem Ht(n:Nat)(ds:List D):fv n (ds.map .d)=ds.map .d:=by
 rw[lC,nJ];rfl
theorem a3q(n:Nat)(c:aC)(t:Nat):(mZ c t).shift n=mZ c t:=by
 have h:fv n (p7 c t)=p7 c t:=by unfold p7;split<;>rfl
 show AV.clo (fT t) (fv n []) (fv n (p7 c t))= .clo (fT t) [] (p7 c t);rw[h];rfl
theorem OF(n:Nat)(c:aC): ∀l:List (af×Nat),fv n (rowsC c l)=rowsC c l
 |[]=>rfl
 |p::l=>by
  have a:=OF n c l;show fv n (cy p.1 (mZ c p.2)++rowsC c l)=cy p.1 (mZ c p.2)++rowsC c l;rw[lC,fp,←lC,←lC,a];congr 1;unfold cy;rw[lC,fp,←lC,Ht];show _++[(mZ c p.2).shift n]=_;rw[a3q]
theorem a2F(c:aC)(g:c.over.length≤100000)(s:List aa):b7 Tryz.prog 187 [.d (.agg (aV c))] s fun d b=> ∃J,b=s++J∧((d= .nil 34∧fa c=[])∨ ∃r,d= .vec r (fa c).length 34∧b[r]?=some (.vec 213 34 (rowsC c (fa c)))):=by
 obtain⟨d,b,a,J,rfl,e⟩:=N8 c g;refine⟨_,_,a.frame (xs:=[.d (.agg (aV c))]) rfl s,_,rfl,?_⟩;rcases e.rowsC with⟨rfl,f⟩|⟨r,rfl,hr⟩
 ·exact .inl ⟨rfl,f⟩
 ·refine .inr ⟨s.length+(r+1),rfl,?_⟩;rw[iO a8,mR,bV,List.getElem?_cons_succ,dL,hr];show some (aa.vec 213 34 (fv s.length _))=_;rw[OF]
def oK(v:AV)(s:List aa)(b:List Dg):Prop:=(v= .emp 32∧b=[])∨(b≠[]∧ ∃r,v= .vec r b.length 32∧s[r]?=some (.vec 25 32 (dV b)))
theorem oK.of{v:AV}{s a:List aa}{b:List Dg}(h:oK v s b)(hk: ∀(r:Nat) (ds:List AV),s[r]?=some (.vec 25 32 ds)→a[r]?=some (.vec 25 32 ds)):oK v a b:=by
 rcases h with h|⟨h0,r,h1,h2⟩
 ·exact .inl h
 ·exact .inr ⟨h0,r,h1,hk _ _ h2⟩
theorem RO(l:List Dg)(b:l.length≤1000000)(s:List aa):b7 Tryz.prog 204 [.d (.sl 32 (l.map aP))] s fun d a=>(∃J,a=s++J)∧oK d a l:=by
 cases l with
 |nil=>
  refine(RJ 32 s).mono ?_;rintro d a ⟨rfl,rfl⟩;exact⟨⟨[],by simp⟩,.inl ⟨rfl,rfl⟩⟩
 |cons x l=>
  refine(RL x l (by simp at b;omega) s).mono ?_;rintro d a ⟨rfl,rfl⟩;exact⟨⟨_,rfl⟩,.inr ⟨by simp,s.length,rfl,by simp⟩⟩
theorem S1(s:List aa):b7 Tryz.prog 206 [.emp 32] s fun d b=>bA b 5 d=some (.sl 32 []):=by
 refine b7.of (F:=sI) M5 (by simp[sI]) ?_;simp only[sI];have a:decide ((0:Int)<2)=true:=by decide
 exact bU (ga @a @wj) ab
theorem a3v(v:AV)(s:List aa)(b:List Dg)(h:oK v s b)(f:b.length≤1000000):b7 Tryz.prog 205 [v,.clo 163 [] []] s fun d c=>d=vT∧oK v c (b.mergeSort j9):=by
 rcases h with⟨rfl,rfl⟩|⟨h0,r,rfl,h2⟩
 ·refine(a3r _ s).mono ?_;rintro d c ⟨rfl,rfl⟩;exact⟨rfl,.inl ⟨rfl,by simp⟩⟩
 ·refine(a3s h2 h0 f).mono ?_;rintro d c ⟨rfl,rfl⟩;have g:=(b9.1 h2).1;have a:(b.mergeSort j9).length=b.length:=mP _;refine⟨rfl,.inr ⟨fun e=>h0 (by rw[e]at a;exact fK a.symm),r,by rw[a],?_⟩⟩;rw[eP,if_pos rfl,if_pos g]
theorem S3(v:AV)(s:List aa)(b:List Dg)(h:oK v s b)(a:b.length≤1000000):b7 Tryz.prog 206 [v] s fun d c=>bA c 5 d=some (.sl 32 ((di b).map aP)):=by
 rcases h with⟨rfl,rfl⟩|⟨h0,r,rfl,h2⟩
 ·exact S1 s
 ·exact S2 h2 a
end Go.Proofs.Q
namespace Go.Proofs.Q
open Go Go.Ab Go.Bb
def As:CF:=⟨19, (kq [o7 4 0] (.seq (kq [om 6 0,o9 7 0 6,o7 8 0] (.block 0 (.loop (.trim [8,0,1,7] (kq [o4 9 .lss 8 7] (.seq (kd 9 .skip (.exit 0)) (.seq (.block 1 (kq [om 10 8,om 5 10] (kq [om 11 1,om 12 0,om 13 5,oi 14 37 12 13,o2 15 37 14,o0 16 (.call (.val (.t 11)) [.t 15])] (kd 16 (kq [om 17 5,om 4 17] .ret) .skip)))) (fo [o5 18 .add 8 1,om 8 18])))))))) (kq [kM 4 (xi (-1))] .ret))),[.tmp 4]⟩
theorem Wd:aN Tryz.prog [] 86=some As.erase:=by kernel_rfl
def sX:CF:=⟨18, (kq [ox 3 1,kB 4 mH,kM 5 xF] (kq [om 7 0,o0 8 (.mkf 87 [] [.t 3]),o6 9 86 [.t 7,.t 8],om 6 9] (.seq (kq [om 10 6,o5 11 .lss 10 0] (kd 11 (kq [o0 12 (.bld gy []),o8 5 4 12,kM 5 xF] .ret) .skip)) (kq [om 13 0,om 14 6,oi 15 37 13 14,o1 16 32 15,o2 17 5 16,o8 5 4 17,kM 5 xT] .ret)))),[.cell 4 (some 5),.tmp 5]⟩
theorem Mk:aN Tryz.prog [100003,300012] 46=some sX.erase:=by kernel_rfl
def BB:CF:=⟨8, (kq [ox 2 0,kM 3 xF] (kq [o1 4 0 2,o2 5 32 4,o2 6 32 1,o0 7 (.eqa true eV false (.t 5) (.t 6)),om 3 7] .ret)),[.tmp 3]⟩
theorem Xh:aN Tryz.prog [100002] 87=some BB.erase:=by kernel_rfl
def An:CF:=⟨8, (kq [kM 2 (.c (.nil 37))] (.seq (kq [om 3 0,o0 4 (.isn false (.t 3))] (kd 4 (kq [kM 2 (.c (.nil 37))] .ret) .skip)) (kq [o0 5 (.bsl true 54 37 0 [] []),om 6 0,o0 7 (.app true 54 37 120 (.t 5) (.t 6)),om 2 7] .ret))),[.tmp 2]⟩
theorem W8:aN Tryz.prog [5,7] 112=some An.erase:=by kernel_rfl
end Go.Proofs.Q
namespace Go.Proofs.Q
open Go Go.Bb Go.RowKit Go.Proofs.Lg
open Go.Ab (D RD)
theorem KJ{b:bh}(h:isName b=true):b.size≤40:=by
 unfold isName at h;simp only[er,decide_eq_true_eq]at h;omega
theorem To{b:bh}(h:la b=true):b.size≤1000:=by
 unfold la at h;simp only[er,decide_eq_true_eq]at h;omega
theorem L4: ∀{l:List bh},lg l=0→ ∀s∈l,la s=true
 |[],_,s,a=>by cases a
 |x::l,h,s,a=>by
  rw[lg]at h;split at h
  ·rename_i b;rcases bM.1 a with rfl|a
   ·exact b
   ·exact L4 h s a
  ·cases h
theorem TX{l:List bh}(h:nZ l=0): ∀s∈l,la s=true:=by
 unfold nZ at h;split at h
 ·cases h
 split at h
 ·cases h
 exact L4 h
theorem Sz{c:aC}(h:ft c=0):EO c:=by
 have b:=(pd h).2.2;unfold ft at h;split at h
 ·cases h
 split at h
 ·cases h
 split at h
 ·cases h
 split at h
 ·cases h
 rename_i e;split at h
 ·cases h
 split at h
 ·cases h
 rename_i g;refine⟨fun a=> ?_,by omega,fun d s f=> ?_⟩
 ·have:isName c.name=true:=by
   cases hi:isName c.name with
   |true=>rfl
   |false=>exact absurd ⟨a,hi⟩ e
  have:=KJ this;omega
 ·have:=To (TX (b d) s f);omega
theorem pt:maxLen≤9223372036854775807:=by decide
theorem Q4{p:aX}(h:jn p):z6 p where
 author:=ef h.author pt
 chg:=fun c hc=>⟨⟨ef (h.chg c hc).name pt,fun s a=>ef ((h.chg c hc).line s a) pt⟩,ef (h.chg c hc).over pt⟩
theorem HX{p:aX}(h:jn p):ub p.changes:=⟨ef h.changes pt,fun c hc=>ef (h.chg c hc).over pt⟩
theorem I6{p:aX}(h:jn p){b:Nat}(hb: ∀c∈p.changes,20+c.lines.length+3*c.over.length≤b)(j:b*p.changes.length≤19000):cz p:=by
 refine⟨Q4 h,fun hc=> ?_⟩;obtain⟨e,f,a,_,d,g,_⟩:=jy hc;have hg:fj 6 (ll p):=T4 (by have:=KJ d;omega) a8 fun c hc=>Sz (a c hc);have i:=Vl p b hb;refine⟨by omega,by omega,fun c hc=>⟨(pd (a c hc)).1.1,(pd (a c hc)).1.2,by have:=wY (a c hc);omega,by have:=Fs (a c hc);omega⟩,hg,by omega,?_⟩
 have:=JO 6 _ hg;omega
theorem T6{l:List bh}(h:uW l=false):l.length≤40:=by
 unfold uW at h;simp only[Bool.or_eq_false_iff,decide_eq_false_iff_not]at h;omega
theorem Kq: ∀{l:List aC} {n m:Int},ra l n=some m→ ∀c∈l,c.lines.length≤40∧c.over.length≤40
 |[],_,_,_,c,hc=>by cases hc
 |x::l,n,m,h,c,hc=>by
  rw[ra]at h;split at h
  ·cases h
  rename_i a;rcases bM.1 hc with rfl|hc
  ·refine⟨T6 (by cases hg:uW c.lines with|false=>rfl|true=>exact absurd (.inl hg) a),by omega⟩
  ·exact Kq h c hc
theorem A7{p:aX}(h:jC p=false):p.deps.length≤20∧p.changes.length≤20∧ ∀c∈p.changes,c.lines.length≤40∧c.over.length≤40:=by
 unfold jC at h;split at h
 ·cases h
 ·rename_i m hm;simp only[Bool.or_eq_false_iff,decide_eq_false_iff_not]at h;exact⟨by omega,by omega,Kq hm⟩
theorem ur{p:aX}(h:jn p)(hg:jC p=false):cz p:=by
 obtain⟨_,d,a⟩:=A7 hg;exact I6 h (b:=180) (fun c hc=>by have:=a c hc;omega) a8
theorem Ku{a:Nat}: ∀{s:aD} {i:Nat} {n m:Int},rb a s i n=some m→s.length+i≤a+1→ ∀x∈s,jC x.pat=false
 |[],_,_,_,_,_,x,b=>by cases b
 |y::s,i,n,m,h,hl,x,b=>by
  rw[aY]at hl;rw[rb,if_pos a8]at h;split at h
  ·cases h
  rename_i c;rcases bM.1 b with rfl|b
  ·simpa using c
  ·exact Ku h a8 x b
theorem FG{s:aD}(h:pg s=false):s.length≤8∧ ∀x∈s,jC x.pat=false:=by
 unfold pg uZ at h;split at h
 ·cases h
 ·rename_i m hm;simp only[Bool.or_eq_false_iff,decide_eq_false_iff_not]at h;exact⟨by omega,Ku hm a8⟩
theorem I8{s:aD}(h:iY s)(hg:pg s=false):gE s∧ ∀x∈s,ub x.pat.changes:=by
 obtain⟨c,b⟩:=FG hg;exact⟨⟨by omega,fun x a=>ur (h.pat x a) (b x a)⟩,fun x a=>HX (h.pat x a)⟩
theorem Jh: ∀l:List Dg,(di l).length≤l.length
 |[]=>bk _
 |[x]=>bk _
 |x::y::r=>by
  have:=Jh (y::r);rw[di];split
  ·simp only[aY]at*;omega
  ·simp only[aY]at*;omega
theorem wu{p:aX}(hg:jC p=false):du p:=by
 obtain⟨_,b,a⟩:=A7 hg;exact⟨by omega,fun c hc=>by have:=a c hc;omega⟩
theorem uR{α β:Type}(f:α→List β)(k:Nat): ∀l:List α,(∀x∈l,(f x).length≤k)→(l.flatMap f).length≤l.length*k
 |[],_=>by simp
 |x::l,h=>by
  have b:=h x (by simp);have c:=uR f k l fun y a=>h y (by simp[a]);rw[lR,aR,aY,fe];omega
theorem Ve{p:aX}(hc:iZ p=0)(hg:jC p=false):(cD p).length≤100000:=by
 obtain⟨d,e,b⟩:=A7 hg;rw[←LP hc];refine ef (Jh _) ?_;rw[mP];unfold DI;rw[aR];have:=uR qj 100 p.changes fun c a=>by
  unfold qj;rw[aQ];refine ef (List.length_filter_le _ _) ?_;have f:=Ha c;have:=b c a;omega
 omega
theorem Fy{s:aD}(h:iY s)(a:ia ar s=true):gE s∧s.length≤1000∧ ∀x∈s,(cz x.pat∧du x.pat)∧(cD x.pat).length≤100000:=by
 have hg:pg s=false:=by unfold ia at a;simp at a;exact a.1
 have e:dD ar s:=F8 ar (by unfold ia at a;simp at a;exact a.2);obtain⟨f,c⟩:=FG hg;refine⟨(I8 h hg).1,by omega,fun x b=>⟨⟨ur (h.pat x b) (c x b),wu (c x b)⟩,Ve ?_ (c x b)⟩⟩;have:=(e.id x b).1;unfold bq at this;unfold iZ;by_cases d:(cV x.pat).2≠0
 ·rw[if_pos d]at this;exact absurd this d
 ·exact iy d
end Go.Proofs.Q
namespace Go.Proofs.Lh
open Go Go.Ab Go.Bb Go.RowKit Go.Proofs.Lg
theorem Ae: ∃i z,Tryz.prog.info? 54=some i∧i.size=37∧i.zero=some z∧z.cells.size=37∧(∀u∈z.cells,u.oneCell'=true)∧0<i.bytes∧i.bytes≤1000:=by
 have h:(Tryz.prog.info? 54).elim false (fun i=>i.size==37&&decide (0<i.bytes)&&decide (i.bytes≤1000)&&i.zero.elim false fun z=>z.cells.size==37&&z.cells.all (·.oneCell'))=true:=by kernel_rfl
 cases hi:Tryz.prog.info? 54 with
 |none=>rw[hi]at h;cases h
 |some i=>
  rw[hi]at h;cases a:i.zero with
  |none=>simp[a]at h
  |some z=>
   simp[a]at h;exact⟨i,z,rfl,h.1.1.1,a,h.2.1,fun u c=>by obtain⟨j,b,rfl⟩:=Array.mem_iff_getElem.1 c;exact h.2.2 j b,h.1.1.2,h.1.2⟩
set_option maxHeartbeats 400000 in
set_option maxRecDepth 100000 in
theorem I1(w:World)(a:Option Addr)(n c:Nat)(b:Option Addr)(d:Nat){f:Value}{g:World}(h:n≤c)
  (i: ∀j,(Builtin.append_ #[23,22] j #[.slice a n c,.slice b 1 d]).run Tryz.prog w= .ok f g):
  Calls Tryz.prog 111 #[.slice a n c,.int .i64 n,.slice b 1 d] w fun e w'=>e= .returned f∧w'=g:=by
 go_enter Tryz.func111,Tryz.ntmps111
 go_wp2_with (at_builtin;refine Go.Lib.wpList_append_run _ rfl _ _ _ _ rfl _ _ rfl rfl _ _ (i _) ?_)
 all_goals(go_ret;exact⟨rfl,rfl⟩)
theorem Ec{P:Program}(w:World)(t s v e:TypeId)(i:TypeInfo)(r:P.underlying t=some (.slice e))(hi:P.info? e=some i)(g o c l:Nat)(cur:Array Value)(T:TypeId)(hg:w.heap[g]?=some (.cells cur T (0,0)))(a:Addr)(b h k:Nat)(news:List Value)(hk:Nat.min b c=k)(p:news.length=k*i.size)
  (q: ∀j u,news[j]?=some u→w.cell? (a.add j)=some u) (m: ∀u∈news,u.oneCell'=true) (d:o+news.length≤cur.size):
  (Builtin.copy_ #[t,s] v #[.slice (some ⟨g,o,none⟩) c l,.slice (some a) b h]).run P w= .ok (goInt k) (w.setRow g (cur.toList.take o++news++cur.toList.drop (o+news.length)).toArray):=by
 have f:=run_storeCells_at P g o T news 0 cur w hg (by simpa using d) m;simp only[aE]at f;have n:=run_firstCells_some (P:=P) w i.size k a b h news p q;subst hk;simp[Builtin.copy_,run_underlying r,Builtin.lenOf,sizeOf,typeInfo,hi,n,f]
theorem PC(w:World){P:Program}{o:Oper}{a:Act}{K:Act→World→Prop}{Q:Exit→Act→World→Prop}(d s:Operand)(t b:TypeId)
  (f:o.op= .call {callee:= .builtin .copy,args:= #[d,s],argTypes:= #[t,b]}) (v u:Value) (e:a.eval d=v) (i:a.eval s=u) {c:Value} {w':World}
  (g:(Builtin.copy_ #[t,b] o.type #[v,u]).run P w= .ok c w') (h:K (a.put o.dst c) w'):o.wp P a w K Q:=by
 unfold Oper.wp execOp;simp only[f,resolve,invoke,builtin,bF,bZ,bL,s9,bV,e8,e,i,g];exact h
theorem a4j(w:World){P:Program}{ops:Array Oper}{rest:List Oper}{o:Oper}{a:Act}{Q:Exit→Act→World→Prop}(b:o.guard=none)(d s:Operand)(t c:TypeId)
  (i:o.op= .call {callee:= .builtin .copy,args:= #[d,s],argTypes:= #[t,c]}) (v u:Value) (g:a.eval d=v) (k:a.eval s=u) {e:Value} {w':World}
  (j:(Builtin.copy_ #[t,c] o.type #[v,u]).run P w= .ok e w') (h:wpList P ops Q rest (a.put o.dst e) w'):wpList P ops Q (o::rest) a w:=
 wpList_plain b fun _ f=>PC w d s t c i v u g k j (f _ _ h)
theorem OV{P:Program}{ops:Array Oper}{o:Oper}{a:Act}{w:World}{K:Act→World→Prop}{Q:Exit→Act→World→Prop}{E:Prop}
  (hg:o.guard=none) (d x:Operand) (b e:TypeId) (c:o.op=Op.call {callee:=Callee.builtin Builtin.copy,args:= #[d,x],argTypes:= #[b,e]})
  (v u:Value) (h:a.eval d=v) (k:a.eval x=u) {f:Value} {w':World} (i:(Builtin.copy_ #[b,e] o.type #[v,u]).run P w= .ok f w') (g:K (a.put o.dst f) w'):
  if Region.wanted o (yielded ops a.tmps)=true then Oper.wp P o a w K Q else E:=by
 have j:Region.wanted o (yielded ops a.tmps)=true:=by simp[Region.wanted,hg]
 rw[if_pos j];exact PC w d x b e c v u h k i g
set_option maxHeartbeats 4000000 in
set_option maxRecDepth 100000 in
theorem Q1(w:World)(g n c i h C E:Nat)(cur a:Array Value)(us news:List Value)(hi:i<n)(L:n+1≤c)(X:c≤9223372036854775807)(G:h≠g)(hg:w.heap[g]?=some (.cells cur 54 (0,0)))(d:cur.size=c*37)(q:cur.toList.take (n*37)=us)(t: ∀u∈us,u.oneCell'=true)
  (H:w.heap[h]?=some (.cells a 54 (0,0))) (hc2s:a.size=E*37) (hc2p:1≤E) (b:a.toList.take 37=news) (l: ∀u∈news,u.oneCell'=true):
  Calls Tryz.prog 111 #[.slice (some ⟨g,0,none⟩) n c,.int .i64 i,.slice (some ⟨h,0,none⟩) 1 C] w fun e w'=>e= .returned (.slice (some ⟨g,0,none⟩) (n+1) c)∧
   ∃A:Array Value,w'=w.drew.setRow g A∧A.size=c*37∧A.toList.take ((n+1)*37)=us.take (i*37)++news++us.drop (i*37):=by
 obtain⟨J,z,k,y,_⟩:=Ae;have K: ∀M cb,(callFunc 168 #[.slice (some ⟨h,0,none⟩) 1 C,.slice (some ⟨g,(i+1)*37,none⟩) M cb]).run Tryz.prog w= .ok (.value (.bool false)) w:=fun M cb=>by
  rw[run_callFunc_extern Tryz.func168 (by kernel_rfl) (by kernel_rfl) (by kernel_rfl) (e:=Extern.SlicesOverlaps.overlaps #[22,22] #[4]) (by kernel_rfl),
   Go.Lib.run_overlaps_apart w 22 4 54 Tryz.underlying22 37 (fun w=>by simp[sizeOf,typeInfo,k,y]) ⟨h,0,none⟩ ⟨g,(i+1)*37,none⟩ 1 C M cb G 54 54 a.size cur.size (by simp[World.shape?,H]) (by simp[World.shape?,hg]) a8 (by simp[World.frozen?,H]) (by simp[World.frozen?,H])]
  rfl
 have a2: ¬((i:Int)=(n:Int)):=by omega
 have a0:IntKind.i64.wrap ((i:Int)+1)=(i:Int)+1:=by rw[IntKind.wrap_i64];omega
 have a1:IntKind.i64.wrap ((n:Int)+1)=(n:Int)+1:=by rw[IntKind.wrap_i64];omega
 have T:(0:Int)≤(i:Int)+1:=by omega
 have Y:i≤n:=by omega
 have Z:((i:Int)+1).toNat=i+1:=by omega
 have U: ¬(c=i+1):=by omega
 have V:(i:Int)≤(n:Int)+1:=by omega
 have W: ¬(c=i):=by omega
 have O: ¬((c:Int)<(n:Int)+1):=by omega
 have p:us.length=n*37:=by rw[←q,ck,gz,d];omega
 have f:news.length=37:=by rw[←b,ck,gz,hc2s];omega
 have m:(us.drop (i*37)).length=(n-i)*37:=by rw[aA,p];omega
 have x:w.drew.heap[g]?=some (.cells cur 54 (0,0)):=hg;have r: ∀B v N,(Builtin.copy_ #[23,23] B #[.slice (some ⟨g,(i+1)*37,none⟩) (n-i) v,.slice (some ⟨g,i*37,none⟩) (n+1-i) N]).run Tryz.prog w.drew= .ok (goInt (n-i:Nat)) (w.drew.setRow g (cur.toList.take ((i+1)*37)++us.drop (i*37)++cur.toList.drop ((i+1)*37+(us.drop (i*37)).length)).toArray):=fun B v N=>
  Ec (P:=Tryz.prog) w.drew 23 23 B 54 J Tryz.underlying23 k g ((i+1)*37) (n-i) v cur 54 x ⟨g,i*37,none⟩ (n+1-i) N (n-i) (us.drop (i*37)) (by simp only[Nat.min_def];split<;>omega) (by rw[y];exact m)
   (fun j u o=>by
    rw[fi,World.cell?_drew,cell_of_row w g _ cur _ _ hg];rw[fm,←q,eY]at o;split at o
    ·simpa using o
    ·cases o) (fun u hu=>t u (wg hu)) (by rw[m,d];omega)
 have hA1l:(cur.toList.take ((i+1)*37)++us.drop (i*37)++cur.toList.drop ((i+1)*37+(us.drop (i*37)).length)).length=c*37:=by
  simp only[aR,ck,aA,gz,d,p];omega
 have hA1t:(cur.toList.take ((i+1)*37)++us.drop (i*37)++cur.toList.drop ((i+1)*37+(us.drop (i*37)).length)).take (i*37)=us.take (i*37):=by
  rw[bj,gj (by rw[ck,gz,d];omega),se,←q,se];congr 1;omega
 have hA1d:((cur.toList.take ((i+1)*37)++us.drop (i*37)++cur.toList.drop ((i+1)*37+(us.drop (i*37)).length)).drop ((i+1)*37)).take ((n-i)*37)=us.drop (i*37):=by
  rw[bj,List.drop_left' (by rw[ck,gz,d];omega),wm m]
 generalize cur.toList.take ((i+1)*37)++us.drop (i*37)++cur.toList.drop ((i+1)*37+(us.drop (i*37)).length)=A1 at r hA1l hA1t hA1d;have F:=setRow_heap w.drew g cur A1.toArray 54 (0,0) x;have I:(w.drew.setRow g A1.toArray).heap[h]?=some (.cells a 54 (0,0)):=(setRow_other w.drew g h _ G).trans H
 have s: ∀B v,(Builtin.copy_ #[23,22] B #[.slice (some ⟨g,i*37,none⟩) (n+1-i) v,.slice (some ⟨h,0,none⟩) 1 C]).run Tryz.prog (w.drew.setRow g A1.toArray)= .ok (goInt (1:Nat)) ((w.drew.setRow g A1.toArray).setRow g (A1.toArray.toList.take (i*37)++news++A1.toArray.toList.drop (i*37+news.length)).toArray):=fun B v=>
  Ec (P:=Tryz.prog) _ 23 22 B 54 J Tryz.underlying23 k g (i*37) (n+1-i) v A1.toArray 54 F ⟨h,0,none⟩ 1 C 1 news (by simp only[Nat.min_def];split<;>omega) (by rw[y,f])
   (fun j u o=>by
    rw[fi,aw,cell_of_row _ h _ a _ _ I];rw[←b,eY]at o;split at o
    ·simpa using o
    ·cases o) l (by rw[f,kU,hA1l];omega)
 have hA2s:(A1.toArray.toList.take (i*37)++news++A1.toArray.toList.drop (i*37+news.length)).toArray.size=c*37:=by
  simp only[kU,aR,ck,aA,f,hA1l];omega
 have D:(A1.toArray.toList.take (i*37)++news++A1.toArray.toList.drop (i*37+news.length)).toArray.toList.take ((n+1)*37)=us.take (i*37)++news++us.drop (i*37):=by
  show((A1.take (i*37)++news++A1.drop (i*37+news.length))).take ((n+1)*37)=_;rw[hA1t,f];have Q:(us.take (i*37)++news).length=(i+1)*37:=by rw[aR,ck,p,f];omega
  have R:(n+1)*37=(us.take (i*37)++news).length+(n-i)*37:=by rw[Q];omega
  have S:i*37+37=(i+1)*37:=by omega
  rw[R,List.take_length_add_append,S,hA1d]
 generalize hA2e:(A1.toArray.toList.take (i*37)++news++A1.toArray.toList.drop (i*37+news.length)).toArray=A2 at s hA2s D;clear hA2e hA1l hA1t hA1d F I hg H q b t l m p f d hc2s x;have mixed:Tryz.prog.follows Departure.mixedOrders=true:=by kernel_rfl
 go_enter Tryz.func111,Tryz.ntmps111
 go_wp2_with (simp only[K])
 go_region_law_o (refine OV rfl _ _ 23 23 rfl _ _ (by simp[Act.eval,Act.put]) (by simp[Act.eval,Act.put]) (r _ _ _) ?_)
 go_wp2_with (at_builtin;refine a4j _ rfl _ _ 23 22 rfl _ _ rfl rfl (s _ _) ?_)
 all_goals(go_ret;exact⟨rfl,_,by rw[setRow_setRow],hA2s,D⟩)
end Go.Proofs.Lh
