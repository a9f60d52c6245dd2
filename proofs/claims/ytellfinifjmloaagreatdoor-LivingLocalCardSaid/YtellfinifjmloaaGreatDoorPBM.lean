/- Lemmas. -/
import Derived.Test.YtellfinifjmloaaGreatDoorPBL
set_option linter.unusedVariables false
set_option linter.unusedSimpArgs false
namespace Go.Proofs.Q
open Go Go.Bb Go.RowKit Go.Proofs.Lg
open Go.Ab (D RD)
theorem Gt{s:aD}(g:dQ (bs s))(d:Dg):putAt d s 0≤s.length∧(∀(k:Nat) (x:bT),s[k]?=some x→k<putAt d s 0→decide (bS x.id d<0)=true)∧(∀(k:Nat) (x:bT),s[k]?=some x→putAt d s 0≤k→decide (bS x.id d<0)=false):=by
 have key: ∀(s:aD) (n:Nat),dQ (bs s)→ ∃j,putAt d s n=n+j∧j≤s.length∧(∀(k:Nat) (x:bT),s[k]?=some x→k<j→decide (bS x.id d<0)=true)∧(∀(k:Nat) (x:bT),s[k]?=some x→j≤k→decide (bS x.id d<0)=false):=by
  intro s
  induction s with
  |nil=>intro n _;exact⟨0,rfl,bk _,by simp,by simp⟩
  |cons y s r=>
   intro n g;obtain⟨l,m⟩:=gY.1 (show dQ (y.id::bs s)from g);rw[putAt];by_cases h:bS y.id d<0
   ·obtain⟨j,a,i,b,c⟩:=r (n+1) m;rw[if_pos h];refine⟨j+1,by omega,by simp;omega,fun k x hk e=> ?_,fun k x hk q=> ?_⟩
    ·cases k with
     |zero=>simp at hk;subst hk;simpa using h
     |succ k=>exact b k x (by simpa using hk) a8
    ·cases k with
     |zero=>omega
     |succ k=>exact c k x (by simpa using hk) a8
   ·rw[if_neg h];refine⟨0,rfl,fy _,fun k x hk e=>by omega,fun k x hk _=> ?_⟩;cases k with
    |zero=>simp at hk;subst hk;simpa using h
    |succ k=>
     have hm:x.id∈bs s:=fV (f:=bT.id) (bX (by simpa using hk));have o:=l x.id hm;rw[decide_eq_false_iff_not];intro p;exact h (n0 o p)
 obtain⟨j,a,i,b,c⟩:=key s 0 g;rw[aw]at a;rw[a];exact⟨i,b,c⟩
theorem Kl{s:aD}(j:dQ (bs s))(d:Dg):cW (bs s) d=(decide (putAt d s 0<s.length)&&match s[putAt d s 0]? with|none=>false|some x=>bS x.id d==0):=by
 obtain⟨v,p,q⟩:=Gt j d;rw[mJ,ng];constructor
 ·intro hm;obtain⟨x,u,rfl⟩:=bR.1 hm;obtain⟨k,hk⟩:=fU u;have r:=(b9.1 hk).1;have n:putAt x.id s 0≤k:=by
   apply iy;intro a;have:=p k x hk a8;exact qX _ (by simpa using this)
  obtain⟨y,b⟩:=kb (l:=s) (i:=putAt x.id s 0) a8;have c:=q _ y b (bk _);have o:y.id=x.id:=by
   rcases Nat.lt_or_eq_of_le n with a|heq
   ·exfalso;obtain⟨hp,e⟩:=b9.1 b;obtain⟨t,m⟩:=b9.1 hk;have:=qE.1 (List.pairwise_map.1 j) (putAt x.id s 0) k hp t a;rw[e,m]at this;rw[decide_eq_false_iff_not]at c;exact c this
   ·rw[heq,hk]at b;rw[aJ b]
  rw[b];simp only[er,decide_eq_true_eq];exact⟨by omega,by rw[o,(jz x.id x.id).2 rfl];rfl⟩
 ·intro h;simp only[er,decide_eq_true_eq]at h;obtain⟨a,g⟩:=h;obtain⟨y,b⟩:=kb (l:=s) (i:=putAt d s 0) a;rw[b]at g;have:y.id=d:=(jz _ _).1 (by simpa using g);rw[←this];exact fV (f:=bT.id) (bX b)
theorem ZF(x:bT)(d:Dg):aG Tryz.prog 162 [.agg (b5 x),.agg (aP d)] (dI (bS x.id d)):=by
 refine aM (F:=BT) Xz (by simp[BT]) ?_;simp only[BT]
 repeat' first|refine ae (fun _=> ?_) fun _=> ?_|refine ay @wj @yr ?_|exact ax @wj @yr|fail
 all_goals first|rfl|(rename_i h;rw[h])
set_option maxHeartbeats 1000000 in
theorem Rb(s:aD)(E:s.length≤1000000)(y:dQ (bs s))(d:Dg)(st:List aa):b7 Tryz.prog 161 [.d (.sl 37 (s.map b5)),.d (.agg (aP d)),.clo 162 [] []] st fun v p=>v= .tup [iN (putAt d s 0),.d (dB (cW (bs s) d))]∧p=st:=by
 obtain⟨r,t,u⟩:=Gt y d;have a:=Kl y d;have cc:=fun x=>ZF x d;generalize putAt d s 0=P at r t u a⊢;generalize cW (bs s) d=B at a⊢;refine b7.of (F:=Al) W6 (by simp[Al]) ?_;simp only[Al]
 repeat' first|refine ae (fun _=> ?_) fun _=> ?_|refine ay @wj ab ?_|exact ax @wj ab|fail
 refine aZ.tr (fun(b:Nat×Nat)=>[(9,iN b.1),(10,iN b.2)]) (fun _=>st) (fun m b=>m+b.1=b.2∧b.1≤P∧P≤b.2∧b.2≤s.length) s.length (0,s.length) aB aB rfl ⟨by omega,by omega,r,bk _⟩ ?_;rintro m ⟨i,j⟩ ⟨hm,hi,C,n⟩;dsimp only at hm hi C n⊢;by_cases D:i<j
 ·obtain⟨z,v2,v3,v4⟩:=uX (i:=i) (j:=j) a8;obtain⟨x,c⟩:=kb (l:=s) (i:=(i+j)/2) a8;have f:decide ((i:Int)<(j:Int))=true:=by simp;omega
  have v5:IntKind.i64.wrap ((((i+j)/2:Nat):Int)+1)=(((i+j)/2+1:Nat):Int):=bE a8 a8;clear a;by_cases A:(i+j)/2<P
  ·have k:=t _ x c A
   repeat' first|refine ae (fun _=> ?_) fun _=> ?_|refine aL ?_|refine aq.data (cc _) rfl ?_|simp only[f,z,v2,v3,v4,v5,c,k,Int.reduceLE,wj,wy,qg,aH,reduceCtorEq,reduceIte,Nat.reduceAdd,Nat.reduceMul,Nat.reduceEqDiff,Nat.reduceLT,Nat.reduceLeDiff,Nat.reduceSub,aA,aF,aE,aw]
   exact⟨j-((i+j)/2+1),((i+j)/2+1,j),by omega,⟨rfl,rfl⟩,by omega,by dsimp only;omega,by dsimp only;omega,by dsimp only;omega⟩
  ·have k:=u _ x c a8
   repeat' first|refine ae (fun _=> ?_) fun _=> ?_|refine aL ?_|refine aq.data (cc _) rfl ?_|simp only[f,z,v2,v3,v4,v5,c,k,Int.reduceLE,wj,wy,qg,aH,reduceCtorEq,reduceIte,Nat.reduceAdd,Nat.reduceMul,Nat.reduceEqDiff,Nat.reduceLT,Nat.reduceLeDiff,Nat.reduceSub,aA,aF,aE,aw]
   exact⟨(i+j)/2-i,(i,(i+j)/2),by omega,⟨rfl,rfl⟩,by dsimp only;omega,by dsimp only;omega,by dsimp only;omega,by dsimp only;omega⟩
 ·have f:decide ((i:Int)<(j:Int))=false:=by simp;omega
  have e:i=P:=by omega
  subst e;by_cases o:i<s.length
  ·have g:decide ((i:Int)<(s.length:Int))=true:=by simp;omega
   obtain⟨x,c⟩:=kb (l:=s) (i:=i) o;rw[c,decide_eq_true o]at a;simp only[s5]at a;obtain⟨q,w⟩: ∃q,q=(bS x.id d==0):=⟨_,rfl⟩
   rw[←w]at a;subst a
   repeat' first|simp only[←w]|refine ae (fun _=> ?_) fun _=> ?_|refine ay (ga @f (ga @g (ga @c @wj))) @cc ?_|exact ax (ga @f (ga @g (ga @c @wj))) @cc|fail
   all_goals first|rfl|(rename_i h;rw[h])
  ·have g:decide ((i:Int)<(s.length:Int))=false:=by simp;omega
   rw[decide_eq_false o]at a;simp only[Bool.false_and]at a;subst a
   repeat' first|refine ae (fun _=> ?_) fun _=> ?_|refine ay (ga @f (ga @g @wj)) ab ?_|exact ax (ga @f (ga @g @wj)) ab|fail
   all_goals first|rfl|(rename_i h;rw[h])
theorem Na(s:aD)(b:s.length≤1000000)(c:dQ (bs s))(d:Dg):aG Tryz.prog 106 [.sl 37 (s.map b5),.agg (aP d)] (.tup [dI (putAt d s 0),dB (cW (bs s) d)]):=by
 have a:=fun st=>Rb s b c d st;refine aM (F:=BS) Xy (by simp[BS]) ?_;simp only[BS]
 repeat' first|refine ae (fun _=> ?_) fun _=> ?_|refine ay (ga @ba @wj) @a ?_|exact ax (ga @ba @wj) @a|fail
 all_goals first|rfl|(rename_i h;rw[h])
end Go.Proofs.Q
namespace Go.Proofs.Lh
open Go Go.Ab Go.Bb Go.RowKit Go.Proofs.Lg
def nz(s:List aa)(id n:Nat):Option (List AV):=match s[id]? with
 |some (.vec e sz ds)=>if e=54∧sz=37∧ds.length=n*37 then some ds else none
 |_=>none
theorem Ew{s:List aa}{id n:Nat}{ds:List AV}(h:nz s id n=some ds):s[id]?=some (.vec 54 37 ds)∧ds.length=n*37:=by
 unfold nz at h;split at h
 ·rename_i e sz a d;obtain⟨⟨rfl,rfl,b⟩,c⟩:=Ag h;obtain rfl:=aJ c;exact⟨d,b⟩
 ·cases h
section
variable {LL:Nat→Code→CC→Prop} {s:List aa}
theorem HL{B:Nat}{k:aU}{w:World}(f:St LL B k s w){id n:Nat}{ds:List AV}(q:nz s id n=some ds){v:Value}(p:RA k w v (.vec id n 37)):
  ∃xs,k.own[id]?=some (.row v n)∧w.ownsRow B 54 37 v n xs∧(∀g,v.ownBlock=some g→k.I g=0)∧bO k w xs ds:=by
 obtain⟨d,m⟩:=Ew q;obtain⟨_,u,r,a,o,c⟩:=p.vec_inv;obtain⟨v2,t,xs,i,b,l,j,h⟩:=f.vec d;rw[a]at i;cases i;have e:n=r:=by
  rw[m]at j;exact kX (by decide) j
 subst e;rw[c rfl];exact⟨xs,by rw[a],b,l,h⟩
theorem DC{B:Nat}{w:World}{v:Value}{xs:List Value}(h:w.ownsRow B 54 37 v 1 xs): ∃g c cur,v= .slice (some ⟨g,0,none⟩) 1 c∧w.heap[g]?=some (.cells cur 54 (0,0))∧1≤c∧cur.size=c*37∧cur.toList.take 37=xs:=by
 rcases h.2 with⟨_,a⟩|⟨g,c,cur,h1,h2,h3,h4,h5,h6,h7⟩
 ·cases a
 ·exact⟨g,c,cur,h1,h3,h4,h6,by simpa using h7⟩
theorem OP{B:Nat}{w:World}{v:Value}{xs:List Value}{ds:List AV}{k:aU}(h:w.ownsRow B 54 37 v 1 xs)(d:bO k w xs ds){sz:Nat}(a:sz=37):Src Tryz.prog sz 22 v 1 xs w:=by
 subst a;obtain⟨g,c,cur,rfl,e,_⟩:=DC h;exact Src.ofSlice (P:=Tryz.prog) w Tryz.underlying22 ⟨g,0,none⟩ 1 c xs h.1 (fun j u b=>h.cells (g:=g) rfl j u b) d.2.1
end
theorem Ip(t a b:TypeId)(v x:Value):Builtin.append_ #[t,a] b #[v,x]=Builtin.append_ #[t,a] t #[v,x]:=rfl
theorem I3{s:List aa}{id id2 n i:Nat}{ds es:List AV}(hv:nz s id n=some ds)(he:nz s id2 1=some es)(hne:id≠id2)(hi:i≤n)(hn:n≤100000):
  gA (eu Tryz.prog) Tryz.prog 111 [.vec id n 37,.d (.sc (.int .i64 i)),.vec id2 1 37] s (.vec id (n+1) 37) (s.set id (.vec 54 37 (ds.take (i*37)++es++ds.drop (i*37)))):=by
 refine⟨enters_fn' Tryz.func111 rfl (by rfl),fun B k w vs p C=> ?_⟩
 match vs,C with
 |[v,iv,v2],C=>
  obtain⟨xs,M,a,hI,G⟩:=HL p hv (C.2 0 v _ rfl rfl);have c5:=(C.2 1 iv _ rfl rfl).d_inv;cases c5;obtain⟨news,a6,l,_,f⟩:=HL p he (C.2 2 v2 _ rfl rfl);obtain⟨_,b7⟩:=Ew hv;obtain⟨_,b8⟩:=Ew he;obtain⟨Q,z,a5,E,hz,c9,d3,d0,X⟩:=Ae;have b5:xs.length=n*37:=a.1;have b0:news.length=37:=l.1
  have L:=(b9.1 M).1;have d1:i*37≤n*37:=iP _ hi;have a7:(ds.take (i*37)++es++ds.drop (i*37)).length=(n+1)*37:=by simp only[aR,ck,aA,b7,b8];omega
  have b2: ∀{k':aU} {w':World},Mono k w k' w'→bO k' w' (xs.take (i*37)++news++xs.drop (i*37)) (ds.take (i*37)++es++ds.drop (i*37)):=fun hm=>
   (((G.mono hm).take _).append (f.mono hm)).append ((G.mono hm).drop _)
  have D: ∀(H:Value) (w':World) (W:Nat),w'.ownsRow B 54 37 H (n+1) (xs.take (i*37)++news++xs.drop (i*37))→Below B w w'→H.ownBlock=some W→(v.ownBlock=some W∨(W=w.heap.size∧w.heap.size<w'.heap.size))→(∀b,b<w.heap.size→b≠W→w'.heap[b]?=w.heap[b]?)→
    ∃k',RA k' w' H (.vec id (n+1) 37)∧Ext B k w k' w'∧St (eu Tryz.prog) B k' (s.set id (.vec 54 37 (ds.take (i*37)++es++ds.drop (i*37)))) w':=fun H w' W V h2 h3 h4 h5=>by
   obtain⟨he,c6⟩:=p.grow (m:=1) (x0:=0) (x:=0) (ob:= .vec 54 37 (ds.take (i*37)++es++ds.drop (i*37))) M hI (by decide) (bk _) h2 h3 h4 h5 (fun _ q u hq _=>by omega)
    fun N=>⟨_,V,fun g hg=>by rw[h3]at hg;cases hg;exact fI ..,a7,b2 N⟩
   exact⟨_,.vec (xP V) ⟨H,n+1,by simp[L],bk _,fun _=>rfl⟩,he,c6⟩
  rcases Nat.lt_or_ge i n with hlt|a2
  ·rcases a.2 with⟨_,h0⟩|⟨g,c,cur,hvv,hgB,hg,a9,hcm,hcs,htake⟩
   ·omega
   ·obtain⟨h,U,r,F,hh,Y,Z,a1⟩:=DC l;have a3:h≠g:=fun e=>p.apart id id2 _ _ g hne M a6 (by rw[hvv];rfl) (by rw[F,e];rfl);have c7:v.ownBlock=some g:=by rw[hvv];rfl
    have d2:g<w.heap.size:=(fB.1 hg).1;unfold maxLen at hcm;rw[hvv,F];by_cases y:n+1≤c
    ·refine(Q1 w g n c i h U U cur r xs news hlt y a8 a3 hg hcs htake G.2.1 hh Z Y a1 f.2.1).mono ?_;rintro e w' ⟨rfl,A,rfl,I,J⟩;have b1: ∀b,b<w.heap.size→b≠g→(w.drew.setRow g A).heap[b]?=w.heap[b]? :=fun b hb hne=>setRow_other w.drew g b _ hne;have c3:(w.drew.setRow g A).heap[g]?=some (.cells A 54 (0,0)):=setRow_heap w.drew g cur A _ (0,0) hg
     obtain⟨k',R,S,T⟩:=D (.slice (some ⟨g,0,none⟩) (n+1) c) _ g
      ⟨by simp only[aR,ck,aA,b5,b0];omega,.inr ⟨g,c,A,rfl,hgB,c3,y,by unfold maxLen;omega,I,J⟩⟩
      ⟨rfl,rfl,rfl,by rw[setRow_size];exact bk _,fun j hj=>setRow_other w.drew g j _ a8⟩ rfl (.inl c7) b1
     exact⟨_,k',rfl,R,S,T⟩
    ·obtain rfl:c=n:=by omega
     refine(Q0 w g c i h U U cur r xs news hlt a8 a3 hg hcs htake G.2.1 hh Z Y a1 f.2.1).mono ?_;rintro e w' ⟨gc,A,a2,c4,rfl,b6,I,J,a4,b3⟩;obtain⟨k',R,S,T⟩:=D (.slice (some ⟨w.heap.size,0,none⟩) (c+1) gc) w' w.heap.size
      ⟨by simp only[aR,ck,aA,b5,b0];omega,.inr ⟨w.heap.size,gc,A,rfl,p.base,b6,a2,c4,I,J⟩⟩
      ((Below.refl _ _).grown a4 p.base (by simp)) rfl (.inr ⟨rfl,b3⟩) (fun b hb _=>a4.block b hb (by simp))
     exact⟨_,k',rfl,R,S,T⟩
  ·obtain rfl:i=n:=by omega
   have O:dO w B 54 Q.size v i xs:=by rw[E];exact dO.of a
   obtain⟨H,w2,hr,t,hR⟩:=Oj (P:=Tryz.prog) w B 23 22 23 54 Q z Tryz.underlying23 a5 hz (by rw[E];exact c9) v i xs O v2 1 news (OP l f E) a8
    (by
      have V:(i+1)*Q.bytes≤(i+1)*1000:=Nat.mul_le_mul_left _ X;omega) p.base
   rw[E]at t hR;obtain⟨a0,c0,b4⟩:=xP a;obtain⟨h,U,r,F,_⟩:=DC l;have a9:i≤c0:=by
    rw[b4]at a;rcases a.2 with⟨V,h2⟩|⟨g,cap,cur,V,_,_,hh,_⟩
    ·omega
    ·simp at V;omega
   rw[b4,F]at hr⊢;have c8:xs.take (i*37)++news++xs.drop (i*37)=xs++news:=by
    rw[dq a8,yU a8,bg]
   refine(I1 w a0 i c0 (some ⟨h,0,none⟩) U a9 fun ty=>by rw[Ip];exact hr).mono ?_;rintro e w' ⟨rfl,rfl⟩;rcases t with⟨h0,_⟩|⟨_,hG,hb,hc⟩
   ·cases h0
   ·have o:=hR (by decide) a;rw[←c8]at o;rcases hc with⟨g,c1,c2,K⟩|⟨hg,hlt,K⟩
    ·obtain⟨k',R,S,T⟩:=D H w' g o hb c1 (.inl c2) fun b hb hne=>K.block b hb (by simpa using hne);exact⟨_,k',rfl,R,S,T⟩
    ·obtain⟨k',R,S,T⟩:=D H w' w.heap.size o hb hg (.inr ⟨rfl,hlt⟩) fun b hb _=>K.block b hb (by simp);exact⟨_,k',rfl,R,S,T⟩
theorem I2{s s2:List aa}{x:AV}(hx: ∀(k:aU) (w:World) (v:Value),RA k w v x→ ∃a,v= .slice a 0 0){id2:Nat}{es:List AV}(he:nz s id2 1=some es)(J:fw s s2){m:Nat}(hm:gi s2 m 1):
  gA (eu Tryz.prog) Tryz.prog 111 [x,.d (.sc (.int .i64 0)),.vec id2 1 37] s2 (.vec m 1 37) (fill s2 m [.vec 54 37 es]):=by
 refine⟨enters_fn' Tryz.func111 rfl (by rfl),fun B k w vs n o=> ?_⟩
 match vs,o with
 |[v,iv,v2],o=>
  obtain⟨a,rfl⟩:=hx k w v (o.2 0 v _ rfl rfl);have O:=(o.2 1 iv _ rfl rfl).d_inv;cases O;have H:=o.2 2 v2 _ rfl rfl;obtain⟨N,u⟩:=Ew he;have D:=wB n J H rfl N;have L:nz s2 id2 1=some es:=by unfold nz;rw[D];simp[u]
  obtain⟨news,a0,f,_,l⟩:=HL n L H;obtain⟨p,z,E,T,hz,V,a1,Y,Z⟩:=Ae;have r:news.length=37:=f.1;obtain⟨h,cv,X,U,_⟩:=DC f;have F:(Builtin.firstCells p.size 0 (.slice a 0 0)).run Tryz.prog w.drew= .ok ([]:List Value).toArray w.drew:=by
   cases a with
   |none=>exact run_firstCells_none w.drew p.size 0 0 0
   |some a=>exact run_firstCells_some w.drew p.size 0 a 0 0 [] (by simp) (by simp)
  have hr:=run_append_grow_src (P:=Tryz.prog) w 23 22 23 54 p z Tryz.underlying23 E hz a 0 0 [] F v2 1 news (OP f l T) (by decide) (by decide) (growslice_fits (by decide) a8);rw[U]at hr⊢;have y:=grownCap_ge w (0+1) 0 54;have A:grownCap w (0+1) 0 54≤maxLen:=grownCap_le_maxLen _ _ _ _ (by unfold maxLen;omega)
  refine(I1 w a 0 0 (some ⟨h,0,none⟩) cv (bk _) fun ty=>by rw[Ip];exact hr).mono ?_;rintro e w' ⟨rfl,rfl⟩;have c:=heap_alloc_new w.drew (.cells (([]++news).toArray++Builtin.zeroCells z.cells (grownCap w (0+1) 0 54-(0+1))) 54)
  have j:w.grownBy (w.drew.alloc (.cells (([]++news).toArray++Builtin.zeroCells z.cells (grownCap w (0+1) 0 54-(0+1))) 54)) none:=⟨rfl,rfl,rfl,by simp,fun k hk _=>Below.heap_alloc w.drew _ k (by simpa using hk)⟩
  have q:(([]++news).toArray++Builtin.zeroCells z.cells (grownCap w (0+1) 0 54-(0+1))).size=grownCap w (0+1) 0 54*37:=by
   simp only[Array.size_append,kU,size_zeroCells,V,bm,r];omega
  have t:(([]++news).toArray++Builtin.zeroCells z.cells (grownCap w (0+1) 0 54-(0+1))).toList.take (1*37)=news:=by
   simp only[pO,bm];exact wm (by rw[r])
  generalize hW:w.drew.alloc (.cells (([]++news).toArray++Builtin.zeroCells z.cells (grownCap w (0+1) 0 54-(0+1))) 54)=W at c j;generalize(([]++news).toArray++Builtin.zeroCells z.cells (grownCap w (0+1) 0 54-(0+1)))=C at c q t;have i:W.heap[w.heap.size]?=some (.cells C 54 (0,0)):=c;have Q:w.heap.size<W.heap.size:=(fB.1 i).1
  generalize grownCap w (0+1) 0 54=gc at y A q;have G:W.ownsRow B 54 37 (.slice (some ⟨w.heap.size,0,none⟩) 1 gc) 1 news:=⟨by rw[r],.inr ⟨w.heap.size,gc,C,rfl,n.base,i,y,A,q,t⟩⟩
  have K:Below w.heap.size w W:=⟨j.os,j.tape,j.output,j.size,fun k hk=>j.block k hk (by simp)⟩
  have hI: ∀b,b<w.heap.size→dG k.I w.heap.size 0 b=k.I b:=fun b hb=>gW _ _ a8;obtain⟨M,S⟩:=n.newAt K hI hm (.row (.slice (some ⟨w.heap.size,0,none⟩) 1 gc) 1) (.vec 54 37 es) (fun b hb=>by cases hb;exact⟨bk _,Q⟩)
   fun R=>⟨news,G,fun g hg=>by cases hg;exact fI ..,u,l.mono R⟩
  exact⟨_,_,rfl,.vec ⟨_,_,rfl⟩ ⟨_,1,pe n hm _,bk _,fun _=>rfl⟩,M,S⟩
end Go.Proofs.Lh
namespace Go.Proofs.Q
open Go Go.Bb Go.RowKit Go.Proofs.Lg
open Go.Ab (D RD)
open Go.Proofs.Lh (I3 I2 nz)
theorem Zy(s:aD)(b:s.length≤1000000)(c:dQ (bs s))(d:Dg):aG Tryz.prog 165 [.agg (aP d),.ref [.sl 37 (s.map b5)]] (dB (!cW (bs s) d)):=by
 have a:=Na s b c d;refine aM (F:=BL) Xr (by simp[BL]) ?_;simp only[BL]
 repeat' first|refine ae (fun _=> ?_) fun _=> ?_|refine ay (ga @ba @wj) @a ?_|exact ax (ga @ba @wj) @a|fail
 all_goals first|rfl|(rename_i h;simp[h])
theorem Zz(s:aD)(f:s.length≤1000000)(i:dQ (bs s))(p:aX)(hp:cz p)(e:du p)(g:(cD p).length≤1000000):aG Tryz.prog 108 [.sl 37 (s.map b5),.agg (bc p)] (dB ((cD p).any fun d=> !cW (bs s) d)):=by
 have a:=N3 p hp e;have b:=fun st=>Jq (cD p) g 165 [] [.d (.ref [.sl 37 (s.map b5)])] (fun d=> !cW (bs s) d) st (fun x K _ c=>aq.data (Zy s f i x) rfl (c 0));refine aM (F:=BK) Xq (by simp[BK]) ?_;simp only[BK]
 repeat' first|refine ae (fun _=> ?_) fun _=> ?_|refine ay (ga @br @wj) (ga @a @b) ?_|exact ax (ga @br @wj) (ga @a @b)|fail
 all_goals first|rfl|(rename_i h;rw[h])
theorem Zx(a b:aX)(ha:cz a)(hb:cz b)(c:du a)(d:du b):aG Tryz.prog 107 [.agg (bc a),.agg (bc b)] (dB ((cV a).1.toList==(cV b).1.toList)):=by
 have e:=Gn a ha c;have f:=Gn b hb d;refine aM (F:=BH) Xn (by simp[BH]) ?_;simp only[BH]
 repeat' first|refine ae (fun _=> ?_) fun _=> ?_|refine ay (ga @br @wj) (ga @e @f) ?_|exact ax (ga @br @wj) (ga @e @f)|fail
 all_goals first|rfl|(rename_i h;rw[h])
theorem aq.makes{P:Program}{f:FuncId}{vs a:List AV}{s c:List aa}{b:AV}{K:AV→List aa→Nat→Prop}(h:gA (eu P) P f a [] b c)(g:nU vs=some a)(hk:K (b.shift s.length) (s++c.map (aa.shift s.length)) 3):aq P (.clo f [] []) vs s K:=
 .inr (.inr (.inr (.inl ⟨b.shift s.length,c.map (aa.shift s.length),fun s2 _ e=>by
  have d:=h.frameAt g (s:=s2) (n:=s.length) (by simpa using e);show gA (eu P) P f ([]++vs++[]) s2 _ _;rw[bm,bg];exact d,hk⟩)))
theorem RE{y:bT}{l:aD}(a:l.length≤1000000){s:List aa}{K:AV→List aa→Nat→Prop}(hk:K (.vec s.length (l.length+1) 37) (s++[.vec 54 37 (fg (y::l))]) 3):aq Tryz.prog (.clo 112 [] []) [.d (.sl 37 ((y::l).map b5))] s K:=by
 obtain⟨d,b,h,rfl,rfl⟩:=RN y l a [];refine aq.makes h rfl ?_;rw[bm];have e:aa.shift s.length (.vec 54 37 (fg (y::l)))= .vec 54 37 (fg (y::l)):=by
  show aa.vec 54 37 (fv s.length (fg (y::l)))=_;unfold fg;rw[Ht]
 show K (.vec (s.length+0) (l.length+1) 37) (s++[aa.shift s.length (.vec 54 37 (fg (y::l)))]) 3;rw[e];exact hk
theorem RF{s:List aa}{K:AV→List aa→Nat→Prop}(hk:K (.emp 37) s 3):aq Tryz.prog (.clo 112 [] []) [.d (.sl 37 [])] s K:=by
 obtain⟨d,a,h,rfl,rfl⟩:=RM 37 [];refine aq.makes h rfl ?_;show K (.emp 37) (s++[]) 3;rw[bg];exact hk
theorem Tn{s:List aa}{r r2:Nat}{l:aD}{x:bT}(c:s[r]?=some (.vec 54 37 (fg l)))(a:s[r2]?=some (.vec 54 37 ((b5 x).map .d)))(hne:r≠r2){i:Nat}(hi:i≤l.length)(b:l.length≤100000):
  b7 Tryz.prog 111 [.vec r l.length 37,iN i,.vec r2 1 37] s fun d e=>d= .vec r (l.length+1) 37∧e=s.set r (.vec 54 37 (fg (l.take i++x::l.drop i))):=by
 refine⟨_,_,I3 (ds:=fg l) (es:=(b5 x).map .d) (by unfold nz;rw[c];simp[wK]) (by unfold nz;rw[a];simp[fH]) hne hi b,rfl,?_⟩;congr 2;rw[RB l i hi,Rz l i hi,←IX,←zt,←zt,bj,yX]
theorem Tm{s:List aa}{r2:Nat}{x:bT}(a:s[r2]?=some (.vec 54 37 ((b5 x).map .d))):
  b7 Tryz.prog 111 [.emp 37,iN 0,.vec r2 1 37] s fun d b=>d= .vec s.length 1 37∧b=s++[.vec 54 37 (fg [x])]:=by
 refine⟨_,_,I2 (s:=s) (s2:=s) (x:= .emp 37) (id2:=r2) (es:=(b5 x).map .d) (m:=s.length) (fun k w v h=> ?_) (by unfold nz;rw[a];simp[fH]) (fw.refl s) (gi.end' s 1),rfl,?_⟩
 ·cases h;exact⟨_,rfl⟩
 ·rw[sw,IX]
end Go.Proofs.Q
namespace Go.Proofs.Q
open Go Go.Bb Go.RowKit Go.Proofs.Lg
open Go.Ab (D RD)
def k9(s:aD)(p:aX):aD×Dg×Int:=
 if(bq ar p).2≠0 then([],.zero,(bq ar p).2)
 else if cW (bs s) (bq ar p).1=true then
  if((cV ((ch s (bq ar p).1).getD .zero)).1.toList==(cV p).1.toList)=true then([],.zero,6)else([],.zero,14)
 else if((cD p).any fun d=> !cW (bs s) d)=true then([],.zero,19)
 else if mD s (bq ar p).1 p.changes≠0 then([],.zero,mD s (bq ar p).1 p.changes)
 else if 400≤s.length then([],.zero,4)
 else(iK s ⟨(bq ar p).1,p⟩,(bq ar p).1,0)
theorem SN{s:aD}(g:dQ (bs s)){d:Dg}(h:cW (bs s) d=true): ∃x,s[putAt d s 0]?=some x∧x∈s∧x.pat=(ch s d).getD .zero:=by
 have a:=Kl g d;rw[h]at a;have a:=a.symm;simp only[er,decide_eq_true_eq]at a;obtain⟨b,f⟩:=a;obtain⟨y,c⟩:=kb (l:=s) (i:=putAt d s 0) b;rw[c]at f;have e:y.id=d:=(jz _ _).1 (by simpa using f);have hm:=bX c;refine⟨y,c,hm,?_⟩;rw[←e,mf g.nodup y hm];rfl
set_option maxHeartbeats 4000000 in
set_option maxRecDepth 20000 in
theorem Zr(s:aD)(hl:s.length≤1000)(J:dQ (bs s))(T: ∀x∈s,cz x.pat∧du x.pat)(p:aX)(hp:cz p)(D:du p)(hn:(cD p).length≤1000000):aG Tryz.prog 65 [.sl 37 (s.map b5),.agg (bc p)] (DV (k9 s p)):=by
 have k:=N2 p hp D;have g:=Na s a8 J (bq ar p).1;have A:=Zz s a8 J p hp D hn;have f:=fun h=>SN J (d:=(bq ar p).1) h;have a:=(Gt J (bq ar p).1).1;unfold k9 DV;have E:iK s ⟨(bq ar p).1,p⟩=s.take (putAt (bq ar p).1 s 0)++⟨(bq ar p).1,p⟩::s.drop (putAt (bq ar p).1 s 0):=rfl;rw[E];clear E
 generalize hd:(bq ar p).1=d at k g f a⊢;generalize he:(bq ar p).2=e at k⊢;generalize putAt d s 0=i at g f a⊢;by_cases P:e=0
 ·subst P;rw[if_neg (by simp)];by_cases C:cW (bs s) d=true
  ·rw[if_pos C];rw[C]at g;obtain⟨x,H,I,Y⟩:=f C;have N:=Zx x.pat p (T x I).1 hp (T x I).2 D;rw[←Y];clear f A;generalize((cV x.pat).1.toList==(cV p).1.toList)=b at N⊢;cases b
   ·rw[if_neg (by simp)];refine aM (F:=jI) xI (by simp[jI]) ?_;simp only[jI]
    repeat' first|refine ae (fun _=> ?_) fun _=> ?_|refine aL ?_|refine aq.data (k) rfl ?_|refine aq.data (g) rfl ?_|refine aq.data (N) rfl ?_|simp only[H,kK,ba,fH,br,aQ,bne_self_eq_false,Int.reduceBNe,Int.reduceBEq,wj,wy,qg,aH,reduceCtorEq,reduceIte,Nat.reduceAdd,Nat.reduceMul,Nat.reduceEqDiff,Nat.reduceLT,Nat.reduceLeDiff,Nat.reduceSub,aA,aF,aE,aw]
   ·rw[if_pos rfl];refine aM (F:=jI) xI (by simp[jI]) ?_;simp only[jI]
    repeat' first|refine ae (fun _=> ?_) fun _=> ?_|refine aL ?_|refine aq.data (k) rfl ?_|refine aq.data (g) rfl ?_|refine aq.data (N) rfl ?_|simp only[H,kK,ba,fH,br,aQ,bne_self_eq_false,Int.reduceBNe,Int.reduceBEq,wj,wy,qg,aH,reduceCtorEq,reduceIte,Nat.reduceAdd,Nat.reduceMul,Nat.reduceEqDiff,Nat.reduceLT,Nat.reduceLeDiff,Nat.reduceSub,aA,aF,aE,aw]
  ·have h2f:cW (bs s) d=false:=by simpa using C
   rw[if_neg C];rw[h2f]at g;clear f;generalize((cD p).any fun d=> !cW (bs s) d)=b at A⊢;cases b
   ·rw[if_neg (by simp)];have H: ∀c∈(⟨d,p⟩:bT).pat.changes,c.over.length≤100000:=fun c hc=>(D.line c hc).2;have G:(⟨d,p⟩:bT).pat.changes.length≤1000000:=by have:=D.chg;show p.changes.length≤_;omega
    have Z:=fun st=>Vf s st;have cu:=fun(m:Nat) (K:MD) (st:List aa) (h:RK s (m+1) m K st)=>ZG a8 T h ⟨d,p⟩ H G;refine qx (F:=jI) xI (by simp[jI]) ?_;simp only[jI];refine AC.seq (bD ?_)
    repeat' first|refine ae (fun _=> ?_) fun _=> ?_|refine aL ?_|simp only[wj,wy,qg,aH,reduceCtorEq,reduceIte,Nat.reduceAdd,Nat.reduceMul,Nat.reduceEqDiff,Nat.reduceLT,Nat.reduceLeDiff,Nat.reduceSub,aA,aF,aE,aw]
    refine AC.seq (bD ?_)
    repeat' first|refine ae (fun _=> ?_) fun _=> ?_|refine aL ?_|refine aq.data (k) rfl ?_|simp only[kK,ba,br,aQ,wj,wy,qg,aH,reduceCtorEq,reduceIte,Nat.reduceAdd,Nat.reduceMul,Nat.reduceEqDiff,Nat.reduceLT,Nat.reduceLeDiff,Nat.reduceSub,aA,aF,aE,aw]
    refine AC.seq (bD ?_)
    repeat' first|refine ae (fun _=> ?_) fun _=> ?_|refine aL ?_|simp only[bne_self_eq_false,wj,wy,qg,aH,reduceCtorEq,reduceIte,Nat.reduceAdd,Nat.reduceMul,Nat.reduceEqDiff,Nat.reduceLT,Nat.reduceLeDiff,Nat.reduceSub,aA,aF,aE,aw]
    refine AC.seq (bD ?_)
    repeat' first|refine ae (fun _=> ?_) fun _=> ?_|refine aL ?_|refine aq.data (g) rfl ?_|simp only[ba,aQ,wj,wy,qg,aH,reduceCtorEq,reduceIte,Nat.reduceAdd,Nat.reduceMul,Nat.reduceEqDiff,Nat.reduceLT,Nat.reduceLeDiff,Nat.reduceSub,aA,aF,aE,aw]
    refine AC.freeze1 (i:=1) (aP d) 7 [(0,.d (.sl 37 (s.map b5))),(3,.d (.ref (bc p))),(5,.ptr 0 0),(8,.d (dI 0)),(9,iN i),(10,.d (dB false))] rfl rfl ⟨rfl,rfl,rfl,rfl,rfl,rfl,trivial⟩ ?_;obtain⟨u,V⟩: ∃u,u=mD s d p.changes:=⟨_,rfl⟩
    have B: ∀(m:Nat) (K:MD) (st:List aa) (h:RK s (m+1) m K st),b7 Tryz.prog 110 [.ptr (m+1) 0,.d (.agg (b5 ⟨d,p⟩))] st fun d q=>d= .d (dI u)∧fk m st q:=fun m K st h=>by rw[V];exact cu m K st h
    rw[←V];clear cu V k g;refine AC.cutJ [0,3,5,7,8,9] [(0,.d (.sl 37 (s.map b5))),(3,.d (.ref (bc p))),(5,.ptr 0 0),(7,.d (.ref (aP d))),(8,.d (dI u)),(9,.d (dI i))] (fun st=>st[0]?=some (.cells ((aP .zero).map .d))) ?_ fun st U=> ?_
    ·repeat' first|refine ae (fun _=> ?_) fun _=> ?_|refine aL ?_|refine aq.data (A) rfl ?_|(refine aq.fn ((Z _).mono ?_);rintro _ L ⟨rfl,hK,Q⟩)|simp only[ba,br,fH,aQ,Bool.false_and,wj,wy,qg,aH,reduceCtorEq,reduceIte,Nat.reduceAdd,Nat.reduceMul,Nat.reduceEqDiff,Nat.reduceLT,Nat.reduceLeDiff,Nat.reduceSub,aA,aF,aE,aw]
     have z0:L[0]?=some (.cells ((aP .zero).map .d)):=Q 0 _ rfl;have W:b7 Tryz.prog 110 [.ptr 3 0,.d (.agg (b5 ⟨d,p⟩))] L fun d q=>d= .d (dI u)∧fk 2 L q:=B 2 [] L hK
     repeat' first|refine ae (fun _=> ?_) fun _=> ?_|refine aL ?_|(refine aq.fn (W.mono ?_);rintro _ s2 ⟨rfl,R⟩)|simp only[ba,br,fH,aQ,wj,wy,qg,aH,reduceCtorEq,reduceIte,Nat.reduceAdd,Nat.reduceMul,Nat.reduceEqDiff,Nat.reduceLT,Nat.reduceLeDiff,Nat.reduceSub,aA,aF,aE,aw]
     all_goals exact R 0 _ (by decide) z0
    ·have z0:=U;clear B Z A H G;have a0:=(b9.1 z0).1;have M:=fun o:aa=>fA (o':=o) z0;refine bD ?_;by_cases j:u=0
     ·subst j;rw[if_neg (by simp)];by_cases n:400≤s.length
      ·have w:decide ((s.length:Int)≥400)=true:=by simp;omega
       rw[if_pos n]
       repeat' first|refine ae (fun _=> ?_) fun _=> ?_|refine aL ?_|simp only[w,z0,M,kK,ba,aQ,beq_self_eq_true,Int.reduceBNe,Int.reduceBEq,wj,wy,qg,aH,reduceCtorEq,reduceIte,Nat.reduceAdd,Nat.reduceMul,Nat.reduceEqDiff,Nat.reduceLT,Nat.reduceLeDiff,Nat.reduceSub,aA,aF,aE,aw]
      ·have w:decide ((s.length:Int)≥400)=false:=by simp;omega
       rw[if_neg n];cases s with
       |nil=>
        obtain rfl:i=0:=by simpa using a
        have w:decide ((0:Int)≥400)=false:=by decide
        have ci:=Tm (s:=st++[.vec 54 37 ((b5 ⟨d,p⟩).map .d)]) (r2:=st.length) (x:=⟨d,p⟩) (by simp);have t:=fun l=>bG z0 l;have v: ∀(l:List aa) (o:aa),((st++l).set 0 o)[0]?=some o:=fun l o=>fA (bG z0 l)
        have X:bA ((st++[aa.vec 54 37 ((b5 ⟨d,p⟩).map .d),aa.vec 54 37 (fg [⟨d,p⟩])]).set 0 (.cells ((aP d).map .d))) 4 (.vec (st.length+1) 1 37)=some (.sl 37 [b5 ⟨d,p⟩]):=Fi (e:=54) (getSet (by simp[fg]) a8) (by decide) rfl (fun r S=>by obtain rfl:=iB.1 S;exact fH _)
        repeat' first|refine ae (fun _=> ?_) fun _=> ?_|refine aL ?_|(refine RF ?_)|(refine aq.fn (ci.mono ?_);rintro _ s3 ⟨rfl,rfl⟩)|simp only[w,z0,t,M,v,↓X,yM,kK,ba,br,fH,aQ,beq_self_eq_true,bne_self_eq_false,Int.reduceBNe,Int.reduceBEq,wj,wy,qg,aH,reduceCtorEq,reduceIte,Nat.reduceAdd,Nat.reduceMul,Nat.reduceEqDiff,Nat.reduceLT,Nat.reduceLeDiff,Nat.reduceSub,aA,aF,aE,aw]
       |cons y l=>
        have w:decide (((l.length+1:Nat):Int)≥400)=false:=by rw[aY]at n;simp;omega
        have ci:=Tn (s:=st++[.vec 54 37 (fg (y::l)),.vec 54 37 ((b5 ⟨d,p⟩).map .d)]) (r:=st.length) (r2:=st.length+1) (l:=y::l) (x:=⟨d,p⟩) (by simp) (by simp) a8 a a8;have t:=fun l=>bG z0 l;have v: ∀(l:List aa) (o:aa),((st++l).set 0 o)[0]?=some o:=fun l o=>fA (bG z0 l)
        have X:bA ((st++[aa.vec 54 37 (fg ((y::l).take i++⟨d,p⟩::(y::l).drop i)),aa.vec 54 37 ((b5 ⟨d,p⟩).map .d)]).set 0 (.cells ((aP d).map .d))) 4 (.vec st.length (l.length+1+1) 37)=some (.sl 37 (((y::l).take i++⟨d,p⟩::(y::l).drop i).map b5)):=Fi (e:=54) (getSet (by simp[fg]) a8) (by decide) (by simp only[aQ,aR,ck,aY,aA]at a⊢;omega) (fun r S=>by obtain⟨z,_,rfl⟩:=bR.1 S;exact fH _)
        repeat' first|refine ae (fun _=> ?_) fun _=> ?_|refine aL ?_|(refine RE (by rw[aY]at hl;omega) ?_)|(refine aq.fn (ci.mono ?_);rintro _ s3 ⟨rfl,rfl⟩)|simp only[w,z0,t,M,v,↓X,yM,kK,ba,br,fH,aQ,beq_self_eq_true,bne_self_eq_false,Int.reduceBNe,Int.reduceBEq,wj,wy,qg,aH,reduceCtorEq,reduceIte,Nat.reduceAdd,Nat.reduceMul,Nat.reduceEqDiff,Nat.reduceLT,Nat.reduceLeDiff,Nat.reduceSub,aA,aF,aE,aw]
     ·have O:(u==0)=false:=by simpa using j
      have e2:(u !=0)=true:=by simpa using j
      rw[if_pos j]
      repeat' first|refine ae (fun _=> ?_) fun _=> ?_|refine aL ?_|simp only[O,e2,z0,M,kK,ba,aQ,wj,wy,qg,aH,reduceCtorEq,reduceIte,Nat.reduceAdd,Nat.reduceMul,Nat.reduceEqDiff,Nat.reduceLT,Nat.reduceLeDiff,Nat.reduceSub,aA,aF,aE,aw]
   ·rw[if_pos rfl];refine aM (F:=jI) xI (by simp[jI]) ?_;simp only[jI]
    repeat' first|refine ae (fun _=> ?_) fun _=> ?_|refine aL ?_|refine aq.data (k) rfl ?_|refine aq.data (g) rfl ?_|refine aq.data (A) rfl ?_|simp only[kK,ba,fH,br,aQ,bne_self_eq_false,Int.reduceBNe,Int.reduceBEq,wj,wy,qg,aH,reduceCtorEq,reduceIte,Nat.reduceAdd,Nat.reduceMul,Nat.reduceEqDiff,Nat.reduceLT,Nat.reduceLeDiff,Nat.reduceSub,aA,aF,aE,aw]
 ·have O:(e !=0)=true:=by simpa using P
  rw[if_pos (by simpa using P)];refine aM (F:=jI) xI (by simp[jI]) ?_;simp only[jI]
  repeat' first|refine ae (fun _=> ?_) fun _=> ?_|refine aL ?_|refine aq.data (k) rfl ?_|simp only[O,kK,ba,fH,br,aQ,wj,wy,qg,aH,reduceCtorEq,reduceIte,Nat.reduceAdd,Nat.reduceMul,Nat.reduceEqDiff,Nat.reduceLT,Nat.reduceLeDiff,Nat.reduceSub,aA,aF,aE,aw]
def ju(a:au):au:={a with over:=[]}
theorem SV(d:Dg)(x:au):ju (nf d x)=ju (r8 d x):=by rw[uT];rfl
theorem Sm{p:aX}(h:(bq ar p).2=0):eG p=(dw p).1:=by
 unfold eG;rw[if_neg];intro a;unfold bq at h;rw[if_pos a]at h;exact a h
theorem QX(p:aX):(dR p).1.map ju=(cT ar p).1.map ju∧(dR p).2=(cT ar p).2:=by
 unfold dR cT;by_cases h:(bq ar p).2=0
 ·rw[if_neg (c:=(bq ar p).2≠0) (by simpa using h),if_neg (c:=(bq ar p).2≠0) (by simpa using h),Sm h];refine⟨?_,rfl⟩;rw[nJ,nJ];exact List.map_congr_left fun x _=>SV _ x
 ·rw[if_pos h,if_pos h];exact⟨rfl,rfl⟩
theorem QT(s:aD)(x:af):(nQ s x).map ju=(oR ar s x).map ju:=by
 obtain⟨h,-⟩:=QX ((ch s x.p).getD .zero);have b:=congrArg List.length h;rw[aQ,aQ]at b;unfold nQ oR pW;rw[b];by_cases a:x.n<0∨((cT ar ((ch s x.p).getD .zero)).1.length:Int)≤x.n
 ·rw[if_pos a,if_pos a]
 ·rw[if_neg a,if_neg a,←dL,←dL,h]
def tZ(s:aD)(t:Tg):Int:=match nQ s t.1 with
 |none=>7
 |some a=>if t.2 a=true then 0 else 8
theorem xJ(a:Int):bQ a 0=a:=by simp only[bQ];split<;>simp_all
theorem HG(s:aD)(t:Tg)(l:List Tg):eX s (t::l)=bQ (tZ s t) (eX s l):=by
 rw[eX,tZ];cases nQ s t.1 with
 |none=>rfl
 |some a=>
  by_cases h:t.2 a=true
  ·simp[h,bQ]
  ·simp[h,bQ]
theorem Pf(s:aD): ∀a b:List Tg,eX s (a++b)=bQ (eX s a) (eX s b)
 |[],b=>by simp[eX,bQ]
 |t::a,b=>by rw[mO,HG,HG,Pf s a b,ru]
def u0(s:aD)(t:Tg):Int:=if isZero t.1.p=true then 0 else tZ s t
theorem u7(s:aD)(r:List Tg)(t:Tg):eX s (js r t)=bQ (eX s r) (u0 s t):=by
 unfold js u0;by_cases h:isZero t.1.p=true
 ·rw[if_pos h,if_pos h,xJ]
 ·rw[if_neg h,if_neg h,Pf,HG,eX,xJ]
theorem yC{s:aD}{x:af}{f g:au→Bool}(h: ∀a b,ju a=ju b→f a=g b):u0 s (x,f)=iV ar s x g:=by
 unfold u0 iV tZ;by_cases c:isZero x.p=true
 ·rw[if_pos c,if_pos c]
 ·rw[if_neg c,if_neg c];have hb:=QT s x;dsimp only;rcases h1:nQ s x with _|a<;>rcases h2:oR ar s x with _|b<;>rw[h1,h2]at hb
  ·simp at hb
  ·simp at hb
  ·have:=h a b (by simpa using hb);simp only[this]
theorem a3M{s:aD}{x:af}{f g:au→Bool}(h:tZ s (x,f)≠7)(hg: ∀a,g a=true):tZ s (x,g)=0:=by
 unfold tZ at*;dsimp only at*;cases b:nQ s x with
 |none=>rw[b]at h;exact absurd rfl h
 |some a=>simp[hg]
theorem zi{a b:au}(h:ju a=ju b):a.kind=b.kind∧a.type=b.type∧a.file=b.file:=by
 have c:=congrArg au.kind h;have d:=congrArg au.type h;have e:=congrArg au.file h;exact⟨c,d,e⟩
theorem IB(k:Int){a b:au}(h:ju a=ju b):fE k a=fE k b:=by
 obtain⟨c,d,e⟩:=zi h;unfold fE;rw[c,d]
theorem R8{a b:au}(h:ju a=ju b):lX a=lX b:=by
 obtain⟨c,d,e⟩:=zi h;unfold lX;rw[c,d]
theorem R9(f:af){a b:au}(h:ju a=ju b):nT f a=nT f b:=by
 obtain⟨c,e,d⟩:=zi h;unfold nT;rw[c,d]
theorem EE{x:af}(h:x= .zero):isZero x.p=true:=by subst h;simp[af.zero,isZero]
theorem a3N{s:aD}{t:Tg}(h:isZero t.1.p=true):u0 s t=0:=if_pos h
theorem O9{s:aD}{x:af}{g:au→Bool}(h:isZero x.p=true):iV ar s x g=0:=if_pos h
theorem Er(s:aD)(c:aC)(id:Dg): ∀(l:List af) (r:List Tg),eX s (mB c id l r)=bQ (eX s r) (eX s (mB c id l []))
 |[],r=>by simp[mB,eX,xJ]
 |x::l,r=>by
  rw[mB,Er s c id l,u7,mB,Er s c id l (js [] _),u7,ru];simp[eX,xL]
theorem Pe{s:aD}{c:aC}{id:Dg}(hk:c.kind=2∨c.kind=3∨c.kind=4∨c.kind=6∨c.kind=7)(e:c.kind=7∨mc c id=whole c.file id): ∀l:List af,eX s (mB c id l [])=px ar s c id l
 |[]=>rfl
 |x::l=>by
  rw[mB,Er,u7,px,Pe hk e l];simp only[eX,xL];congr 1;refine yC fun a b d=> ?_;obtain⟨f,i,g⟩:=zi d;rw[f,g];unfold pf vW lG;rcases e with h|h
  ·simp[h]
  ·rw[h];obtain h|h|h|h|h:=hk<;>simp[h]
structure wo(c:aC):Prop where
 f:ft c=0
 r: ∃own,gO c own=0
theorem Jc: ∀{l:List aC} {own:List au},(dW l own).2=0→ ∀c∈l,wo c
 |[],_,_,c,hc=>by cases hc
 |x::l,own,h,c,hc=>by
  rw[dW]at h;by_cases a:ft x=0
  ·rw[if_neg (by simpa using a)]at h;by_cases b:gO x own=0
   ·rw[if_neg (by simpa using b)]at h;rcases bM.1 hc with rfl|hc
    ·exact⟨a,_,b⟩
    ·exact Jc h c hc
   ·rw[if_pos b]at h;exact absurd h b
  ·rw[if_pos a]at h;exact absurd h a
theorem Vm{p:aX}(h:(bq ar p).2=0): ∀c∈p.changes,wo c:=by
 have d:(cV p).2=0:=by
  unfold bq at h;by_cases a:(cV p).2≠0
  ·rw[if_pos a]at h;exact absurd h a
  ·simpa using a
 have b:(dw p).2=0:=by
  unfold cV at d;by_cases a:(dw p).2=0
  ·exact a
  ·rw[if_pos a]at d;exact absurd d a
 obtain⟨_,_,_,e,_⟩:=jy b;rw[e]at b;exact Jc b
theorem xK{a b:Int}:bQ a b=0↔a=0∧b=0:=by
 unfold bQ;by_cases h:a=0<;>simp[h]
theorem LX{c:aC}(h:wo c)(hk:2≤c.kind∧c.kind≤6)(id:Dg):mc c id=whole c.file id:=by
 obtain⟨own,f⟩:=h.r;have a:rK c own=0:=(xK.1 f).1;unfold rK at a;rw[if_pos hk]at a;unfold mc whole;by_cases b:isZero c.file.p=true
 ·have e:0≤c.file.n:=by
   unfold jL allowed at a;rw[if_pos b]at a;by_cases d:0≤c.file.n
   ·exact d
   ·rw[if_pos (by simp[d])]at a;cases a
  rw[if_pos b,if_pos ⟨b,e⟩]
 ·rw[if_neg b,if_neg (fun h=>b h.1)]
theorem a3O{s:aD}{c:aC}{id:Dg}(h:wo c):eX s (rN c id)=oY ar s c id:=by
 obtain⟨⟨u,k⟩,l,_⟩:=pd h.f;rw[←yy c u k]at l;simp only[nx,er,jf,decide_eq_true_eq]at l;obtain⟨-,z,A,-,-,y,-,B⟩:=l;have n:eX s (lI c)=iV ar s c.file (fE c.kind):=by
  unfold lI;by_cases hk:c.kind≠1∧c.kind≠7
  ·rw[if_pos hk,u7];simp only[eX,xL];exact yC fun a b d=>IB _ d
  ·rw[if_neg hk,O9 (EE (z.resolve_left a8))];rfl
 have o:eX s (oF c (lI c))=bQ (iV ar s c.file (fE c.kind)) (iV ar s c.parent lX):=by
  unfold oF;by_cases hk:c.kind=2
  ·rw[if_pos hk,u7,n];congr 1;exact yC fun a b d=>R8 d
  ·rw[if_neg hk,n,O9 (x:=c.parent) (EE (A.resolve_left hk).1),xJ]
 have q: ∀x,2≤c.kind∧c.kind≤6→iV ar s c.file (fE c.kind)=0→u0 s (yx c id x)=nb ar s x c.file id:=by
  intro x hk e;unfold nb;by_cases j:isZero x.p=true
  ·rw[if_pos (.inl j),a3N j]
  ·by_cases m:x=c.file
   ·rw[if_pos (.inr m)];subst m;have i:=yC (s:=s) (x:=c.file) (f:=fE c.kind) (g:=fE c.kind) fun a b d=>IB _ d;rw[e]at i;unfold u0 at i⊢;rw[if_neg j]at i;rw[if_neg (show¬isZero (yx c id c.file).1.p=true from j)];exact a3M (by rw[i];decide) fun a=>by simp
   ·rw[if_neg (by rintro(h|h)<;>contradiction)];refine yC fun a b d=> ?_;rw[LX h hk id,R9 _ d];simp[m]
 have v:eX s (rT c id (oF c (lI c)))=bQ (iV ar s c.file (fE c.kind)) (bQ (iV ar s c.parent lX) (bQ (nb ar s c.after c.file id) (nb ar s c.before c.file id))):=by
  unfold rT;by_cases hk:c.kind=5∨c.kind=6
  ·rw[if_pos hk,u7,u7,o,ru,ru];by_cases e:iV ar s c.file (fE c.kind)=0
   ·rw[q _ a8 e,q _ a8 e]
   ·simp only[bQ,if_pos e]
  ·obtain⟨ha,hb⟩:=y.resolve_left hk;have r:nb ar s c.after c.file id=0:=if_pos (.inl (EE ha));have t:nb ar s c.before c.file id=0:=if_pos (.inl (EE hb));rw[if_neg hk,o,r,t];simp only[xJ,xL]
 have w:eX s (mB c id c.over [])=px ar s c id c.over:=by
  by_cases hk:c.kind=1∨c.kind=5
  ·have:c.over=[]:=fK (by have:=B.resolve_left a8;omega);rw[this];rfl
  ·refine Pe a8 ?_ _;by_cases k:c.kind=7
   ·exact .inl k
   ·exact .inr (LX h a8 id)
 unfold rN oY;rw[Er,v,w];simp only[ru]
theorem Pd{s:aD}{id:Dg}: ∀{l:List aC},(∀c∈l,wo c)→mD s id l=np ar s id l
 |[],_=>rfl
 |c::l,h=>by
  rw[mD,np,a3O (h c (by simp)),Pd fun x a=>h x (eQ _ a)];rfl
theorem Io{l:List Dg}: ∀{m:List Dg},(m.any fun d=> !cW l d)= !gZ l m
 |[]=>rfl
 |d::m=>by
  rw[List.any_cons,gZ,Io];cases cW l d<;>simp
theorem Ig{s:aD}{p:aX}(h:(bq ar p).2=0→(bq ar p).1∉bs s):k9 s p=bP ar s p:=by
 unfold k9 bP;by_cases a:(bq ar p).2=0
 ·rw[if_neg (c:=(bq ar p).2≠0) (by simpa using a),if_neg (c:=(bq ar p).2≠0) (by simpa using a)];have b:=h a;rw[if_neg (fun d=>b ((ng _ _).1 d)),uU.2 b,Io,Pd (Vm a)];simp only[rZ]
 ·rw[if_pos a,if_pos a]
theorem QI{s:aD}{p:aX}(a:(bq ar p).2=0)(h:(bq ar p).1∈bs s):(k9 s p=([],.zero,6)∨k9 s p=([],.zero,14))∧(bP ar s p=([],.zero,6)∨bP ar s p=([],.zero,14)):=by
 constructor
 ·unfold k9;rw[if_neg (by simpa using a),if_pos ((ng _ _).2 h)];split
  ·exact .inl rfl
  ·exact .inr rfl
 ·unfold bP;rw[if_neg (by simpa using a)];obtain⟨x,c⟩:=Option.ne_none_iff_exists'.1 (fun b=>uU.1 b h);rw[c];dsimp only;split
  ·exact .inl rfl
  ·exact .inr rfl
theorem kZ{s:aD}{p:aX}:((k9 s p).2.2=0↔(bP ar s p).2.2=0)∧((bP ar s p).2.2=0→k9 s p=bP ar s p):=by
 by_cases c:(bq ar p).2=0
 ·by_cases h:(bq ar p).1∈bs s
  ·obtain⟨b,a⟩:=QI c h;constructor
   ·rcases b with b|b<;>rcases a with a|a<;>rw[b,a]<;>simp
   ·rcases a with a|a<;>rw[a]<;>intro d<;>cases d
  ·rw[Ig fun _=>h];exact⟨dp,fun _=>rfl⟩
 ·rw[Ig fun h=>absurd h c];exact⟨dp,fun _=>rfl⟩
end Go.Proofs.Q
