/- Lemmas. -/
import Derived.Test.YtikhfhjohjfamaaGreatDoorPBL
import Derived.Test.YtikhfhjohjfamaaGreatDoorPBM
set_option linter.unusedVariables false
set_option linter.unusedSimpArgs false
set_option maxRecDepth 100000
namespace Go.Proofs.Q
open Go Go.Bb Go.RowKit Go.Proofs.Lg
open Go.Ab (D RD)
theorem ZG(x:bD)(d:Dg)(hp:bS x.pat)(b:db x.pat):aI Tryz.prog 225 [.agg (aX x),.ref (au d)] (dB (decide (x.id≠d)&&bI (bu x.pat) d)):=by
 have a:=F2 x.pat hp b;refine aL Tryz.f225 ?_ [100002]
 repeat' first|refine ab (λ_=> ?_) λ_=> ?_|refine aG trivial (ga @a @DR) ?_|exact aF trivial (ga @a @DR)|fail
 all_goals first|rfl|(simp_all;done)|trace_state
theorem Kp(d:Dg): ∀l:ar,(l.any λx=>decide (x.id≠d)&&bI (bu x.pat) d)=mI d l
 |[]=>rfl
 |x::l=>by
  rw[List.any_cons,mI,Kp d l];split
  .rename_i h;rw[h];rfl
  .rename_i h;rw[show(decide (x.id≠d)&&bI (bu x.pat) d)=false by simpa using h];rfl
theorem ZH(l:ar)(f:l.length<=1000000)(b: ∀x∈l,bS x.pat/\db x.pat)(d:Dg):aI Tryz.prog 154 [.sl 37 (l.map aX),.agg (au d)] (dB (mI d l)):=by
 have a:=λs=>QF l f 225 [] [.d (.ref (au d))] (λx=>decide (x.id≠d)&&bI (bu x.pat) d) s (λx K c e=>af.data (ZG x d (b x c).1 (b x c).2) rfl (e 0));rw[Kp]at a;refine aL Tryz.f154 ?_ [100003]
 repeat' first|refine ab (λ_=> ?_) λ_=> ?_|refine aG @wj @a ?_|exact aF @wj @a|fail
 all_goals first|rfl|(simp_all;done)|trace_state
def dZ(L:ar):List AV:=((L.map aX).flatten).map .d
theorem pR(L:ar):(dZ L).length=L.length*37:=by
 unfold dZ;rw[aM,Go.Ab.flatten_len (sz:=37) _ λr a=>by obtain⟨x,_,rfl⟩:=bM.1 a;exact fg x,aM]
theorem vN(A B:ar):dZ (A++B)=dZ A++dZ B:=by simp only[dZ,fF,tS]
theorem AJ(d:bD):dZ [d]=(aX d).map .d:=by simp[dZ]
theorem AK(L:ar)(n:Nat)(h:n<=L.length):(dZ L).take (n*37)=dZ (L.take n):=by
 conv=>lhs;rw[<-jV n L,vN]
 rw[ij (by rw[pR,cC];omega),dL (by rw[pR,cC];omega)]
theorem DF(L:ar)(n:Nat)(h:n<=L.length):(dZ L).drop (n*37)=dZ (L.drop n):=by
 conv=>lhs;rw[<-jV n L,vN]
 rw[iL,iM (by rw[pR,cC];omega),bt,pR,cC,qO h,jc,ky]
theorem HD{L:ar}{k:Nat}{d:bD}(h:L[k]?=some d):((dZ L).drop (k*37)).take 37=(aX d).map .d:=by
 obtain⟨hk,rfl⟩:=aV.1 h;rw[DF L k a8,lh hk];have:=AK (L[k]::L.drop (k+1)) 1 (by rw[aY];omega);rw[qP]at this;rw[this,jW,tW,AJ]
theorem Qc{L:ar}{k:Nat}(hk:k<L.length)(d:bD):(dZ L).take (k*37)++((aX d).map .d++(dZ L).drop (k*37+37))=dZ (L.set k d):=by
 rw[AK L k a8,show k*37+37=(k+1)*37 by omega,DF L (k+1) a8,<-AJ,<-vN,<-vN];congr 1;rw[De,if_pos hk];simp
theorem HR(L:ar):chunk 37 L.length ((L.map aX).flatten)=L.map aX:=by
 have:=DO (L.map aX) λr a=>by obtain⟨x,_,rfl⟩:=bM.1 a;exact fg x
 rw[aM]at this;exact this
theorem Ke(s:List aa)(f:Nat)(L:ar):dw (bE s (f+1)) (dZ L)=some ((L.map aX).flatten):=uj s f _
set_option maxHeartbeats 400000 in
theorem Ol(a:Addr)(c:Nat)(w:World):Calls Tryz.prog 119 #[.slice (some a) 0 c] w λe w'=> ∃i,e= .returned i/\(∃k,i= .slice k 0 0)/\Below w.heap.size w w':=by
 have q: ∀(w:World) (a:Option Addr) (n c g f:Nat),(binOp .eql 23 (.slice a n c) (.slice none g f)).run Tryz.prog w= .ok (.bool a.isNone) w:=λw a n c g f=>Go.Lib.run_eql_slice_nil w _ _ a n c g f Tryz.underlying23;obtain⟨j,l⟩: ∃j,Tryz.prog.info? 71=some j:=vB.1 (show(Tryz.prog.info? 71).isSome=true by kernel_rfl)
 have d: ∀(h:TypeId) (b:Addr) (W:World),(Builtin.append_ #[23,23] h #[.slice (some b) 0 0,.slice (some a) 0 c]).run Tryz.prog W= .ok (.slice (some b) 0 0) W:=λh b W=>by
  simp[Builtin.append_,run_underlying Tryz.underlying23,sizeOf,typeInfo,l,Builtin.lenOf,Builtin.firstCells,loadCells,loadCellsFrom,storeCells]
 go_enter Tryz.func119,Tryz.ntmps119
 go_wp2_with (at_builtin;refine Go.Lib.wpList_append_run _ rfl _ _ _ _ rfl _ _ rfl rfl _ _ (d _ _ _) ?_)
 go_ret
 exact⟨_,rfl,⟨_,rfl⟩,(Below.refl _ _).alloc (bg _) _⟩
set_option maxHeartbeats 400000 in
theorem Oj(m c:Nat)(w:World):Calls Tryz.prog 119 #[.slice none m c] w λe w'=>e= .returned (.slice none 0 0)/\w'=w:=by
 have q: ∀(w:World) (a:Option Addr) (n c d b:Nat),(binOp .eql 23 (.slice a n c) (.slice none d b)).run Tryz.prog w= .ok (.bool a.isNone) w:=λw a n c d b=>Go.Lib.run_eql_slice_nil w _ _ a n c d b Tryz.underlying23
 go_enter Tryz.func119,Tryz.ntmps119
 go_wp2
 go_ret
 exact⟨rfl,rfl⟩
theorem DP(n:Nat)(s:List aa):bs Tryz.prog 119 [.d (.sl n [])] s λd h=>d= .emp n/\h=s:=by
 refine⟨.emp n,s,⟨enters_fn' Tryz.func119 rfl (by rfl),λB k w vs b f=> ?_⟩,rfl,rfl⟩
 match vs,f with
 |[v],f=>
  have g:=(f.2 0 v _ rfl rfl).d_inv;obtain⟨a,c,us,rfl,_⟩:=g.sl_inv;cases a with
  |none=>
   refine(Oj 0 c w).mono ?_;rintro e w' ⟨rfl,rfl⟩;exact⟨_,k,rfl,.emp,Ext.refl B k _,b⟩
  |some a=>
   refine(Ol a c w).mono ?_;rintro e w' ⟨j,rfl,⟨i,rfl⟩,hb⟩;exact⟨_,⟨gA k.I w.heap.size w',k.own⟩,rfl,.emp,Ext.called b.base hb,b.called hb⟩
theorem HS(x:bD)(l:ar)(f:l.length<=1000000)(s:List aa):bs Tryz.prog 119 [.d (.sl 37 ((x::l).map aX))] s λd e=>d= .vec s.length (l.length+1) 37/\e=s++[.vec 71 37 (dZ (x::l))]:=by
 have b:bw (l.length+1) 120=true:=room_le a8 a8;have a:((aX x++(l.map aX).flatten)).length=(l.length+1)*37:=by
  have h:=Go.Ab.flatten_len (sz:=37) ((x::l).map aX) λr c=>by obtain⟨y,_,rfl⟩:=bM.1 c;exact fg y
  simpa using h
 rw[bX];unfold dZ;refine cz Tryz.f119 ?_ [5,7]
 repeat' first|refine ab (λ_=> ?_) λ_=> ?_|refine aH ?_|simp only[b,a,aM,gG,wj,wy,qg,aE,simprocAttr,ax,aD,aB,aw]
 all_goals first|rfl|exact⟨rfl,rfl⟩|trace_state
end Go.Proofs.Q
namespace Go.Proofs.Lh
open Go Go.Ab Go.Bb Go.RowKit Go.Proofs.Lg
def oB(s:List aa)(id n:Nat):Option (List AV):=match s[id]? with
 |some (.vec e sz ds)=>if e=71/\sz=37/\ds.length=n*37 then some ds else none
 |_=>none
theorem CT{s:List aa}{id n:Nat}{ds:List AV}(h:oB s id n=some ds):s[id]?=some (.vec 71 37 ds)/\ds.length=n*37:=by
 unfold oB at h;split at h
 .rename_i e sz a d;obtain⟨⟨rfl,rfl,b⟩,c⟩:=BB h;obtain rfl:=aJ c;exact⟨d,b⟩
 .cases h
section
variable {LL:Nat->Code->CC->Prop} {s:List aa}
theorem Gy{B:Nat}{k:aP}{w:World}(f:St LL B k s w){id n:Nat}{ds:List AV}(q:oB s id n=some ds){v:Value}(p:RA k w v (.vec id n 37)):
  ∃xs,k.own[id]?=some (.row v n)/\w.ownsRow B 71 37 v n xs/\(∀g,v.ownBlock=some g->k.I g=0)/\bZ k w xs ds:=by
 obtain⟨d,m⟩:=CT q;obtain⟨_,u,r,a,o,c⟩:=p.vec_inv;obtain⟨v2,t,xs,i,b,l,j,h⟩:=f.vec d;rw[a]at i;cases i;have e:n=r:=by
  rw[m]at j;exact mf (by decide) j
 subst e;rw[c rfl];exact⟨xs,by rw[a],b,l,h⟩
theorem BS{B:Nat}{w:World}{v:Value}{xs:List Value}(h:w.ownsRow B 71 37 v 1 xs): ∃g c cur,v= .slice (some ⟨g,0,none⟩) 1 c/\w.heap[g]?=some (.cells cur 71 (0,0))/\1<=c/\cur.size=c*37/\cur.toList.take 37=xs:=by
 rcases h.2 with⟨_,h0⟩|⟨g,c,cur,h1,h2,h3,h4,h5,h6,h7⟩
 .cases h0
 .exact⟨g,c,cur,h1,h3,h4,h6,by simpa using h7⟩
theorem N0{B:Nat}{w:World}{v:Value}{xs:List Value}{ds:List AV}{k:aP}(h:w.ownsRow B 71 37 v 1 xs)(d:bZ k w xs ds){sz:Nat}(a:sz=37):Src Tryz.prog sz 22 v 1 xs w:=by
 subst a;obtain⟨g,c,cur,rfl,e,_⟩:=BS h;exact Src.ofSlice (P:=Tryz.prog) w Tryz.underlying22 ⟨g,0,none⟩ 1 c xs h.1 (λj u b=>h.cells (g:=g) rfl j u b) d.2.1
end
theorem H8(t a b:TypeId)(v x:Value):Builtin.append_ #[t,a] b #[v,x]=Builtin.append_ #[t,a] t #[v,x]:=rfl
theorem GN{s:List aa}{id id2 n i:Nat}{ds es:List AV}(hv:oB s id n=some ds)(he:oB s id2 1=some es)(hne:id≠id2)(hi:i<=n)(hn:n<=100000):
  iK (dH Tryz.prog) Tryz.prog 118 [.vec id n 37,.d (.sc (.int .i64 i)),.vec id2 1 37] s (.vec id (n+1) 37) (s.set id (.vec 71 37 (ds.take (i*37)++es++ds.drop (i*37)))):=by
 refine⟨enters_fn' Tryz.func118 rfl (by rfl),λB k w vs p C=> ?_⟩
 match vs,C with
 |[v,iv,v2],C=>
  obtain⟨xs,M,a,hI,G⟩:=Gy p hv (C.2 0 v _ rfl rfl);have c4:=(C.2 1 iv _ rfl rfl).d_inv;cases c4;obtain⟨news,a6,l,_,f⟩:=Gy p he (C.2 2 v2 _ rfl rfl);obtain⟨_,b7⟩:=CT hv;obtain⟨_,b8⟩:=CT he;obtain⟨Q,z,a5,E,hz,c8,d2,c9,X⟩:=By;have b5:xs.length=n*37:=a.1;have b0:news.length=37:=l.1
  have L:=(aV.1 M).1;have d0:i*37<=n*37:=jI _ hi;have a7:(ds.take (i*37)++es++ds.drop (i*37)).length=(n+1)*37:=by simp only[aQ,cC,ax,b7,b8];omega
  have b2: ∀{k':aP} {w':World},Mono k w k' w'->bZ k' w' (xs.take (i*37)++news++xs.drop (i*37)) (ds.take (i*37)++es++ds.drop (i*37)):=λhm=>
   (((G.mono hm).take _).append (f.mono hm)).append ((G.mono hm).drop _)
  have D: ∀(H:Value) (w':World) (W:Nat),w'.ownsRow B 71 37 H (n+1) (xs.take (i*37)++news++xs.drop (i*37))->Below B w w'->H.ownBlock=some W->(v.ownBlock=some W\/(W=w.heap.size/\w.heap.size<w'.heap.size))->(∀b,b<w.heap.size->b≠W->w'.heap[b]?=w.heap[b]?)->
    ∃k',RA k' w' H (.vec id (n+1) 37)/\Ext B k w k' w'/\St (dH Tryz.prog) B k' (s.set id (.vec 71 37 (ds.take (i*37)++es++ds.drop (i*37)))) w':=λH w' W V h2 h3 h4 h5=>by
   obtain⟨he,c5⟩:=p.grow (m:=1) (x0:=0) (x:=0) (ob:= .vec 71 37 (ds.take (i*37)++es++ds.drop (i*37))) M hI (by decide) (bg _) h2 h3 h4 h5 (λ_ q u hq _=>by omega)
    λN=>⟨_,V,λg hg=>by rw[h3]at hg;cases hg;exact gE ..,a7,b2 N⟩
   exact⟨_,.vec (yX V) ⟨H,n+1,by simp[L],bg _,λ_=>rfl⟩,he,c5⟩
  rcases Nat.lt_or_ge i n with hlt|a2
  .rcases a.2 with⟨_,h0⟩|⟨g,c,cur,hvv,hgB,hg,a9,hcm,hcs,htake⟩
   .omega
   .obtain⟨h,U,r,F,hh,Y,Z,a1⟩:=BS l;have a3:h≠g:=λe=>p.apart id id2 _ _ g hne M a6 (by rw[hvv];rfl) (by rw[F,e];rfl);have c6:v.ownBlock=some g:=by rw[hvv];rfl
    have d1:g<w.heap.size:=(gy.1 hg).1;unfold maxLen at hcm;rw[hvv,F];by_cases y:n+1<=c
    .refine(Ou w g n c i h U U cur r xs news hlt y a8 a3 hg hcs htake G.2.1 hh Z Y a1 f.2.1).mono ?_;rintro e w' ⟨rfl,A,rfl,I,J⟩;have b1: ∀b,b<w.heap.size->b≠g->(w.drew.setRow g A).heap[b]?=w.heap[b]? :=λb hb hne=>setRow_other w.drew g b _ hne;have c2:(w.drew.setRow g A).heap[g]?=some (.cells A 71 (0,0)):=setRow_heap w.drew g cur A _ (0,0) hg
     obtain⟨k',R,S,T⟩:=D (.slice (some ⟨g,0,none⟩) (n+1) c) _ g
      ⟨by simp only[aQ,cC,ax,b5,b0];omega,.inr ⟨g,c,A,rfl,hgB,c2,y,by unfold maxLen;omega,I,J⟩⟩
      ⟨rfl,rfl,rfl,by rw[setRow_size];exact bg _,λj hj=>setRow_other w.drew g j _ a8⟩ rfl (.inl c6) b1
     exact⟨_,k',rfl,R,S,T⟩
    .obtain rfl:c=n:=by omega
     refine(Ot w g c i h U U cur r xs news hlt a8 a3 hg hcs htake G.2.1 hh Z Y a1 f.2.1).mono ?_;rintro e w' ⟨gc,A,a2,c3,rfl,b6,I,J,a4,b3⟩;obtain⟨k',R,S,T⟩:=D (.slice (some ⟨w.heap.size,0,none⟩) (c+1) gc) w' w.heap.size
      ⟨by simp only[aQ,cC,ax,b5,b0];omega,.inr ⟨w.heap.size,gc,A,rfl,p.base,b6,a2,c3,I,J⟩⟩
      ((Below.refl _ _).grown a4 p.base (by simp)) rfl (.inr ⟨rfl,b3⟩) (λb hb _=>a4.block b hb (by simp))
     exact⟨_,k',rfl,R,S,T⟩
  .obtain rfl:i=n:=by omega
   have O:eK w B 71 Q.size v i xs:=by rw[E];exact eK.of a
   obtain⟨H,w2,hr,t,hR⟩:=Mu (P:=Tryz.prog) w B 23 22 23 71 Q z Tryz.underlying23 a5 hz (by rw[E];exact c8) v i xs O v2 1 news (N0 l f E) a8
    (by
      have V:(i+1)*Q.bytes<=(i+1)*1000:=Nat.mul_le_mul_left _ X;omega) p.base
   rw[E]at t hR;obtain⟨a0,c0,b4⟩:=yX a;obtain⟨h,U,r,F,_⟩:=BS l;have a9:i<=c0:=by
    rw[b4]at a;rcases a.2 with⟨V,h2⟩|⟨g,cap,cur,V,_,_,hh,_⟩
    .omega
    .simp at V;omega
   rw[b4,F]at hr⊢;have c7:xs.take (i*37)++news++xs.drop (i*37)=xs++news:=by
    rw[dL a8,A9 a8,bq]
   refine(GL w a0 i c0 (some ⟨h,0,none⟩) U a9 λty=>by rw[H8];exact hr).mono ?_;rintro e w' ⟨rfl,rfl⟩;rcases t with⟨h0,_⟩|⟨_,hG,hb,hc⟩
   .cases h0
   .have o:=hR (by decide) a;rw[<-c7]at o;rcases hc with⟨g,b9,c1,K⟩|⟨hg,hlt,K⟩
    .obtain⟨k',R,S,T⟩:=D H w' g o hb b9 (.inl c1) λb hb hne=>K.block b hb (by simpa using hne);exact⟨_,k',rfl,R,S,T⟩
    .obtain⟨k',R,S,T⟩:=D H w' w.heap.size o hb hg (.inr ⟨rfl,hlt⟩) λb hb _=>K.block b hb (by simp);exact⟨_,k',rfl,R,S,T⟩
theorem GM{s s2:List aa}{x:AV}(hx: ∀(k:aP) (w:World) (v:Value),RA k w v x-> ∃a,v= .slice a 0 0){id2:Nat}{es:List AV}(he:oB s id2 1=some es)(J:gx s s2){m:Nat}(hm:iy s2 m 1):
  iK (dH Tryz.prog) Tryz.prog 118 [x,.d (.sc (.int .i64 0)),.vec id2 1 37] s2 (.vec m 1 37) (fill s2 m [.vec 71 37 es]):=by
 refine⟨enters_fn' Tryz.func118 rfl (by rfl),λB k w vs n o=> ?_⟩
 match vs,o with
 |[v,iv,v2],o=>
  obtain⟨a,rfl⟩:=hx k w v (o.2 0 v _ rfl rfl);have O:=(o.2 1 iv _ rfl rfl).d_inv;cases O;have H:=o.2 2 v2 _ rfl rfl;obtain⟨N,u⟩:=CT he;have D:=xR n J H rfl N;have L:oB s2 id2 1=some es:=by unfold oB;rw[D];simp[u]
  obtain⟨news,a0,f,_,l⟩:=Gy n L H;obtain⟨p,z,E,T,hz,V,a1,Y,Z⟩:=By;have r:news.length=37:=f.1;obtain⟨h,cv,X,U,_⟩:=BS f;have F:(Builtin.firstCells p.size 0 (.slice a 0 0)).run Tryz.prog w.drew= .ok ([]:List Value).toArray w.drew:=by
   cases a with
   |none=>exact run_firstCells_none w.drew p.size 0 0 0
   |some a=>exact run_firstCells_some w.drew p.size 0 a 0 0 [] (by simp) (by simp)
  have hr:=run_append_grow_src (P:=Tryz.prog) w 23 22 23 71 p z Tryz.underlying23 E hz a 0 0 [] F v2 1 news (N0 f l T) (by decide) (by decide) (growslice_fits (by decide) a8);rw[U]at hr⊢;have y:=grownCap_ge w (0+1) 0 71;have A:grownCap w (0+1) 0 71<=maxLen:=grownCap_le_maxLen _ _ _ _ (by unfold maxLen;omega)
  refine(GL w a 0 0 (some ⟨h,0,none⟩) cv (bg _) λty=>by rw[H8];exact hr).mono ?_;rintro e w' ⟨rfl,rfl⟩;have c:=heap_alloc_new w.drew (.cells (([]++news).toArray++Builtin.zeroCells z.cells (grownCap w (0+1) 0 71-(0+1))) 71)
  have j:w.grownBy (w.drew.alloc (.cells (([]++news).toArray++Builtin.zeroCells z.cells (grownCap w (0+1) 0 71-(0+1))) 71)) none:=⟨rfl,rfl,rfl,by simp,λk hk _=>Below.heap_alloc w.drew _ k (by simpa using hk)⟩
  have q:(([]++news).toArray++Builtin.zeroCells z.cells (grownCap w (0+1) 0 71-(0+1))).size=grownCap w (0+1) 0 71*37:=by
   simp only[Array.size_append,me,size_zeroCells,V,bt,r];omega
  have t:(([]++news).toArray++Builtin.zeroCells z.cells (grownCap w (0+1) 0 71-(0+1))).toList.take (1*37)=news:=by
   simp only[qH,bt];exact xI (by rw[r])
  generalize hW:w.drew.alloc (.cells (([]++news).toArray++Builtin.zeroCells z.cells (grownCap w (0+1) 0 71-(0+1))) 71)=W at c j;generalize(([]++news).toArray++Builtin.zeroCells z.cells (grownCap w (0+1) 0 71-(0+1)))=C at c q t;have i:W.heap[w.heap.size]?=some (.cells C 71 (0,0)):=c;have Q:w.heap.size<W.heap.size:=(gy.1 i).1
  generalize grownCap w (0+1) 0 71=gc at y A q;have G:W.ownsRow B 71 37 (.slice (some ⟨w.heap.size,0,none⟩) 1 gc) 1 news:=⟨by rw[r],.inr ⟨w.heap.size,gc,C,rfl,n.base,i,y,A,q,t⟩⟩
  have K:Below w.heap.size w W:=⟨j.os,j.tape,j.output,j.size,λk hk=>j.block k hk (by simp)⟩
  have hI: ∀b,b<w.heap.size->dE k.I w.heap.size 0 b=k.I b:=λb hb=>ix _ _ a8;obtain⟨M,S⟩:=n.newAt K hI hm (.row (.slice (some ⟨w.heap.size,0,none⟩) 1 gc) 1) (.vec 71 37 es) (λb hb=>by cases hb;exact⟨bg _,Q⟩)
   λR=>⟨news,G,λg hg=>by cases hg;exact gE ..,u,l.mono R⟩
  exact⟨_,_,rfl,.vec ⟨_,_,rfl⟩ ⟨_,1,pZ n hm _,bg _,λ_=>rfl⟩,M,S⟩
end Go.Proofs.Lh
namespace Go.Proofs.Q
open Go Go.Bb Go.RowKit Go.Proofs.Lg
open Go.Ab (D RD)
open Go.Proofs.Lh (GN GM oB)
theorem V6(s:ar)(b:s.length<=1000000)(c:bT (b8 s))(d:Dg):aI Tryz.prog 186 [.agg (au d),.ref [.sl 37 (s.map aX)]] (dB (!bI (b8 s) d)):=by
 have a:=La s b c d;refine aL Tryz.f186 ?_ [100002]
 repeat' first|refine ab (λ_=> ?_) λ_=> ?_|refine aG (ga @b9 @wj) @a ?_|exact aF (ga @b9 @wj) @a|fail
 all_goals first|rfl|(rename_i h;simp[h])
theorem V7(s:ar)(f:s.length<=1000000)(i:bT (b8 s))(p:aU)(hp:bS p)(e:db p)(g:(bu p).length<=1000000):aI Tryz.prog 115 [.sl 37 (s.map aX),.agg (br p)] (dB ((bu p).any λd=> !bI (b8 s) d)):=by
 have a:=F2 p hp e;have b:=λst=>I5 (bu p) g 186 [] [.d (.ref [.sl 37 (s.map aX)])] (λd=> !bI (b8 s) d) st (λx K _ c=>af.data (V6 s f i x) rfl (c 0));refine aL Tryz.f115 ?_ [100002,100003]
 repeat' first|refine ab (λ_=> ?_) λ_=> ?_|refine aG (ga @bH @wj) (ga @a @b) ?_|exact aF (ga @bH @wj) (ga @a @b)|fail
 all_goals first|rfl|(rename_i h;rw[h])
theorem V5(a b:aU)(ha:bS a)(hb:bS b)(c:db a)(d:db b):aI Tryz.prog 114 [.agg (br a),.agg (br b)] (dB ((cQ a).1.toList==(cQ b).1.toList)):=by
 have e:=F1 a ha c;have f:=F1 b hb d;refine aL Tryz.f114 ?_ [100002,100003]
 repeat' first|refine ab (λ_=> ?_) λ_=> ?_|refine aG (ga @bH @wj) (ga @e @f) ?_|exact aF (ga @bH @wj) (ga @e @f)|fail
 all_goals first|rfl|(rename_i h;rw[h])
theorem af.makes{P:Program}{f:FuncId}{vs a:List AV}{s c:List aa}{b:AV}{K:AV->List aa->Nat->Prop}(h:iK (dH P) P f a [] b c)(g:oZ vs=some a)(hk:K (b.shift s.length) (s++c.map (aa.shift s.length)) 3):af P (.clo f [] []) vs s K:=
 .inr (.inr (.inr (.inl ⟨b.shift s.length,c.map (aa.shift s.length),λs2 _ e=>by
  have d:=h.frameAt g (s:=s2) (n:=s.length) (by simpa using e);show iK (dH P) P f ([]++vs++[]) s2 _ _;rw[bt,bq];exact d,hk⟩)))
theorem Qe{y:bD}{l:ar}(a:l.length<=1000000){s:List aa}{K:AV->List aa->Nat->Prop}(hk:K (.vec s.length (l.length+1) 37) (s++[.vec 71 37 (dZ (y::l))]) 3):af Tryz.prog (.clo 119 [] []) [.d (.sl 37 ((y::l).map aX))] s K:=by
 obtain⟨d,b,h,rfl,rfl⟩:=HS y l a [];refine af.makes h rfl ?_;rw[bt];have e:aa.shift s.length (.vec 71 37 (dZ (y::l)))= .vec 71 37 (dZ (y::l)):=by
  show aa.vec 71 37 (gu s.length (dZ (y::l)))=_;unfold dZ;rw[G9]
 show K (.vec (s.length+0) (l.length+1) 37) (s++[aa.shift s.length (.vec 71 37 (dZ (y::l)))]) 3;rw[e];exact hk
theorem Qf{s:List aa}{K:AV->List aa->Nat->Prop}(hk:K (.emp 37) s 3):af Tryz.prog (.clo 119 [] []) [.d (.sl 37 [])] s K:=by
 obtain⟨d,a,h,rfl,rfl⟩:=DP 37 [];refine af.makes h rfl ?_;show K (.emp 37) (s++[]) 3;rw[bq];exact hk
theorem Ss{s:List aa}{r r2:Nat}{l:ar}{x:bD}(c:s[r]?=some (.vec 71 37 (dZ l)))(a:s[r2]?=some (.vec 71 37 ((aX x).map .d)))(hne:r≠r2){i:Nat}(hi:i<=l.length)(b:l.length<=100000):
  bs Tryz.prog 118 [.vec r l.length 37,iN i,.vec r2 1 37] s λd e=>d= .vec r (l.length+1) 37/\e=s.set r (.vec 71 37 (dZ (l.take i++x::l.drop i))):=by
 refine⟨_,_,GN (ds:=dZ l) (es:=(aX x).map .d) (by unfold oB;rw[c];simp[pR]) (by unfold oB;rw[a];simp[fg]) hne hi b,rfl,?_⟩;congr 2;rw[AK l i hi,DF l i hi,<-AJ,<-vN,<-vN,bk,xH]
theorem Sr{s:List aa}{r2:Nat}{x:bD}(a:s[r2]?=some (.vec 71 37 ((aX x).map .d))):
  bs Tryz.prog 118 [.emp 37,iN 0,.vec r2 1 37] s λd b=>d= .vec s.length 1 37/\b=s++[.vec 71 37 (dZ [x])]:=by
 refine⟨_,_,GM (s:=s) (s2:=s) (x:= .emp 37) (id2:=r2) (es:=(aX x).map .d) (m:=s.length) (λk w v h=> ?_) (by unfold oB;rw[a];simp[fg]) (gx.refl s) (iy.end' s 1),rfl,?_⟩
 .cases h;exact⟨_,rfl⟩
 .rw[um,AJ]
end Go.Proofs.Q
namespace Go.Proofs.Q
open Go Go.Bb Go.RowKit Go.Proofs.Lg
open Go.Ab (D RD)
def Gs:CC:=(fo [o0 4 (.mov (.c (.nil 32))),o0 5 (.mov (xi 0))])
def zN:CC:=(.seq (.seq
 (fo [om 16 7,o0 17 (.not (.t 16))])
 (.cond (.t 17)
 (.seq
 (fo [o0 4 (.mov (.c (.nil 32))),o0 5 (.mov (xi 7))])
 .ret)
 .skip))
 (.seq
 (fo [om 18 6,om 4 18,o0 5 (.mov (xi 0))])
 .ret))
theorem ZL: ∃(cX h:Code) (ops:Array Oper) (a b c e f:Oper) (g:List Oper) (i j k:Array Operand) (l t2 t3:Array TypeId),
  Tryz.f157.body=some (.seq cX (.seq (.region 1 ops false) h))/\
  (comp Tryz.prog [] 19 cX=some Gs.erase/\comp Tryz.prog [] 19 h=some zN.erase)/\
  ops.toList=a::b::c::e::f::g/\
  (a.guard=none/\a.dst=some 9/\a.op= .move (.tmp 0))/\
  (b.guard=none/\b.dst=some 10/\b.op= .call {callee:= .value (.func 228),args:=i,argTypes:=l}/\je Tryz.prog l.toList i.toList=some [.t 9])/\
  (c.guard=none/\c.dst=some 11/\c.op= .call {callee:= .value (.func 229),args:=j,argTypes:=t2}/\je Tryz.prog t2.toList j.toList=some [.t 10])/\
  (e.guard=none/\e.dst=some 12/\e.op= .move (.tmp 1))/\
  (f.guard=none/\f.dst=some 13/\f.op= .call {callee:= .value (.func 230),args:=k,argTypes:=t3}/\je Tryz.prog t3.toList k.toList=some [.t 11,.t 12])/\
  kK Tryz.prog [] ops g=some [om 8 13,o0 14 (.ext (.t 8) 0),o0 15 (.ext (.t 8) 1),om 6 14,om 7 15]/\(g.all λo=>(o.dst.all λd=>decide (d<19))&&fj o)=true:=
 ⟨_,_,_,_,_,_,_,_,_,_,_,_,_,_,_,rfl,⟨by kernel_rfl,by kernel_rfl⟩,rfl,⟨rfl,rfl,rfl⟩,⟨rfl,rfl,rfl,by kernel_rfl⟩,⟨rfl,rfl,rfl,by kernel_rfl⟩,⟨rfl,rfl,rfl⟩,⟨rfl,rfl,rfl,by kernel_rfl⟩,by kernel_rfl,by kernel_rfl⟩
def fD:eu->Dg->List Dg
 |[],_=>[]
 |e::V,d=>if e.1=d then e.2 else fD V d
theorem Mq: ∀{V:eu} {d:Dg},d∉V.map (·.1)->fD V d=[]
 |[],_,_=>rfl
 |e::V,d,h=>by
  rw[fD,if_neg λa=>h (by simp[a]),Mq λb=>h (by rw[bX,bF];exact .inr b)]
theorem Mn: ∀(V:eu) (key d:Dg) (news:List Dg),key∉V.map (·.1)->fD (V++[(key,news)]) d=if d=key then news else fD V d
 |[],key,d,news,_=>by
  show(if key=d then news else[])=_;by_cases h:d=key
  .subst h;simp
  .rw[if_neg h,if_neg (Ne.symm h)];rfl
 |e::V,key,d,news,hk=>by
  rw[gb,fD,fD,Mn V key d news λh=>hk (by rw[bX,bF];exact .inr h)];by_cases h:e.1=d
  .rw[if_pos h,if_pos h,if_neg λa=>hk (by rw[<-a,<-h];simp)]
  .rw[if_neg h,if_neg h]
theorem Mp(key:Dg)(news:List Dg): ∀(V:eu) (d:Dg),fD (V.map λe=>if e.1=key then(e.1,e.2++news)else e) d=if d=key/\key∈V.map (·.1)then fD V d++news else fD V d
 |[],d=>by simp[fD]
 |e::V,d=>by
  rw[bX,fD,fD,Mp key news V d];by_cases h:e.1=key
  .rw[if_pos h];by_cases a:e.1=d
   .have:d=key:=by rw[<-a,h]
    simp[a,this,h]
   .have: ¬d=key:=λb=>a (by rw[b,h]);simp[a,this]
  .rw[if_neg h];by_cases a:e.1=d
   .have: ¬d=key:=λb=>h (by rw[a,b]);simp[a,this]
   .by_cases hk:d=key
    .subst hk;simp only[if_neg a,true_and,bX,bF];have:(d=e.1\/d∈V.map (·.1))↔d∈V.map (·.1):=⟨λh=>by rcases h with h|h;exact absurd h.symm a;exact h,.inr⟩
     simp only[this]
    .simp[a,hk]
theorem Mm(V:eu)(key d:Dg)(news:List Dg):fD (il V key news) d=if d=key then fD V d++news else fD V d:=by
 unfold il;by_cases h:key∈V.map (·.1)
 .rw[if_pos h,Mp];simp[h]
 .rw[if_neg h,Mn V key d news h];by_cases a:d=key
  .subst a;rw[if_pos rfl,if_pos rfl,Mq h];rfl
  .rw[if_neg a,if_neg a]
theorem JL(V:eu)(key d:Dg)(news:List Dg):d∈(il V key news).map (·.1)↔d=key\/d∈V.map (·.1):=by
 unfold il;by_cases h:key∈V.map (·.1)
 .rw[if_pos h];have a:(V.map λe=>if e.1=key then(e.1,e.2++news)else e).map (·.1)=V.map (·.1):=by
   rw[ll];apply vt;intro e _;show(if e.1=key then(e.1,e.2++news)else e).1=e.1;split<;>rfl
  rw[a];exact⟨.inr,λb=>by rcases b with rfl|b;exact h;exact b⟩
 .rw[if_neg h];simp only[fF,fk,bX,fi,jH];exact or_comm
theorem Mr(id d x:Dg): ∀(needs:List Dg) (V:eu),(x∈fD (nc V id needs) d↔x∈fD V d\/(x=id/\d∈needs))/\(d∈(nc V id needs).map (·.1)↔d∈V.map (·.1)\/d∈needs)
 |[],V=>by simp[nc]
 |e::l,V=>by
  obtain⟨b,c⟩:=Mr id d x l (il V e [id]);rw[nc,b,c,Mm,JL];constructor
  .by_cases a:d=e
   .subst a;simp only[if_true,fk,bF,List.not_mem_nil,or_false,true_or,and_true];constructor
    .rintro((h|h)|⟨h,_⟩)
     .exact .inl h
     .exact .inr h
     .exact .inr h
    .rintro(h|h)
     .exact .inl (.inl h)
     .exact .inl (.inr h)
   .simp only[a,if_false,bF,false_or]
  .rw[bF];constructor
   .rintro((h|h)|h)
    .exact .inr (.inl h)
    .exact .inl h
    .exact .inr (.inr h)
   .rintro(h|h|h)
    .exact .inl (.inr h)
    .exact .inl (.inl h)
    .exact .inr h
theorem wZ(G:eu)(d x:Dg): ∀(a:List Nat) (V:eu),(x∈fD (iI G a V) d↔x∈fD V d\/ ∃i∈a,∃needs,G[i]?=some (x,needs)/\d∈needs)/\(d∈(iI G a V).map (·.1)↔d∈V.map (·.1)\/ ∃i∈a,∃id needs,G[i]?=some (id,needs)/\(d=id\/d∈needs))
 |[],V=>by simp[iI]
 |i::a,V=>by
  obtain⟨f,g⟩:=wZ G d x a (va G i V);rw[iI,f,g];unfold va;cases b:G[i]? with
  |none=>
   simp only[bF,exists_eq_or_imp,b,reduceCtorEq,false_and,exists_false,false_or,exists_const];exact⟨trivial,trivial⟩
  |some e=>
   obtain⟨id,needs⟩:=e;obtain⟨j,k⟩:=Mr id d x needs (il V id []);simp only[bF,exists_eq_or_imp,b,xM,Prod.mk.injEq];rw[j,k,Mm,JL];constructor
   .have c:(if d=id then fD V d++[]else fD V d)=fD V d:=by split<;>simp
    rw[c,or_assoc];apply or_congr dK;apply or_congr _ dK;constructor
    .rintro⟨rfl,h⟩;exact⟨needs,⟨rfl,rfl⟩,h⟩
    .rintro⟨_,⟨rfl,rfl⟩,h⟩;exact⟨rfl,h⟩
   .constructor
    .rintro(((h|h)|h)|h)
     .exact .inr (.inl ⟨id,needs,⟨rfl,rfl⟩,.inl h⟩)
     .exact .inl h
     .exact .inr (.inl ⟨id,needs,⟨rfl,rfl⟩,.inr h⟩)
     .exact .inr (.inr h)
    .rintro(h|⟨_,_,⟨rfl,rfl⟩,h|h⟩|h)
     .exact .inl (.inl (.inr h))
     .exact .inl (.inl (.inl h))
     .exact .inl (.inr h)
     .exact .inr h
theorem RM{k:aP}{w:World}(n:Nat){vs:List Value}{xs:List AV}(a:fU k w vs xs)(d:xs.length<=n):FR k w {tmps:=vs.toArray++Array.replicate (n-vs.toArray.size) undef,defers:=[]} (jK 0 xs):=λt x b=>by
 rw[EE]at b;simp only[fG,if_true,pI]at b;have e:=(aV.1 b).1;have d:=a.1;have c:vs[t]?=some vs[t]:=bQ a8;have hg:(vs.toArray++Array.replicate (n-vs.toArray.size) undef).getD t undef=vs[t]:=by
  rw[rX,D6 (by simp;omega)];simp[c]
 show RA k w ((vs.toArray++Array.replicate (n-vs.toArray.size) undef).getD t undef) x;rw[hg];exact a.2 t _ x c b
def gR(l:ar):eu:=l.map λx=>(x.id,bu x.pat)
theorem RV(l:ar):gM (gR l)=gS l:=by unfold gM gR gS;rw[ll];rfl
theorem TS.toD{n:Nat}{M:MD}{V:eu}{s:List aa}(h:TS n M V s): ∀e∈M,e.2.toD=some (.sl 32 ((fD V e.1).map au))/\e.1∈V.map (·.1):=λe g=>by
 obtain⟨j,i⟩:=fE g;obtain⟨l,d,a⟩:=h.row j e.1 e.2 i;have k:fD V e.1=l:=by
  have: ∀(V:eu) (j:Nat),(V.map (·.1)).Nodup->V[j]?=some (e.1,l)->fD V e.1=l:=by
   intro V
   induction V with
   |nil=>intro j _ h;simp at h
   |cons y V m=>
    intro j c h;rw[fD];rw[bX,nP]at c;cases j with
    |zero=>simp at h;rw[h];simp
    |succ j=>
     have hm:e.1∈V.map (·.1):=eR (f:=Prod.fst) (bR (show V[j]?=some (e.1,l) by simpa using h));rw[if_neg λa=>c.1 (by rw[a];exact hm)];exact m j c.2 (by simpa using h)
  exact this V j h.nd d
 refine⟨?_,eR (f:=Prod.fst) (bR d)⟩;rw[k];rcases a with⟨b,rfl⟩|⟨r,b,_⟩
 .rw[b];rfl
 .rw[b];rfl
theorem j4.of{c:Nat->Code->CC->Prop}{P:Program}{N:Nat}{ops:Array Oper}{l:List Oper}{fr fr':Fr}{s e:List aa}{f:List Nat}{Q:Exit->Fr->List aa->Prop}(h:iJ c P ops l fr s f fr' e)(i:Q .normal fr' e)(g: ∀o∈l,∀d,o.dst=some d->d<N)(b: ∀o∈l,fj o=true):j4 c P N ops l fr s Q:=λB D r q t k a w ha j n p m=>GB h i g b k a w ha j n p m
theorem j4.round{P:Program}{N:Nat}{cs:List CO}{tail:CC}{Q:Exit->Fr->List aa->Prop}{fr:Fr}{s:List aa}{f:List Nat}{ops:Array Oper}{l:List Oper}{c:Code}(m:kK P f ops l=some cs)(hc:dH P N c tail)(j: ∀o∈l,∀d,o.dst=some d->d<N)(b: ∀o∈l,fj o=true)
  (h:cy P none (.seq (.ops false [] cs) tail) Q fr s):j4 (dH P) P N ops l fr s λe fr s=>e= .normal/\gg (λa n=>eG (dH P) P N none c a n Q) Q .normal fr s:=
 let⟨p,g,s2,i,k⟩:=Mk (N:=N) h m hc;j4.of i ⟨rfl,k⟩ j b
theorem Mo{c:Nat}: ∀{V:eu} (d:Dg),(∀e∈V,e.2.length<=c)->(fD V d).length<=c
 |[],_,_=>fG _
 |e::V,d,h=>by
  rw[fD];split
  .exact h e (by simp)
  .exact Mo d λe a=>h e (by simp[a])
theorem Nl{G:eu}(d: ∀e∈G,e.2.length<=100000): ∀(b:List Nat) (V:eu) (c:Nat),(∀e∈V,e.2.length<=c)-> ∀e∈iI G b V,e.2.length<=c+b.length*100000
 |[],V,c,h=>λe a=>by have:=h e a;simp;exact this
 |i::b,V,c,h=>λe a=>by
  have f: ∀e∈va G i V,e.2.length<=c+100000:=λe a=>by
   unfold va at a;split at a
   .rename_i id needs hg;have g:=d _ (bR hg);have j:=Dn id needs _ c (λe a=>by have:=An (news:=[]) h e a;simpa using this) e a;have k:needs.length<=100000:=g;omega
   .have:=h e a;omega
  have:=Nl d b _ (c+100000) f e a;rw[aY];omega
theorem Eg{l:ar}{i:Nat}{id:Dg}{needs:List Dg}(h:(gR l)[i]?=some (id,needs)): ∃x∈l,id=x.id/\needs=bu x.pat:=by
 unfold gR at h;rw[dj]at h;obtain⟨x,b,a⟩:=dy.1 h;cases a;exact⟨x,bR b,rfl,rfl⟩
def Dm(l:ar)(ids:List Dg)(d:AV)(b:List aa):Prop:=
 ∃a:List Nat,a.Nodup/\a.length=(gR l).length/\(∀i∈a,i<(gR l).length)/\
 (
  ((∀x∈ids,x∈(iI (gR l) a []).map (·.1))/\ ∃(O:List Dg),O.Nodup/\(∀x,x∈O↔sf (fD (iI (gR l) a [])) ids x)/\bE b 5 d=some (.tup [.sl 32 ((O.mergeSort fp).map au),dI 0]))\/
  ((¬ ∀x∈ids,x∈(iI (gR l) a []).map (·.1))/\bE b 5 d=some (.tup [.sl 32 [],dI 7])))
set_option maxHeartbeats 2000000 in
theorem ZM(l:ar)(hl:l.length<=100000)(J: ∀x∈l,bS x.pat/\db x.pat)(V:(b8 l).Nodup)(H: ∀x∈l,(bu x.pat).length<=100000)(R: ∀x∈l,∀d∈bu x.pat,d∈b8 l)(ids:List Dg)(T:ids.length<=1000000):
  kx (dH Tryz.prog) Tryz.prog 157 [.d (.sl 37 (l.map aX)),.d (.sl 32 (ids.map au))] [] (Dm l ids):=by
 obtain⟨cX,cZ,ops,o1,o2,o3,o4,o5,l5,p1,p2,p3,t1,t2,t3,q,⟨k1,k2⟩,I,⟨a1,a2,a3⟩,⟨b1,b2,b3,b4⟩,⟨c1,c2,c3,c4⟩,⟨d1,d2,d3⟩,⟨e1,e2,e3,e4⟩,k5,m⟩:=ZL;refine kx.of (fr:=jK 0 [.d (.sl 37 (l.map aX)),.d (.sl 32 (ids.map au))]) Tryz.func157 q (by rfl) (by show 2<=19;decide) (λk w vs Y=>RM _ Y (by show 2<=19;decide)) ?_
 show eG (dH Tryz.prog) Tryz.prog 19 none _ _ _ _;refine eG.seq (eG.ofAC (bG (cc:=Gs) ?_) ⟨_,k1⟩);unfold Gs;refine aC @wj trivial ?_;refine eG.seq (eG.region ?_);rw[I];have j: ∀(o:Oper) (fr:Fr),o.guard=none->gd ops fr o=some true:=λo fr h=>by unfold gd;rw[h]
 have z: ∀(o:Oper) (f:FuncId) (ps:Array Operand) (ts:Array TypeId),o.op= .call {callee:= .value (.func f),args:=ps,argTypes:=ts}->fj o=true:=λo f ps ts h=>by unfold fj;rw[h]
 have L: ∀(o:Oper) (x:Operand),o.op= .move x->fj o=true:=λo x h=>by unfold fj;rw[h]
 refine j4.step (j _ _ a1) (L _ _ a3) (λd c=>by rw[a2]at c;cases c;decide) (BQ (t:=0) (y:= .t 0) (.inl a3) rfl rfl) ?_;rw[a2];refine j4.stepN (j _ _ b1) (z _ _ _ _ b3) (λd c=>by rw[b2]at c;cases c;decide) (ET b3 b4 rfl (kx.ofK (Js l a8 J V))) ?_;rintro _ s1 ⟨rfl,E⟩;rw[b2];rw[<-RV]at E
 refine j4.stepN (j _ _ c1) (z _ _ _ _ c3) (λd c=>by rw[c2]at c;cases c;decide) (ET c3 c4 rfl (Zq (gR l) (by unfold gR;rw[aM];exact hl) (λe r=>by obtain⟨x,n,rfl⟩:=bM.1 r;exact H x n) s1 0 E)) ?_;rintro _ s2 ⟨b,M,F,s,G,rfl,N⟩;rw[c2]
 refine j4.step (j _ _ d1) (L _ _ d3) (λd c=>by rw[d2]at c;cases c;decide) (BQ (t:=0) (y:= .t 1) (.inl d3) rfl rfl) ?_;rw[d2];have g:M.map (·.1)=(iI (gR l) b []).map (·.1):=N.keys;have U:(gR l).length=l.length:=by unfold gR;rw[aM]
 have P: ∀e∈gR l,e.2.length<=100000:=λe r=>by obtain⟨x,n,rfl⟩:=bM.1 r;exact H x n
 have Q:M.length<=100000:=by
  have p:((iI (gR l) b []).map (·.1)).length<=(b8 l).length:=sW N.nd λd c=>by
   rcases(wZ (gR l) d d b []).2.1 c with h|⟨i,_,id,needs,A,C⟩
   .cases h
   .obtain⟨x,n,rfl,rfl⟩:=Eg A;rcases C with rfl|C
    .exact eR (f:=bD.id) n
    .exact R x n d C
  rw[<-g,aM]at p;have:(b8 l).length=l.length:=aM _;omega
 have a0:b.length<=100000:=by rw[s,U];exact hl
 refine j4.stepN (j _ _ e1) (z _ _ _ _ e3) (λd c=>by rw[e2]at c;cases c;decide) (ET e3 e4 rfl (kx.ofK (V8 M (fD (iI (gR l) b [])) Q (λe r=>⟨(N.toD e r).1,?_,?_⟩) s1.length ids T s2 N.map))) ?_
 .have:=Mo e.1 (Nl P b [] 0 (λe r=>by cases r));omega
 .intro x n;rcases(wZ (gR l) e.1 x b []).1.1 n with h|⟨i,p,needs,A,_⟩
  .cases h
  .rw[g];exact(wZ (gR l) x x b []).2.2 (.inr ⟨i,p,x,needs,A,.inl rfl⟩)
 rintro d Z h;rw[e2];have n5: ∀o∈l5,∀d,o.dst=some d->d<19:=λo W d c=>by
  have:=js.1 m o W;rw[c]at this;simp at this;exact this.1
 have K: ∀o∈l5,fj o=true:=λo W=>by
  have:=js.1 m o W;rw[dW]at this;exact this.2
 rw[g]at h;rcases h with⟨p,O,v,A,C,rfl,h5⟩|⟨p,rfl⟩
 .have u:Dm l ids (.tup [v,.d (dI 0)]) Z:=⟨b,F,s,G,.inl ⟨p,O,A,C,by
   show(dw (bE Z 4) [v,.d (dI 0)]).map D.tup=_;unfold dw;rw[h5 2];rfl⟩⟩
  have X:=jC Tryz.prog v;refine j4.round (tail:=zN) k5 ⟨_,k2⟩ n5 K ?_;unfold zN;simp only[dt];refine aC (ga @X @wj) trivial ?_;exact⟨.inr trivial,_,u,λB k a w S J=>Co (fn:=Tryz.f157) (rs:=[.tmp 4,.tmp 5]) (by rfl) (by rfl) S J⟩
 .have u:Dm l ids (.tup [.nil 32,.d (dI 7)]) Z:=⟨b,F,s,G,.inr ⟨p,by simp[bE,dw,AV.toD,AV.toL]⟩⟩
  refine j4.round (tail:=zN) k5 ⟨_,k2⟩ n5 K ?_;unfold zN;simp only[dt];refine aC @wj trivial ?_;exact⟨.inr trivial,_,u,λB k a w S J=>Co (fn:=Tryz.f157) (rs:=[.tmp 4,.tmp 5]) (by rfl) (by rfl) S J⟩
theorem JB{n:Nat}{a:List Nat}(c:a.Nodup)(f:a.length=n)(d: ∀i∈a,i<n)(i:Nat)(hi:i<n):i∈a:=by
 apply fX;intro e;have:=wG (l:=i::a) (u:=List.range n) (nP.2 ⟨e,c⟩) λy b=>lp.2 (by rcases bF.1 b with rfl|b;exact hi;exact d y b);rw[aY,dX]at this;omega
theorem Jl{l:ar}{x:bD}(a:x∈l): ∃i,i<(gR l).length/\(gR l)[i]?=some (x.id,bu x.pat):=by
 obtain⟨i,hi⟩:=fE a;have:(gR l)[i]?=some (x.id,bu x.pat):=by unfold gR;rw[dj,hi];rfl
 exact⟨i,(aV.1 this).1,this⟩
theorem No{H:bb->Dg}{l:ar}(h:dm H l){a:List Nat}(e:a.Nodup)(g:a.length=(gR l).length)(j: ∀i∈a,i<(gR l).length)(d:Dg):d∈(iI (gR l) a []).map (·.1)↔d∈b8 l:=by
 rw[(wZ (gR l) d d a []).2];constructor
 .rintro(c|⟨i,_,id,needs,c,h5⟩)
  .cases c
  .obtain⟨x,b,rfl,rfl⟩:=Eg c;rcases h5 with rfl|h5
   .exact eR (f:=bD.id) b
   .exact h.needs x b d h5
 .intro k;obtain⟨x,b,rfl⟩:=bM.1 k;obtain⟨i,hi,hg⟩:=Jl b;exact .inr ⟨i,JB e g j i hi,_,_,hg,.inl rfl⟩
theorem Np{H:bb->Dg}{l:ar}(h:dm H l){a:List Nat}(g:a.Nodup)(j:a.length=(gR l).length)(k: ∀i∈a,i<(gR l).length)(d x:Dg):x∈fD (iI (gR l) a []) d↔x∈b8 l/\d∈rq l x:=by
 rw[(wZ (gR l) d x a []).1];constructor
 .rintro(c|⟨i,_,needs,c,h5⟩)
  .cases c
  .obtain⟨y,b,rfl,rfl⟩:=Eg c;refine⟨eR (f:=bD.id) b,?_⟩;unfold rq;rw[iT h.sorted.nodup y b];exact h5
 .rintro⟨m,e⟩;obtain⟨y,b,rfl⟩:=bM.1 m;unfold rq at e;rw[iT h.sorted.nodup y b]at e;obtain⟨i,hi,hg⟩:=Jl b;exact .inr ⟨i,JB g j k i hi,_,hg,e⟩
theorem Zm{H:bb->Dg}{l:ar}(h:dm H l){a:List Nat}(m:a.Nodup)(n:a.length=(gR l).length)(o: ∀i∈a,i<(gR l).length){ids:List Dg}(hi: ∀d∈ids,d∈b8 l)(x:Dg):sf (fD (iI (gR l) a [])) ids x↔x∈b8 l/\ ∃e∈ids,∃j,Path l j x e:=by
 constructor
 .intro q
  induction q with
  |base b=>exact⟨hi _ b,_,b,0,rfl⟩
  |step _ b k=>
   obtain⟨r,s⟩:=(Np h m n o _ _).1 b;obtain⟨_,e,g,j,hp⟩:=k;exact⟨r,e,g,j+1,_,s,hp⟩
 .rintro⟨b,e,g,j,hp⟩
  induction j generalizing x with
  |zero=>obtain rfl:x=e:=hp;exact .base g
  |succ j k=>
   obtain⟨c,hc,hp⟩:=hp;obtain⟨y,p,rfl⟩:=bM.1 b;have f:c∈bu y.pat:=by unfold rq at hc;rw[iT h.sorted.nodup y p]at hc;exact hc
   exact .step (k c (h.needs y p c f) hp) ((Np h m n o c y.id).2 ⟨b,hc⟩)
theorem Z8{O:List Dg}(h:O.Nodup):bT (O.mergeSort fp):=by
 have c:(O.mergeSort fp).Nodup:=(List.mergeSort_perm O fp).nodup_iff.2 h;refine(List.Pairwise.and (MY O) c).imp λ{a b} ⟨h1,h2⟩=> ?_;simp only[fp,decide_eq_true_eq]at h1;rcases Int.lt_or_eq_of_le h1 with h|h
 .exact h
 .exact absurd ((k8 a b).1 h) h2
theorem kx.mono'{g:Nat->Code->CC->Prop}{P:Program}{f:FuncId}{xs:List AV}{s:List aa}{K c:AV->List aa->Prop}(h:kx g P f xs s K)(hk: ∀d s,K d s->c d s):kx g P f xs s c:=
 ⟨h.enters,λB k w vs a b=>(h.calls B k w vs a b).mono λe w' ⟨d,l,i,j⟩=>⟨d,l,hk _ _ i,j⟩⟩
theorem V3{H:bb->Dg}{l:ar}(h:dm H l)(o:l.length<=100000)(p: ∀x∈l,bS x.pat/\db x.pat)(m: ∀x∈l,(bu x.pat).length<=100000)(ids:List Dg)(k:ids.length<=1000000):
  aI Tryz.prog 157 [.sl 37 (l.map aX),.sl 32 (ids.map au)] (.tup [.sl 32 ((fS l ids).1.map au),dI (fS l ids).2]):=by
 refine aI.of_runsN (kx.mono' (ZM l o p h.sorted.nodup m h.needs ids k) ?_);rintro d u ⟨q,b,c,e,⟨f,O,g,a,n⟩|⟨f,g⟩⟩
 .have hi: ∀d∈ids,d∈b8 l:=λd i=>(No h b c e d).1 (f d i);obtain⟨r,s,t⟩:=Gt h hi;have j:O.mergeSort fp=(fS l ids).1:=Ge (Z8 g) s λx=>by
   rw[t,(List.mergeSort_perm O fp).mem_iff,a,Zm h b c e hi]
  rw[n,j,r]
 .have hi: ¬ ∀d∈ids,d∈b8 l:=λa=>f λd i=>(No h b c e d).2 (a d i);have j:fS l ids=([],7):=by unfold fS;rw[if_neg λa=>hi ((oS _ _).1 a)]
  rw[g,j];rfl
end Go.Proofs.Q
