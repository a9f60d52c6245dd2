/- Lemmas. -/
import Derived.Test.YtellfinifjmloaaGreatDoorPBG
import Derived.Test.YtellfinifjmloaaGreatDoorPBF
set_option linter.unusedVariables false
set_option linter.unusedSimpArgs false
namespace Go.Proofs.Q
open Go Go.Bb Go.RowKit Go.Proofs.Lg
open Go.Ab (D RD)
theorem N2(p:aX)(hp:cz p)(d:du p):aG Tryz.prog 105 [.agg (bc p)] (.tup [.agg (aP (bq ar p).1),dI (bq ar p).2]):=by
 have a:=Gn p hp d;have b:=a3i (cV p).1 (by have:=JP p;omega);unfold bq;by_cases h:(cV p).2=0
 ·rw[h]at a;rw[if_neg (by simpa using h)];clear h;refine aM (F:=sR) Mf (by simp[sR]) ?_;simp only[sR];exact bU (ga @eo @ba) (ga @a @b)
 ·have c:((cV p).2 !=0)=true:=by simpa using h
  rw[if_pos h];refine aM (F:=sR) Mf (by simp[sR]) ?_;simp only[sR];exact bU (ga @c (ga @eo @ba)) @a
theorem zn(A B:List au):eS (A++B)=eS A++eS B:=by simp only[eS,fp,s8]
theorem IT(L:List au)(n:Nat)(h:n≤L.length):(eS L).take (n*172)=eS (L.take n):=by
 conv=>lhs;rw[←ji n L,zn]
 rw[gj (by rw[so,ck];omega),dq (by rw[so,ck];omega)]
theorem IQ(L:List au)(n:Nat)(h:n≤L.length):(eS L).drop (n*172)=eS (L.drop n):=by
 conv=>lhs;rw[←ji n L,zn]
 rw[gB,gC (by rw[so,ck];omega),bm,so,ck,qG h,jl,jY]
theorem Rq{L:List au}{k:Nat}{d:au}(h:L[k]?=some d):((eS L).drop (k*172)).take 172=(aI d).map .d:=by
 obtain⟨hk,rfl⟩:=b9.1 h;rw[IQ L k a8,kT hk];have:=IT (L[k]::L.drop (k+1)) 1 (by rw[aY];omega);rw[sg]at this;rw[this,jj,uj,F2]
theorem IS{L:List au}{k:Nat}(hk:k<L.length)(d:au):(eS L).take (k*172)++((aI d).map .d++(eS L).drop (k*172+172))=eS (L.set k d):=by
 rw[IT L k a8,show k*172+172=(k+1)*172 by omega,IQ L (k+1) a8,F2,←zn,←zn];congr 1;rw[List.set_eq_take_append_cons_drop,if_pos hk];simp
theorem Rx(b:List af)(x:af):c9 b++(aj x).map .d=c9 (b++[x]):=by
 rw[pY,pY];simp
theorem Rv(x:af):(aj x).map .d=c9 [x]:=by rw[pY];simp
theorem wJ(b:List af):(c9 b).length=b.length*33:=by
 unfold c9;rw[aQ,yD]
def PY(v:AV)(s:List aa)(b:List af):Prop:=(v= .nil 33∧b=[])∨ ∃r,v= .vec r b.length 33∧s[r]?=some (.vec 27 33 (c9 b))∧b≠[]
def nf(d:Dg)(x:au):au:={jB d x with over:=(x.over.map (whole · d)).mergeSort eN}
def dR(p:aX):List au×Int:=if(bq ar p).2≠0 then([],(bq ar p).2)else((eG p).map (nf (bq ar p).1),0)
theorem J9: ∀(l:List aC) (own:List au),qI own→qI (dW l own).1
 |[],own,h=>h
 |c::l,own,h=>by
  rw[dW]
  repeat' split
  all_goals first
   |exact fun i a ha=>by simp at ha
   |exact J9 l _ (h.app c)
theorem JT(p:aX):qI (eG p):=by
 unfold eG;split
 ·exact fun i a ha=>by simp at ha
 ·rename_i h;have c:(dw p).2=0:=by
   unfold cV at h;by_cases b:(dw p).2=0
   ·exact b
   ·rw[if_pos b]at h;exact absurd b h
  obtain⟨_,e,_,d,_⟩:=jy c;rw[d];exact J9 _ _ fun i a ha=>by simp at ha
theorem JU(p:aX): ∀x∈eG p,x.over.length≤400:=by
 intro x a;unfold eG at a;split at a
 ·cases a
 ·rename_i h;have c:(dw p).2=0:=by
   unfold cV at h;by_cases b:(dw p).2=0
   ·exact b
   ·rw[if_pos b]at h;exact absurd b h
  obtain⟨_,e,_,d,_⟩:=jy c;rw[d]at a;exact F6 (by simp) x a
theorem Fo(p:aX):(eG p).length≤1604400:=by
 unfold eG;split
 ·exact fy _
 ·rename_i h;have b:(dw p).2=0:=by
   unfold cV at h;by_cases a:(dw p).2=0
   ·exact a
   ·rw[if_pos a]at h;exact absurd a h
  obtain⟨_,d,_,c,_⟩:=jy b;rw[c];have:=zw (l:=p.changes) (own:=[]);simp at this;omega
theorem a3U{i:Nat}{d:Dg}{y:af}(h:y=dM i):whole y d={y with p:=d}:=by
 subst h;unfold whole;rw[if_pos ⟨by simp[isZero,dM],by simp[dM]⟩]
theorem AC.toD1{P:Program}{N:Nat}{cc:CC}{Q:Exit→Fr→List aa→Prop}{fr:Fr}{s:List aa}(n:Nat)(rest:Fr){y:AV}{d:D}(f:Bb.look fr n=some y)(b:y.toD=some d)(c:lU rest fr)(h:AC P N none cc Q ((n,.d d)::rest) s):AC P N none cc Q fr s:=
 AC.toD (fr':=(n,.d d)::rest) (fun t x a=>by
  unfold Bb.look at a;split at a
  ·rename_i e;subst e;cases a;exact .inr ⟨y,d,f,b,rfl⟩
  ·exact .inl (c.sub t x a)) h
theorem AC.freezeV1{P:Program}{N:Nat}{cc:CC}{Q:Exit→Fr→List aa→Prop}{fr:Fr}{s:List aa}{i e sz k:Nat}{rows:List (List D)}(n:Nat)(rest:Fr)(l:s[i]?=some (.vec e sz (rows.flatten.map .d)))(g:0<sz)(j:rows.length=k)(c:0<k)(f: ∀r∈rows,r.length=sz)
  (m:Bb.look fr n=some (.vec i k sz)) (a:lU rest fr) (h:AC P N none cc Q ((n,.d (.sl sz rows))::rest) (s.set i .junk)):AC P N none cc Q fr s:=
 AC.freezeV (fr':=(n,.d (.sl sz rows))::rest) l g j c f (fun t x b=>by
  unfold Bb.look at b;split at b
  ·rename_i e;subst e;cases b;exact .inr ⟨m,rfl⟩
  ·exact .inl (a.sub t x b)) h
set_option maxHeartbeats 4000000 in
theorem Z9(p:aX)(hp:cz p)(hN:du p):aG Tryz.prog 88 [.agg (bc p)] (.tup [.sl 172 ((dR p).1.map aI),dI (dR p).2]):=by
 have c1:=N4 p hp hN;have c2:=N2 p hp hN;have D:=JT p;have b6:=JU p;have c5:=Fo p;refine qx (F:=B6) WM (by simp[B6]) ?_;simp only[B6];refine AC.seq (bD ?_);refine aO @wj ab ?_;by_cases h:(cV p).2=0
 ·have h2:(bq ar p).2=0:=by unfold bq;rw[if_neg (by simpa using h)]
  obtain⟨d,hd⟩: ∃d,d=(bq ar p).1:=⟨_,rfl⟩
  obtain⟨own,G⟩: ∃own,own=eG p:=⟨_,rfl⟩
  have hA:dR p=(own.map (nf d),0):=by unfold dR;rw[if_neg (by simpa using h2),hd,G]
  rw[h]at c1;rw[h2,←hd]at c2;rw[hA];rw[←G]at c1 D b6 c5;refine AC.seq (bD ?_)
  repeat' first|refine ae (fun _=> ?_) fun _=> ?_|refine aL ?_|(refine aq.fn (c1.mono ?_);rintro _ z ⟨v,rfl,hg⟩)|simp only[wj,wy,qg,aH,simprocAttr,aA,aF,aE,aw]
  have q:=qm Tryz.prog v;refine aO (ga @q @wj) ab ?_;clear c1 hd G hA h h2;refine AC.seq (bD ?_);refine aO (ga @q @wj) ab ?_;refine AC.seq (bD ?_);refine aO (ga @q (ga @ba (ga @eo @wj))) @c2 ?_;refine AC.seq (bD ?_);refine aO (ga @q @wj) ab ?_;refine AC.freeze (i:=z.length) (ds:=aP d) (fr':=[(7,.d (.ref (aP d))),(4,v)]) (by simp) (fun t x hx=> ?_) ?_
  ·unfold Bb.look at hx;split at hx
   ·rename_i e;subst e;cases hx;exact .inr ⟨rfl,rfl⟩
   ·obtain⟨rfl,rfl⟩:=UE hx;exact .inl rfl
  refine AC.seq (bD ?_);refine aO (ga @q @wj) ab ?_;have cw:=fun y=>Z8 y d;rcases hg with⟨rfl,hn⟩|⟨r,rfl,w⟩
  ·rw[hn];refine bD ?_;refine aO @wj ab ?_;refine aZ.tr (fun _:Unit=>[]) (fun _=>_) (fun _ _=>True) 0 () aB aB rfl trivial ?_;rintro m _ _;exact bU @wj ab
   all_goals first|rfl|trace_state
  have hS:(z++[aa.junk])[r]?=some (.vec 32 172 (eS own)):=bW w _;generalize z++[aa.junk]=s0 at hS⊢;clear w q c2;refine AC.seq (AC.seq (bD ?_));refine aO @wj ab ?_;refine AC.block ?_
  refine AC.overI own (fun k (b:List au×List aa)=>[(34,iN k)]) (fun _ b=>b.2) (fun r b=>b.1++r.map (nf d)) (own.map (nf d)) (fun k b=>b.1.length=k∧b.2[r]?=some (.vec 32 172 (eS (b.1++own.drop k)))) ([],s0) a8 aB aB rfl rfl ⟨rfl,hS⟩ (fun k b x hg hk hd hw P hJ=> ?_) (fun b hd P hJ=> ?_)
  ·obtain⟨b,s⟩:=b;obtain⟨g,w⟩:=hJ;dsimp only at P g w;refine AC.seq (bD ?_);refine aO (ga @hd (ga @hw @wj)) ab ?_;refine AC.seq (bD ?_);refine aO @wj ab ?_;refine AC.seq (AC.block ?_);generalize a7:lM 1 _=QB;obtain⟨X,a2⟩: ∃X,X=b++own.drop k:=⟨_,rfl⟩
   have hL:(b++own.drop k).length=own.length:=by rw[aR,aA];omega
   have a3:(b++own.drop k)[k]?=some x:=by rw[iO a8,g,jl,fm,aE];exact hg
   have R:(eS (b++own.drop k)).length=own.length*172:=by rw[so,hL]
   have a0:=Rq a3;have q0:k*172+172≤own.length*172:=by omega
   rw[←a2]at w hL a3 R a0;have c0:=D k x hg;have c8:=b6 x (bX hg);refine AC.seq (bD ?_);refine aO (ga @w (ga @hk (ga @R (ga @a0 (ga @q0 (ga @bb (ga @bz @wj))))))) ab ?_;refine AC.seq (bD ?_)
   repeat' first|refine ae (fun _=> ?_) fun _=> ?_|refine aL ?_|refine aq.data (cw _) rfl ?_|simp only[a3U c0,bb,kI,xU,az,aQ,wj,wy,qg,aH,simprocAttr,aA,aF,aE,aw]
   obtain⟨y1,a6⟩: ∃y:au,y={x with id:={x.id with p:=d}}:=⟨_,rfl⟩
   obtain⟨y2,T⟩: ∃y:au,y=if y1.kind≠7 then{y1 with file:=whole y1.file d}else y1:=⟨_,rfl⟩
   obtain⟨Z,U⟩: ∃y:au,y=if y2.kind=2 then{y2 with parent:=whole y2.parent d}else y2:=⟨_,rfl⟩
   obtain⟨N,V⟩: ∃y:au,y=if Z.kind=6 then{Z with fro:=whole Z.fro d,til:=whole Z.til d}else Z:=⟨_,rfl⟩
   have b1:jB d x=N:=by rw[V,U,T,a6];rfl
   rw[←a6];clear D hS c0;refine AC.cutJ [8,9,10,4,34,32,33] [(8,.clo 131 [] [.d (.ref (aP d))]),(9,iN k),(10,.ptr s.length 0),(4,.vec r own.length 172),(34,iN k),(32,.vec r own.length 172),(33,iN own.length)] (fun z=>z=s++[.cells ((aI y2).map .d)]) ?_ (fun s2 K=> ?_)
   ·by_cases h:y1.kind=7
    ·rw[T,if_neg (by simpa using h)];exact bU (ga @h (ga @bb (ga @kI (ga @az @wj)))) ab
    ·have O:(y1.kind !=7)=true:=by simpa using h
     rw[T,if_pos h];exact bU (ga @O (ga @bb (ga @kI (ga @az @wj)))) @cw
   subst K;refine AC.cutJ [8,9,10,4,34,32,33] [(8,.clo 131 [] [.d (.ref (aP d))]),(9,iN k),(10,.ptr s.length 0),(4,.vec r own.length 172),(34,iN k),(32,.vec r own.length 172),(33,iN own.length)] (fun z=>z=s++[.cells ((aI Z).map .d)]) ?_ (fun s2 K=> ?_)
   ·by_cases h:y2.kind=2
    ·rw[U,if_pos h]
     repeat' first|refine ae (fun _=> ?_) fun _=> ?_|refine aL ?_|refine aq.data (cw _) rfl ?_|simp only[h,beq_self_eq_true,bb,kI,az,aQ,wj,wy,qg,aH,simprocAttr,aA,aF,aE,aw]
    ·have O:(y2.kind==2)=false:=by simpa using h
     rw[U,if_neg h];exact bU (ga @O (ga @bb (ga @kI (ga @az @wj)))) ab
   subst K;refine AC.cutJ [8,9,10,4,34,32,33] [(8,.clo 131 [] [.d (.ref (aP d))]),(9,iN k),(10,.ptr s.length 0),(4,.vec r own.length 172),(34,iN k),(32,.vec r own.length 172),(33,iN own.length)] (fun z=>z=s++[.cells ((aI N).map .d)]) ?_ (fun s2 K=> ?_)
   ·by_cases h:Z.kind=6
    ·rw[V,if_pos h]
     repeat' first|refine ae (fun _=> ?_) fun _=> ?_|refine aL ?_|refine aq.data (cw _) rfl ?_|simp only[h,beq_self_eq_true,bb,kI,az,aQ,wj,wy,qg,aH,simprocAttr,aA,aF,aE,aw]
    ·have O:(Z.kind==6)=false:=by simpa using h
     rw[V,if_neg h];exact bU (ga @O (ga @bb (ga @kI (ga @az @wj)))) ab
   subst K;refine AC.seq (bD ?_);refine aO @wj ab ?_;have b7:N.over=x.over:=by rw[←b1];exact SU d x
   have a9:=bW w [aa.cells ((aI N).map .d)];have Q:(s++[aa.cells ((aI N).map .d)])[s.length]?=some (.cells ((aI N).map .d)):=by simp
   obtain⟨f,Y⟩: ∃n,n=s.length:=⟨_,rfl⟩
   rw[←Y]at Q⊢;have hne:r≠f:=by have:=(b9.1 w).1;omega
   generalize s++[aa.cells ((aI N).map .d)]=s1 at a9 Q⊢;clear w Y a6 T U V a0 a3;refine AC.seq (bD ?_);refine aO (ga @Q (ga @bb (ga @b7 @wj))) ab ?_
   refine aZ.overI x.over (fun m (b:AV×List af×List aa)=>[(76,iN m),(11,b.1)]) (fun _ b=>b.2.2) (fun r b=>b.2.1++r.map (whole · d)) (x.over.map (whole · d)) (fun m b=>PY b.1 b.2.2 b.2.1∧b.2.2[f]?=some (.cells ((aI N).map .d))∧b.2.2[r]?=some (.vec 32 172 (eS X))∧b.2.1.length=m) (.nil 33,[],s1) a8 aB aB rfl rfl ⟨.inl ⟨rfl,rfl⟩,Q,a9,rfl⟩ (fun m b y b2 hm A b8 u a1=> ?_) (fun b A u a1=> ?_)
   ·obtain⟨v,l,t⟩:=b;obtain⟨C,a,c,S⟩:=a1;dsimp only at C a c S u;rw[bV]at u;rcases C with⟨rfl,E⟩|⟨j,rfl,hj,hl1⟩
    ·have a4:bw 1 40=true:=by decide
     repeat' first|refine ae (fun _=> ?_) fun _=> ?_|refine aL ?_|refine aq.data (cw _) rfl ?_|simp only[A,b8,b2,a4,da,az,aQ,fL,List.flatten_nil,bg,wj,wy,qg,aH,simprocAttr,aA,aF,aE,aw]
     refine⟨(.vec (t.length+1) 1 33,[whole y d],t++[aa.cells (List.map AV.d (aj y)),aa.vec 27 33 (List.map AV.d (aj (whole y d)))]),rfl,rfl,by rw[u,E];rfl,.inr ⟨t.length+1,rfl,?_,by simp⟩,bW a _,bW c _,by dsimp only;rw[←S,E];rfl⟩;dsimp only;rw[Rv (whole y d),iO a8,mR];rfl
    ·have a4:bw (l.length+1) 40=true:=room_le a8 a8;have b0:=wJ l;have c4:=bW hj
     repeat' first|refine ae (fun _=> ?_) fun _=> ?_|refine aL ?_|refine aq.data (cw _) rfl ?_|simp only[A,b8,b2,a4,hj,c4,b0,da,az,Rx,aQ,fL,List.flatten_nil,bg,wj,wy,qg,aH,simprocAttr,aA,aF,aE,aw]
     have b3:=(b9.1 hj).1;refine⟨(.vec j (l.length+1) 33,l++[whole y d],(t++[aa.cells (List.map AV.d (aj y))]).set j (aa.vec 27 33 (c9 (l++[whole y d])))),rfl,rfl,by rw[u];simp,.inr ⟨j,by simp,?_,by simp⟩,?_,?_,by dsimp only;simp;omega⟩
     ·dsimp only;rw[fx (by simp;omega)]
     ·dsimp only;rw[bC (by rintro rfl;rw[hj]at a;cases a)];exact bW a _
     ·dsimp only;rw[bC (by rintro rfl;rw[hj]at c;cases c)];exact bW c _
   ·obtain⟨v,l,t⟩:=b;obtain⟨C,a,c,S⟩:=a1;dsimp only at C a c S u;rw[e8,bg]at u;have B:nf d x={N with over:=l.mergeSort eN}:=by unfold nf;rw[b1,u]
    rcases C with⟨rfl,E⟩|⟨j,rfl,hj,hl1⟩
    ·have cs:=fun s=>Hv 52 s
     repeat' first|refine ae (fun _=> ?_) fun _=> ?_|refine ay (ga @A @wj) ab ?_|exact ax (ga @A @wj) ab|fail
     refine AC.seq (bD ?_)
     repeat' first|refine ae (fun _=> ?_) fun _=> ?_|refine aL ?_|(refine aq.fn ((cs _).mono ?_);rintro _ z ⟨rfl,rfl⟩)|simp only[wj,wy,qg,aH,simprocAttr,aA,aF,aE,aw]
     refine AC.toD1 11 [(8,.clo 131 [] [.d (.ref (aP d))]),(9,iN k),(10,.ptr f 0),(4,.vec r own.length 172),(34,iN k),(32,.vec r own.length 172),(33,iN own.length)] rfl (show(AV.nil 33).toD=some (.sl 33 (([]:List af).map aj))from rfl) ⟨rfl,rfl,rfl,rfl,rfl,rfl,rfl,trivial⟩ ?_;rw[E,show([]:List af).mergeSort eN=[] by simp]at B
     have J: ∀o,(z.set f o)[f]?=some o:=fun o=>fx (b9.1 a).1;have a5: ∀o,(z.set f o)[r]?=some (.vec 32 172 (eS X)):=fun o=>by rw[bC (Ne.symm hne)];exact c
     have I:=hne;obtain⟨W,M⟩: ∃W,W=nf d x:=⟨_,rfl⟩
     rw[←M]at B;have H:=IS (L:=X) (k:=k) a8 W;refine AC.seq (bD ?_);refine aO (ga @a (ga @bb (ga @kI @wj))) ab ?_;rw[←B];refine bD ?_;refine aO (ga @J (ga @a5 (ga @I (ga @R (ga @H (ga @q0 (ga @hk (ga @bb @wj)))))))) ab ?_;rw[←a7]
     repeat' first|refine ae (fun _=> ?_) fun _=> ?_|refine ay @wj ab ?_|exact ax @wj ab|fail
     refine bD ?_;refine aO (ga @hw @wj) ab ?_;rw[bV]at P;refine⟨(b++[W],_),rfl,?_,?_,?_⟩
     ·dsimp only;rw[P,M,bj];rfl
     ·dsimp only;simp[g]
     ·dsimp only;rw[fx (by have:=(b9.1 c).1;simp at this⊢;omega),a2,List.set_append_right _ _ a8,g,jl,kT hk,List.set_cons_zero,bj];rfl
    ·have cs:=ON hj hl1 a8;refine aO (ga @A @wj) ab ?_;refine AC.seq (bD ?_);refine uV @wj @cs ?_;have b3:=(b9.1 hj).1;have b4:j≠f:=by rintro rfl;rw[hj]at a;cases a
     have b5:j≠r:=by rintro rfl;rw[hj]at c;cases c
     have c6:(l.mergeSort eN).length=l.length:=mP _
     refine AC.freezeV1 (i:=j) (e:=27) (rows:=(l.mergeSort eN).map aj) 11 [(8,.clo 131 [] [.d (.ref (aP d))]),(9,iN k),(10,.ptr f 0),(4,.vec r own.length 172),(34,iN k),(32,.vec r own.length 172),(33,iN own.length)] (by rw[fx b3,pY]) a8 (by rw[aQ,c6]) (by have:=List.length_pos_iff.2 hl1;omega) (fun r w=>by obtain⟨x,_,rfl⟩:=bR.1 w;exact az x) rfl ⟨rfl,rfl,rfl,rfl,rfl,rfl,rfl,trivial⟩ ?_
     have a:((t.set j (aa.vec 27 33 (c9 (l.mergeSort eN)))).set j .junk)[f]?=some (.cells ((aI N).map .d)):=by rw[bC b4,bC b4];exact a
     have c:((t.set j (aa.vec 27 33 (c9 (l.mergeSort eN)))).set j .junk)[r]?=some (.vec 32 172 (eS X)):=by rw[bC b5,bC b5];exact c
     generalize(t.set j (aa.vec 27 33 (c9 (l.mergeSort eN)))).set j .junk=z at a c⊢;have J: ∀o,(z.set f o)[f]?=some o:=fun o=>fx (b9.1 a).1;have a5: ∀o,(z.set f o)[r]?=some (.vec 32 172 (eS X)):=fun o=>by rw[bC (Ne.symm hne)];exact c
     have I:=hne;have E:True:=trivial;obtain⟨W,M⟩: ∃W,W=nf d x:=⟨_,rfl⟩
     rw[←M]at B;have H:=IS (L:=X) (k:=k) a8 W;refine AC.seq (bD ?_);refine aO (ga @a (ga @bb (ga @kI @wj))) ab ?_;rw[←B];refine bD ?_;refine aO (ga @J (ga @a5 (ga @I (ga @R (ga @H (ga @q0 (ga @hk (ga @bb @wj)))))))) ab ?_;rw[←a7];refine aO @wj ab ?_;refine bD ?_;refine aO (ga @hw @wj) ab ?_;rw[bV]at P
     refine⟨(b++[W],_),rfl,?_,?_,?_⟩
     ·dsimp only;rw[P,M,bj];rfl
     ·dsimp only;simp[g]
     ·dsimp only;rw[fx (by have:=(b9.1 c).1;simp at this⊢;omega),a2,List.set_append_right _ _ a8,g,jl,kT hk,List.set_cons_zero,bj];rfl
  ·obtain⟨b,s⟩:=b;obtain⟨g,w⟩:=hJ;dsimp only at P g w;refine bD ?_;rw[wc,bg]at w;rw[e8,bg]at P;refine aO (ga @hd @wj) ab ?_;refine bD ?_;refine aO @wj ab ?_;have c3:chunk 172 own.length ((b.map aI).flatten)=b.map aI:=by
    have:=uI 172 (b.map aI) fun r w=>by obtain⟨x,_,rfl⟩:=bR.1 w;exact bb x
    rw[aQ,g]at this;exact this
   have c7:dA (bA s 3) (eS b)=some ((b.map aI).flatten):=G5 s 2 _;simp only[w,so,g,and_self,if_true,c7,eZ,c3,P]
 ·have h2:(bq ar p).2=(cV p).2:=by unfold bq;rw[if_pos h]
  have hA:dR p=([],(cV p).2):=by unfold dR;rw[if_pos (by rw[h2];exact h),h2]
  have O:((cV p).2 !=0)=true:=by simpa using h
  rw[hA];refine bD ?_
  repeat' first|refine ae (fun _=> ?_) fun _=> ?_|refine aL ?_|(refine aq.fn (c1.mono ?_);rintro _ z ⟨v,rfl,hg⟩)|simp only[O,wj,wy,qg,aH,simprocAttr,aA,aF,aE,aw]
  have q:=qm Tryz.prog v
  repeat' first|refine ae (fun _=> ?_) fun _=> ?_|refine ay (ga @q (ga @O @wj)) ab ?_|exact ax (ga @q (ga @O @wj)) ab|fail
  all_goals trace_state
theorem DJ(p:aX)(hp:cz p)(c:du p):aG Tryz.prog 47 [.agg (bc p)] (.tup [.sl 172 ((dR p).1.map aI),dI (dR p).2]):=by
 have b:=Z9 p hp c;generalize dR p=a at b⊢;refine aM (F:=AY) WE (by simp[AY]) ?_;simp only[AY];exact bU @wj @b
theorem Tf(l:List Dg)(p:l.length≤1000000)(g:FuncId)(i cs:List AV)(a:Dg→Bool)(s:List aa)(e: ∀(x:Dg) (K:AV→List aa→Nat→Prop),x∈l→(∀h,K (.d (dB (a x))) s h)→aq Tryz.prog (.clo g i cs) [.d (.agg (aP x))] s K):
  b7 Tryz.prog 217 [.d (.sl 32 (l.map aP)),.clo g i cs] s fun d o=>d= .d (dI (eT a l 0))∧o=s:=by
 refine b7.of (F:=Ar) Wc (by simp[Ar]) ?_;simp only[Ar];refine aO @wj ab ?_;refine aZ.overI l (fun k (b:Unit)=>[(8,iN k)]) (fun _ _=>s) (fun r _=>eT a r (l.length-r.length)) (eT a l 0) (fun _ _=>True) () a8 aB aB rfl (by rw[jl]) trivial (fun k _ x hg hk f j c _=> ?_) (fun _ f c _=> ?_)
 ·have m:l.length-(x::l.drop (k+1)).length=k:=by rw[aY,aA];omega
  have n:l.length-(l.length-(k+1))=k+1:=by omega
  rw[m,eT]at c;have hc:=e x;by_cases hp:a x=true
  ·rw[if_pos hp]at c;rw[hp]at hc
   repeat' first|refine ae (fun _=> ?_) fun _=> ?_|refine aL ?_|(refine hc _ (bX hg) (fun h=> ?_))|simp only[f,j,hg,wj,wy,qg,aH,simprocAttr,aA,aF,aE,aw]
   all_goals rw[c]
  ·rw[if_neg hp]at c;rw[show a x=false by simpa using hp]at hc
   repeat' first|refine ae (fun _=> ?_) fun _=> ?_|refine aL ?_|(refine hc _ (bX hg) (fun h=> ?_))|simp only[f,j,hg,wj,wy,qg,aH,simprocAttr,aA,aF,aE,aw]
   all_goals exact⟨(),by rw[n];exact c⟩
 ·rw[eT]at c;refine aO (ga @f @wj) ab ?_
  all_goals rw[c]
theorem Jq(l:List Dg)(i:l.length≤1000000)(g:FuncId)(c cs:List AV)(a:Dg→Bool)(s:List aa)(b: ∀(x:Dg) (K:AV→List aa→Nat→Prop),x∈l→(∀h,K (.d (dB (a x))) s h)→aq Tryz.prog (.clo g c cs) [.d (.agg (aP x))] s K):
  b7 Tryz.prog 164 [.d (.sl 32 (l.map aP)),.clo g c cs] s fun d j=>d= .d (dB (l.any a))∧j=s:=by
 have f:=Tf l i g c cs a s b;have e:=Kz a l 0;refine b7.of (F:=Ao) W9 (by simp[Ao]) ?_;simp only[Ao]
 repeat' first|refine ae (fun _=> ?_) fun _=> ?_|refine ay (ga @e @wj) @f ?_|exact ax (ga @e @wj) @f|fail
 all_goals first|rfl|exact⟨rfl,rfl⟩|(simp_all;done)|trace_state
structure OS(G:MD)(a m b g0:Nat)(O:List Dg)(s:List aa):Prop where
 ha:s[a]?=some (.cells [.mp m])
 hm:s[m]?=some (.map true (cM (gM O)))
 hb:s[b]?=some (.cells [.mp g0])
 hg:s[g0]?=some (.map true (cM G))
theorem K6(O:List Dg)(d:Dg):((gq d (gM O) 0).map (·.2)).getD (.d (dB false))= .d (dB (cW O d)):=by
 have h:=Fw d O 0;by_cases a:cW O d=true
 ·rw[if_pos a]at h;obtain⟨j,b⟩:=h;rw[b,a];rfl
 ·rw[if_neg a]at h;rw[h,show cW O d=false by simpa using a];rfl
theorem Zt{G:MD}{a m b f:Nat}{O:List Dg}{s:List aa}(h:OS G a m b f O s)(d:Dg):b7 Tryz.prog 197 [.d (.agg (aP d)),.ptr a 0] s fun v i=>v= .d (dB (!cW O d))∧i=s:=by
 obtain⟨ha,hm,hb,hg⟩:=h;have e:=sB d (gM O) 0;have c:=K6 O d;obtain⟨q,g⟩: ∃q,q=gq d (gM O) 0:=⟨_,rfl⟩
 rw[←g]at e c;refine b7.of (F:=BG) Xm (by simp[BG]) ?_;simp only[BG]
 repeat' first|refine ae (fun _=> ?_) fun _=> ?_|refine ay (ga @ha (ga @hm (ga @e (ga @c @wj)))) ab ?_|exact ax (ga @ha (ga @hm (ga @e (ga @c @wj)))) ab|fail
 all_goals(rename_i h;rw[h];rfl)
theorem SH{l:aD}(b:(bs l).Nodup){x:bT}(c:x∈l): ∃i,gq x.id (gS l) 0=some (i,.d (.sl 32 ((cD x.pat).map aP))):=by
 suffices h: ∀(l:aD) (k:Nat),(bs l).Nodup→x∈l→ ∃i,gq x.id (gS l) k=some (i,.d (.sl 32 ((cD x.pat).map aP)))from h l 0 b c;intro l
 induction l with
 |nil=>intro k _ h;cases h
 |cons y l f=>
  intro k a h;unfold bs at a;rw[bV,qD]at a;show∃i,(if x.id=y.id then some (k,_)else gq x.id (gS l) (k+1))=_;rcases bM.1 h with rfl|h
  ·exact⟨k,if_pos rfl⟩
  ·rw[if_neg fun(e:x.id=y.id)=>a.1 (by rw[←e];exact fV h)];exact f (k+1) a.2 h
def ky(O:List Dg)(x:bT):Bool:= !cW O x.id&&(cD x.pat).all (cW O ·)
theorem Zu{l:aD}{a m b p:Nat}{O:List Dg}{s:List aa}(h:OS (gS l) a m b p O s)(j:(bs l).Nodup){x:bT}(w:x∈l)(t:(cD x.pat).length≤1000000):b7 Tryz.prog 196 [.d (.agg (b5 x)),.ptr a 0,.ptr b 0] s fun v k=>v= .d (dB (ky O x))∧k=s:=by
 have o:=Jq (cD x.pat) t 197 [] [.ptr a 0] (fun d=> !cW O d) s (fun d K _ r=>aq.fn ((Zt h d).mono (by rintro _ k ⟨rfl,rfl⟩;exact r 2)));obtain⟨ha,hm,hb,hg⟩:=h;have g:=sB x.id (gM O) 0;have c:=K6 O x.id;obtain⟨q,u⟩: ∃q,q=gq x.id (gM O) 0:=⟨_,rfl⟩
 rw[←u]at g c;have f:=sB x.id (gS l) 0;obtain⟨i,hi⟩:=SH j w;rw[hi]at f;have e:ky O x=(!cW O x.id&& !((cD x.pat).any fun d=> !cW O d)):=by
  unfold ky;congr 1;rw[List.not_any_eq_all_not];congr 1;funext d;simp
 rw[e];refine b7.of (F:=BF) Xl (by simp[BF]) ?_;simp only[BF];by_cases n:cW O x.id=true
 ·rw[n]at c⊢;exact bU (ga @ha (ga @hm (ga @g (ga @c @wj)))) ab
 ·rw[show cW O x.id=false by simpa using n]at c⊢
  repeat' first|refine ae (fun _=> ?_) fun _=> ?_|refine aL ?_|(refine aq.fn (o.mono ?_);rintro _ k ⟨rfl,rfl⟩)|simp only[ha,hm,hb,hg,g,c,f,eZ,ek,wj,wy,qg,aH,simprocAttr,aA,aF,aE,aw]
  all_goals(rename_i h;rw[h];rfl)
def jM(l:aD):Nat→List Dg→List Dg
 |0,O=>O
 |n+1,O=>if eT (ky O) l 0<0 then O else jM l n (O++[((l[(eT (ky O) l 0).toNat]?).map (·.id)).getD .zero])
theorem Va(O:List Dg)(d:Dg):gM O++[(d,.d (dB true))]=gM (O++[d]):=by simp[gM]
theorem OS.app{G:MD}{a m b c:Nat}{O:List Dg}{s:List aa}(h:OS G a m b c O s)(J:List aa):OS G a m b c O (s++J):=⟨bG h.ha J,bG h.hm J,bG h.hb J,bG h.hg J⟩
set_option maxHeartbeats 2000000 in
theorem Zv(l:aD)(L:l.length≤100000)(I: ∀x∈l,cz x.pat∧du x.pat)(w: ∀x∈l,(cD x.pat).length≤1000000)(i:(bs l).Nodup):aG Tryz.prog 135 [.sl 37 (l.map b5)] (.sl 32 ((jM l l.length []).map aP)):=by
 have B:=T5 l a8 I i;refine aM (F:=BE) Xk (by simp[BE]) ?_;simp only[BE]
 repeat' first|refine ae (fun _=> ?_) fun _=> ?_|refine aL ?_|(refine aq.fn (B.mono ?_);rintro _ f ⟨rfl,hg⟩)|simp only[wj,wy,qg,aH,simprocAttr,aA,aF,aE,aw]
 obtain⟨n,e⟩: ∃n,n=f.length:=⟨_,rfl⟩
 have G:0<n:=by rw[e];exact(b9.1 hg).1
 have a:OS (gS l) (n+2) (n+1) n 0 [] (f++[aa.cells [AV.mp 0],aa.map true [],aa.cells [AV.mp (n+1)],aa.row 25 32 0]):=
  ⟨by rw[e];simp,by rw[e];simp[gM,cM],by rw[e];simp,bW hg _⟩
 have g:(f++[aa.cells [AV.mp 0],aa.map true [],aa.cells [AV.mp (n+1)],aa.row 25 32 0])[n+3]?=some (.row 25 32 0):=by rw[e];simp
 rw[←e];generalize f++[aa.cells [AV.mp 0],aa.map true [],aa.cells [AV.mp (n+1)],aa.row 25 32 0]=s0 at a g⊢;clear hg B e
 refine aZ.overI l (fun k (b:List Dg×List aa)=>[(12,iN k),(5,.tsl (n+3) 32 (b.1.map aP))]) (fun _ b=>b.2) (fun r b=>jM l r.length b.1) (jM l l.length []) (fun k b=>OS (gS l) (n+2) (n+1) n 0 b.1 b.2∧b.2[n+3]?=some (.row 25 32 b.1.length)∧b.1.length=k) ([],s0) a8 aB aB rfl rfl ⟨a,g,rfl⟩ (fun k b x hg hk h J c q=> ?_) (fun b h c q=> ?_)
 ·obtain⟨O,s⟩:=b;obtain⟨a,hc,d⟩:=q;dsimp only at c a hc d;have hi:=KD l a8 196 [] [.ptr (n+2) 0,.ptr n 0] (ky O) s (fun y K C D=>aq.fn ((Zu a i C (w y C)).mono (by rintro _ f ⟨rfl,rfl⟩;exact D 2)));rw[aY,jM]at c;rcases Ad (ky O) l 0 with⟨m,p⟩|⟨j,y,m,p,h3,h4⟩
  ·rw[m]at hi c;rw[if_pos (by decide)]at c;rw[c]
   repeat' first|refine ae (fun _=> ?_) fun _=> ?_|refine ay (ga @h @wj) @hi ?_|exact ax (ga @h @wj) @hi|fail
   all_goals first|rfl|trace_state
  ·rw[m,aw]at hi c;have v:decide ((j:Int)<0)=false:=by simp
   rw[if_neg a8,fC,p,eZ,ek]at c;have z:cW O y.id=false:=by unfold ky at h3;simp at h3;exact h3.1
   have E:e9 eV (eh y.id) (cM (gM O)) 0=some none:=by
    rw[sB];have:=Fw y.id O 0;rw[z]at this;simpa using this
   have A:bw (O.length+1) 32=true:=room_le a8 a8;obtain⟨ha,hm,hb,u⟩:=a;have H:ir 25 32 O.length s[n+3]?=true:=by rw[hc];simp[ir]
   have t: ∀o,(s.set (n+1) o)[n+3]?=some (.row 25 32 O.length):=fun o=>by rw[bC a8];exact hc
   repeat' first|refine ae (fun _=> ?_) fun _=> ?_|refine aL ?_|(refine aq.fn (hi.mono ?_);rintro _ f ⟨rfl,rfl⟩)|simp only[h,J,v,p,ha,hm,E,A,t,ir,yo,zr,Va,kK,ba,aQ,decide_true,wj,wy,qg,aH,simprocAttr,aA,aF,aE,aw]
   refine⟨(O++[y.id],_),by simp,rfl,?_,⟨?_,?_,?_,?_⟩,?_,by dsimp only;simp;omega⟩
   ·rw[c,aA]
   ·dsimp only;rw[bC a8,bC a8];exact ha
   ·dsimp only;rw[bC a8,fx (b9.1 hm).1]
   ·dsimp only;rw[bC a8,bC a8];exact hb
   ·dsimp only;rw[bC a8,bC a8];exact u
   ·dsimp only;rw[fx (by rw[jh];exact(b9.1 hc).1)];simp
 ·obtain⟨O,s⟩:=b;obtain⟨a,hc,d⟩:=q;dsimp only at c a hc d;rw[b6,jM]at c;rw[c];exact bU (ga @h @wj) ab
  all_goals first|rfl|trace_state
end Go.Proofs.Q
