/- Part of a proof. -/
import Derived.Test.YtfoljakejdgfcaaGreatDoorPBM
import Derived.Test.YtfoljakejdgfcaaGreatDoorPBP
set_option linter.unusedVariables false
set_option linter.unusedSimpArgs false
namespace Go.Proofs.Q
open Go Go.Bb Go.RowKit Go.Proofs.Lg
open Go.Ab (D RD)
theorem JH(p:b9)(c:cV p)(b:e8 p):aE Tryz.prog 59 [.agg (bk p)] (dI (iD p)):=by
 have a:=Ec p c b;refine aI (F:=yW) RQ (by simp[yW]) ?_;simp only[yW];refine aw trivial @a ?_
 all_goals rfl
theorem Ue(p:b9)(c:cV p)(b:e8 p):aE Tryz.prog 143 [.agg (bk p)] (.tup [dS (dK p).1,dI (dK p).2]):=by
 have a:=Ec p c b;refine aI (F:=yZ) RU (by simp[yZ]) ?_;simp only[yZ];exact bx trivial @a
theorem Ud(p:b9)(c:cV p)(b:e8 p):aE Tryz.prog 91 [.agg (bk p)] (dI (dq p).length):=by
 have a:=Ec p c b;refine aI (F:=yY) RT (by simp[yY]) ?_;simp only[yY];exact bx trivial @a
theorem DN: ∀(l:List Dg) (x:Dg),x∈cW l↔x∈l
 |[],x=>by simp[cW]
 |[a],x=>by simp[cW]
 |a::b::r,x=>by
  rw[cW];have c:=DN (b::r) x;by_cases h:a=b
  ·subst h;rw[if_pos rfl,c];simp
  ·rw[if_neg h,bY,c];simp
theorem GL: ∀{l:List Dg},l.Pairwise (fun a b=>eo a b=true)→dA (cW l)
 |[],_=>List.Pairwise.nil
 |[a],_=>List.pairwise_singleton _ _
 |a::b::r,h=>by
  rw[cW];have g:=mQ.1 h;have i:=GL g.2;by_cases e:a=b
  ·rw[if_pos e];exact i
  ·rw[if_neg e];refine mQ.2 ⟨fun x f=> ?_,i⟩;rw[DN]at f;have c:cQ a b<0:=by
    have:=g.1 b (by simp);simp only[eo,decide_eq_true_eq]at this;rcases Int.lt_or_eq_of_le this with h|h
    ·exact h
    ·exact absurd ((lz a b).1 h) e
   rcases bY.1 f with rfl|f
   ·exact c
   ·have d:=(mQ.1 g.2).1 x f;simp only[eo,decide_eq_true_eq]at d;rcases Int.lt_or_eq_of_le d with h|h
    ·exact oA c h
    ·rw[←(lz b x).1 h];exact c
theorem Ln(l:List Dg):(l.mergeSort eo).Pairwise (fun a b=>eo a b=true):=by
 refine List.pairwise_mergeSort (fun a b c d e=> ?_) (fun a b=> ?_) l
 ·simp only[eo,decide_eq_true_eq]at*;rcases Int.lt_or_eq_of_le d with h|h
  ·rcases Int.lt_or_eq_of_le e with h'|h'
   ·exact Int.le_of_lt (oA h h')
   ·rw[←(lz b c).1 h'];exact d
  ·rw[(lz a b).1 h];exact e
 ·simp only[eo,jN,decide_eq_true_eq];have:=va a b;omega
def oR(c:af):List Dg:=((eP c).filter fun r=> !isZero r.1.p).map (·.1.p)
def Bu(p:b9):List Dg:=p.deps++p.changes.flatMap oR
theorem Iz{p:b9}(h:iD p=0):cW ((Bu p).mergeSort eo)=bB p:=by
 refine Fh (GL (Ln _)) (Qo p) fun x=> ?_;rw[DN,List.mem_mergeSort];unfold bB;rw[if_neg (by simpa using h),(DQ p.changes _ (uy p.deps [] dA.nil).1).2 x,(uy p.deps [] dA.nil).2 x];unfold Bu;rw[fL,List.mem_flatMap];have e:=(mY (uT h)).2.2.1
 have hc: ∀c∈p.changes,(x∈oR c↔ ∃y∈lN c,isZero y.p=false∧y.p=x):=fun c hc=>by
  rw[←Xx (e c hc) x];unfold oR BN;simp only[cy,List.mem_filter];constructor
  ·rintro⟨r,⟨b,d⟩,rfl⟩;exact⟨r.1,⟨r,b,rfl⟩,by simpa using d,rfl⟩
  ·rintro⟨y,⟨r,b,rfl⟩,d,rfl⟩;exact⟨r,⟨b,by simpa using d⟩,rfl⟩
 constructor
 ·rintro(h|⟨c,a,h⟩)
  ·exact .inr (.inl h)
  ·exact .inl ⟨c,a,(hc c a).1 h⟩
 ·rintro(⟨c,a,h⟩|h|h)
  ·exact .inr ⟨c,a,(hc c a).2 h⟩
  ·exact .inl h
  ·cases h
theorem Yi(n:Nat)(ds:List D):gF n (ds.map .d)=ds.map .d:=by
 rw[p7,lk];rfl
theorem Yj(n:Nat)(c:af)(t:Nat):(lv c t).shift n=lv c t:=by
 have h:gF n (na c t)=na c t:=by unfold na;split<;>rfl
 show AV.clo (fT t) (gF n []) (gF n (na c t))= .clo (fT t) [] (na c t);rw[h];rfl
theorem Lc(n:Nat)(c:af): ∀l:List (ar×Nat),gF n (rowsC c l)=rowsC c l
 |[]=>rfl
 |p::l=>by
  have a:=Lc n c l;show gF n (dZ p.1 (lv c p.2)++rowsC c l)=dZ p.1 (lv c p.2)++rowsC c l;rw[p7,eX,←p7,←p7,a];congr 1;unfold dZ;rw[p7,eX,←p7,Yi];show _++[(lv c p.2).shift n]=_;rw[Yj]
theorem XE(c:af)(g:c.over.length≤100000)(s:List aa):aT Tryz.prog 114 [.d (.agg (aQ c))] s fun d b=> ∃J,b=s++J∧((d= .nil 34∧eP c=[])∨ ∃r,d= .vec r (eP c).length 34∧b[r]?=some (.vec 154 34 (rowsC c (eP c)))):=by
 obtain⟨d,b,a,J,rfl,e⟩:=JN c g;refine⟨_,_,a.frame (xs:=[.d (.agg (aQ c))]) rfl s,_,rfl,?_⟩;rcases e.rowsC with⟨rfl,f⟩|⟨r,rfl,hr⟩
 ·exact .inl ⟨rfl,f⟩
 ·refine .inr ⟨s.length+(r+1),rfl,?_⟩;rw[gZ a8,mR,bO,List.getElem?_cons_succ,cC,hr];show some (aa.vec 154 34 (gF s.length _))=_;rw[Lc]
def mO(v:AV)(s:List aa)(b:List Dg):Prop:=(v= .emp 32∧b=[])∨(b≠[]∧ ∃r,v= .vec r b.length 32∧s[r]?=some (.vec 25 32 (cz b)))
theorem mO.of{v:AV}{s a:List aa}{b:List Dg}(h:mO v s b)(c: ∀(r:Nat) (ds:List AV),s[r]?=some (.vec 25 32 ds)→a[r]?=some (.vec 25 32 ds)):mO v a b:=by
 rcases h with h|⟨h0,r,h1,h2⟩
 ·exact .inl h
 ·exact .inr ⟨h0,r,h1,c _ _ h2⟩
theorem NU(l:List Dg)(b:l.length≤1000000)(s:List aa):aT Tryz.prog 113 [.d (.sl 32 (l.map aq))] s fun d a=>(∃J,a=s++J)∧mO d a l:=by
 cases l with
 |nil=>
  refine(NR 32 s).mono ?_;rintro d a ⟨rfl,rfl⟩;exact⟨⟨[],by simp⟩,.inl ⟨rfl,rfl⟩⟩
 |cons x l=>
  refine(NS x l (by simp at b;omega) s).mono ?_;rintro d a ⟨rfl,rfl⟩;exact⟨⟨_,rfl⟩,.inr ⟨by simp,s.length,rfl,by simp⟩⟩
theorem O5(s:List aa):aT Tryz.prog 118 [.emp 32] s fun d b=>bu b 5 d=some (.sl 32 []):=by
 refine aT.of (F:=rp) IJ (by simp[rp]) ?_;simp only[rp];have a:decide ((0:Int)<2)=true:=by decide
 exact bx (ga @a @wj) trivial
theorem Yv(v:AV)(s:List aa)(b:List Dg)(h:mO v s b)(f:b.length≤1000000):aT Tryz.prog 116 [v,.clo 117 [] []] s fun d c=>d=vT∧mO v c (b.mergeSort eo):=by
 rcases h with⟨rfl,rfl⟩|⟨h0,r,rfl,h2⟩
 ·refine(Yp _ s).mono ?_;rintro d c ⟨rfl,rfl⟩;exact⟨rfl,.inl ⟨rfl,by simp⟩⟩
 ·refine(Ll h2 h0 f).mono ?_;rintro d c ⟨rfl,rfl⟩;have g:=(aR.1 h2).1;have a:(b.mergeSort eo).length=b.length:=kJ _;refine⟨rfl,.inr ⟨fun e=>h0 (by rw[e]at a;exact fx a.symm),r,by rw[a],?_⟩⟩;rw[ey,if_pos rfl,if_pos g]
theorem O7(v:AV)(s:List aa)(b:List Dg)(h:mO v s b)(a:b.length≤1000000):aT Tryz.prog 118 [v] s fun d c=>bu c 5 d=some (.sl 32 ((cW b).map aq)):=by
 rcases h with⟨rfl,rfl⟩|⟨h0,r,rfl,h2⟩
 ·exact O5 s
 ·exact O6 h2 a
def tW(l:List (ar×Nat)):List Dg:=(l.filter fun r=> !isZero r.1.p).map (·.1.p)
theorem TX(y:ar)(t:Nat)(l:List (ar×Nat)):tW ((y,t)::l)=if isZero y.p=true then tW l else y.p::tW l:=by
 unfold tW;by_cases h:isZero y.p=true
 ·rw[if_pos h];simp[h]
 ·rw[if_neg h];simp[h]
theorem KD(x:ar)(a:AV):(dZ x a).take 32=(aq x.p).map .d:=by
 unfold dZ;rw[gf (by rw[aL,aM];omega),←List.map_take,mF]
theorem Hx(d:Dg):[aq d].flatten=aq d:=by simp
theorem iH(P:Program)(d:AV): ∀(l:List CO) (K:Fr→List aa→List Nat→Prop) (a:List Nat) (fr:Fr) (s:List aa) (m t:Nat),df P l K a fr (some t) m s d=bH P l K (m::a) ((t,d)::fr) s:=fun l K a fr s m t=>Mv P l K a fr s m t d
set_option maxHeartbeats 4000000 in
theorem JI(p:b9)(hp:cV p)(hN:e8 p):aE Tryz.prog 76 [.agg (bk p)] (.sl 32 ((bB p).map aq)):=by
 have W:=JH p hp hN;by_cases h:iD p=0
 ·rw[←Iz h];rw[h]at W;obtain⟨a9,z,a1,_⟩:=mY (uT h);have a7:=hN.chg;refine Mc ?_;refine aT.ofA (F:=rF) IW (by simp[rF]) ?_;simp only[rF];refine AC.cutJ [1] [(1,.d (.ref (bk p)))] (fun s=>s=[]) ?_ fun s T=> ?_
  ·exact bx trivial trivial
  subst T;refine AC.cutJ [1] [(1,.d (.ref (bk p)))] (fun s=>s=[]) ?_ fun s T=> ?_
  ·exact bx trivial @W
  subst T;refine bL ?_;have C:=NU p.deps a8
  repeat' first|refine ak (fun _=> ?_) fun _=> ?_|refine aD ?_|(refine aj.fn ((C _).mono ?_);rintro d s0 ⟨-,P⟩)|simp only[wj,wy,qg,aC,reduceCtorEq,reduceIte,Nat.reduceAdd,Nat.reduceMul,Nat.reduceEqDiff,Nat.reduceLT,Nat.reduceLeDiff,Nat.reduceSub,ax,aB,ay,au]
  have hP:=iH Tryz.prog d;refine aw (ga @hP @wj) trivial ?_;obtain⟨R,M⟩: ∃R,R=Bu p:=⟨_,rfl⟩
  rw[←M];refine aX.overI p.changes (fun k (b:List Dg×AV×List aa)=>[(17,iN k),(3,b.2.1)]) (fun _ b=>b.2.2) (fun r b=>b.1++r.flatMap oR) R (fun k b=>mO b.2.1 b.2.2 b.1∧b.1.length≤100+404*k) (p.deps,d,s0) a8 aA aA rfl M ⟨P,by dsimp only;omega⟩ (fun k b x hg hk X hw u c=> ?_) (fun b X u c=> ?_)
  ·obtain⟨o,v,s⟩:=b;obtain⟨c,G⟩:=c;dsimp only at u c G;have U:=bT hg;have a5:=(hN.line x U).2;have b0:=vg (a1 x U);have g:=iH Tryz.prog v;have a4:=XE x a5;have b1:=ET x;clear P C W
   repeat' first|refine ak (fun _=> ?_) fun _=> ?_|refine aD ?_|(refine aj.fn ((a4 _).mono ?_);rintro e K ⟨J,rfl,O⟩)|simp only[X,hw,hg,g,fI,dN,aL,wj,wy,qg,aC,reduceCtorEq,reduceIte,Nat.reduceAdd,Nat.reduceMul,Nat.reduceEqDiff,Nat.reduceLT,Nat.reduceLeDiff,Nat.reduceSub,ax,aB,ay,au]
   rw[nU,←bj]at u;have n:mO v (s++[aa.cells (List.map AV.d (aQ x))]++J) o:=c.of fun r ds S=>bP (bP S _) _;simp only[bj,ma,bn]at O n;generalize s++aa.cells (List.map AV.d (aQ x))::J=s1 at O n⊢;clear c;rcases O with⟨rfl,hn⟩|⟨r,rfl,S⟩
   ·refine aw (ga @g @wj) trivial ?_;refine aX.overI ([]:List Nat) (fun k (b:Unit)=>[(24,iN k)]) (fun _ _=>s1) (fun _ _=>()) () (fun _ _=>True) () (by simp) aA aA rfl rfl trivial (fun k b x hg=>by cases hg) (fun b m a _=> ?_);have Q:oR x=[]:=by unfold oR;rw[hn];rfl
    rw[Q,bg]at u;refine aw (ga @g (ga @hw @wj)) trivial ?_;exact⟨(o,v,s1),rfl,rfl,u,n,by dsimp only;omega⟩
   ·refine aw (ga @g @wj) trivial ?_;have z:=EZ x (eP x);obtain⟨i,hcells⟩: ∃i,i=rowsC x (eP x):=⟨_,rfl⟩
    rw[←hcells]at S z;refine aX.overI (eP x) (fun j (b:List Dg×AV×List aa)=>[(24,iN j),(3,b.2.1)]) (fun _ b=>b.2.2) (fun q b=>b.1++tW q) (o++oR x) (fun j b=>(mO b.2.1 b.2.2 b.1∧b.1.length≤100+404*k+j)∧b.2.2[r]?=some (.vec 154 34 i)) (o,v,s1) a8 aA aA rfl rfl ⟨⟨n,by dsimp only;omega⟩,S⟩ (fun j b y hg D m I a c=> ?_) (fun b m a c=> ?_)
    ·obtain⟨o',V,K⟩:=b;obtain⟨⟨c,A⟩,f⟩:=c;dsimp only at a c A f;have l:=iH Tryz.prog V;have w:=EY x (eP x) j y hg;rw[←hcells]at w;have B:=bP f;have E:j*34+34≤(eP x).length*34:=by omega
     obtain⟨y,t⟩:=y;have L:=Bv y;dsimp only at w;rw[TX]at a;clear n S u hg;by_cases Y:isZero y.p=true
     ·rw[Y]at L;rw[if_pos Y]at a
      repeat' first|refine ak (fun _=> ?_) fun _=> ?_|refine aD ?_|refine aj.data (L) rfl ?_|simp only[l,m,I,D,f,B,z,w,E,nE,lM,ix,nH,nF,nG,gW,wj,wy,qg,aC,reduceCtorEq,reduceIte,Nat.reduceAdd,Nat.reduceMul,Nat.reduceEqDiff,Nat.reduceLT,Nat.reduceLeDiff,Nat.reduceSub,ax,aB,ay,au]
      exact⟨(o',V,_),rfl,rfl,a,⟨c.of fun r ds h=>bP h _,by dsimp only;omega⟩,B _⟩
     ·rw[show isZero y.p=false by simpa using Y]at L;rw[if_neg Y]at a;rcases c with⟨rfl,rfl⟩|⟨Q,r3,rfl,hr3⟩
      ·have H:br 1 32=true:=by decide
       repeat' first|refine ak (fun _=> ?_) fun _=> ?_|refine aD ?_|refine aj.data (L) rfl ?_|simp only[m,I,D,f,B,z,w,E,H,Hx,u9,bc,aL,KD,nE,lM,ix,nH,nF,nG,gW,wj,wy,qg,aC,reduceCtorEq,reduceIte,Nat.reduceAdd,Nat.reduceMul,Nat.reduceEqDiff,Nat.reduceLT,Nat.reduceLeDiff,Nat.reduceSub,ax,aB,ay,au]
       refine⟨([y.p],_,_),rfl,rfl,by simpa using a,⟨.inr ⟨by simp,K.length+1,rfl,?_⟩,by simp;omega⟩,?_⟩
       ·rw[tq];simp
       ·exact bP f _
      ·have H:br (o'.length+1) 32=true:=room_le a8 a8;have a3:=bP hr3;have N:=k8 o'
       repeat' first|refine ak (fun _=> ?_) fun _=> ?_|refine aD ?_|refine aj.data (L) rfl ?_|simp only[l,m,I,D,f,B,hr3,a3,z,N,w,E,H,Hx,u9,bc,aL,KD,nE,lM,ix,nH,nF,nG,gW,wj,wy,qg,aC,reduceCtorEq,reduceIte,Nat.reduceAdd,Nat.reduceMul,Nat.reduceEqDiff,Nat.reduceLT,Nat.reduceLeDiff,Nat.reduceSub,ax,aB,ay,au]
       have a2:r3≠r:=by rintro rfl;rw[hr3]at f;cases f
       have a6:=(aR.1 hr3).1;refine⟨(o'++[y.p],.vec r3 (o'.length+1) 32,_),rfl,rfl,by simpa using a,⟨.inr ⟨by simp,r3,by simp,?_⟩,by simp;omega⟩,?_⟩
       ·rw[ey,if_pos rfl,if_pos (by simp;omega),tn,tq]
       ·rw[bs a2];exact B _
    ·obtain⟨o',V,K⟩:=b;obtain⟨⟨c,A⟩,f⟩:=c;dsimp only at a c A f;have l:=iH Tryz.prog V;have e0:tW []=[]:=rfl;rw[e0,bg]at a;rw[a]at u;refine aw (ga @l (ga @m (ga @hw @wj))) trivial ?_;exact⟨(o',V,K),rfl,rfl,u,c,by dsimp only;omega⟩
  ·obtain⟨o,v,s⟩:=b;obtain⟨c,G⟩:=c;dsimp only at u c G;rw[List.flatMap_nil,bg]at u;subst u;have g:=iH Tryz.prog v;have T:=Yv v s R c a8
   repeat' first|refine ak (fun _=> ?_) fun _=> ?_|(refine aj.fn (T.mono ?_);rintro _ K ⟨rfl,Z⟩)|refine bb (ga @g (ga @X @wj)) trivial ?_|exact ba (ga @g (ga @X @wj)) trivial|fail
   have hc:=O7 v K _ Z (by rw[kJ];omega)
   repeat' first|refine ak (fun _=> ?_) fun _=> ?_|(refine aj.fn (hc.mono ?_);intro e b2 O)|refine bb (ga @g @wj) trivial ?_|exact ba (ga @g @wj) trivial|fail
   have a0:=iH Tryz.prog e;refine aw (ga @a0 @wj) trivial ?_
   all_goals exact O
 ·have e1:(iD p !=0)=true:=by simpa using h
  have e2:bB p=[]:=by unfold bB;rw[if_pos h]
  rw[e2];refine aI (F:=rF) IW (by simp[rF]) ?_;simp only[rF];exact bx @e1 @W
def dU{α:Type}(a:α→Bool):List α→Nat→Int
 |[],_=> -1
 |x::l,k=>if a x then(k:Int)else dU a l (k+1)
theorem yk{α:Type}(a:α→Bool): ∀(l:List α) (k:Nat),decide (dU a l k≥0)=l.any a
 |[],k=>by simp[dU]
 |x::l,k=>by
  rw[dU,List.any_cons];by_cases h:a x=true
  ·rw[if_pos h,h];simp
  ·rw[if_neg h,yk a l (k+1)];simp[h]
theorem Dv(l:List bU)(t:l.length≤1000000)(g:FuncId)(j cs:List AV)(a:bU→Bool)(s:List aa)(e: ∀(x:bU) (K:AV→List aa→Nat→Prop),x∈l→(∀i,K (.d (dB (a x))) s i)→aj Tryz.prog (.clo g j cs) [.d (.agg (b8 x))] s K):
  aT Tryz.prog 72 [.d (.sl 37 (l.map b8)),.clo g j cs] s fun d p=>d= .d (dI (dU a l 0))∧p=s:=by
 refine aT.of (F:=nj) DV (by simp[nj]) ?_;simp only[nj];refine aw @wj trivial ?_;refine aX.overI l (fun k (b:Unit)=>[(8,iN k)]) (fun _ _=>s) (fun r _=>dU a r (l.length-r.length)) (dU a l 0) (fun _ _=>True) () a8 aA aA rfl (by rw[ia]) trivial (fun k _ x hg q f m c _=> ?_) (fun _ f c _=> ?_)
 ·have n:l.length-(x::l.drop (k+1)).length=k:=by rw[aU,ax];omega
  have o:l.length-(l.length-(k+1))=k+1:=by omega
  rw[n,dU]at c;have hc:=e x;by_cases h:a x=true
  ·rw[if_pos h]at c;rw[h]at hc
   repeat' first|refine ak (fun _=> ?_) fun _=> ?_|refine aD ?_|(refine hc _ (bT hg) (fun i=> ?_))|simp only[f,m,hg,wj,wy,qg,aC,reduceCtorEq,reduceIte,Nat.reduceAdd,Nat.reduceMul,Nat.reduceEqDiff,Nat.reduceLT,Nat.reduceLeDiff,Nat.reduceSub,ax,aB,ay,au]
   all_goals rw[c]
  ·rw[if_neg h]at c;rw[show a x=false by simpa using h]at hc
   repeat' first|refine ak (fun _=> ?_) fun _=> ?_|refine aD ?_|(refine hc _ (bT hg) (fun i=> ?_))|simp only[f,m,hg,wj,wy,qg,aC,reduceCtorEq,reduceIte,Nat.reduceAdd,Nat.reduceMul,Nat.reduceEqDiff,Nat.reduceLT,Nat.reduceLeDiff,Nat.reduceSub,ax,aB,ay,au]
   all_goals exact⟨(),by rw[o];exact c⟩
 ·rw[dU]at c;refine aw (ga @f @wj) trivial ?_
  all_goals rw[c]
theorem Ob(l:List bU)(i:l.length≤1000000)(g:FuncId)(c cs:List AV)(a:bU→Bool)(s:List aa)(b: ∀(x:bU) (K:AV→List aa→Nat→Prop),x∈l→(∀h,K (.d (dB (a x))) s h)→aj Tryz.prog (.clo g c cs) [.d (.agg (b8 x))] s K):
  aT Tryz.prog 74 [.d (.sl 37 (l.map b8)),.clo g c cs] s fun d j=>d= .d (dB (l.any a))∧j=s:=by
 have f:=Dv l i g c cs a s b;have e:=yk a l 0;refine aT.of (F:=yz) Rs (by simp[yz]) ?_;simp only[yz]
 repeat' first|refine ak (fun _=> ?_) fun _=> ?_|refine bb (ga @e @wj) @f ?_|exact ba (ga @e @wj) @f|fail
 all_goals first|rfl|exact⟨rfl,rfl⟩|(simp_all;done)|trace_state
theorem Pv(l:List Dg)(v:Dg):aE Tryz.prog 85 [.sl 32 (l.map aq),.agg (aq v)] (dI (dU (fun x=>decide (v=x)) l 0)):=by
 refine aE.big (enters_of IL) 0 rfl fun c=> ?_;rw[aL]at c;refine aI (F:=yB) IL (by simp[yB]) ?_;simp only[yB];refine aw trivial trivial ?_
 refine aX.over l (fun k (_:Unit)=>[(8,iN k)]) (fun _ _=>[]) (fun r _=>dU (fun x=>decide (v=x)) r (l.length-r.length)) (dU (fun x=>decide (v=x)) l 0) () c aA aA rfl (by rw[ia]) (fun k _ x hg g b d a=> ?_) (fun _ b a=> ?_)
 ·have e:l.length-(x::l.drop (k+1)).length=k:=by rw[aU,ax];omega
  have f:l.length-(l.length-(k+1))=k+1:=by omega
  rw[e,dU]at a
  repeat' first|refine ak (fun _=> ?_) fun _=> ?_|refine bb (ga @b (ga @d @hg)) trivial ?_|exact ba (ga @b (ga @d @hg)) trivial|fail
  ·rename_i h;rw[if_pos (by simpa using h)]at a;exact a.symm
  ·rename_i h;rw[if_neg (by simpa using h)]at a;exact⟨(),by rw[f];exact a⟩
 ·rw[dU]at a;refine aw @b trivial ?_;exact a.symm
theorem D4(l:List Dg)(v:Dg):aE Tryz.prog 46 [.sl 32 (l.map aq),.agg (aq v)] (dB (bN l v)):=by
 have c:=Pv l v;have e:decide (dU (fun x=>decide (v=x)) l 0≥0)=bN l v:=by
  rw[yk,nQ,kU];simp
 refine aI (F:=yx) Rq (by simp[yx]) ?_;simp only[yx]
 repeat' first|refine ak (fun _=> ?_) fun _=> ?_|refine bb @e @c ?_|exact ba @e @c|fail
 all_goals first|rfl|(simp_all;done)|trace_state
theorem HH(d:Dg): ∀(l:aP) (k:Nat),(dU (fun x:bU=>decide (x.id=d)) l k= -1∧bM l d=none)∨ ∃j x,dU (fun x:bU=>decide (x.id=d)) l k=((k+j:Nat):Int)∧l[j]?=some x∧bM l d=some x.pat
 |[],k=> .inl ⟨rfl,rfl⟩
 |x::l,k=>by
  rw[dU,bM];by_cases h:x.id=d
  ·rw[if_pos (by simpa using h),if_pos h];exact .inr ⟨0,x,by simp,rfl,rfl⟩
  ·rw[if_neg (by simpa using h),if_neg h];rcases HH d l (k+1)with h|⟨j,y,h1,h2,h3⟩
   ·exact .inl h
   ·exact .inr ⟨j+1,y,by rw[h1];congr 1;omega,by simpa using h2,h3⟩
theorem UD(x:bU)(d:Dg):aE Tryz.prog 73 [.agg (b8 x),.ref (aq d)] (dB (decide (x.id=d))):=by
 refine aI (F:=zG) Ss (by simp[zG]) ?_;simp only[zG]
 repeat' first|refine ak (fun _=> ?_) fun _=> ?_|refine bb trivial trivial ?_|exact ba trivial trivial|fail
 all_goals first|rfl|(simp_all;done)|trace_state
theorem wP:kb l9=some (bk .zero):=v7 (bk .zero)
theorem Bx(l:aP)(g:l.length≤1000000)(d:Dg):aE Tryz.prog 37 [.sl 37 (l.map b8),.agg (aq d)] (.tup [.agg (bk ((bM l d).getD .zero)),dB (bM l d).isSome]):=by
 have a:=fun s=>Dv l g 73 [] [.d (.ref (aq d))] (fun x=>decide (x.id=d)) s (fun x K _ f=>aj.data (UD x d) rfl (f 0));rcases HH d l 0 with⟨b,c⟩|⟨j,x,b,c,h3⟩
 ·rw[b]at a;rw[c];have e:decide ((-1:Int)<0)=true:=by decide
  refine aI (F:=rK) J1 (by simp[rK]) ?_;simp only[rK];exact vr (ga @e (ga @wP (ga @ew (ga @c9 @wj)))) @a
  all_goals first|rfl|trace_state
 ·rw[au]at b;rw[b]at a;rw[h3];have e:decide ((j:Int)<0)=false:=by simp
  refine aI (F:=rK) J1 (by simp[rK]) ?_;simp only[rK]
  repeat' first|refine ak (fun _=> ?_) fun _=> ?_|refine aD ?_|(refine aj.fn ((a _).mono ?_);rintro _ h ⟨rfl,rfl⟩)|simp only[e,c,ew,c9,aL,gW,wj,wy,qg,aC,reduceCtorEq,reduceIte,Nat.reduceAdd,Nat.reduceMul,Nat.reduceEqDiff,Nat.reduceLT,Nat.reduceLeDiff,Nat.reduceSub,ax,aB,ay,au]
  all_goals first|rfl|trace_state
theorem YW(x:bU)(d:Dg)(c:cV x.pat)(b:e8 x.pat):aE Tryz.prog 75 [.agg (b8 x),.ref (aq d)] (dB (decide (x.id≠d)&&bN (bB x.pat) d)):=by
 have a:=JI x.pat c b;refine aI (F:=Bk) TP (by simp[Bk]) ?_;simp only[Bk]
 repeat' first|refine ak (fun _=> ?_) fun _=> ?_|refine bb trivial (ga @a @D4) ?_|exact ba trivial (ga @a @D4)|fail
 all_goals first|rfl|(simp_all;done)|trace_state
theorem Ix(d:Dg): ∀l:aP,(l.any fun x=>decide (x.id≠d)&&bN (bB x.pat) d)=oP d l
 |[]=>rfl
 |x::l=>by
  rw[List.any_cons,oP,Ix d l];split
  ·rename_i h;rw[h];rfl
  ·rename_i h;rw[show(decide (x.id≠d)&&bN (bB x.pat) d)=false by simpa using h];rfl
theorem YX(l:aP)(f:l.length≤1000000)(b: ∀x∈l,cV x.pat∧e8 x.pat)(d:Dg):aE Tryz.prog 38 [.sl 37 (l.map b8),.agg (aq d)] (dB (oP d l)):=by
 have a:=fun s=>Ob l f 75 [] [.d (.ref (aq d))] (fun x=>decide (x.id≠d)&&bN (bB x.pat) d) s (fun x K c e=>aj.data (YW x d (b x c).1 (b x c).2) rfl (e 0));rw[Ix]at a;refine aI (F:=Bj) TO (by simp[Bj]) ?_;simp only[Bj]
 repeat' first|refine ak (fun _=> ?_) fun _=> ?_|refine bb @wj @a ?_|exact ba @wj @a|fail
 all_goals first|rfl|(simp_all;done)|trace_state
def eN(L:aP):List AV:=((L.map b8).flatten).map .d
theorem oy(L:aP):(eN L).length=L.length*37:=by
 unfold eN;rw[aL,Go.Ab.flatten_len (sz:=37) _ fun r a=>by obtain⟨x,_,rfl⟩:=cy.1 a;exact iw x,aL]
theorem xx(A B:aP):eN (A++B)=eN A++eN B:=by simp only[eN,eX,sP]
theorem Gu(d:bU):eN [d]=(b8 d).map .d:=by simp[eN]
theorem CU(L:aP)(n:Nat)(h:n≤L.length):(eN L).take (n*37)=eN (L.take n):=by
 conv=>lhs;rw[←ll n L,xx]
 rw[gf (by rw[oy,du];omega),dm (by rw[oy,du];omega)]
theorem Gt(L:aP)(n:Nat)(h:n≤L.length):(eN L).drop (n*37)=eN (L.drop n):=by
 conv=>lhs;rw[←ll n L,xx]
 rw[gx,gy (by rw[oy,du];omega),bn,oy,du,nY h,ia,jQ]
theorem Gs{L:aP}{k:Nat}{d:bU}(h:L[k]?=some d):((eN L).drop (k*37)).take 37=(b8 d).map .d:=by
 obtain⟨a,rfl⟩:=aR.1 h;rw[Gt L k a8,js a];have:=CU (L[k]::L.drop (k+1)) 1 (by rw[aU];omega);rw[pA]at this;rw[this,jT,List.take_zero,Gu]
theorem NN{L:aP}{k:Nat}(a:k<L.length)(d:bU):(eN L).take (k*37)++((b8 d).map .d++(eN L).drop (k*37+37))=eN (L.set k d):=by
 rw[CU L k a8,show k*37+37=(k+1)*37 by omega,Gt L (k+1) a8,←Gu,←xx,←xx];congr 1;rw[Cv,if_pos a];simp
theorem GD(L:aP):chunk 37 L.length ((L.map b8).flatten)=L.map b8:=by
 have:=D2 (L.map b8) fun r a=>by obtain⟨x,_,rfl⟩:=cy.1 a;exact iw x
 rw[aL]at this;exact this
theorem Io(s:List aa)(f:Nat)(L:aP):cU (bu s (f+1)) (eN L)=some ((L.map b8).flatten):=tE s f _
set_option maxHeartbeats 400000 in
set_option maxRecDepth 100000 in
theorem Mi(a:Addr)(c:Nat)(w:World):Calls Tryz.prog 78 #[.slice (some a) 0 c] w fun e w'=> ∃i,e= .returned i∧(∃k,i= .slice k 0 0)∧Below w.heap.size w w':=by
 have q: ∀(w:World) (a:Option Addr) (n c g f:Nat),(binOp .eql 23 (.slice a n c) (.slice none g f)).run Tryz.prog w= .ok (.bool a.isNone) w:=fun w a n c g f=>Go.Lib.run_eql_slice_nil w _ _ a n c g f Tryz.underlying23;obtain⟨j,l⟩: ∃j,Tryz.prog.info? 44=some j:=uL.1 (show(Tryz.prog.info? 44).isSome=true by kernel_rfl)
 have d: ∀(h:TypeId) (b:Addr) (W:World),(Builtin.append_ #[23,23] h #[.slice (some b) 0 0,.slice (some a) 0 c]).run Tryz.prog W= .ok (.slice (some b) 0 0) W:=fun h b W=>by
  simp[Builtin.append_,run_underlying Tryz.underlying23,sizeOf,typeInfo,l,Builtin.lenOf,Builtin.firstCells,loadCells,loadCellsFrom,storeCells]
 go_enter Tryz.func78,Tryz.ntmps78
 go_wp2_with (at_builtin;refine Go.Lib.wpList_append_run _ rfl _ _ _ _ rfl _ _ rfl rfl _ _ (d _ _ _) ?_)
 go_ret
 exact⟨_,rfl,⟨_,rfl⟩,(Below.refl _ _).alloc (bh _) _⟩
set_option maxHeartbeats 400000 in
set_option maxRecDepth 100000 in
theorem Mh(m c:Nat)(w:World):Calls Tryz.prog 78 #[.slice none m c] w fun e w'=>e= .returned (.slice none 0 0)∧w'=w:=by
 have q: ∀(w:World) (a:Option Addr) (n c d b:Nat),(binOp .eql 23 (.slice a n c) (.slice none d b)).run Tryz.prog w= .ok (.bool a.isNone) w:=fun w a n c d b=>Go.Lib.run_eql_slice_nil w _ _ a n c d b Tryz.underlying23
 go_enter Tryz.func78,Tryz.ntmps78
 go_wp2
 go_ret
 exact⟨rfl,rfl⟩
theorem GF(n:Nat)(s:List aa):aT Tryz.prog 78 [.d (.sl n [])] s fun d h=>d= .emp n∧h=s:=by
 refine⟨.emp n,s,⟨enters_fn' Tryz.func78 rfl (by rfl),fun B k w vs b f=> ?_⟩,rfl,rfl⟩
 match vs,f with
 |[v],f=>
  have g:=(f.2 0 v _ rfl rfl).d_inv;obtain⟨a,c,us,rfl,_⟩:=g.sl_inv;cases a with
  |none=>
   refine(Mh 0 c w).mono ?_;rintro e w' ⟨rfl,rfl⟩;exact⟨_,k,rfl,.emp,Ext.refl B k _,b⟩
  |some a=>
   refine(Mi a c w).mono ?_;rintro e w' ⟨j,rfl,⟨i,rfl⟩,hb⟩;exact⟨_,⟨ff k.I w.heap.size w',k.own⟩,rfl,.emp,Ext.called b.base hb,b.called hb⟩
theorem NT(x:bU)(l:aP)(f:l.length≤1000000)(s:List aa):aT Tryz.prog 78 [.d (.sl 37 ((x::l).map b8))] s fun d e=>d= .vec s.length (l.length+1) 37∧e=s++[.vec 44 37 (eN (x::l))]:=by
 have b:br (l.length+1) 120=true:=room_le a8 a8;have a:((b8 x++(l.map b8).flatten)).length=(l.length+1)*37:=by
  have h:=Go.Ab.flatten_len (sz:=37) ((x::l).map b8) fun r c=>by obtain⟨y,_,rfl⟩:=cy.1 c;exact iw y
  simpa using h
 rw[bO];unfold eN;refine aT.of (F:=yu) Ro (by simp[yu]) ?_;simp only[yu]
 repeat' first|refine ak (fun _=> ?_) fun _=> ?_|refine aD ?_|simp only[b,a,aL,fA,wj,wy,qg,aC,reduceCtorEq,reduceIte,Nat.reduceAdd,Nat.reduceMul,Nat.reduceEqDiff,Nat.reduceLT,Nat.reduceLeDiff,Nat.reduceSub,ax,aB,ay,au]
 all_goals first|rfl|exact⟨rfl,rfl⟩|trace_state
theorem Pz(g:FuncId)(a cs:List AV)(s:List aa):aT Tryz.prog 72 [.emp 37,.clo g a cs] s fun d b=>d= .d (dI (-1))∧b=s:=by
 refine aT.of (F:=nj) DV (by simp[nj]) ?_;simp only[nj];refine aw @wj trivial ?_;refine aX.tr (fun _:Unit=>[]) (fun _=>s) (fun _ _=>True) 0 () aA aA rfl trivial ?_;rintro m _ _;exact bx @wj trivial
 all_goals first|rfl|exact⟨rfl,rfl⟩|trace_state
theorem PA{s:List aa}{i:Nat}(l:aP)(p:s[i]?=some (.vec 44 37 (eN l)))(y:l.length≤1000000)(g:FuncId)(n cs:List AV)(a:bU→Bool)(e: ∀(x:bU) (K:AV→List aa→Nat→Prop),x∈l→(∀m,K (.d (dB (a x))) s m)→aj Tryz.prog (.clo g n cs) [.d (.agg (b8 x))] s K):
  aT Tryz.prog 72 [.vec i l.length 37,.clo g n cs] s fun d w=>d= .d (dI (dU a l 0))∧w=s:=by
 have f:=oy l;refine aT.of (F:=nj) DV (by simp[nj]) ?_;simp only[nj];refine aw @wj trivial ?_
 refine aX.overI l (fun k (b:Unit)=>[(8,iN k)]) (fun _ _=>s) (fun r _=>dU a r (l.length-r.length)) (dU a l 0) (fun _ _=>True) () a8 aA aA rfl (by rw[ia]) trivial (fun k _ x hg o h q c _=> ?_) (fun _ h c _=> ?_)
 ·have u:l.length-(x::l.drop (k+1)).length=k:=by rw[aU,ax];omega
  have v:l.length-(l.length-(k+1))=k+1:=by omega
  have a0:=Gs hg;have t:k*37+37≤l.length*37:=by omega
  rw[u,dU]at c;have hc:=e x;by_cases j:a x=true
  ·rw[if_pos j]at c;rw[j]at hc
   repeat' first|refine ak (fun _=> ?_) fun _=> ?_|refine aD ?_|(refine hc _ (bT hg) (fun m=> ?_))|simp only[h,q,p,o,f,a0,t,wj,wy,qg,aC,reduceCtorEq,reduceIte,Nat.reduceAdd,Nat.reduceMul,Nat.reduceEqDiff,Nat.reduceLT,Nat.reduceLeDiff,Nat.reduceSub,ax,aB,ay,au]
   all_goals rw[c]
  ·rw[if_neg j]at c;rw[show a x=false by simpa using j]at hc
   repeat' first|refine ak (fun _=> ?_) fun _=> ?_|refine aD ?_|(refine hc _ (bT hg) (fun m=> ?_))|simp only[h,q,p,o,f,a0,t,wj,wy,qg,aC,reduceCtorEq,reduceIte,Nat.reduceAdd,Nat.reduceMul,Nat.reduceEqDiff,Nat.reduceLT,Nat.reduceLeDiff,Nat.reduceSub,ax,aB,ay,au]
   all_goals exact⟨(),by rw[v];exact c⟩
 ·rw[dU]at c;refine aw (ga @h @wj) trivial ?_
  all_goals rw[c]
theorem vw{α:Type}(a:α→Bool): ∀(l:List α) (k:Nat),(dU a l k= -1∧ ∀y∈l,a y=false)∨ ∃j x,dU a l k=((k+j:Nat):Int)∧l[j]?=some x∧a x=true∧ ∀y∈l.take j,a y=false
 |[],k=> .inl ⟨rfl,fun _ h=>by cases h⟩
 |x::l,k=>by
  rw[dU];by_cases h:a x=true
  ·rw[if_pos h];exact .inr ⟨0,x,by simp,rfl,h,fun _ h=>by cases h⟩
  ·rw[if_neg h];have f:a x=false:=by simpa using h
   rcases vw a l (k+1)with⟨c,d⟩|⟨j,y,c,d,h3,h4⟩
   ·exact .inl ⟨c,fun y e=>by rcases bY.1 e with rfl|e;exact f;exact d y e⟩
   ·refine .inr ⟨j+1,y,by rw[c];congr 1;omega,by simpa using d,h3,fun z b=> ?_⟩;rw[jT]at b;rcases bY.1 b with rfl|b
    ·exact f
    ·exact h4 z b
theorem filter_none{α:Type}(p:α→Bool): ∀{l:List α},(∀y∈l,p y=false)→l.filter (fun y=> !p y)=l
 |[],_=>rfl
 |x::l,h=>by
  rw[List.filter_cons,if_pos (by rw[h x (by simp)];rfl),filter_none p fun y a=>h y (by simp[a])]
theorem Hn{α:Type}(p:α→Bool){l:List α}{j:Nat}{x:α}(h:l[j]?=some x):(l.take (j+1)).filter p=if p x then(l.take j).filter p++[x]else(l.take j).filter p:=by
 have a:l.take (j+1)=l.take j++[x]:=by rw[qS (aR.1 h).1];congr 2;exact(aR.1 h).2
 rw[a,List.filter_append,List.filter_cons];split<;>simp
theorem gH.app{b:Nat}{s a:List aa}(h:gH b s a)(l:List aa):gH b s (a++l):=fun j cs c hg=>by
 have:=h j cs c hg;rw[eQ (aR.1 this).1];exact this
theorem gH.setV{b:Nat}{s a:List aa}{i:Nat}{o:aa}(h:gH b s a)(hi: ∀cs,a[i]? ≠some (.cells cs)):gH b s (a.set i o):=fun j cs c hg=>by
 have:=h j cs c hg;rw[bs (fun e=>by subst e;exact hi cs this)];exact this
theorem gH.refl(b:Nat)(s:List aa):gH b s s:=fun _ _ _ h=>h
theorem Om(g:FuncId)(a cs:List AV)(s:List aa):aT Tryz.prog 77 [.emp 37,.clo g a cs] s fun d c=>d= .emp 37∧c=s:=by
 have b:=Pz g a cs s;refine aT.of (F:=rq) IK (by simp[rq]) ?_;simp only[rq];exact vr @wj @b
 all_goals first|rfl|exact⟨rfl,rfl⟩|trace_state
theorem M8:lV.length=37:=by simp[lV,sJ,iw]
set_option maxHeartbeats 2000000 in
theorem On{s:List aa}{i:Nat}(l:aP)(U:s[i]?=some (.vec 44 37 (eN l)))(hn:l.length≤1000000)(g:FuncId)(W cs:List AV)(a:bU→Bool)(t: ∀(x:bU) (o:List aa) (K:AV→List aa→Nat→Prop),x∈l→gH 0 s o→(∀V,K (.d (dB (a x))) o V)→aj Tryz.prog (.clo g W cs) [.d (.agg (b8 x))] o K):
  aT Tryz.prog 77 [.vec i l.length 37,.clo g W cs] s fun d s'=>gH 0 s s'∧ ∀f,bu s' (f+2) d=some (.sl 37 ((l.filter (fun x=> !a x)).map b8)):=by
 have a3:=oy l;have hi:=(aR.1 U).1;have D:=PA l U hn g W cs a (fun x K hx hK=>t x s K hx (gH.refl 0 s) hK);refine aT.of (F:=rq) IK (by simp[rq]) ?_;simp only[rq];rcases vw a l 0 with⟨X,R⟩|⟨C,x0,X,R,h3,h4⟩
 ·rw[X]at D;rw[filter_none a R]
  repeat' first|refine ak (fun _=> ?_) fun _=> ?_|refine bb @wj @D ?_|exact ba @wj @D|fail
  refine⟨gH.refl 0 s,fun f=> ?_⟩;simp only[U,a3,and_self,true_and,if_true,Io,eY,GD]
 ·rw[X,au]at D;have a9:C<l.length:=(aR.1 R).1;have hne:((C:Int)== -1)=false:=by simp
  have O:IntKind.i64.wrap ((C:Int)+1)=((C+1:Nat):Int):=ck a8 a8
  repeat' first|refine ak (fun _=> ?_) fun _=> ?_|refine bb (ga @hne (ga @O @wj)) @D ?_|exact ba (ga @hne (ga @O @wj)) @D|fail
  refine aX.tr (fun(b:Nat×Nat×aP×List aa)=>[(6,iN b.1),(5,iN b.2.1)]) (fun b=>b.2.2.2) (fun m b=>m+b.1=l.length∧b.2.2.1.length=l.length∧b.2.1<b.1∧gH 0 s b.2.2.2∧b.2.2.2[i]?=some (.vec 44 37 (eN b.2.2.1))∧b.2.2.1.take b.2.1=(l.take b.1).filter (fun x=> !a x)∧ ∀j,b.1≤j→b.2.2.1[j]?=l[j]?) (l.length-(C+1)) (C+1,C,l,s) aA aA rfl ⟨by dsimp only;omega,rfl,Nat.lt_succ_self _,gH.refl 0 s,U,?_,fun _ _=>rfl⟩ ?_
  ·dsimp only;rw[Hn _ R,h3];exact(filter_none a h4).symm
  rintro m ⟨j,n,L,o⟩ ⟨hm,q,a5,B,h,v,c⟩;dsimp only at hm q a5 B h v c⊢;have w:(eN L).length=l.length*37:=by rw[oy,q]
  have G:=(aR.1 h).1;by_cases T:j<l.length
  ·have g0:l[j]?=some l[j]:=bV T;have g1:L[j]?=some l[j]:=by rw[c _ (bh _)];exact g0
   have y:decide ((j:Int)<(l.length:Int))=true:=by simp;omega
   have a0:=Gs g1;have q0:j*37+37≤l.length*37:=by omega
   have P:IntKind.i64.wrap ((j:Int)+1)=((j+1:Nat):Int):=ck a8 a8;have Q:IntKind.i64.wrap ((n:Int)+1)=((n+1:Nat):Int):=ck a8 a8;have u:=B.app [aa.cells ((b8 l[j]).map .d)];have z:=Hn (fun x=> !a x) g0;have hc:=fun K=>t l[j] (o++[.cells ((b8 l[j]).map .d)]) K (List.getElem_mem T) u
   have A:(o++[.cells ((b8 l[j]).map .d)])[i]?=some (.vec 44 37 (eN L)):=by rw[eQ G];exact h
   have J:n<l.length:=by omega
   have N:=NN (L:=L) (k:=n) a8 l[j];have q1:n*37+37≤l.length*37:=by omega
   have I:m-1<m:=by omega
   by_cases hp:a l[j]=true
   ·rw[hp]at hc z
    repeat' first|refine ak (fun _=> ?_) fun _=> ?_|refine aD ?_|refine hc _ (fun V=> ?_)|simp only[y,P,Q,h,A,w,T,J,a0,q0,FF,iw,aL,wj,wy,qg,aC,reduceCtorEq,reduceIte,Nat.reduceAdd,Nat.reduceMul,Nat.reduceEqDiff,Nat.reduceLT,Nat.reduceLeDiff,Nat.reduceSub,ax,aB,ay,au]
    exact⟨m-1,(j+1,n,L,o++[.cells ((b8 l[j]).map .d)]),I,⟨rfl,rfl⟩,rfl,by dsimp only;omega,q,by dsimp only;omega,u,A,by dsimp only;rw[z,v];rfl,fun k hk=>c k (by dsimp only at hk;omega)⟩
   ·rw[show a l[j]=false by simpa using hp]at hc z
    repeat' first|refine ak (fun _=> ?_) fun _=> ?_|refine aD ?_|refine hc _ (fun V=> ?_)|simp only[y,P,Q,h,A,w,T,J,a0,q0,q1,N,FF,iw,aL,wj,wy,qg,aC,reduceCtorEq,reduceIte,Nat.reduceAdd,Nat.reduceMul,Nat.reduceEqDiff,Nat.reduceLT,Nat.reduceLeDiff,Nat.reduceSub,ax,aB,ay,au]
    refine⟨m-1,(j+1,n+1,L.set n l[j],(o++[aa.cells ((b8 l[j]).map .d)]).set i (.vec 44 37 (eN (L.set n l[j])))),I,⟨rfl,rfl⟩,rfl,by dsimp only;omega,by dsimp only;rw[iB];exact q,by dsimp only;omega,u.setV (fun cs e=>by rw[A]at e;cases e),?_,?_,fun k hk=> ?_⟩
    ·dsimp only;rw[dJ (by rw[aN];omega)]
    ·dsimp only;rw[z,if_pos (by rfl),←v,qS (by simp;omega),List.getElem_set_self,List.take_set_of_le (bh _)]
    ·dsimp only at hk⊢;rw[bs a8];exact c k a8
  ·have H:j=l.length∨l.length<j:=by omega
   have H:j=l.length:=by omega
   subst H;rw[dm (bh _)]at v;have y:decide ((l.length:Int)<(l.length:Int))=false:=by simp
   have M:n≤L.length:=by omega
   obtain⟨Z,S⟩: ∃Z,Z=(eN L).take (n*37)++(List.replicate (l.length-n) lV).flatten++(eN L).drop (n*37+(l.length-n)*37):=⟨_,rfl⟩
   have E:sC o 37 lV (.vwn i l.length n (l.length-n) 37)=some (.d (.sc (.tuple #[])),o.set i (.vec 44 37 Z)):=by
    show((fX l.length o[i]?).bind fun p=>if(37=37∧p.1=37∧lV.length=37)∧0<l.length-n∧n+(l.length-n)≤l.length then some (AV.d (.sc (.tuple #[])),o.set i (.vec (lB o[i]?) 37 (p.2.take (n*37)++(List.replicate (l.length-n) lV).flatten++p.2.drop (n*37+(l.length-n)*37))))else none)=_;have a6:fX l.length o[i]?=some (37,eN L):=by
     rw[h];show(if _ then _ else _)=_;rw[if_pos ⟨by omega,w⟩]
    rw[a6,dF,if_pos ⟨⟨rfl,rfl,M8⟩,by omega,by omega⟩,S,h];rfl
   have a1:Z.take (n*37)=eN (L.take n):=by
    rw[S,bj,gf (by rw[du,oy];omega),sS,Nat.min_self,CU L n M]
   have Y:Z.length=l.length*37:=by
    rw[S,aN,aN,du,ax,oy,Go.Ab.flatten_len (sz:=37) _ (fun r hr=>by rw[(List.mem_replicate.1 hr).2];exact M8),fh,q];omega
   have a7:(o.set i (.vec 44 37 Z))[i]?=some (.vec 44 37 Z):=by rw[ey];simp[G]
   clear S;have r2:n≤l.length:=by omega
   have r1:(n:Int)≤(l.length:Int):=by omega
   have r0:(n:Int)<(l.length:Int):=by omega
   have a2:chunk 37 n (((L.take n).map b8).flatten)=(L.take n).map b8:=by
    have:=GD (L.take n);rw[du,nY M]at this;exact this
   rw[←v];have r3:(0:Int)<(l.length:Int):=by omega
   have a4:gH 0 s (o.set i (.vec 44 37 Z)):=B.setV fun cs e=>by rw[h]at e;cases e
   repeat' first|refine ak (fun _=> ?_) fun _=> ?_|refine aD ?_|simp only[y,h,w,r0,r1,r2,r3,E,a7,Y,gW,iz,nZ,od,jQ,wj,wy,qg,aC,reduceCtorEq,reduceIte,Nat.reduceAdd,Nat.reduceMul,Nat.reduceEqDiff,Nat.reduceLT,Nat.reduceLeDiff,Nat.reduceSub,ax,aB,ay,au]
   refine⟨a4,fun f=> ?_⟩;rw[a1,Io,eY,a2]
end Go.Proofs.Q
