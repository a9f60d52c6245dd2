/- Lemmas. -/
import Derived.Test.YtellfinifjmloaaGreatDoorPBE
set_option linter.unusedVariables false
set_option linter.unusedSimpArgs false
namespace Go.Proofs.Q
open Go Go.Bb Go.RowKit Go.Proofs.Lg
open Go.Ab (D RD)
def vq(l:List (af×Nat)):List Dg:=(l.filter fun r=> !isZero r.1.p).map (·.1.p)
theorem YP(y:af)(t:Nat)(l:List (af×Nat)):vq ((y,t)::l)=if isZero y.p=true then vq l else y.p::vq l:=by
 unfold vq;by_cases h:isZero y.p=true
 ·rw[if_pos h];simp[h]
 ·rw[if_neg h];simp[h]
theorem Oa(x:af)(a:AV):(cy x a).take 32=(aP x.p).map .d:=by
 unfold cy;rw[gj (by rw[aQ,az];omega),←List.map_take,ou]
theorem Kb(d:Dg):[aP d].flatten=aP d:=by simp
theorem qm(P:Program)(d:AV): ∀(l:List CO) (K:Fr→List aa→List Nat→Prop) (a:List Nat) (fr:Fr) (s:List aa) (m t:Nat),dv P l K a fr (some t) m s d=bK P l K (m::a) ((t,d)::fr) s:=fun l K a fr s m t=>Q9 P l K a fr s m t d
set_option maxHeartbeats 4000000 in
theorem N3(p:aX)(hp:cz p)(Z:du p):aG Tryz.prog 151 [.agg (bc p)] (.sl 32 ((cD p).map aP)):=by
 have W:=Z4 p hp Z;by_cases h:iZ p=0
 ·rw[←LP h];rw[h]at W;obtain⟨a7,z,a1,_⟩:=jy (uH h);have a6:=Z.chg;refine PN ?_;refine b7.ofA (F:=sS) Mg (by simp[sS]) ?_;simp only[sS];refine AC.cutJ [1] [(1,.d (.ref (bc p)))] (fun s=>s=[]) ?_ fun s T=> ?_
  ·exact bU ab ab
  subst T;refine AC.cutJ [1] [(1,.d (.ref (bc p)))] (fun s=>s=[]) ?_ fun s T=> ?_
  ·exact bU ab @W
  subst T;refine bD ?_;have C:=RO p.deps a8
  repeat' first|refine ae (fun _=> ?_) fun _=> ?_|refine aL ?_|(refine aq.fn ((C _).mono ?_);rintro d s0 ⟨-,P⟩)|simp only[wj,wy,qg,aH,simprocAttr,aA,aF,aE,aw]
  have hP:=qm Tryz.prog d;refine aO (ga @hP @wj) ab ?_;obtain⟨R,M⟩: ∃R,R=DI p:=⟨_,rfl⟩
  rw[←M];refine aZ.overI p.changes (fun k (b:List Dg×AV×List aa)=>[(17,iN k),(3,b.2.1)]) (fun _ b=>b.2.2) (fun r b=>b.1++r.flatMap qj) R (fun k b=>oK b.2.1 b.2.2 b.1∧b.1.length≤100+404*k) (p.deps,d,s0) a8 aB aB rfl M ⟨P,by dsimp only;omega⟩ (fun k b x hg hk hd hw u c=> ?_) (fun b hd u c=> ?_)
  ·obtain⟨o,v,s⟩:=b;obtain⟨c,G⟩:=c;dsimp only at u c G;have U:=bX hg;have a4:=(Z.line x U).2;have a9:=wY (a1 x U);have i:=qm Tryz.prog v;have a3:=a2F x a4;have b0:=Ha x;clear P C W
   repeat' first|refine ae (fun _=> ?_) fun _=> ?_|refine aL ?_|(refine aq.fn ((a3 _).mono ?_);rintro e K ⟨J,rfl,O⟩)|simp only[hd,hw,hg,i,fb,de,aQ,wj,wy,qg,aH,simprocAttr,aA,aF,aE,aw]
   rw[lR,←bj]at u;have n:oK v (s++[aa.cells (List.map AV.d (aV x))]++J) o:=c.of fun r ds S=>bW (bW S _) _;simp only[bj,mO,bm]at O n;generalize s++aa.cells (List.map AV.d (aV x))::J=s1 at O n⊢;clear c;rcases O with⟨rfl,hn⟩|⟨r,rfl,S⟩
   ·refine aO (ga @i @wj) ab ?_;refine aZ.overI ([]:List Nat) (fun k (b:Unit)=>[(24,iN k)]) (fun _ _=>s1) (fun _ _=>()) () (fun _ _=>True) () (by simp) aB aB rfl rfl trivial (fun k b x hg=>by cases hg) (fun b m a _=> ?_);have Q:qj x=[]:=by unfold qj;rw[hn];rfl
    rw[Q,bg]at u;refine aO (ga @i (ga @hw @wj)) ab ?_;exact⟨(o,v,s1),rfl,rfl,u,n,by dsimp only;omega⟩
   ·refine aO (ga @i @wj) ab ?_;have z:=Hg x (fa x);obtain⟨g,hcells⟩: ∃g,g=rowsC x (fa x):=⟨_,rfl⟩
    rw[←hcells]at S z;refine aZ.overI (fa x) (fun j (b:List Dg×AV×List aa)=>[(24,iN j),(3,b.2.1)]) (fun _ b=>b.2.2) (fun q b=>b.1++vq q) (o++qj x) (fun j b=>(oK b.2.1 b.2.2 b.1∧b.1.length≤100+404*k+j)∧b.2.2[r]?=some (.vec 213 34 g)) (o,v,s1) a8 aB aB rfl rfl ⟨⟨n,by dsimp only;omega⟩,S⟩ (fun j b y hg D m I a c=> ?_) (fun b m a c=> ?_)
    ·obtain⟨o',V,K⟩:=b;obtain⟨⟨c,A⟩,f⟩:=c;dsimp only at a c A f;have l:=qm Tryz.prog V;have w:=Hf x (fa x) j y hg;rw[←hcells]at w;have B:=bW f;have E:j*34+34≤(fa x).length*34:=by omega
     obtain⟨y,t⟩:=y;have L:=DK y;dsimp only at w;rw[YP]at a;clear n S u hg;by_cases X:isZero y.p=true
     ·rw[X]at L;rw[if_pos X]at a
      repeat' first|refine ae (fun _=> ?_) fun _=> ?_|refine aL ?_|refine aq.data (L) rfl ?_|simp only[l,m,I,D,f,B,z,w,E,pE,iq,ey,pF,il,im,fC,wj,wy,qg,aH,simprocAttr,aA,aF,aE,aw]
      exact⟨(o',V,_),rfl,rfl,a,⟨c.of fun r ds h=>bW h _,by dsimp only;omega⟩,B _⟩
     ·rw[show isZero y.p=false by simpa using X]at L;rw[if_neg X]at a;rcases c with⟨rfl,rfl⟩|⟨Q,r3,rfl,hr3⟩
      ·have H:bw 1 32=true:=by decide
       repeat' first|refine ae (fun _=> ?_) fun _=> ?_|refine aL ?_|refine aq.data (L) rfl ?_|simp only[m,I,D,f,B,z,w,E,H,Kb,vB,ba,aQ,Oa,pE,iq,ey,pF,il,im,fC,wj,wy,qg,aH,simprocAttr,aA,aF,aE,aw]
       refine⟨([y.p],_,_),rfl,rfl,by simpa using a,⟨.inr ⟨by simp,K.length+1,rfl,?_⟩,by simp;omega⟩,?_⟩
       ·rw[wI];simp
       ·exact bW f _
      ·have H:bw (o'.length+1) 32=true:=room_le a8 a8;have a2:=bW hr3;have N:=oW o'
       repeat' first|refine ae (fun _=> ?_) fun _=> ?_|refine aL ?_|refine aq.data (L) rfl ?_|simp only[l,m,I,D,f,B,hr3,a2,z,N,w,E,H,Kb,vB,ba,aQ,Oa,pE,iq,ey,pF,il,im,fC,wj,wy,qg,aH,simprocAttr,aA,aF,aE,aw]
       have hne:r3≠r:=by rintro rfl;rw[hr3]at f;cases f
       have a5:=(b9.1 hr3).1;refine⟨(o'++[y.p],.vec r3 (o'.length+1) 32,_),rfl,rfl,by simpa using a,⟨.inr ⟨by simp,r3,by simp,?_⟩,by simp;omega⟩,?_⟩
       ·rw[eP,if_pos rfl,if_pos (by simp;omega),wG,wI]
       ·rw[bC hne];exact B _
    ·obtain⟨o',V,K⟩:=b;obtain⟨⟨c,A⟩,f⟩:=c;dsimp only at a c A f;have l:=qm Tryz.prog V;have e0:vq []=[]:=rfl;rw[e0,bg]at a;rw[a]at u;refine aO (ga @l (ga @m (ga @hw @wj))) ab ?_;exact⟨(o',V,K),rfl,rfl,u,c,by dsimp only;omega⟩
  ·obtain⟨o,v,s⟩:=b;obtain⟨c,G⟩:=c;dsimp only at u c G;rw[List.flatMap_nil,bg]at u;subst u;have i:=qm Tryz.prog v;have T:=a3v v s R c a8
   repeat' first|refine ae (fun _=> ?_) fun _=> ?_|refine aL ?_|(refine aq.fn (T.mono ?_);rintro _ K ⟨rfl,Y⟩)|simp only[i,hd,wj,wy,qg,aH,simprocAttr,aA,aF,aE,aw]
   have hc:=S3 v K _ Y (by rw[mP];omega)
   repeat' first|refine ae (fun _=> ?_) fun _=> ?_|refine aL ?_|(refine aq.fn (hc.mono ?_);intro e b1 O)|simp only[i,wj,wy,qg,aH,simprocAttr,aA,aF,aE,aw]
   have a0:=qm Tryz.prog e;refine aO (ga @a0 @wj) ab ?_
   all_goals exact O
 ·have e1:(iZ p !=0)=true:=by simpa using h
  have e2:cD p=[]:=by unfold cD;rw[if_pos h]
  rw[e2];refine aM (F:=sS) Mg (by simp[sS]) ?_;simp only[sS];exact bU @e1 @W
def eT{α:Type}(a:α→Bool):List α→Nat→Int
 |[],_=> -1
 |x::l,k=>if a x then(k:Int)else eT a l (k+1)
theorem Kz{α:Type}(a:α→Bool): ∀(l:List α) (k:Nat),decide (eT a l k≥0)=l.any a
 |[],k=>by simp[eT]
 |x::l,k=>by
  rw[eT,List.any_cons];by_cases h:a x=true
  ·rw[if_pos h,h];simp
  ·rw[if_neg h,Kz a l (k+1)];simp[h]
theorem KD(l:List bT)(p:l.length≤1000000)(g:FuncId)(i cs:List AV)(a:bT→Bool)(s:List aa)(e: ∀(x:bT) (K:AV→List aa→Nat→Prop),x∈l→(∀h,K (.d (dB (a x))) s h)→aq Tryz.prog (.clo g i cs) [.d (.agg (b5 x))] s K):
  b7 Tryz.prog 86 [.d (.sl 37 (l.map b5)),.clo g i cs] s fun d o=>d= .d (dI (eT a l 0))∧o=s:=by
 refine b7.of (F:=As) Wd (by simp[As]) ?_;simp only[As];refine aO @wj ab ?_;refine aZ.overI l (fun k (b:Unit)=>[(8,iN k)]) (fun _ _=>s) (fun r _=>eT a r (l.length-r.length)) (eT a l 0) (fun _ _=>True) () a8 aB aB rfl (by rw[jl]) trivial (fun k _ x hg hk f j c _=> ?_) (fun _ f c _=> ?_)
 ·have m:l.length-(x::l.drop (k+1)).length=k:=by rw[aY,aA];omega
  have n:l.length-(l.length-(k+1))=k+1:=by omega
  rw[m,eT]at c;have hc:=e x;by_cases hp:a x=true
  ·rw[if_pos hp]at c;rw[hp]at hc
   repeat' first|refine ae (fun _=> ?_) fun _=> ?_|refine aL ?_|(refine hc _ (bX hg) (fun h=> ?_))|simp only[f,j,hg,wj,wy,qg,aH,simprocAttr,aA,aF,aE,aw]
   all_goals rw[c]
  ·rw[if_neg hp]at c;rw[show a x=false by simpa using hp]at hc
   repeat' first|refine ae (fun _=> ?_) fun _=> ?_|refine aL ?_|(refine hc _ (bX hg) (fun h=> ?_))|simp only[f,j,hg,wj,wy,qg,aH,simprocAttr,aA,aF,aE,aw]
   all_goals exact⟨(),by rw[n];exact c⟩
 ·rw[eT]at c;refine aO (ga @f @wj) ab ?_
  all_goals rw[c]
theorem Km(d:Dg): ∀(l:aD) (k:Nat),(eT (fun x:bT=>decide (x.id=d)) l k= -1∧ch l d=none)∨ ∃j x,eT (fun x:bT=>decide (x.id=d)) l k=((k+j:Nat):Int)∧l[j]?=some x∧ch l d=some x.pat
 |[],k=> .inl ⟨rfl,rfl⟩
 |x::l,k=>by
  rw[eT,ch];by_cases h:x.id=d
  ·rw[if_pos (by simpa using h),if_pos h];exact .inr ⟨0,x,by simp,rfl,rfl⟩
  ·rw[if_neg (by simpa using h),if_neg h];rcases Km d l (k+1)with h|⟨j,y,h1,h2,h3⟩
   ·exact .inl h
   ·exact .inr ⟨j+1,y,by rw[h1];congr 1;omega,by simpa using h2,h3⟩
theorem Zs(x:bT)(d:Dg):aG Tryz.prog 87 [.agg (b5 x),.ref (aP d)] (dB (decide (x.id=d))):=by
 refine aM (F:=BB) Xh (by simp[BB]) ?_;simp only[BB]
 repeat' first|refine ae (fun _=> ?_) fun _=> ?_|refine ay ab ab ?_|exact ax ab ab|fail
 all_goals first|rfl|(simp_all;done)|trace_state
theorem a4s:kg gy=some (bc .zero):=wQ (bc .zero)
theorem Gs(l:aD)(g:l.length≤1000000)(d:Dg):aG Tryz.prog 46 [.sl 37 (l.map b5),.agg (aP d)] (.tup [.agg (bc ((ch l d).getD .zero)),dB (ch l d).isSome]):=by
 have a:=fun s=>KD l g 87 [] [.d (.ref (aP d))] (fun x=>decide (x.id=d)) s (fun x K _ f=>aq.data (Zs x d) rfl (f 0));rcases Km d l 0 with⟨b,c⟩|⟨j,x,b,c,h3⟩
 ·rw[b]at a;rw[c];have e:decide ((-1:Int)<0)=true:=by decide
  refine aM (F:=sX) Mk (by simp[sX]) ?_;simp only[sX];exact FF (ga @e (ga @a4s (ga @fJ (ga @br @wj)))) @a
  all_goals first|rfl|trace_state
 ·rw[aw]at b;rw[b]at a;rw[h3];have e:decide ((j:Int)<0)=false:=by simp
  refine aM (F:=sX) Mk (by simp[sX]) ?_;simp only[sX]
  repeat' first|refine ae (fun _=> ?_) fun _=> ?_|refine aL ?_|(refine aq.fn ((a _).mono ?_);rintro _ h ⟨rfl,rfl⟩)|simp only[e,c,fJ,br,aQ,fC,wj,wy,qg,aH,simprocAttr,aA,aF,aE,aw]
  all_goals first|rfl|trace_state
theorem Ad{α:Type}(a:α→Bool): ∀(l:List α) (k:Nat),(eT a l k= -1∧ ∀y∈l,a y=false)∨ ∃j x,eT a l k=((k+j:Nat):Int)∧l[j]?=some x∧a x=true∧ ∀y∈l.take j,a y=false
 |[],k=> .inl ⟨rfl,fun _ h=>by cases h⟩
 |x::l,k=>by
  rw[eT];by_cases h:a x=true
  ·rw[if_pos h];exact .inr ⟨0,x,by simp,rfl,h,fun _ h=>by cases h⟩
  ·rw[if_neg h];have f:a x=false:=by simpa using h
   rcases Ad a l (k+1)with⟨c,d⟩|⟨j,y,c,d,h3,h4⟩
   ·exact .inl ⟨c,fun y e=>by rcases bM.1 e with rfl|e;exact f;exact d y e⟩
   ·refine .inr ⟨j+1,y,by rw[c];congr 1;omega,by simpa using d,h3,fun z b=> ?_⟩;rw[jj]at b;rcases bM.1 b with rfl|b
    ·exact f
    ·exact h4 z b
abbrev MD:=List (Dg×AV)
def cM(m:MD):List (List Value×AV):=m.map fun e=>(eh e.1,e.2)
def gq(d:Dg):MD→Nat→Option (Nat×AV)
 |[],_=>none
 |e::m,i=>if d=e.1 then some (i,e.2)else gq d m (i+1)
theorem sB(d:Dg): ∀(m:MD) (i:Nat),e9 eV (eh d) (cM m) i=some (gq d m i)
 |[],_=>rfl
 |e::m,i=>by
  show((bx eV (eh d) (eh e.1)).bind fun b=>if b=true then some (some (i,e.2))else e9 eV (eh d) (cM m) (i+1))=_;rw[JQ,dP,sB d m (i+1),gq];by_cases h:d=e.1<;>simp[h]
theorem Ry(a b:MD):cM (a++b)=cM a++cM b:=fp
theorem zr(a:MD)(d:Dg)(v:AV):cM a++[(eh d,v)]=cM (a++[(d,v)]):=by rw[Ry];rfl
theorem K7{d:Dg}: ∀{m:MD} {i:Nat},gq d m i=none↔d∉m.map (·.1)
 |[],_=>by simp[gq]
 |e::m,i=>by
  rw[gq,bV,bM];by_cases h:d=e.1
  ·simp[h]
  ·rw[if_neg h,K7];simp[h]
theorem yo(es:List (List Value×AV))(key:List Value)(v:AV):oC es key v none=es++[(key,v)]:=rfl
theorem a3a(es:List (List Value×AV))(key:List Value)(v:AV)(i:Nat)(y:AV):oC es key v (some (i,y))=es.set i (key,v):=rfl
def gS(l:aD):MD:=l.map fun x=>(x.id,.d (.sl 32 ((cD x.pat).map aP)))
set_option maxHeartbeats 1000000 in
theorem T5(l:aD)(u:l.length≤1000000)(j: ∀x∈l,cz x.pat∧du x.pat)(g:(bs l).Nodup):b7 Tryz.prog 154 [.d (.sl 37 (l.map b5))] [] fun d t=>d= .mp 0∧t[0]?=some (.map true (cM (gS l))):=by
 refine b7.of (F:=BJ) Xp (by simp[BJ]) ?_;simp only[BJ];refine aO @wj ab ?_;refine aZ.overI l (fun k (b:List aa)=>[(9,iN k)]) (fun k b=> .map true (cM (gS (l.take k)))::b) (fun _ _=>()) () (fun _ _=>True) ([]:List aa) a8 aB aB (by simp[gS,cM]) rfl trivial (fun k b x hg hk c s o _=> ?_) (fun b c o _=> ?_)
 ·have m:=bX hg;have n:=N3 x.pat (j x m).1 (j x m).2;have p:gq x.id (gS (l.take k)) 0=none:=by
   rw[K7];intro hm;have a:(gS (l.take k)).map (·.1)=(bs l).take k:=by unfold gS bs;rw[nJ,List.map_take];rfl
   rw[a]at hm;obtain⟨i,hi⟩:=fU hm;rw[eY]at hi;split at hi
   ·rename_i q;have h:(bs l)[k]?=some x.id:=by unfold bs;rw[dL,hg];rfl
    have f:k<(bs l).length:=by unfold bs;rw[aQ];exact hk
    have:=(List.getElem?_inj f g).1 (h.trans hi.symm);omega
   ·cases hi
  have r:gS (l.take (k+1))=gS (l.take k)++[(x.id,.d (.sl 32 ((cD x.pat).map aP)))]:=by
   have a:l.take (k+1)=l.take k++[x]:=by rw[ui hk];congr 2;exact(b9.1 hg).2
   rw[a];unfold gS;rw[fp];rfl
  have e:e9 eV (eh x.id) (cM (gS (l.take k))) 0=some none:=by rw[sB,p]
  repeat' first|refine ae (fun _=> ?_) fun _=> ?_|refine aL ?_|refine aq.data (n) rfl ?_|simp only[c,s,hg,e,yo,zr,←r,yM,fH,aQ,wj,wy,qg,aH,simprocAttr,aA,aF,aE,aw]
  all_goals exact⟨_,rfl⟩
 ·rw[dq (bk _)];exact bU (ga @c @wj) ab
  all_goals first|rfl|trace_state
def gM(O:List Dg):MD:=O.map fun d=>(d,.d (dB true))
theorem Fw(d:Dg): ∀(O:List Dg) (i:Nat),if cW O d=true then∃j,gq d (gM O) i=some (j,.d (dB true))else gq d (gM O) i=none
 |[],i=>by simp[cW,gM,gq]
 |e::O,i=>by
  have b:=Fw d O (i+1);show if cW (e::O) d=true then∃j,(if d=e then some (i,_)else gq d (gM O) (i+1))=_ else(if d=e then some (i,_)else gq d (gM O) (i+1))=none;by_cases h:d=e
  ·subst h;rw[if_pos ((ng _ _).2 (by simp))];exact⟨i,if_pos rfl⟩
  ·rw[if_neg h];have a:cW (e::O) d=cW O d:=by rw[mJ,ng,ng];simp[h]
   rw[a];exact b
theorem kK{vs:List AV}(h:vs.length=32):b8 ((aP .zero).map .d) 0 32 vs=some vs:=gN (by simp[ba]) h
structure RS(G:MD)(a g0 b mi c:Nat)(O:List Dg)(s:List aa):Prop where
 ha:s[a]?=some (.cells [.mp g0])
 hg:s[g0]?=some (.map true (cM G))
 hb:s[b]?=some (.cells [.mp mi])
 hm:s[mi]?=some (.map true (cM (gM O)))
 hne:g0≠mi
 hc:(O=[]∧s[c]?=some (.cells [.nil 32]))∨(O≠[]∧ ∃v,s[c]?=some (.cells [.vec v O.length 32])∧s[v]?=some (.vec 25 32 (dV O)))
 nd:O.Nodup
 sub: ∀d∈O,d∈G.map (·.1)
theorem bG{s:List aa}{i:Nat}{o:aa}(h:s[i]?=some o)(l:List aa):(s++l)[i]?=some o:=by
 rw[fM (b9.1 h).1];exact h
theorem getSet{s:List aa}{i j:Nat}{o o':aa}(h:s[i]?=some o)(a:j≠i):(s.set j o')[i]?=some o:=by
 rw[bC a];exact h
theorem fA{s:List aa}{i:Nat}{o o':aa}(h:s[i]?=some o):(s.set i o')[i]?=some o':=by
 rw[fx (b9.1 h).1]
theorem RS.app{G:MD}{a f b g c:Nat}{O:List Dg}{s:List aa}(h:RS G a f b g c O s)(l:List aa):RS G a f b g c O (s++l):=
 ⟨bG h.ha l,bG h.hg l,bG h.hb l,bG h.hm l,h.hne,h.hc.imp (fun⟨d,e⟩=>⟨d,bG e l⟩) fun⟨d,v,e,i⟩=>⟨d,v,bG e l,bG i l⟩,h.nd,h.sub⟩
theorem Vb(O:List Dg)(x:Dg):gM O++[(x,.d (dB true))]=gM (O++[x]):=by simp[gM]
structure nL(G:MD)(a g0 b mi:Nat)(O:List Dg)(s:List aa):Prop where
 ha:s[a]?=some (.cells [.mp g0])
 hg:s[g0]?=some (.map true (cM G))
 hb:s[b]?=some (.cells [.mp mi])
 hm:s[mi]?=some (.map true (cM (gM O)))
 hne:g0≠mi
 nd:O.Nodup
 sub: ∀d∈O,d∈G.map (·.1)
theorem RS.put{G:MD}{a i b g c:Nat}{O:List Dg}{s:List aa}(h:RS G a i b g c O s)(x:Dg)(k: ¬cW O x=true)(j:x∈G.map (·.1)):nL G a i b g (O++[x]) (s.set g (.map true (cM (gM O++[(x,.d (dB true))])))):=
 ⟨getSet h.ha (fun e=>by have:=h.ha;rw[←e,h.hm]at this;cases this),getSet h.hg (Ne.symm h.hne),getSet h.hb (fun e=>by have:=h.hb;rw[←e,h.hm]at this;cases this),by rw[Vb];exact fA h.hm,h.hne,
  List.nodup_append.2 ⟨h.nd,by simp,fun a ha b hb e=>k ((ng _ _).2 (by rw[iB]at hb;rw[←hb,←e];exact ha))⟩,
  fun d f=>by rcases eJ.1 f with f|f;exact h.sub d f;rw[iB]at f;rw[f];exact j⟩
theorem nL.app{G:MD}{a c b d:Nat}{O:List Dg}{s:List aa}(h:nL G a c b d O s)(l:List aa):nL G a c b d O (s++l):=
 ⟨bG h.ha l,bG h.hg l,bG h.hb l,bG h.hm l,h.hne,h.nd,h.sub⟩
theorem nL.set{G:MD}{a d b k:Nat}{O:List Dg}{s:List aa}(h:nL G a d b k O s){c:Nat}{o o':aa}(hc:s[c]?=some o)(l: ∀g,o≠ .cells [.mp g])(m: ∀e,o≠ .map true e):nL G a d b k O (s.set c o'):=
 have f: ∀{i g},s[i]?=some (.cells [.mp g])→c≠i:=fun h e=>by subst e;rw[hc]at h;exact l _ (aJ h)
 have j: ∀{i e},s[i]?=some (.map true e)→c≠i:=fun h e=>by subst e;rw[hc]at h;exact m _ (aJ h)
 ⟨getSet h.ha (f h.ha),getSet h.hg (j h.hg),getSet h.hb (f h.hb),getSet h.hm (j h.hm),h.hne,h.nd,h.sub⟩
theorem nL.nil{G:MD}{a i b j c:Nat}{x:Dg}{s:List aa}(h:nL G a i b j [x] s)(hc:s[c]?=some (.cells [.nil 32])):RS G a i b j c [x] ((s++[aa.vec 25 32 ((aP x).map .d)]).set c (.cells [.vec s.length 1 32])):=by
 have k:=(b9.1 hc).1;have f:=(h.app [.vec 25 32 ((aP x).map .d)]).set (o':= .cells [.vec s.length 1 32]) (bG hc _) (fun g e=>by cases e) (fun g e=>by cases e);exact⟨f.ha,f.hg,f.hb,f.hm,f.hne,.inr ⟨by simp,s.length,fA (bG hc _),by rw[wI];exact getSet (by simp) a8⟩,f.nd,f.sub⟩
theorem nL.vec{G:MD}{a k b l c v:Nat}{O:List Dg}{x:Dg}{s:List aa}(h:nL G a k b l (O++[x]) s)(hc:s[c]?=some (.cells [.vec v O.length 32]))(j:s[v]?=some (.vec 25 32 (dV O))):RS G a k b l c (O++[x]) ((s.set v (.vec 25 32 (dV (O++[x])))).set c (.cells [.vec v (O.length+1) 32])):=by
 have i:v≠c:=fun e=>by subst e;rw[hc]at j;cases j
 have f:(s.set v (.vec 25 32 (dV (O++[x]))))[c]?=some (.cells [.vec v O.length 32]):=getSet hc i;have d:=(h.set (o':= .vec 25 32 (dV (O++[x]))) j (fun g e=>by cases e) (fun g e=>by cases e)).set (o':= .cells [.vec v (O.length+1) 32]) f (fun g e=>by cases e) (fun g e=>by cases e)
 exact⟨d.ha,d.hg,d.hb,d.hm,d.hne,.inr ⟨by simp,v,by rw[aR];exact fA f,getSet (fA j) (Ne.symm i)⟩,d.nd,d.sub⟩
theorem OD{s:List aa}{n:Nat}{o:aa}(h:s[n]?=some o):s.set n o=s:=by
 apply iX;intro i;by_cases e:i=n
 ·subst e;rw[fA h,h]
 ·rw[bC (Ne.symm e)]
end Go.Proofs.Q
