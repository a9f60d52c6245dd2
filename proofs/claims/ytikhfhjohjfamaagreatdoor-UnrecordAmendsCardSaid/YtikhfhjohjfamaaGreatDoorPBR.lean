/- Lemmas. -/
import Derived.Test.YtikhfhjohjfamaaGreatDoorSI
import Derived.Test.YtikhfhjohjfamaaGreatDoorPBH
set_option linter.unusedVariables false
set_option linter.unusedSimpArgs false
set_option maxRecDepth 100000
namespace Go.Proofs.Q
open Go Go.Bb Go.RowKit Go.Proofs.Lg
open Go.Ab (D RD)
def qX(s:ar)(d:Dg):List ay:=(ee ((bh s d).getD .zero)).1
def oT(s:ar)(x:ak):Option ay:=if x.n<0\/((qX s x.p).length:Int)<=x.n then none else(qX s x.p)[x.n.toNat]?
structure RK(s:ar)(p m:Nat)(K:MD)(st:List aa):Prop where
 hp:st[p]?=some (.cells [.d (.sl 37 (s.map aX)),.mp m])
 hm:st[m]?=some (.map true (cM K))
 hk: ∀e∈K,e.2= .d (.sl 172 ((qX s e.1).map aO))
theorem RK.app{s:ar}{p m:Nat}{K:MD}{st:List aa}(h:RK s p m K st)(l:List aa):RK s p m K (st++l):=⟨bz h.hp l,bz h.hm l,h.hk⟩
def fZ(m:Nat)(st a:List aa):Prop:= ∀(i:Nat) (o:aa),i≠m->st[i]?=some o->a[i]?=some o
theorem Ts(s:ar)(st:List aa):bs Tryz.prog 116 [.d (.sl 37 (s.map aX))] st λd b=>d= .ptr (st.length+1) 0/\RK s (st.length+1) st.length [] b/\ ∀(i:Nat) (o:aa),st[i]?=some o->b[i]?=some o:=by
 refine cz Tryz.f116 ?_;have a:=jC Tryz.prog (.d (.sc (.pointer none)));have c:ba [AV.nil 37,AV.d (.sc (.map none))] 0 1 [.d (.sl 37 (s.map aX))]=some [.d (.sl 37 (s.map aX)),.d (.sc (.map none))]:=rfl;have e:ba [AV.d (.sl 37 (s.map aX)),AV.d (.sc (.map none))] 1 1 [.mp st.length]=some [.d (.sl 37 (s.map aX)),.mp st.length]:=rfl
 have f:aggA [AV.d (.sl 37 (s.map aX)),.mp st.length]= .agg [.d (.sl 37 (s.map aX)),.mp st.length]:=rfl
 repeat' first|refine ab (λ_=> ?_) λ_=> ?_|refine aG (ga @a (ga @c (ga @e (ga @f @wj)))) trivial ?_|exact aF (ga @a (ga @c (ga @e (ga @f @wj)))) trivial|fail
 all_goals first|exact⟨rfl,⟨by simp,by simp[cM],by simp⟩,λi o h=>bz h _⟩|exact⟨⟨by simp,by simp[cM],by simp⟩,λi o h=>bz h _⟩
theorem db.zero:db .zero:=⟨by simp[aU.zero],λc hc=>by simp[aU.zero]at hc⟩
theorem J0{d:Dg}: ∀{m:MD} {i j:Nat} {v:AV},eV d m i=some (j,v)->(d,v)∈m
 |[],_,_,_,h=>by cases h
 |e::m,i,j,v,h=>by
  rw[eV]at h;by_cases a:d=e.1
  .rw[if_pos a]at h;cases h;rw[a];simp
  .rw[if_neg a]at h;exact er _ (J0 h)
theorem Ps(s:ar)(d:Dg):(qX s d).length<=1604400:=by
 unfold qX ee;split
 .exact fG _
 .rw[aM];exact wc _
theorem fZ.app{m:Nat}{st:List aa}(l:List aa):fZ m st (st++l):=λi o _ h=>bz h l
theorem fZ.set{m:Nat}{st:List aa}(l:List aa)(o:aa):fZ m st ((st++l).set m o):=λi o' hi h=>getSet (bz h l) (Ne.symm hi)
set_option maxHeartbeats 4000000 in
theorem V4{s:ar}(X:s.length<=1000000)(Y: ∀x∈s,bS x.pat/\db x.pat){p m:Nat}{K:MD}{st:List aa}(h:RK s p m K st)(x:ak):
  bs Tryz.prog 188 [.ptr p 0,.d (.agg (ae x))] st λd Q=>d= .tup [.d (.agg (aO ((oT s x).getD .zero))),.d (dB (oT s x).isSome)]/\(∃w,RK s p m w Q)/\fZ m st Q:=by
 have J:=wO s X x.p;have u:bS ((bh s x.p).getD .zero)/\db ((bh s x.p).getD .zero):=by
  cases hg:bh s x.p with
  |none=>exact⟨bS.zero,db.zero⟩
  |some q=>
   obtain⟨y,O,rfl⟩: ∃y∈s,y.pat=q:=by
    clear J h Y
    induction s with
    |nil=>cases hg
    |cons y s ih=>
     rw[bh]at hg;split at hg
     .exact⟨y,by simp,aJ hg⟩
     .obtain⟨z,Z,h2⟩:=ih (by simp at X;omega) hg;exact⟨z,by simp[Z],h2⟩
   exact Y y O
 have H:=BX _ u.1 u.2;have V:(ee ((bh s x.p).getD .zero)).1=qX s x.p:=rfl;rw[V]at H;have N:(qX s x.p).length<=1604400:=Ps _ _;have k:=λl=>bz h.hp l;have g:=λl=>bz h.hm l;have T:p≠m:=λe=>by have:=h.hp;rw[e,h.hm]at this;cases this
 have a2:=(aV.1 h.hp).1;have a0:=(aV.1 h.hm).1;have c:=nZ x.p K 0;obtain⟨a,ha⟩: ∃a,a=qX s x.p:=⟨_,rfl⟩
 have hQ:oT s x=if x.n<0\/(a.length:Int)<=x.n then none else a[x.n.toNat]? :=by rw[ha];rfl
 rw[hQ];obtain⟨P,W⟩: ∃P,P=(bh s x.p).getD .zero:=⟨_,rfl⟩
 rw[<-W]at J H;rw[<-ha]at H N;clear V W u;refine xz Tryz.f188 ?_ [100003,300054];refine AC.seq (bG ?_)
 repeat' first|refine ab (λ_=> ?_) λ_=> ?_|refine aG @wj trivial ?_|exact aF @wj trivial|fail
 obtain⟨L,B,D⟩: ∃(L:AV) (B:Bool),(eV x.p K 0=none/\B=false/\L= .nil 172)\/ ∃j,eV x.p K 0=some (j,.d (.sl 172 (a.map aO)))/\B=true/\L= .d (.sl 172 (a.map aO)):=by
  cases A:eV x.p K 0 with
  |none=>exact⟨_,_,.inl ⟨rfl,rfl,rfl⟩⟩
  |some r=>
   obtain⟨j,v⟩:=r;have U:=h.hk _ (J0 A);dsimp only at U;rw[<-ha]at U;subst U;exact⟨_,_,.inr ⟨j,rfl,rfl,rfl⟩⟩
 refine AC.cutJ [0,3,4,6,7] [(0,.ptr p 0),(3,.d (.ref (ae x))),(4,.ptr st.length 0),(6,L),(7,.d (dB B))] (λf=>f=st++[.cells qC]) ?_ λf G=> ?_
 .rcases D with⟨A,rfl,rfl⟩|⟨j,A,rfl,rfl⟩
  .rw[A]at c
   repeat' first|refine ab (λ_=> ?_) λ_=> ?_|refine aG (ga @k (ga @g (ga @c (ga @aN @wj)))) trivial ?_|exact aF (ga @k (ga @g (ga @c (ga @aN @wj)))) trivial|fail
  .rw[A]at c
   repeat' first|refine ab (λ_=> ?_) λ_=> ?_|refine aG (ga @k (ga @g (ga @c (ga @aN @wj)))) trivial ?_|exact aF (ga @k (ga @g (ga @c (ga @aN @wj)))) trivial|fail
 subst G;refine AC.cutJ [3,4,6] [(3,.d (.ref (ae x))),(4,.ptr st.length 0),(6,.d (.sl 172 (a.map aO)))] (λf=>(∃w,RK s p m w f)/\fZ m st f/\f[st.length]?=some (.cells qC)) ?_ λf G=> ?_
 .rcases D with⟨A,rfl,rfl⟩|⟨j,A,rfl,rfl⟩
  .rw[A]at c;have R: ∀l,(∃w,RK s p m w ((st++l).set m (.map true (cM (K++[(x.p,.d (.sl 172 (a.map aO)))]))))):=λl=>⟨_,getSet (k l) (Ne.symm T),eg (g l),λe I=>by
    rcases fk.1 I with I|I
    .exact h.hk e I
    .rw[jH]at I;rw[I,ha]⟩
   repeat' first|refine ab (λ_=> ?_) λ_=> ?_|refine aG (ga @k (ga @g (ga @c (ga @uW (ga @pQ (ga @dG (ga @bH (ga @aN @wj)))))))) (ga @J @H) ?_|exact aF (ga @k (ga @g (ga @c (ga @uW (ga @pQ (ga @dG (ga @bH (ga @aN @wj)))))))) (ga @J @H)|fail
   all_goals exact⟨R _,fZ.set _ _,getSet (by simp) a8⟩
  .repeat' first|refine ab (λ_=> ?_) λ_=> ?_|refine aG @wj trivial ?_|exact aF @wj trivial|fail
   first|exact⟨⟨K,h.app _⟩,fZ.app _⟩|exact⟨⟨K,h.app _⟩,fZ.app _,by simp⟩
 obtain⟨R,F,u⟩:=G;clear h c D J H k g;have t: ∀o,(∃w,RK s p m w (f.set st.length o))/\fZ m st (f.set st.length o):=λo=>by
  obtain⟨w,k1,k2,k3⟩:=R;exact⟨⟨w,getSet k1 a8,getSet k2 a8,k3⟩,λi o' hi h=>getSet (F i o' hi h) (by have:=(aV.1 h).1;omega)⟩
 have b:=λo:aa=>eg (o':=o) u;refine bG ?_;by_cases S:x.n<0
 .have C:decide (x.n<0)=true:=decide_eq_true S;rw[if_pos (.inl S)]
  repeat' first|refine ab (λ_=> ?_) λ_=> ?_|refine aG (ga @C (ga @u (ga @b (ga @cG (ga @bB @wj))))) trivial ?_|exact aF (ga @C (ga @u (ga @b (ga @cG (ga @bB @wj))))) trivial|fail
  all_goals exact t _
 .have C:decide (x.n<0)=false:=decide_eq_false S;by_cases E:(a.length:Int)<=x.n
  .have M:decide (x.n>=(a.length:Int))=true:=decide_eq_true E;rw[if_pos (.inr E)]
   repeat' first|refine ab (λ_=> ?_) λ_=> ?_|refine aG (ga @C (ga @M (ga @u (ga @b (ga @cG (ga @bB @wj)))))) trivial ?_|exact aF (ga @C (ga @M (ga @u (ga @b (ga @cG (ga @bB @wj)))))) trivial|fail
   all_goals exact t _
  .have M:decide (x.n>=(a.length:Int))=false:=decide_eq_false E;rw[if_neg a8];obtain⟨n,a1⟩:=Int.eq_ofNat_of_zero_le (show 0<=x.n by omega);obtain⟨y,O⟩: ∃y,a[x.n.toNat]?=some y:=⟨_,bQ a8⟩
   have h0:0<=x.n:=by omega
   rw[O]
   repeat' first|refine ab (λ_=> ?_) λ_=> ?_|refine aG (ga @C (ga @M (ga @h0 (ga @O (ga @u (ga @b (ga @cG (ga @bB @wj)))))))) trivial ?_|exact aF (ga @C (ga @M (ga @h0 (ga @O (ga @u (ga @b (ga @cG (ga @bB @wj)))))))) trivial|fail
   all_goals exact t _
abbrev Tg:=ak×(ay->Bool)
def kD(l:List Tg)(t:Tg):List Tg:=if isZero t.1.p=true then l else l++[t]
def mW(c:az):List Tg:=if c.kind≠1/\c.kind≠7 then kD [] (c.file,gN c.kind)else[]
def py(c:az)(r:List Tg):List Tg:=if c.kind=2 then kD r (c.parent,np)else r
def zI(c:az)(id:Dg)(x:ak):Tg:=(x,λa=>decide (x=c.file)||oY (nv c id) a)
def tK(c:az)(id:Dg)(r:List Tg):List Tg:=if c.kind=5\/c.kind=6 then kD (kD r (zI c id c.after)) (zI c id c.before)else r
def CG(c:az)(id:Dg)(x:ak):Tg:=(x,λa=>decide (mU c.kind=0)||(decide (a.kind=mU c.kind)&&decide (a.file=nv c id)))
def nH(c:az)(id:Dg):List ak->List Tg->List Tg
 |[],r=>r
 |x::l,r=>nH c id l (kD r (CG c id x))
def tE(c:az)(id:Dg):List Tg:=nH c id c.over (tK c id (py c (mW c)))
def vD(r:Rw)(t:Tg):Prop:=r.1=t.1/\(∀n,gu n r.2.2=r.2.2)/\ ∀(a:ay) (s:List aa) (K:AV->List aa->Nat->Prop),K (.d (dB (t.2 a))) s 0->af Tryz.prog (.clo r.2.1 [] r.2.2) [.d (.agg (aO a))] s K
inductive iZ:List Rw->List Tg->Prop
 |nil:iZ [] []
 |cons {r t l m}:vD r t->iZ l m->iZ (r::l) (t::m)
theorem iZ.snoc{l:List Rw}{m:List Tg}(h:iZ l m){r:Rw}{t:Tg}(b:vD r t):iZ (l++[r]) (m++[t]):=by
 induction h with
 |nil=>exact .cons b .nil
 |cons a _ c=>exact .cons a c
theorem iZ.len{l:List Rw}{m:List Tg}(h:iZ l m):l.length=m.length:=by
 induction h with
 |nil=>rfl
 |cons b _ a=>simp[a]
theorem iZ.get{l:List Rw}{m:List Tg}(h:iZ l m){k:Nat}{t:Tg}(a:m[k]?=some t): ∃r,l[k]?=some r/\vD r t:=by
 induction h generalizing k with
 |nil=>simp at a
 |cons b _ c=>
  cases k with
  |zero=>simp at a;subst a;exact⟨_,rfl,b⟩
  |succ k=>exact c (by simpa using a)
theorem iZ.add{l:List Rw}{m:List Tg}(h:iZ l m){r:Rw}{t:Tg}(a:vD r t):iZ (kC l r) (kD m t):=by
 unfold kC kD;rw[a.1];split
 .exact h
 .exact h.snoc a
theorem Md(c:az)(id:Dg):iZ (po c id) (tE c id):=by
 have d:iZ (mO c) (mW c):=by
  unfold mO mW;split
  .exact iZ.nil.add ⟨rfl,λ_=>rfl,λa s K b=>af.data (Va a c) rfl b⟩
  .exact .nil
 have e:iZ (qx c (mO c)) (py c (mW c)):=by
  unfold qx py;split
  .exact d.add ⟨rfl,λ_=>rfl,λa s K b=>af.data (Vb a) rfl b⟩
  .exact d
 have f: ∀x,vD (qy c id x) (zI c id x):=λx=>⟨rfl,λ_=>rfl,λa s K b=>af.data (Vc a x c (nv c id)) rfl b⟩
 have g:iZ (nE c id (qx c (mO c))) (tK c id (py c (mW c))):=by
  unfold nE tK;split
  .exact(e.add (f _)).add (f _)
  .exact e
 have j: ∀x,vD (Cu c id x) (CG c id x):=λx=>⟨rfl,λ_=>rfl,λa s K b=>af.data (Vd a (mU c.kind) (nv c id)) rfl b⟩
 have i: ∀(l:List ak) (r:List Rw) (t:List Tg),iZ r t->iZ (rM c id l r) (nH c id l t):=by
  intro l
  induction l with
  |nil=>intro r t h;exact h
  |cons x l k=>intro r t h;exact k _ _ (h.add (j x))
 exact i _ _ _ g
def oz(l:List Rw):List AV:=l.flatMap λp=>di p.1 (.clo p.2.1 [] p.2.2)
theorem Mt: ∀{l:List Rw} {k:Nat} {x:Rw},l[k]?=some x->((oz l).drop (k*34)).take 34=di x.1 (.clo x.2.1 [] x.2.2)
 |[],k,x,h=>by simp at h
 |p::l,0,x,h=>by
  simp at h;subst h;show((di p.1 (.clo p.2.1 [] p.2.2)++oz l).drop (0*34)).take 34=_;rw[oL,ky,ij (by rw[fv];omega),dL (by rw[fv];omega)]
 |p::l,k+1,x,h=>by
  show((di p.1 (.clo p.2.1 [] p.2.2)++oz l).drop ((k+1)*34)).take 34=_;rw[iL,iM (by rw[fv];omega),bt,fv,show(k+1)*34-34=k*34 by omega];exact Mt (by simpa using h)
theorem MN(n:Nat): ∀{l:List Rw} {m:List Tg},iZ l m->gu n (oz l)=oz l
 |_,_,.nil=>rfl
 |_,_,.cons (r:=r) (l:=l) h1 h2=>by
  have a:=MN n h2;show gu n (di r.1 (.clo r.2.1 [] r.2.2)++oz l)=di r.1 (.clo r.2.1 [] r.2.2)++oz l;rw[mR,fF,<-mR,<-mR,a];congr 1;unfold di;rw[mR,fF,<-mR,G9];show _++[AV.clo r.2.1 (gu n []) (gu n r.2.2)]=_;rw[h1.2.1 n];rfl
theorem Vg(id:Dg)(c:az)(g:c.over.length<=100000)(s:List aa):bs Tryz.prog 187 [.d (.agg (au id)),.d (.agg (aR c))] s λd b=> ∃J,b=s++J/\((d= .nil 34/\po c id=[])\/ ∃r,d= .vec r (po c id).length 34/\b[r]?=some (.vec 226 34 (oz (po c id)))):=by
 obtain⟨d,b,a,e⟩:=V9 id c g;refine⟨_,_,a.frame (xs:=[.d (.agg (au id)),.d (.agg (aR c))]) rfl s,_,rfl,?_⟩;rcases e with⟨rfl,f⟩|⟨r,rfl,hr⟩
 .exact .inl ⟨rfl,f⟩
 .refine .inr ⟨s.length+r,rfl,?_⟩;rw[iY a8,nQ,dj,hr];show some (aa.vec 226 34 (gu s.length (oz (po c id))))=_;rw[MN _ (Md c id)]
theorem Vh(id:Dg)(c:az)(b:c.over.length<=100000)(s:List aa):bs Tryz.prog 187 [.d (.agg (au id)),.d (.agg (aR c))] s λd a=>(∀(i:Nat) (o:aa),s[i]?=some o->a[i]?=some o)/\((d= .nil 34/\po c id=[])\/ ∃r,d= .vec r (po c id).length 34/\a[r]?=some (.vec 226 34 (oz (po c id)))):=by
 refine(Vg id c b s).mono ?_;rintro d _ ⟨J,rfl,h⟩;exact⟨λi o hi=>bz hi J,h⟩
theorem RK.keep{s:ar}{p m:Nat}{K:MD}{a b:List aa}(h:RK s p m K a)(hk: ∀(i:Nat) (o:aa),a[i]?=some o->b[i]?=some o):RK s p m K b:=⟨hk _ _ h.hp,hk _ _ h.hm,h.hk⟩
theorem wV(x:ak)(f:FuncId)(cs:List AV):aggA (di x (.clo f [] cs))= .agg (di x (.clo f [] cs)):=by
 unfold aggA;rw[show lE (di x (.clo f [] cs))=none from oy ..]
def fO(s:ar):List Tg->Int
 |[]=>0
 |t::l=>match oT s t.1 with
  |none=>7
  |some a=>if t.2 a=true then fO s l else 8
def nK(s:ar)(id:Dg):List az->Int
 |[]=>0
 |c::l=>if fO s (tE c id)≠0 then fO s (tE c id)else nK s id l
theorem fZ.trans{m:Nat}{a b c:List aa}(h:fZ m a b)(k:fZ m b c):fZ m a c:=λi o hi d=>k i o hi (h i o hi d)
theorem Ys(l:List Rw):(oz l).length=l.length*34:=Cr l
set_option maxHeartbeats 4000000 in
theorem Vf{s:ar}(hl:s.length<=1000000)(hs: ∀x∈s,bS x.pat/\db x.pat){p m:Nat}{K:MD}{st:List aa}(h:RK s p m K st)(x:bD)(hx: ∀c∈x.pat.changes,c.over.length<=100000)(hc:x.pat.changes.length<=1000000):
  bs Tryz.prog 117 [.ptr p 0,.d (.agg (aX x))] st λd b0=>d= .d (dI (nK s x.id x.pat.changes))/\fZ m st b0:=by
 refine cz Tryz.f117 ?_ [100003] [[15,0,3,13,14],[24,0,22,15,3,13,14,23]]
 repeat' first|refine ab (λ_=> ?_) λ_=> ?_|refine aG @wj trivial ?_|exact aF @wj trivial|fail
 obtain⟨R,S⟩: ∃R,R=nK s x.id x.pat.changes:=⟨_,rfl⟩
 rw[<-S];refine aZ.overI x.pat.changes (λk (b:List aa)=>[(15,iN k)]) (λ_ b=>b) (λr _=>nK s x.id r) R (λk b=>(∃K',RK s p m K' b)/\fZ m st b) st a8 aA aA rfl S ⟨⟨K,h⟩,λ_ _ _ h=>h⟩ (λk b c hg hk hd hw J hJ=> ?_) (λb hd J hJ=> ?_)
 .obtain⟨⟨K1,X⟩,a1⟩:=hJ;have cr:=λs=>Vh x.id c (hx c (bR hg)) s;have Z:=Md c x.id;have a3:(tE c x.id).length<=1000000:=by
   have hD: ∀(l:List ak) (r:List Tg),(nH c x.id l r).length<=r.length+l.length:=by
    intro l
    induction l with
    |nil=>intro r;exact bg _
    |cons y l ih=>
     intro r;have h1:=ih (kD r (CG c x.id y));have h2:(kD r (CG c x.id y)).length<=r.length+1:=by unfold kD;split<;>simp
     rw[nH,aY];omega
   have h1:=hD c.over (tK c x.id (py c (mW c)));have h2:(mW c).length<=1:=by unfold mW kD;(repeat' split)<;>simp
   have h3:(py c (mW c)).length<=2:=by unfold py kD;(repeat' split)<;>(try simp only[aQ,oJ,bc])<;>omega
   have h4:(tK c x.id (py c (mW c))).length<=4:=by unfold tK kD;(repeat' split)<;>(try simp only[aQ,oJ,bc])<;>omega
   have:=hx c (bR hg);unfold tE;omega
  rw[nK]at J;clear S h hx hc;generalize po c x.id=rows at cr Z;generalize tE c x.id=T at J Z a3;have a0: ∀o:aa,fZ m st (b++[o]):=λo=>a1.trans (fZ.app _)
  repeat' first|refine ab (λ_=> ?_) λ_=> ?_|(refine af.fn ((cr _).mono ?_);rintro d s1 ⟨U,a4⟩)|refine aG (ga @hd (ga @hg (ga @gF (ga @dV (ga @fg @wj))))) trivial ?_|exact aF (ga @hd (ga @hg (ga @gF (ga @dV (ga @fg @wj))))) trivial|fail
  have N:=(X.app [.cells ((aR c).map .d)]).keep U;have D:fZ m st s1:=(a0 (.cells ((aR c).map .d))).trans λi o _ h=>U i o h;clear X a0 a1 U cr;rcases a4 with⟨rfl,rfl⟩|⟨r,rfl,hr⟩
  .cases Z;have Q:R=nK s x.id (x.pat.changes.drop (k+1)):=by simpa[fO]using J
   repeat' first|refine ab (λ_=> ?_) λ_=> ?_|refine aG @wj trivial ?_|exact aF @wj trivial|fail
   refine aZ.overI ([]:List Nat) (λj (F:List aa)=>[(24,iN j)]) (λ_ F=>s1) (λ_ _=>()) () (λ_ _=>True) ([]:List aa) (by simp) aA aA rfl rfl trivial (λk b x hg=>by cases hg) (λF u _ _=> ?_)
   repeat' first|refine ab (λ_=> ?_) λ_=> ?_|refine aG (ga @hw @wj) trivial ?_|exact aF (ga @hw @wj) trivial|fail
   exact⟨Q,⟨K1,N⟩,D⟩
  .have V:rows.length=T.length:=Z.len;have a6:r≠m:=λe=>by subst e;rw[N.hm]at hr;cases hr
   repeat' first|refine ab (λ_=> ?_) λ_=> ?_|refine aG (ga @V @wj) trivial ?_|exact aF (ga @V @wj) trivial|fail
   refine aZ.overI T (λj (F:List aa)=>[(24,iN j)]) (λ_ F=>F) (λr _=>fO s r) (fO s T) (λj F=>(∃K',RK s p m K' F)/\fZ m s1 F) s1 a8 aA aA rfl rfl ⟨⟨K1,N⟩,λ_ _ _ h=>h⟩ (λj F t a5 W u A n I=> ?_) (λF u n I=> ?_)
   .obtain⟨⟨K2,Y⟩,L⟩:=I;obtain⟨rw_,a7,a9,_,v⟩:=Z.get a5;have q:=Mt a7;have w:=Ys rows;rw[V]at w;rw[a9]at q;have C:=L r _ a6 hr;have E:j*34+34<=T.length*34:=by omega
    generalize oz rows=cells at q w C;rw[fO]at n;obtain⟨y,P⟩:=t;dsimp only at q n v;obtain⟨z,f,cs⟩:=rw_;dsimp only at q v;have ca:=V4 hl hs (Y.app [.cells (di y (.clo f [] cs))]) y;have b1:=(aV.1 Y.hm).1;cases hq:oT s y with
    |none=>
     rw[hq]at n ca;have H:R=7:=by rw[J,n];simp
     repeat' first|refine ab (λ_=> ?_) λ_=> ?_|(refine af.fn (ca.mono ?_);rintro _ s3 ⟨rfl,O,B⟩)|refine aG (ga @u (ga @C (ga @W (ga @E (ga @w (ga @q (ga @oy (ga @qu (ga @jm (ga @fv (ga @wV (ga @jk (ga @jl (ga @cG (ga @bB (ga @fY @wj)))))))))))))))) trivial ?_|exact aF (ga @u (ga @C (ga @W (ga @E (ga @w (ga @q (ga @oy (ga @qu (ga @jm (ga @fv (ga @wV (ga @jk (ga @jl (ga @cG (ga @bB (ga @fY @wj)))))))))))))))) trivial|fail
     all_goals exact⟨H.symm,D.trans (L.trans ((fZ.app _).trans (B.trans (fZ.app _))))⟩
    |some a=>
     rw[hq]at n ca;dsimp only at n;cases hP:P a with
     |true=>
      rw[if_pos hP]at n;have g:=v a;rw[hP]at g
      repeat' first|refine ab (λ_=> ?_) λ_=> ?_|(refine af.fn (ca.mono ?_);rintro _ s3 ⟨rfl,O,B⟩)|refine aG (ga @u (ga @A (ga @C (ga @W (ga @E (ga @w (ga @q (ga @oy (ga @qu (ga @jm (ga @fv (ga @wV (ga @jk (ga @jl (ga @cG (ga @bB (ga @fY @wj))))))))))))))))) trivial ?_|exact aF (ga @u (ga @A (ga @C (ga @W (ga @E (ga @w (ga @q (ga @oy (ga @qu (ga @jm (ga @fv (ga @wV (ga @jk (ga @jl (ga @cG (ga @bB (ga @fY @wj))))))))))))))))) trivial|fail
      have M:s3[F.length]?=some (.cells (di y (.clo f [] cs))):=B _ _ a8 (by simp);have G:=λl=>bz M l
      repeat' first|refine ab (λ_=> ?_) λ_=> ?_|(refine g _ _ ?_)|refine aG (ga @A (ga @M (ga @G (ga @jk (ga @fv (ga @jl (ga @bB @wj))))))) trivial ?_|exact aF (ga @A (ga @M (ga @G (ga @jk (ga @fv (ga @jl (ga @bB @wj))))))) trivial|fail
      obtain⟨K3,a2⟩:=O;exact⟨n,⟨K3,a2.app _⟩,L.trans ((fZ.app _).trans (B.trans (fZ.app _)))⟩
     |false=>
      rw[if_neg (by simp[hP])]at n;have H:R=8:=by rw[J,n];simp
      have g:=v a;rw[hP]at g
      repeat' first|refine ab (λ_=> ?_) λ_=> ?_|(refine af.fn (ca.mono ?_);rintro _ s3 ⟨rfl,O,B⟩)|refine aG (ga @u (ga @A (ga @C (ga @W (ga @E (ga @w (ga @q (ga @oy (ga @qu (ga @jm (ga @fv (ga @wV (ga @jk (ga @jl (ga @cG (ga @bB (ga @fY @wj))))))))))))))))) trivial ?_|exact aF (ga @u (ga @A (ga @C (ga @W (ga @E (ga @w (ga @q (ga @oy (ga @qu (ga @jm (ga @fv (ga @wV (ga @jk (ga @jl (ga @cG (ga @bB (ga @fY @wj))))))))))))))))) trivial|fail
      have M:s3[F.length]?=some (.cells (di y (.clo f [] cs))):=B _ _ a8 (by simp);have G:=λl=>bz M l
      repeat' first|refine ab (λ_=> ?_) λ_=> ?_|(refine g _ _ ?_)|refine aG (ga @A (ga @M (ga @G (ga @jk (ga @fv (ga @jl (ga @bB @wj))))))) trivial ?_|exact aF (ga @A (ga @M (ga @G (ga @jk (ga @fv (ga @jl (ga @bB @wj))))))) trivial|fail
      exact⟨H.symm,D.trans (L.trans ((fZ.app _).trans (B.trans (fZ.app _))))⟩
   .rw[fO]at n;have Q:R=nK s x.id (x.pat.changes.drop (k+1)):=by rw[J,n];simp
    repeat' first|refine ab (λ_=> ?_) λ_=> ?_|refine aG (ga @u (ga @hw @wj)) trivial ?_|exact aF (ga @u (ga @hw @wj)) trivial|fail
    exact⟨Q,I.1,D.trans I.2⟩
 .rw[nK]at J
  repeat' first|refine ab (λ_=> ?_) λ_=> ?_|refine aG (ga @hd @wj) trivial ?_|exact aF (ga @hd @wj) trivial|fail
  all_goals exact⟨by rw[J],hJ.2⟩
theorem LI(p:aU)(m:Meta):aI Tryz.prog 96 [.agg (br p),.agg (eS m)] (.agg (br (fI p m))):=by
 refine aL Tryz.f96 ?_ [100003]
 repeat' first|refine ab (λ_=> ?_) λ_=> ?_|refine aH ?_|simp only[dG,bH,aM,wy,qg,aE,reduceCtorEq,reduceIte,Nat.reduceAdd,Nat.reduceMul,Nat.reduceEqDiff,Nat.reduceLT,Nat.reduceLeDiff,Nat.reduceSub,ax,aD,aB,aw]
 all_goals rfl
def Ap(s:ar)(d:Dg)(m:Meta):ar×Dg×Int:=
 if(eT s d).2≠0 then([],.zero,(eT s d).2)
 else if(eZ aq (eT s d).1 (fI ((bh s d).getD .zero) m)).2.2≠0 then([],.zero,(eZ aq (eT s d).1 (fI ((bh s d).getD .zero) m)).2.2)
 else eZ aq (eT s d).1 (fI ((bh s d).getD .zero) m)
set_option maxHeartbeats 1000000 in
theorem W2(s:ar)(d:Dg)(m:Meta)(e:gh s)(hp:bS (fI ((bh s d).getD .zero) m))(k:oD (fI ((bh s d).getD .zero) m).changes):aI Tryz.prog 37 [.sl 37 (s.map aX),.agg (au d),.agg (eS m)] (nA (Ap s d m)):=by
 have g:=uJ s d;have h:=W3 s d e;have l:=LI ((bh s d).getD .zero) m;have a:gh (eT s d).1:=by
  unfold eT;split
  .exact⟨by simp,by simp⟩
  .split
   .exact⟨by simp,by simp⟩
   .exact⟨ez (xE _ _) e.len,λx q=>e.pat x ((na.1 q).1)⟩
 have b:=C7 (eT s d).1 _ a hp k;unfold Ap;obtain⟨Q,j⟩: ∃Q,Q=(bh s d).getD .zero:=⟨_,rfl⟩
 obtain⟨G,n⟩: ∃G,G=(bh s d).isSome:=⟨_,rfl⟩
 obtain⟨A,i⟩: ∃A,A=eZ aq (eT s d).1 (fI Q m):=⟨_,rfl⟩
 rw[<-j]at g l b⊢;rw[<-i]at b⊢;unfold nA at b;by_cases c:(eT s d).2=0
 .rw[c]at h;rw[if_neg (by simpa using c)];by_cases f:A.2.2=0
  .rw[if_neg (by simpa using f)];rw[f]at b;clear j n i e hp k a c;refine aL Tryz.f37 ?_ [100004,100005,100029,300030,100043,300044]
   repeat' first|refine ab (λ_=> ?_) λ_=> ?_|refine aH ?_|refine af.data (g) rfl ?_|refine af.data (h) rfl ?_|refine af.data (l) rfl ?_|refine af.data (b) rfl ?_|simp only[fy,b9,dG,bH,aM,bne_self_eq_false,wy,qg,aE,reduceCtorEq,reduceIte,Nat.reduceAdd,Nat.reduceMul,Nat.reduceEqDiff,Nat.reduceLT,Nat.reduceLeDiff,Nat.reduceSub,ax,aD,aB,aw]
   all_goals rw[nA,f]
  .have p:(A.2.2 !=0)=true:=by simpa using f
   rw[if_pos f];clear j n i e hp k a c;refine aL Tryz.f37 ?_ [100004,100005,100029,300030,100043,300044]
   repeat' first|refine ab (λ_=> ?_) λ_=> ?_|refine aH ?_|refine af.data (g) rfl ?_|refine af.data (h) rfl ?_|refine af.data (l) rfl ?_|refine af.data (b) rfl ?_|simp only[p,fy,b9,dG,bH,aM,bne_self_eq_false,wy,qg,aE,reduceCtorEq,reduceIte,Nat.reduceAdd,Nat.reduceMul,Nat.reduceEqDiff,Nat.reduceLT,Nat.reduceLeDiff,Nat.reduceSub,ax,aD,aB,aw]
   all_goals rfl
 .have o:((eT s d).2 !=0)=true:=by simpa using c
  rw[if_pos c];clear j n i e hp k a;refine aL Tryz.f37 ?_ [100004,100005,100029,300030,100043,300044]
  repeat' first|refine ab (λ_=> ?_) λ_=> ?_|refine aH ?_|refine af.data (g) rfl ?_|refine af.data (h) rfl ?_|simp only[o,fy,b9,dG,bH,aM,wy,qg,aE,reduceCtorEq,reduceIte,Nat.reduceAdd,Nat.reduceMul,Nat.reduceEqDiff,Nat.reduceLT,Nat.reduceLeDiff,Nat.reduceSub,ax,aD,aB,aw]
  all_goals rfl
end Go.Proofs.Q
