/- Lemmas. -/
import Derived.Test.YtellfinifjmloaaGreatDoorPBK
set_option linter.unusedVariables false
set_option linter.unusedSimpArgs false
namespace Go.Proofs.Q
open Go Go.Bb Go.RowKit Go.Proofs.Lg
open Go.Ab (D RD)
def pW(s:aD)(d:Dg):List au:=(dR ((ch s d).getD .zero)).1
def nQ(s:aD)(x:af):Option au:=if x.n<0∨((pW s x.p).length:Int)≤x.n then none else(pW s x.p)[x.n.toNat]?
structure RK(s:aD)(p m:Nat)(K:MD)(st:List aa):Prop where
 hp:st[p]?=some (.cells [.d (.sl 37 (s.map b5)),.mp m])
 hm:st[m]?=some (.map true (cM K))
 hk: ∀e∈K,e.2= .d (.sl 172 ((pW s e.1).map aI))
theorem RK.app{s:aD}{p m:Nat}{K:MD}{st:List aa}(h:RK s p m K st)(l:List aa):RK s p m K (st++l):=⟨bG h.hp l,bG h.hm l,h.hk⟩
def fk(m:Nat)(st a:List aa):Prop:= ∀(i:Nat) (o:aa),i≠m→st[i]?=some o→a[i]?=some o
theorem Vf(s:aD)(st:List aa):b7 Tryz.prog 109 [.d (.sl 37 (s.map b5))] st fun d b=>d= .ptr (st.length+1) 0∧RK s (st.length+1) st.length [] b∧ ∀(i:Nat) (o:aa),st[i]?=some o→b[i]?=some o:=by
 refine b7.of (F:=BM) Xs (by simp[BM]) ?_;simp only[BM];have a:=qm Tryz.prog (.d (.sc (.pointer none)));have c:b8 [AV.nil 37,AV.d (.sc (.map none))] 0 1 [.d (.sl 37 (s.map b5))]=some [.d (.sl 37 (s.map b5)),.d (.sc (.map none))]:=rfl
 have e:b8 [AV.d (.sl 37 (s.map b5)),AV.d (.sc (.map none))] 1 1 [.mp st.length]=some [.d (.sl 37 (s.map b5)),.mp st.length]:=rfl;have f:aggA [AV.d (.sl 37 (s.map b5)),.mp st.length]= .agg [.d (.sl 37 (s.map b5)),.mp st.length]:=rfl
 repeat' first|refine ae (fun _=> ?_) fun _=> ?_|refine ay (ga @a (ga @c (ga @e (ga @f @wj)))) ab ?_|exact ax (ga @a (ga @c (ga @e (ga @f @wj)))) ab|fail
 all_goals first|exact⟨rfl,⟨by simp,by simp[cM],by simp⟩,fun i o h=>bG h _⟩|exact⟨⟨by simp,by simp[cM],by simp⟩,fun i o h=>bG h _⟩
theorem du.zero:du .zero:=⟨by simp[aX.zero],fun c hc=>by simp[aX.zero]at hc⟩
theorem K5{d:Dg}: ∀{m:MD} {i j:Nat} {v:AV},gq d m i=some (j,v)→(d,v)∈m
 |[],_,_,_,h=>by cases h
 |e::m,i,j,v,h=>by
  rw[gq]at h;by_cases a:d=e.1
  ·rw[if_pos a]at h;cases h;rw[a];simp
  ·rw[if_neg a]at h;exact eQ _ (K5 h)
theorem QR(s:aD)(d:Dg):(pW s d).length≤1604400:=by
 unfold pW dR;split
 ·exact fy _
 ·rw[aQ];exact Fo _
theorem fk.app{m:Nat}{st:List aa}(l:List aa):fk m st (st++l):=fun i o _ h=>bG h l
theorem fk.set{m:Nat}{st:List aa}(l:List aa)(o:aa):fk m st ((st++l).set m o):=fun i o' hi h=>getSet (bG h l) (Ne.symm hi)
set_option maxHeartbeats 4000000 in
theorem Zw{s:aD}(Z:s.length≤1000000)(hs: ∀x∈s,cz x.pat∧du x.pat){p m:Nat}{K:MD}{st:List aa}(h:RK s p m K st)(x:af):
  b7 Tryz.prog 167 [.ptr p 0,.d (.agg (aj x))] st fun d R=>d= .tup [.d (.agg (aI ((nQ s x).getD .zero))),.d (dB (nQ s x).isSome)]∧(∃w,RK s p m w R)∧fk m st R:=by
 have M:=Gs s Z x.p;have u:cz ((ch s x.p).getD .zero)∧du ((ch s x.p).getD .zero):=by
  cases hg:ch s x.p with
  |none=>exact⟨cz.zero,du.zero⟩
  |some q=>
   obtain⟨y,Q,rfl⟩: ∃y∈s,y.pat=q:=by
    clear M h hs
    induction s with
    |nil=>cases hg
    |cons y s ih=>
     rw[ch]at hg;split at hg
     ·exact⟨y,by simp,aJ hg⟩
     ·obtain⟨z,h1,h2⟩:=ih (by simp at Z;omega) hg;exact⟨z,by simp[h1],h2⟩
   exact hs y Q
 have I:=DJ _ u.1 u.2;have X:(dR ((ch s x.p).getD .zero)).1=pW s x.p:=rfl;rw[X]at I;have O:(pW s x.p).length≤1604400:=QR _ _;have k:=fun l=>bG h.hp l;have g:=fun l=>bG h.hm l;have U:p≠m:=fun e=>by have:=h.hp;rw[e,h.hm]at this;cases this
 have a2:=(b9.1 h.hp).1;have a0:=(b9.1 h.hm).1;have c:=sB x.p K 0;obtain⟨a,ha⟩: ∃a,a=pW s x.p:=⟨_,rfl⟩
 have hQ:nQ s x=if x.n<0∨(a.length:Int)≤x.n then none else a[x.n.toNat]? :=by rw[ha];rfl
 rw[hQ];obtain⟨P,Y⟩: ∃P,P=(ch s x.p).getD .zero:=⟨_,rfl⟩
 rw[←Y]at M I;rw[←ha]at I O;clear X Y u;refine b7.ofA (F:=BC) Xi (by simp[BC]) ?_;simp only[BC];refine AC.seq (bD ?_)
 repeat' first|refine ae (fun _=> ?_) fun _=> ?_|refine ay @wj ab ?_|exact ax @wj ab|fail
 obtain⟨L,B,D⟩: ∃(L:AV) (B:Bool),(gq x.p K 0=none∧B=false∧L= .nil 172)∨ ∃j,gq x.p K 0=some (j,.d (.sl 172 (a.map aI)))∧B=true∧L= .d (.sl 172 (a.map aI)):=by
  cases A:gq x.p K 0 with
  |none=>exact⟨_,_,.inl ⟨rfl,rfl,rfl⟩⟩
  |some r=>
   obtain⟨j,v⟩:=r;have V:=h.hk _ (K5 A);dsimp only at V;rw[←ha]at V;subst V;exact⟨_,_,.inr ⟨j,rfl,rfl,rfl⟩⟩
 refine AC.cutJ [0,3,4,6,7] [(0,.ptr p 0),(3,.d (.ref (aj x))),(4,.ptr st.length 0),(6,L),(7,.d (dB B))] (fun f=>f=st++[.cells dZ]) ?_ fun f H=> ?_
 ·rcases D with⟨A,rfl,rfl⟩|⟨j,A,rfl,rfl⟩
  ·rw[A]at c
   repeat' first|refine ae (fun _=> ?_) fun _=> ?_|refine ay (ga @k (ga @g (ga @c (ga @az @wj)))) ab ?_|exact ax (ga @k (ga @g (ga @c (ga @az @wj)))) ab|fail
  ·rw[A]at c
   repeat' first|refine ae (fun _=> ?_) fun _=> ?_|refine ay (ga @k (ga @g (ga @c (ga @az @wj)))) ab ?_|exact ax (ga @k (ga @g (ga @c (ga @az @wj)))) ab|fail
 subst H;refine AC.cutJ [3,4,6] [(3,.d (.ref (aj x))),(4,.ptr st.length 0),(6,.d (.sl 172 (a.map aI)))] (fun f=>(∃w,RK s p m w f)∧fk m st f∧f[st.length]?=some (.cells dZ)) ?_ fun f H=> ?_
 ·rcases D with⟨A,rfl,rfl⟩|⟨j,A,rfl,rfl⟩
  ·rw[A]at c;have S: ∀l,(∃w,RK s p m w ((st++l).set m (.map true (cM (K++[(x.p,.d (.sl 172 (a.map aI)))]))))):=fun l=>⟨_,getSet (k l) (Ne.symm U),fA (g l),fun e J=>by
    rcases eJ.1 J with J|J
    ·exact h.hk e J
    ·rw[iB]at J;rw[J,ha]⟩
   repeat' first|refine ae (fun _=> ?_) fun _=> ?_|refine ay (ga @k (ga @g (ga @c (ga @yo (ga @zr (ga @fJ (ga @br (ga @az @wj)))))))) (ga @M @I) ?_|exact ax (ga @k (ga @g (ga @c (ga @yo (ga @zr (ga @fJ (ga @br (ga @az @wj)))))))) (ga @M @I)|fail
   all_goals exact⟨S _,fk.set _ _,getSet (by simp) a8⟩
  ·repeat' first|refine ae (fun _=> ?_) fun _=> ?_|refine ay @wj ab ?_|exact ax @wj ab|fail
   first|exact⟨⟨K,h.app _⟩,fk.app _⟩|exact⟨⟨K,h.app _⟩,fk.app _,by simp⟩
 obtain⟨S,G,u⟩:=H;clear h c D M I k g;have t: ∀o,(∃w,RK s p m w (f.set st.length o))∧fk m st (f.set st.length o):=fun o=>by
  obtain⟨w,k1,k2,k3⟩:=S;exact⟨⟨w,getSet k1 a8,getSet k2 a8,k3⟩,fun i o' hi h=>getSet (G i o' hi h) (by have:=(b9.1 h).1;omega)⟩
 have b:=fun o:aa=>fA (o':=o) u;refine bD ?_;by_cases T:x.n<0
 ·have C:decide (x.n<0)=true:=decide_eq_true T;rw[if_pos (.inl T)]
  repeat' first|refine ae (fun _=> ?_) fun _=> ?_|refine ay (ga @C (ga @u (ga @b (ga @bz (ga @bb @wj))))) ab ?_|exact ax (ga @C (ga @u (ga @b (ga @bz (ga @bb @wj))))) ab|fail
  all_goals exact t _
 ·have C:decide (x.n<0)=false:=decide_eq_false T;by_cases E:(a.length:Int)≤x.n
  ·have N:decide (x.n≥(a.length:Int))=true:=decide_eq_true E;rw[if_pos (.inr E)]
   repeat' first|refine ae (fun _=> ?_) fun _=> ?_|refine ay (ga @C (ga @N (ga @u (ga @b (ga @bz (ga @bb @wj)))))) ab ?_|exact ax (ga @C (ga @N (ga @u (ga @b (ga @bz (ga @bb @wj)))))) ab|fail
   all_goals exact t _
  ·have N:decide (x.n≥(a.length:Int))=false:=decide_eq_false E;rw[if_neg a8];obtain⟨n,a1⟩:=Int.eq_ofNat_of_zero_le (show 0≤x.n by omega);obtain⟨y,Q⟩: ∃y,a[x.n.toNat]?=some y:=⟨_,bN a8⟩
   have W:0≤x.n:=by omega
   rw[Q]
   repeat' first|refine ae (fun _=> ?_) fun _=> ?_|refine ay (ga @C (ga @N (ga @W (ga @Q (ga @u (ga @b (ga @bz (ga @bb @wj)))))))) ab ?_|exact ax (ga @C (ga @N (ga @W (ga @Q (ga @u (ga @b (ga @bz (ga @bb @wj)))))))) ab|fail
   all_goals exact t _
abbrev Tg:=af×(au→Bool)
def js(l:List Tg)(t:Tg):List Tg:=if isZero t.1.p=true then l else l++[t]
def lI(c:aC):List Tg:=if c.kind≠1∧c.kind≠7 then js [] (c.file,fE c.kind)else[]
def oF(c:aC)(r:List Tg):List Tg:=if c.kind=2 then js r (c.parent,lX)else r
def yx(c:aC)(id:Dg)(x:af):Tg:=(x,fun a=>decide (x=c.file)||nT (mc c id) a)
def rT(c:aC)(id:Dg)(r:List Tg):List Tg:=if c.kind=5∨c.kind=6 then js (js r (yx c id c.after)) (yx c id c.before)else r
def Em(c:aC)(id:Dg)(x:af):Tg:=(x,fun a=>decide (lG c.kind=0)||(decide (a.kind=lG c.kind)&&decide (a.file=mc c id)))
def mB(c:aC)(id:Dg):List af→List Tg→List Tg
 |[],r=>r
 |x::l,r=>mB c id l (js r (Em c id x))
def rN(c:aC)(id:Dg):List Tg:=mB c id c.over (rT c id (oF c (lI c)))
def uv(r:Rw)(t:Tg):Prop:=r.1=t.1∧(∀n,fv n r.2.2=r.2.2)∧ ∀(a:au) (s:List aa) (K:AV→List aa→Nat→Prop),K (.d (dB (t.2 a))) s 0→aq Tryz.prog (.clo r.2.1 [] r.2.2) [.d (.agg (aI a))] s K
inductive gT:List Rw→List Tg→Prop
 |nil:gT [] []
 |cons {r t l m}:uv r t→gT l m→gT (r::l) (t::m)
theorem gT.snoc{l:List Rw}{m:List Tg}(h:gT l m){r:Rw}{t:Tg}(b:uv r t):gT (l++[r]) (m++[t]):=by
 induction h with
 |nil=>exact .cons b .nil
 |cons a _ c=>exact .cons a c
theorem gT.len{l:List Rw}{m:List Tg}(h:gT l m):l.length=m.length:=by
 induction h with
 |nil=>rfl
 |cons b _ a=>simp[a]
theorem gT.get{l:List Rw}{m:List Tg}(h:gT l m){k:Nat}{t:Tg}(a:m[k]?=some t): ∃r,l[k]?=some r∧uv r t:=by
 induction h generalizing k with
 |nil=>simp at a
 |cons b _ c=>
  cases k with
  |zero=>simp at a;subst a;exact⟨_,rfl,b⟩
  |succ k=>exact c (by simpa using a)
theorem gT.add{l:List Rw}{m:List Tg}(h:gT l m){r:Rw}{t:Tg}(a:uv r t):gT (jr l r) (js m t):=by
 unfold jr js;rw[a.1];split
 ·exact h
 ·exact h.snoc a
theorem Oc(c:aC)(id:Dg):gT (oz c id) (rN c id):=by
 have d:gT (lz c) (lI c):=by
  unfold lz lI;split
  ·exact gT.nil.add ⟨rfl,fun _=>rfl,fun a s K b=>aq.data (ZB a c) rfl b⟩
  ·exact .nil
 have e:gT (pI c (lz c)) (oF c (lI c)):=by
  unfold pI oF;split
  ·exact d.add ⟨rfl,fun _=>rfl,fun a s K b=>aq.data (ZC a) rfl b⟩
  ·exact d
 have f: ∀x,uv (pJ c id x) (yx c id x):=fun x=>⟨rfl,fun _=>rfl,fun a s K b=>aq.data (ZD a x c (mc c id)) rfl b⟩
 have g:gT (my c id (pI c (lz c))) (rT c id (oF c (lI c))):=by
  unfold my rT;split
  ·exact(e.add (f _)).add (f _)
  ·exact e
 have j: ∀x,uv (Ed c id x) (Em c id x):=fun x=>⟨rfl,fun _=>rfl,fun a s K b=>aq.data (ZE a (lG c.kind) (mc c id)) rfl b⟩
 have i: ∀(l:List af) (r:List Rw) (t:List Tg),gT r t→gT (qt c id l r) (mB c id l t):=by
  intro l
  induction l with
  |nil=>intro r t h;exact h
  |cons x l k=>intro r t h;exact k _ _ (h.add (j x))
 exact i _ _ _ g
def nt(l:List Rw):List AV:=l.flatMap fun p=>cy p.1 (.clo p.2.1 [] p.2.2)
theorem Oi: ∀{l:List Rw} {k:Nat} {x:Rw},l[k]?=some x→((nt l).drop (k*34)).take 34=cy x.1 (.clo x.2.1 [] x.2.2)
 |[],k,x,h=>by simp at h
 |p::l,0,x,h=>by
  simp at h;subst h;show((cy p.1 (.clo p.2.1 [] p.2.2)++nt l).drop (0*34)).take 34=_;rw[pR,jY,gj (by rw[ey];omega),dq (by rw[ey];omega)]
 |p::l,k+1,x,h=>by
  show((cy p.1 (.clo p.2.1 [] p.2.2)++nt l).drop ((k+1)*34)).take 34=_;rw[gB,gC (by rw[ey];omega),bm,ey,show(k+1)*34-34=k*34 by omega];exact Oi (by simpa using h)
theorem OG(n:Nat): ∀{l:List Rw} {m:List Tg},gT l m→fv n (nt l)=nt l
 |_,_,.nil=>rfl
 |_,_,.cons (r:=r) (l:=l) h1 h2=>by
  have a:=OG n h2;show fv n (cy r.1 (.clo r.2.1 [] r.2.2)++nt l)=cy r.1 (.clo r.2.1 [] r.2.2)++nt l;rw[lC,fp,←lC,←lC,a];congr 1;unfold cy;rw[lC,fp,←lC,Ht];show _++[AV.clo r.2.1 (fv n []) (fv n r.2.2)]=_;rw[h1.2.1 n];rfl
theorem ZH(id:Dg)(c:aC)(g:c.over.length≤100000)(s:List aa):b7 Tryz.prog 166 [.d (.agg (aP id)),.d (.agg (aV c))] s fun d b=> ∃J,b=s++J∧((d= .nil 34∧oz c id=[])∨ ∃r,d= .vec r (oz c id).length 34∧b[r]?=some (.vec 196 34 (nt (oz c id)))):=by
 obtain⟨d,b,a,e⟩:=ZA id c g;refine⟨_,_,a.frame (xs:=[.d (.agg (aP id)),.d (.agg (aV c))]) rfl s,_,rfl,?_⟩;rcases e with⟨rfl,f⟩|⟨r,rfl,hr⟩
 ·exact .inl ⟨rfl,f⟩
 ·refine .inr ⟨s.length+r,rfl,?_⟩;rw[iO a8,mR,dL,hr];show some (aa.vec 196 34 (fv s.length (nt (oz c id))))=_;rw[OG _ (Oc c id)]
theorem ZI(id:Dg)(c:aC)(b:c.over.length≤100000)(s:List aa):b7 Tryz.prog 166 [.d (.agg (aP id)),.d (.agg (aV c))] s fun d a=>(∀(i:Nat) (o:aa),s[i]?=some o→a[i]?=some o)∧((d= .nil 34∧oz c id=[])∨ ∃r,d= .vec r (oz c id).length 34∧a[r]?=some (.vec 196 34 (nt (oz c id)))):=by
 refine(ZH id c b s).mono ?_;rintro d _ ⟨J,rfl,h⟩;exact⟨fun i o hi=>bG hi J,h⟩
theorem RK.keep{s:aD}{p m:Nat}{K:MD}{a b:List aa}(h:RK s p m K a)(hk: ∀(i:Nat) (o:aa),a[i]?=some o→b[i]?=some o):RK s p m K b:=⟨hk _ _ h.hp,hk _ _ h.hm,h.hk⟩
theorem vH(x:af)(f:FuncId)(cs:List AV):aggA (cy x (.clo f [] cs))= .agg (cy x (.clo f [] cs)):=by
 unfold aggA;rw[show kg (cy x (.clo f [] cs))=none from nn ..]
def eX(s:aD):List Tg→Int
 |[]=>0
 |t::l=>match nQ s t.1 with
  |none=>7
  |some a=>if t.2 a=true then eX s l else 8
def mD(s:aD)(id:Dg):List aC→Int
 |[]=>0
 |c::l=>if eX s (rN c id)≠0 then eX s (rN c id)else mD s id l
theorem fk.trans{m:Nat}{a b c:List aa}(h:fk m a b)(k:fk m b c):fk m a c:=fun i o hi d=>k i o hi (h i o hi d)
theorem a2O(l:List Rw):(nt l).length=l.length*34:=Ea l
set_option maxHeartbeats 4000000 in
theorem ZG{s:aD}(hl:s.length≤1000000)(hs: ∀x∈s,cz x.pat∧du x.pat){p m:Nat}{K:MD}{st:List aa}(h:RK s p m K st)(x:bT)(hx: ∀c∈x.pat.changes,c.over.length≤100000)(hc:x.pat.changes.length≤1000000):
  b7 Tryz.prog 110 [.ptr p 0,.d (.agg (b5 x))] st fun d b0=>d= .d (dI (mD s x.id x.pat.changes))∧fk m st b0:=by
 refine b7.of (F:=BD) Xj (by simp[BD]) ?_;simp only[BD]
 repeat' first|refine ae (fun _=> ?_) fun _=> ?_|refine ay @wj ab ?_|exact ax @wj ab|fail
 obtain⟨R,U⟩: ∃R,R=mD s x.id x.pat.changes:=⟨_,rfl⟩
 rw[←U];refine aZ.overI x.pat.changes (fun k (b:List aa)=>[(15,iN k)]) (fun _ b=>b) (fun r _=>mD s x.id r) R (fun k b=>(∃K',RK s p m K' b)∧fk m st b) st a8 aB aB rfl U ⟨⟨K,h⟩,fun _ _ _ h=>h⟩ (fun k b c hg hk hd hw L hJ=> ?_) (fun b hd L hJ=> ?_)
 ·obtain⟨⟨K1,Y⟩,a1⟩:=hJ;have cr:=fun s=>ZI x.id c (hx c (bX hg)) s;have hT:=Oc c x.id;have a3:(rN c x.id).length≤1000000:=by
   have hD: ∀(l:List af) (r:List Tg),(mB c x.id l r).length≤r.length+l.length:=by
    intro l
    induction l with
    |nil=>intro r;exact bk _
    |cons y l ih=>
     intro r;have h1:=ih (js r (Em c x.id y));have h2:(js r (Em c x.id y)).length≤r.length+1:=by unfold js;split<;>simp
     rw[mB,aY];omega
   have h1:=hD c.over (rT c x.id (oF c (lI c)));have h2:(lI c).length≤1:=by unfold lI js;(repeat' split)<;>simp
   have h3:(oF c (lI c)).length≤2:=by unfold oF js;(repeat' split)<;>(try simp only[aR,qC,b6])<;>omega
   have h4:(rT c x.id (oF c (lI c))).length≤4:=by unfold rT js;(repeat' split)<;>(try simp only[aR,qC,b6])<;>omega
   have:=hx c (bX hg);unfold rN;omega
  rw[mD]at L;clear U h hx hc;generalize oz c x.id=rows at cr hT;generalize rN c x.id=T at L hT a3;have a0: ∀o:aa,fk m st (b++[o]):=fun o=>a1.trans (fk.app _)
  repeat' first|refine ae (fun _=> ?_) fun _=> ?_|(refine aq.fn ((cr _).mono ?_);rintro d s1 ⟨V,a4⟩)|refine ay (ga @hd (ga @hg (ga @fb (ga @de (ga @fH @wj))))) ab ?_|exact ax (ga @hd (ga @hg (ga @fb (ga @de (ga @fH @wj))))) ab|fail
  have O:=(Y.app [.cells ((aV c).map .d)]).keep V;have D:fk m st s1:=(a0 (.cells ((aV c).map .d))).trans fun i o _ h=>V i o h;clear Y a0 a1 V cr;rcases a4 with⟨rfl,rfl⟩|⟨r,rfl,hr⟩
  ·cases hT;have S:R=mD s x.id (x.pat.changes.drop (k+1)):=by simpa[eX]using L
   repeat' first|refine ae (fun _=> ?_) fun _=> ?_|refine ay @wj ab ?_|exact ax @wj ab|fail
   refine aZ.overI ([]:List Nat) (fun j (G:List aa)=>[(24,iN j)]) (fun _ G=>s1) (fun _ _=>()) () (fun _ _=>True) ([]:List aa) (by simp) aB aB rfl rfl trivial (fun k b x hg=>by cases hg) (fun G u _ _=> ?_)
   repeat' first|refine ae (fun _=> ?_) fun _=> ?_|refine ay (ga @hw @wj) ab ?_|exact ax (ga @hw @wj) ab|fail
   exact⟨S,⟨K1,O⟩,D⟩
  ·have W:rows.length=T.length:=hT.len;have a6:r≠m:=fun e=>by subst e;rw[O.hm]at hr;cases hr
   repeat' first|refine ae (fun _=> ?_) fun _=> ?_|refine ay (ga @W @wj) ab ?_|exact ax (ga @W @wj) ab|fail
   refine aZ.overI T (fun j (G:List aa)=>[(24,iN j)]) (fun _ G=>G) (fun r _=>eX s r) (eX s T) (fun j G=>(∃K',RK s p m K' G)∧fk m s1 G) s1 a8 aB aB rfl rfl ⟨⟨K1,O⟩,fun _ _ _ h=>h⟩ (fun j G t a5 X u A n J=> ?_) (fun G u n J=> ?_)
   ·obtain⟨⟨K2,Z⟩,M⟩:=J;obtain⟨rw_,a7,a9,_,v⟩:=hT.get a5;have q:=Oi a7;have w:=a2O rows;rw[W]at w;rw[a9]at q;have C:=M r _ a6 hr;have E:j*34+34≤T.length*34:=by omega
    generalize nt rows=cells at q w C;rw[eX]at n;obtain⟨y,P⟩:=t;dsimp only at q n v;obtain⟨z,f,cs⟩:=rw_;dsimp only at q v;have ca:=Zw hl hs (Z.app [.cells (cy y (.clo f [] cs))]) y;have b1:=(b9.1 Z.hm).1;cases hq:nQ s y with
    |none=>
     rw[hq]at n ca;have I:R=7:=by rw[L,n];simp
     repeat' first|refine ae (fun _=> ?_) fun _=> ?_|(refine aq.fn (ca.mono ?_);rintro _ s3 ⟨rfl,Q,B⟩)|refine ay (ga @u (ga @C (ga @X (ga @E (ga @w (ga @q (ga @nn (ga @pG (ga @iq (ga @ey (ga @vH (ga @il (ga @im (ga @bz (ga @bb (ga @fC @wj)))))))))))))))) ab ?_|exact ax (ga @u (ga @C (ga @X (ga @E (ga @w (ga @q (ga @nn (ga @pG (ga @iq (ga @ey (ga @vH (ga @il (ga @im (ga @bz (ga @bb (ga @fC @wj)))))))))))))))) ab|fail
     all_goals exact⟨I.symm,D.trans (M.trans ((fk.app _).trans (B.trans (fk.app _))))⟩
    |some a=>
     rw[hq]at n ca;dsimp only at n;cases hP:P a with
     |true=>
      rw[if_pos hP]at n;have g:=v a;rw[hP]at g
      repeat' first|refine ae (fun _=> ?_) fun _=> ?_|(refine aq.fn (ca.mono ?_);rintro _ s3 ⟨rfl,Q,B⟩)|refine ay (ga @u (ga @A (ga @C (ga @X (ga @E (ga @w (ga @q (ga @nn (ga @pG (ga @iq (ga @ey (ga @vH (ga @il (ga @im (ga @bz (ga @bb (ga @fC @wj))))))))))))))))) ab ?_|exact ax (ga @u (ga @A (ga @C (ga @X (ga @E (ga @w (ga @q (ga @nn (ga @pG (ga @iq (ga @ey (ga @vH (ga @il (ga @im (ga @bz (ga @bb (ga @fC @wj))))))))))))))))) ab|fail
      have N:s3[G.length]?=some (.cells (cy y (.clo f [] cs))):=B _ _ a8 (by simp);have H:=fun l=>bG N l
      repeat' first|refine ae (fun _=> ?_) fun _=> ?_|(refine g _ _ ?_)|refine ay (ga @A (ga @N (ga @H (ga @il (ga @ey (ga @im (ga @bb @wj))))))) ab ?_|exact ax (ga @A (ga @N (ga @H (ga @il (ga @ey (ga @im (ga @bb @wj))))))) ab|fail
      obtain⟨K3,a2⟩:=Q;exact⟨n,⟨K3,a2.app _⟩,M.trans ((fk.app _).trans (B.trans (fk.app _)))⟩
     |false=>
      rw[if_neg (by simp[hP])]at n;have I:R=8:=by rw[L,n];simp
      have g:=v a;rw[hP]at g
      repeat' first|refine ae (fun _=> ?_) fun _=> ?_|(refine aq.fn (ca.mono ?_);rintro _ s3 ⟨rfl,Q,B⟩)|refine ay (ga @u (ga @A (ga @C (ga @X (ga @E (ga @w (ga @q (ga @nn (ga @pG (ga @iq (ga @ey (ga @vH (ga @il (ga @im (ga @bz (ga @bb (ga @fC @wj))))))))))))))))) ab ?_|exact ax (ga @u (ga @A (ga @C (ga @X (ga @E (ga @w (ga @q (ga @nn (ga @pG (ga @iq (ga @ey (ga @vH (ga @il (ga @im (ga @bz (ga @bb (ga @fC @wj))))))))))))))))) ab|fail
      have N:s3[G.length]?=some (.cells (cy y (.clo f [] cs))):=B _ _ a8 (by simp);have H:=fun l=>bG N l
      repeat' first|refine ae (fun _=> ?_) fun _=> ?_|(refine g _ _ ?_)|refine ay (ga @A (ga @N (ga @H (ga @il (ga @ey (ga @im (ga @bb @wj))))))) ab ?_|exact ax (ga @A (ga @N (ga @H (ga @il (ga @ey (ga @im (ga @bb @wj))))))) ab|fail
      exact⟨I.symm,D.trans (M.trans ((fk.app _).trans (B.trans (fk.app _))))⟩
   ·rw[eX]at n;have S:R=mD s x.id (x.pat.changes.drop (k+1)):=by rw[L,n];simp
    repeat' first|refine ae (fun _=> ?_) fun _=> ?_|refine ay (ga @u (ga @hw @wj)) ab ?_|exact ax (ga @u (ga @hw @wj)) ab|fail
    exact⟨S,J.1,D.trans J.2⟩
 ·rw[mD]at L
  repeat' first|refine ae (fun _=> ?_) fun _=> ?_|refine ay (ga @hd @wj) ab ?_|exact ax (ga @hd @wj) ab|fail
  all_goals exact⟨by rw[L],hJ.2⟩
end Go.Proofs.Q
namespace Go.Proofs.Lh
open Go Go.Ab Go.Bb Go.RowKit Go.Proofs.Lg
theorem a2P{P:Program}(w:World)(t o e:TypeId)(i:TypeInfo)(z:Value)(k x:IntKind)(s:P.underlying t=some (.slice e))(l:P.underlying o=some (.int x))(hi:P.info? e=some i)(v:i.zero=some z)(base:Option Addr)(a b:Nat)(c:List Value)
  (h:(Builtin.firstCells i.size a (.slice base a b)).run P w.drew= .ok c.toArray w.drew) (m:Nat) (A:0<m) (B:0<i.size) (hg:b<a+m) (q:((a+m:Nat):Int)≤9223372036854775807) (n:Builtin.nextslicecap (a+m) b*i.bytes≤281474976710656) (p:m*i.bytes≤281474976710656) (y:TypeId):
  (Builtin.append_ #[t,o] y #[.slice base a b,.int k m]).run P w=
   .ok (.slice (some ⟨w.heap.size,0,none⟩) (a+m) (grownCap w (a+m) b e)) (w.drew.alloc (.cells (c.toArray++Builtin.zeroCells z.cells m++Builtin.zeroCells z.cells (grownCap w (a+m) b e-(a+m))) e)):=by
 have r: ¬(a+m≤b):=by omega
 have u:IntKind.i64.wrap (m:Int)=m:=by rw[IntKind.wrap_i64];omega
 have f: ¬(9223372036854775807<((a:Int)+(m:Int))):=by omega
 have d: ¬(281474976710656<Builtin.nextslicecap (a+m) b*i.bytes):=by omega
 have h48i: ¬(281474976710656<(m:Int)*(i.bytes:Int)):=by
  rw[←Int.natCast_mul];omega
 have g: ¬((m:Int)<0):=by omega
 have j: ¬(m*i.size=0):=Nat.mul_ne_zero a8 a8;simp[Builtin.append_,run_underlying s,run_underlying l,sizeOf,typeInfo,zeroValue,hi,v,asInt,asIntOf,u,r,g,j,f,d,h48i,Question.forced,h,newRow,grownCap]
set_option maxHeartbeats 4000000 in
set_option maxRecDepth 100000 in
theorem Q0(w:World)(g n i h cv S:Nat)(cur c:Array Value)(us news:List Value)(hi:i<n)(a5:n≤1000000)(b6:h≠g)(hg:w.heap[g]?=some (.cells cur 54 (0,0)))(U:cur.size=n*37)(G:cur.toList.take (n*37)=us)(J: ∀u∈us,u.oneCell'=true)
  (hh:w.heap[h]?=some (.cells c 54 (0,0))) (hc2s:c.size=S*37) (hc2p:1≤S) (l:c.toList.take 37=news) (y: ∀u∈news,u.oneCell'=true):
  Calls Tryz.prog 111 #[.slice (some ⟨g,0,none⟩) n n,.int .i64 i,.slice (some ⟨h,0,none⟩) 1 cv] w fun e w'=> ∃q A,n+1≤q∧q≤maxLen∧e= .returned (.slice (some ⟨w.heap.size,0,none⟩) (n+1) q)∧
   w'.heap[w.heap.size]?=some (.cells A 54 (0,0))∧A.size=q*37∧A.toList.take ((n+1)*37)=us.take (i*37)++news++us.drop (i*37)∧w.grownBy w' none∧w.heap.size<w'.heap.size:=by
 obtain⟨m,z,o,E,hz,a1,a4,a6,H⟩:=Ae;have f:us.length=n*37:=by rw[←G,ck,gz,U];omega
 have p:news.length=37:=by rw[←l,ck,gz,hc2s];omega
 have D:(us.drop (i*37)).length=(n-i)*37:=by rw[aA,f];omega
 have a2:g<w.heap.size:=(fB.1 hg).1;have a3:h<w.heap.size:=(fB.1 hh).1;have W:w.drew.heap[g]?=some (.cells cur 54 (0,0)):=hg;have x:(Builtin.firstCells m.size i (.slice (some ⟨g,0,none⟩) i n)).run Tryz.prog w.drew= .ok (us.take (i*37)).toArray w.drew:=
  run_firstCells_some w.drew m.size i ⟨g,0,none⟩ i n (us.take (i*37)) (by rw[E,ck,f];omega) (fun j v d=>by
    rw[fi,aw,cell_of_row _ g _ cur _ _ W];rw[eY,←G]at d;split at d
    ·rw[eY]at d;split at d
     ·simpa using d
     ·cases d
    ·cases d)
 have a:=a2P (P:=Tryz.prog) w 23 3 54 m z .i64 .i64 Tryz.underlying23 Tryz.underlying3 o hz (some ⟨g,0,none⟩) i n (us.take (i*37)) x (n+1-i) a8 a8 a8 a8
   (growslice_fits a8 (by
    have h1:(i+(n+1-i))*m.bytes≤(i+(n+1-i))*1000:=Nat.mul_le_mul_left _ H;omega)) (by
    have h1:(n+1-i)*m.bytes≤(n+1-i)*1000:=Nat.mul_le_mul_left _ H;omega)
 have M:(((n+1-i:Nat)):Int)=(n:Int)+1-i:=by omega
 rw[M]at a;have Z:i+(n+1-i)=n+1:=by omega
 rw[Z]at a;have X:=grownCap_ge w (n+1) n 54;have Y:grownCap w (n+1) n 54≤maxLen:=grownCap_le_maxLen _ _ _ _ (by unfold maxLen;omega);have r:((us.take (i*37)).toArray++Builtin.zeroCells z.cells (n+1-i)++Builtin.zeroCells z.cells (grownCap w (n+1) n 54-(n+1))).size=grownCap w (n+1) n 54*37:=by
  simp only[Array.size_append,kU,size_zeroCells,a1,ck,f];omega
 have C:((us.take (i*37)).toArray++Builtin.zeroCells z.cells (n+1-i)++Builtin.zeroCells z.cells (grownCap w (n+1) n 54-(n+1))).toList.take (i*37)=us.take (i*37):=by
  simp only[pO];rw[bj,wm (by rw[ck,f];omega)]
 generalize grownCap w (n+1) n 54=q at a X Y r C;generalize((us.take (i*37)).toArray++Builtin.zeroCells z.cells (n+1-i)++Builtin.zeroCells z.cells (q-(n+1)))=R at a r C;have h2:(w.drew.alloc (.cells R 54)).heap[w.heap.size]?=some (.cells R 54 (0,0)):=heap_alloc_new w.drew (.cells R 54)
 have N:(w.drew.alloc (.cells R 54)).heap[g]?=some (.cells cur 54 (0,0)):=(Go.Lib.alloc_old w.drew _ g a2).trans hg;have O:(w.drew.alloc (.cells R 54)).heap[h]?=some (.cells c 54 (0,0)):=(Go.Lib.alloc_old w.drew _ h a3).trans hh;have b:w.grownBy (w.drew.alloc (.cells R 54)) none:=⟨rfl,rfl,rfl,by simp,fun k hk _=>Below.heap_alloc w.drew _ k (by simpa using hk)⟩
 have a0:(w.drew.alloc (.cells R 54)).heap.size=w.heap.size+1:=by simp
 generalize w.drew.alloc (.cells R 54)=w2 at a h2 N O b a0;have T: ∀Q K,(Builtin.copy_ #[23,22] Q #[.slice (some ⟨w.heap.size,i*37,none⟩) (n+1-i) K,.slice (some ⟨h,0,none⟩) 1 cv]).run Tryz.prog w2= .ok (goInt (1:Nat)) (w2.setRow (w.heap.size) (R.toList.take (i*37)++news++R.toList.drop (i*37+news.length)).toArray):=fun Q K=>
  Ec (P:=Tryz.prog) _ 23 22 Q 54 m Tryz.underlying23 o (w.heap.size) (i*37) (n+1-i) K R 54 h2 ⟨h,0,none⟩ 1 cv 1 news (by simp only[Nat.min_def];split<;>omega) (by rw[E,p])
   (fun j u d=>by
    rw[fi,aw,cell_of_row _ h _ c _ _ O];rw[←l,eY]at d;split at d
    ·simpa using d
    ·cases d) y (by rw[p,r];omega)
 have hA1s:(R.toList.take (i*37)++news++R.toList.drop (i*37+news.length)).length=q*37:=by
  simp only[aR,ck,aA,gz,p,r];omega
 have hA1t:(R.toList.take (i*37)++news++R.toList.drop (i*37+news.length)).take ((i+1)*37)=us.take (i*37)++news:=by
  rw[C,wm (by rw[aR,ck,f,p];omega)]
 generalize R.toList.take (i*37)++news++R.toList.drop (i*37+news.length)=A1 at T hA1s hA1t;have h3:=setRow_heap w2 (w.heap.size) R A1.toArray 54 (0,0) h2;have V:(w2.setRow (w.heap.size) A1.toArray).drew.heap[g]?=some (.cells cur 54 (0,0)):=(setRow_other w2 _ g _ a8).trans N
 have I: ∀Q K sc,(Builtin.copy_ #[23,23] Q #[.slice (some ⟨w.heap.size,(i+1)*37,none⟩) (n-i) K,.slice (some ⟨g,i*37,none⟩) (n-i) sc]).run Tryz.prog (w2.setRow (w.heap.size) A1.toArray).drew= .ok (goInt (n-i:Nat)) ((w2.setRow (w.heap.size) A1.toArray).drew.setRow (w.heap.size) (A1.toArray.toList.take ((i+1)*37)++us.drop (i*37)++A1.toArray.toList.drop ((i+1)*37+(us.drop (i*37)).length)).toArray):=fun Q K sc=>
  Ec (P:=Tryz.prog) (w2.setRow (w.heap.size) A1.toArray).drew 23 23 Q 54 m Tryz.underlying23 o (w.heap.size) ((i+1)*37) (n-i) K A1.toArray 54 h3 ⟨g,i*37,none⟩ (n-i) sc (n-i) (us.drop (i*37)) (by simp) (by rw[E];exact D)
   (fun j u d=>by
    rw[fi,cell_of_row _ g _ cur _ _ V];rw[fm,←G,eY]at d;split at d
    ·simpa using d
    ·cases d) (fun u hu=>J u (wg hu)) (by rw[D,kU,hA1s];omega)
 have hA2s:(A1.toArray.toList.take ((i+1)*37)++us.drop (i*37)++A1.toArray.toList.drop ((i+1)*37+(us.drop (i*37)).length)).toArray.size=q*37:=by
  simp only[kU,aR,ck,aA,f,hA1s];omega
 have L:(A1.toArray.toList.take ((i+1)*37)++us.drop (i*37)++A1.toArray.toList.drop ((i+1)*37+(us.drop (i*37)).length)).toArray.toList.take ((n+1)*37)=us.take (i*37)++news++us.drop (i*37):=by
  show(A1.take ((i+1)*37)++us.drop (i*37)++A1.drop ((i+1)*37+(us.drop (i*37)).length)).take ((n+1)*37)=_;rw[hA1t];exact wm (by simp only[aR,ck,f,p,D];omega)
 generalize(A1.toArray.toList.take ((i+1)*37)++us.drop (i*37)++A1.toArray.toList.drop ((i+1)*37+(us.drop (i*37)).length)).toArray=A2 at I hA2s L;have s:(((w2.setRow (w.heap.size) A1.toArray).drew.setRow (w.heap.size) A2)).heap[w.heap.size]?=some (.cells A2 54 (0,0)):=setRow_heap _ _ _ _ _ (0,0) h3
 have t:w.grownBy ((w2.setRow (w.heap.size) A1.toArray).drew.setRow (w.heap.size) A2) none:=by
  refine⟨b.os,b.tape,b.output,?_,fun k hk _=> ?_⟩
  ·rw[setRow_size];show w.heap.size≤(w2.setRow (w.heap.size) A1.toArray).heap.size;rw[setRow_size];omega
  ·rw[setRow_other _ _ k _ a8];show(w2.setRow (w.heap.size) A1.toArray).heap[k]?=_;rw[setRow_other _ _ k _ a8];exact b.block k hk (by simp)
 have B:w.heap.size<((w2.setRow (w.heap.size) A1.toArray).drew.setRow (w.heap.size) A2).heap.size:=(fB.1 s).1;have F:=Go.Lib.hid (And.intro s (And.intro hA2s (And.intro L (And.intro t B))));clear s hA2s L t B h3 V hA1s hA1t h2 N O b a0 r C G l J y D f p U hc2s hg hh o E hz a1 a4 W x
 have c1: ¬((i:Int)=(n:Int)):=by omega
 have b8:IntKind.i64.wrap ((i:Int)+1)=(i:Int)+1:=by rw[IntKind.wrap_i64];omega
 have b9:IntKind.i64.wrap ((n:Int)+1)=(n:Int)+1:=by rw[IntKind.wrap_i64];omega
 have c0:IntKind.i64.wrap ((n:Int)+1-i)=(n:Int)+1-i:=by rw[IntKind.wrap_i64];omega
 have b1:(0:Int)≤(i:Int)+1:=by omega
 have b7:i≤n:=by omega
 have b0:((i:Int)+1).toNat=i+1:=by omega
 have b2: ¬(q=i+1):=by omega
 have b3:(i:Int)≤(n:Int)+1:=by omega
 have b4: ¬(q=i):=by omega
 have b5: ¬(n=i):=by omega
 have a7:(n:Int)<(n:Int)+1:=by omega
 have a9:i≤n+1:=by omega
 have mixed:Tryz.prog.follows Departure.mixedOrders=true:=by kernel_rfl
 go_enter Tryz.func111,Tryz.ntmps111
 go_wp2_with (at_builtin;refine Go.Lib.wpList_append_run _ rfl _ _ _ _ rfl _ _ rfl rfl _ _ (a _) ?_)
 go_region_law_o (refine OV rfl _ _ 23 23 rfl _ _ (by simp[Act.eval,Act.put]) (by simp[Act.eval,Act.put]) (I _ _ _) ?_)
 go_wp2
 all_goals(go_ret;exact⟨q,A2,X,Y,rfl,F.out⟩)
end Go.Proofs.Lh
