/- Lemmas. -/
import Derived.Test.YtikhfhjohjfamaaGreatDoorPBF
set_option linter.unusedVariables false
set_option linter.unusedSimpArgs false
set_option maxRecDepth 100000
namespace Go.Proofs.Q
open Go Go.Bb Go.RowKit Go.Proofs.Lg
open Go.Ab (D RD)
def eI{α:Type}(a:α->Bool):List α->Nat->Int
 |[],_=> -1
 |x::l,k=>if a x then(k:Int)else eI a l (k+1)
theorem Bx{α:Type}(a:α->Bool): ∀(l:List α) (k:Nat),decide (eI a l k>=0)=l.any a
 |[],k=>by simp[eI]
 |x::l,k=>by
  rw[eI,List.any_cons];by_cases h:a x=true
  .rw[if_pos h,h];simp
  .rw[if_neg h,Bx a l (k+1)];simp[h]
theorem Eo(l:List bD)(p:l.length<=1000000)(g:FuncId)(i cs:List AV)(a:bD->Bool)(s:List aa)(e: ∀(x:bD) (K:AV->List aa->Nat->Prop),x∈l->(∀h,K (.d (dB (a x))) s h)->af Tryz.prog (.clo g i cs) [.d (.agg (aX x))] s K):
  bs Tryz.prog 139 [.d (.sl 37 (l.map aX)),.clo g i cs] s λd o=>d= .d (dI (eI a l 0))/\o=s:=by
 refine cz Tryz.f139 ?_ [] [[8,0,1,7]];refine aC @wj trivial ?_;refine aZ.overI l (λk (b:Unit)=>[(8,iN k)]) (λ_ _=>s) (λr _=>eI a r (l.length-r.length)) (eI a l 0) (λ_ _=>True) () a8 aA aA rfl (by rw[jc]) trivial (λk _ x hg hk f j c _=> ?_) (λ_ f c _=> ?_)
 .have m:l.length-(x::l.drop (k+1)).length=k:=by rw[aY,ax];omega
  have n:l.length-(l.length-(k+1))=k+1:=by omega
  rw[m,eI]at c;have hc:=e x;by_cases hp:a x=true
  .rw[if_pos hp]at c;rw[hp]at hc
   repeat' first|refine ab (λ_=> ?_) λ_=> ?_|refine aH ?_|(refine hc _ (bR hg) (λh=> ?_))|simp only[f,j,hg,wj,wy,qg,aE,simprocAttr,ax,aD,aB,aw]
   all_goals rw[c]
  .rw[if_neg hp]at c;rw[show a x=false by simpa using hp]at hc
   repeat' first|refine ab (λ_=> ?_) λ_=> ?_|refine aH ?_|(refine hc _ (bR hg) (λh=> ?_))|simp only[f,j,hg,wj,wy,qg,aE,simprocAttr,ax,aD,aB,aw]
   all_goals exact⟨(),by rw[n];exact c⟩
 .rw[eI]at c;refine aC (ga @f @wj) trivial ?_
  all_goals rw[c]
theorem QF(l:List bD)(i:l.length<=1000000)(g:FuncId)(c cs:List AV)(a:bD->Bool)(s:List aa)(b: ∀(x:bD) (K:AV->List aa->Nat->Prop),x∈l->(∀h,K (.d (dB (a x))) s h)->af Tryz.prog (.clo g c cs) [.d (.agg (aX x))] s K):
  bs Tryz.prog 224 [.d (.sl 37 (l.map aX)),.clo g c cs] s λd j=>d= .d (dB (l.any a))/\j=s:=by
 have f:=Eo l i g c cs a s b;have e:=Bx a l 0;refine cz Tryz.f224 ?_
 repeat' first|refine ab (λ_=> ?_) λ_=> ?_|refine aG (ga @e @wj) @f ?_|exact aF (ga @e @wj) @f|fail
 all_goals first|rfl|exact⟨rfl,rfl⟩|(simp_all;done)|trace_state
theorem Se(l:List Dg)(v:Dg):aI Tryz.prog 231 [.sl 32 (l.map au),.agg (au v)] (dI (eI (λx=>decide (v=x)) l 0)):=by
 refine aI.big (kM (by kernel_rfl)) 0 rfl λc=> ?_;rw[aM]at c;refine aL Tryz.f231 ?_ [100003] [[8,0,3,7]];refine aC trivial trivial ?_
 refine aZ.over l (λk (_:Unit)=>[(8,iN k)]) (λ_ _=>[]) (λr _=>eI (λx=>decide (v=x)) r (l.length-r.length)) (eI (λx=>decide (v=x)) l 0) () c aA aA rfl (by rw[jc]) (λk _ x hg hk b d a=> ?_) (λ_ b a=> ?_)
 .have e:l.length-(x::l.drop (k+1)).length=k:=by rw[aY,ax];omega
  have f:l.length-(l.length-(k+1))=k+1:=by omega
  rw[e,eI]at a
  repeat' first|refine ab (λ_=> ?_) λ_=> ?_|refine aG (ga @b (ga @d @hg)) trivial ?_|exact aF (ga @b (ga @d @hg)) trivial|fail
  .rename_i h;rw[if_pos (by simpa using h)]at a;exact a.symm
  .rename_i h;rw[if_neg (by simpa using h)]at a;exact⟨(),by rw[f];exact a⟩
 .rw[eI]at a;refine aC @b trivial ?_;exact a.symm
theorem DR(l:List Dg)(v:Dg):aI Tryz.prog 159 [.sl 32 (l.map au),.agg (au v)] (dB (bI l v)):=by
 have c:=Se l v;have e:decide (eI (λx=>decide (v=x)) l 0>=0)=bI l v:=by
  rw[Bx,l6,jA];simp
 refine aL Tryz.f159 ?_ [100003]
 repeat' first|refine ab (λ_=> ?_) λ_=> ?_|refine aG @e @c ?_|exact aF @e @c|fail
 all_goals first|rfl|(simp_all;done)|trace_state
theorem Jn(d:Dg): ∀(l:ar) (k:Nat),(eI (λx:bD=>decide (x.id=d)) l k= -1/\bh l d=none)\/ ∃j x,eI (λx:bD=>decide (x.id=d)) l k=((k+j:Nat):Int)/\l[j]?=some x/\bh l d=some x.pat
 |[],k=> .inl ⟨rfl,rfl⟩
 |x::l,k=>by
  rw[eI,bh];by_cases h:x.id=d
  .rw[if_pos (by simpa using h),if_pos h];exact .inr ⟨0,x,by simp,rfl,rfl⟩
  .rw[if_neg (by simpa using h),if_neg h];rcases Jn d l (k+1)with h|⟨j,y,h1,h2,h3⟩
   .exact .inl h
   .exact .inr ⟨j+1,y,by rw[h1];congr 1;omega,by simpa using h2,h3⟩
theorem UY(x:bD)(d:Dg):aI Tryz.prog 140 [.agg (aX x),.ref (au d)] (dB (decide (x.id=d))):=by
 refine aL Tryz.f140 ?_ [100002]
 repeat' first|refine ab (λ_=> ?_) λ_=> ?_|refine aG trivial trivial ?_|exact aF trivial trivial|fail
 all_goals first|rfl|(simp_all;done)|trace_state
theorem zW:lE qD=some (br .zero):=yh (br .zero)
theorem wO(l:ar)(g:l.length<=1000000)(d:Dg):aI Tryz.prog 73 [.sl 37 (l.map aX),.agg (au d)] (.tup [.agg (br ((bh l d).getD .zero)),dB (bh l d).isSome]):=by
 have a:=λs=>Eo l g 140 [] [.d (.ref (au d))] (λx=>decide (x.id=d)) s (λx K _ f=>af.data (UY x d) rfl (f 0));rcases Jn d l 0 with⟨b,c⟩|⟨j,x,b,c,h3⟩
 .rw[b]at a;rw[c];have e:decide ((-1:Int)<0)=true:=by decide
  refine aL Tryz.f73 ?_ [100003,300012];exact yy (ga @e (ga @zW (ga @dG (ga @bH @wj)))) @a
  all_goals first|rfl|trace_state
 .rw[aw]at b;rw[b]at a;rw[h3];have e:decide ((j:Int)<0)=false:=by simp
  refine aL Tryz.f73 ?_ [100003,300012]
  repeat' first|refine ab (λ_=> ?_) λ_=> ?_|refine aH ?_|(refine af.fn ((a _).mono ?_);rintro _ h ⟨rfl,rfl⟩)|simp only[e,c,dG,bH,aM,fY,wj,wy,qg,aE,simprocAttr,ax,aD,aB,aw]
  all_goals first|rfl|trace_state
theorem yD{α:Type}(a:α->Bool): ∀(l:List α) (k:Nat),(eI a l k= -1/\ ∀y∈l,a y=false)\/ ∃j x,eI a l k=((k+j:Nat):Int)/\l[j]?=some x/\a x=true/\ ∀y∈l.take j,a y=false
 |[],k=> .inl ⟨rfl,λ_ h=>by cases h⟩
 |x::l,k=>by
  rw[eI];by_cases h:a x=true
  .rw[if_pos h];exact .inr ⟨0,x,by simp,rfl,h,λ_ h=>by cases h⟩
  .rw[if_neg h];have f:a x=false:=by simpa using h
   rcases yD a l (k+1)with⟨c,d⟩|⟨j,y,c,d,h3,h4⟩
   .exact .inl ⟨c,λy e=>by rcases bF.1 e with rfl|e;exact f;exact d y e⟩
   .refine .inr ⟨j+1,y,by rw[c];congr 1;omega,by simpa using d,h3,λz b=> ?_⟩;rw[jW]at b;rcases bF.1 b with rfl|b
    .exact f
    .exact h4 z b
abbrev MD:=List (Dg×AV)
def cM(m:MD):List (List Value×AV):=m.map λe=>(dn e.1,e.2)
def eV(d:Dg):MD->Nat->Option (Nat×AV)
 |[],_=>none
 |e::m,i=>if d=e.1 then some (i,e.2)else eV d m (i+1)
theorem nZ(d:Dg): ∀(m:MD) (i:Nat),ey kg (dn d) (cM m) i=some (eV d m i)
 |[],_=>rfl
 |e::m,i=>by
  show((bJ kg (dn d) (dn e.1)).bind λb=>if b=true then some (some (i,e.2))else ey kg (dn d) (cM m) (i+1))=_;rw[II,eE,nZ d m (i+1),eV];by_cases h:d=e.1<;>simp[h]
theorem AI(m:MD):(cM m).length=m.length:=aM _
theorem Q8(a b:MD):cM (a++b)=cM a++cM b:=fF
theorem pQ(a:MD)(d:Dg)(v:AV):cM a++[(dn d,v)]=cM (a++[(d,v)]):=by rw[Q8];rfl
theorem vM(m:MD)(i:Nat)(d:Dg)(v:AV):(cM m).set i (dn d,v)=cM (m.set i (d,v)):=by unfold cM;rw[List.map_set]
theorem yt{d:Dg}: ∀{m:MD} {i:Nat},eV d m i=none↔d∉m.map (·.1)
 |[],_=>by simp[eV]
 |e::m,i=>by
  rw[eV,bX,bF];by_cases h:d=e.1
  .simp[h]
  .rw[if_neg h,yt];simp[h]
theorem uW(es:List (List Value×AV))(key:List Value)(v:AV):pw es key v none=es++[(key,v)]:=rfl
theorem YF(es:List (List Value×AV))(key:List Value)(v:AV)(i:Nat)(y:AV):pw es key v (some (i,y))=es.set i (key,v):=rfl
def gS(l:ar):MD:=l.map λx=>(x.id,.d (.sl 32 ((bu x.pat).map au)))
set_option maxHeartbeats 1000000 in
theorem Js(l:ar)(u:l.length<=1000000)(j: ∀x∈l,bS x.pat/\db x.pat)(g:(b8 l).Nodup):bs Tryz.prog 228 [.d (.sl 37 (l.map aX))] [] λd t=>d= .mp 0/\t[0]?=some (.map true (cM (gS l))):=by
 refine cz Tryz.f228 ?_ [] [[9,3,7,8]];refine aC @wj trivial ?_;refine aZ.overI l (λk (b:List aa)=>[(9,iN k)]) (λk b=> .map true (cM (gS (l.take k)))::b) (λ_ _=>()) () (λ_ _=>True) ([]:List aa) a8 aA aA (by simp[gS,cM]) rfl trivial (λk b x hg hk c s o _=> ?_) (λb c o _=> ?_)
 .have m:=bR hg;have n:=F2 x.pat (j x m).1 (j x m).2;have p:eV x.id (gS (l.take k)) 0=none:=by
   rw[yt];intro hm;have a:(gS (l.take k)).map (·.1)=(b8 l).take k:=by unfold gS b8;rw[ll,List.map_take];rfl
   rw[a]at hm;obtain⟨i,hi⟩:=fE hm;rw[fL]at hi;split at hi
   .rename_i q;have h:(b8 l)[k]?=some x.id:=by unfold b8;rw[dj,hg];rfl
    have f:k<(b8 l).length:=by unfold b8;rw[aM];exact hk
    have:=(List.getElem?_inj f g).1 (h.trans hi.symm);omega
   .cases hi
  have r:gS (l.take (k+1))=gS (l.take k)++[(x.id,.d (.sl 32 ((bu x.pat).map au)))]:=by
   have a:l.take (k+1)=l.take k++[x]:=by rw[s9 hk];congr 2;exact(aV.1 hg).2
   rw[a];unfold gS;rw[fF];rfl
  have e:ey kg (dn x.id) (cM (gS (l.take k))) 0=some none:=by rw[nZ,p]
  repeat' first|refine ab (λ_=> ?_) λ_=> ?_|refine aH ?_|refine af.data (n) rfl ?_|simp only[c,s,hg,e,uW,pQ,<-r,rU,fg,aM,wj,wy,qg,aE,simprocAttr,ax,aD,aB,aw]
  all_goals exact⟨_,rfl⟩
 .rw[dL (bg _)];exact bL (ga @c @wj) trivial
  all_goals first|rfl|trace_state
def oR(a:Dg->Bool):List Dg->List Dg->Bool×List Dg
 |[],O=>(true,O)
 |d::l,O=>if a d=true then oR a l (if bI O d=true then O else O++[d])else(false,O)
def gn(O:List Dg):MD:=O.map λd=>(d,.d (dB true))
def sK(G:MD)(d:Dg):Bool:=(eV d G 0).isSome
theorem Bl(d:Dg): ∀(O:List Dg) (i:Nat),if bI O d=true then∃j,eV d (gn O) i=some (j,.d (dB true))else eV d (gn O) i=none
 |[],i=>by simp[bI,gn,eV]
 |e::O,i=>by
  have b:=Bl d O (i+1);show if bI (e::O) d=true then∃j,(if d=e then some (i,_)else eV d (gn O) (i+1))=_ else(if d=e then some (i,_)else eV d (gn O) (i+1))=none;by_cases h:d=e
  .subst h;rw[if_pos ((jA _ _).2 (by simp))];exact⟨i,if_pos rfl⟩
  .rw[if_neg h];have a:bI (e::O) d=bI O d:=by rw[l6,jA,jA];simp[h]
   rw[a];exact b
theorem fw{vs:List AV}(h:vs.length=32):ba ((au .zero).map .d) 0 32 vs=some vs:=iE (by simp[b9]) h
structure RS(G:MD)(a g0 b mi c:Nat)(O:List Dg)(s:List aa):Prop where
 ha:s[a]?=some (.cells [.mp g0])
 hg:s[g0]?=some (.map true (cM G))
 hb:s[b]?=some (.cells [.mp mi])
 hm:s[mi]?=some (.map true (cM (gn O)))
 hne:g0≠mi
 hc:(O=[]/\s[c]?=some (.cells [.nil 32]))\/(O≠[]/\ ∃v,s[c]?=some (.cells [.vec v O.length 32])/\s[v]?=some (.vec 30 32 (dx O)))
 nd:O.Nodup
 sub: ∀d∈O,d∈G.map (·.1)
theorem bz{s:List aa}{i:Nat}{o:aa}(h:s[i]?=some o)(l:List aa):(s++l)[i]?=some o:=by
 rw[fP (aV.1 h).1];exact h
theorem getSet{s:List aa}{i j:Nat}{o o':aa}(h:s[i]?=some o)(a:j≠i):(s.set j o')[i]?=some o:=by
 rw[bC a];exact h
theorem eg{s:List aa}{i:Nat}{o o':aa}(h:s[i]?=some o):(s.set i o')[i]?=some o':=by
 rw[ej (aV.1 h).1]
theorem RS.app{G:MD}{a f b g c:Nat}{O:List Dg}{s:List aa}(h:RS G a f b g c O s)(l:List aa):RS G a f b g c O (s++l):=
 ⟨bz h.ha l,bz h.hg l,bz h.hb l,bz h.hm l,h.hne,h.hc.imp (λ⟨d,e⟩=>⟨d,bz e l⟩) λ⟨d,v,e,i⟩=>⟨d,v,bz e l,bz i l⟩,h.nd,h.sub⟩
theorem Tl(O:List Dg)(x:Dg):gn O++[(x,.d (dB true))]=gn (O++[x]):=by simp[gn]
structure oM(G:MD)(a g0 b mi:Nat)(O:List Dg)(s:List aa):Prop where
 ha:s[a]?=some (.cells [.mp g0])
 hg:s[g0]?=some (.map true (cM G))
 hb:s[b]?=some (.cells [.mp mi])
 hm:s[mi]?=some (.map true (cM (gn O)))
 hne:g0≠mi
 nd:O.Nodup
 sub: ∀d∈O,d∈G.map (·.1)
theorem RS.put{G:MD}{a i b g c:Nat}{O:List Dg}{s:List aa}(h:RS G a i b g c O s)(x:Dg)(k: ¬bI O x=true)(j:x∈G.map (·.1)):oM G a i b g (O++[x]) (s.set g (.map true (cM (gn O++[(x,.d (dB true))])))):=
 ⟨getSet h.ha (λe=>by have:=h.ha;rw[<-e,h.hm]at this;cases this),getSet h.hg (Ne.symm h.hne),getSet h.hb (λe=>by have:=h.hb;rw[<-e,h.hm]at this;cases this),by rw[Tl];exact eg h.hm,h.hne,
  List.nodup_append.2 ⟨h.nd,by simp,λa ha b hb e=>k ((jA _ _).2 (by rw[jH]at hb;rw[<-hb,<-e];exact ha))⟩,
  λd f=>by rcases fk.1 f with f|f;exact h.sub d f;rw[jH]at f;rw[f];exact j⟩
theorem oM.app{G:MD}{a c b d:Nat}{O:List Dg}{s:List aa}(h:oM G a c b d O s)(l:List aa):oM G a c b d O (s++l):=
 ⟨bz h.ha l,bz h.hg l,bz h.hb l,bz h.hm l,h.hne,h.nd,h.sub⟩
theorem oM.set{G:MD}{a d b k:Nat}{O:List Dg}{s:List aa}(h:oM G a d b k O s){c:Nat}{o o':aa}(hc:s[c]?=some o)(l: ∀g,o≠ .cells [.mp g])(m: ∀e,o≠ .map true e):oM G a d b k O (s.set c o'):=
 have f: ∀{i g},s[i]?=some (.cells [.mp g])->c≠i:=λh e=>by subst e;rw[hc]at h;exact l _ (aJ h)
 have j: ∀{i e},s[i]?=some (.map true e)->c≠i:=λh e=>by subst e;rw[hc]at h;exact m _ (aJ h)
 ⟨getSet h.ha (f h.ha),getSet h.hg (j h.hg),getSet h.hb (f h.hb),getSet h.hm (j h.hm),h.hne,h.nd,h.sub⟩
theorem oM.nil{G:MD}{a i b j c:Nat}{x:Dg}{s:List aa}(h:oM G a i b j [x] s)(hc:s[c]?=some (.cells [.nil 32])):RS G a i b j c [x] ((s++[aa.vec 30 32 ((au x).map .d)]).set c (.cells [.vec s.length 1 32])):=by
 have k:=(aV.1 hc).1;have f:=(h.app [.vec 30 32 ((au x).map .d)]).set (o':= .cells [.vec s.length 1 32]) (bz hc _) (λg e=>by cases e) (λg e=>by cases e);exact⟨f.ha,f.hg,f.hb,f.hm,f.hne,.inr ⟨by simp,s.length,eg (bz hc _),by rw[vL];exact getSet (by simp) a8⟩,f.nd,f.sub⟩
theorem oM.vec{G:MD}{a k b l c v:Nat}{O:List Dg}{x:Dg}{s:List aa}(h:oM G a k b l (O++[x]) s)(hc:s[c]?=some (.cells [.vec v O.length 32]))(j:s[v]?=some (.vec 30 32 (dx O))):RS G a k b l c (O++[x]) ((s.set v (.vec 30 32 (dx (O++[x])))).set c (.cells [.vec v (O.length+1) 32])):=by
 have i:v≠c:=λe=>by subst e;rw[hc]at j;cases j
 have f:(s.set v (.vec 30 32 (dx (O++[x]))))[c]?=some (.cells [.vec v O.length 32]):=getSet hc i;have d:=(h.set (o':= .vec 30 32 (dx (O++[x]))) j (λg e=>by cases e) (λg e=>by cases e)).set (o':= .cells [.vec v (O.length+1) 32]) f (λg e=>by cases e) (λg e=>by cases e)
 exact⟨d.ha,d.hg,d.hb,d.hm,d.hne,.inr ⟨by simp,v,by rw[aQ];exact eg f,getSet (eg j) (Ne.symm i)⟩,d.nd,d.sub⟩
set_option maxHeartbeats 2000000 in
theorem L8(G:MD)(X:G.length<=100000)(a M b K c:Nat)(l:List Dg)(hl:l.length<=1000000000000)(O:List Dg)(s:List aa)(h:RS G a M b K c O s):
  bs Tryz.prog 288 [.d (.sl 32 (l.map au)),.ptr a 0,.ptr b 0,.ptr c 0] s λd Z=>d= .d (dB (oR (sK G) l O).1)/\RS G a M b K c (oR (sK G) l O).2 Z:=by
 refine cz Tryz.f288 ?_ [100032,33] [[2,3,12,1,10,11]];refine aC @wj trivial ?_;refine aZ.overI l (λk (b:List Dg×List aa)=>[(12,iN k)]) (λ_ b=>b.2) (λr b=>oR (sK G) r b.1) (oR (sK G) l O) (λ_ U=>RS G a M b K c U.1 U.2) (O,s) a8 aA aA rfl rfl h (λk b x hg hk I L j o=> ?_) (λb I j o=> ?_)
 .obtain⟨O,s⟩:=b;dsimp only at j o;rw[oR]at j;have W:O.length<=100000:=ez (sW o.nd o.sub) (by rw[aM];exact X);have g:=o.app [aa.cells ((au x).map .d)];have u:=g.ha;have w:=g.hg;have B:=g.hb;have E:=g.hm;have m:ey kg (dn x) (cM G) 0=some (eV x G 0):=nZ x G 0
  have q:ey kg (dn x) (cM (gn O)) 0=some (eV x (gn O) 0):=nZ x (gn O) 0;have i:=Bl x O 0;cases t:eV x G 0 with
  |none=>
   rw[t]at m;rw[if_neg (by unfold sK;rw[t];decide)]at j;refine aC (ga @I (ga @L (ga @hg (ga @fw (ga @b9 (ga @u (ga @w (ga @m @wj)))))))) trivial ?_;rw[j];exact⟨rfl,g⟩
  |some r=>
   obtain⟨gi,V⟩:=r;rw[t]at m;have T:x∈G.map (·.1):=by
    have: ¬eV x G 0=none:=by rw[t];simp
    rw[yt]at this;exact fX this
   rw[if_pos (by unfold sK;rw[t];rfl)]at j;by_cases N:bI O x=true
   .rw[if_pos N]at j i;obtain⟨mj,R⟩:=i;rw[R]at q;have y:=jC Tryz.prog V;refine aC (ga @I (ga @L (ga @hg (ga @fw (ga @b9 (ga @u (ga @w (ga @m (ga @B (ga @E (ga @q (ga @y @wj)))))))))))) trivial ?_;exact⟨(O,_),rfl,j,g⟩
   .rw[if_neg N]at j i;rw[i]at q;have y:=jC Tryz.prog V;have Y:=(aV.1 o.hm).1;have A:((s++[aa.cells ((au x).map .d)]).set K (.map true (cM (gn O++[(x,.d (dB true))]))))[s.length]?=some (.cells ((au x).map .d)):=getSet (by simp) a8;have H:=g.put x N T
    obtain⟨s2,n⟩: ∃s2,s2=(s++[aa.cells ((au x).map .d)]).set K (.map true (cM (gn O++[(x,.d (dB true))]))):=⟨_,rfl⟩
    rw[<-n]at A H;rcases o.hc with⟨J,hc⟩|⟨J,v,hc,S⟩
    .have f:s2[c]?=some (.cells [.nil 32]):=by rw[n];exact getSet (bz hc _) (λe=>by subst e;rw[o.hm]at hc;cases hc)
     have F:bw 1 32=true:=by decide
     subst J;have D:[au x].flatten=au x:=by simp
     have C:(s2++[aa.vec 30 32 ((au x).map .d)])[c]?=some (.cells [.nil 32]):=bz f _;have p:=H.nil f
     repeat' first|refine ab (λ_=> ?_) λ_=> ?_|refine aH ?_|simp only[I,L,hg,fw,b9,aM,u,w,m,B,E,q,y,uW,pQ,<-n,f,A,F,D,C,wj,wy,qg,aE,reduceCtorEq,reduceIte,Nat.reduceAdd,Nat.reduceMul,Nat.reduceEqDiff,Nat.reduceLT,Nat.reduceLeDiff,Nat.reduceSub,ax,aD,aB,aw]
     exact⟨([x],_),rfl,j,p⟩
    .have f:s2[c]?=some (.cells [.vec v O.length 32]):=by rw[n];exact getSet (bz hc _) (λe=>by subst e;rw[o.hm]at hc;cases hc)
     have z:s2[v]?=some (.vec 30 32 (dx O)):=by rw[n];exact getSet (bz S _) (λe=>by subst e;rw[o.hm]at S;cases S)
     have F:bw (O.length+1) 32=true:=room_le a8 a8;have P:=mr O;have D:[au x].flatten=au x:=by simp
     have Q:dx O++(au x).map .d=dx (O++[x]):=by rw[vK,vL]
     have C:(s2.set v (.vec 30 32 (dx (O++[x]))))[c]?=some (.cells [.vec v O.length 32]):=getSet f (λe=>by subst e;rw[f]at z;cases z);have p:=H.vec f z
     repeat' first|refine ab (λ_=> ?_) λ_=> ?_|refine aH ?_|simp only[I,L,hg,fw,b9,aM,u,w,m,B,E,q,y,uW,pQ,<-n,f,A,z,P,F,D,Q,C,wj,wy,qg,aE,reduceCtorEq,reduceIte,Nat.reduceAdd,Nat.reduceMul,Nat.reduceEqDiff,Nat.reduceLT,Nat.reduceLeDiff,Nat.reduceSub,ax,aD,aB,aw]
     exact⟨(O++[x],_),rfl,j,p⟩
 .rw[oR]at j;refine aC (ga @I @wj) trivial ?_
  all_goals rw[j]
  all_goals exact⟨rfl,o⟩
theorem zA{s:List aa}{n:Nat}{o:aa}(h:s[n]?=some o):s.set n o=s:=by
 apply gW;intro i;by_cases e:i=n
 .subst e;rw[eg h,h]
 .rw[bC (Ne.symm e)]
end Go.Proofs.Q
