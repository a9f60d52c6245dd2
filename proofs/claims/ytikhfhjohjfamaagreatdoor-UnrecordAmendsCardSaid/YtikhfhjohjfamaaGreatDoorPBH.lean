/- Lemmas. -/
import Derived.Test.YtikhfhjohjfamaaGreatDoorPBG
set_option linter.unusedVariables false
set_option linter.unusedSimpArgs false
set_option maxRecDepth 100000
namespace Go.Proofs.Q
open Go Go.Bb Go.Proofs.Lg
open Go.Ab (D RD)
theorem _root_.Go.Bb.ShsOk.split{a b:List Sh}{ds:List D}(h:ShsOk (a++b) ds): ∃x y,ds=x++y/\ShsOk a x/\ShsOk b y:=by
 have g:=h.1;rw[aQ]at g;refine⟨ds.take a.length,ds.drop a.length,(jV _ _).symm,⟨by rw[cC];omega,λi f d e c=> ?_⟩,⟨by rw[ax];omega,λi f d e c=> ?_⟩⟩
 .have hi:=(aV.1 e).1;rw[fL,if_pos hi]at c;exact h.2 i f d (by rw[fP hi];exact e) c
 .rw[gf]at c;exact h.2 (a.length+i) f d (by rw[iY a8,nQ];exact e) c
theorem _root_.Go.Bb.ShsOk.cons{a:Sh}{b:List Sh}{ds:List D}(h:ShsOk (a::b) ds): ∃x y,ds=x::y/\ShOk a x/\ShsOk b y:=by
 obtain⟨x,y,rfl,c,d⟩:=ShsOk.split (a:=[a]) h
 match x,c.1 with
 |[x],_=>exact⟨x,y,rfl,c.2 0 a x rfl rfl,d⟩
theorem _root_.Go.Bb.ShsOk.nil{ds:List D}(h:ShsOk [] ds):ds=[]:=xD.1 h.1
theorem _root_.Go.Bb.ShOk.int_inv{k:IntKind}{d:D}(h:ShOk (.int k) d): ∃n,d= .sc (.int k n)/\(Lit.int k n).wf=true:=by cases h;exact⟨_,rfl,by assumption⟩
theorem _root_.Go.Bb.ShOk.str_inv{d:D}(h:ShOk .str d): ∃b:ByteArray,d= .sc (.string b)/\b.size<=maxLen:=by cases h;exact⟨_,rfl,by assumption⟩
theorem _root_.Go.Bb.ShOk.sl_inv{sz:Nat}{a:List Sh}{d:D}(h:ShOk (.sl sz a) d): ∃rows,d= .sl sz rows/\rows.length<=maxLen/\ ∀r∈rows,ShsOk a r:=by
 cases h with
 |sl c e f=>exact⟨_,rfl,c,λr b=>⟨e r b,λi k d g j=>f r i k d b g j⟩⟩
theorem FX{α:Type}{f:α->List D}{ok:α->Prop}: ∀(rows:List (List D)),(∀r∈rows,∃x,r=f x/\ok x)-> ∃l:List α,rows=l.map f/\ ∀x∈l,ok x
 |[],_=>⟨[],rfl,by simp⟩
 |r::rows,h=>by
  obtain⟨x,rfl,d⟩:=h r (by simp);obtain⟨l,rfl,b⟩:=FX rows λr c=>h r (er _ c);refine⟨x::l,rfl,λy a=> ?_⟩;rcases bF.1 a with rfl|a
  .exact d
  .exact b y a
theorem Zu{n:Int}(h:(Lit.int .u8 n).wf=true):0<=n/\n<256:=by
 simp[Lit.wf,IntKind.min,IntKind.max,IntKind.bits,IntKind.signed]at h;omega
def zB:List Sh:=List.replicate 32 (.int .u8)
def uX:List Sh:=zB++[.int .i64]
def G7:List Sh:= .int .i64::(uX++(.int .i64::(uX++(.str:: .int .i64:: .str::(uX++(uX++[.sl 1 [.str],.sl 33 uX]))))))
def MK:List Sh:=[.str,.str,.int .i64,.sl 32 zB,.sl 139 G7]
def ML:List Sh:=zB++MK
def YL:Sh:= .sl 37 ML
structure A6(c:az):Prop where
 name:c.name.size<=maxLen
 data:c.data.size<=maxLen
 lines:c.lines.length<=maxLen
 line: ∀s∈c.lines,s.size<=maxLen
 over:c.over.length<=maxLen
structure mg(p:aU):Prop where
 author:p.author.size<=maxLen
 message:p.message.size<=maxLen
 deps:p.deps.length<=maxLen
 changes:p.changes.length<=maxLen
 chg: ∀c∈p.changes,A6 c
structure u0(s:ar):Prop where
 len:s.length<=maxLen
 pat: ∀x∈s,mg x.pat
theorem JH: ∀(n:Nat) (ds:List D),ShsOk (List.replicate n (.int .u8)) ds-> ∃l:List Int,ds=l.map (λb=> .sc (.int .u8 b))/\l.length=n/\ ∀b∈l,0<=b/\b<256
 |0,ds,h=>⟨[],h.nil,rfl,by simp⟩
 |n+1,ds,h=>by
  obtain⟨x,y,rfl,c,d⟩:=h.cons;obtain⟨m,rfl,f⟩:=c.int_inv;obtain⟨l,rfl,e,hb⟩:=JH n y d;refine⟨m::l,rfl,by simp[e],λb a=> ?_⟩;rcases bF.1 a with rfl|h
  .exact Zu f
  .exact hb b h
theorem DY{ds:List D}(h:ShsOk zB ds): ∃d:Dg,ds=au d:=by
 obtain⟨l,rfl,a,hb⟩:=JH 32 ds h;exact⟨⟨l,a,hb⟩,rfl⟩
theorem yB{ds:List D}(h:ShsOk uX ds): ∃x:ak,ds=ae x:=by
 obtain⟨x,y,rfl,a,b⟩:=h.split;obtain⟨d,rfl⟩:=DY a;obtain⟨z,w,rfl,c,e⟩:=b.cons;obtain rfl:=e.nil;obtain⟨n,rfl,_⟩:=c.int_inv;exact⟨⟨d,n⟩,rfl⟩
theorem Ze{d:D}(h:ShOk (.sl 1 [.str]) d): ∃l:List bb,d= .sl 1 (l.map fA)/\l.length<=maxLen/\ ∀s∈l,s.size<=maxLen:=by
 obtain⟨rows,rfl,g,i⟩:=h.sl_inv;obtain⟨l,rfl,a⟩:=FX (f:=fA) (ok:=λs=>s.size<=maxLen) rows λr h=>by
  obtain⟨x,y,rfl,c,e⟩:=(i r h).cons;obtain rfl:=e.nil;obtain⟨b,rfl,hb⟩:=c.str_inv;exact⟨b,rfl,hb⟩
 exact⟨l,rfl,by simpa using g,a⟩
theorem Cy{α:Type}{f:α->List D}{ok:α->Prop}{sz:Nat}{a:List Sh}{d:D}(c: ∀ds,ShsOk a ds-> ∃x,ds=f x/\ok x)(h:ShOk (.sl sz a) d): ∃l:List α,d= .sl sz (l.map f)/\l.length<=maxLen/\ ∀x∈l,ok x:=by
 obtain⟨rows,rfl,e,g⟩:=h.sl_inv;obtain⟨l,rfl,b⟩:=FX (f:=f) (ok:=ok) rows λr h=>c r (g r h);exact⟨l,rfl,by simpa using e,b⟩
theorem Sd{d:D}(h:ShOk (.sl 33 uX) d): ∃l:List ak,d= .sl 33 (l.map ae)/\l.length<=maxLen:=by
 obtain⟨l,a,b,_⟩:=Cy (f:=ae) (ok:=λ_=>True) (λds h=>let⟨x,h⟩:=yB h;⟨x,h,trivial⟩) h;exact⟨l,a,b⟩
theorem QX{d:D}(h:ShOk (.sl 32 zB) d): ∃l:List Dg,d= .sl 32 (l.map au)/\l.length<=maxLen:=by
 obtain⟨l,a,b,_⟩:=Cy (f:=au) (ok:=λ_=>True) (λds h=>let⟨x,h⟩:=DY h;⟨x,h,trivial⟩) h;exact⟨l,a,b⟩
theorem Qj{ds:List D}(h:ShsOk G7 ds): ∃c:az,ds=aR c/\A6 c:=by
 unfold G7 at h;obtain⟨x0,O,rfl,h0,f⟩:=h.cons;obtain⟨kind,rfl,_⟩:=h0.int_inv;obtain⟨F,P,rfl,p,g⟩:=f.split;obtain⟨file,rfl⟩:=yB p;obtain⟨G,Q,rfl,q,i⟩:=g.cons;obtain⟨type,rfl,_⟩:=q.int_inv;obtain⟨H,R,rfl,r,j⟩:=i.split;obtain⟨parent,rfl⟩:=yB r;obtain⟨I,S,rfl,s,k⟩:=j.cons;obtain⟨name,rfl,y⟩:=s.str_inv;obtain⟨J,T,rfl,t,l⟩:=k.cons;obtain⟨mode,rfl,_⟩:=t.int_inv
 obtain⟨K,U,rfl,u,m⟩:=l.cons;obtain⟨data,rfl,z⟩:=u.str_inv;obtain⟨L,V,rfl,v,n⟩:=m.split;obtain⟨after,rfl⟩:=yB v;obtain⟨M,W,rfl,w,o⟩:=n.split;obtain⟨before,rfl⟩:=yB w;obtain⟨N,X,rfl,x,a⟩:=o.cons;obtain⟨lines,rfl,A,B⟩:=Ze x;obtain⟨C,E,rfl,d,b⟩:=a.cons;obtain⟨over,rfl,e⟩:=Sd d;obtain rfl:=b.nil
 exact⟨⟨kind,file,type,parent,name,mode,data,after,before,lines,over⟩,by simp only[aR,xH,gb,bt],y,z,A,B,e⟩
theorem Uw{ds:List D}(h:ShsOk MK ds): ∃p:aU,ds=br p/\mg p:=by
 obtain⟨x0,u,rfl,h0,a⟩:=h.cons;obtain⟨author,rfl,o0⟩:=h0.str_inv;obtain⟨q,v,rfl,g,b⟩:=a.cons;obtain⟨message,rfl,l⟩:=g.str_inv;obtain⟨r,w,rfl,i,c⟩:=b.cons;obtain⟨time,rfl,_⟩:=i.int_inv;obtain⟨s,x,rfl,j,d⟩:=c.cons;obtain⟨deps,rfl,m⟩:=QX j;obtain⟨t,y,rfl,k,e⟩:=d.cons;obtain⟨changes,rfl,n,o⟩:=Cy (f:=aR) (ok:=A6) (λds h=>Qj h) k;obtain rfl:=e.nil
 exact⟨⟨author,message,time,deps,changes⟩,rfl,o0,l,m,n,o⟩
theorem Zd{ds:List D}(h:ShsOk ML ds): ∃x:bD,ds=aX x/\mg x.pat:=by
 obtain⟨x,y,rfl,a,b⟩:=h.split;obtain⟨d,rfl⟩:=DY a;obtain⟨p,rfl,hp⟩:=Uw b;exact⟨⟨d,p⟩,rfl,hp⟩
theorem a07{d:D}(h:ShOk YL d): ∃s:ar,d= .sl 37 (s.map aX)/\u0 s:=by
 obtain⟨s,a,b,c⟩:=Cy (f:=aX) (ok:=λx=>mg x.pat) (λds h=>Zd h) h;exact⟨s,a,b,c⟩
end Go.Proofs.Q
namespace Go.Proofs.Q
open Go Go.Bb Go.RowKit Go.Proofs.Lg
open Go.Ab (D RD)
theorem Ca(l:List Dg)(d:Dg):aI Tryz.prog 166 [.sl 32 (l.map au),.agg (au d)] (dB (bI l d)):=by
 refine aI.big (kM (by kernel_rfl)) 0 rfl λb=> ?_;rw[aM]at b;refine aL Tryz.f166 ?_ [100003] [[5,3,0]];refine aC trivial trivial ?_;refine aZ.over l (λk (_:Unit)=>[(5,iN k)]) (λ_ _=>[]) (λr _=>bI r d) (bI l d) () b aA aA rfl rfl (λk _ x hg hk a c e=> ?_) (λ_ a e=> ?_)
 .repeat' first|refine ab (λ_=> ?_) λ_=> ?_|refine aG (ga @a (ga @c @hg)) trivial ?_|exact aF (ga @a (ga @c @hg)) trivial|fail
  all_goals(simp_all[bI,cj];try exact ch)
 .refine aC @a trivial ?_
  all_goals(simp_all[bI,cj];try exact ch)
theorem ZS(ids:List Dg)(x:bD)(s:ar):kY ids (x::s)=if bI ids x.id=true then kY ids s else x::kY ids s:=by
 unfold kY;rw[List.filter_cons];cases h:bI ids x.id<;>simp
set_option maxHeartbeats 1000000 in
theorem W5(s:ar)(ids:List Dg)(i:s.length<=1000000):aI Tryz.prog 167 [.sl 37 (s.map aX),.sl 32 (ids.map au)] (.sl 37 ((kY ids s).map aX)):=by
 refine aL Tryz.f167 ?_ [100027] [[6,0,5,1]];refine aC trivial trivial ?_;refine aZ.overI s (λk (b:ar)=>[(6,iN k),(5,.tsl 0 37 (b.map aX))]) (λk b=>[.row 71 37 b.length]) (λr b=>b++kY ids r) (kY ids s) (λk b=>b.length<=k) [] a8 aA aA rfl (by simp) (by simp) (λk b x hg hk c e a g=> ?_) (λb c a g=> ?_)
 .have d:bw (b.length+1) 120=true:=by simp only[bw,decide_eq_true_eq];omega
  rw[ZS]at a;by_cases h:bI ids x.id=true
  .rw[if_pos h]at a;refine aC (ga @c (ga @e (ga @hg (ga @d (ga @h (ga @Cd @fg)))))) @Ca ?_;exact⟨b,rfl,rfl,a,by omega⟩
  .have f:bI ids x.id=false:=by simpa using h
   rw[if_neg h]at a;refine aC (ga @c (ga @e (ga @hg (ga @d (ga @f (ga @Cd @fg)))))) @Ca ?_;exact⟨b++[x],by simp,by simp,by rw[a];simp,by simp;omega⟩
 .simp[kY]at a;refine aC @c trivial ?_
  all_goals(simp[kY,a])
theorem W3(s:ar)(d:Dg)(j:gh s):aI Tryz.prog 98 [.sl 37 (s.map aX),.agg (au d)] (.tup [.sl 37 ((eT s d).1.map aX),dI (eT s d).2]):=by
 have c:=j.len;have b:=uJ s d;have g:=W5 s [d] c;unfold eT;cases hg:bh s d with
 |none=>
  rw[hg]at b;rw[if_pos rfl];refine aL Tryz.f98 ?_ [100003,100017,100032,100035] [[8,3,0]];exact bL (ga @dG @bH) @b
  all_goals rfl
 |some q=>
  rw[hg]at b;rw[if_neg (by simp)];obtain⟨B,f⟩: ∃B,B=sU d s:=⟨_,rfl⟩
  rw[<-f];refine aL Tryz.f98 ?_ [100003,100017,100032,100035] [[8,3,0]];refine aC (ga @dG @bH) @b ?_;refine aZ.over s (λk (_:Unit)=>[(8,iN k)]) (λ_ _=>_) (λr _=>sU d r) B () a8 aA aA rfl f (λk _ x hg hk e l a=> ?_) (λ_ e a=> ?_)
  .have i:=za x.pat (j.pat x (bR hg));rw[sU]at a;clear f b g
   repeat' first|refine ab (λ_=> ?_) λ_=> ?_|refine aG (ga @e (ga @l @hg)) (ga @i @Ca) ?_|exact aF (ga @e (ga @l @hg)) (ga @i @Ca)|fail
   .rename_i h;rw[a,if_pos h];rfl
   .rename_i h;rw[if_neg (by simp[h])]at a;exact⟨(),a⟩
  .rw[sU]at a;subst a;exact bL (ga @e (ga @fy @b9)) @g
   all_goals rfl
theorem Sp(f:AV)(s:List aa):bs Tryz.prog 387 [.nil 32,.d (dI 0),.d (dI 0),f] s λd c=>d= .tup []/\c=s:=by
 have b:IntKind.i64.wrap (0+1)=1:=by rfl
 have a:decide ((1:Int)<0)=false:=by decide
 refine cz Tryz.f387 ?_ [] [[1,3,8,0,2],[9,0,8,1,3,2]];refine aC (ga @b @wj) trivial ?_;refine aZ.tr (λ(_:Unit)=>[(8,.d (dI 1))]) (λ_=>s) (λ_ _=>True) 0 () aA aA rfl trivial ?_;intro m _ _;exact bL (ga @a @wj) trivial
 all_goals first|rfl|exact⟨rfl,rfl⟩
theorem US(f:FuncId)(s:List aa):bs Tryz.prog 336 [.nil 32,.d (dI 0),.d (dI 0),.d (dI 0),.clo f [] []] s λd e=>d= .tup []/\e=s:=by
 have a:=Sp (.clo f [] []) s;have c:IntKind.i64.wrap (0-0)=0:=by rfl
 have b:decide ((0:Int)<=12)=true:=by decide
 refine cz Tryz.f336 ?_ [] [[4,2,1,0,11,10,3]];refine aC @wj trivial ?_;refine aZ.tr (λ(_:Unit)=>[]) (λ_=>s) (λ_ _=>True) 0 () aA aA rfl trivial ?_;intro m _ _;exact yy (ga @c (ga @b @wj)) @a
 all_goals first|rfl|exact⟨rfl,rfl⟩
theorem Z4(f:FuncId)(s:List aa):bs Tryz.prog 264 [.nil 32,.clo f [] []] s λd c=>d= .tup []/\c=s:=by
 have a:=US f s;refine cz Tryz.f264 ?_;have b:IntKind.u64.wrap 0=0:=by rfl
 repeat' first|refine ab (λ_=> ?_) λ_=> ?_|refine aG (ga @b @wj) (ga @vJ @a) ?_|exact aF (ga @b @wj) (ga @vJ @a)|fail
 all_goals first|rfl|exact⟨rfl,rfl⟩
def nb:List Dg->List Dg->List Dg
 |[],O=>O
 |d::l,O=>nb l (if bI O d=true then O else O++[d])
theorem Dp(a:Dg->Bool): ∀(l O:List Dg),(∀d∈l,a d=true)->oR a l O=(true,nb l O)
 |[],O,_=>rfl
 |d::l,O,h=>by rw[oR,nb,if_pos (h d (by simp)),Dp a l _ λx b=>h x (by simp[b])]
theorem H2(a:Dg->Bool): ∀(l O:List Dg) (d:Dg),d∈l-> ¬a d=true->(oR a l O).1=false
 |e::l,O,d,h,hk=>by
  rw[oR];by_cases b:a e=true
  .rw[if_pos b];rcases bF.1 h with rfl|h
   .exact absurd b hk
   .exact H2 a l _ d h hk
  .rw[if_neg b]
theorem uC(x:Dg): ∀(l O:List Dg),x∈nb l O↔x∈l\/x∈O
 |[],O=>by simp[nb]
 |d::l,O=>by
  rw[nb,uC x l];by_cases h:bI O d=true
  .rw[if_pos h];have:=(jA O d).1 h;constructor
   .rintro(h|h)
    .exact .inl (by simp[h])
    .exact .inr h
   .rintro(h|h)
    .rcases bF.1 h with rfl|h
     .exact .inr this
     .exact .inl h
    .exact .inr h
  .rw[if_neg h];simp only[fk,bF,List.not_mem_nil,or_false];constructor
   .rintro(h|h|h)
    .exact .inl (.inr h)
    .exact .inr h
    .exact .inl (.inl h)
   .rintro((h|h)|h)
    .exact .inr (.inr h)
    .exact .inl h
    .exact .inr (.inl h)
theorem GZ: ∀(l O:List Dg),∃Z,nb l O=O++Z
 |[],O=>⟨[],by simp[nb]⟩
 |d::l,O=>by
  rw[nb];obtain⟨Z,a⟩:=GZ l (if bI O d=true then O else O++[d]);rw[a];split
  .exact⟨Z,rfl⟩
  .exact⟨[d]++Z,by simp⟩
inductive sf(N:Dg->List Dg)(ids:List Dg):Dg->Prop
 |base {x:Dg}:x∈ids->sf N ids x
 |step {y x:Dg}:sf N ids y->x∈N y->sf N ids x
structure qS(N:Dg->List Dg)(ids:List Dg)(i:Nat)(O:List Dg):Prop where
 le:i<=O.length
 base: ∀x∈ids,x∈O
 rch: ∀x∈O,sf N ids x
 step: ∀j y,j<i->O[j]?=some y-> ∀x∈N y,x∈O
theorem qS.start(N:Dg->List Dg)(ids:List Dg):qS N ids 0 (nb ids []):=
 ⟨fG _,λx a=>(uC x ids []).2 (.inl a),λx a=>(by rcases(uC x ids []).1 a with h|h;exact .base h;cases h),λ_ _ h=>absurd h a8⟩
theorem qS.next{N:Dg->List Dg}{ids:List Dg}{i:Nat}{O:List Dg}(h:qS N ids i O){y:Dg}(c:O[i]?=some y):qS N ids (i+1) (nb (N y) O):=by
 obtain⟨Z,d⟩:=GZ (N y) O;have hi:=(aV.1 c).1;refine⟨by rw[d,aQ];omega,λx a=>(uC x _ _).2 (.inr (h.base x a)),λx a=> ?_,λj z e b x a=> ?_⟩
 .rcases(uC x _ _).1 a with a|a
  .exact .step (h.rch y (bR c)) a
  .exact h.rch x a
 .rw[d,fP a8]at b;rcases Nat.lt_succ_iff_lt_or_eq.1 e with hlt|rfl
  .exact(uC x _ _).2 (.inr (h.step j z hlt b x a))
  .rw[c]at b;cases b;exact(uC x _ _).2 (.inl a)
theorem qS.done{N:Dg->List Dg}{ids:List Dg}{O:List Dg}(h:qS N ids O.length O)(x:Dg):x∈O↔sf N ids x:=by
 refine⟨h.rch x,λd=> ?_⟩
 induction d with
 |base b=>exact h.base _ b
 |step _ c e=>
  obtain⟨j,a⟩:=fE e;exact h.step j _ (aV.1 a).1 a _ c
theorem QS{s:List aa}{v:Nat}{L:List Dg}(h:s[v]?=some (.vec 30 32 (dx L)))(f n:Nat)(a:n=L.length):bE s (f+2) (.vec v n 32)=some (.sl 32 (L.map au)):=by
 subst a;show(match s[v]? with|some (.vec _ sz2 ds)=>if sz2=32/\0<32/\ds.length=L.length*32 then(dw (bE s (f+1)) ds).map λes=>D.sl 32 (chunk 32 L.length es)else none|_=>none)=_;rw[h];show(if _ then _ else _)=_;rw[if_pos ⟨rfl,by decide,mr L⟩,ud,uj,eY,xZ]
theorem J1{d:Dg}: ∀{m:MD} {i:Nat},d∈m.map (·.1)-> ∃j v,eV d m i=some (j,v)/\(d,v)∈m
 |e::m,i,h=>by
  rw[eV];by_cases a:d=e.1
  .exact⟨i,e.2,by rw[if_pos a],by rw[a];simp⟩
  .rw[if_neg a];obtain⟨j,v,b,c⟩:=J1 (m:=m) (i:=i+1) (by rcases bF.1 h with h|h;exact absurd h a;exact h);exact⟨j,v,b,by simp[c]⟩
set_option maxHeartbeats 2000000 in
theorem V8(G:MD)(N:Dg->List Dg)(S:G.length<=100000)(Y: ∀e∈G,e.2.toD=some (.sl 32 ((N e.1).map au))/\(N e.1).length<=1000000000000/\ ∀x∈N e.1,x∈G.map (·.1))(l:Nat)(ids:List Dg)(hl:ids.length<=1000000)(s:List aa)(y:s[l]?=some (.map true (cM G))):
  bs Tryz.prog 230 [.mp l,.d (.sl 32 (ids.map au))] s λd s'=>((∀x∈ids,x∈G.map (·.1))/\ ∃(O:List Dg) (v:AV),O.Nodup/\(∀x,x∈O↔sf N ids x)/\d= .tup [v,.d (dB true)]/\ ∀f,bE s' (f+2) v=some (.sl 32 ((O.mergeSort fp).map au)))\/((¬ ∀x∈ids,x∈G.map (·.1))/\d= .tup [.nil 32,.d (dB false)]):=by
 have o: ∀x,sK G x=true↔x∈G.map (·.1):=λx=>by
  unfold sK;have:= @yt x G 0;cases h:eV x G 0 with
  |none=>simp[this.1 h]
  |some r=>
   simp only[nS,true_iff];exact fX λL=>by rw[this.2 L]at h;cases h
 have a1:=(aV.1 y).1;have u:RS G s.length l (s.length+2) (s.length+1) (s.length+3) [] (s++[.cells [.mp l],.map true [],.cells [.mp (s.length+1)],.cells [.nil 32]]):=
  ⟨by simp,bz y _,by simp,by simp[gn,cM],by omega,.inl ⟨rfl,by simp⟩,by simp,by simp⟩
 have q:=L8 G S s.length l (s.length+2) (s.length+1) (s.length+3) ids a8 [] _ u;refine cz Tryz.f230 ?_ [] [[9,7,2,8]];by_cases a: ∀x∈ids,x∈G.map (·.1)
 .rw[Dp _ ids [] λd g=>(o d).2 (a d g)]at q
  repeat' first|refine ab (λ_=> ?_) λ_=> ?_|(refine af.fn (q.mono ?_);rintro _ k ⟨rfl,c⟩)|refine aG @wj trivial ?_|exact aF @wj trivial|fail
  clear q u;refine aZ.tr (λ(b:Nat×List Dg×List aa)=>[(9,iN b.1)]) (λb=>b.2.2) (λm b=>m+b.1=G.length/\RS G s.length l (s.length+2) (s.length+1) (s.length+3) b.2.1 b.2.2/\qS N ids b.1 b.2.1) G.length (0,nb ids [],k) aA aA rfl ⟨rfl,c,qS.start N ids⟩ ?_;clear c;rintro m ⟨i,O,k⟩ ⟨hm,c,t⟩;dsimp only at hm c t⊢;have J:=t.le
  have T:O.length<=G.length:=ez (sW c.nd c.sub) (by rw[aM];exact bg _);have ha:=c.ha;have hg:=c.hg;rcases c.hc with⟨n,hc⟩|⟨n,v,hc,p⟩
  .subst n;have H:i=0:=by simpa using J
   subst H;have g:decide ((0:Int)<0)=false:=by decide
   have B:=Z4 183 k
   repeat' first|refine ab (λ_=> ?_) λ_=> ?_|refine aG (ga @hc (ga @g @wj)) @B ?_|exact aF (ga @hc (ga @g @wj)) @B|fail
   exact .inl ⟨a,[],.nil 32,List.nodup_nil,t.done,rfl,λf=>by simp[bE,AV.toD,AV.toL]⟩
  .by_cases hi:i<O.length
   .have V:O[i]?=some O[i]:=bQ hi;have g:decide ((i:Int)<(O.length:Int))=true:=by simp;omega
    have U:IntKind.i64.wrap ((i:Int)+1)=((i+1:Nat):Int):=bN a8 a8;have P:=c.sub O[i] (vr hi);obtain⟨X,R,Z,F⟩:=J1 P;obtain⟨n1,n2,n3⟩:=Y _ F;have w:ey kg (dn O[i]) (cM G) 0=some (some (X,R)):=by rw[nZ,Z]
    have z:=jC Tryz.prog R;have a0:=xX V;have j:=mr O;have W:i*32+32<=O.length*32:=by omega
    have Q:=bs.toD1 n1 (L8 G S s.length l (s.length+2) (s.length+1) (s.length+3) (N O[i]) n2 O k c);rw[Dp _ (N O[i]) O λd g=>(o d).2 (n3 d g)]at Q
    repeat' first|refine ab (λ_=> ?_) λ_=> ?_|(refine af.fn (Q.mono ?_);rintro _ s2 ⟨rfl,C⟩)|refine aG (ga @hc (ga @g (ga @U (ga @p (ga @hi (ga @j (ga @ha (ga @hg (ga @w (ga @z (ga @a0 (ga @W @wj)))))))))))) trivial ?_|exact aF (ga @hc (ga @g (ga @U (ga @p (ga @hi (ga @j (ga @ha (ga @hg (ga @w (ga @z (ga @a0 (ga @W @wj)))))))))))) trivial|fail
    exact⟨m-1,(i+1,nb (N O[i]) O,s2),by omega,rfl,rfl,by dsimp only;omega,C,t.next V⟩
   .have I:i=O.length:=by omega
    subst I;have g:decide ((O.length:Int)<(O.length:Int))=false:=by simp
    have B:=MU p n a8;have D:(k.set v (.vec 30 32 (dx (O.mergeSort fp))))[s.length+3]?=some (.cells [.vec v O.length 32]):=getSet hc (λe=>by subst e;rw[hc]at p;cases p);have A:(k.set v (.vec 30 32 (dx (O.mergeSort fp))))[v]?=some (.vec 30 32 (dx (O.mergeSort fp))):=eg p
    have j:(dx (O.mergeSort fp)).length=O.length*32:=by rw[mr,lj]
    have K:dw (bE (k.set v (.vec 30 32 (dx (O.mergeSort fp)))) 3) (dx (O.mergeSort fp))=some (((O.mergeSort fp).map au).flatten):=by rw[ud];exact uj _ 2 _
    have E:chunk 32 O.length (((O.mergeSort fp).map au).flatten)=(O.mergeSort fp).map au:=by
     have:=xZ (O.mergeSort fp);rw[lj]at this;exact this
    refine sH (ga @hc (ga @g (ga @D (ga @A (ga @j (ga @K (ga @E @wj))))))) @B ?_;exact .inl ⟨a,O,_,c.nd,t.done,rfl,λf=>QS A f _ (lj _).symm⟩
 .obtain⟨d,g,M⟩: ∃d,d∈ids/\ ¬d∈G.map (·.1):=fX λh=>a λx hx=>fX λL=>h ⟨x,hx,L⟩;rw[H2 _ ids [] d g λh=>M ((o d).1 h)]at q
  repeat' first|refine ab (λ_=> ?_) λ_=> ?_|(refine af.fn (q.mono ?_);rintro _ k ⟨rfl,c⟩)|refine aG @wj trivial ?_|exact aF @wj trivial|fail
  all_goals first|exact .inr ⟨a,rfl⟩|exact .inr a|trace_state
theorem Mk{P:Program}{N:Nat}{cs:List CO}{tail:CC}{Q:Exit->Fr->List aa->Prop}{fr:Fr}{s:List aa}(h:cy P none (.seq (.ops false [] cs) tail) Q fr s){b:List Nat}{ops:Array Oper}{l:List Oper}(e:kK P b ops l=some cs){c:Code}(hc:dH P N c tail):
  ∃d a s2,iJ (dH P) P ops l fr s d a s2/\eG (dH P) P N none c a s2 Q:=by
 obtain⟨d,a,s2,hk,ha⟩:=rS (show cW P cs (qQ false [] (gg (cy P none tail Q) Q)) [] fr s from h);exact⟨d,a,s2,ha b ops l e,eG.ofAC (bG hk.2) hc⟩
def CK:List CO:=[o0 14 (.ext (.t 13) 0),o0 15 (.ext (.t 13) 1),o0 4 (.box (.c (.agg rT))),oN (.st 32 (.t 4) (.t 14)),om 5 15]
def Zn:CC:=
 (.seq
 (fo [om 16 3,o0 17 (.ld (some 32) (.t 4)),o0 19 (.bsf 32 0 [] []),o0 20 (.men true kg (.nil 32) (.t 16) (.t 17)),o0 18 (.ext (.t 20) 0),o0 21 (.app false 30 32 32 (.t 18) (.t 19)),o0 22 (.ext (.t 20) 1),oN (.mst (.t 16) (.t 22) (.t 21))])
 (.seq
 (fo [om 23 5,o0 24 (.len 0 (.t 23)),o0 25 (.mov (xi 0))])
 (.block 2
 (.loop
 (.trim [25,4,3,23,24,10]
 (.seq
 (fo [o0 26 (.bin .lss (.t 25) (.t 24))])
 (.seq
 (.cond (.t 26)
 .skip
 (.exit 2))
 (.seq
 (.block 3
 (.seq
 (fo [o0 27 (.iad 32 (.t 23) (.t 25)),o0 28 (.ld (some 32) (.t 27)),o0 7 (.box (.c (.agg rT))),oN (.st 32 (.t 7) (.t 28))])
 (fo [om 29 3,o0 30 (.ld (some 32) (.t 7)),o0 32 (.ld (some 32) (.t 4)),o0 33 (.bsf 32 1 rT [(0,32,(.t 32))]),o0 34 (.men true kg (.nil 32) (.t 29) (.t 30)),o0 31 (.ext (.t 34) 0),o0 35 (.app false 30 32 32 (.t 31) (.t 33)),o0 36 (.ext (.t 34) 1),oN (.mst (.t 29) (.t 36) (.t 35))])))
 (fo [o0 37 (.bin .add (.t 25) (xi 1)),om 25 37])))))))))
def Gm:CC:=(fo [o0 2 (.mov (.c (.d (.sc (.map none)))))])
def Gn:CC:=(fo [o0 8 (.mkm true),om 3 8])
def Gp:CC:=(.seq (fo [om 38 3,om 2 38]) .ret)
theorem Zo: ∃(cX k l rest:Code) (b c a:Array Oper) (h i e f g:Oper) (j:List Oper),
  Tryz.f229.body=some (.seq cX (.seq k (.seq (.seq (.region 2 b false) (.block 0 (.loop (.seq (.region 3 c false) (.seq (.cond (.tmp 12) .skip (.exit 0)) (.block 1 (.seq (.region 4 a false) rest))))))) l)))/\
  (comp Tryz.prog [100019,100033] 39 cX=some Gm.erase/\comp Tryz.prog [100019,100033] 39 k=some Gn.erase/\comp Tryz.prog [100019,100033] 39 l=some Gp.erase/\comp Tryz.prog [100019,100033] 39 rest=some Zn.erase/\kK Tryz.prog [100019,100033] a j=some CK)/\
  (b.toList=[h,i]/\h.guard=none/\h.op= .move (.tmp 0)/\h.dst=some 9/\i.guard=none/\i.op= .range 256 (.tmp 9)/\i.dst=some 10)/\
  (c.toList=[e,f]/\e.guard=none/\e.op= .next (.tmp 10) false/\e.dst=some 11/\f.guard=none/\f.op= .extract (.tmp 11) 0/\f.dst=some 12)/\
  (a.toList=g::j/\g.guard=none/\g.op= .entry (.tmp 10)/\g.dst=some 13)/\(j.all λo=>(o.dst.all λd=>decide (d<39))&&fj o)=true:=
 ⟨_,_,_,_,_,_,_,_,_,_,_,_,_,rfl,⟨by kernel_rfl,by kernel_rfl,by kernel_rfl,by kernel_rfl,by kernel_rfl⟩,⟨rfl,rfl,rfl,rfl,rfl,rfl,rfl⟩,⟨rfl,rfl,rfl,rfl,rfl,rfl,rfl⟩,⟨rfl,rfl,rfl,rfl⟩,by kernel_rfl⟩
end Go.Proofs.Q
