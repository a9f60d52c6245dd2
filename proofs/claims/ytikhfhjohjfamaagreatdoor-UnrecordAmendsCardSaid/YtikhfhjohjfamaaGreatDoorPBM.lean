/- Lemmas. -/
import Derived.Test.YtikhfhjohjfamaaGreatDoorSI
set_option linter.unusedVariables false
set_option linter.unusedSimpArgs false
set_option maxRecDepth 100000
namespace Go.Proofs.Q
open Go Go.Bb Go.RowKit Go.Proofs.Lg
open Go.Ab (D RD)
theorem Sg(l:List Dg)(p:l.length<=1000000)(g:FuncId)(i cs:List AV)(a:Dg->Bool)(s:List aa)(e: ∀(x:Dg) (K:AV->List aa->Nat->Prop),x∈l->(∀h,K (.d (dB (a x))) s h)->af Tryz.prog (.clo g i cs) [.d (.agg (au x))] s K):
  bs Tryz.prog 261 [.d (.sl 32 (l.map au)),.clo g i cs] s λd o=>d= .d (dI (eI a l 0))/\o=s:=by
 refine cz Tryz.f261 ?_ [] [[8,0,1,7]];refine aC @wj trivial ?_;refine aZ.overI l (λk (b:Unit)=>[(8,iN k)]) (λ_ _=>s) (λr _=>eI a r (l.length-r.length)) (eI a l 0) (λ_ _=>True) () a8 aA aA rfl (by rw[jc]) trivial (λk _ x hg hk f j c _=> ?_) (λ_ f c _=> ?_)
 .have m:l.length-(x::l.drop (k+1)).length=k:=by rw[aY,ax];omega
  have n:l.length-(l.length-(k+1))=k+1:=by omega
  rw[m,eI]at c;have hc:=e x;by_cases hp:a x=true
  .rw[if_pos hp]at c;rw[hp]at hc
   repeat' first|refine ab (λ_=> ?_) λ_=> ?_|refine aH ?_|(refine hc _ (bR hg) (λh=> ?_))|simp only[f,j,hg,wj,wy,qg,aE,simprocAttr,ax,aD,aB,aw]
   all_goals rw[c]
  .rw[if_neg hp]at c;rw[show a x=false by simpa using hp]at hc
   repeat' first|refine ab (λ_=> ?_) λ_=> ?_|refine aH ?_|(refine hc _ (bR hg) (λh=> ?_))|simp only[f,j,hg,wj,wy,qg,aE,simprocAttr,ax,aD,aB,aw]
   all_goals exact⟨(),by rw[n];exact c⟩
 .rw[eI]at c;refine aC (ga @f @wj) trivial ?_
  all_goals rw[c]
theorem I5(l:List Dg)(i:l.length<=1000000)(g:FuncId)(c cs:List AV)(a:Dg->Bool)(s:List aa)(b: ∀(x:Dg) (K:AV->List aa->Nat->Prop),x∈l->(∀h,K (.d (dB (a x))) s h)->af Tryz.prog (.clo g c cs) [.d (.agg (au x))] s K):
  bs Tryz.prog 184 [.d (.sl 32 (l.map au)),.clo g c cs] s λd j=>d= .d (dB (l.any a))/\j=s:=by
 have f:=Sg l i g c cs a s b;have e:=Bx a l 0;refine cz Tryz.f184 ?_
 repeat' first|refine ab (λ_=> ?_) λ_=> ?_|refine aG (ga @e @wj) @f ?_|exact aF (ga @e @wj) @f|fail
 all_goals first|rfl|exact⟨rfl,rfl⟩|(simp_all;done)|trace_state
structure OS(G:MD)(a m b g0:Nat)(O:List Dg)(s:List aa):Prop where
 ha:s[a]?=some (.cells [.mp m])
 hm:s[m]?=some (.map true (cM (gn O)))
 hb:s[b]?=some (.cells [.mp g0])
 hg:s[g0]?=some (.map true (cM G))
theorem J3(O:List Dg)(d:Dg):((eV d (gn O) 0).map (·.2)).getD (.d (dB false))= .d (dB (bI O d)):=by
 have h:=Bl d O 0;by_cases a:bI O d=true
 .rw[if_pos a]at h;obtain⟨j,b⟩:=h;rw[b,a];rfl
 .rw[if_neg a]at h;rw[h,show bI O d=false by simpa using a];rfl
theorem UZ{G:MD}{a m b f:Nat}{O:List Dg}{s:List aa}(h:OS G a m b f O s)(d:Dg):bs Tryz.prog 320 [.d (.agg (au d)),.ptr a 0] s λv i=>v= .d (dB (!bI O d))/\i=s:=by
 obtain⟨ha,hm,hb,hg⟩:=h;have e:=nZ d (gn O) 0;have c:=J3 O d;obtain⟨q,g⟩: ∃q,q=eV d (gn O) 0:=⟨_,rfl⟩
 rw[<-g]at e c;refine cz Tryz.f320 ?_ [100002]
 repeat' first|refine ab (λ_=> ?_) λ_=> ?_|refine aG (ga @ha (ga @hm (ga @e (ga @c @wj)))) trivial ?_|exact aF (ga @ha (ga @hm (ga @e (ga @c @wj)))) trivial|fail
 all_goals(rename_i h;rw[h];rfl)
theorem RB{l:ar}(b:(b8 l).Nodup){x:bD}(c:x∈l): ∃i,eV x.id (gS l) 0=some (i,.d (.sl 32 ((bu x.pat).map au))):=by
 suffices h: ∀(l:ar) (k:Nat),(b8 l).Nodup->x∈l-> ∃i,eV x.id (gS l) k=some (i,.d (.sl 32 ((bu x.pat).map au)))from h l 0 b c;intro l
 induction l with
 |nil=>intro k _ h;cases h
 |cons y l f=>
  intro k a h;unfold b8 at a;rw[bX,nP]at a;show∃i,(if x.id=y.id then some (k,_)else eV x.id (gS l) (k+1))=_;rcases bF.1 h with rfl|h
  .exact⟨k,if_pos rfl⟩
  .rw[if_neg λ(e:x.id=y.id)=>a.1 (by rw[<-e];exact eR h)];exact f (k+1) a.2 h
def lO(O:List Dg)(x:bD):Bool:= !bI O x.id&&(bu x.pat).all (bI O ·)
theorem V1{l:ar}{a m b p:Nat}{O:List Dg}{s:List aa}(h:OS (gS l) a m b p O s)(j:(b8 l).Nodup){x:bD}(w:x∈l)(t:(bu x.pat).length<=1000000):bs Tryz.prog 319 [.d (.agg (aX x)),.ptr a 0,.ptr b 0] s λv k=>v= .d (dB (lO O x))/\k=s:=by
 have o:=I5 (bu x.pat) t 320 [] [.ptr a 0] (λd=> !bI O d) s (λd K _ r=>af.fn ((UZ h d).mono (by rintro _ k ⟨rfl,rfl⟩;exact r 2)));obtain⟨ha,hm,hb,hg⟩:=h;have g:=nZ x.id (gn O) 0;have c:=J3 O x.id;obtain⟨q,u⟩: ∃q,q=eV x.id (gn O) 0:=⟨_,rfl⟩
 rw[<-u]at g c;have f:=nZ x.id (gS l) 0;obtain⟨i,hi⟩:=RB j w;rw[hi]at f;have e:lO O x=(!bI O x.id&& !((bu x.pat).any λd=> !bI O d)):=by
  unfold lO;congr 1;rw[List.not_any_eq_all_not];congr 1;funext d;simp
 rw[e];refine cz Tryz.f319 ?_ [100003];by_cases n:bI O x.id=true
 .rw[n]at c⊢;exact bL (ga @ha (ga @hm (ga @g (ga @c @wj)))) trivial
 .rw[show bI O x.id=false by simpa using n]at c⊢
  repeat' first|refine ab (λ_=> ?_) λ_=> ?_|refine aH ?_|(refine af.fn (o.mono ?_);rintro _ k ⟨rfl,rfl⟩)|simp only[ha,hm,hb,hg,g,c,f,eY,eF,wj,wy,qg,aE,simprocAttr,ax,aD,aB,aw]
  all_goals(rename_i h;rw[h];rfl)
def ko(l:ar):Nat->List Dg->List Dg
 |0,O=>O
 |n+1,O=>if eI (lO O) l 0<0 then O else ko l n (O++[((l[(eI (lO O) l 0).toNat]?).map (·.id)).getD .zero])
theorem Tk(O:List Dg)(d:Dg):gn O++[(d,.d (dB true))]=gn (O++[d]):=by simp[gn]
theorem OS.app{G:MD}{a m b c:Nat}{O:List Dg}{s:List aa}(h:OS G a m b c O s)(J:List aa):OS G a m b c O (s++J):=⟨bz h.ha J,bz h.hm J,bz h.hb J,bz h.hg J⟩
set_option maxHeartbeats 2000000 in
theorem V2(l:ar)(J:l.length<=100000)(H: ∀x∈l,bS x.pat/\db x.pat)(w: ∀x∈l,(bu x.pat).length<=1000000)(i:(b8 l).Nodup):aI Tryz.prog 252 [.sl 37 (l.map aX)] (.sl 32 ((ko l l.length []).map au)):=by
 have B:=Js l a8 H i;refine aL Tryz.f252 ?_ [200005,100031] [[5,4,0,12,3,11]]
 repeat' first|refine ab (λ_=> ?_) λ_=> ?_|refine aH ?_|(refine af.fn (B.mono ?_);rintro _ f ⟨rfl,hg⟩)|simp only[wj,wy,qg,aE,simprocAttr,ax,aD,aB,aw]
 obtain⟨n,e⟩: ∃n,n=f.length:=⟨_,rfl⟩
 have F:0<n:=by rw[e];exact(aV.1 hg).1
 have a:OS (gS l) (n+2) (n+1) n 0 [] (f++[aa.cells [AV.mp 0],aa.map true [],aa.cells [AV.mp (n+1)],aa.row 30 32 0]):=
  ⟨by rw[e];simp,by rw[e];simp[gn,cM],by rw[e];simp,cF hg _⟩
 have g:(f++[aa.cells [AV.mp 0],aa.map true [],aa.cells [AV.mp (n+1)],aa.row 30 32 0])[n+3]?=some (.row 30 32 0):=by rw[e];simp
 rw[<-e];generalize f++[aa.cells [AV.mp 0],aa.map true [],aa.cells [AV.mp (n+1)],aa.row 30 32 0]=s0 at a g⊢;clear hg B e
 refine aZ.overI l (λk (b:List Dg×List aa)=>[(12,iN k),(5,.tsl (n+3) 32 (b.1.map au))]) (λ_ b=>b.2) (λr b=>ko l r.length b.1) (ko l l.length []) (λk b=>OS (gS l) (n+2) (n+1) n 0 b.1 b.2/\b.2[n+3]?=some (.row 30 32 b.1.length)/\b.1.length=k) ([],s0) a8 aA aA rfl rfl ⟨a,g,rfl⟩ (λk b x hg hk h I c q=> ?_) (λb h c q=> ?_)
 .obtain⟨O,s⟩:=b;obtain⟨a,hc,d⟩:=q;dsimp only at c a hc d;have hi:=Eo l a8 319 [] [.ptr (n+2) 0,.ptr n 0] (lO O) s (λy K C D=>af.fn ((V1 a i C (w y C)).mono (by rintro _ f ⟨rfl,rfl⟩;exact D 2)));rw[aY,ko]at c;rcases yD (lO O) l 0 with⟨m,p⟩|⟨j,y,m,p,h3,h4⟩
  .rw[m]at hi c;rw[if_pos (by decide)]at c;rw[c]
   repeat' first|refine ab (λ_=> ?_) λ_=> ?_|refine aG (ga @h @wj) @hi ?_|exact aF (ga @h @wj) @hi|fail
   all_goals first|rfl|trace_state
  .rw[m,aw]at hi c;have v:decide ((j:Int)<0)=false:=by simp
   rw[if_neg a8,fY,p,eY,eF]at c;have z:bI O y.id=false:=by unfold lO at h3;simp at h3;exact h3.1
   have E:ey kg (dn y.id) (cM (gn O)) 0=some none:=by
    rw[nZ];have:=Bl y.id O 0;rw[z]at this;simpa using this
   have A:bw (O.length+1) 32=true:=room_le a8 a8;obtain⟨ha,hm,hb,u⟩:=a;have G:gU 30 32 O.length s[n+3]?=true:=by rw[hc];simp[gU]
   have t: ∀o,(s.set (n+1) o)[n+3]?=some (.row 30 32 O.length):=λo=>by rw[bC a8];exact hc
   repeat' first|refine ab (λ_=> ?_) λ_=> ?_|refine aH ?_|(refine af.fn (hi.mono ?_);rintro _ f ⟨rfl,rfl⟩)|simp only[h,I,v,p,ha,hm,E,A,t,gU,uW,pQ,Tk,fw,b9,aM,decide_true,wj,wy,qg,aE,simprocAttr,ax,aD,aB,aw]
   refine⟨(O++[y.id],_),by simp,rfl,?_,⟨?_,?_,?_,?_⟩,?_,by dsimp only;simp;omega⟩
   .rw[c,ax]
   .dsimp only;rw[bC a8,bC a8];exact ha
   .dsimp only;rw[bC a8,ej (aV.1 hm).1]
   .dsimp only;rw[bC a8,bC a8];exact hb
   .dsimp only;rw[bC a8,bC a8];exact u
   .dsimp only;rw[ej (by rw[jU];exact(aV.1 hc).1)];simp
 .obtain⟨O,s⟩:=b;obtain⟨a,hc,d⟩:=q;dsimp only at c a hc d;rw[bc,ko]at c;rw[c];exact bL (ga @h @wj) trivial
  all_goals first|rfl|trace_state
theorem CY{n:Int}(b: -9223372036854775808<=n)(c:n<9223372036854775808):IntKind.i64.wrap n=n:=by
 simp only[IntKind.wrap,IntKind.bits,IntKind.signed];have a:n % 2^64=n\/n % 2^64=n+2^64:=by omega
 rcases a with a|a
 .simp only[a];simp;omega
 .simp only[a];simp;omega
theorem PI(l:List Dg)(s:List aa):bs Tryz.prog 251 [.d (.sl 32 (l.map au))] s λd a=>d= .clo 318 [] [.d (.ref [.sl 32 (l.map au)])]/\a=s:=by
 refine cz Tryz.f251 ?_ [100001];exact bL (ga @xN @wj) trivial
 all_goals first|rfl|exact⟨rfl,rfl⟩
theorem PG(l:List ay)(s:List aa):bs Tryz.prog 253 [.d (.sl 172 (l.map aO))] s λd a=>d= .clo 321 [] [.d (.ref [.sl 172 (l.map aO)])]/\a=s:=by
 refine cz Tryz.f253 ?_ [100001];exact bL (ga @xN @wj) trivial
 all_goals first|rfl|exact⟨rfl,rfl⟩
theorem PH(l:List Dg)(u:l.length<=100000000)(i:Nat)(S:Nat->List aa->Prop)
  (hround: ∀(k:Nat) (x:Dg) (n:Int) (s:List aa) (K:AV->List aa->Prop),l.reverse[k]?=some x->S k s->(∀a,S (k+1) a->K (.d (dB true)) a)->iQ Tryz.prog i [.d (dI n),.d (.agg (au x))] s K)
  (s:List aa) (h0:S 0 s):bs Tryz.prog 318 [.yld i,.d (.ref [.sl 32 (l.map au)])] s λd a=>d=vT/\S l.length a:=by
 have t:IntKind.i64.wrap ((l.length:Int)-1)=(l.length:Int)-1:=CY a8 a8;refine cz Tryz.f318 ?_ [] [[3,1,0]];refine aC (ga @t @wj) trivial ?_
 refine aZ.overI l.reverse (λk (b:List aa)=>[(3,.d (.sc (.int .i64 ((l.length:Int)-1-(k:Int)))))]) (λ_ b=>b) (λ_ _=>()) () (λk b=>S k b) s (by simp;omega) aA (by simp only[wy,qg,aE,simprocAttr,ax,aD,aB,aw];simp) rfl rfl h0 (λk s x hg hk g r f c=> ?_) (λs g f c=> ?_)
 .rw[oI]at hk;have e:decide ((l.length:Int)-1-(k:Int)>=0)=true:=by simp;omega
  have h:(0<=(l.length:Int)-1-(k:Int))=True:=by simp;omega
  have j:((l.length:Int)-1-(k:Int)).toNat=l.length-1-k:=by omega
  have m:IntKind.i64.wrap ((l.length:Int)-1-(k:Int)-1)=(l.length:Int)-1-((k+1:Nat):Int):=by rw[CY a8 a8];omega
  have o:l[l.length-1-k]?=some x:=by rw[List.getElem?_reverse a8]at hg;exact hg
  have q:=λn K=>hround k x n s K hg c;clear hround f g r h0
  repeat' first|refine ab (λ_=> ?_) λ_=> ?_|refine aH ?_|(refine af.yld (q _ _ (λa p=> ?_)))|simp only[e,h,j,m,o,wj,wy,qg,aE,simprocAttr,ax,aD,aB,aw]
  exact p
 .rw[oI]at c;have e:decide ((l.length:Int)-1-(l.length:Int)>=0)=false:=by simp;omega
  repeat' first|refine ab (λ_=> ?_) λ_=> ?_|refine aH ?_|simp only[e,oI,wj,wy,qg,aE,simprocAttr,ax,aD,aB,aw]
  all_goals first|exact c|trace_state
theorem PF(l:List ay)(u:l.length<=100000000)(i:Nat)(S:Nat->List aa->Prop)
  (hround: ∀(k:Nat) (x:ay) (n:Int) (s:List aa) (K:AV->List aa->Prop),l.reverse[k]?=some x->S k s->(∀a,S (k+1) a->K (.d (dB true)) a)->iQ Tryz.prog i [.d (dI n),.d (.agg (aO x))] s K)
  (s:List aa) (h0:S 0 s):bs Tryz.prog 321 [.yld i,.d (.ref [.sl 172 (l.map aO)])] s λd a=>d=vT/\S l.length a:=by
 have t:IntKind.i64.wrap ((l.length:Int)-1)=(l.length:Int)-1:=CY a8 a8;refine cz Tryz.f321 ?_ [] [[3,1,0]];refine aC (ga @t @wj) trivial ?_
 refine aZ.overI l.reverse (λk (b:List aa)=>[(3,.d (.sc (.int .i64 ((l.length:Int)-1-(k:Int)))))]) (λ_ b=>b) (λ_ _=>()) () (λk b=>S k b) s (by simp;omega) aA (by simp only[wy,qg,aE,simprocAttr,ax,aD,aB,aw];simp) rfl rfl h0 (λk s x hg hk g r f c=> ?_) (λs g f c=> ?_)
 .rw[oI]at hk;have e:decide ((l.length:Int)-1-(k:Int)>=0)=true:=by simp;omega
  have h:(0<=(l.length:Int)-1-(k:Int))=True:=by simp;omega
  have j:((l.length:Int)-1-(k:Int)).toNat=l.length-1-k:=by omega
  have m:IntKind.i64.wrap ((l.length:Int)-1-(k:Int)-1)=(l.length:Int)-1-((k+1:Nat):Int):=by rw[CY a8 a8];omega
  have o:l[l.length-1-k]?=some x:=by rw[List.getElem?_reverse a8]at hg;exact hg
  have q:=λn K=>hround k x n s K hg c;clear hround f g r h0
  repeat' first|refine ab (λ_=> ?_) λ_=> ?_|refine aH ?_|(refine af.yld (q _ _ (λa p=> ?_)))|simp only[e,h,j,m,o,wj,wy,qg,aE,simprocAttr,ax,aD,aB,aw]
  exact p
 .rw[oI]at c;have e:decide ((l.length:Int)-1-(l.length:Int)>=0)=false:=by simp;omega
  repeat' first|refine ab (λ_=> ?_) λ_=> ?_|refine aH ?_|simp only[e,oI,wj,wy,qg,aE,simprocAttr,ax,aD,aB,aw]
  all_goals first|exact c|trace_state
def lL:CC:=fo [o0 4 (.box (.c (.agg rT))),oN (.st 32 (.t 4) (.t 15))]
def lM:CC:=fo [o0 10 (.box (.c (.agg qC))),oN (.st 172 (.t 10) (.t 30))]
def lN:CC:= .block 3 (.seq (fo [o0 31 (.ld none (.t 2)),o0 32 (.ld (some 172) (.t 10)),o0 33 (.call (.val (.t 31)) [(.t 32)]),o0 34 (.not (.t 33))]) (.cond (.t 34) .ret .skip))
def kj:CC:= .block 1 (.seq
 (fo [o0 17 (.ld none (.t 1)),o0 18 (.ld (some 32) (.t 4)),o0 19 (.call (.fn 73) [(.t 17),(.t 18)]),om 16 19,o0 20 (.ext (.t 16) 0),o0 21 (.ext (.t 16) 1),o0 5 (.box (.c (.agg zV))),oN (.st 5 (.t 5) (.t 20)),om 6 21])
 (.seq
 (fo [o0 23 (.ld (some 5) (.t 5)),o0 24 (.call (.fn 74) [(.t 23)]),om 22 24,o0 25 (.ext (.t 22) 0),o0 26 (.ext (.t 22) 1),om 7 25,om 8 26])
 (.seq
 (fo [om 27 7,o0 28 (.call (.fn 253) [(.t 27)])])
 (.block 2
 (.trim [28,2]
 (.rng 35 (.t 28) [29,30] lM lN))))))
def ja(base:Nat)(s a:List aa):Prop:= ∀j o,base<=j->s[j]?=some o->((∃cs,o= .cells cs)\/ ∃L,o= .loop L)->a[j]?=some o
structure Cons(i base:Nat)(A:List ay)(S:Nat->List aa->Prop):Prop where
 app: ∀k s o,S k s->S k (s++[o])
 set: ∀k s j o o',S k s->base<=j->s[j]?=some o->((∃cs,o= .cells cs)\/ ∃L,o= .loop L)->S k (s.set j o')
 len: ∀k s,S k s->base<=s.length
 round: ∀(k:Nat) (x:ay) (s:List aa) (K:AV->List aa->Prop),A[k]?=some x->S k s->(∀s',S (k+1) s'->ja base s s'->K (.d (dB true)) s')->iQ Tryz.prog i [.d (.agg (aO x))] s K
set_option maxHeartbeats 1000000 in
theorem Tb{i base f a b k:Nat}{A:List ay}{S:Nat->List aa->Prop}(j:Cons i base A S){fr:Fr}{l:aa}(C:base<=f)(D:f<a)(y:a<b)(t:Bb.look fr 2=some (.ptr f 0))(x:ay)(n:Int)(B:A[k]?=some x){s:List aa}(w:S k s)
  (ha:s[a]?=some l) (m: ∃L,l= .loop L) (hb:s[b]?=some (.loop ⟨.ready,none,fr,[29,30],35,lM,lN⟩)) (o:s[f]?=some (.cells [.yld i])) {K:AV->List aa->Prop}
  (v: ∀g,S (k+1) g->g[a]?=some l->g[b]?=some (.loop ⟨.ready,none,fr,[29,30],35,lM,lN⟩)->g[f]?=some (.cells [.yld i])->K (.d (dB true)) g):iQ Tryz.prog b [.d (dI n),.d (.agg (aO x))] s K:=by
 have z:=(aV.1 hb).1;unfold iQ;rw[hb];refine⟨rfl,rfl,?_⟩;simp only[lM,lN,putL,oK,xJ]
 repeat' first|refine ab (λ_=> ?_) λ_=> ?_|refine aH ?_|simp only[dt,bB,lR,cG,aM,wj,wy,qg,aE,simprocAttr,ax,aD,aB,aw]
 unfold kZ;rw[bz hb];refine⟨rfl,?_⟩;have h:=j.set _ _ b _ (.loop ⟨.busy,none,fr,[29,30],35,lM,lN⟩) (j.app _ _ (.cells ((aO x).map .d)) w) a8 (bz hb _) (.inr ⟨_,rfl⟩);have t0:((s++[aa.cells (List.map AV.d (aO x))]).set b (.loop ⟨.busy,none,fr,[29,30],35,lM,lN⟩))[f]?=some (.cells [.yld i]):=getSet (bz o _) a8
 have p:((s++[aa.cells (List.map AV.d (aO x))]).set b (.loop ⟨.busy,none,fr,[29,30],35,lM,lN⟩))[s.length]?=some (.cells ((aO x).map .d)):=getSet (by simp) a8;have q:((s++[aa.cells (List.map AV.d (aO x))]).set b (.loop ⟨.busy,none,fr,[29,30],35,lM,lN⟩))[a]?=some l:=getSet (bz ha _) a8
 have r:((s++[aa.cells (List.map AV.d (aO x))]).set b (.loop ⟨.busy,none,fr,[29,30],35,lM,lN⟩))[b]?=some (.loop ⟨.busy,none,fr,[29,30],35,lM,lN⟩):=eg (bz hb _);dsimp only;generalize(s++[aa.cells (List.map AV.d (aO x))]).set b (.loop ⟨.busy,none,fr,[29,30],35,lM,lN⟩)=T at h t0 p q r⊢
 repeat' first|refine ab (λ_=> ?_) λ_=> ?_|refine aH ?_|(refine af.yld (j.round k x _ _ B h (λg u c=> ?_)))|simp only[dt,t,t0,p,bB,aM,wj,wy,qg,aE,simprocAttr,ax,aD,aB,aw]
 have e:=c b _ a8 r (.inr ⟨_,rfl⟩);unfold mh;rw[e];refine v _ (j.set _ _ b _ _ u a8 e (.inr ⟨_,rfl⟩)) ?_ (eg e) ?_
 .exact getSet (c a _ a8 q (.inr m)) a8
 .exact getSet (c f _ C t0 (.inl ⟨_,rfl⟩)) a8
def lV(l:ar)(d:Dg):List ay:=(ee ((bh l d).getD .zero)).1.reverse
def lI(l:ar):List ay:=(ko l l.length []).reverse.flatMap (lV l)
theorem Hb(p:aU):(ee p).1.length<=1604400:=by
 unfold ee;split
 .exact fG _
 .rw[aM];exact wc p
set_option maxHeartbeats 2000000 in
theorem Tc{i base b a m:Nat}{l:ar}(hl:l.length<=1000000){A:List ay}{S:Nat->List aa->Prop}(k:Cons i base A S){fr:Fr}(hy:base<=b)(N:b<a)(W:Bb.look fr 2=some (.ptr b 0))(V:Bb.look fr 1=some (.d (.ref [.sl 37 (l.map aX)])))(d:Dg)(n:Int)
  (y:(bh l d).isSome=true) (hp:bS ((bh l d).getD .zero)/\db ((bh l d).getD .zero)) (I: ∀j x,(lV l d)[j]?=some x->A[m+j]?=some x) {s:List aa} (Z:S m s)
  (ha:s[a]?=some (.loop ⟨.ready,none,fr,[14,15],35,lL,kj⟩)) (M:s[b]?=some (.cells [.yld i])) {K:AV->List aa->Prop}
  (t: ∀c,S (m+(lV l d).length) c->c[a]?=some (.loop ⟨.ready,none,fr,[14,15],35,lL,kj⟩)->c[b]?=some (.cells [.yld i])->K (.d (dB true)) c):iQ Tryz.prog a [.d (dI n),.d (.agg (au d))] s K:=by
 have a0:=(aV.1 ha).1;have C:=wO l hl d;obtain⟨p,f⟩: ∃p,p=(bh l d).getD .zero:=⟨_,rfl⟩
 rw[<-f,y]at C;rw[<-f]at hp;have D:=BX p hp.1 hp.2;have w:=Hb p;have h:lV l d=(ee p).1.reverse:=by rw[lV,f]
 rw[h]at I t;obtain⟨at_,r⟩: ∃q,q=(ee p).1:=⟨_,rfl⟩
 obtain⟨e,R⟩: ∃e,e=(ee p).2:=⟨_,rfl⟩
 rw[<-r,<-R]at D;rw[<-r]at I t w;rw[oI]at t;clear r R f y h;have Q:=λs=>PG at_ s;unfold iQ;rw[ha];refine⟨rfl,rfl,?_⟩;simp only[lL,kj,putL,oK,xJ]
 repeat' first|refine ab (λ_=> ?_) λ_=> ?_|refine aH ?_|simp only[dt,fw,b9,aM,wj,wy,qg,aE,simprocAttr,ax,aD,aB,aw]
 unfold kZ;rw[bz ha];refine⟨rfl,?_⟩;have o:=k.set _ _ a _ (.loop ⟨.busy,none,fr,[14,15],35,lL,kj⟩) (k.app _ _ (.cells ((au d).map .d)) Z) a8 (bz ha _) (.inr ⟨_,rfl⟩);have t0:((s++[aa.cells (List.map AV.d (au d))]).set a (.loop ⟨.busy,none,fr,[14,15],35,lL,kj⟩))[b]?=some (.cells [.yld i]):=getSet (bz M _) a8
 have O:((s++[aa.cells (List.map AV.d (au d))]).set a (.loop ⟨.busy,none,fr,[14,15],35,lL,kj⟩))[s.length]?=some (.cells ((au d).map .d)):=getSet (by simp) a8;have P:((s++[aa.cells (List.map AV.d (au d))]).set a (.loop ⟨.busy,none,fr,[14,15],35,lL,kj⟩))[a]?=some (.loop ⟨.busy,none,fr,[14,15],35,lL,kj⟩):=eg (bz ha _)
 have v:a<((s++[aa.cells (List.map AV.d (au d))]).set a (.loop ⟨.busy,none,fr,[14,15],35,lL,kj⟩)).length:=by simp;omega
 dsimp only;change cy _ _ kj _ _ ((s++[aa.cells (List.map AV.d (au d))]).set a (.loop ⟨.busy,none,fr,[14,15],35,lL,kj⟩));generalize(s++[aa.cells (List.map AV.d (au d))]).set a (.loop ⟨.busy,none,fr,[14,15],35,lL,kj⟩)=T at o t0 O P v⊢;have g:=bz P [.cells ((br p).map .d)];have z:=bz t0 [.cells ((br p).map .d)];have u:=k.app _ _ (.cells ((br p).map .d)) o
 simp only[kj]
 repeat' first|refine ab (λ_=> ?_) λ_=> ?_|refine aH ?_|refine af.data (C) rfl ?_|refine af.data (D) rfl ?_|(refine af.fn ((Q _).mono ?_);rintro _ c ⟨rfl,rfl⟩)|simp only[dt,W,V,t0,O,b9,bH,dG,aM,wj,wy,qg,aE,simprocAttr,ax,aD,aB,aw]
 generalize J:T++[aa.cells (List.map AV.d (br p))]=T2 at g z u⊢;have L:a<T2.length:=(aV.1 g).1;clear J o t0 O P v C D Q;rw[CW]
 refine⟨⟨_,g⟩,_,_,_,rfl,mc.fn (bs.mono (PF at_ a8 T2.length (λj c=>S (m+j) c/\c[a]?=some (.loop ⟨.busy,none,fr,[14,15],35,lL,kj⟩)/\c[T2.length]?=some (.loop ⟨.ready,none,[(28,.clo 321 [] [.d (.ref [.sl 172 (at_.map aO)])]),(2,.ptr b 0)],[29,30],35,lM,lN⟩)/\c[b]?=some (.cells [.yld i])) ?_ _ ?_) ?_)⟩
 .rintro j x n c K hx ⟨E,F,B,G⟩ t;exact Tb k hy N L rfl x n (I j x hx) E F ⟨_,rfl⟩ B G λU k1 k2 k3 k4=>t U ⟨k1,k2,k3,k4⟩
 .exact⟨k.app _ _ _ u,bz g _,by simp,bz z _⟩
 .rintro _ U ⟨_,E,F,B,G⟩;unfold mZ;rw[B];refine⟨by simp,?_⟩;have X:=k.set _ _ _ _ (.loop ⟨.exhausted,none,[(28,.clo 321 [] [.d (.ref [.sl 172 (at_.map aO)])]),(2,.ptr b 0)],[29,30],35,lM,lN⟩) E a8 B (.inr ⟨_,rfl⟩)
  have H:=getSet (o':= .loop ⟨.exhausted,none,[(28,.clo 321 [] [.d (.ref [.sl 172 (at_.map aO)])]),(2,.ptr b 0)],[29,30],35,lM,lN⟩) F (show T2.length≠a by omega);have Y:=getSet (o':= .loop ⟨.exhausted,none,[(28,.clo 321 [] [.d (.ref [.sl 172 (at_.map aO)])]),(2,.ptr b 0)],[29,30],35,lM,lN⟩) G (show T2.length≠b by omega)
  show ma 2 (ma 1 λe x s=>mh a K e s) .normal _ _;refine aC @wj trivial ?_;unfold mh;rw[H];refine t _ (k.set _ _ a _ _ X a8 H (.inr ⟨_,rfl⟩)) (eg H) (getSet Y a8)
theorem Ja{α β:Type}(f:α->List β): ∀(l:List α) (k:Nat) (d:α) (j:Nat) (x:β),l[k]?=some d->(f d)[j]?=some x->(l.flatMap f)[((l.take k).flatMap f).length+j]?=some x
 |[],k,d,j,x,h,_=>by simp at h
 |e::l,0,d,j,x,h,hj=>by
  simp at h;subst h;rw[jt,tW,vq,bc,aw,fP (aV.1 hj).1];exact hj
 |e::l,k+1,d,j,x,h,hj=>by
  rw[jW,jt,jt,aQ,lq,iY a8,nQ];exact Ja f l k d j x (by simpa using h) hj
theorem RH{α β:Type}(f:α->List β){l:List α}{k:Nat}{d:α}(h:l[k]?=some d):((l.take (k+1)).flatMap f).length=((l.take k).flatMap f).length+(f d).length:=by
 obtain⟨hk,rfl⟩:=aV.1 h;rw[s9 hk,List.flatMap_append,aQ];simp
theorem EW(l:ar): ∀(n:Nat) (O:List Dg),(∀d∈O,d∈b8 l)-> ∀d∈ko l n O,d∈b8 l
 |0,O,h=>h
 |n+1,O,h=>by
  rw[ko];split
  .exact h
  .rename_i h0;refine EW l n _ λd a=> ?_;rcases fk.1 a with a|a
   .exact h d a
   .rcases yD (lO O) l 0 with⟨b,_⟩|⟨j,y,b,h2,_,_⟩
    .rw[b]at h0;exact absurd (by decide) h0
    .rw[b,aw,fY,h2]at a;simp at a;subst a;exact eR (bR h2)
theorem EV(l:ar): ∀(n:Nat) (O:List Dg),(ko l n O).length<=O.length+n
 |0,O=>bg _
 |n+1,O=>by
  rw[ko];split
  .omega
  .have:=EV l n (O++[((l[(eI (lO O) l 0).toNat]?).map (·.id)).getD .zero]);simp at this;omega
theorem Eh{l:ar}{d:Dg}(h:d∈b8 l): ∃x∈l,bh l d=some x.pat:=by
 induction l with
 |nil=>simp[b8]at h
 |cons y l c=>
  rw[bh];by_cases e:y.id=d
  .exact⟨y,by simp,by rw[if_pos e]⟩
  .have a:d∈b8 l:=by
    unfold b8 at h⊢;rw[bX,bF]at h;rcases h with h|h
    .exact absurd h.symm e
    .exact h
   obtain⟨x,b,hg⟩:=c a;exact⟨x,by simp[b],by rw[if_neg e];exact hg⟩
set_option maxHeartbeats 2000000 in
theorem SH(l:ar)(L:l.length<=100000)(G: ∀x∈l,bS x.pat/\db x.pat)(A: ∀x∈l,(bu x.pat).length<=1000000)(z:(b8 l).Nodup)(i base:Nat)(S:Nat->List aa->Prop)(h:Cons i base (lI l) S)(s:List aa)(h0:S 0 s):
  bs Tryz.prog 250 [.yld i,.d (.ref [.sl 37 (l.map aX)])] s λd c=>d=vT/\S (lI l).length c:=by
 have q:=V2 l L G A z;have b:=EW l l.length [] (λd y=>by cases y);have a:=EV l l.length [];have e:lI l=(ko l l.length []).reverse.flatMap (lV l):=rfl;obtain⟨o,M⟩: ∃o,o=ko l l.length []:=⟨_,rfl⟩
 rw[<-M]at q b a e;have u:=λs=>PI o s;have p:=h.len _ _ h0;have m:=h.app _ _ (.cells [.yld i]) h0;refine cz Tryz.f250 ?_ [] [[13,1,2],[28,2]]
 repeat' first|refine ab (λ_=> ?_) λ_=> ?_|refine aG @wj (ga @q @u) ?_|exact aF @wj (ga @q @u)|fail
 change cy Tryz.prog none (.rng 35 (.t 13) [14,15] lL kj) _ _ _;obtain⟨g,f⟩: ∃g,g=s.length:=⟨_,rfl⟩
 have E:(s++[aa.cells [.yld i]])[g]?=some (.cells [.yld i]):=by rw[f];simp
 rw[<-f]at p⊢;generalize s++[aa.cells [.yld i]]=T at m E⊢;have D:=(aV.1 E).1;clear h0 f q u;rw[CW]
 refine⟨trivial,_,_,_,rfl,mc.fn (bs.mono (PH o (by simp at a;omega) T.length (λk c=>S ((o.reverse.take k).flatMap (lV l)).length c/\c[T.length]?=some (.loop ⟨.ready,none,[(13,.clo 318 [] [.d (.ref [.sl 32 (o.map au)])]),(1,.d (.ref [.sl 37 (l.map aX)])),(2,.ptr g 0)],[14,15],35,lL,kj⟩)/\c[g]?=some (.cells [.yld i])) ?_ _ ?_) ?_)⟩
 .rintro k d n c K B ⟨v,r,F⟩ hK;have y:d∈b8 l:=b d (by have:=bR B;simpa using this);obtain⟨x,C,hg⟩:=Eh y;refine Tc a8 h p D rfl rfl d n (by rw[hg];rfl) (by rw[hg];exact G x C) (λj x J=>by rw[e];exact Ja (lV l) _ k d j x B J) v r F λH N O P=>hK H ⟨?_,O,P⟩;rw[RH (lV l) B];exact N
 .exact⟨h.app _ _ _ m,by simp,bz E _⟩
 .rintro _ H ⟨_,v,r,F⟩;unfold mZ;rw[r];refine⟨by simp,?_⟩;have w:=h.set _ _ _ _ (.loop ⟨.exhausted,none,[(13,.clo 318 [] [.d (.ref [.sl 32 (o.map au)])]),(1,.d (.ref [.sl 37 (l.map aX)])),(2,.ptr g 0)],[14,15],35,lL,kj⟩) v a8 r (.inr ⟨_,rfl⟩);have I:(o.reverse.take o.length).flatMap (lV l)=lI l:=by rw[e,dL (by simp)]
  rw[I]at w;show ma 0 (lv [] λd c=>d=vT/\S (lI l).length c) .normal _ _;refine aC @wj trivial ?_
  all_goals first|exact w|exact⟨rfl,w⟩|trace_state
theorem SL(l:ar)(s:List aa):bs Tryz.prog 177 [.d (.sl 37 (l.map aX))] s λd a=>d= .clo 250 [] [.d (.ref [.sl 37 (l.map aX)])]/\a=s:=by
 refine cz Tryz.f177 ?_ [100001];exact bL (ga @xN @wj) trivial
 all_goals first|rfl|exact⟨rfl,rfl⟩
abbrev MI:=List (ak×AV)
def cI(m:MI):List (List Value×AV):=m.map λe=>(dF e.1,e.2)
def iB(d:ak):MI->Nat->Option (Nat×AV)
 |[],_=>none
 |e::m,i=>if d=e.1 then some (i,e.2)else iB d m (i+1)
theorem uo(d:ak): ∀(m:MI) (i:Nat),ey qd (dF d) (cI m) i=some (iB d m i)
 |[],_=>rfl
 |e::m,i=>by
  show((bJ qd (dF d) (dF e.1)).bind λb=>if b=true then some (some (i,e.2))else ey qd (dF d) (cI m) (i+1))=_;rw[IJ,eE,uo d m (i+1),iB];by_cases h:d=e.1<;>simp[h]
theorem Hz(m:MI):(cI m).length=m.length:=aM _
theorem Q5(a b:MI):cI (a++b)=cI a++cI b:=fF
theorem DE(a:MI)(d:ak)(v:AV):cI a++[(dF d,v)]=cI (a++[(d,v)]):=by rw[Q5];rfl
theorem qZ(m:MI)(i:Nat)(d:ak)(v:AV):(cI m).set i (dF d,v)=cI (m.set i (d,v)):=by unfold cI;rw[List.map_set]
theorem IY{d:ak}: ∀{m:MI} {i:Nat},iB d m i=none↔d∉m.map (·.1)
 |[],_=>by simp[iB]
 |e::m,i=>by
  rw[iB,bX,bF];by_cases h:d=e.1
  .simp[h]
  .rw[if_neg h,IY];simp[h]
abbrev eU:=List (ak×List ak)
def jd(V:eU)(key:ak)(news:List ak):eU:=if key∈V.map (·.1)then V.map λe=>if e.1=key then(e.1,e.2++news)else e else V++[(key,news)]
theorem HA(a b:List ak):cV a++cV b=cV (a++b):=by
 rw[r8,r8,r8,fF,tS,fF]
def uP:AV->Option Nat
 | .vec r _ _=>some r
 |_=>none
def ju(s:List aa)(v:AV)(l:List ak):Prop:=(v= .nil 33/\l=[])\/ ∃r,v= .vec r l.length 33/\s[r]?=some (.vec 32 33 (cV l))
structure TI(n:Nat)(M:MI)(V:eU)(s:List aa):Prop where
 map:s[n]?=some (.map true (cI M))
 keys:M.map (·.1)=V.map (·.1)
 nd:(V.map (·.1)).Nodup
 row: ∀(j:Nat) (k:ak) (v:AV),M[j]?=some (k,v)-> ∃l,V[j]?=some (k,l)/\ju s v l
 apart: ∀(i j:Nat) (e e':ak×AV) (r:Nat),i≠j->M[i]?=some e->M[j]?=some e'->uP e.2=some r->uP e'.2≠some r
theorem ju.app{s:List aa}{v:AV}{l:List ak}(h:ju s v l)(x:List aa):ju (s++x) v l:=h.imp id λ⟨r,a,b⟩=>⟨r,a,bz b x⟩
theorem ju.set{s:List aa}{v:AV}{l:List ak}(h:ju s v l){i:Nat}{o:aa}(hi:uP v≠some i):ju (s.set i o) v l:=h.imp id λ⟨r,a,b⟩=>⟨r,a,getSet b λe=>hi (by rw[a,<-e];rfl)⟩
theorem TI.app{n:Nat}{M:MI}{V:eU}{s:List aa}(h:TI n M V s)(x:List aa):TI n M V (s++x):=
 ⟨bz h.map x,h.keys,h.nd,λj k v c=>let⟨l,a,b⟩:=h.row j k v c;⟨l,a,b.app x⟩,h.apart⟩
theorem TI.upd{n:Nat}{M M':MI}{V:eU}{s I:List aa}(h:TI n M V s){key:ak}{v:AV}{l news:List ak}(hm:I[n]?=some (.map true (cI M')))
  (P:(key∉V.map (·.1)/\M'=M++[(key,v)]/\l=news)\/ ∃j v0 H,M[j]?=some (key,v0)/\V[j]?=some (key,H)/\M'=M.set j (key,v)/\l=H++news)
  (L:ju I v l) (w: ∀(j:Nat) (k:ak) (g:AV) (l':List ak),k≠key->M[j]?=some (k,g)->ju s g l'->ju I g l')
  (G: ∀r,uP v=some r-> ∀(j:Nat) (k:ak) (g:AV),k≠key->M[j]?=some (k,g)->uP g≠some r):TI n M' (jd V key news) I:=by
 have D:M.length=V.length:=by have:=congrArg List.length h.keys;simpa using this
 rcases P with⟨hk,rfl,rfl⟩|⟨j0,v0,H,hj0,hV0,rfl,rfl⟩
 .unfold jd;rw[if_neg hk];have C: ∀(j:Nat) (k:ak) (g:AV),M[j]?=some (k,g)->k≠key:=λj k g c e=>hk (by rw[<-h.keys,<-e];exact eR (f:=Prod.fst) (bR c));refine⟨hm,by simp[h.keys],?_,λj k g c=> ?_,λi j e o r y hi c m=> ?_⟩
  .rw[fF];exact List.nodup_append.2 ⟨h.nd,by simp,λa ha b hb e=>hk (by simp at hb;rw[<-hb,<-e];exact ha)⟩
  .rw[jb]at c;rw[jb];split at c
   .rename_i E;rw[if_pos a8];obtain⟨l',A,J⟩:=h.row j k g c;exact⟨l',A,w j k g l' (C j k g c) c J⟩
   .rename_i E;rw[if_neg a8];have u:j-M.length=0:=by
     rcases qM (j-M.length)with h0|h0
     .exact h0
     .rw[iO (by simp;omega)]at c;cases c
    rw[u]at c;rw[<-D,u];simp at c;obtain⟨rfl,rfl⟩:=c;exact⟨l,rfl,L⟩
  .have d: ∀(i:Nat) (e:ak×AV),(M++[(key,v)])[i]?=some e->(M[i]?=some e/\e.1≠key)\/(i=M.length/\e=(key,v)):=λi e hi=>by
    rw[jb]at hi;split at hi
    .exact .inl ⟨hi,C i e.1 e.2 hi⟩
    .rename_i E;have u:i-M.length=0:=by
      rcases qM (i-M.length)with h0|h0
      .exact h0
      .rw[iO (by simp;omega)]at hi;cases hi
     rw[u]at hi;simp at hi;exact .inr ⟨by omega,hi.symm⟩
   rcases d i e hi with⟨hi,x⟩|⟨hi,rfl⟩
   .rcases d j o c with⟨c,p⟩|⟨c,rfl⟩
    .exact h.apart i j e o r y hi c m
    .intro t;exact G r t i e.1 e.2 x hi m
   .rcases d j o c with⟨c,p⟩|⟨c,rfl⟩
    .exact G r m j o.1 o.2 p c
    .omega
 .have K:key∈V.map (·.1):=eR (f:=Prod.fst) (bR hV0);have B:j0<M.length:=(aV.1 hj0).1;have F: ∀(j:Nat) (l':List ak),V[j]?=some (key,l')->j=j0:=λj l' c=>by
   have N:(V.map (·.1))[j]?=some key:=by rw[dj,c];rfl
   have t:(V.map (·.1))[j0]?=some key:=by rw[dj,hV0];rfl
   exact(List.getElem?_inj (by rw[aM];exact(aV.1 c).1) h.nd).1 (N.trans t.symm)
  have q:(V.map λe=>if e.1=key then(e.1,e.2++news)else e).map (·.1)=V.map (·.1):=by
   rw[ll];apply vt;intro e _;show(if e.1=key then(e.1,e.2++news)else e).1=e.1;split<;>rfl
  have z:(M.set j0 (key,v)).map (·.1)=M.map (·.1):=by
   apply gW;intro j;rw[dj,dj];by_cases e:j=j0
   .subst e;rw[ej B,hj0];rfl
   .rw[bC (Ne.symm e)]
  unfold jd;rw[if_pos K];have d: ∀(i:Nat) (e:ak×AV),(M.set j0 (key,v))[i]?=some e->(M[i]?=some e/\i≠j0/\e.1≠key)\/(i=j0/\e=(key,v)):=λi e hi=>by
   by_cases t:i=j0
   .subst t;rw[ej B]at hi;exact .inr ⟨rfl,(aJ hi).symm⟩
   .rw[bC (Ne.symm t)]at hi;refine .inl ⟨hi,t,λO=>t ?_⟩;obtain⟨l',A,_⟩:=h.row i e.1 e.2 hi;rw[O]at A;exact F i l' A
  refine⟨hm,by rw[z,q,h.keys],by rw[q];exact h.nd,λj k g c=> ?_,λi j e o r y hi c m=> ?_⟩
  .rw[dj];rcases d j _ c with⟨c,hne,hk⟩|⟨rfl,e⟩
   .obtain⟨l',A,J⟩:=h.row j k g c;exact⟨l',by rw[A,eY,if_neg hk],w j k g l' hk c J⟩
   .cases e;exact⟨H++news,by rw[hV0,eY,if_pos rfl],L⟩
  .rcases d i e hi with⟨hi,_,x⟩|⟨hi,rfl⟩
   .rcases d j o c with⟨c,_,p⟩|⟨c,rfl⟩
    .exact h.apart i j e o r y hi c m
    .intro t;exact G r t i e.1 e.2 x hi m
   .rcases d j o c with⟨c,_,p⟩|⟨c,rfl⟩
    .exact G r m j o.1 o.2 p c
    .omega
theorem IX{d:ak}: ∀{m:MI} {i j:Nat} {v:AV},iB d m i=some (j,v)->i<=j/\m[j-i]?=some (d,v)
 |[],i,j,v,h=>by cases h
 |e::m,i,j,v,h=>by
  rw[iB]at h;by_cases a:d=e.1
  .rw[if_pos a]at h;simp only[xM,Prod.mk.injEq]at h;obtain⟨rfl,rfl⟩:=h;exact⟨bg _,by rw[jc,a];rfl⟩
  .rw[if_neg a]at h;obtain⟨c,b⟩:=IX h;refine⟨by omega,?_⟩;have:j-i=(j-(i+1))+1:=by omega
   rw[this];exact b
theorem TI.find{n:Nat}{M:MI}{V:eU}{s:List aa}(h:TI n M V s)(key:ak):(iB key M 0=none/\key∉V.map (·.1))\/ ∃j v l,iB key M 0=some (j,v)/\M[j]?=some (key,v)/\V[j]?=some (key,l)/\ju s v l:=by
 cases b:iB key M 0 with
 |none=>exact .inl ⟨rfl,by rw[<-h.keys];exact IY.1 b⟩
 |some r=>
  obtain⟨j,v⟩:=r;have a:=(IX b).2;rw[pI]at a;obtain⟨l,c,d⟩:=h.row j key v a;exact .inr ⟨j,v,l,rfl,a,c,d⟩
theorem ju.setN{s:List aa}{v:AV}{l:List ak}(h:ju s v l){n:Nat}{o:aa}{e:List (List Value×AV)}(c:s[n]?=some (.map true e)):ju (s.set n o) v l:=h.imp id λ⟨r,b,a⟩=>⟨r,b,getSet a λe=>by subst e;rw[c]at a;cases a⟩
theorem ju.lt{s:List aa}{v:AV}{l:List ak}(h:ju s v l){r:Nat}(a:uP v=some r):s[r]?=some (.vec 32 33 (cV l))/\v= .vec r l.length 33:=by
 rcases h with⟨rfl,_⟩|⟨r',rfl,h2⟩
 .cases a
 .cases a;exact⟨h2,rfl⟩
theorem TI.none0{n:Nat}{M:MI}{V:eU}{s:List aa}(h:TI n M V s){key:ak}(hk:key∉V.map (·.1)):TI n (M++[(key,.nil 33)]) (jd V key []) (s.set n (.map true (cI (M++[(key,.nil 33)])))):=
 h.upd (eg h.map) (.inl ⟨hk,rfl,rfl⟩) (.inl ⟨rfl,rfl⟩) (λj k b l' _ _ a=>a.setN h.map) (λr a=>by cases a)
theorem TI.new1{n:Nat}{M M':MI}{V:eU}{s:List aa}(h:TI n M V s){key x:ak}{o:aa}(p: ∃e,o= .map true e)(i:(key∉V.map (·.1)/\M'=M++[(key,.vec s.length 1 33)])\/ ∃j v0,M[j]?=some (key,v0)/\V[j]?=some (key,[])/\M'=M.set j (key,.vec s.length 1 33)):
  TI n M' (jd V key [x]) ((s.set n o++[aa.vec 32 33 (cV [x])]).set n (.map true (cI M'))):=by
 obtain⟨e,rfl⟩:=p;have q:=(aV.1 h.map).1;have b:(s.set n (.map true e)++[aa.vec 32 33 (cV [x])])[n]?=some (.map true e):=bz (eg h.map) _
 refine h.upd (l:=[x]) (v:= .vec s.length 1 33) (eg b) ?_ (.inr ⟨s.length,rfl,getSet (by rw[iY (by simp)];simp) a8⟩) (λj k f l' _ _ d=>((d.setN h.map).app _).setN b) (λr d j k f _ m=> ?_)
 .rcases i with⟨c,a⟩|⟨j,v0,c,a,h3⟩
  .exact .inl ⟨c,a,rfl⟩
  .exact .inr ⟨j,v0,[],c,a,h3,rfl⟩
 .cases d;intro g;obtain⟨l',c,a⟩:=h.row j k f m;have:=(aV.1 (a.lt g).1).1;omega
theorem TI.hit0{n:Nat}{M:MI}{V:eU}{s:List aa}(h:TI n M V s){key:ak}{j:Nat}(a:M[j]?=some (key,.nil 33))(c:V[j]?=some (key,[])):TI n M (jd V key []) s:=
 h.upd (v:= .nil 33) h.map (.inr ⟨j,_,[],a,c,by
  apply gW;intro i;by_cases e:i=j
  .subst e;rw[ej (aV.1 a).1,a]
  .rw[bC (Ne.symm e)],rfl⟩) (.inl ⟨rfl,rfl⟩) (λj k d l' _ _ b=>b) (λr b=>by cases b)
theorem TI.grow{n:Nat}{M:MI}{V:eU}{s:List aa}(h:TI n M V s){key:ak}{j r:Nat}{l news:List ak}(f:M[j]?=some (key,.vec r l.length 33))(p:V[j]?=some (key,l))(g:s[r]?=some (.vec 32 33 (cV l))):
  TI n (M.set j (key,.vec r (l++news).length 33)) (jd V key news) ((s.set r (.vec 32 33 (cV (l++news)))).set n (.map true (cI (M.set j (key,.vec r (l++news).length 33))))):=by
 have d:r≠n:=λe=>by subst e;rw[h.map]at g;cases g
 have c:(s.set r (.vec 32 33 (cV (l++news))))[n]?=some (.map true (cI M)):=getSet h.map d;have b: ∀(i:Nat) (k:ak) (a:AV),k≠key->M[i]?=some (k,a)->uP a≠some r:=λi k a hk hi e=>
  h.apart i j _ _ r (λo=>by subst o;rw[hi]at f;exact hk (congrArg Prod.fst (aJ f))) hi f e rfl
 exact h.upd (eg c) (.inr ⟨j,_,l,f,p,rfl,rfl⟩) (.inr ⟨r,rfl,getSet (eg g) (Ne.symm d)⟩) (λi k a l' hk hi q=>(q.set (b i k a hk hi)).setN c) (λr' m i k a hk hi=>by cases m;exact b i k a hk hi)
theorem AD{M:MI}{j:Nat}{d:ak}{v:AV}(h:M[j]?=some (d,v)):(cI M)[j]?=some (dF d,v):=by unfold cI;rw[dj,h];rfl
theorem Pe{V:eU}{key:ak}{news:List ak}{c:Nat}(h: ∀e∈V,e.2.length<=c): ∀e∈jd V key news,e.2.length<=c+news.length:=λe a=>by
 unfold jd at a;split at a
 .obtain⟨b,h0,rfl⟩:=bM.1 a;have:=h b h0;split
  .show(b.2++news).length<=_;rw[aQ];omega
  .omega
 .rcases fk.1 a with a|a
  .have:=h e a;omega
  .simp at a;subst a;simp
def jP(R:List ak):MI:=R.map λd=>(d,.d (dB true))
def sj(R:List ak)(d:ak):List ak:=if eW R d=true then R else R++[d]
def kh(x:ay):List ak->List ak×eU->List ak×eU
 |[],b=>b
 |d::l,b=>kh x l (if x.kind=7 then sj b.1 d else b.1,jd b.2 d [x.id])
def mG:List ay->List ak×eU->List ak×eU
 |[],b=>b
 |x::l,b=>mG l (if eW b.1 x.id=true then b else kh x x.over b)
theorem JN: ∀(l:List ay) (x:ay) (b:List ak×eU),mG (l++[x]) b=(if eW (mG l b).1 x.id=true then mG l b else kh x x.over (mG l b))
 |[],x,b=>rfl
 |y::l,x,b=>by rw[gb,mG,mG,JN l x]
theorem nx(R:List ak)(d:ak):eW R d=true↔d∈R:=by
 induction R with
 |nil=>simp[eW]
 |cons y l a=>
  rw[eW];by_cases h:y=d
  .simp[h]
  .rw[if_neg h,a];simp[Ne.symm h]
theorem Eb(d:ak): ∀(O:List ak) (i:Nat),if eW O d=true then∃j,iB d (jP O) i=some (i+j,.d (dB true))/\O[j]?=some d else iB d (jP O) i=none
 |[],i=>by simp[eW,jP,iB]
 |e::O,i=>by
  have a:=Eb d O (i+1);show if eW (e::O) d=true then∃j,(if d=e then some (i,_)else iB d (jP O) (i+1))=_/\_ else(if d=e then some (i,_)else iB d (jP O) (i+1))=none;by_cases h:d=e
  .subst h;rw[if_pos ((nx _ _).2 (by simp))];exact⟨0,if_pos rfl,rfl⟩
  .rw[if_neg h];have c:eW (e::O) d=eW O d:=by rw[l6,nx,nx];simp[h]
   rw[c];by_cases b:eW O d=true
   .rw[if_pos b]at a⊢;obtain⟨j,f,g⟩:=a;exact⟨j+1,by rw[f];congr 2;omega,by simpa using g⟩
   .rw[if_neg b]at a⊢;exact a
theorem Rz(O:List ak)(d:ak):((iB d (jP O) 0).map (·.2)).getD (.d (dB false))= .d (dB (eW O d)):=by
 have h:=Eb d O 0;by_cases a:eW O d=true
 .rw[if_pos a]at h;obtain⟨j,b,_⟩:=h;rw[b,a];rfl
 .rw[if_neg a]at h;rw[h,show eW O d=false by simpa using a];rfl
theorem YE(R:List ak)(d:ak):pw (cI (jP R)) (dF d) (.d (dB true)) (iB d (jP R) 0)=cI (jP (sj R d)):=by
 have h:=Eb d R 0;unfold sj;by_cases a:eW R d=true
 .rw[if_pos a]at h⊢;obtain⟨j,b,c⟩:=h;rw[b,aw,YF,qZ];congr 1;apply gW;intro i;by_cases e:i=j
  .subst e;have hm:(jP R)[i]?=some (d,.d (dB true)):=by unfold jP;rw[dj,c];rfl
   rw[ej (aV.1 hm).1,hm]
  .rw[bC (Ne.symm e)]
 .rw[if_neg a]at h⊢;rw[h,uW,DE];simp[jP]
theorem ju.setC{s:List aa}{v:AV}{l:List ak}(h:ju s v l){j:Nat}{o o':aa}(c:s[j]?=some o)(d: ∀e z n,o≠ .vec e z n):ju (s.set j o') v l:=h.imp id λ⟨r,b,a⟩=>⟨r,b,getSet a λe=>by subst e;rw[c]at a;exact d _ _ _ (aJ a)⟩
theorem TI.setC{n:Nat}{M:MI}{V:eU}{s:List aa}(h:TI n M V s){j:Nat}{o o':aa}(c:s[j]?=some o)(d:j≠n)(f: ∀e z n,o≠ .vec e z n):TI n M V (s.set j o'):=
 ⟨getSet h.map d,h.keys,h.nd,λi k v hi=>let⟨l,a,b⟩:=h.row i k v hi;⟨l,a,b.setC c f⟩,h.apart⟩
theorem ja.refl(b:Nat)(s:List aa):ja b s s:=λ_ _ _ h _=>h
theorem ja.app{b:Nat}{s a:List aa}(h:ja b s a)(J:List aa):ja b s (a++J):=λj o c e d=>bz (h j o c e d) J
theorem ja.set{b:Nat}{s c:List aa}(h:ja b s c){j:Nat}{o o':aa}(g:c[j]?=some o)(d:j<b\/((∀cs,o≠ .cells cs)/\ ∀L,o≠ .loop L)):ja b s (c.set j o'):=λi x hi k f=>by
 have a:=h i x hi k f;refine getSet a λe=> ?_;subst e;rcases d with d|⟨h2,h3⟩
 .omega
 .rw[g]at a;cases a;rcases f with⟨cs,e⟩|⟨L,e⟩
  .exact h2 cs e
  .exact h3 L e
end Go.Proofs.Q
