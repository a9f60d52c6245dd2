/- Lemmas. -/
import Derived.Test.YtellfinifjmloaaGreatDoorPBA
import Derived.Test.YtellfinifjmloaaGreatDoorPAZ
import Derived.Test.YtellfinifjmloaaGreatDoorZT
set_option linter.unusedVariables false
set_option linter.unusedSimpArgs false
namespace Go.Proofs.Q
open Go Go.Bb Go.RowKit Go.Proofs.Lg
open Go.Ab (D RD)
theorem En(d:D):ny ([]++[AV.d d]++[])=some [d]:=rfl
theorem P8(d e:D):ny ([]++[AV.d d]++[.d e])=some [d,e]:=rfl
theorem J0{c:aC}{t:Nat}(b:2≤t∧t≤7){a:au}{s:List aa}{K:AV→List aa→Nat→Prop}(hk:K (.d (dB (nc c t a))) s 0):aq Tryz.prog (.clo (fT t) [] (p7 c t)) [.d (.agg (aI a))] s K:=by
 obtain h|h|h|h|h|h:t=2∨t=3∨t=4∨t=5∨t=6∨t=7:=by omega
 all_goals subst h
 ·exact aq.data (Zg a) (En _) hk
 ·exact aq.data (Zh a) (En _) hk
 ·exact aq.data (Zi a) (En _) hk
 ·exact aq.data (Zj a) (En _) hk
 ·exact aq.data (Zk a c) (P8 _ _) hk
 ·exact aq.data (Zl a c) (P8 _ _) hk
theorem a2z(c:aC): ∀x∈fa c,2≤x.2∧x.2≤7:=by
 intro x a;unfold fa at a;simp only[eJ,bR]at a;rcases a with((a|a)|a)|⟨y,_,rfl⟩
 ·repeat' split at a
  all_goals simp at a
  all_goals(subst a;simp)
 ·split at a
  ·simp at a;subst a;simp
  ·simp at a
 ·split at a
  ·simp at a;rcases a with rfl|rfl<;>simp
  ·simp at a
 ·simp
theorem Ha(c:aC):(fa c).length≤c.over.length+4:=by
 unfold fa;simp only[aR,aQ]
 repeat' split
 all_goals simp
 all_goals omega
abbrev mZ(c:aC)(t:Nat):AV:= .clo (fT t) [] (p7 c t)
def rowsC(c:aC)(l:List (af×Nat)):List AV:=l.flatMap fun p=>cy p.1 (mZ c p.2)
theorem Hg(c:aC): ∀l:List (af×Nat),(rowsC c l).length=l.length*34
 |[]=>rfl
 |p::l=>by
  show(cy p.1 (mZ c p.2)++rowsC c l).length=_;rw[aR,ey,Hg c l,aY];omega
theorem Hf(c:aC): ∀(l:List (af×Nat)) (k:Nat) (x:af×Nat),l[k]?=some x→((rowsC c l).drop (k*34)).take 34=cy x.1 (mZ c x.2)
 |p::l,0,x,h=>by
  simp at h;subst h;show((cy p.1 (mZ c p.2)++rowsC c l).drop (0*34)).take 34=_;rw[pR,jY,gj (by rw[ey];omega),dq (by rw[ey];omega)]
 |p::l,k+1,x,h=>by
  show((cy p.1 (mZ c p.2)++rowsC c l).drop ((k+1)*34)).take 34=_;rw[gB,gC (by rw[ey];omega),bm,ey,show(k+1)*34-34=k*34 by omega];exact Hf c l k x (by simpa using h)
theorem pU.rowsC{v:AV}{J:List aa}{c:aC}{l:List (af×Nat)}(h:pU v J (l.map (E6 c))):(v= .nil 34∧l=[])∨ ∃r,v= .vec (r+1) l.length 34∧J[r]?=some (.vec 213 34 (rowsC c l)):=by
 rcases h with⟨a,b⟩|⟨r,a,b⟩
 ·exact .inl ⟨a,by simpa using b⟩
 ·refine .inr ⟨r,by simpa using a,?_⟩;rw[b];unfold Q.rowsC;rw[List.flatMap_map];rfl
theorem pE(x:af)(c:aC)(t:Nat):kg (cy x (mZ c t))=none:=nn ..
theorem pF(x:af)(a:AV):(cy x a)[32]?=some (.d (dI x.n)):=by
 unfold cy;rw[fM (by rw[aQ,az];omega),dL,ov];rfl
theorem il(x:af)(a:AV):(cy x a)[33]?=some a:=by
 unfold cy;rw[iO (by rw[aQ,az];omega),aQ,az];rfl
theorem im(x:af)(a:AV):(cy x a).take 33=(aj x).map .d:=by
 unfold cy;rw[gj (by rw[aQ,az];omega),dq (by rw[aQ,az];omega)]
set_option maxHeartbeats 4000000 in
theorem Z7(c:aC)(own:List au)(X:c.over.length≤100000)(Z:own.length≤100000):aG Tryz.prog 128 [.agg (aV c),.sl 172 (own.map aI)] (dI (rM c own)):=by
 have cR:=N8 c X;have V:=Ha c;refine qx (F:=B5) WL (by simp[B5]) ?_;simp only[B5];refine AC.cutJ [1,2] [(1,.d (.sl 172 (own.map aI))),(2,.d (.ref (aV c)))] (fun s=>s=[]) ?_ fun s K=> ?_
 ·exact bU ab ab
 subst K;refine AC.cutJ [2] [(2,.d (.ref (aV c)))] (fun _=>gg c own (fa c)=0) ?_ fun s K=> ?_
 ·repeat' first|refine ae (fun _=> ?_) fun _=> ?_|refine aL ?_|(refine aq.fn (cR.mono ?_);rintro d s' ⟨J,rfl,U⟩)|simp only[wj,wy,qg,aH,simprocAttr,aA,aF,aE,aw]
  rcases U.rowsC with⟨rfl,W⟩|⟨r,rfl,hr⟩
  ·rw[W];refine aO @wj ab ?_;refine aZ.overI ([]:List Nat) (fun k (b:List aa)=>[(10,iN k)]) (fun _ b=> .cells [.nil 34]::J) (fun _ _=>()) () (fun _ _=>True) ([]:List aa) (by simp) aB aB rfl rfl trivial (fun k b x hg=>by cases hg) (fun b z y _=> ?_);refine aO @wj ab ?_
   all_goals rfl
  ·have e:=Hg c (fa c);obtain⟨o,hcells⟩: ∃o,o=rowsC c (fa c):=⟨_,rfl⟩
   rw[←hcells]at hr e;obtain⟨Y,L⟩: ∃Y,Y=gg c own (fa c):=⟨_,rfl⟩
   rw[←L];have H:Y≠0→rM c own=Y:=fun h=>by unfold rM bQ;rw[←L,if_pos h]
   refine aO (ga @hr @wj) ab ?_;refine aZ.overI (fa c) (fun k (b:List aa)=>[(10,iN k)]) (fun _ b=> .cells [.vec (r+1) (fa c).length 34]::(J++b)) (fun l b=>gg c own l) Y (fun _ _=>True) ([]:List aa) a8 aB aB (by simp) L trivial (fun k b x hg hk z E y _=> ?_) (fun b z y _=> ?_)
   ·have a:=Hf c (fa c) k x hg;rw[←hcells]at a;have v:=a2z c x (bX hg);have j:=bW hr;have i:k*34+34≤(fa c).length*34:=by omega
    obtain⟨x,t⟩:=x;rw[gg]at y;dsimp only at a v y;have A:=DK x;have q: ∀{I:List aa},I=aa.cells [.vec (r+1) (fa c).length 34]::(J++(b++[aa.cells (cy x (mZ c t))]))→ij c own x t=0→ ∃S,I=aa.cells [.vec (r+1) (fa c).length 34]::(J++S)∧Y=gg c own (List.drop (k+1) (fa c)):=fun m T=>⟨_,m,by rw[y,T];simp⟩
    have f:ij c own x t≠0→rM c own=ij c own x t:=fun h=>by rw[H (by rw[y,if_pos h];exact h),y,if_pos h]
    clear H y hg;by_cases G:isZero x.p=true
    ·rw[G]at A;by_cases g:x.n<0
     ·rw[f (by unfold ij;rw[if_pos g];decide)];have w:decide (x.n<0)=true:=by simpa using g
      repeat' first|refine ae (fun _=> ?_) fun _=> ?_|refine aL ?_|refine aq.data (A) rfl ?_|simp only[w,z,E,hk,hr,j,e,a,i,pE,iq,ey,pF,il,im,fC,wj,wy,qg,aH,simprocAttr,aA,aF,aE,aw]
      unfold ij;rw[if_pos g]
     have w:decide (x.n<0)=false:=by simpa using g
     by_cases m:(own.length:Int)≤x.n
     ·rw[f (by unfold ij;rw[if_neg g,if_pos ⟨G,m⟩];decide)];have B:decide (x.n≥(own.length:Int))=true:=by simpa using m
      repeat' first|refine ae (fun _=> ?_) fun _=> ?_|refine aL ?_|refine aq.data (A) rfl ?_|simp only[w,B,z,E,hk,hr,j,e,a,i,pE,iq,ey,pF,il,im,fC,wj,wy,qg,aH,simprocAttr,aA,aF,aE,aw]
      unfold ij;rw[if_neg g,if_pos ⟨G,m⟩]
     have B:decide (x.n≥(own.length:Int))=false:=by simpa using m
     have P:decide (x.n≥100000)=false:=by simp;omega
     have N:x.n.toNat<own.length:=by omega
     have ha:own[x.n.toNat]?=some own[x.n.toNat]:=bN N;have Q:(0≤x.n)=True:=eq_true a8;have u:ij c own x t=if nc c t own[x.n.toNat]=false then 8 else 0:=by
      unfold ij;rw[if_neg g,if_neg (fun h=>m h.2),if_neg a8,ha,ek];simp[G]
     by_cases M:nc c t own[x.n.toNat]=true
     ·repeat' first|refine ae (fun _=> ?_) fun _=> ?_|refine aL ?_|refine aq.data (A) rfl ?_|(refine J0 v ?_;rw[M])|simp only[w,B,P,ha,Q,z,E,hk,hr,j,e,a,i,pE,iq,ey,pF,il,im,fC,wj,wy,qg,aH,simprocAttr,aA,aF,aE,aw]
      all_goals exact q rfl (by rw[u,M];rfl)
     ·have C:nc c t own[x.n.toNat]=false:=by simpa using M
      rw[f (by rw[u,C];decide),u,C]
      repeat' first|refine ae (fun _=> ?_) fun _=> ?_|refine aL ?_|refine aq.data (A) rfl ?_|(refine J0 v ?_;rw[C])|simp only[w,B,P,ha,Q,z,E,hk,hr,j,e,a,i,pE,iq,ey,pF,il,im,fC,wj,wy,qg,aH,simprocAttr,aA,aF,aE,aw]
    ·have O:isZero x.p=false:=by simpa using G
     rw[O]at A;by_cases g:x.n<0
     ·rw[f (by unfold ij;rw[if_pos g];decide)];have w:decide (x.n<0)=true:=by simpa using g
      repeat' first|refine ae (fun _=> ?_) fun _=> ?_|refine aL ?_|refine aq.data (A) rfl ?_|simp only[w,z,E,hk,hr,j,e,a,i,pE,iq,ey,pF,il,im,fC,wj,wy,qg,aH,simprocAttr,aA,aF,aE,aw]
      unfold ij;rw[if_pos g]
     have w:decide (x.n<0)=false:=by simpa using g
     have D: ¬(isZero x.p=true∧(own.length:Int)≤x.n):=fun h=>G h.1;by_cases m:100000≤x.n
     ·rw[f (by unfold ij;rw[if_neg g,if_neg D,if_pos m];decide)];have B:decide (x.n≥100000)=true:=by simpa using m
      repeat' first|refine ae (fun _=> ?_) fun _=> ?_|refine aL ?_|refine aq.data (A) rfl ?_|simp only[w,B,z,E,hk,hr,j,e,a,i,pE,iq,ey,pF,il,im,fC,wj,wy,qg,aH,simprocAttr,aA,aF,aE,aw]
      unfold ij;rw[if_neg g,if_neg D,if_pos m]
     have B:decide (x.n≥100000)=false:=by simpa using m
     repeat' first|refine ae (fun _=> ?_) fun _=> ?_|refine aL ?_|refine aq.data (A) rfl ?_|simp only[w,B,z,E,hk,hr,j,e,a,i,pE,iq,ey,pF,il,im,fC,wj,wy,qg,aH,simprocAttr,aA,aF,aE,aw]
     all_goals exact q rfl (by unfold ij;rw[if_neg g,if_neg D,if_neg m,if_neg (fun h=>G h.1)])
   ·rw[gg]at y;refine aO (ga @z @wj) ab ?_
    all_goals exact y
 have R:rM c own=vg c:=by unfold rM;rw[K];exact xL _
 rw[R];clear R K cR;refine bD ?_
 repeat' first|refine ae (fun _=> ?_) fun _=> ?_|refine ay ab ab ?_|exact ax ab ab|fail
 all_goals first|(unfold vg;simp_all;done)|(unfold vg;simp_all;omega)|trace_state
def rh(l:List bh)(r:Int):Int:=if lg l≠0 then lg l else r
theorem TY(x:bh)(l:List bh)(r:Int):rh (x::l) r=if la x then rh l r else 3:=by
 unfold rh;rw[lg];by_cases h:la x=true
 ·simp[h]
 ·simp[h]
theorem TZ(r:Int):rh [] r=r:=by simp[rh,lg]
def vr(c:aC):Int:=if c.kind=7∧(c.over.length:Int)=0 then 1 else if 400<(c.over.length:Int)then 4 else if gG c.over=false then 9 else 0
theorem SA(c:aC):wZ c=if c.kind<1∨7<c.kind then 8
 else if nx c=false then 1
 else if c.kind=1∧(c.type<1∨4<c.type)then 8
 else if c.kind=2∧isName c.name=false then 5
 else if c.mode<0∨511<c.mode then 2
 else if 65536<(c.data.size:Int)then 4
 else if c.kind=5∧(c.lines.length:Int)=0 then 1
 else if 2000<(c.lines.length:Int)then 4
 else rh c.lines (vr c):=rfl
set_option maxRecDepth 20000 in
set_option maxHeartbeats 4000000 in
theorem Z6(c:aC)(A:c.name.size≤9223372036854775807):aG Tryz.prog 127 [.agg (aV c)] (dI (ft c)):=by
 rw[←JW];obtain⟨X,e⟩: ∃X,X=wZ c:=⟨_,rfl⟩
 rw[←e];rw[SA]at e;by_cases o:c.kind<1∨7<c.kind
 ·rw[if_pos o]at e;refine aM (F:=pk) Gd (by simp[pk]) ?_;simp only[pk]
  repeat' first|refine ae (fun _=> ?_) fun _=> ?_|refine aL ?_|simp only[gt_iff_lt,wy,qg,aH,simprocAttr,aA,aF,aE,aw]
  all_goals first|(rw[e];done)|omega
 rw[if_neg o]at e;have j:decide (c.kind<1)=false:=by simp;omega
 have l:decide (c.kind>7)=false:=by simp;omega
 have f:=Zm c a8 a8;by_cases h:nx c=false
 ·rw[if_pos h]at e;rw[h]at f;refine aM (F:=pk) Gd (by simp[pk]) ?_;simp only[pk]
  repeat' first|refine ae (fun _=> ?_) fun _=> ?_|refine aL ?_|refine aq.data (f) rfl ?_|simp only[j,l,wy,qg,aH,simprocAttr,aA,aF,aE,aw]
  all_goals(rw[e];done)
 rw[if_neg h]at e;rw[show nx c=true by simpa using h]at f;have i:=N5 c.name A;obtain⟨B,s⟩: ∃B,B=isName c.name:=⟨_,rfl⟩
 rw[←s]at e i;obtain⟨Y,n⟩: ∃Y,Y=rh c.lines (vr c):=⟨_,rfl⟩
 rw[←n]at e;clear o h s A;refine qx (F:=pk) Gd (by simp[pk]) ?_;simp only[pk];refine AC.cut [1] [(1,.d (.ref (aV c)))] [] True ?_ fun J _=> ?_
 ·repeat' first|refine ae (fun _=> ?_) fun _=> ?_|refine aL ?_|simp only[decide_true,wy,qg,aH,simprocAttr,aA,aF,aE,aw]
  all_goals exact⟨_,rfl⟩
 refine AC.cut [1] [(1,.d (.ref (aV c)))] [] (X=Y∧c.lines.length≤2000) ?_ fun J C=> ?_
 ·repeat' first|refine ae (fun _=> ?_) fun _=> ?_|refine aL ?_|refine aq.data (f) rfl ?_|refine aq.data (i) rfl ?_|simp only[j,l,gt_iff_lt,wy,qg,aH,simprocAttr,aA,aF,aE,aw]
  all_goals first
   |(
     refine⟨⟨_,rfl⟩,?_,by omega⟩;clear n f i j l
     first|(simp_all;done)|(simp_all;intros;omega)|((repeat'(split at e))<;>first|exact e|(exfalso;omega)|(exfalso;simp_all;done)|(exfalso;simp_all;omega)))
   |(clear n f i j l;simp_all;done)
   |(clear n f i j l;simp_all;omega)
 obtain⟨rfl,q⟩:=C;clear e f i j l;refine AC.cut [1] [(1,.d (.ref (aV c)))] [] (X=vr c) ?_ fun J u=> ?_
 ·repeat' first|refine ae (fun _=> ?_) fun _=> ?_|refine aL ?_|simp only[decide_true,wy,qg,aH,simprocAttr,aA,aF,aE,aw]
  refine aZ.over c.lines (fun k (_:Unit)=>[(75,iN k)]) (fun _ _=>[]++J) (fun r _=>rh r (vr c)) X () a8 aB aB rfl n (fun k _ x hg hk g w a=> ?_) (fun _ g a=> ?_)
  ·have t:=U0 x;rw[TY]at a;by_cases v:la x=true
   ·rw[if_pos v]at a;rw[v]at t
    repeat' first|refine ae (fun _=> ?_) fun _=> ?_|refine aL ?_|refine aq.data (t) rfl ?_|simp only[g,w,hg,eW,wy,qg,aH,simprocAttr,aA,aF,aE,aw]
    all_goals exact⟨(),a⟩
   ·rw[if_neg v]at a;rw[show la x=false by simpa using v]at t
    repeat' first|refine ae (fun _=> ?_) fun _=> ?_|refine aL ?_|refine aq.data (t) rfl ?_|simp only[g,w,hg,eW,wy,qg,aH,simprocAttr,aA,aF,aE,aw]
    all_goals rw[a]
  ·rw[TZ]at a
   repeat' first|refine ae (fun _=> ?_) fun _=> ?_|refine aL ?_|simp only[g,wy,qg,aH,simprocAttr,aA,aF,aE,aw]
   all_goals exact⟨⟨_,rfl⟩,a⟩
 clear n q;refine AC.cut [1] [(1,.d (.ref (aV c)))] [] (X=(if gG c.over=false then 9 else 0)∧c.over.length≤400) ?_ fun J p=> ?_
 ·repeat' first|refine ae (fun _=> ?_) fun _=> ?_|refine aL ?_|simp only[gt_iff_lt,wy,qg,aH,simprocAttr,aA,aF,aE,aw]
  all_goals first
   |(refine⟨⟨_,rfl⟩,?_,by omega⟩;rw[u];unfold vr;clear u;first|(rw[if_neg (by simp_all),if_neg a8];done)|(rw[if_neg (by simp_all;omega),if_neg a8];done))
   |(rw[u];unfold vr;clear u;first|(rw[if_pos (by simp_all)];done)|(rw[if_neg (by simp_all;omega),if_pos a8];done)|(rw[if_neg (by simp_all),if_pos a8];done))
 obtain⟨p,D⟩:=p;refine bD ?_
 repeat' first|refine ae (fun _=> ?_) fun _=> ?_|refine aL ?_|simp only[decide_true,wy,qg,aH,simprocAttr,aA,aF,aE,aw]
 refine aZ.tr (fun(b:Nat×List aa)=>[(5,iN (b.1+1))]) (fun b=>b.2) (fun m b=>m+b.1=c.over.length∧gG c.over=gG (c.over.drop b.1)) c.over.length (0,J) aB aB rfl ⟨rfl,rfl⟩ ?_;rintro m ⟨k,J⟩ ⟨hm,a⟩;dsimp only at hm a;by_cases hk:k+1<c.over.length
 ·have o:c.over[k]?=some c.over[k]:=bN a8;have h:c.over[k+1]?=some c.over[k+1]:=bN hk;have g:decide (((k+1:Nat):Int)<(c.over.length:Int))=true:=by simp;omega
  have w:IntKind.i64.wrap (((k+1:Nat):Int)+1)=((k+1+1:Nat):Int):=bE a8 a8;have z:IntKind.i64.wrap (((k+1:Nat):Int)-1)=(k:Int):=bE a8 a8;rw[kT (by omega:k<c.over.length),kT hk]at a
  repeat' first|refine ae (fun _=> ?_) fun _=> ?_|refine aL ?_|refine aq.data (Gm _ _) rfl ?_|simp only[g,w,z,o,h,wy,qg,aH,simprocAttr,aA,aF,aE,aw]
  ·rename_i hc;rw[gG,if_pos (by simpa using hc)]at a;rw[p,a];rfl
  ·rename_i hc;rw[gG,if_neg (by simpa using hc),←kT hk]at a;exact⟨m-1,(k+1,J),by omega,rfl,rfl,by omega,a⟩
 ·have g:decide (((k+1:Nat):Int)<(c.over.length:Int))=false:=by simp;omega
  have y:gG (c.over.drop k)=true:=by
   have:(c.over.drop k).length≤1:=by rw[aA];omega
   match c.over.drop k,this with
   |[],_=>rfl
   |[_],_=>rfl
  rw[y]at a;rw[a]at p
  repeat' first|refine ae (fun _=> ?_) fun _=> ?_|refine aL ?_|simp only[g,wy,qg,aH,simprocAttr,aA,aF,aE,aw]
  all_goals(rw[p];simp)
end Go.Proofs.Q
