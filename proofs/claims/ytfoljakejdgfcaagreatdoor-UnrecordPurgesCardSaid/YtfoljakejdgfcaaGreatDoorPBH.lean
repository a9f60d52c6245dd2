/- Part of a proof. -/
import Derived.Test.YtfoljakejdgfcaaGreatDoorPBG
import Derived.Test.YtfoljakejdgfcaaGreatDoorPBA
set_option linter.unusedVariables false
set_option linter.unusedSimpArgs false
namespace Go.Proofs.Q
open Go Go.Bb Go.RowKit Go.Proofs.Lg
open Go.Ab (D RD)
open Go.Proofs.Lh (eJ nL qG C3 tU FY FX FV)
def jq(s:List aa)(id:Nat)(l:List UInt8):Prop:=(l=[]∧s[id]?=some (.tcells 260 [.d (.sc (.pointer none)),.nil 1]))∨ ∃cq,s[id]?=some (.tcells 260 [.ptr id 0,.tsl cq 1 (eJ l)])∧s[cq]?=some (.row 5 1 l.length)∧id≠cq∧l≠[]
theorem jq.more{s:List aa}{id:Nat}{l:List UInt8}(h:jq s id l)(J:List aa):jq (s++J) id l:=by
 rcases h with⟨a,b⟩|⟨cq,a,b,h3,h4⟩
 ·exact .inl ⟨a,bP b J⟩
 ·exact .inr ⟨cq,bP a J,bP b J,h3,h4⟩
theorem xn(l:List UInt8):(eJ l).length=l.length:=by simp[eJ]
theorem NB(a b:List UInt8):eJ a++eJ b=eJ (a++b):=by simp[eJ]
theorem KL{s:List aa}{cq e a n:Nat}(h:s[cq]?=some (.row e a n)):fc e a n s[cq]?=true:=by rw[h];simp[fc]
theorem Gd{s:List aa}{id:Nat}{l b:List UInt8}(h:jq s id l)(hb:l=[]→b≠[])(j:l.length+b.length≤140737488355328): ∃p i,nL s id=some p∧qG s id p.1 b p.2=some i∧jq i id (l++b):=by
 rcases h with⟨rfl,a⟩|⟨cq,h1,a,h3,h4⟩
 ·have f:=(aR.1 a).1;have c:=hb rfl;have e:qG s id (.d (.sc (.pointer none))) b (.nil 1)=some (((s.set id (.tcells 260 [.ptr id 0,.nil 1]))++[aa.row 5 1 b.length]).set id (.tcells 260 [.ptr id 0,.tsl s.length 1 (eJ b)])):=
   if_pos ⟨rfl,List.length_pos_iff.2 c,by simpa using j⟩
  refine⟨(.d (.sc (.pointer none)),.nil 1),_,by simp[nL,a],e,.inr ⟨s.length,?_,?_,by omega,by simpa using c⟩⟩
  ·rw[ey,if_pos rfl,if_pos (by simp;omega)];simp
  ·rw[ey,if_neg a8,gZ (by simp)];simp
 ·have f:=(aR.1 h1).1;have g:=(aR.1 a).1;have e:qG s id (.ptr id 0) b (.tsl cq 1 (eJ l))=some (((s.set id (.tcells 260 [.ptr id 0,.tsl cq 1 (eJ l)])).set cq (.row 5 1 ((eJ l).length+b.length))).set id (.tcells 260 [.ptr id 0,.tsl cq 1 (eJ l++eJ b)])):=
   if_pos ⟨by simp[tU],by rw[xn];exact KL a,by rw[xn];omega⟩
  refine⟨(.ptr id 0,.tsl cq 1 (eJ l)),_,by simp[nL,h1],e,.inr ⟨cq,?_,?_,h3,by simp[h4]⟩⟩
  ·rw[ey,if_pos rfl,if_pos (by simp;omega),NB]
  ·rw[ey,if_neg h3,ey,if_pos rfl,if_pos (by simp;omega),aN,xn]
theorem L4{s:List aa}{id:Nat}{l:List UInt8}(h:jq s id l)(b:aZ)(hb:l≠[])(i:l.length+b.size≤140737488355328):aT Tryz.prog 273 [.ptr id 0,.d (dS b)] s fun d a=>d= .d (.tup [.sc (.int .i64 b.size),.sc .nilIface])∧jq a id (l++b.data.toList):=by
 obtain⟨p,a,c,f,g⟩:=Gd h (b:=b.data.toList) (fun e=>absurd e hb) (by rw[fi];exact i);exact⟨_,a,FY c f,rfl,g⟩
theorem F4{s:List aa}{id:Nat}{l:List UInt8}(h:jq s id l)(c:Nat)(j:c<256)(i:l.length+1≤140737488355328):aT Tryz.prog 274 [.ptr id 0,.d (.sc (.int .u8 c))] s fun d a=>d= .d (.sc .nilIface)∧jq a id (l++[UInt8.ofNat c]):=by
 obtain⟨p,a,e,f,g⟩:=Gd h (b:=[UInt8.ofNat c]) (fun _=>by simp) (by simpa using i);exact⟨_,a,FX (c:=(c:Int)) a8 e (by simpa using f),rfl,g⟩
theorem XW{s:List aa}{id:Nat}{l:List UInt8}(h:jq s id l)(b:l≠[]):aT Tryz.prog 249 [.ptr id 0] s fun d g=>d= .d (dS (str l)):=by
 rcases h with⟨a,_⟩|⟨cq,a,h2,h3,h4⟩
 ·exact absurd a b
 ·have c:C3 s id=some (str l,s.set cq .junk):=by
   unfold C3 nL;rw[a];show(if _ then _ else none)=_;rw[xn,if_pos ⟨KL h2,List.length_pos_iff.2 b⟩];have hb:gl ((eJ l).flatten.map .d)=some l:=by
    rw[Go.Proofs.Lh.byteRows_flat,lk];clear a h2 h3 h4 b
    induction l with
    |nil=>rfl
    |cons x l f=>
     rw[bO,gl];have e:pL ((AV.d∘fun x:UInt8=>D.sc (.int .u8 x.toNat)) x)=some x:=by
      show(if(0:Int)≤(x.toNat:Int)∧(x.toNat:Int)<256 then some (UInt8.ofNat (x.toNat:Int).toNat)else none)=_;have:=x.toNat_lt;rw[if_pos a8];simp
     rw[e,f];rfl
   rw[hb];rfl
  exact⟨_,_,FV c,rfl⟩
theorem xl(a b:aZ):(a++b).data.toList=a.data.toList++b.data.toList:=by rw[uE];simp
theorem Fm(l:List UInt8):(str l).data.toList=l:=by simp[str]
def lC(d:Nat)(x:Sx):List UInt8:=(fE d x).data.toList
theorem Hd(d:Nat): ∀(l:List Sx) (s:aZ),(l.foldl (fun s x=>s++fE d x) s).data.toList=s.data.toList++l.flatMap (lC d)
 |[],s=>by simp
 |x::l,s=>by rw[gz,Hd d l,xl,nU,bj];rfl
theorem Hc(d:Nat)(l:List Sx):lC (d+1) (.mk true ⟨#[]⟩ l)=40::(l.flatMap (lC d)++[41]):=by
 show(fE (d+1) (.mk true ⟨#[]⟩ l)).data.toList=_;rw[fE,if_pos rfl,xl,Hd,Fm,Fm];simp
theorem Ou(d:Nat)(a:aZ):lC (d+1) (.mk false a [])=(dec a.size).data.toList++(58::a.data.toList):=by
 show(fE (d+1) (.mk false a [])).data.toList=_;rw[fE,if_neg (by simp),xl,xl,Fm,bj];rfl
def jr:Prop:= ∀n:Int,-1099511627776≤n→n≤1099511627776→aE Tryz.prog 270 [dI n] (dS (dec n))
theorem Cy(P:Program)(l:List CO)(K:Fr→List aa→List Nat→Prop)(a:List Nat)(fr:Fr)(s:List aa)(m t:Nat):df P l K a fr (some t) m s (.d (.sc .nilIface))=bH P l K (m::a) ((t,.d (.sc .nilIface))::fr) s:=propext dj
set_option maxRecDepth 20000 in
theorem GV(A:jr): ∀(d:Nat) (x:Sx) (i:Nat) (s:List aa) (l:List UInt8),eW d x→bG d x≤1000000000→jq s i l→(l≠[]∨x.isL=true)→l.length+(lC d x).length≤1000000000000→
  aT Tryz.prog 248 [.ptr i 0,.d (.agg (ae x))] s fun E n=>E=vT∧jq n i (l++lC d x)
 |0,_,_,_,_,h,_,_,_,_=>h.elim
 |d+1,.mk b a l,i,s,l0,hg0,hn,hs,hl0,hsz=>by
  have y:=GV A d;rcases id hg0 with⟨rfl,rfl,ha⟩|⟨rfl,rfl,hl⟩
  ·have w:l0≠[]:=by rcases hl0 with h|h;exact h;cases h
   rw[Ou]at hsz⊢;simp only[aN,aU,fi]at hsz;have z:=A a.size a8 a8;have t:=L4 hs (dec a.size) w a8;refine aT.of (F:=rz) IQ (by simp[rz]) ?_;simp only[rz];rw[jj]
   repeat' first|refine ak (fun _=> ?_) fun _=> ?_|(refine aj.fn (t.mono ?_);rintro _ D ⟨rfl,e⟩)|refine bb @wj @z ?_|exact ba @wj @z|fail
   have v:=F4 e 58 a8 (by simp only[aN,fi];omega)
   repeat' first|refine ak (fun _=> ?_) fun _=> ?_|(refine aj.fn (v.mono ?_);rintro _ M ⟨rfl,f⟩)|refine bb @wj trivial ?_|exact ba @wj trivial|fail
   have H:=L4 f a (by simp) (by simp only[aN,fi,qP];omega)
   repeat' first|refine ak (fun _=> ?_) fun _=> ?_|(refine aj.fn (H.mono ?_);rintro _ O ⟨rfl,o⟩)|refine bb (ga @wj @Cy) trivial ?_|exact ba (ga @wj @Cy) trivial|fail
   simp only[bj,List.singleton_append]at o;exact o
  ·have B:bG (d+1) (.mk true ⟨#[]⟩ l)=1+(l.map (bG d)).sum:=rfl;have q:l.length≤(l.map (bG d)).sum:=sG _ fun x L=>qh (hl x L);rw[B]at hn;rw[Hc]at hsz⊢;simp only[aN,aU,aY]at hsz
   have t:aT Tryz.prog 274 [.ptr i 0,.d (.sc (.int .u8 40))] s fun d n=>d= .d (.sc .nilIface)∧jq n i (l0++[40]):=F4 hs 40 a8 a8;refine aT.of (F:=rz) IQ (by simp[rz]) ?_;simp only[rz];rw[jj]
   repeat' first|refine ak (fun _=> ?_) fun _=> ?_|(refine aj.fn (t.mono ?_);rintro _ D ⟨rfl,e⟩)|refine bb @wj trivial ?_|exact ba @wj trivial|fail
   refine aw (ga @wj @Cy) trivial ?_;refine aX.overI l (fun k (b:List UInt8×List aa)=>[(26,iN k)]) (fun _ b=>b.2) (fun r b=>b.1++r.flatMap (lC d)) (l0++[40]++l.flatMap (lC d)) (fun _ b=>jq b.2 i b.1∧b.1≠[]) (l0++[40],D) a8 aA aA rfl rfl ⟨e,by simp⟩ (fun k b x hg N p C j g=> ?_) (fun b p j g=> ?_)
   ·obtain⟨u,b⟩:=b;obtain⟨g,c⟩:=g;dsimp only at j g c;rw[nU,←bj]at j;have m:=congrArg List.length j;simp only[aN,aU,aY]at m;have K:=wB (bG d) hg;have I:=fun J=>y x i (b++J) u (hl x (bT hg)) a8 (g.more J) (.inl c) a8;clear y B q t e hs hg0 hl0
    repeat' first|refine ak (fun _=> ?_) fun _=> ?_|(refine aj.fn ((I _).mono ?_);rintro _ n ⟨rfl,G⟩)|refine bb (ga @p (ga @C (ga @hg (ga @dE (ga @ch @wj))))) trivial ?_|exact ba (ga @p (ga @C (ga @hg (ga @dE (ga @ch @wj))))) trivial|fail
    exact⟨(u++lC d x,n),rfl,by simpa using j,G,by simp[c]⟩
   ·obtain⟨u,b⟩:=b;obtain⟨g,c⟩:=g;dsimp only at j g c;rw[List.flatMap_nil,bg]at j;have m:=congrArg List.length j;simp only[aN,aU,aY]at m;have v:aT Tryz.prog 274 [.ptr i 0,.d (.sc (.int .u8 41))] b fun d n=>d= .d (.sc .nilIface)∧jq n i (u++[41]):=F4 g 41 a8 a8
    repeat' first|refine ak (fun _=> ?_) fun _=> ?_|(refine aj.fn (v.mono ?_);rintro _ M ⟨rfl,f⟩)|refine bb (ga @p @wj) trivial ?_|exact ba (ga @p @wj) trivial|fail
    refine aw (ga @wj @Cy) trivial ?_;rw[←j]at f;simpa using f
theorem Of(h:jr){l:List Sx}(hg:eW 6 (cp l))(j:bG 6 (cp l)≤20000)(b:(kP (cp l)).size≤1000000000000):aE Tryz.prog 188 [.agg (ae (cp l))] (.tup [dS (kP (cp l)),dI 0]):=by
 have c:=Oe hg j;have i:(lC 6 (cp l)).length=(kP (cp l)).size:=fi _;have f:=GV h 6 (cp l) 0 [.tcells 260 [.d (.sc (.pointer none)),.nil 1]] [] hg a8 (.inl ⟨rfl,rfl⟩) (.inr rfl) (by rw[i];simpa using b);refine aI (F:=yK) RC (by simp[yK]) ?_;simp only[yK]
 repeat' first|refine ak (fun _=> ?_) fun _=> ?_|(refine aj.fn (f.mono ?_);rintro _ k ⟨rfl,a⟩)|refine bb @wj @c ?_|exact ba @wj @c|fail
 have g:=XW a (by rw[bn];unfold cp;rw[Hc];simp)
 repeat' first|refine ak (fun _=> ?_) fun _=> ?_|(refine aj.fn (g.mono ?_);rintro _ m rfl)|refine bb @wj trivial ?_|exact ba @wj trivial|fail
 have e:str ([]++lC 6 (cp l))=kP (cp l):=by
  rw[bn];unfold lC kP str;simp
 rw[bn]at e;rw[e]
end Go.Proofs.Q
namespace Go.Proofs.Q
open Go Go.Bb Go.RowKit Go.Proofs.Lg
open Go.Ab (D RD)
theorem nB(s:aZ):aE Tryz.prog 185 [dS s] (.agg (ae (dp s))):=by
 refine aI (F:=z6) RV (by simp[z6]) ?_;simp only[z6];refine aw @dE trivial ?_
 all_goals rfl
theorem JL(l:List Sx):aE Tryz.prog 184 [.sl 3 (l.map ae)] (.agg (ae (cp l))):=by
 refine aI (F:=nt) E0 (by simp[nt]) ?_;simp only[nt];refine aw @dE trivial ?_
 all_goals rfl
theorem UB(a b:Sx):aE Tryz.prog 184 [.sl 3 [ae a,ae b]] (.agg (ae (cp [a,b]))):=JL [a,b]
theorem UC(a b c d e f:Sx):aE Tryz.prog 184 [.sl 3 [ae a,ae b,ae c,ae d,ae e,ae f]] (.agg (ae (cp [a,b,c,d,e,f]))):=JL [a,b,c,d,e,f]
theorem Qx(x:Sx):aV ((ae x).map .d) 2 1 [.nil 3]=some [.d (dB x.isL),.d (dS x.atom),.nil 3]:=by rw[iV];rfl
theorem xg(a b:D):aggA [.d a,.d b,.nil 3]= .agg [.d a,.d b,.nil 3]:=rfl
theorem fw(a b c:AV):aV ek 0 3 [a,b,c]=some [a,b,c]:=rfl
theorem gO(a b c v:AV):aV [a,b,c] 2 1 [v]=some [a,b,v]:=rfl
theorem Lw(b:Bool)(a:aZ)(l:List Sx):(Sx.mk b a l).isL=b:=rfl
theorem Lv(b:Bool)(a:aZ)(l:List Sx):(Sx.mk b a l).atom=a:=rfl
theorem Ed(s:List aa):aT Tryz.prog 184 [.nil 3] s fun d a=>d= .agg [.d (dB true),.d (dS ⟨#[]⟩),.nil 3]∧a=s++[.cells [.d (dB true),.d (dS ⟨#[]⟩),.nil 3]]:=by
 refine aT.of (F:=nt) E0 (by simp[nt]) ?_;simp only[nt];refine aw (ga @Qx (ga @xg (ga @fw (ga @Lw (ga @Lv @wj))))) trivial ?_;exact⟨rfl,rfl⟩
theorem Og(b:jr)(n:Int):aE Tryz.prog 246 [dI n] (.tup [.agg (ae (cd n)),dI (if n< -1099511627776∨1099511627776<n then 2 else 0)]):=by
 unfold cd;by_cases h:n< -1099511627776∨1099511627776<n
 ·rw[if_pos h,if_pos h];refine aI (F:=ry) IP (by simp[ry]) ?_;simp only[ry]
  repeat' first|refine ak (fun _=> ?_) fun _=> ?_|refine aD ?_|simp only[dE,gt_iff_lt,wy,qg,aC,reduceCtorEq,reduceIte,Nat.reduceAdd,Nat.reduceMul,Nat.reduceEqDiff,Nat.reduceLT,Nat.reduceLeDiff,Nat.reduceSub,ax,aB,ay,au]
  all_goals first|rfl|omega
 ·rw[if_neg h,if_neg h];have a:=b n a8 a8;refine aI (F:=ry) IP (by simp[ry]) ?_;simp only[ry]
  repeat' first|refine ak (fun _=> ?_) fun _=> ?_|refine aD ?_|refine aj.data (a) rfl ?_|simp only[dE,gt_iff_lt,wy,qg,aC,reduceCtorEq,reduceIte,Nat.reduceAdd,Nat.reduceMul,Nat.reduceEqDiff,Nat.reduceLT,Nat.reduceLeDiff,Nat.reduceSub,ax,aB,ay,au]
  all_goals first|rfl|omega
theorem iG(a:jr)(n:Int):aE Tryz.prog 187 [dI n] (.agg (ae (cd n))):=by
 refine aI (F:=zq) Sd (by simp[zq]) ?_;simp only[zq];exact bx (ga @dE (ga @ch @wj)) (Og a)
theorem tZ(a:jr)(x:ar):aE Tryz.prog 238 [.agg (ab x)] (.agg (ae (bD x))):=by
 refine aI (F:=zc) RZ (by simp[zc]) ?_;simp only[zc]
 repeat' first|refine ak (fun _=> ?_) fun _=> ?_|refine aD ?_|refine aj.data (Bv _) rfl ?_|refine aj.data (nB _) rfl ?_|refine aj.data (iG a _) rfl ?_|refine aj.data (UB _ _) rfl ?_|simp only[dE,C2,Lf,Hb,aM,G4,wy,qg,aC,reduceCtorEq,reduceIte,Nat.reduceAdd,Nat.reduceMul,Nat.reduceEqDiff,Nat.reduceLT,Nat.reduceLeDiff,Nat.reduceSub,ax,aB,ay,au]
 ·rename_i h;rw[bD,fO,if_pos h]
 ·rename_i h;rw[bD,fO,if_neg (by simp[h])];rfl
def ep(o:Nat→Nat)(v:AV)(J:List aa)(b:List Sx):Prop:=(v= .nil 3∧b=[])∨ ∃r,v= .tsl (o r) 3 (b.map ae)∧J[r]?=some (.row 199 3 b.length)
theorem ep.deep{o:Nat→Nat}{v:AV}{J:List aa}{b:List Sx}(h:ep o v J b):v.toL=some (.sl 3 (b.map ae)):=by
 rcases h with⟨rfl,rfl⟩|⟨r,rfl,_⟩<;>rfl
theorem ep.new{o:Nat→Nat}(J:List aa)(x:Sx)(a:List aa):ep o (.tsl (o J.length) 3 [ae x]) (J++ .row 199 3 1::a) [x]:= .inr ⟨J.length,rfl,by simp⟩
theorem ep.new1{o:Nat→Nat}(J:List aa)(A:aa)(x:Sx)(a:List aa):ep o (.tsl (o (J.length+1)) 3 [ae x]) (J++A:: .row 199 3 1::a) [x]:= .inr ⟨J.length+1,rfl,by simp⟩
theorem ep.snoc{o:Nat→Nat}{J:List aa}{b:List Sx}{r:Nat}(h:J[r]?=some (.row 199 3 b.length))(x:Sx):ep o (.tsl (o r) 3 (b.map ae++[ae x])) (J.set r (.row 199 3 (b.length+1))) (b++[x]):=by
 have a:=(aR.1 h).1;exact .inr ⟨r,by simp,by rw[ey,if_pos rfl,if_pos a];simp⟩
theorem kY(l:List Sx):ae (cp l)=[dB true,dS ⟨#[]⟩,.sl 3 (l.map ae)]:=jj _ _ _
abbrev ao(r:Nat):Nat:=r+1+1+1
abbrev aK(r:Nat):Nat:=r+1+1+1+1
theorem nI{J:List aa}{r n:Nat}(h:J[r]?=some (.row 199 3 n)):fc 199 3 n J[r]?=true:=by rw[h];simp[fc]
theorem Uk(l:List aZ)(n:l.length≤1000000000):aE Tryz.prog 243 [.sl 1 (l.map eG)] (.agg (ae (cp (l.map dp)))):=by
 have j:=Ed [.cells ek];refine aI (F:=zd) S0 (by simp[zd]) ?_;simp only[zd];refine pY (ga @fw @wj) @j ?_;refine aw (ga @fw @wj) trivial ?_
 refine aX.overI l (fun k (b:AV×List aa×List Sx)=>[(9,iN k)]) (fun _ b=>[.cells ek,.cells [.d (dB true),.d (dS ⟨#[]⟩),.nil 3],.cells [.d (dB true),.d (dS ⟨#[]⟩),b.1]]++b.2.1) (fun r b=>b.2.2++r.map dp) (l.map dp) (fun k b=>ep ao b.1 b.2.1 b.2.2∧b.2.2.length=k) (.nil 3,[],[]) a8 aA aA rfl rfl ⟨.inl ⟨rfl,rfl⟩,rfl⟩ (fun k b x hg m g i e c=> ?_) (fun b g e c=> ?_)
 ·obtain⟨v,J,b⟩:=b;obtain⟨c,a⟩:=c;dsimp only at e c a;rcases c with⟨rfl,rfl⟩|⟨r,rfl,hr⟩
  ·have f:br 1 48=true:=by decide
   repeat' first|refine ak (fun _=> ?_) fun _=> ?_|refine aD ?_|refine aj.data (nB _) rfl ?_|simp only[g,i,hg,f,eG,gO,wj,wy,qg,aC,reduceCtorEq,reduceIte,Nat.reduceAdd,Nat.reduceMul,Nat.reduceEqDiff,Nat.reduceLT,Nat.reduceLeDiff,Nat.reduceSub,ax,aB,ay,au]
   exact⟨(_,_,[dp x]),rfl,by simpa using e,ep.new J _ [],by simp at a;simp[a]⟩
  ·have f:br (b.length+1) 48=true:=room_le a8 a8;have h:=nI hr
   repeat' first|refine ak (fun _=> ?_) fun _=> ?_|refine aD ?_|refine aj.data (nB _) rfl ?_|simp only[g,i,hg,f,hr,h,eG,gO,wj,wy,qg,aC,reduceCtorEq,reduceIte,Nat.reduceAdd,Nat.reduceMul,Nat.reduceEqDiff,Nat.reduceLT,Nat.reduceLeDiff,Nat.reduceSub,ax,aB,ay,au]
   exact⟨(_,_,b++[dp x]),rfl,by simpa using e,ep.snoc hr _,by simp[a]⟩
 ·obtain⟨v,J,b⟩:=b;obtain⟨c,a⟩:=c;dsimp only at e c a;simp at e;rw[e];rcases c with⟨rfl,rfl⟩|⟨r,rfl,hr⟩
  ·refine aw (ga @g (ga @fw (ga @xg @wj))) trivial ?_;rw[kY];rfl
  ·refine aw (ga @g (ga @fw @wj)) trivial ?_;rw[kY]
theorem vM(m:jr)(l:List ar)(q:l.length≤1000000000):aE Tryz.prog 239 [.sl 33 (l.map ab)] (.agg (ae (eF l))):=by
 have o:=Ed [.cells ek];have j:=tZ m;clear m;refine aI (F:=zr) Se (by simp[zr]) ?_;simp only[zr];refine pY (ga @fw @wj) @o ?_;refine aw (ga @fw @wj) trivial ?_
 refine aX.overI l (fun k (b:AV×List aa×List Sx)=>[(9,iN k)]) (fun _ b=>[.cells ek,.cells [.d (dB true),.d (dS ⟨#[]⟩),.nil 3],.cells [.d (dB true),.d (dS ⟨#[]⟩),b.1]]++b.2.1) (fun r b=>b.2.2++r.map bD) (l.map bD) (fun k b=>ep ao b.1 b.2.1 b.2.2∧b.2.2.length=k) (.nil 3,[],[]) a8 aA aA rfl rfl ⟨.inl ⟨rfl,rfl⟩,rfl⟩ (fun k b x hg p g n e c=> ?_) (fun b g e c=> ?_)
 ·obtain⟨v,J,b⟩:=b;obtain⟨c,a⟩:=c;dsimp only at e c a;rcases c with⟨rfl,rfl⟩|⟨r,rfl,hr⟩
  ·have f:br 1 48=true:=by decide
   refine aw (ga @g (ga @n (ga @hg (ga @f (ga @gO (ga @aM @wj)))))) @j ?_;exact⟨(_,_,[bD x]),rfl,by simpa using e,ep.new1 J _ _ [],by simp at a;simp[a]⟩
  ·have f:br (b.length+1) 48=true:=room_le a8 a8;have i:=nI hr;have h:=bP hr;refine aw (ga @g (ga @n (ga @hg (ga @f (ga @hr (ga @h (ga @i (ga @gO (ga @aM @wj))))))))) @j ?_;exact⟨(_,_,b++[bD x]),rfl,by simpa using e,ep.snoc (bP hr _) _,by simp[a]⟩
 ·obtain⟨v,J,b⟩:=b;obtain⟨c,a⟩:=c;dsimp only at e c a;simp at e;unfold eF;rw[e];rcases c with⟨rfl,rfl⟩|⟨r,rfl,hr⟩
  ·refine aw (ga @g (ga @fw (ga @xg @wj))) trivial ?_;rw[kY];rfl
  ·refine aw (ga @g (ga @fw @wj)) trivial ?_;rw[kY]
theorem OK(a:jr)(c:af):aE Tryz.prog 236 [.agg (aQ c)] (.sl 3 [ae (cd c.type)]):=by
 refine aI (F:=zg) S3 (by simp[zg]) ?_;simp only[zg];exact bx trivial (iG a)
theorem OL(a:jr)(c:af)(d:c.over.length≤1000000000):aE Tryz.prog 237 [.agg (aQ c)] (.sl 3 [ae (bD c.file),ae (bD c.parent),ae (dp c.name),ae (eF c.over)]):=by
 have b:=vM a c.over d;refine aI (F:=zh) S4 (by simp[zh]) ?_;simp only[zh];exact bx trivial (ga (tZ a) (ga @nB @b))
theorem OM(a:jr)(c:af)(d:c.over.length≤1000000000):aE Tryz.prog 240 [.agg (aQ c)] (.sl 3 [ae (bD c.file),ae (cd c.mode),ae (eF c.over)]):=by
 have b:=vM a c.over d;refine aI (F:=zi) S5 (by simp[zi]) ?_;simp only[zi];exact bx trivial (ga (tZ a) (ga (iG a) @b))
theorem ON(a:jr)(c:af)(d:c.over.length≤1000000000):aE Tryz.prog 241 [.agg (aQ c)] (.sl 3 [ae (bD c.file),ae (dp c.data),ae (eF c.over)]):=by
 have b:=vM a c.over d;refine aI (F:=zj) S6 (by simp[zj]) ?_;simp only[zj];exact bx trivial (ga (tZ a) (ga @nB @b))
theorem OO(b:jr)(c:af)(d:c.lines.length≤1000000000):aE Tryz.prog 242 [.agg (aQ c)] (.sl 3 [ae (bD c.file),ae (bD c.after),ae (bD c.before),ae (cp (c.lines.map dp))]):=by
 have a:=Uk c.lines d;refine aI (F:=zk) S7 (by simp[zk]) ?_;simp only[zk];exact bx trivial (ga (tZ b) (ga @nB @a))
theorem OP(a:jr)(c:af)(d:c.over.length≤1000000000):aE Tryz.prog 244 [.agg (aQ c)] (.sl 3 [ae (bD c.file),ae (bD c.after),ae (bD c.before),ae (eF c.over)]):=by
 have b:=vM a c.over d;refine aI (F:=zl) S8 (by simp[zl]) ?_;simp only[zl];exact bx trivial (ga (tZ a) (ga @nB @b))
theorem OQ(b:jr)(c:af)(d:c.over.length≤1000000000):aE Tryz.prog 245 [.agg (aQ c)] (.sl 3 [ae (eF c.over)]):=by
 have a:=vM b c.over d;refine aI (F:=zm) S9 (by simp[zm]) ?_;simp only[zm];exact bx trivial @a
def iX:List (List Value×AV):=[([.int .i64 1],.clo 236 [] []),([.int .i64 2],.clo 237 [] []),([.int .i64 3],.clo 240 [] []),([.int .i64 4],.clo 241 [] []),([.int .i64 5],.clo 242 [] []),([.int .i64 6],.clo 244 [] []),([.int .i64 7],.clo 245 [] [])]
theorem Um(s:List aa):aT Tryz.prog 186 [] s fun d a=>d= .mp s.length∧a=s++[.map false iX]:=by
 refine aT.of (F:=zf) S2 (by simp[zf]) ?_;simp only[zf]
 repeat' first|simp only[AV.key,AV.keyK,dC,bw,p6]|refine ak (fun _=> ?_) fun _=> ?_|refine bb @wj trivial ?_|exact ba @wj trivial|fail
 rfl
end Go.Proofs.Q
