/- Lemmas. -/
import Derived.Test.YtellfinifjmloaaGreatDoorPAY
set_option linter.unusedVariables false
set_option linter.unusedSimpArgs false
namespace Go.Proofs.Q
open Go Go.Bb Go.RowKit Go.Proofs.Lg
open Go.Ab (D RD)
theorem py(s:bh):aG Tryz.prog 191 [dS s] (.agg (ak (dE s))):=by
 refine aM (F:=B4) WK (by simp[B4]) ?_;simp only[B4];refine aO @dH ab ?_
 all_goals rfl
theorem N6(l:List Sx):aG Tryz.prog 190 [.sl 3 (l.map ak)] (.agg (ak (cP l))):=by
 refine aM (F:=po) Gf (by simp[po]) ?_;simp only[po];refine aO @dH ab ?_
 all_goals rfl
theorem Zp(a b:Sx):aG Tryz.prog 190 [.sl 3 [ak a,ak b]] (.agg (ak (cP [a,b]))):=N6 [a,b]
theorem Zq(a b c d e f:Sx):aG Tryz.prog 190 [.sl 3 [ak a,ak b,ak c,ak d,ak e,ak f]] (.agg (ak (cP [a,b,c,d,e,f]))):=N6 [a,b,c,d,e,f]
theorem Vi(x:Sx):b8 ((ak x).map .d) 2 1 [.nil 3]=some [.d (dB x.isL),.d (dS x.atom),.nil 3]:=by rw[jb];rfl
theorem zg(a b:D):aggA [.d a,.d b,.nil 3]= .agg [.d a,.d b,.nil 3]:=rfl
theorem fS(a b c:AV):b8 ep 0 3 [a,b,c]=some [a,b,c]:=rfl
theorem ig(a b c v:AV):b8 [a,b,c] 2 1 [v]=some [a,b,v]:=rfl
theorem P3(b:Bool)(a:bh)(l:List Sx):(Sx.mk b a l).isL=b:=rfl
theorem P0(b:Bool)(a:bh)(l:List Sx):(Sx.mk b a l).atom=a:=rfl
theorem Gq(s:List aa):b7 Tryz.prog 190 [.nil 3] s fun d a=>d= .agg [.d (dB true),.d (dS ⟨#[]⟩),.nil 3]∧a=s++[.cells [.d (dB true),.d (dS ⟨#[]⟩),.nil 3]]:=by
 refine b7.of (F:=po) Gf (by simp[po]) ?_;simp only[po];refine aO (ga @Vi (ga @zg (ga @fS (ga @P3 (ga @P0 @wj))))) ab ?_;exact⟨rfl,rfl⟩
theorem Sa(b:jW)(n:Int):aG Tryz.prog 261 [dI n] (.tup [.agg (ak (cp n)),dI (if n< -1099511627776∨1099511627776<n then 2 else 0)]):=by
 unfold cp;by_cases h:n< -1099511627776∨1099511627776<n
 ·rw[if_pos h,if_pos h];refine aM (F:=sJ) M7 (by simp[sJ]) ?_;simp only[sJ]
  repeat' first|refine ae (fun _=> ?_) fun _=> ?_|refine aL ?_|simp only[dH,gt_iff_lt,wy,qg,aH,reduceCtorEq,reduceIte,Nat.reduceAdd,Nat.reduceMul,Nat.reduceEqDiff,Nat.reduceLT,Nat.reduceLeDiff,Nat.reduceSub,aA,aF,aE,aw]
  all_goals first|rfl|omega
 ·rw[if_neg h,if_neg h];have a:=b n a8 a8;refine aM (F:=sJ) M7 (by simp[sJ]) ?_;simp only[sJ]
  repeat' first|refine ae (fun _=> ?_) fun _=> ?_|refine aL ?_|refine aq.data (a) rfl ?_|simp only[dH,gt_iff_lt,wy,qg,aH,reduceCtorEq,reduceIte,Nat.reduceAdd,Nat.reduceMul,Nat.reduceEqDiff,Nat.reduceLT,Nat.reduceLeDiff,Nat.reduceSub,aA,aF,aE,aw]
  all_goals first|rfl|omega
theorem iU(a:jW)(n:Int):aG Tryz.prog 193 [dI n] (.agg (ak (cp n))):=by
 refine aM (F:=Bn) X3 (by simp[Bn]) ?_;simp only[Bn];exact bU (ga @dH (ga @cq @wj)) (Sa a)
theorem vu(a:jW)(x:af):aG Tryz.prog 253 [.agg (aj x)] (.agg (ak (bH x))):=by
 refine aM (F:=B8) WO (by simp[B8]) ?_;simp only[B8]
 repeat' first|refine ae (fun _=> ?_) fun _=> ?_|refine aL ?_|refine aq.data (DK _) rfl ?_|refine aq.data (py _) rfl ?_|refine aq.data (iU a _) rfl ?_|refine aq.data (Zp _ _) rfl ?_|simp only[dH,Eg,OJ,JH,az,Iw,wy,qg,aH,reduceCtorEq,reduceIte,Nat.reduceAdd,Nat.reduceMul,Nat.reduceEqDiff,Nat.reduceLT,Nat.reduceLeDiff,Nat.reduceSub,aA,aF,aE,aw]
 ·rename_i h;rw[bH,gm,if_pos h]
 ·rename_i h;rw[bH,gm,if_neg (by simp[h])];rfl
def ez(o:Nat→Nat)(v:AV)(J:List aa)(b:List Sx):Prop:=(v= .nil 3∧b=[])∨ ∃r,v= .tsl (o r) 3 (b.map ak)∧J[r]?=some (.row 217 3 b.length)
theorem ez.deep{o:Nat→Nat}{v:AV}{J:List aa}{b:List Sx}(h:ez o v J b):v.toL=some (.sl 3 (b.map ak)):=by
 rcases h with⟨rfl,rfl⟩|⟨r,rfl,_⟩<;>rfl
theorem ez.new{o:Nat→Nat}(J:List aa)(x:Sx)(a:List aa):ez o (.tsl (o J.length) 3 [ak x]) (J++ .row 217 3 1::a) [x]:= .inr ⟨J.length,rfl,by simp⟩
theorem ez.new1{o:Nat→Nat}(J:List aa)(A:aa)(x:Sx)(a:List aa):ez o (.tsl (o (J.length+1)) 3 [ak x]) (J++A:: .row 217 3 1::a) [x]:= .inr ⟨J.length+1,rfl,by simp⟩
theorem ez.snoc{o:Nat→Nat}{J:List aa}{b:List Sx}{r:Nat}(h:J[r]?=some (.row 217 3 b.length))(x:Sx):ez o (.tsl (o r) 3 (b.map ak++[ak x])) (J.set r (.row 217 3 (b.length+1))) (b++[x]):=by
 have a:=(b9.1 h).1;exact .inr ⟨r,by simp,by rw[eP,if_pos rfl,if_pos a];simp⟩
theorem mq(l:List Sx):ak (cP l)=[dB true,dS ⟨#[]⟩,.sl 3 (l.map ak)]:=jP _ _ _
abbrev MV(r:Nat):Nat:=r+1+1+1
abbrev MW(r:Nat):Nat:=r+1+1+1+1
theorem pH{J:List aa}{r n:Nat}(h:J[r]?=some (.row 217 3 n)):ir 217 3 n J[r]?=true:=by rw[h];simp[ir]
theorem Za(l:List bh)(m:l.length≤1000000000):aG Tryz.prog 258 [.sl 1 (l.map eW)] (.agg (ak (cP (l.map dE)))):=by
 have j:=Gq [.cells ep];refine aM (F:=B9) WQ (by simp[B9]) ?_;simp only[B9];refine uV (ga @fS @wj) @j ?_;refine aO (ga @fS @wj) ab ?_
 refine aZ.overI l (fun k (b:AV×List aa×List Sx)=>[(9,iN k)]) (fun _ b=>[.cells ep,.cells [.d (dB true),.d (dS ⟨#[]⟩),.nil 3],.cells [.d (dB true),.d (dS ⟨#[]⟩),b.1]]++b.2.1) (fun r b=>b.2.2++r.map dE) (l.map dE) (fun k b=>ez MV b.1 b.2.1 b.2.2∧b.2.2.length=k) (.nil 3,[],[]) a8 aB aB rfl rfl ⟨.inl ⟨rfl,rfl⟩,rfl⟩ (fun k b x hg hk g i e c=> ?_) (fun b g e c=> ?_)
 ·obtain⟨v,J,b⟩:=b;obtain⟨c,a⟩:=c;dsimp only at e c a;rcases c with⟨rfl,rfl⟩|⟨r,rfl,hr⟩
  ·have f:bw 1 48=true:=by decide
   repeat' first|refine ae (fun _=> ?_) fun _=> ?_|refine aL ?_|refine aq.data (py _) rfl ?_|simp only[g,i,hg,f,eW,ig,wj,wy,qg,aH,reduceCtorEq,reduceIte,Nat.reduceAdd,Nat.reduceMul,Nat.reduceEqDiff,Nat.reduceLT,Nat.reduceLeDiff,Nat.reduceSub,aA,aF,aE,aw]
   exact⟨(_,_,[dE x]),rfl,by simpa using e,ez.new J _ [],by simp at a;simp[a]⟩
  ·have f:bw (b.length+1) 48=true:=room_le a8 a8;have h:=pH hr
   repeat' first|refine ae (fun _=> ?_) fun _=> ?_|refine aL ?_|refine aq.data (py _) rfl ?_|simp only[g,i,hg,f,hr,h,eW,ig,wj,wy,qg,aH,reduceCtorEq,reduceIte,Nat.reduceAdd,Nat.reduceMul,Nat.reduceEqDiff,Nat.reduceLT,Nat.reduceLeDiff,Nat.reduceSub,aA,aF,aE,aw]
   exact⟨(_,_,b++[dE x]),rfl,by simpa using e,ez.snoc hr _,by simp[a]⟩
 ·obtain⟨v,J,b⟩:=b;obtain⟨c,a⟩:=c;dsimp only at e c a;simp at e;rw[e];rcases c with⟨rfl,rfl⟩|⟨r,rfl,hr⟩
  ·refine aO (ga @g (ga @fS (ga @zg @wj))) ab ?_;rw[mq];rfl
  ·refine aO (ga @g (ga @fS @wj)) ab ?_;rw[mq]
theorem xQ(j:jW)(l:List af)(o:l.length≤1000000000):aG Tryz.prog 254 [.sl 33 (l.map aj)] (.agg (ak (eH l))):=by
 have n:=Gq [.cells ep];have cI:=vu j;clear j;refine aM (F:=Bo) X4 (by simp[Bo]) ?_;simp only[Bo];refine uV (ga @fS @wj) @n ?_;refine aO (ga @fS @wj) ab ?_
 refine aZ.overI l (fun k (b:AV×List aa×List Sx)=>[(9,iN k)]) (fun _ b=>[.cells ep,.cells [.d (dB true),.d (dS ⟨#[]⟩),.nil 3],.cells [.d (dB true),.d (dS ⟨#[]⟩),b.1]]++b.2.1) (fun r b=>b.2.2++r.map bH) (l.map bH) (fun k b=>ez MV b.1 b.2.1 b.2.2∧b.2.2.length=k) (.nil 3,[],[]) a8 aB aB rfl rfl ⟨.inl ⟨rfl,rfl⟩,rfl⟩ (fun k b x hg hk g m e c=> ?_) (fun b g e c=> ?_)
 ·obtain⟨v,J,b⟩:=b;obtain⟨c,a⟩:=c;dsimp only at e c a;rcases c with⟨rfl,rfl⟩|⟨r,rfl,hr⟩
  ·have f:bw 1 48=true:=by decide
   refine aO (ga @g (ga @m (ga @hg (ga @f (ga @ig (ga @az @wj)))))) @cI ?_;exact⟨(_,_,[bH x]),rfl,by simpa using e,ez.new1 J _ _ [],by simp at a;simp[a]⟩
  ·have f:bw (b.length+1) 48=true:=room_le a8 a8;have i:=pH hr;have h:=bW hr;refine aO (ga @g (ga @m (ga @hg (ga @f (ga @hr (ga @h (ga @i (ga @ig (ga @az @wj))))))))) @cI ?_;exact⟨(_,_,b++[bH x]),rfl,by simpa using e,ez.snoc (bW hr _) _,by simp[a]⟩
 ·obtain⟨v,J,b⟩:=b;obtain⟨c,a⟩:=c;dsimp only at e c a;simp at e;unfold eH;rw[e];rcases c with⟨rfl,rfl⟩|⟨r,rfl,hr⟩
  ·refine aO (ga @g (ga @fS (ga @zg @wj))) ab ?_;rw[mq];rfl
  ·refine aO (ga @g (ga @fS @wj)) ab ?_;rw[mq]
theorem Sp(a:jW)(c:aC):aG Tryz.prog 251 [.agg (aV c)] (.sl 3 [ak (cp c.type)]):=by
 refine aM (F:=Bd) WT (by simp[Bd]) ?_;simp only[Bd];exact bU ab (iU a)
theorem Sq(a:jW)(c:aC)(d:c.over.length≤1000000000):aG Tryz.prog 252 [.agg (aV c)] (.sl 3 [ak (bH c.file),ak (bH c.parent),ak (dE c.name),ak (eH c.over)]):=by
 have b:=xQ a c.over d;refine aM (F:=Be) WU (by simp[Be]) ?_;simp only[Be];exact bU ab (ga (vu a) (ga @py @b))
theorem Sr(a:jW)(c:aC)(d:c.over.length≤1000000000):aG Tryz.prog 255 [.agg (aV c)] (.sl 3 [ak (bH c.file),ak (cp c.mode),ak (eH c.over)]):=by
 have b:=xQ a c.over d;refine aM (F:=Bf) WV (by simp[Bf]) ?_;simp only[Bf];exact bU ab (ga (vu a) (ga (iU a) @b))
theorem Ss(a:jW)(c:aC)(d:c.over.length≤1000000000):aG Tryz.prog 256 [.agg (aV c)] (.sl 3 [ak (bH c.file),ak (dE c.data),ak (eH c.over)]):=by
 have b:=xQ a c.over d;refine aM (F:=Bg) WW (by simp[Bg]) ?_;simp only[Bg];exact bU ab (ga (vu a) (ga @py @b))
theorem Su(b:jW)(c:aC)(d:c.lines.length≤1000000000):aG Tryz.prog 257 [.agg (aV c)] (.sl 3 [ak (bH c.file),ak (bH c.after),ak (bH c.before),ak (cP (c.lines.map dE))]):=by
 have a:=Za c.lines d;refine aM (F:=Bh) WX (by simp[Bh]) ?_;simp only[Bh];exact bU ab (ga (vu b) (ga @py @a))
theorem Sv(a:jW)(c:aC)(d:c.over.length≤1000000000):aG Tryz.prog 259 [.agg (aV c)] (.sl 3 [ak (bH c.file),ak (bH c.after),ak (bH c.before),ak (eH c.over)]):=by
 have b:=xQ a c.over d;refine aM (F:=Bi) WY (by simp[Bi]) ?_;simp only[Bi];exact bU ab (ga (vu a) (ga @py @b))
theorem Sw(b:jW)(c:aC)(d:c.over.length≤1000000000):aG Tryz.prog 260 [.agg (aV c)] (.sl 3 [ak (eH c.over)]):=by
 have a:=xQ b c.over d;refine aM (F:=Bj) WZ (by simp[Bj]) ?_;simp only[Bj];exact bU ab @a
def jc:List (List Value×AV):=[([.int .i64 1],.clo 251 [] []),([.int .i64 2],.clo 252 [] []),([.int .i64 3],.clo 255 [] []),([.int .i64 4],.clo 256 [] []),([.int .i64 5],.clo 257 [] []),([.int .i64 6],.clo 259 [] []),([.int .i64 7],.clo 260 [] [])]
theorem Zc(s:List aa):b7 Tryz.prog 192 [] s fun d a=>d= .mp s.length∧a=s++[.map false jc]:=by
 refine b7.of (F:=Bc) WS (by simp[Bc]) ?_;simp only[Bc]
 repeat' first|simp only[AV.key,AV.keyK,e9,bx,oC]|refine ae (fun _=> ?_) fun _=> ?_|refine ay @wj ab ?_|exact ax @wj ab|fail
 rfl
end Go.Proofs.Q
namespace Go.Bb
open Go Go.Ab
theorem AC.cutJ{P:Program}{N:Nat}{d:Option Nat}{a b:CC}{Q:Exit→Fr→List aa→Prop}{fr:Fr}{s:List aa}(keep:List Nat)(fr0:Fr)(p:List aa→Prop)
  (ha:cF P d a (fO (fun fr' c=>iQ keep fr0 fr'∧p c) Q) fr s) (hb: ∀c,p c→AC P N d b Q (dY keep fr0) c):AC P N d (.seq a b) Q fr s:=by
 refine AC.seq ((bD ha).mono fun e fr' c h=> ?_);cases e with
 |normal=>
  obtain⟨f,g⟩:=h;exact(hb _ g).frame f.sub
 |_=>exact h
end Go.Bb
namespace Go.Proofs.Q
open Go Go.Bb Go.RowKit Go.Proofs.Lg
open Go.Ab (D RD)
def fT(t:Nat):FuncId:=if t=2 then 244 else if t=3 then 245 else if t=4 then 246 else if t=5 then 247 else if t=6 then 248 else 249
def p7(c:aC)(t:Nat):List AV:=if t=6∨t=7 then[.d (.ref (aV c))]else[]
def E6(c:aC)(p:af×Nat):af×FuncId×List AV:=(p.1,fT p.2,p7 c p.2)
def mU(c:aC)(l:List (af×Nat))(s:List aa):Prop:= ∃v J,s= .cells [v]::J∧pU v J (l.map (E6 c))
theorem mU.add{c:aC}{l:List (af×Nat)}{s:List aa}(h:mU c l s)(x:af)(t:Nat)(g:l.length≤1000000):b7 Tryz.prog 243 [.d (.agg (aj x)),.clo (fT t) [] (p7 c t),.ptr 0 0] s fun d a=>d=vT∧mU c (l++[(x,t)]) a:=by
 obtain⟨v,J,rfl,e⟩:=h;refine(a2C e x (fT t) (p7 c t) (by simpa using g)).mono ?_;rintro d a ⟨rfl,i,b,rfl,f⟩;exact⟨rfl,i,b,rfl,by simpa[E6]using f⟩
theorem mU.more{c:aC}{l:List (af×Nat)}{s:List aa}(h:mU c l s)(o:aa):mU c l (s++[o]):=by
 obtain⟨v,J,rfl,a⟩:=h;exact⟨v,J++[o],rfl,a.more o⟩
def qp(c:aC):List (af×Nat):=if c.kind=2∨c.kind=3 then[(c.file,2)]else if c.kind=4 then[(c.file,3)]else if c.kind=5∨c.kind=6 then[(c.file,4)]else[]
def rL(c:aC):List (af×Nat):=if c.kind=2∧c.parent≠⟨.zero,-1⟩then[(c.parent,5)]else[]
def tO(c:aC):List (af×Nat):=if c.kind=5∨c.kind=6 then[(c.after,6),(c.before,6)]else[]
set_option maxHeartbeats 4000000 in
theorem N8(c:aC)(I:c.over.length≤100000):b7 Tryz.prog 187 [.d (.agg (aV c))] [] fun d f=> ∃J,f= .cells [d]::J∧pU d J ((fa c).map (E6 c)):=by
 refine b7.ofA (F:=Bq) X6 (by simp[Bq]) ?_;simp only[Bq];refine AC.cutJ [1] [(1,.d (.ref (aV c)))] (fun s=>s=[]) ?_ fun s g=> ?_
 ·exact bU ab ab
 subst g;refine AC.cutJ [1,3] [(1,.d (.ref (aV c))),(3,.ptr 0 0)] (fun s=>s=[.cells [.nil 34]]) ?_ fun s g=> ?_
 ·exact bU ab ab
 subst g;refine AC.cutJ [1,3,4] [(1,.d (.ref (aV c))),(3,.ptr 0 0),(4,.clo 243 [] [.ptr 0 0])] (fun s=>s=[.cells [.nil 34]]) ?_ fun s g=> ?_
 ·exact bU ab ab
 subst g;have j:mU c [] [.cells [.nil 34]]:=⟨_,_,rfl,.inl ⟨rfl,rfl⟩⟩
 generalize[aa.cells [.nil 34]]=s0 at j⊢;refine AC.cutJ [1,3,4] [(1,.d (.ref (aV c))),(3,.ptr 0 0),(4,.clo 243 [] [.ptr 0 0])] (mU c (qp c)) ?_ fun s g=> ?_
 ·have a2:b7 Tryz.prog 243 [.d (.agg (aj c.file)),.clo 244 [] [],.ptr 0 0] s0 _:=j.add c.file 2 (by simp);have a3:b7 Tryz.prog 243 [.d (.agg (aj c.file)),.clo 245 [] [],.ptr 0 0] s0 _:=j.add c.file 3 (by simp);have a4:b7 Tryz.prog 243 [.d (.agg (aj c.file)),.clo 246 [] [],.ptr 0 0] s0 _:=j.add c.file 4 (by simp)
  repeat' first|refine ae (fun _=> ?_) fun _=> ?_|(refine aq.fn (a2.mono ?_);rintro _ f ⟨rfl,h⟩)|(refine aq.fn (a3.mono ?_);rintro _ f ⟨rfl,h⟩)|(refine aq.fn (a4.mono ?_);rintro _ f ⟨rfl,h⟩)|refine ay ab ab ?_|exact ax ab ab|fail
  all_goals(unfold qp;clear a2 a3 a4;simp_all)
 have y:(qp c).length≤10:=by unfold qp;(repeat' split)<;>simp
 clear j;refine AC.cutJ [1,3,4] [(1,.d (.ref (aV c))),(3,.ptr 0 0),(4,.clo 243 [] [.ptr 0 0])] (mU c (qp c++rL c)) ?_ fun H n=> ?_
 ·have a5:b7 Tryz.prog 243 [.d (.agg (aj c.parent)),.clo 247 [] [],.ptr 0 0] s _:=g.add c.parent 5 a8
  repeat' first|refine ae (fun _=> ?_) fun _=> ?_|(refine aq.fn (a5.mono ?_);rintro _ f ⟨rfl,h⟩)|refine ay ab @qL ?_|exact ax ab @qL|fail
  all_goals(unfold rL;simp_all)
 have z:(qp c++rL c).length≤20:=by
  have:(rL c).length≤1:=by unfold rL;split<;>simp
  simp only[aR];omega
 clear g;refine AC.cutJ [1,3,4] [(1,.d (.ref (aV c))),(3,.ptr 0 0),(4,.clo 243 [] [.ptr 0 0])] (mU c (qp c++rL c++tO c)) ?_ fun s2 p=> ?_
 ·have D:b7 Tryz.prog 243 [.d (.agg (aj c.after)),.clo 248 [] [.d (.ref (aV c))],.ptr 0 0] H _:=n.add c.after 6 a8
  repeat' first|refine ae (fun _=> ?_) fun _=> ?_|(refine aq.fn (D.mono ?_);rintro _ f ⟨rfl,h⟩)|refine ay ab ab ?_|exact ax ab ab|fail
  iterate 2
   ·have t:b7 Tryz.prog 243 [.d (.agg (aj c.before)),.clo 248 [] [.d (.ref (aV c))],.ptr 0 0] f _:=h.add c.before 6 (by simp only[aR,aY,b6]at*;omega)
    repeat' first|refine ae (fun _=> ?_) fun _=> ?_|(refine aq.fn (t.mono ?_);rintro _ G ⟨rfl,E⟩)|refine ay ab ab ?_|exact ax ab ab|fail
    all_goals(unfold tO;simp_all)
  all_goals(unfold tO;simp_all)
 have m:(qp c++rL c++tO c).length≤30:=by
  have:(tO c).length≤2:=by unfold tO;split<;>simp
  rw[aR];omega
 clear n y z;obtain⟨L,u⟩: ∃L,L=qp c++rL c++tO c:=⟨_,rfl⟩
 have e:fa c=L++c.over.map fun x=>(x,7):=by rw[u];rfl
 rw[←u]at p m;rw[e];clear e u;refine AC.cutJ [3] [(3,.ptr 0 0)] (mU c (L++c.over.map fun x=>(x,7))) ?_ fun K A=> ?_
 ·refine aO ab ab ?_;refine aZ.overI c.over (fun k (b:List (af×Nat)×List aa)=>[(66,iN k)]) (fun _ b=>b.2) (fun r b=>b.1++r.map fun x=>(x,7)) (L++c.over.map fun x=>(x,7)) (fun k b=>mU c b.1 b.2∧b.1.length≤30+k) (L,s2) a8 aB aB rfl rfl ⟨p,by simpa using m⟩ (fun k b x hg hk q C e a=> ?_) (fun b q e a=> ?_)
  ·obtain⟨l,s⟩:=b;obtain⟨a,w⟩:=a;dsimp only at e a w;have t: ∀o,b7 Tryz.prog 243 [.d (.agg (aj x)),.clo 249 [] [.d (.ref (aV c))],.ptr 0 0] (s++[o]) _:=fun o=>(a.more o).add x 7 a8;obtain⟨v,J,rfl,B⟩:=id a
   repeat' first|refine ae (fun _=> ?_) fun _=> ?_|(refine aq.fn ((t _).mono ?_);rintro _ f ⟨rfl,h⟩)|refine ay (ga @q (ga @C (ga @hg (ga @az (ga @da @wj))))) ab ?_|exact ax (ga @q (ga @C (ga @hg (ga @az (ga @da @wj))))) ab|fail
   exact⟨(l++[(x,7)],f),rfl,by simpa using e,h,by simp;omega⟩
  ·obtain⟨l,s⟩:=b;obtain⟨a,w⟩:=a;dsimp only at e a w;rw[e8,bg]at e;rw[e];refine aO @q ab ?_
   all_goals exact a
 ·obtain⟨v,J,rfl,B⟩:=A;refine bD ?_;refine aO @wj ab ?_;rcases B with⟨rfl,i⟩|⟨r,rfl,i⟩
  ·refine aO @wj ab ?_;exact⟨_,rfl,.inl ⟨rfl,i⟩⟩
  ·refine aO @wj ab ?_;exact⟨_,rfl,.inr ⟨r,by simp,i⟩⟩
end Go.Proofs.Q
namespace Go.Proofs.Q
open Go Go.Bb Go.Proofs.Lg
open Go.Ab (D RD)
theorem _root_.Go.Bb.ShsOk.split{a b:List Sh}{ds:List D}(h:ShsOk (a++b) ds): ∃x y,ds=x++y∧ShsOk a x∧ShsOk b y:=by
 have f:=h.1;rw[aR]at f;refine⟨ds.take a.length,ds.drop a.length,(ji _ _).symm,⟨by rw[ck];omega,fun i sh d e c=> ?_⟩,⟨by rw[aA];omega,fun i sh d e c=> ?_⟩⟩
 ·have hi:=(b9.1 e).1;rw[eY,if_pos hi]at c;exact h.2 i sh d (by rw[fM hi];exact e) c
 ·rw[fm]at c;exact h.2 (a.length+i) sh d (by rw[iO a8,mR];exact e) c
theorem _root_.Go.Bb.ShsOk.cons{a:Sh}{b:List Sh}{ds:List D}(h:ShsOk (a::b) ds): ∃x y,ds=x::y∧ShOk a x∧ShsOk b y:=by
 obtain⟨x,y,rfl,c,d⟩:=ShsOk.split (a:=[a]) h
 match x,c.1 with
 |[x],_=>exact⟨x,y,rfl,c.2 0 a x rfl rfl,d⟩
theorem _root_.Go.Bb.ShsOk.nil{ds:List D}(h:ShsOk [] ds):ds=[]:=yV.1 h.1
theorem _root_.Go.Bb.ShOk.int_inv{k:IntKind}{d:D}(h:ShOk (.int k) d): ∃n,d= .sc (.int k n)∧(Lit.int k n).wf=true:=by cases h;exact⟨_,rfl,by assumption⟩
theorem _root_.Go.Bb.ShOk.str_inv{d:D}(h:ShOk .str d): ∃b:ByteArray,d= .sc (.string b)∧b.size≤maxLen:=by cases h;exact⟨_,rfl,by assumption⟩
theorem _root_.Go.Bb.ShOk.sl_inv{sz:Nat}{shs:List Sh}{d:D}(h:ShOk (.sl sz shs) d): ∃rows,d= .sl sz rows∧rows.length≤maxLen∧ ∀r∈rows,ShsOk shs r:=by
 cases h with
 |sl b c e=>exact⟨_,rfl,b,fun r a=>⟨c r a,fun i sh d f g=>e r i sh d a f g⟩⟩
theorem Hh{α:Type}{f:α→List D}{ok:α→Prop}: ∀(rows:List (List D)),(∀r∈rows,∃x,r=f x∧ok x)→ ∃l:List α,rows=l.map f∧ ∀x∈l,ok x
 |[],_=>⟨[],rfl,by simp⟩
 |r::rows,h=>by
  obtain⟨x,rfl,d⟩:=h r (by simp);obtain⟨l,rfl,b⟩:=Hh rows fun r c=>h r (eQ _ c);refine⟨x::l,rfl,fun y a=> ?_⟩;rcases bM.1 a with rfl|a
  ·exact d
  ·exact b y a
theorem a3K{n:Int}(h:(Lit.int .u8 n).wf=true):0≤n∧n<256:=by
 simp[Lit.wf,IntKind.min,IntKind.max,IntKind.bits,IntKind.signed]at h;omega
def yp:List Sh:=List.replicate 32 (.int .u8)
def oD:List Sh:=yp++[.int .i64]
def Hr:List Sh:= .int .i64::(oD++(.int .i64::(oD++(.str:: .int .i64:: .str::(oD++(oD++[.sl 1 [.str],.sl 33 oD]))))))
def rP:List Sh:=[.str,.str,.int .i64,.sl 32 yp,.sl 139 Hr]
def OE:List Sh:=yp++rP
def mz:Sh:= .sl 37 OE
structure yQ(c:aC):Prop where
 name:c.name.size≤maxLen
 data:c.data.size≤maxLen
 lines:c.lines.length≤maxLen
 line: ∀s∈c.lines,s.size≤maxLen
 over:c.over.length≤maxLen
structure jn(p:aX):Prop where
 author:p.author.size≤maxLen
 message:p.message.size≤maxLen
 deps:p.deps.length≤maxLen
 changes:p.changes.length≤maxLen
 chg: ∀c∈p.changes,yQ c
structure iY(s:aD):Prop where
 len:s.length≤maxLen
 pat: ∀x∈s,jn x.pat
theorem KH: ∀(n:Nat) (ds:List D),ShsOk (List.replicate n (.int .u8)) ds→ ∃l:List Int,ds=l.map (fun b=> .sc (.int .u8 b))∧l.length=n∧ ∀b∈l,0≤b∧b<256
 |0,ds,h=>⟨[],h.nil,rfl,by simp⟩
 |n+1,ds,h=>by
  obtain⟨x,y,rfl,c,d⟩:=h.cons;obtain⟨m,rfl,f⟩:=c.int_inv;obtain⟨l,rfl,e,hb⟩:=KH n y d;refine⟨m::l,rfl,by simp[e],fun b a=> ?_⟩;rcases bM.1 a with rfl|h
  ·exact a3K f
  ·exact hb b h
theorem Fj{ds:List D}(h:ShsOk yp ds): ∃d:Dg,ds=aP d:=by
 obtain⟨l,rfl,a,hb⟩:=KH 32 ds h;exact⟨⟨l,a,hb⟩,rfl⟩
theorem sH{ds:List D}(h:ShsOk oD ds): ∃x:af,ds=aj x:=by
 obtain⟨x,y,rfl,a,b⟩:=h.split;obtain⟨d,rfl⟩:=Fj a;obtain⟨z,w,rfl,c,e⟩:=b.cons;obtain rfl:=e.nil;obtain⟨n,rfl,_⟩:=c.int_inv;exact⟨⟨d,n⟩,rfl⟩
theorem a3B{d:D}(h:ShOk (.sl 1 [.str]) d): ∃l:List bh,d= .sl 1 (l.map eW)∧l.length≤maxLen∧ ∀s∈l,s.size≤maxLen:=by
 obtain⟨rows,rfl,g,i⟩:=h.sl_inv;obtain⟨l,rfl,a⟩:=Hh (f:=eW) (ok:=fun s=>s.size≤maxLen) rows fun r h=>by
  obtain⟨x,y,rfl,c,e⟩:=(i r h).cons;obtain rfl:=e.nil;obtain⟨b,rfl,hb⟩:=c.str_inv;exact⟨b,rfl,hb⟩
 exact⟨l,rfl,by simpa using g,a⟩
theorem Ef{α:Type}{f:α→List D}{ok:α→Prop}{sz:Nat}{shs:List Sh}{d:D}(b: ∀ds,ShsOk shs ds→ ∃x,ds=f x∧ok x)(h:ShOk (.sl sz shs) d): ∃l:List α,d= .sl sz (l.map f)∧l.length≤maxLen∧ ∀x∈l,ok x:=by
 obtain⟨rows,rfl,c,e⟩:=h.sl_inv;obtain⟨l,rfl,a⟩:=Hh (f:=f) (ok:=ok) rows fun r h=>b r (e r h);exact⟨l,rfl,by simpa using c,a⟩
theorem FJ{d:D}(h:ShOk (.sl 33 oD) d): ∃l:List af,d= .sl 33 (l.map aj)∧l.length≤maxLen:=by
 obtain⟨l,a,b,_⟩:=Ef (f:=aj) (ok:=fun _=>True) (fun ds h=>let⟨x,h⟩:=sH h;⟨x,h,trivial⟩) h;exact⟨l,a,b⟩
theorem Sf{d:D}(h:ShOk (.sl 32 yp) d): ∃l:List Dg,d= .sl 32 (l.map aP)∧l.length≤maxLen:=by
 obtain⟨l,a,b,_⟩:=Ef (f:=aP) (ok:=fun _=>True) (fun ds h=>let⟨x,h⟩:=Fj h;⟨x,h,trivial⟩) h;exact⟨l,a,b⟩
theorem RH{ds:List D}(h:ShsOk Hr ds): ∃c:aC,ds=aV c∧yQ c:=by
 unfold Hr at h;obtain⟨x0,M,rfl,p,f⟩:=h.cons;obtain⟨kind,rfl,_⟩:=p.int_inv;obtain⟨C,N,rfl,q,g⟩:=f.split;obtain⟨file,rfl⟩:=sH q;obtain⟨E,O,rfl,r,i⟩:=g.cons;obtain⟨type,rfl,_⟩:=r.int_inv;obtain⟨F,P,rfl,s,j⟩:=i.split;obtain⟨parent,rfl⟩:=sH s;obtain⟨G,Q,rfl,t,k⟩:=j.cons;obtain⟨name,rfl,o4⟩:=t.str_inv;obtain⟨H,R,rfl,u,l⟩:=k.cons;obtain⟨mode,rfl,_⟩:=u.int_inv
 obtain⟨I,S,rfl,v,m⟩:=l.cons;obtain⟨data,rfl,o6⟩:=v.str_inv;obtain⟨J,T,rfl,w,n⟩:=m.split;obtain⟨after,rfl⟩:=sH w;obtain⟨K,U,rfl,x,o⟩:=n.split;obtain⟨before,rfl⟩:=sH x;obtain⟨L,V,rfl,y,a⟩:=o.cons;obtain⟨lines,rfl,o9,z⟩:=a3B y;obtain⟨A,B,rfl,d,b⟩:=a.cons;obtain⟨over,rfl,e⟩:=FJ d;obtain rfl:=b.nil
 exact⟨⟨kind,file,type,parent,name,mode,data,after,before,lines,over⟩,by simp only[aV,yX,mO,bm],o4,o6,o9,z,e⟩
theorem tJ{ds:List D}(h:ShsOk rP ds): ∃p:aX,ds=bc p∧jn p:=by
 obtain⟨x0,s,rfl,g,a⟩:=h.cons;obtain⟨author,rfl,o0⟩:=g.str_inv;obtain⟨n,t,rfl,i,b⟩:=a.cons;obtain⟨message,rfl,o1⟩:=i.str_inv;obtain⟨o,u,rfl,j,c⟩:=b.cons;obtain⟨time,rfl,_⟩:=j.int_inv;obtain⟨q,v,rfl,k,d⟩:=c.cons;obtain⟨deps,rfl,o3⟩:=Sf k;obtain⟨r,w,rfl,l,e⟩:=d.cons;obtain⟨changes,rfl,o4,m⟩:=Ef (f:=aV) (ok:=yQ) (fun ds h=>RH h) l;obtain rfl:=e.nil
 exact⟨⟨author,message,time,deps,changes⟩,rfl,o0,o1,o3,o4,m⟩
theorem a3A{ds:List D}(h:ShsOk OE ds): ∃x:bT,ds=b5 x∧jn x.pat:=by
 obtain⟨x,y,rfl,a,b⟩:=h.split;obtain⟨d,rfl⟩:=Fj a;obtain⟨p,rfl,hp⟩:=tJ b;exact⟨⟨d,p⟩,rfl,hp⟩
theorem nu{d:D}(h:ShOk mz d): ∃s:aD,d= .sl 37 (s.map b5)∧iY s:=by
 obtain⟨s,a,b,c⟩:=Ef (f:=b5) (ok:=fun x=>jn x.pat) (fun ds h=>a3A h) h;exact⟨s,a,b,c⟩
end Go.Proofs.Q
