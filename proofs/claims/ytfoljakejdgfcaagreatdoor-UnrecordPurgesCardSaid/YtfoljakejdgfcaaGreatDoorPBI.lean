/- Part of a proof. -/
import Derived.Test.YtfoljakejdgfcaaGreatDoorPBH
set_option linter.unusedVariables false
set_option linter.unusedSimpArgs false
namespace Go.Bb
open Go Go.Ab
theorem AC.cutJ{P:Program}{N:Nat}{g:Option Nat}{a b:CC}{Q:Exit→Fr→List aa→Prop}{fr:Fr}{s:List aa}(c:List Nat)(d:Fr)(p:List aa→Prop)
  (ha:bR P g a (fp (fun fr' f=>iP c d fr'∧p f) Q) fr s) (hb: ∀f,p f→AC P N g b Q (dV c d) f):AC P N g (.seq a b) Q fr s:=by
 refine AC.seq ((bL ha).mono fun e fr' f h=> ?_);cases e with
 |normal=>
  obtain⟨i,j⟩:=h;exact(hb _ j).frame i.sub
 |_=>exact h
end Go.Bb
namespace Go.Proofs.Q
open Go Go.Bb Go.RowKit Go.Proofs.Lg
open Go.Ab (D RD)
def fT(t:Nat):FuncId:=if t=2 then 157 else if t=3 then 158 else if t=4 then 159 else if t=5 then 160 else if t=6 then 161 else 162
def na(c:af)(t:Nat):List AV:=if t=6∨t=7 then[.d (.ref (aQ c))]else[]
def BP(c:af)(p:ar×Nat):ar×FuncId×List AV:=(p.1,fT p.2,na c p.2)
def lq(c:af)(l:List (ar×Nat))(s:List aa):Prop:= ∃v J,s= .cells [v]::J∧ou v J (l.map (BP c))
theorem lq.add{c:af}{l:List (ar×Nat)}{s:List aa}(h:lq c l s)(x:ar)(t:Nat)(g:l.length≤1000000):aT Tryz.prog 156 [.d (.agg (ab x)),.clo (fT t) [] (na c t),.ptr 0 0] s fun d a=>d=vT∧lq c (l++[(x,t)]) a:=by
 obtain⟨v,J,rfl,e⟩:=h;refine(XB e x (fT t) (na c t) (by simpa using g)).mono ?_;rintro d a ⟨rfl,i,b,rfl,f⟩;exact⟨rfl,i,b,rfl,by simpa[BP]using f⟩
theorem lq.more{c:af}{l:List (ar×Nat)}{s:List aa}(h:lq c l s)(o:aa):lq c l (s++[o]):=by
 obtain⟨v,J,rfl,a⟩:=h;exact⟨v,J++[o],rfl,a.more o⟩
def oX(c:af):List (ar×Nat):=if c.kind=2∨c.kind=3 then[(c.file,2)]else if c.kind=4 then[(c.file,3)]else if c.kind=5∨c.kind=6 then[(c.file,4)]else[]
def qz(c:af):List (ar×Nat):=if c.kind=2∧c.parent≠⟨.zero,-1⟩then[(c.parent,5)]else[]
def su(c:af):List (ar×Nat):=if c.kind=5∨c.kind=6 then[(c.after,6),(c.before,6)]else[]
set_option maxHeartbeats 4000000 in
theorem JN(c:af)(Q:c.over.length≤100000):aT Tryz.prog 114 [.d (.agg (aQ c))] [] fun d f=> ∃J,f= .cells [d]::J∧ou d J ((eP c).map (BP c)):=by
 refine aT.ofA (F:=zu) Sg (by simp[zu]) ?_;simp only[zu];refine AC.cutJ [1] [(1,.d (.ref (aQ c)))] (fun s=>s=[]) ?_ fun s g=> ?_
 ·exact bx trivial trivial
 subst g;refine AC.cutJ [1,3] [(1,.d (.ref (aQ c))),(3,.ptr 0 0)] (fun s=>s=[.cells [.nil 34]]) ?_ fun s g=> ?_
 ·exact bx trivial trivial
 subst g;refine AC.cutJ [1,3,4] [(1,.d (.ref (aQ c))),(3,.ptr 0 0),(4,.clo 156 [] [.ptr 0 0])] (fun s=>s=[.cells [.nil 34]]) ?_ fun s g=> ?_
 ·exact bx trivial trivial
 subst g;have j:lq c [] [.cells [.nil 34]]:=⟨_,_,rfl,.inl ⟨rfl,rfl⟩⟩
 generalize[aa.cells [.nil 34]]=s0 at j⊢;refine AC.cutJ [1,3,4] [(1,.d (.ref (aQ c))),(3,.ptr 0 0),(4,.clo 156 [] [.ptr 0 0])] (lq c (oX c)) ?_ fun s g=> ?_
 ·have B:aT Tryz.prog 156 [.d (.agg (ab c.file)),.clo 157 [] [],.ptr 0 0] s0 _:=j.add c.file 2 (by simp);have C:aT Tryz.prog 156 [.d (.agg (ab c.file)),.clo 158 [] [],.ptr 0 0] s0 _:=j.add c.file 3 (by simp);have D:aT Tryz.prog 156 [.d (.agg (ab c.file)),.clo 159 [] [],.ptr 0 0] s0 _:=j.add c.file 4 (by simp)
  repeat' first|refine ak (fun _=> ?_) fun _=> ?_|(refine aj.fn (B.mono ?_);rintro _ f ⟨rfl,h⟩)|(refine aj.fn (C.mono ?_);rintro _ f ⟨rfl,h⟩)|(refine aj.fn (D.mono ?_);rintro _ f ⟨rfl,h⟩)|refine bb trivial trivial ?_|exact ba trivial trivial|fail
  all_goals(unfold oX;clear B C D;simp_all)
 have y:(oX c).length≤10:=by unfold oX;(repeat' split)<;>simp
 clear j;refine AC.cutJ [1,3,4] [(1,.d (.ref (aQ c))),(3,.ptr 0 0),(4,.clo 156 [] [.ptr 0 0])] (lq c (oX c++qz c)) ?_ fun N n=> ?_
 ·have H:aT Tryz.prog 156 [.d (.agg (ab c.parent)),.clo 160 [] [],.ptr 0 0] s _:=g.add c.parent 5 a8
  repeat' first|refine ak (fun _=> ?_) fun _=> ?_|(refine aj.fn (H.mono ?_);rintro _ f ⟨rfl,h⟩)|refine bb trivial @xj ?_|exact ba trivial @xj|fail
  all_goals(unfold qz;simp_all)
 have z:(oX c++qz c).length≤20:=by
  have:(qz c).length≤1:=by unfold qz;split<;>simp
  simp only[aN];omega
 clear g;refine AC.cutJ [1,3,4] [(1,.d (.ref (aQ c))),(3,.ptr 0 0),(4,.clo 156 [] [.ptr 0 0])] (lq c (oX c++qz c++su c)) ?_ fun O p=> ?_
 ·have I:aT Tryz.prog 156 [.d (.agg (ab c.after)),.clo 161 [] [.d (.ref (aQ c))],.ptr 0 0] N _:=n.add c.after 6 a8
  repeat' first|refine ak (fun _=> ?_) fun _=> ?_|(refine aj.fn (I.mono ?_);rintro _ f ⟨rfl,h⟩)|refine bb trivial trivial ?_|exact ba trivial trivial|fail
  iterate 2
   ·have t:aT Tryz.prog 156 [.d (.agg (ab c.before)),.clo 161 [] [.d (.ref (aQ c))],.ptr 0 0] f _:=h.add c.before 6 (by simp only[aN,aU,aY]at*;omega)
    repeat' first|refine ak (fun _=> ?_) fun _=> ?_|(refine aj.fn (t.mono ?_);rintro _ M ⟨rfl,K⟩)|refine bb trivial trivial ?_|exact ba trivial trivial|fail
    all_goals(unfold su;simp_all)
  all_goals(unfold su;simp_all)
 have m:(oX c++qz c++su c).length≤30:=by
  have:(su c).length≤2:=by unfold su;split<;>simp
  rw[aN];omega
 clear n y z;obtain⟨L,u⟩: ∃L,L=oX c++qz c++su c:=⟨_,rfl⟩
 have e:eP c=L++c.over.map fun x=>(x,7):=by rw[u];rfl
 rw[←u]at p m;rw[e];clear e u;refine AC.cutJ [3] [(3,.ptr 0 0)] (lq c (L++c.over.map fun x=>(x,7))) ?_ fun R A=> ?_
 ·refine aw trivial trivial ?_;refine aX.overI c.over (fun k (b:List (ar×Nat)×List aa)=>[(66,iN k)]) (fun _ b=>b.2) (fun r b=>b.1++r.map fun x=>(x,7)) (L++c.over.map fun x=>(x,7)) (fun k b=>lq c b.1 b.2∧b.1.length≤30+k) (L,O) a8 aA aA rfl rfl ⟨p,by simpa using m⟩ (fun k b x hg P q G e a=> ?_) (fun b q e a=> ?_)
  ·obtain⟨l,s⟩:=b;obtain⟨a,w⟩:=a;dsimp only at e a w;have t: ∀o,aT Tryz.prog 156 [.d (.agg (ab x)),.clo 162 [] [.d (.ref (aQ c))],.ptr 0 0] (s++[o]) _:=fun o=>(a.more o).add x 7 a8;obtain⟨v,J,rfl,E⟩:=id a
   repeat' first|refine ak (fun _=> ?_) fun _=> ?_|(refine aj.fn ((t _).mono ?_);rintro _ f ⟨rfl,h⟩)|refine bb (ga @q (ga @G (ga @hg (ga @aM (ga @fS @wj))))) trivial ?_|exact ba (ga @q (ga @G (ga @hg (ga @aM (ga @fS @wj))))) trivial|fail
   exact⟨(l++[(x,7)],f),rfl,by simpa using e,h,by simp;omega⟩
  ·obtain⟨l,s⟩:=b;obtain⟨a,w⟩:=a;dsimp only at e a w;rw[eg,bg]at e;rw[e];refine aw @q trivial ?_
   all_goals exact a
 ·obtain⟨v,J,rfl,E⟩:=A;refine bL ?_;refine aw @wj trivial ?_;rcases E with⟨rfl,i⟩|⟨r,rfl,i⟩
  ·refine aw @wj trivial ?_;exact⟨_,rfl,.inl ⟨rfl,i⟩⟩
  ·refine aw @wj trivial ?_;exact⟨_,rfl,.inr ⟨r,by simp,i⟩⟩
end Go.Proofs.Q
namespace Go.Proofs.Q
open Go Go.Bb Go.RowKit Go.Proofs.Lg
open Go.Ab (D RD)
theorem YF(x:Sx)(i:Nat)(a:List (List D)):aV ((ae x).map .d) 2 1 [.tsl i 3 a]=some [.d (dB x.isL),.d (dS x.atom),.tsl i 3 a]:=by rw[iV];rfl
theorem j6(a b:D)(i:Nat)(c:List (List D)):aggA [.d a,.d b,.tsl i 3 c]= .agg [.d a,.d b,.tsl i 3 c]:=rfl
theorem kD(x:Sx)(a b c:AV):aV ((ae x).map .d) 0 3 [a,b,c]=some [a,b,c]:=gp (by simp[ch]) rfl
theorem ko(i:Nat)(a:List (List D))(s:List aa):aT Tryz.prog 184 [.tsl i 3 a] s fun d b=>d= .agg [.d (dB true),.d (dS ⟨#[]⟩),.tsl i 3 a]∧b=s++[.cells [.d (dB true),.d (dS ⟨#[]⟩),.tsl i 3 a]]:=by
 refine aT.of (F:=nt) E0 (by simp[nt]) ?_;simp only[nt];refine aw (ga @YF (ga @j6 (ga @fw (ga @Lw (ga @Lv @wj))))) trivial ?_;exact⟨rfl,rfl⟩
theorem ky:br 1 48=true:=by decide
theorem BS:br 2 48=true:=by decide
theorem BT:br 4 48=true:=by decide
theorem uj:br 5 48=true:=by decide
theorem sH{J X:List aa}{m r e d n:Nat}{c:List (List Value×AV)}{o:aa}(a:J[m]?=some (.map false c))(b:J[r]?=some (.row e d n)):((J++X).set r o)[m]?=some (.map false c):=by
 rw[bs (by rintro rfl;rw[a]at b;cases b),bP a]
theorem ep.new4{o:Nat→Nat}(J:List aa)(A B C E:aa)(x:Sx):ep o (.tsl (o (J.length+4)) 3 [ae x]) (J++[A,B,C,E,.row 199 3 1]) [x]:= .inr ⟨J.length+4,rfl,by simp⟩
theorem iJ{x:AV}{l:List AV}{d:D}{ds:List D}(h:x.toL=some d)(a:toLs l=some ds):toLs (x::l)=some (d::ds):=by simp[toLs,h,a]
theorem Nx(a b c d:Sx)(f g:List Sx)(u v:AV)(k:u.toL=some (.sl 3 (f.map ae)))(m:v.toL=some (.sl 3 (g.map ae))):((aV (List.map AV.d (ae a++(ae b++(ae c++(ae d++(ae Sx.zero++ae Sx.zero)))))) 12 3 [.d (dB true),.d (dS ⟨#[]⟩),u]).bind fun e=>(aV e 15 3 [.d (dB true),.d (dS ⟨#[]⟩),v]).bind fun e=>some e).bind (oV 3 6)=some (.d (.sl 3 [ae a,ae b,ae c,ae d,ae (cp f),ae (cp g)])):=by
 rw[kY,kY,iV a,iV b,iV c,iV d,iV Sx.zero];have i:=iJ (x:=AV.d (dB true)) (l:=[.d (dS ⟨#[]⟩),v]) rfl (iJ (x:= .d (dS ⟨#[]⟩)) (l:=[v]) rfl (iJ m rfl));have h:=iJ (x:=AV.d (dB true)) (l:=_::u::_) rfl (iJ (x:= .d (dS ⟨#[]⟩)) rfl (iJ k i))
 have j:=fun(q r s t w y z A B n o p:D)=>iJ (x:= .d q) rfl<|iJ (x:= .d r) rfl<|iJ (x:= .d s) rfl<|iJ (x:= .d t) rfl<|iJ (x:= .d w) rfl<|iJ (x:= .d y) rfl<|iJ (x:= .d z) rfl<|iJ (x:= .d A) rfl<|iJ (x:= .d B) rfl<|iJ (x:= .d n) rfl<|iJ (x:= .d o) rfl<|iJ (x:= .d p) rfl h
 show oV 3 6 [_,_,_,_,_,_,_,_,_,_,_,_,_,_,u,_,_,v]=_;unfold oV;rw[if_pos ⟨rfl,by decide⟩,j];rfl
theorem Li:((0:Int)<32∧(0:Int)≤32)=True:=by simp
theorem G5:(Int.toNat 0+(Int.toNat 32-Int.toNat 0)≤32)=True:=by simp
theorem H7(x:Dg):List.take (Int.toNat 32-Int.toNat 0) (List.drop (Int.toNat 0) (aq x))=aq x:=by
 show List.take 32 (List.drop 0 (aq x))=_;rw[jQ,qu]
theorem G3(x:Dg):gl ((aq x).map .d)=some (x.l.map fun b=>UInt8.ofNat b.toNat):=by
 unfold aq;exact CP x.l x.by_
theorem H9{x:Dg}(h:isZero x=false):ae (dp ⟨(x.l.map fun b=>UInt8.ofNat b.toNat).toArray⟩)=ae (fO x):=by
 unfold fO;rw[if_neg (by simp[h])];rfl
set_option maxHeartbeats 4000000 in
theorem Ul(q:jr)(p:b9)(G:Cq p)(L: ∀d∈p.deps,isZero d=false):aE Tryz.prog 134 [.agg (bk p)] (.tup [dS (kP (kn p)),dI 0]):=by
 have N:=G.deps;have M:=G.chg;have E:=G.kind;have K:=Of (l:=[dp (str [113,117,105,108,116,49]),dp p.author,dp p.message,cd p.time,cp (p.deps.map fO),cp (p.changes.map bW)]) q G.good G.nodes (by have:=G.size;exact this);clear G;refine aI (F:=zb) RY (by simp[zb]) ?_;simp only[zb]
 refine pY (ga @fw @wj) @Ed ?_
 refine aX.overI p.deps (fun k (b:AV×List aa×List Sx)=>[(17,iN k)]) (fun _ b=>[.cells [.d (dB true),.d (dS ⟨#[]⟩),.nil 3],.cells [.d (dB true),.d (dS ⟨#[]⟩),.nil 3],.cells [.d (dB true),.d (dS ⟨#[]⟩),b.1],.cells [.d (dB true),.d (dS ⟨#[]⟩),.nil 3]]++b.2.1) (fun r b=>b.2.2++r.map fO) (p.deps.map fO) (fun k b=>ep aK b.1 b.2.1 b.2.2∧b.2.2.length=k) (.nil 3,[],[]) a8 aA aA rfl rfl ⟨.inl ⟨rfl,rfl⟩,rfl⟩ (fun k b x hg T s y n w=> ?_) (fun b s n w=> ?_)
 ·obtain⟨v,J,b⟩:=b;obtain⟨w,f⟩:=w;dsimp only at n w f;have I:=L x (bT hg);clear K;rcases w with⟨rfl,rfl⟩|⟨r,rfl,hr⟩
  ·have i:br 1 48=true:=by decide
   refine aw (ga @s (ga @y (ga @hg (ga @i (ga @gO (ga @u9 (ga @bc (ga @Li (ga @G5 (ga @H7 (ga @G3 (ga (H9 I) @wj)))))))))))) @nB ?_;exact⟨(_,_,[fO x]),rfl,by simpa using n,ep.new1 J _ _ [],by simp at f;simp[f]⟩
  ·have i:br (b.length+1) 48=true:=room_le a8 a8;have m:=nI hr;have j:=bP hr;refine aw (ga @s (ga @y (ga @hg (ga @i (ga @hr (ga @j (ga @m (ga @gO (ga @u9 (ga @bc (ga @Li (ga @G5 (ga @H7 (ga @G3 (ga (H9 I) @wj))))))))))))))) @nB ?_
   exact⟨(_,_,b++[fO x]),rfl,by simpa using n,ep.snoc (bP hr _) _,by simp[f]⟩
 ·obtain⟨U,J,b⟩:=b;obtain⟨B,f⟩:=w;dsimp only at n B f;rw[eg,bg]at n;subst n;refine pY (ga @s @wj) @Um ?_;refine aw @wj trivial ?_
  refine aX.overI p.changes (fun k (b:AV×List aa×List Sx)=>[(34,iN k)]) (fun _ b=>[.cells [.d (dB true),.d (dS ⟨#[]⟩),.nil 3],.cells [.d (dB true),.d (dS ⟨#[]⟩),.nil 3],.cells [.d (dB true),.d (dS ⟨#[]⟩),U],.cells [.d (dB true),.d (dS ⟨#[]⟩),b.1]]++b.2.1) (fun r b=>b.2.2++r.map bW) (p.changes.map bW) (fun k b=>(ep aK b.1 b.2.1 b.2.2∧b.2.2.length=k)∧b.2.1[J.length]?=some (.map false iX)) (.nil 3,J++[.map false iX],[]) a8 aA aA rfl rfl ⟨⟨.inl ⟨rfl,rfl⟩,rfl⟩,by simp⟩ (fun k b x hg T s y n w=> ?_) (fun b s n w=> ?_)
  ·obtain⟨v,P,b⟩:=b;obtain⟨⟨w,f⟩,o⟩:=w;dsimp only at n w f o;obtain⟨X,Y,H,O⟩:=E x (bT hg);have h:=bP o;clear K E L;obtain g|g|g|g|g|g|g:x.kind=1∨x.kind=2∨x.kind=3∨x.kind=4∨x.kind=6∨x.kind=7∨x.kind=5:=by omega
   ·have t:=OK q x;have u:bW x=cp [cd 1,cd x.type]:=by simp[bW,g]
    have e:[dB true,dS ⟨#[]⟩,D.sl 3 [ae (cd 1),ae (cd x.type)]]=ae (bW x):=by rw[u];exact(kY [cd 1,cd x.type]).symm
    clear u;rcases w with⟨rfl,rfl⟩|⟨r,rfl,hr⟩
    ·repeat' first|refine ak (fun _=> ?_) fun _=> ?_|refine aD ?_|refine aj.data (iG q _) rfl ?_|refine aj.data (t) rfl ?_|(refine aj.fn ((ko _ _ _).mono ?_);rintro _ z ⟨rfl,rfl⟩)|simp only[s,y,hg,ky,BS,g,o,h,e,gO,fI,dE,dN,aL,fw,kD,j6,AV.key,AV.keyK,iX,dC,bw,Int.reduceBEq,Int.reduceEq,wj,wy,qg,aC,reduceCtorEq,reduceIte,Nat.reduceAdd,Nat.reduceMul,Nat.reduceEqDiff,Nat.reduceLT,Nat.reduceLeDiff,Nat.reduceSub,ax,aB,ay,au]
     exact⟨(_,_,[bW x]),rfl,by simpa using n,⟨ep.new4 _ _ _ _ _ _,by simp at f;simp[f]⟩,h _⟩
    ·have i:br (b.length+1) 48=true:=room_le a8 a8;have m:=nI hr;have j:=bP hr
     repeat' first|refine ak (fun _=> ?_) fun _=> ?_|refine aD ?_|refine aj.data (iG q _) rfl ?_|refine aj.data (t) rfl ?_|(refine aj.fn ((ko _ _ _).mono ?_);rintro _ z ⟨rfl,rfl⟩)|simp only[s,y,hg,ky,BS,i,hr,j,m,g,o,h,e,gO,fI,dE,dN,aL,fw,kD,j6,AV.key,AV.keyK,iX,dC,bw,Int.reduceBEq,Int.reduceEq,wj,wy,qg,aC,reduceCtorEq,reduceIte,Nat.reduceAdd,Nat.reduceMul,Nat.reduceEqDiff,Nat.reduceLT,Nat.reduceLeDiff,Nat.reduceSub,ax,aB,ay,au]
     exact⟨(_,_,b++[bW x]),rfl,by simpa using n,⟨ep.snoc (bP hr _) _,by simp[f]⟩,sH o hr⟩
   ·have t:=OL q x H;have u:bW x=cp [cd 2,bD x.file,bD x.parent,dp x.name,eF x.over]:=by simp[bW,g]
    have e:[dB true,dS ⟨#[]⟩,D.sl 3 [ae (cd 2),ae (bD x.file),ae (bD x.parent),ae (dp x.name),ae (eF x.over)]]=ae (bW x):=by rw[u];exact(kY [cd 2,bD x.file,bD x.parent,dp x.name,eF x.over]).symm
    clear u;rcases w with⟨rfl,rfl⟩|⟨r,rfl,hr⟩
    ·repeat' first|refine ak (fun _=> ?_) fun _=> ?_|refine aD ?_|refine aj.data (iG q _) rfl ?_|refine aj.data (t) rfl ?_|(refine aj.fn ((ko _ _ _).mono ?_);rintro _ z ⟨rfl,rfl⟩)|simp only[s,y,hg,ky,uj,g,o,h,e,gO,fI,dE,dN,aL,fw,kD,j6,AV.key,AV.keyK,iX,dC,bw,Int.reduceBEq,Int.reduceEq,wj,wy,qg,aC,reduceCtorEq,reduceIte,Nat.reduceAdd,Nat.reduceMul,Nat.reduceEqDiff,Nat.reduceLT,Nat.reduceLeDiff,Nat.reduceSub,ax,aB,ay,au]
     exact⟨(_,_,[bW x]),rfl,by simpa using n,⟨ep.new4 _ _ _ _ _ _,by simp at f;simp[f]⟩,h _⟩
    ·have i:br (b.length+1) 48=true:=room_le a8 a8;have m:=nI hr;have j:=bP hr
     repeat' first|refine ak (fun _=> ?_) fun _=> ?_|refine aD ?_|refine aj.data (iG q _) rfl ?_|refine aj.data (t) rfl ?_|(refine aj.fn ((ko _ _ _).mono ?_);rintro _ z ⟨rfl,rfl⟩)|simp only[s,y,hg,ky,uj,i,hr,j,m,g,o,h,e,gO,fI,dE,dN,aL,fw,kD,j6,AV.key,AV.keyK,iX,dC,bw,Int.reduceBEq,Int.reduceEq,wj,wy,qg,aC,reduceCtorEq,reduceIte,Nat.reduceAdd,Nat.reduceMul,Nat.reduceEqDiff,Nat.reduceLT,Nat.reduceLeDiff,Nat.reduceSub,ax,aB,ay,au]
     exact⟨(_,_,b++[bW x]),rfl,by simpa using n,⟨ep.snoc (bP hr _) _,by simp[f]⟩,sH o hr⟩
   ·have t:=OM q x H;have u:bW x=cp [cd 3,bD x.file,cd x.mode,eF x.over]:=by simp[bW,g]
    have e:[dB true,dS ⟨#[]⟩,D.sl 3 [ae (cd 3),ae (bD x.file),ae (cd x.mode),ae (eF x.over)]]=ae (bW x):=by rw[u];exact(kY [cd 3,bD x.file,cd x.mode,eF x.over]).symm
    clear u;rcases w with⟨rfl,rfl⟩|⟨r,rfl,hr⟩
    ·repeat' first|refine ak (fun _=> ?_) fun _=> ?_|refine aD ?_|refine aj.data (iG q _) rfl ?_|refine aj.data (t) rfl ?_|(refine aj.fn ((ko _ _ _).mono ?_);rintro _ z ⟨rfl,rfl⟩)|simp only[s,y,hg,ky,BT,g,o,h,e,gO,fI,dE,dN,aL,fw,kD,j6,AV.key,AV.keyK,iX,dC,bw,Int.reduceBEq,Int.reduceEq,wj,wy,qg,aC,reduceCtorEq,reduceIte,Nat.reduceAdd,Nat.reduceMul,Nat.reduceEqDiff,Nat.reduceLT,Nat.reduceLeDiff,Nat.reduceSub,ax,aB,ay,au]
     exact⟨(_,_,[bW x]),rfl,by simpa using n,⟨ep.new4 _ _ _ _ _ _,by simp at f;simp[f]⟩,h _⟩
    ·have i:br (b.length+1) 48=true:=room_le a8 a8;have m:=nI hr;have j:=bP hr
     repeat' first|refine ak (fun _=> ?_) fun _=> ?_|refine aD ?_|refine aj.data (iG q _) rfl ?_|refine aj.data (t) rfl ?_|(refine aj.fn ((ko _ _ _).mono ?_);rintro _ z ⟨rfl,rfl⟩)|simp only[s,y,hg,ky,BT,i,hr,j,m,g,o,h,e,gO,fI,dE,dN,aL,fw,kD,j6,AV.key,AV.keyK,iX,dC,bw,Int.reduceBEq,Int.reduceEq,wj,wy,qg,aC,reduceCtorEq,reduceIte,Nat.reduceAdd,Nat.reduceMul,Nat.reduceEqDiff,Nat.reduceLT,Nat.reduceLeDiff,Nat.reduceSub,ax,aB,ay,au]
     exact⟨(_,_,b++[bW x]),rfl,by simpa using n,⟨ep.snoc (bP hr _) _,by simp[f]⟩,sH o hr⟩
   ·have t:=ON q x H;have u:bW x=cp [cd 4,bD x.file,dp x.data,eF x.over]:=by simp[bW,g]
    have e:[dB true,dS ⟨#[]⟩,D.sl 3 [ae (cd 4),ae (bD x.file),ae (dp x.data),ae (eF x.over)]]=ae (bW x):=by rw[u];exact(kY [cd 4,bD x.file,dp x.data,eF x.over]).symm
    clear u;rcases w with⟨rfl,rfl⟩|⟨r,rfl,hr⟩
    ·repeat' first|refine ak (fun _=> ?_) fun _=> ?_|refine aD ?_|refine aj.data (iG q _) rfl ?_|refine aj.data (t) rfl ?_|(refine aj.fn ((ko _ _ _).mono ?_);rintro _ z ⟨rfl,rfl⟩)|simp only[s,y,hg,ky,BT,g,o,h,e,gO,fI,dE,dN,aL,fw,kD,j6,AV.key,AV.keyK,iX,dC,bw,Int.reduceBEq,Int.reduceEq,wj,wy,qg,aC,reduceCtorEq,reduceIte,Nat.reduceAdd,Nat.reduceMul,Nat.reduceEqDiff,Nat.reduceLT,Nat.reduceLeDiff,Nat.reduceSub,ax,aB,ay,au]
     exact⟨(_,_,[bW x]),rfl,by simpa using n,⟨ep.new4 _ _ _ _ _ _,by simp at f;simp[f]⟩,h _⟩
    ·have i:br (b.length+1) 48=true:=room_le a8 a8;have m:=nI hr;have j:=bP hr
     repeat' first|refine ak (fun _=> ?_) fun _=> ?_|refine aD ?_|refine aj.data (iG q _) rfl ?_|refine aj.data (t) rfl ?_|(refine aj.fn ((ko _ _ _).mono ?_);rintro _ z ⟨rfl,rfl⟩)|simp only[s,y,hg,ky,BT,i,hr,j,m,g,o,h,e,gO,fI,dE,dN,aL,fw,kD,j6,AV.key,AV.keyK,iX,dC,bw,Int.reduceBEq,Int.reduceEq,wj,wy,qg,aC,reduceCtorEq,reduceIte,Nat.reduceAdd,Nat.reduceMul,Nat.reduceEqDiff,Nat.reduceLT,Nat.reduceLeDiff,Nat.reduceSub,ax,aB,ay,au]
     exact⟨(_,_,b++[bW x]),rfl,by simpa using n,⟨ep.snoc (bP hr _) _,by simp[f]⟩,sH o hr⟩
   ·have t:=OP q x H;have u:bW x=cp [cd 6,bD x.file,bD x.after,bD x.before,eF x.over]:=by simp[bW,g]
    have e:[dB true,dS ⟨#[]⟩,D.sl 3 [ae (cd 6),ae (bD x.file),ae (bD x.after),ae (bD x.before),ae (eF x.over)]]=ae (bW x):=by rw[u];exact(kY [cd 6,bD x.file,bD x.after,bD x.before,eF x.over]).symm
    clear u;rcases w with⟨rfl,rfl⟩|⟨r,rfl,hr⟩
    ·repeat' first|refine ak (fun _=> ?_) fun _=> ?_|refine aD ?_|refine aj.data (iG q _) rfl ?_|refine aj.data (t) rfl ?_|(refine aj.fn ((ko _ _ _).mono ?_);rintro _ z ⟨rfl,rfl⟩)|simp only[s,y,hg,ky,uj,g,o,h,e,gO,fI,dE,dN,aL,fw,kD,j6,AV.key,AV.keyK,iX,dC,bw,Int.reduceBEq,Int.reduceEq,wj,wy,qg,aC,reduceCtorEq,reduceIte,Nat.reduceAdd,Nat.reduceMul,Nat.reduceEqDiff,Nat.reduceLT,Nat.reduceLeDiff,Nat.reduceSub,ax,aB,ay,au]
     exact⟨(_,_,[bW x]),rfl,by simpa using n,⟨ep.new4 _ _ _ _ _ _,by simp at f;simp[f]⟩,h _⟩
    ·have i:br (b.length+1) 48=true:=room_le a8 a8;have m:=nI hr;have j:=bP hr
     repeat' first|refine ak (fun _=> ?_) fun _=> ?_|refine aD ?_|refine aj.data (iG q _) rfl ?_|refine aj.data (t) rfl ?_|(refine aj.fn ((ko _ _ _).mono ?_);rintro _ z ⟨rfl,rfl⟩)|simp only[s,y,hg,ky,uj,i,hr,j,m,g,o,h,e,gO,fI,dE,dN,aL,fw,kD,j6,AV.key,AV.keyK,iX,dC,bw,Int.reduceBEq,Int.reduceEq,wj,wy,qg,aC,reduceCtorEq,reduceIte,Nat.reduceAdd,Nat.reduceMul,Nat.reduceEqDiff,Nat.reduceLT,Nat.reduceLeDiff,Nat.reduceSub,ax,aB,ay,au]
     exact⟨(_,_,b++[bW x]),rfl,by simpa using n,⟨ep.snoc (bP hr _) _,by simp[f]⟩,sH o hr⟩
   ·have t:=OQ q x H;have u:bW x=cp [cd 7,eF x.over]:=by simp[bW,g]
    have e:[dB true,dS ⟨#[]⟩,D.sl 3 [ae (cd 7),ae (eF x.over)]]=ae (bW x):=by rw[u];exact(kY [cd 7,eF x.over]).symm
    clear u;rcases w with⟨rfl,rfl⟩|⟨r,rfl,hr⟩
    ·repeat' first|refine ak (fun _=> ?_) fun _=> ?_|refine aD ?_|refine aj.data (iG q _) rfl ?_|refine aj.data (t) rfl ?_|(refine aj.fn ((ko _ _ _).mono ?_);rintro _ z ⟨rfl,rfl⟩)|simp only[s,y,hg,ky,BS,g,o,h,e,gO,fI,dE,dN,aL,fw,kD,j6,AV.key,AV.keyK,iX,dC,bw,Int.reduceBEq,Int.reduceEq,wj,wy,qg,aC,reduceCtorEq,reduceIte,Nat.reduceAdd,Nat.reduceMul,Nat.reduceEqDiff,Nat.reduceLT,Nat.reduceLeDiff,Nat.reduceSub,ax,aB,ay,au]
     exact⟨(_,_,[bW x]),rfl,by simpa using n,⟨ep.new4 _ _ _ _ _ _,by simp at f;simp[f]⟩,h _⟩
    ·have i:br (b.length+1) 48=true:=room_le a8 a8;have m:=nI hr;have j:=bP hr
     repeat' first|refine ak (fun _=> ?_) fun _=> ?_|refine aD ?_|refine aj.data (iG q _) rfl ?_|refine aj.data (t) rfl ?_|(refine aj.fn ((ko _ _ _).mono ?_);rintro _ z ⟨rfl,rfl⟩)|simp only[s,y,hg,ky,BS,i,hr,j,m,g,o,h,e,gO,fI,dE,dN,aL,fw,kD,j6,AV.key,AV.keyK,iX,dC,bw,Int.reduceBEq,Int.reduceEq,wj,wy,qg,aC,reduceCtorEq,reduceIte,Nat.reduceAdd,Nat.reduceMul,Nat.reduceEqDiff,Nat.reduceLT,Nat.reduceLeDiff,Nat.reduceSub,ax,aB,ay,au]
     exact⟨(_,_,b++[bW x]),rfl,by simpa using n,⟨ep.snoc (bP hr _) _,by simp[f]⟩,sH o hr⟩
   ·have t:=OO q x O;have u:bW x=cp [cd 5,bD x.file,bD x.after,bD x.before,cp (x.lines.map dp)]:=by simp[bW,g]
    have e:[dB true,dS ⟨#[]⟩,D.sl 3 [ae (cd 5),ae (bD x.file),ae (bD x.after),ae (bD x.before),ae (cp (x.lines.map dp))]]=ae (bW x):=by rw[u];exact(kY [cd 5,bD x.file,bD x.after,bD x.before,cp (x.lines.map dp)]).symm
    clear u;rcases w with⟨rfl,rfl⟩|⟨r,rfl,hr⟩
    ·repeat' first|refine ak (fun _=> ?_) fun _=> ?_|refine aD ?_|refine aj.data (iG q _) rfl ?_|refine aj.data (t) rfl ?_|(refine aj.fn ((ko _ _ _).mono ?_);rintro _ z ⟨rfl,rfl⟩)|simp only[s,y,hg,ky,uj,g,o,h,e,gO,fI,dE,dN,aL,fw,kD,j6,AV.key,AV.keyK,iX,dC,bw,Int.reduceBEq,Int.reduceEq,wj,wy,qg,aC,reduceCtorEq,reduceIte,Nat.reduceAdd,Nat.reduceMul,Nat.reduceEqDiff,Nat.reduceLT,Nat.reduceLeDiff,Nat.reduceSub,ax,aB,ay,au]
     exact⟨(_,_,[bW x]),rfl,by simpa using n,⟨ep.new4 _ _ _ _ _ _,by simp at f;simp[f]⟩,h _⟩
    ·have i:br (b.length+1) 48=true:=room_le a8 a8;have m:=nI hr;have j:=bP hr
     repeat' first|refine ak (fun _=> ?_) fun _=> ?_|refine aD ?_|refine aj.data (iG q _) rfl ?_|refine aj.data (t) rfl ?_|(refine aj.fn ((ko _ _ _).mono ?_);rintro _ z ⟨rfl,rfl⟩)|simp only[s,y,hg,ky,uj,i,hr,j,m,g,o,h,e,gO,fI,dE,dN,aL,fw,kD,j6,AV.key,AV.keyK,iX,dC,bw,Int.reduceBEq,Int.reduceEq,wj,wy,qg,aC,reduceCtorEq,reduceIte,Nat.reduceAdd,Nat.reduceMul,Nat.reduceEqDiff,Nat.reduceLT,Nat.reduceLeDiff,Nat.reduceSub,ax,aB,ay,au]
     exact⟨(_,_,b++[bW x]),rfl,by simpa using n,⟨ep.snoc (bP hr _) _,by simp[f]⟩,sH o hr⟩
  ·obtain⟨Z,P,b⟩:=b;obtain⟨⟨C,A⟩,o⟩:=w;dsimp only at n C A o;rw[eg,bg]at n;subst n;clear o A f s E L N M;have Q:=B.deep;have R:=C.deep;rcases B with⟨rfl,V⟩|⟨r4,rfl,_⟩<;>rcases C with⟨rfl,W⟩|⟨r5,rfl,_⟩
   all_goals
    have S:=fun a b c d=>Nx a b c d _ _ _ _ Q R;refine aw (ga @xg (ga @j6 (ga @S @wj))) (ga @nB (ga (iG q) (ga @UC @K))) ?_
    all_goals rfl
theorem JS{s:aP}{x:bU}{k:Nat}(h:putAt x.id s 0=k):By s x=s.take k++x::s.drop k:=by unfold By;rw[h]
theorem BK(x:bU)(l:List AV)(h:l.length=37):aV l 0 37 ((b8 x).map .d)=some ((b8 x).map .d):=gp h (by rw[aL,iw])
set_option maxHeartbeats 1000000 in
theorem Vn(l:aP)(z:bU)(o:l.length≤1000000):aE Tryz.prog 53 [.sl 37 (l.map b8),.agg (b8 z)] (.sl 37 ((By l z).map b8)):=by
 refine aI (F:=AZ) Tw (by simp[AZ]) ?_;simp only[AZ];refine aw trivial trivial ?_;refine aX.over l (fun k (_:Unit)=>[(5,iN k)]) (fun _ _=>[]) (fun r _=>putAt z.id r (l.length-r.length)) (putAt z.id l 0) () a8 aA aA rfl (by simp) (fun k _ x hg n c g a=> ?_) (fun _ c a=> ?_)
 ·have f:l.length-(x::l.drop (k+1)).length=k:=by simp only[aU,ax];omega
  have m:l.length-(l.drop (k+1)).length=k+1:=by simp only[ax];omega
  rw[f,putAt]at a;have d:(k:Int)≤(l.length:Int):=by omega
  have e:br (l.take k).length 120=true:=by simp only[br,decide_eq_true_eq,du];omega
  have i:br ((l.take k).length+1) 120=true:=by simp only[br,decide_eq_true_eq,du];omega
  have j:br ((l.take k).length+1+(l.length-k)) 120=true:=by simp only[br,decide_eq_true_eq,du];omega
  repeat' first|refine ak (fun _=> ?_) fun _=> ?_|refine aD ?_|refine aj.data (lI _ _) rfl ?_|simp only[c,g,hg,d,e,i,j,BK,aL,iw,iL,iz,py,wy,qg,aC,reduceCtorEq,reduceIte,Nat.reduceAdd,Nat.reduceMul,Nat.reduceEqDiff,Nat.reduceLT,Nat.reduceLeDiff,Nat.reduceSub,ax,aB,ay,au]
  ·rename_i h;rw[if_pos h]at a;exact⟨(),by rw[a];congr 1;omega⟩
  ·rename_i h;rw[if_neg h]at a;rw[JS a];simp
 ·have d:br l.length 120=true:=by simp only[br,decide_eq_true_eq];omega
  have e:br (l.length+1) 120=true:=by simp only[br,decide_eq_true_eq];omega
  have b:putAt z.id l 0=l.length:=by rw[a];simp[putAt]
  repeat' first|refine ak (fun _=> ?_) fun _=> ?_|refine aD ?_|simp only[c,d,e,BK,aL,iw,iL,iz,py,sO,ia,wy,qg,aC,reduceCtorEq,reduceIte,Nat.reduceAdd,Nat.reduceMul,Nat.reduceEqDiff,Nat.reduceLT,Nat.reduceLeDiff,Nat.reduceSub,ax,aB,ay,au]
  rw[JS b];simp
set_option maxHeartbeats 2000000 in
theorem Vf(s:aP)(w:iC s)(R: ∀x∈s,pn x.pat.changes):aE Tryz.prog 20 [.sl 37 (s.map b8)] (dI (mZ bE s)):=by
 have P:=w.len;by_cases S:s.length≤400
 ·have D:decide ((s.length:Int)>400)=false:=by simp;omega
  obtain⟨A,o⟩: ∃A,A=pQ bE none s:=⟨_,rfl⟩
  obtain⟨B,i⟩: ∃B,B=pV (bA s) s:=⟨_,rfl⟩
  obtain⟨C,l⟩: ∃C,C=ui bE s s:=⟨_,rfl⟩
  have m:mZ bE s=cF A (cF B (if(iU s).length<s.length then 20 else C)):=by
   unfold mZ;rw[if_neg a8,o,i,l]
  obtain⟨X,u⟩: ∃X,X=mZ bE s:=⟨_,rfl⟩
  rw[←u]at m⊢;clear u;have cI:=BE s a8;have L:=Vk s w;refine aI (F:=rU) Jj (by simp[rU]) ?_;simp only[rU];refine aw @D trivial ?_
  refine aX.overI s (fun k (b:Option Dg×List aa)=>[(3,iN k)]) (fun _ b=>b.2) (fun r b=>pQ bE b.1 r) A (fun k b=>b.1=if k=0 then none else(s[k-1]?).map (·.id)) (none,[]) a8 aA aA rfl o rfl (fun k b x hg O c d a E=> ?_) (fun b c a E=> ?_)
  ·obtain⟨q,J⟩:=b;have f:=Ei x.pat (w.pat x (bT hg));dsimp only at a E;rw[pQ]at a;by_cases g:(dh bE x.pat).2=0
   ·rw[if_neg (by simpa using g)]at a;rw[g]at f;by_cases n:(dh bE x.pat).1=x.id
    ·rw[if_neg (by simpa using n)]at a;rw[n]at f;cases k with
     |zero=>
      obtain rfl:q=none:=E;have G:decide ((0:Int)<(s.length:Int))=true:=decide_eq_true a8;have I:IntKind.i64.wrap ((0:Int)+1)=1:=by rfl
      have H:s[0]?=some x:=hg;clear g n o i l c d
      repeat' first|refine ak (fun _=> ?_) fun _=> ?_|refine aD ?_|refine aj.data (f) rfl ?_|refine aj.data (lI _ _) rfl ?_|simp only[G,I,H,eV,bc,aL,kI,iL,iz,gt_iff_lt,bne_self_eq_false,decide_false,wj,wy,qg,aC,reduceCtorEq,reduceIte,Nat.reduceAdd,Nat.reduceMul,Nat.reduceEqDiff,Nat.reduceLT,Nat.reduceLeDiff,Nat.reduceSub,ax,aB,ay,au]
      rw[if_neg (by simp)]at a;exact⟨(some x.id,_),rfl,a,rfl⟩
     |succ j=>
      obtain⟨y,K⟩: ∃y,s[j]?=some y:=⟨_,bV a8⟩
      obtain rfl:q=some y.id:=by rw[E,if_neg a8];simp[K]
      have z:IntKind.i64.wrap (((j+1:Nat):Int)-1)=(j:Int):=ck a8 a8;have v:decide (((j+1:Nat):Int)>0)=true:=decide_eq_true a8;clear g n o i l
      repeat' first|refine ak (fun _=> ?_) fun _=> ?_|refine bb (ga @c (ga @d (ga @hg (ga @K (ga @z (ga @v (ga @eV (ga @bc @wj)))))))) (ga @f @lI) ?_|exact ba (ga @c (ga @d (ga @hg (ga @K (ga @z (ga @v (ga @eV (ga @bc @wj)))))))) (ga @f @lI)|fail
      ·rename_i h;rw[if_pos (by simpa using h)]at a;rw[m,a];simp[cF]
      ·rename_i h;rw[if_neg (by simpa using h)]at a;exact⟨(some x.id,_),rfl,a,by simp[hg]⟩
    ·rw[if_pos (by simpa using n)]at a;clear g o i l
     repeat' first|refine ak (fun _=> ?_) fun _=> ?_|refine bb (ga @c (ga @d (ga @hg (ga @eV (ga @bc @wj))))) @f ?_|exact ba (ga @c (ga @d (ga @hg (ga @eV (ga @bc @wj))))) @f|fail
     all_goals first
      |(rw[m,a];simp[cF];done)
      |(rename_i h _;exact absurd h n)
      |(rename_i h;exact absurd h n)
   ·rw[if_pos (by simpa using g)]at a;have t:((dh bE x.pat).2 !=0)=true:=by simpa using g
    clear o i l;refine aw (ga @c (ga @d (ga @hg (ga @t (ga @eV (ga @bc @wj)))))) @f ?_;rw[m,a,cF,if_pos g]
  ·rw[pQ]at a;subst a;have p:X=cF B (if(iU s).length<s.length then 20 else C):=by rw[m];simp[cF]
   clear m o;refine aw @c @cI ?_;refine aX.over s (fun k (_:Unit)=>[(7,iN k)]) (fun _ _=>b.2) (fun r _=>pV (bA s) r) B () a8 aA aA rfl i (fun k _ x hg O c d a=> ?_) (fun _ c a=> ?_)
   ·have M:=vO x.pat (w.pat x (bT hg));rw[pV]at a;clear i l
    repeat' first|refine ak (fun _=> ?_) fun _=> ?_|refine bb (ga @c (ga @d @hg)) (ga @M @nD) ?_|exact ba (ga @c (ga @d @hg)) (ga @M @nD)|fail
    ·rename_i h;rw[if_pos h]at a;exact⟨(),a⟩
    ·rename_i h;rw[if_neg (by simp[h])]at a;rw[p,a];simp[cF]
   ·rw[pV]at a;subst a;have e:X=if(iU s).length<s.length then 20 else C:=by rw[p];simp[cF]
    clear p i;by_cases Q:(iU s).length<s.length
    ·have t:decide (((iU s).length:Int)<(s.length:Int))=true:=by simp;omega
     rw[if_pos Q]at e;refine aw (ga @c @t) @L ?_;rw[e]
    ·have t:decide (((iU s).length:Int)<(s.length:Int))=false:=by simp;omega
     rw[if_neg Q]at e;subst e;refine aw (ga @c @t) @L ?_;refine aX.over s (fun k (_:Unit)=>[(8,iN k)]) (fun _ _=>b.2) (fun r _=>ui bE s r) X () a8 aA aA rfl l (fun k _ x hg O c d a=> ?_) (fun _ c a=> ?_)
     ·have N:=Ke s x.pat x.id w (R x (bT hg));rw[ui,cF]at a;clear l
      repeat' first|refine ak (fun _=> ?_) fun _=> ?_|refine bb (ga @c (ga @d @hg)) @N ?_|exact ba (ga @c (ga @d @hg)) @N|fail
      ·rename_i h;rw[a,if_pos (by simpa using h)]
      ·rename_i h;rw[if_neg (by simpa using h)]at a;exact⟨(),a⟩
     ·rw[ui]at a;refine aw @c trivial ?_;rw[a]
 ·have D:decide ((s.length:Int)>400)=true:=by simp;omega
  have m:mZ bE s=4:=by unfold mZ;rw[if_pos a8]
  rw[m];refine aI (F:=rU) Jj (by simp[rU]) ?_;simp only[rU]
  repeat' first|refine ak (fun _=> ?_) fun _=> ?_|refine bb @D trivial ?_|exact ba @D trivial|fail
end Go.Proofs.Q
