/- Lemmas. -/
import Derived.Test.YtikhfhjohjfamaaGreatDoorPAP
import Derived.Test.YtikhfhjohjfamaaGreatDoorPAQ
set_option linter.unusedVariables false
set_option linter.unusedSimpArgs false
set_option maxRecDepth 100000
namespace Go.Proofs.Q
open Go Go.Bb Go.RowKit Go.Proofs.Lg
open Go.Ab (D RD)
theorem UJ(a:ay):aI Tryz.prog 329 [.agg (aO a)] (dB (decide (a.kind=1))):=by
 refine aL Tryz.f329 ?_ [100001]
 repeat' first|refine ab (λ_=> ?_) λ_=> ?_|refine aG trivial trivial ?_|exact aF trivial trivial|fail
 all_goals simp_all
theorem UK(a:ay):aI Tryz.prog 330 [.agg (aO a)] (dB (decide (a.kind=1)&&(decide (a.type=2)||decide (a.type=3)))):=by
 refine aL Tryz.f330 ?_ [100001]
 repeat' first|refine ab (λ_=> ?_) λ_=> ?_|refine aG trivial trivial ?_|exact aF trivial trivial|fail
 all_goals simp_all
theorem UL(a:ay):aI Tryz.prog 331 [.agg (aO a)] (dB (decide (a.kind=1)&&decide (a.type=1))):=by
 refine aL Tryz.f331 ?_ [100001]
 repeat' first|refine ab (λ_=> ?_) λ_=> ?_|refine aG trivial trivial ?_|exact aF trivial trivial|fail
 all_goals simp_all
theorem UM(a:ay):aI Tryz.prog 332 [.agg (aO a)] (dB (decide (a.kind=1)&&decide (a.type=4))):=by
 refine aL Tryz.f332 ?_ [100001]
 repeat' first|refine ab (λ_=> ?_) λ_=> ?_|refine aG trivial trivial ?_|exact aF trivial trivial|fail
 all_goals simp_all
theorem UN(a:ay)(c:az):aI Tryz.prog 333 [.agg (aO a),.ref (aR c)] (dB (decide (a.id=c.file)||(decide (a.kind=5)&&decide (a.file=c.file)))):=by
 refine aL Tryz.f333 ?_ [100002]
 repeat' first|refine ab (λ_=> ?_) λ_=> ?_|refine aG trivial trivial ?_|exact aF trivial trivial|fail
 all_goals simp_all
theorem L5(k:Int):aI Tryz.prog 335 [dI k] (dI (yU k)):=by
 unfold yU;obtain h|h|h|h|⟨n2,n3,n4,n6⟩:k=2\/k=3\/k=4\/k=6\/(k≠2/\k≠3/\k≠4/\k≠6):=by omega
 iterate 4
  .subst h;refine aL Tryz.f335 ?_
   repeat' first|refine ab (λ_=> ?_) λ_=> ?_|refine aH ?_|simp only[AV.key,AV.keyK,ey,bJ,pw,Int.reduceBEq,Int.reduceEq,wy,qg,aE,simprocAttr,ax,aD,aB,aw]
 .have a:(k==2)=false:=by simpa using n2
  have b:(k==3)=false:=by simpa using n3
  have c:(k==4)=false:=by simpa using n4
  have d:(k==6)=false:=by simpa using n6
  rw[if_neg n2,if_neg n3,if_neg n4,if_neg n6];refine aL Tryz.f335 ?_
  repeat' first|refine ab (λ_=> ?_) λ_=> ?_|refine aH ?_|simp only[AV.key,AV.keyK,ey,bJ,pw,Int.reduceBEq,Int.reduceEq,a,b,c,d,wy,qg,aE,simprocAttr,ax,aD,aB,aw]
theorem Ib(f:FuncId)(a cs:List AV): ∀ds:List D,lE (ds.map .d++[.clo f a cs])=none
 |[]=>rfl
 |d::ds=>by
  show(lE (ds.map .d++[.clo f a cs])).map (d:: ·)=none;rw[Ib f a cs ds];rfl
theorem Ni(f:FuncId)(a cs:List AV): ∀ds:List D,toLs (ds.map .d++[.clo f a cs])=none
 |[]=>rfl
 |d::ds=>by
  simp only[bX,gb,toLs,Ni f a cs ds,AV.toL]
theorem oy(x:ak)(f:FuncId)(a cs:List AV):lE (di x (.clo f a cs))=none:=Ib f a cs _
theorem qu(x:ak)(f:FuncId)(a cs:List AV):toLs (di x (.clo f a cs))=none:=Ni f a cs _
theorem jm(x:ak)(a:AV):ba xq 0 34 (di x a)=some (di x a):=iE zX (fv x a)
theorem FO:bw 1 48=true:=by decide
theorem Yg(x:ak)(f:FuncId)(cs:List AV)(J:List aa):bs Tryz.prog 328 [.d (.agg (ae x)),.clo f [] cs,.ptr 0 0] (.cells [.nil 34]::J) λd a=>d= .tup []/\a= .cells [.vec (J.length+1+1) 1 34]::(J++[.vec 287 34 (di x (.clo f [] cs)),.vec 287 34 (di x (.clo f [] cs))]):=by
 refine cz Tryz.f328 ?_ [100003,300008];exact bL (ga @D1 (ga @Ci (ga @fv (ga @zX (ga @oy (ga @qu (ga @jm (ga @FO @wj)))))))) trivial
 all_goals first|exact⟨_,rfl,rfl⟩|exact⟨rfl,rfl⟩|rfl
theorem Yh(x:ak)(f:FuncId)(cs:List AV)(J:List aa)(r n:Nat)(a:List AV)(e:J[r]?=some (.vec 287 34 a))(i:a.length=n*34)(k:n<=1000000):bs Tryz.prog 328 [.d (.agg (ae x)),.clo f [] cs,.ptr 0 0] (.cells [.vec (r+1) n 34]::J) λd j=>d= .tup []/\j= .cells [.vec (r+1) (n+1) 34]::(J.set r (.vec 287 34 (a++di x (.clo f [] cs)))++[.vec 287 34 (di x (.clo f [] cs))]):=by
 have h:bw (n+1) 48=true:=room_le a8 a8;have b:=(aV.1 e).1;have g:(J++[aa.vec 287 34 (di x (.clo f [] cs))])[r]?=some (.vec 287 34 a):=by rw[fP b,e]
 have c: ∀X:aa,(J++[aa.vec 287 34 (di x (.clo f [] cs))]).set r X=J.set r X++[aa.vec 287 34 (di x (.clo f [] cs))]:=λX=>by rw[List.set_append_left _ _ b]
 refine cz Tryz.f328 ?_ [100003,300008];exact bL (ga @D1 (ga @Ci (ga @fv (ga @zX (ga @oy (ga @qu (ga @jm (ga @e (ga @g (ga @c (ga @i (ga @h @wj)))))))))))) trivial
 all_goals first|exact⟨_,rfl,rfl⟩|exact⟨rfl,rfl⟩|rfl
theorem UO(a:ay)(c:az):aI Tryz.prog 334 [.agg (aO a),.ref (aR c)] (dB (decide (c.kind=7)||(decide (a.kind=yU c.kind)&&decide (a.file=c.file)))):=by
 refine aL Tryz.f334 ?_ [100002]
 repeat' first|refine ab (λ_=> ?_) λ_=> ?_|refine aG trivial @L5 ?_|exact aF trivial @L5|fail
 all_goals simp_all
def qU(v:AV)(J:List aa)(rows:List (ak×FuncId×List AV)):Prop:=(v= .nil 34/\rows=[])\/ ∃r,v= .vec (r+1) rows.length 34/\J[r]?=some (.vec 287 34 (rows.flatMap λp=>di p.1 (.clo p.2.1 [] p.2.2)))
theorem Cr: ∀rows:List (ak×FuncId×List AV),(rows.flatMap λp=>di p.1 (.clo p.2.1 [] p.2.2)).length=rows.length*34
 |[]=>rfl
 |p::l=>by rw[jt,aQ,fv,Cr l,aY];omega
theorem qU.more{v:AV}{J:List aa}{rows:List (ak×FuncId×List AV)}(h:qU v J rows)(o:aa):qU v (J++[o]) rows:=by
 rcases h with⟨b,a⟩|⟨r,b,a⟩
 .exact .inl ⟨b,a⟩
 .exact .inr ⟨r,b,by rw[fP (aV.1 a).1];exact a⟩
theorem Yf{v:AV}{J:List aa}{rows:List (ak×FuncId×List AV)}(h:qU v J rows)(x:ak)(f:FuncId)(cs:List AV)(g:rows.length<=1000000):bs Tryz.prog 328 [.d (.agg (ae x)),.clo f [] cs,.ptr 0 0] (.cells [v]::J) λd b=>d= .tup []/\ ∃e c,b= .cells [e]::c/\qU e c (rows++[(x,f,cs)]):=by
 rcases h with⟨rfl,rfl⟩|⟨r,rfl,h2⟩
 .refine(Yg x f cs J).mono ?_;rintro d b ⟨rfl,rfl⟩;refine⟨rfl,_,_,rfl,.inr ⟨J.length+1,rfl,?_⟩⟩;rw[iY a8,nQ];simp
 .refine(Yh x f cs J r rows.length _ h2 (Cr rows) g).mono ?_;rintro d b ⟨rfl,rfl⟩;have a:=(aV.1 h2).1;refine⟨rfl,_,_,rfl,.inr ⟨r,by simp,?_⟩⟩;rw[fP (by simpa using a),fB,if_pos rfl,if_pos a];simp[List.flatMap_append]
def rh(v:Int):List Int->Nat->Int
 |[],_=> -1
 |y::l,k=>if v=y then(k:Int)else rh v l (k+1)
def uL(l:List Int):D:= .sl 1 (l.map λn=>[dI n])
theorem IW(v:Int): ∀(l:List Int) (k:Nat),decide (rh v l k>=0)=decide (v∈l)
 |[],k=>by simp[rh]
 |y::l,k=>by
  rw[rh];by_cases h:v=y
  .rw[if_pos h];simp[h]
  .rw[if_neg h,IW v l (k+1)];simp[h]
theorem Si(l:List Int)(v:Int):aI Tryz.prog 405 [uL l,dI v] (dI (rh v l 0)):=by
 unfold uL;refine aI.big (kM (by kernel_rfl)) 0 rfl λc=> ?_;rw[aM]at c;refine aL Tryz.f405 ?_ [] [[8,0,1,7]];refine aC trivial trivial ?_;refine aZ.over l (λk (_:Unit)=>[(8,iN k)]) (λ_ _=>[]) (λr _=>rh v r (l.length-r.length)) (rh v l 0) () c aA aA rfl (by rw[jc]) (λk _ x hg hk b d a=> ?_) (λ_ b a=> ?_)
 .have e:l.length-(x::l.drop (k+1)).length=k:=by rw[aY,ax];omega
  have f:l.length-(l.length-(k+1))=k+1:=by omega
  rw[e,rh]at a
  repeat' first|refine ab (λ_=> ?_) λ_=> ?_|refine aG (ga @b (ga @d @hg)) trivial ?_|exact aF (ga @b (ga @d @hg)) trivial|fail
  .rename_i h;rw[if_pos (by simpa using h)]at a;exact a.symm
  .rename_i h;rw[if_neg (by simpa using h)]at a;exact⟨(),by rw[f];exact a⟩
 .rw[rh]at a;refine aC @b trivial ?_;exact a.symm
theorem QE(l:List Int)(v:Int):aI Tryz.prog 361 [uL l,dI v] (dB (decide (v∈l))):=by
 have c:=Si l v;have e:=IW v l 0;unfold uL at c⊢;refine aL Tryz.f361 ?_
 repeat' first|refine ab (λ_=> ?_) λ_=> ?_|refine aG @e @c ?_|exact aF @e @c|fail
 all_goals simp_all
theorem tc(l:List Int)(k:Int)(i:Nat)(s:List aa)(a:s[i]?=some (.cells [.d (dI k)])):bs Tryz.prog 360 [.d (uL l),.ptr i 0] s λd b=>d= .d (dB (decide (k∈l)))/\b=s:=by
 have c:=QE l k;unfold uL at c⊢;refine cz Tryz.f360 ?_
 repeat' first|refine ab (λ_=> ?_) λ_=> ?_|refine aG (ga @a @wj) @c ?_|exact aF (ga @a @wj) @c|fail
 all_goals simp_all
theorem Sv(n:Int):aI Tryz.prog 211 [dI n] (dB false):=by
 refine aL Tryz.f211 ?_;exact bL trivial trivial
theorem Qq(a b:Int):aI Tryz.prog 138 [dI a,dI b] (dI (if a<b then-1 else if b<a then 1 else 0)):=by
 refine aL Tryz.f138 ?_
 repeat' first|refine ab (λ_=> ?_) λ_=> ?_|refine aH ?_|refine af.data (Sv _) rfl ?_|simp only[gt_iff_lt,wy,qg,aE,reduceCtorEq,reduceIte,Nat.reduceAdd,Nat.reduceMul,Nat.reduceEqDiff,Nat.reduceLT,Nat.reduceLeDiff,Nat.reduceSub,ax,aD,aB,aw]
 all_goals first|(simp_all;done)|(rw[if_neg a8,if_neg a8])
theorem Iu(x:ak):List.drop 0 (ae x)=ae x:=rfl
theorem MQ(x:ak):chunk 1 (Int.toNat 32-Int.toNat 0) (List.take (Int.toNat 32-Int.toNat 0) (List.drop (Int.toNat 0) (ae x)))=(au x.p).map λy=>[y]:=by
 have h:List.take (Int.toNat 32-Int.toNat 0) (List.drop (Int.toNat 0) (ae x))=(au x.p).take 32:=by
  show(ae x).take 32=_;unfold ae;rw[tt]
  first|exact LQ _ _|(rw[ij (by rw[b9];exact bg _)];exact tt _)
 rw[h,tt];show chunk 1 32 _=_;rw[DN 32 _ (b9 _)]
theorem F0(a b:ak):aI Tryz.prog 70 [.agg (ae a),.agg (ae b)] (dI (du a b)):=by
 refine aL Tryz.f70 ?_ [100002,100003]
 repeat' first|refine ab (λ_=> ?_) λ_=> ?_|refine aH ?_|refine af.data (Ht _ _) rfl ?_|refine af.data (Qq _ _) rfl ?_|simp only[Cz,MQ,Iu,aN,bne_iff_ne,wy,qg,aE,reduceCtorEq,reduceIte,Nat.reduceAdd,Nat.reduceMul,Nat.reduceEqDiff,Nat.reduceLT,Nat.reduceLeDiff,Nat.reduceSub,ax,aD,aB,aw]
 all_goals simp_all[du]
end Go.Proofs.Q
