/- Lemmas. -/
import Derived.Test.YtellfinifjmloaaGreatDoorPX4
import Derived.Test.YtellfinifjmloaaGreatDoorPAY
set_option linter.unusedVariables false
set_option linter.unusedSimpArgs false
namespace Go.Proofs.Q
open Go Go.Ab Go.Bb
def D9:CF:=⟨36, (kq [kM 4 (.c (.nil 172))] (kq [o0 11 (.bsl false 32 172 0 [] []),om 5 11] (.seq (kq [o7 6 0] (.block 0 (.loop (.trim [6,5,1,0] (.seq (kq [om 12 6,om 13 1,o9 14 0 13,o4 15 .lss 12 14] (kd 15 .skip (.exit 0))) (.seq (.block 1 (kq [om 19 0,om 20 1,om 21 6,oi 22 32 20 21,o2 23 32 22,o6 24 28 [.t 19,.t 23],om 18 24,oe 25 18 0,oe 26 18 1,kB 7 mH,o8 5 7 25,om 8 26] (kq [o2 28 5 7,o6 29 30 [.t 28],om 27 29,oe 30 27 0,oe 31 27 1,om 9 30,om 10 31] (fo [om 32 5,om 33 9,o0 34 (.app false 32 172 296 (.t 32) (.t 33)),om 5 34])))) (fo [om 16 6,o5 17 .add 16 1,om 6 17]))))))) (kq [om 35 5,om 4 35] .ret)))),[.tmp 4]⟩
theorem Yz:aN Tryz.prog [] 83=some D9.erase:=by kernel_rfl
def D3:CF:=⟨7, (kq [kM 2 (.c (.nil 172))] (kq [om 3 0,om 4 0,o6 5 71 [.t 4],o6 6 83 [.t 3,.t 5],om 2 6] .ret)),[.tmp 2]⟩
theorem Yt:aN Tryz.prog [] 40=some D3.erase:=by kernel_rfl
def D5:CF:=⟨28, (kq [ox 3 1,kB 4 dZ,kM 5 xF] (kq [om 8 0,o6 9 40 [.t 8],om 6 9] (.seq (kq [o7 7 0] (.block 0 (.loop (.trim [4,7,6,3] (.seq (kq [om 10 7,om 11 6,o9 12 0 11,o4 13 .lss 10 12] (kd 13 .skip (.exit 0))) (.seq (.block 1 (.seq (.ops true [0,0,3,7,15,0,63] [om 16 6,om 17 7,oi 18 172 16 17,o1 19 0 18,o2 20 33 19,o2 21 33 3,o0 22 (.eqa true cJ false (.t 20) (.t 21))]) (kd 22 (kq [om 23 6,om 24 7,oi 25 172 23 24,o2 26 172 25,o8 172 4 26,kM 5 xT] .ret) .skip))) (fo [om 14 7,o5 15 .add 14 1,om 7 15]))))))) (kq [o0 27 (.bld ee []),o8 172 4 27,kM 5 xF] .ret)))),[.cell 4 (some 172),.tmp 5]⟩
theorem Yv:aN Tryz.prog [100003,300027] 14=some D5.erase:=by kernel_rfl
def D4:CF:=⟨54, (kq [kM 2 (.c (.nil 172))] (kq [om 8 0,om 9 0,o6 10 74 [.t 9],o6 11 83 [.t 8,.t 10],om 3 11] (kq [o0 12 (.bsf 172 0 [] []),om 4 12] (.seq (kq [om 13 3,o9 14 0 13,o5 15 .sub 14 1,om 5 15] (.block 0 (.loop (.trim [4,3,5] (.seq (kq [om 16 5,o5 17 .geq 16 0] (kd 17 .skip (.exit 0))) (.seq (.block 1 (kq [kM 6 xT] (.seq (kq [o7 7 0] (.block 2 (.loop (.trim [7,5,3,4,6] (.seq (kq [om 20 7,om 21 4,o9 22 0 21,o4 23 .lss 20 22] (kd 23 .skip (.exit 2))) (.seq (.block 3 (.seq (.ops true [0,0,3,7,15,31,63,127,127,511,1023,2047,127,127,12415,28799,61567,131071,262143] [om 26 4,om 27 7,oi 28 172 26 27,o1 29 33 28,o3 30 29,o5 31 .eql 30 7,om 32 31,oh 33 32 true 4,oh 34 32 true 7,og 35 32 true (.iad 172 (.t 33) (.t 34)),kF 36 32 true 171 35,kL 37 32 true 36,oh 38 32 true 3,oh 39 32 true 5,og 40 32 true (.iad 172 (.t 38) (.t 39)),kF 41 32 true 0 40,og 42 32 true (.ld (some 33) (.t 41)),og 43 32 true (.call (.fn 35) [.t 37,.t 42]),kP 44 32 43]) (kd 44 (fo [kM 6 xF]) .skip))) (fo [om 24 7,o5 25 .add 24 1,om 7 25]))))))) (kq [om 45 6] (kd 45 (fo [om 46 3,om 47 5,oi 48 172 46 47,o2 49 172 48,o0 50 (.bsl false 32 172 1 dZ [(0,172,(.t 49))]),om 51 4,o0 52 (.app false 32 172 296 (.t 50) (.t 51)),om 4 52]) .skip))))) (fo [om 18 5,o5 19 .sub 18 1,om 5 19]))))))) (kq [om 53 4,om 2 53] .ret))))),[.tmp 2]⟩
theorem Yu:aN Tryz.prog [100012] 54=some D4.erase:=by kernel_rfl
def D8:CF:=⟨29, (kq [ox 3 1,kM 4 (.c (.nil 33))] (kq [o0 7 (.bsf 33 0 [] []),om 5 7] (.seq (kq [o7 6 0] (.block 0 (.loop (.trim [6,0,5,3] (.seq (kq [om 8 6,om 9 0,o9 10 0 9,o4 11 .lss 8 10] (kd 11 .skip (.exit 0))) (.seq (.block 1 (.seq (.ops true [0,0,3,7,15,0,63] [om 14 0,om 15 6,oi 16 172 14 15,o1 17 171 16,o3 18 17,o2 19 33 3,o6 20 35 [.t 18,.t 19]]) (kd 20 (fo [om 21 5,om 22 0,om 23 6,oi 24 172 22 23,o1 25 0 24,o2 26 33 25,o6 27 78 [.t 21,.t 26],om 5 27]) .skip))) (fo [om 12 6,o5 13 .add 12 1,om 6 13]))))))) (kq [om 28 5,om 4 28] .ret)))),[.tmp 4]⟩
theorem Yy:aN Tryz.prog [100003,100007] 53=some D8.erase:=by kernel_rfl
def tA:CF:=⟨19, (kq [ox 3 1,kM 4 (.c (.nil 33))] (.seq (kq [om 8 0,o2 9 33 3,o6 10 14 [.t 8,.t 9],om 7 10,oe 11 7 0,oe 12 7 1,kB 5 dZ,o8 172 5 11,om 6 12] (kq [om 13 6,o0 14 (.not (.t 13))] (kd 14 (kq [kM 4 (.c (.nil 33))] .ret) .skip))) (.seq (.ops true [0,1,0,7,15] [om 15 0,o6 16 54 [.t 15],o2 17 33 3,o6 18 53 [.t 16,.t 17],om 4 18]) .ret))),[.tmp 4]⟩
theorem MK:aN Tryz.prog [100003] 20=some tA.erase:=by kernel_rfl
def D7:CF:=⟨35, (kq [kM 2 (.c (.nil 172))] (kq [om 7 0,o6 8 40 [.t 7],om 9 0,o6 10 54 [.t 9],om 3 8,om 4 10] (kq [o0 11 (.bsl false 32 172 0 [] []),om 5 11] (.seq (kq [o7 6 0] (.block 0 (.loop (.trim [6,3,5,4] (.seq (kq [om 12 6,om 13 3,o9 14 0 13,o4 15 .lss 12 14] (kd 15 .skip (.exit 0))) (.seq (.block 1 (kq [om 18 4,om 19 3,om 20 6,oi 21 172 19 20,o1 22 0 21,o2 23 33 22,o6 24 53 [.t 18,.t 23],o9 25 0 24,o5 26 .eql 25 0] (kd 26 (fo [om 27 5,om 28 3,om 29 6,oi 30 172 28 29,o2 31 172 30,o0 32 (.bsf 172 1 ee [(0,172,(.t 31))]),o0 33 (.app false 32 172 296 (.t 27) (.t 32)),om 5 33]) .skip))) (fo [om 16 6,o5 17 .add 16 1,om 6 17]))))))) (kq [om 34 5,om 2 34] .ret))))),[.tmp 2]⟩
theorem Yx:aN Tryz.prog [100032] 84=some D7.erase:=by kernel_rfl
def D6:CF:=⟨24, (kq [kM 2 (.c (.nil 33))] (kq [om 6 0,o6 7 84 [.t 6],om 3 7] (kq [o0 8 (.bsl false 27 33 0 [] []),om 4 8] (.seq (kq [o7 5 0] (.block 0 (.loop (.trim [5,3,4] (.seq (kq [om 9 5,om 10 3,o9 11 0 10,o4 12 .lss 9 11] (kd 12 .skip (.exit 0))) (.seq (.block 1 (fo [om 15 4,om 16 3,om 17 5,oi 18 172 16 17,o1 19 0 18,o2 20 33 19,o0 21 (.bsf 33 1 cQ [(0,33,(.t 20))]),o0 22 (.app false 27 33 40 (.t 15) (.t 21)),om 4 22])) (fo [om 13 5,o5 14 .add 13 1,om 5 14]))))))) (kq [om 23 4,om 2 23] .ret))))),[.tmp 2]⟩
theorem Yw:aN Tryz.prog [100021] 42=some D6.erase:=by kernel_rfl
def D2:CF:=⟨9, (kq [ox 3 1,kM 4 xF] (.seq (.ops true [0,1,0,7,15] [om 5 0,o6 6 42 [.t 5],o2 7 33 3,o6 8 35 [.t 6,.t 7],om 4 8]) .ret)),[.tmp 4]⟩
theorem Ys:aN Tryz.prog [100003] 17=some D2.erase:=by kernel_rfl
end Go.Proofs.Q
namespace Go.Proofs.Q
open Go Go.Bb Go.RowKit Go.Proofs.Lg
open Go.Ab (D RD)
theorem PE{n:Int}(b: -9223372036854775808≤n)(c:n<9223372036854775808):IntKind.i64.wrap n=n:=by
 simp only[IntKind.wrap,IntKind.bits,IntKind.signed];have a:n % 2^64=n∨n % 2^64=n+2^64:=by omega
 rcases a with a|a
 ·simp only[a];simp;omega
 ·simp only[a];simp;omega
theorem Iu(p:aX)(f:cz p):(cT ar p).1.length≤1604400:=by
 unfold cT;split
 ·exact fy _
 ·rename_i a;have a:(bq ar p).2=0:=by simpa using a
  have c:(dw p).2=0:=by
   unfold bq at a;split at a
   ·rename_i b;exact absurd a b
   ·rename_i b;exact uH (p:=p) (by simpa[iZ]using b)
  obtain⟨_,e,_,d,_⟩:=jy c;rw[aQ,d];have:=zw (l:=p.changes) (own:=[]);simp at this;omega
theorem DH{s:aD}(a:gE s): ∀l:List Dg,(fQ ar s l).length≤1604400*l.length
 |[]=>fy _
 |d::l=>by
  have b:=DH a l;have c:=Iu ((ch s d).getD .zero) (xd cz.zero d a.pat);rw[fQ,aR,aY];omega
theorem MO(s:aD):(dN s).length≤s.length:=by
 unfold dN;have:=(DG (s:=s) s.length [] fun i d a=>by simp at a).2;simpa using this
theorem NK(s:aD)(o:gE s)(l:List Dg)(q:l.length≤1000):aG Tryz.prog 83 [.sl 37 (s.map b5),.sl 32 (l.map aP)] (.sl 172 ((fQ ar s l).map aI)):=by
 refine aM (F:=D9) Yz (by simp[D9]) ?_;simp only[D9]
 repeat' first|refine ae (fun _=> ?_) fun _=> ?_|refine ay ab ab ?_|exact ax ab ab|fail
 refine aZ.overI l (fun k (b:List au×List aa)=>[(6,iN k),(5,.tsl 0 172 (b.1.map aI))]) (fun k b=>[.row 32 172 b.1.length]++b.2) (fun r b=>b.1++fQ ar s r) (fQ ar s l) (fun k b=>b.1.length≤1604400*k) ([],[]) a8 aB aB rfl rfl (by simp) (fun k b x hg hk c p a j=> ?_) (fun b c a j=> ?_)
 ·obtain⟨b,J⟩:=b;have f:=NA s x;have e:=Nq ((ch s x).getD .zero) (xd cz.zero x o.pat);have h:=Iu ((ch s x).getD .zero) (xd cz.zero x o.pat);dsimp only at a j;rw[fQ]at a;obtain⟨A,g⟩: ∃A,A=(cT ar ((ch s x).getD .zero)).1:=⟨_,rfl⟩
  obtain⟨E,i⟩: ∃A,A=(cT ar ((ch s x).getD .zero)).2:=⟨_,rfl⟩
  obtain⟨P,m⟩: ∃A,A=(ch s x).getD .zero:=⟨_,rfl⟩
  rw[←g,←i]at e;rw[←g]at h a;rw[←m]at f e;clear g i m;have n:bw (b.length+A.length) 296=true:=room_le a8 a8
  repeat' first|refine ae (fun _=> ?_) fun _=> ?_|refine ay (ga @c (ga @p (ga @hg (ga @n (ga @ba (ga @fJ (ga @br @wj))))))) (ga @f @e) ?_|exact ax (ga @c (ga @p (ga @hg (ga @n (ga @ba (ga @fJ (ga @br @wj))))))) (ga @f @e)|fail
  all_goals exact⟨(b++A,J++[.cells ((bc P).map .d)]),by simp,by simp,by rw[a];simp,by dsimp only;simp;omega⟩
 ·obtain⟨b,J⟩:=b;dsimp only at a;rw[fQ,bg]at a
  repeat' first|refine ae (fun _=> ?_) fun _=> ?_|refine ay @c ab ?_|exact ax @c ab|fail
  rw[a]
theorem ES{s:aD}(a:gE s)(c:s.length≤1000):(fP ar s).length≤1604400000:=by
 have:=DH a (bs s);unfold fP;have b:(bs s).length=s.length:=by unfold bs;rw[aQ]
 omega
theorem Gz(s:aD)(d:gE s)(c:s.length≤1000):aG Tryz.prog 40 [.sl 37 (s.map b5)] (.sl 172 ((fP ar s).map aI)):=by
 have a:=NB s a8;have b:=NK s d (bs s) (by unfold bs;rw[aQ];exact c);unfold fP;refine aM (F:=D3) Yt (by simp[D3]) ?_;simp only[D3]
 repeat' first|refine ae (fun _=> ?_) fun _=> ?_|refine ay ab (ga @a @b) ?_|exact ax ab (ga @a @b)|fail
theorem NH(s:aD)(j:gE s)(g:s.length≤1000)(i:af):aG Tryz.prog 14 [.sl 37 (s.map b5),.agg (aj i)] (.tup [.agg (aI ((j5 (fP ar s) i).getD .zero)),dB (j5 (fP ar s) i).isSome]):=by
 have d:=Gz s j g;have c:=ES j g;obtain⟨A,f⟩: ∃A,A=fP ar s:=⟨_,rfl⟩
 rw[←f]at d c⊢;obtain⟨R,a⟩: ∃R,R=j5 A i:=⟨_,rfl⟩
 rw[←a];clear f;refine aM (F:=D5) Yv (by simp[D5]) ?_;simp only[D5]
 repeat' first|refine ae (fun _=> ?_) fun _=> ?_|refine ay ab @d ?_|exact ax ab @d|fail
 refine aZ.over A (fun k (_:Unit)=>[(7,iN k)]) (fun _ _=>[.cells dZ]) (fun r _=>j5 r i) R () a8 aB aB rfl a (fun k _ x hg hk e l b=> ?_) (fun _ e b=> ?_)
 ·rw[j5]at b;clear a d
  repeat' first|refine ae (fun _=> ?_) fun _=> ?_|refine ay (ga @e (ga @l (ga @hg (ga @bz (ga @bb (ga @az @wj)))))) ab ?_|exact ax (ga @e (ga @l (ga @hg (ga @bz (ga @bb (ga @az @wj)))))) ab|fail
  ·rename_i h;rw[b,if_pos h];rfl
  ·rename_i h;rw[if_neg h]at b;exact⟨(),b⟩
 ·repeat' first|refine ae (fun _=> ?_) fun _=> ?_|refine aL ?_|simp only[e,ee,bz,bb,aQ,wy,qg,aH,reduceCtorEq,reduceIte,Nat.reduceAdd,Nat.reduceMul,Nat.reduceEqDiff,Nat.reduceLT,Nat.reduceLeDiff,Nat.reduceSub,aA,aF,aE,aw]
  rw[b];rfl
def QA(v:AV)(l:List au):Prop:=v= .d (.sl 172 (l.map aI))∨ ∃r,v= .tsl r 172 (l.map aI)
theorem SI(y:au)(l:List au)(i:af):l9 (y::l) i=(!(decide (y.kind=7)&&dh y.over i)&&l9 l i):=rfl
set_option maxHeartbeats 2000000 in
theorem NG(s:aD)(o:gE s)(K:s.length≤1000):aG Tryz.prog 54 [.sl 37 (s.map b5)] (.sl 172 ((eM ar s).map aI)):=by
 have B:=NC s o;have t:=MO s;have p:=NK s o (dN s) a8;have g:=DH o (dN s);unfold eM;obtain⟨A,C⟩: ∃A,A=fQ ar s (dN s):=⟨_,rfl⟩
 rw[←C]at p g⊢;have G:A.length≤1604400000:=by omega
 clear C g;have z:IntKind.i64.wrap ((A.length:Int)-1)=(A.length:Int)-1:=PE a8 a8;refine aM (F:=D4) Yu (by simp[D4]) ?_;simp only[D4]
 repeat' first|refine ae (fun _=> ?_) fun _=> ?_|refine aL ?_|refine aq.data (B) rfl ?_|refine aq.data (p) rfl ?_|simp only[z,decide_true,aQ,wj,wy,qg,aH,reduceCtorEq,reduceIte,Nat.reduceAdd,Nat.reduceMul,Nat.reduceEqDiff,Nat.reduceLT,Nat.reduceLeDiff,Nat.reduceSub,aA,aF,aE,aw]
 clear B p t o;refine aZ.tr (fun(b:Nat×List au×AV×List aa)=>[(4,b.2.2.1),(5,.d (.sc (.int .i64 ((b.1:Int)-1))))]) (fun b=>b.2.2.2) (fun m b=>m=b.1∧m≤A.length∧b.2.1.length+m≤A.length∧QA b.2.2.1 b.2.1∧gn A.reverse []=gn (A.take m).reverse b.2.1) A.length (A.length,[],.d (.sl 172 []),[]) aB aB rfl ⟨rfl,bk _,by simp,.inl rfl,by rw[sd]⟩ ?_
 rintro m ⟨_,out,v,J⟩ ⟨rfl,hm,t,w,e⟩;dsimp only at hm t w e⊢;cases m with
 |zero=>
  have q:decide (((0:Int)-1)≥0)=false:=by decide
  rw[uj,List.reverse_nil,gn]at e;rw[e];rcases w with rfl|⟨r,rfl⟩
  all_goals(repeat' first|refine ae (fun _=> ?_) fun _=> ?_|refine aL ?_|simp only[q,wj,wy,qg,aH,reduceCtorEq,reduceIte,Nat.reduceAdd,Nat.reduceMul,Nat.reduceEqDiff,Nat.reduceLT,Nat.reduceLeDiff,Nat.reduceSub,aA,aF,aE,aw];try rfl)
 |succ k=>
  obtain⟨x,i⟩: ∃x,A[k]?=some x:=⟨_,bN a8⟩
  have H:(A.take (k+1)).reverse=x::(A.take k).reverse:=by
   rw[ui a8,List.reverse_append];have:A[k]=x:=(b9.1 i).2;rw[this];rfl
  rw[H,gn]at e;have n:(((k+1:Nat):Int)-1)=(k:Int):=by omega
  have q:decide ((k:Int)≥0)=true:=by simp
  have D:IntKind.i64.wrap ((k:Int)-1)=(k:Int)-1:=PE a8 a8;rw[n];rcases w with rfl|⟨r,rfl⟩
  all_goals
   repeat' first|refine ae (fun _=> ?_) fun _=> ?_|refine aL ?_|simp only[q,i,aQ,wj,wy,qg,aH,reduceCtorEq,reduceIte,Nat.reduceAdd,Nat.reduceMul,Nat.reduceEqDiff,Nat.reduceLT,Nat.reduceLeDiff,Nat.reduceSub,aA,aF,aE,aw]
   refine aZ.over out (fun j (f:Bool)=>[(7,iN j),(6,.d (dB f))]) (fun _ _=>J) (fun r f=>f&&l9 r x.id) (l9 out x.id) true a8 aB aB rfl (by simp) (fun j f y hg I c h a=> ?_) (fun f c a=> ?_)
   ·rw[SI]at a;have cI:=DS y.over x.id;clear e;by_cases l:y.kind=7
    ·cases hi:dh y.over x.id
     ·rw[hi]at cI a
      repeat' first|refine ae (fun _=> ?_) fun _=> ?_|refine aL ?_|refine aq.data (cI) rfl ?_|simp only[c,h,hg,i,l,beq_self_eq_true,aQ,wj,wy,qg,aH,reduceCtorEq,reduceIte,Nat.reduceAdd,Nat.reduceMul,Nat.reduceEqDiff,Nat.reduceLT,Nat.reduceLeDiff,Nat.reduceSub,aA,aF,aE,aw]
      (rw[a];simp)
     ·rw[hi]at cI a
      repeat' first|refine ae (fun _=> ?_) fun _=> ?_|refine aL ?_|refine aq.data (cI) rfl ?_|simp only[c,h,hg,i,l,beq_self_eq_true,aQ,wj,wy,qg,aH,reduceCtorEq,reduceIte,Nat.reduceAdd,Nat.reduceMul,Nat.reduceEqDiff,Nat.reduceLT,Nat.reduceLeDiff,Nat.reduceSub,aA,aF,aE,aw]
      (rw[a];simp[l])
    ·have E:(y.kind==7)=false:=by simpa using l
     rw[decide_eq_false l]at a
     repeat' first|refine ae (fun _=> ?_) fun _=> ?_|refine aL ?_|refine aq.data (cI) rfl ?_|simp only[c,h,hg,i,E,aQ,wj,wy,qg,aH,reduceCtorEq,reduceIte,Nat.reduceAdd,Nat.reduceMul,Nat.reduceEqDiff,Nat.reduceLT,Nat.reduceLeDiff,Nat.reduceSub,aA,aF,aE,aw]
     (rw[a];simp)
   ·rw[show l9 [] x.id=true from rfl,Bool.and_true]at a;rw[a]at e;have u:bw (1+out.length) 296=true:=room_le a8 a8;cases f
    ·repeat' first|refine ae (fun _=> ?_) fun _=> ?_|refine aL ?_|simp only[c,D,i,aQ,wj,wy,qg,aH,reduceCtorEq,reduceIte,Nat.reduceAdd,Nat.reduceMul,Nat.reduceEqDiff,Nat.reduceLT,Nat.reduceLeDiff,Nat.reduceSub,aA,aF,aE,aw]
     exact⟨k,(k,out,_,J),by omega,⟨rfl,rfl⟩,rfl,rfl,by omega,by dsimp only;omega,by first|exact .inl rfl|exact .inr ⟨_,rfl⟩,by rw[e];rfl⟩
    ·repeat' first|refine ae (fun _=> ?_) fun _=> ?_|refine aL ?_|simp only[c,D,i,u,bz,bb,aQ,wj,wy,qg,aH,reduceCtorEq,reduceIte,Nat.reduceAdd,Nat.reduceMul,Nat.reduceEqDiff,Nat.reduceLT,Nat.reduceLeDiff,Nat.reduceSub,aA,aF,aE,aw]
     exact⟨k,(k,x::out,_,_),by omega,⟨rfl,rfl⟩,rfl,rfl,by omega,by dsimp only;simp;omega,.inr ⟨_,rfl⟩,by rw[e];rfl⟩
theorem NJ(A:List au)(h:A.length≤900000000)(i:af):aG Tryz.prog 53 [.sl 172 (A.map aI),.agg (aj i)] (.sl 33 ((ib i A []).map aj)):=by
 refine aM (F:=D8) Yy (by simp[D8]) ?_;simp only[D8]
 repeat' first|refine ae (fun _=> ?_) fun _=> ?_|refine ay ab ab ?_|exact ax ab ab|fail
 refine aZ.overI A (fun k (b:List af)=>[(6,iN k),(5,.d (.sl 33 (b.map aj)))]) (fun _ _=>[]) (fun r b=>ib i r b) (ib i A []) (fun k b=>b.length≤k) [] a8 aB aB rfl rfl (by simp) (fun k b x hg hk c e a g=> ?_) (fun b c a g=> ?_)
 ·have cI:=DS x.over i;have f:=xS b x.id a8;have j:=xj b x.id;rw[ib]at a;cases hi:dh x.over i
  ·rw[hi]at cI a
   repeat' first|refine ae (fun _=> ?_) fun _=> ?_|refine ay (ga @c (ga @e (ga @hg @wj))) @cI ?_|exact ax (ga @c (ga @e (ga @hg @wj))) @cI|fail
   exact⟨b,rfl,a,by omega⟩
  ·rw[hi]at cI a
   repeat' first|refine ae (fun _=> ?_) fun _=> ?_|refine ay (ga @c (ga @e (ga @hg @wj))) (ga @cI @f) ?_|exact ax (ga @c (ga @e (ga @hg @wj))) (ga @cI @f)|fail
   exact⟨_,rfl,a,by omega⟩
 ·rw[ib]at a
  repeat' first|refine ae (fun _=> ?_) fun _=> ?_|refine ay @c ab ?_|exact ax @c ab|fail
  rw[a]
theorem JI: ∀(L out:List au),(gn L out).length≤out.length+L.length
 |[],out=>bk _
 |x::L,out=>by
  rw[gn];refine ef (JI L _) ?_;split
  ·simp only[aY];omega
  ·rw[aY];omega
theorem JL{s:aD}(b:gE s)(e:s.length≤500):(eM ar s).length≤900000000:=by
 unfold eM;have a:=JI (fQ ar s (dN s)).reverse [];rw[nI]at a;have c:=DH b (dN s);have d:=MO s;simp at a;omega
theorem a0r(s:aD)(c:gE s)(g:s.length≤500)(i:af):aG Tryz.prog 20 [.sl 37 (s.map b5),.agg (aj i)] (.sl 33 ((rf ar s i).map aj)):=by
 have b:=NH s c a8 i;have d:=NG s c a8;have e:=NJ (eM ar s) (JL c g) i;unfold rf;cases f:j5 (fP ar s) i with
 |none=>
  rw[f]at b;refine aM (F:=tA) MK (by simp[tA]) ?_;simp only[tA]
  repeat' first|refine ae (fun _=> ?_) fun _=> ?_|refine ay (ga @az (ga @bb (ga @bz @wj))) @b ?_|exact ax (ga @az (ga @bb (ga @bz @wj))) @b|fail
  all_goals first|rfl|trace_state
 |some a=>
  rw[f]at b;refine aM (F:=tA) MK (by simp[tA]) ?_;simp only[tA]
  repeat' first|refine ae (fun _=> ?_) fun _=> ?_|refine ay (ga @az (ga @bb (ga @bz @wj))) (ga @b (ga @d @e)) ?_|exact ax (ga @az (ga @bb (ga @bz @wj))) (ga @b (ga @d @e))|fail
  all_goals first|rfl|trace_state
theorem a0s(s:aD)(h:gE s)(t:s.length≤500):aG Tryz.prog 84 [.sl 37 (s.map b5)] (.sl 172 ((qf ar s).map aI)):=by
 have j:=Gz s h a8;have l:=NG s h a8;have f:=ES h (by omega:s.length≤1000);have o:=JL h t;unfold qf;obtain⟨A,n⟩: ∃A,A=fP ar s:=⟨_,rfl⟩
 obtain⟨E,c⟩: ∃A,A=eM ar s:=⟨_,rfl⟩
 rw[←n,←c];rw[←n]at j f;rw[←c]at l o;clear n c;refine aM (F:=D7) Yx (by simp[D7]) ?_;simp only[D7]
 repeat' first|refine ae (fun _=> ?_) fun _=> ?_|refine ay ab (ga @j @l) ?_|exact ax ab (ga @j @l)|fail
 refine aZ.overI A (fun k (b:List au)=>[(6,iN k),(5,.tsl 0 172 (b.map aI))]) (fun k b=>[.row 32 172 b.length]) (fun r b=>b++r.filter fun x=>decide ((ib x.id E []).length=0)) (A.filter fun x=>decide ((ib x.id E []).length=0)) (fun k b=>b.length≤k) [] a8 aB aB rfl rfl (by simp) (fun k b x hg hk d i a q=> ?_) (fun b d a q=> ?_)
 ·have g:=NJ E o x.id;have p:bw (b.length+1) 296=true:=room_le a8 a8;rw[List.filter_cons]at a;by_cases m:(ib x.id E []).length=0
  ·have e:(((ib x.id E []).length:Int)==0)=true:=by simp[m]
   rw[if_pos (decide_eq_true m)]at a
   repeat' first|refine ae (fun _=> ?_) fun _=> ?_|refine ay (ga @d (ga @i (ga @hg (ga @p (ga @e (ga @bb @wj)))))) @g ?_|exact ax (ga @d (ga @i (ga @hg (ga @p (ga @e (ga @bb @wj)))))) @g|fail
   exact⟨b++[x],by simp,by simp,by rw[a];simp,by simp;omega⟩
  ·have e:(((ib x.id E []).length:Int)==0)=false:=by rw[beq_eq_false_iff_ne];omega
   rw[if_neg (by rw[decide_eq_false m];decide)]at a
   repeat' first|refine ae (fun _=> ?_) fun _=> ?_|refine ay (ga @d (ga @i (ga @hg (ga @e (ga @bb @wj))))) @g ?_|exact ax (ga @d (ga @i (ga @hg (ga @e (ga @bb @wj))))) @g|fail
   exact⟨b,by simp,by simp,a,by omega⟩
 ·rw[List.filter_nil,bg]at a
  repeat' first|refine ae (fun _=> ?_) fun _=> ?_|refine ay @d ab ?_|exact ax @d ab|fail
  rw[a]
theorem NI(s:aD)(i:gE s)(l:s.length≤500):aG Tryz.prog 42 [.sl 37 (s.map b5)] (.sl 33 ((od ar s).map aj)):=by
 have e:=a0s s i l;have c:(qf ar s).length≤1604400000:=by
  have:=ES i (by omega:s.length≤1000);unfold qf;exact ef (List.length_filter_le _ _) this
 unfold od;obtain⟨A,f⟩: ∃A,A=qf ar s:=⟨_,rfl⟩
 rw[←f]at e c⊢;clear f;refine aM (F:=D6) Yw (by simp[D6]) ?_;simp only[D6]
 repeat' first|refine ae (fun _=> ?_) fun _=> ?_|refine ay ab @e ?_|exact ax ab @e|fail
 refine aZ.overI A (fun k (b:List af)=>[(5,iN k),(4,.tsl 0 33 (b.map aj))]) (fun k b=>[.row 27 33 b.length]) (fun r b=>b++r.map (·.id)) (A.map (·.id)) (fun k b=>b.length=k) [] a8 aB aB rfl rfl rfl (fun k b x hg hk a j d g=> ?_) (fun b a d g=> ?_)
 ·have h:bw (b.length+1) 40=true:=room_le a8 a8
  repeat' first|refine ae (fun _=> ?_) fun _=> ?_|refine ay (ga @a (ga @j (ga @hg (ga @h (ga @az @wj))))) ab ?_|exact ax (ga @a (ga @j (ga @hg (ga @h (ga @az @wj))))) ab|fail
  exact⟨b++[x.id],by simp,by simp,by simpa using d,by simp[g]⟩
 ·simp at d
  repeat' first|refine ae (fun _=> ?_) fun _=> ?_|refine ay @a ab ?_|exact ax @a ab|fail
  rw[d]
theorem a0q(s:aD)(d:gE s)(c:s.length≤500)(i:af):aG Tryz.prog 17 [.sl 37 (s.map b5),.agg (aj i)] (dB (eR ar s i)):=by
 have a:=NI s d c;have b:=DS (od ar s) i;unfold eR;refine aM (F:=D2) Ys (by simp[D2]) ?_;simp only[D2]
 repeat' first|refine ae (fun _=> ?_) fun _=> ?_|refine ay (ga @az @wj) (ga @a @b) ?_|exact ax (ga @az @wj) (ga @a @b)|fail
 all_goals first|rfl|(rename_i h;exact h.symm)|trace_state
end Go.Proofs.Q
