/- Lemmas. -/
import Derived.Test.YtellfinifjmloaaGreatDoorPBN
set_option linter.unusedVariables false
set_option linter.unusedSimpArgs false
namespace Go.Proofs.Q
open Go Go.Ab Go.Bb
def sQ:CF:=⟨23, (kq [ox 3 1,kM 4 (.c (.nil 33))] (.seq (kq [om 9 0,o2 10 33 3,o6 11 13 [.t 9,.t 10],om 8 11,oe 12 8 0,oe 13 8 1,kB 5 dZ,o8 172 5 12,om 6 13] (kq [om 14 6,o0 15 (.not (.t 14))] (kd 15 (kq [kM 4 (.c (.nil 33))] .ret) .skip))) (.seq (.ops true [0,1,0,7,15] [om 16 0,o6 17 50 [.t 16],o2 18 33 3,o0 19 (.lkp true cJ (.nil 33) false (.t 17) (.t 18)),om 7 19]) (kq [om 20 7,o0 21 (.call (.fn 51) [.t 20,(.c (.clo 52 [] []))])] (kq [om 22 7,om 4 22] .ret))))),[.tmp 4]⟩
theorem Me:aN Tryz.prog [100003] 19=some sQ.erase:=by kernel_rfl
end Go.Proofs.Q
namespace Go.Proofs.Q
open Go Go.Bb Go.RowKit Go.Proofs.Lg
open Go.Ab (D RD)
theorem KR{x:au}: ∀{l:List af} {b:List af×en},(∀e∈b.2,e.2≠[])→ ∀e∈(j7 x l b).2,e.2≠[]
 |[],b,h=>h
 |d::l,b,h=>by
  rw[j7];refine KR fun e a=> ?_;dsimp only at a;unfold iR at a;split at a
  ·obtain⟨c,f,rfl⟩:=bR.1 a;split
   ·simp
   ·exact h c f
  ·rcases eJ.1 a with a|a
   ·exact h e a
   ·simp at a;subst a;simp
theorem KN: ∀{A:List au} {b:List af×en},(∀e∈b.2,e.2≠[])→ ∀e∈(lf A b).2,e.2≠[]
 |[],b,h=>h
 |x::A,b,h=>by
  rw[lf];refine KN ?_;split
  ·exact h
  ·exact KR h
theorem UB{s:aD}(h:dD ar s)(l:s.length≤12)(g: ∀x∈s,du x.pat)(i:af):(ec (kj s).2 i).length≤1000000:=by
 rw[G0 h];unfold oE;rw[aQ];refine ef (List.length_filter_le _ _) ?_;rw[nI];have e:=(Fk (fQ ar s (dN s)).reverse []).length_le;rw[nI]at e;have j:(fQ ar s (dN s)).length≤960480:=by
  rw[oq];obtain⟨o1,o2⟩:=ry h;have:=uR (fun d=>(cT ar ((ch s d).getD .zero)).1) 80040 (dN s) fun d a=>by
   obtain⟨y,b,rfl⟩:=bR.1 ((o2 d).1 a);rw[mf h.sorted.nodup y b,ek];have c:=(h.id y b).1;have f:=zW (g y b);rw[(uP c).1]at f;unfold cT;rw[if_neg (by simpa using c),aQ];exact f
  have k:(dN s).length≤s.length:=by
   have:=xD o1.nodup fun d a=>(o2 d).1 a;unfold bs at this;rwa[aQ]at this
  have:(dN s).length*80040≤12*80040:=iP _ a8;omega
 unfold eM;simp at e;omega
theorem Sd{s:List aa}{v:Nat}{L:List af}(h:s[v]?=some (.vec 27 33 (c9 L)))(f n:Nat)(a:n=L.length):bA s (f+2) (.vec v n 33)=some (.sl 33 (L.map aj)):=by
 subst a;show(match s[v]? with|some (.vec _ sz2 ds)=>if sz2=33∧0<33∧ds.length=L.length*33 then(dA (bA s (f+1)) ds).map fun es=>D.sl 33 (chunk 33 L.length es)else none|_=>none)=_;rw[h];show(if _ then _ else _)=_;rw[if_pos ⟨rfl,by decide,wJ L⟩,pY,zM,eZ];have:=uI 33 (L.map aj) fun r b=>by obtain⟨x,_,rfl⟩:=bR.1 b;exact az x
 rw[aQ]at this;rw[this]
set_option maxHeartbeats 1000000 in
theorem L8(l:aD)(C:l.length≤12)(t: ∀x∈l,cz x.pat∧du x.pat)(o: ∀x∈l,(cD x.pat).length≤1000000)(u:dD ar l)(i:af):aG Tryz.prog 19 [.sl 37 (l.map b5),.agg (aj i)] (.sl 33 ((vf l i).map aj)):=by
 have c:=FY l a8 t i;have w:=fun s=>FP l a8 t o u.sorted.nodup s;have b:=UB u C (fun x D=>(t x D).2) i;have hne: ∀e∈(kj l).2,e.2≠[]:=KN (fun e B=>by cases B);unfold vf;by_cases h:(me l i).isSome=true
 ·rw[h]at c;rw[if_pos h];obtain⟨at_,d⟩: ∃q,q=(me l i).getD .zero:=⟨_,rfl⟩
  rw[←d]at c;obtain⟨E,g⟩: ∃q,q=(kj l).2:=⟨_,rfl⟩
  rw[←g]at w b hne⊢;clear d g u;refine aM (F:=sQ) Me (by simp[sQ]) ?_;simp only[sQ]
  repeat' first|refine ae (fun _=> ?_) fun _=> ?_|refine aL ?_|refine aq.data (c) rfl ?_|(refine aq.fn ((w _).mono ?_);rintro _ z ⟨rfl,M,m⟩)|simp only[az,bb,bz,aQ,wj,wy,qg,aH,reduceCtorEq,reduceIte,Nat.reduceAdd,Nat.reduceMul,Nat.reduceEqDiff,Nat.reduceLT,Nat.reduceLeDiff,Nat.reduceSub,aA,aF,aE,aw]
  have hm:z[3]?=some (.map true (cI M)):=m.map;have a:=sA i M 0;rcases m.find i with⟨k,y⟩|⟨j,v,r,k,y,h3,h4⟩
  ·rw[k]at a;rw[xt y]
   repeat' first|refine ae (fun _=> ?_) fun _=> ?_|refine aL ?_|(refine aq.fn ((Hv _ _).mono ?_);rintro _ s2 ⟨rfl,rfl⟩)|simp only[hm,a,az,pT,mS,wj,wy,qg,aH,reduceCtorEq,reduceIte,Nat.reduceAdd,Nat.reduceMul,Nat.reduceEqDiff,Nat.reduceLT,Nat.reduceLeDiff,Nat.reduceSub,aA,aF,aE,aw]
   all_goals first|rfl|simp|trace_state
  ·rw[k]at a;rw[FZ m.nd h3]at b⊢;rcases h4 with⟨rfl,rfl⟩|⟨rr,rfl,hr⟩
   ·repeat' first|refine ae (fun _=> ?_) fun _=> ?_|refine aL ?_|(refine aq.fn ((Hv _ _).mono ?_);rintro _ s2 ⟨rfl,rfl⟩)|simp only[hm,a,az,eZ,ek,wj,wy,qg,aH,reduceCtorEq,reduceIte,Nat.reduceAdd,Nat.reduceMul,Nat.reduceEqDiff,Nat.reduceLT,Nat.reduceLeDiff,Nat.reduceSub,aA,aF,aE,aw]
    all_goals first|rfl|simp|trace_state
   ·have p:r≠[]:=hne (i,r) (bX h3);have A:=ON hr p b;have n:=fun f=>Sd (s:=z.set rr (.vec 27 33 (c9 (r.mergeSort eN)))) (v:=rr) (fA hr) f r.length (mP _).symm
    repeat' first|refine ae (fun _=> ?_) fun _=> ?_|refine aL ?_|(refine aq.fn (A.mono ?_);rintro _ s2 ⟨rfl,rfl⟩)|simp only[hm,a,az,eZ,ek,aQ,↓n,wj,wy,qg,aH,reduceCtorEq,reduceIte,Nat.reduceAdd,Nat.reduceMul,Nat.reduceEqDiff,Nat.reduceLT,Nat.reduceLeDiff,Nat.reduceSub,aA,aF,aE,aw]
    all_goals first|rfl|simp|trace_state
 ·have h:(me l i).isSome=false:=by simpa using h
  rw[h]at c;rw[if_neg (by rw[h];simp)];refine aM (F:=sQ) Me (by simp[sQ]) ?_;simp only[sQ]
  repeat' first|refine ae (fun _=> ?_) fun _=> ?_|refine aL ?_|refine aq.data (c) rfl ?_|simp only[az,bb,bz,aQ,wj,wy,qg,aH,reduceCtorEq,reduceIte,Nat.reduceAdd,Nat.reduceMul,Nat.reduceEqDiff,Nat.reduceLT,Nat.reduceLeDiff,Nat.reduceSub,aA,aF,aE,aw]
  all_goals first|rfl|simp|trace_state
end Go.Proofs.Q
namespace Go.Proofs.Q
open Go Go.Ab Go.Bb
def sO:CF:=⟨36, (kq [kM 4 (.c (.nil 37)),kM 5 (.c (.nil 32)),kM 6 xF] (kq [o0 7 (.nlr 25 32)] (.seq (kq [om 13 1,o9 14 0 13,o7 15 0] (.block 0 (.loop (.trim [7,15,0,13,14] (kq [o4 16 .lss 15 14] (.seq (kd 16 .skip (.exit 0)) (.seq (.block 1 (kq [oi 17 5 13 15,o2 18 5 17,kB 9 mH,o8 5 9 18] (kq [om 20 0,o2 21 5 9,o6 22 65 [.t 20,.t 21],om 19 22,oe 23 19 0,oe 24 19 1,oe 25 19 2,kB 11 ej,om 10 23,o8 32 11 24,om 12 25] (.seq (kq [om 26 12,o5 27 .neq 26 0] (kd 27 (kq [kM 4 (.c (.nil 37)),kM 5 (.c (.nil 32)),kM 6 xF] .ret) .skip)) (fo [om 28 10,om 29 7,o2 30 32 11,o0 31 (.bsf 32 1 ej [(0,32,(.t 30))]),o0 32 (.app false 25 32 32 (.t 29) (.t 31)),om 0 28,om 7 32]))))) (fo [o5 33 .add 15 1,om 15 33])))))))) (kq [om 34 0,om 35 7,om 4 34,om 5 35,kM 6 xT] .ret)))),[.tmp 4,.tmp 5,.tmp 6]⟩
theorem Mc:aN Tryz.prog [200007,100031] 32=some sO.erase:=by kernel_rfl
def AK:CF:=⟨14, (kq [ox 3 0,kB 6 mH] (.seq (.ops true [0,0,0,0,15,31,63,127] [o2 7 33 3,o6 8 44 [],om 9 1,om 10 2,o0 11 (.bld oG [(0,1,(xi 2)),(1,33,(.t 7)),(35,33,(.t 8)),(68,1,(.t 9)),(138,1,(.t 10))]),o0 12 (.bsf 139 1 oG [(0,139,(.t 11))]),o0 13 (.bld gy [(0,1,(.c (.d (.sc (.string ⟨#[97,110,110]⟩))))),(4,1,(.t 12))]),o8 5 6 13]) .ret)),[.cell 6 (some 5)]⟩
theorem Ws:aN Tryz.prog [100003,300011,100012,300013] 45=some AK.erase:=by kernel_rfl
def AJ:CF:=⟨133, (kq [kM 0 xF] (kq [o0 10 (.bld oG [(0,1,(xi 1)),(34,1,(xi 1))]),o6 11 44 [],o0 12 (.bld oG [(0,1,(xi 2)),(35,33,(.t 11)),(68,1,(.c (.d (.sc (.string ⟨#[97]⟩)))))]),o0 13 (.bsf 139 2 PI [(0,139,(.t 10)),(139,139,(.t 12))]),o0 14 (.bld gy [(0,1,(.c (.d (.sc (.string ⟨#[97,110,110]⟩))))),(4,1,(.t 13))]),o0 15 (.bsf 5 1 gy [(0,5,(.t 14))]),o6 16 32 [(.c (.nil 37)),.t 15],om 9 16,oe 17 9 0,oe 18 9 1,oe 19 9 2,om 1 17,om 2 18,om 3 19] (.seq (kq [om 20 3,o0 21 (.not (.t 20)),om 22 21,oh 23 22 false 2,og 24 22 false (.len 0 (.t 23)),kG 25 22 false .neq (.t 24) (xi 1),kR 26 22 25] (kd 26 (kq [kM 0 xF] .ret) .skip)) (.seq (.ops true [0,1,3,7,0,16,48,112,0,0,783,2047] [om 27 2,o0 28 (.iad 32 (.t 27) (xi 0)),o2 29 32 28,o0 30 (.bld cQ [(0,32,(.t 29))]),om 31 2,o0 32 (.iad 32 (.t 31) (xi 0)),o2 33 32 32,o0 34 (.bld cQ [(0,32,(.t 33)),(32,1,(xi 1))]),kB 4 cQ,kB 5 cQ,o8 33 4 30,o8 33 5 34]) (kq [om 36 1,o2 37 33 4,o2 38 33 5,o0 39 (.bsf 33 1 cQ [(0,33,(.t 38))]),o0 40 (.call (.fn 45) [.t 37,(.c (.d (.sc (.string ⟨#[98]⟩)))),.t 39]),o0 41 (.bsf 5 1 gy [(0,5,(.t 40))]),o6 42 32 [.t 36,.t 41],om 35 42,oe 43 35 0,oe 44 35 1,oe 45 35 2,om 1 43,om 6 44,om 3 45] (.seq (kq [om 46 3,o0 47 (.not (.t 46)),om 48 47,oh 49 48 false 6,og 50 48 false (.len 0 (.t 49)),kG 51 48 false .neq (.t 50) (xi 1),kR 52 48 51] (kd 52 (kq [kM 0 xF] .ret) .skip))
 (kq [om 53 6,o0 54 (.iad 32 (.t 53) (xi 0)),o2 55 32 54,o0 56 (.bld cQ [(0,32,(.t 55))]),kB 7 cQ,o8 33 7 56] (kq [om 58 1,o2 59 33 4,o2 60 33 7,o0 61 (.bsf 33 1 cQ [(0,33,(.t 60))]),o0 62 (.call (.fn 45) [.t 59,(.c (.d (.sc (.string ⟨#[99]⟩)))),.t 61]),o0 63 (.bsf 5 1 gy [(0,5,(.t 62))]),o6 64 32 [.t 58,.t 63],om 57 64,oe 65 57 0,oe 66 57 1,oe 67 57 2,om 1 65,om 8 66,om 3 67] (.seq (kq [om 68 3,o0 69 (.not (.t 68)),om 70 69,oh 71 70 false 8,og 72 70 false (.len 0 (.t 71)),kG 73 70 false .neq (.t 72) (xi 1),kR 74 70 73,om 75 74,oh 76 75 false 1,oh 77 75 false 8,og 78 75 false (.iad 32 (.t 77) (xi 0)),og 79 75 false (.ld (some 32) (.t 78)),og 80 75 false (.bld cQ [(0,32,(.t 79))]),og 81 75 false (.call (.fn 16) [.t 76,.t 80]),og 82 75 false (.not (.t 81)),kR 83 75 82,om 84 83,oh 85 84 false 1,og 86 84 false (.ld (some 33) (.t 7)),og 87 84 false (.call (.fn 16) [.t 85,.t 86]),kR 88 84 87,om 89 88,oh 90 89 false 1,og 91 89 false (.ld (some 33) (.t 5)),og 92 89 false (.call (.fn 16) [.t 90,.t 91]),kR 93 89 92] (kd 93 (kq [kM 0 xF] .ret) .skip))
 (kq [om 95 1,o2 96 33 7,o0 97 (.bsf 33 1 cQ [(0,33,(.t 96))]),o0 98 (.bld oG [(0,1,(xi 7)),(138,1,(.t 97))]),o0 99 (.bsf 139 1 oG [(0,139,(.t 98))]),o0 100 (.bld gy [(0,1,(.c (.d (.sc (.string ⟨#[97,110,110]⟩))))),(4,1,(.t 99))]),o0 101 (.bsf 5 1 gy [(0,5,(.t 100))]),o6 102 32 [.t 95,.t 101],om 94 102,oe 103 94 0,oe 104 94 1,oe 105 94 2,om 1 103,om 3 105] (kq [om 106 3,om 107 106,oh 108 107 true 1,og 109 107 true (.ld (some 33) (.t 5)),og 110 107 true (.call (.fn 16) [.t 108,.t 109]),kP 111 107 110,om 112 111,oh 113 112 true 1,og 114 112 true (.ld (some 33) (.t 7)),og 115 112 true (.call (.fn 16) [.t 113,.t 114]),og 116 112 true (.not (.t 115)),kP 117 112 116,om 118 117,oh 119 118 true 1,oh 120 118 true 8,og 121 118 true (.iad 32 (.t 120) (xi 0)),og 122 118 true (.ld (some 32) (.t 121)),og 123 118 true (.bld cQ [(0,32,(.t 122))]),og 124 118 true (.call (.fn 16) [.t 119,.t 123]),kP 125 118 124,om 126 125,oh 127 126 true 1,og 128 126 true (.ld (some 33) (.t 7)),og 129 126 true (.call (.fn 19) [.t 127,.t 128]),og 130 126 true (.len 0 (.t 129)),kG 131 126 true .eql (.t 130) (xi 2),kP 132 126 131,om 0 132] .ret))))))))))),[.tmp 0]⟩
theorem Wr:aN Tryz.prog [300010,300012,100013,300014,100015,300030,300034,100039,100041,300056,100061,100063,300080,100097,300098,100099,300100,100101,300123] 12=some AJ.erase:=by kernel_rfl
end Go.Proofs.Q
namespace Go.Proofs.Q
open Go Go.Bb Go.RowKit Go.Proofs.Lg
open Go.Ab (D RD)
theorem xm(b:Bool):AV.key false (.d (.sc (.bool b)))=some [.bool b]:=rfl
theorem wU:bx [.b] [.bool true] [.bool true]=some true:=rfl
theorem wS:bx [.b] [.bool false] [.bool false]=some true:=rfl
theorem wV:bx [.b] [.bool true] [.bool false]=some false:=rfl
theorem wT:bx [.b] [.bool false] [.bool true]=some false:=rfl
theorem nr(r:List D):[r][Int.toNat 0]?=some r:=rfl
theorem dn(p:aX):b8 gy 0 5 ((bc p).map .d)=some ((bc p).map .d):=gN (by simp[gy,br]) (by simp[br])
theorem dj(p:aX):nk 5 1 ((bc p).map .d)=some (.d (.sl 5 [bc p])):=by
 unfold nk;rw[if_pos ⟨by simp[br],by decide⟩,HE,eZ];have:=uI 5 [bc p] fun r a=>by rw[iB.1 a];exact br p
 simp only[qC,fL,List.flatten_nil,bg]at this;rw[this]
def pB(r:aD×Dg×Int):D:=if r.2.2=0 then .tup [.sl 37 (r.1.map b5),.sl 32 [aP r.2.1],dB true]else .tup [.sl 37 [],.sl 32 [],dB false]
set_option maxHeartbeats 1000000 in
theorem TD(s:aD)(p:aX)(r:aD×Dg×Int)(h:aG Tryz.prog 65 [.sl 37 (s.map b5),.agg (bc p)] (DV r)):aG Tryz.prog 32 [.sl 37 (s.map b5),.sl 5 [bc p]] (pB r):=by
 obtain⟨t,d,e⟩:=r;unfold DV at h;unfold pB;dsimp only at h⊢;by_cases n:e=0
 ·subst n;rw[if_pos rfl];refine aM (F:=sO) Mc (by simp[sO]) ?_;simp only[sO]
  repeat' first|simp only[aY,b6]|refine ae (fun _=> ?_) fun _=> ?_|refine ay @wj ab ?_|exact ax @wj ab|fail
  refine aZ.overI [p] (fun k (b:aD×List Dg×List aa)=>[(15,iN k),(0,.d (.sl 37 (b.1.map b5))),(7,.tsl 0 32 (b.2.1.map aP))]) (fun k b=> .row 25 32 b.2.1.length::b.2.2) (fun _ _=>()) () (fun k b=>(k=0∧b.1=s∧b.2.1=[])∨(k=1∧b.1=t∧b.2.1=[d])) (s,[],[]) (by simp) aB aB rfl rfl (.inl ⟨rfl,rfl,rfl⟩) (fun k b x hg hk f l o g=> ?_) (fun b f o g=> ?_)
  ·obtain⟨w,y,J⟩:=b;rcases g with⟨rfl,i,j⟩|⟨rfl,_⟩
   ·dsimp only at i j;subst i;subst j;have q:x=p:=by simp at hg;exact hg.symm
    subst q;have v:bw 1 32=true:=by decide
    have a:decide ((0:Int)<1)=true:=rfl;have m:IntKind.i64.wrap ((0:Int)+1)=1:=rfl;have c:[bc x][Int.toNat 0]?=some (bc x):=rfl
    repeat' first|simp only[aY,b6,e8]|refine ae (fun _=> ?_) fun _=> ?_|refine ay (ga @a (ga @m (ga @c (ga @f (ga @l (ga @v (ga @fJ (ga @br (ga @ba (ga @kK @wj)))))))))) @h ?_|exact ax (ga @a (ga @m (ga @c (ga @f (ga @l (ga @v (ga @fJ (ga @br (ga @ba (ga @kK @wj)))))))))) @h|fail
    exact⟨(t,[d],_),⟨rfl,rfl,rfl⟩,rfl,.inr ⟨rfl,rfl⟩⟩
   ·simp at hk
  ·obtain⟨w,y,J⟩:=b;rcases g with⟨z,_⟩|⟨_,i,j⟩
   ·simp at z
   ·dsimp only at i j;subst i;subst j;have a:decide ((1:Int)<1)=false:=rfl
    repeat' first|refine ae (fun _=> ?_) fun _=> ?_|refine ay (ga @a (ga @f @wj)) ab ?_|exact ax (ga @a (ga @f @wj)) ab|fail
    all_goals first|rfl|trace_state
 ·have u:(e !=0)=true:=by simpa using n
  rw[if_neg n];refine aM (F:=sO) Mc (by simp[sO]) ?_;simp only[sO]
  repeat' first|simp only[aY,b6]|refine ae (fun _=> ?_) fun _=> ?_|refine ay @wj ab ?_|exact ax @wj ab|fail
  refine aZ.overI [p] (fun k (b:Unit)=>[(15,iN k)]) (fun k b=>[.row 25 32 0]) (fun _ _=>()) () (fun k b=>k=0) () (by simp) aB aB rfl rfl rfl (fun k b x hg hk f l o g=> ?_) (fun b f o g=> ?_)
  ·subst g;have q:x=p:=by simp at hg;exact hg.symm
   subst q;have a:decide ((0:Int)<1)=true:=rfl;have c:[bc x][Int.toNat 0]?=some (bc x):=rfl
   repeat' first|simp only[aY,b6,e8]|refine ae (fun _=> ?_) fun _=> ?_|refine ay (ga @a (ga @c (ga @f (ga @l (ga @u (ga @fJ (ga @br (ga @ba (ga @kK @wj))))))))) @h ?_|exact ax (ga @a (ga @c (ga @f (ga @l (ga @u (ga @fJ (ga @br (ga @ba (ga @kK @wj))))))))) @h|fail
   all_goals first|rfl|trace_state
  ·simp at g
def LO(f:af)(n:bh)(over:List af):aX:={aX.zero with author:=⟨#[97,110,110]⟩,changes:=[{aC.zero with kind:=2,file:=f,parent:=⟨.zero,-1⟩,name:=n,over:=over}]}
theorem KV(f:af)(n:bh)(over:List af):aG Tryz.prog 45 [.agg (aj f),dS n,.sl 33 (over.map aj)] (.agg (bc (LO f n over))):=by
 have a:b8 gy 0 1 [.d (.sc (.string ⟨#[97,110,110]⟩))]=some ((bc {aX.zero with author:=⟨#[97,110,110]⟩}).map .d):=rfl;have b:b8 ((bc {aX.zero with author:=⟨#[97,110,110]⟩}).map .d) 4 1 [.d (.sl 139 [aV {aC.zero with kind:=2,file:=f,parent:=⟨.zero,-1⟩,name:=n,over:=over}])]=some ((bc (LO f n over)).map .d):=rfl
 refine aM (F:=AK) Ws (by simp[AK]) ?_;simp only[AK]
 repeat' first|refine ae (fun _=> ?_) fun _=> ?_|refine ay (ga @a (ga @b (ga @az (ga @de (ga @fJ (ga @br @wj)))))) @qL ?_|exact ax (ga @a (ga @b (ga @az (ga @de (ga @fJ (ga @br @wj)))))) @qL|fail
 all_goals first|rfl|trace_state
structure fc(s:aD):Prop where
 v:dD ar s
 len:s.length≤12
 pat: ∀x∈s,cz x.pat∧du x.pat
theorem xA(p:aX):(cD p).length≤1000000:=ef (Vc p) (by decide)
theorem fc.alive{s:aD}(h:fc s)(i:af):aG Tryz.prog 16 [.sl 37 (s.map b5),.agg (aj i)] (dB (eE s i)):=U4 s (ef h.len (by decide)) h.pat (fun x _=>xA _) h.v.sorted.nodup i
theorem fc.fine{s:aD}(h:iY s)(a:ia ar s=true):fc s∧s.length≤8:=by
 obtain⟨_,_,b⟩:=Fy h a;unfold ia at a;simp only[er,rZ,decide_eq_true_eq]at a;have c:=(FG a.1).1;exact⟨⟨F8 ar a.2,by omega,fun x d=>(b x d).1⟩,c⟩
theorem fc.grown{s:aD}(h:fc s){p:aX}(hp:cz p∧du p):aG Tryz.prog 32 [.sl 37 (s.map b5),.sl 5 [bc p]] (pB (k9 s p)):=TD s p _ (Zr s (ef h.len (by decide)) h.v.sorted h.pat p hp.1 hp.2 (xA p))
theorem fc.add{s:aD}(h:fc s){p:aX}(hp:cz p∧du p)(e:s.length≤11)(c:(bP ar s p).2.2=0):fc (bP ar s p).1∧gh s p (bP ar s p).1 (bP ar s p).2.1∧(bP ar s p).1.length=s.length+1:=by
 have g:=xf h.v c;have d:=(Ij ar c).2.2.2.2.2;have a:(bP ar s p).1.length=s.length+1:=by rw[d];exact ZK s _
 refine⟨⟨g.w,by omega,fun y b=> ?_⟩,g,a⟩;rcases(g.mem y).1 b with rfl|b
 ·exact hp
 ·exact h.pat y b
theorem uQ{s:aD}(h:iY s):aG Tryz.prog 11 [.sl 37 (s.map b5)] (dB (ia ar s)):=a0l s (fun x a=>ef (h.pat x a).changes pt) (I8 h)
theorem UU:fc []:=⟨Lx,by decide,by simp⟩
theorem UW:fc rj:=⟨Lq.w,by simp[rj],Dv (by simp[rj,ic])⟩
theorem UX:fc rk:=⟨Lr.w,by simp[rk],Dv (by simp[rk,ic])⟩
theorem Du:fc lj:=⟨xu.w,by simp[lj],Dv (by simp[lj,ic])⟩
theorem vk:fc ic:=⟨xw.w,by simp[ic],Dv fun x h=>h⟩
theorem A8{s t:aD}{p:aX}{d:Dg}(G:fc s)(hp:cz p∧du p)(h:bP ar s p=(t,d,0)):aG Tryz.prog 32 [.sl 37 (s.map b5),.sl 5 [bc p]] (.tup [.sl 37 (t.map b5),.sl 32 [aP d],dB true]):=by
 have c:=G.grown hp;rw[QJ h]at c;exact c
abbrev xx:aC:=⟨1,aC.zero.file,1,aC.zero.parent,aC.zero.name,aC.zero.mode,aC.zero.data,aC.zero.after,aC.zero.before,aC.zero.lines,aC.zero.over⟩
abbrev Ly:aC:=⟨2,aC.zero.file,aC.zero.type,⟨Dg.zero,-1⟩,⟨#[97]⟩,aC.zero.mode,aC.zero.data,aC.zero.after,aC.zero.before,aC.zero.lines,aC.zero.over⟩
abbrev Lz:aC:=⟨7,aC.zero.file,aC.zero.type,aC.zero.parent,aC.zero.name,aC.zero.mode,aC.zero.data,aC.zero.after,aC.zero.before,aC.zero.lines,[⟨gr,0⟩]⟩
abbrev V0:aC:=⟨7,aC.zero.file,aC.zero.type,aC.zero.parent,aC.zero.name,aC.zero.mode,aC.zero.data,aC.zero.after,aC.zero.before,aC.zero.lines,aC.zero.over⟩
set_option maxHeartbeats 4000000 in
set_option maxRecDepth 20000 in
theorem uD:aG Tryz.prog 12 [] (dB true):=by
 have l:=A8 UU (rQ Lt).1 Lm;have m:=A8 UW (rQ Lu).1 Ln;have o:=A8 UX (rQ Lv).1 Lo;have p:=A8 Du (rQ Lw).1 Lp;have e:=Du.alive ⟨nh,0⟩;rw[UH]at e;have f:=Du.alive ⟨gr,0⟩;rw[UI]at f;have g:=Du.alive ⟨gL,1⟩;rw[UJ]at g;have h:=vk.alive ⟨gL,1⟩
 rw[UK]at h;have i:=vk.alive ⟨gr,0⟩;rw[UL]at i;have j:=vk.alive ⟨nh,0⟩;rw[UM]at j;have G:=L8 ic vk.len vk.pat (fun x _=>xA _) vk.v ⟨gr,0⟩;have L:=UY;have H:aG Tryz.prog 45 [.agg (aj ⟨gL,0⟩),dS ⟨#[98]⟩,.sl 33 [aj ⟨gL,1⟩]] (.agg (bc ri)):=KV ⟨gL,0⟩ ⟨#[98]⟩ [⟨gL,1⟩]
 have I:aG Tryz.prog 45 [.agg (aj ⟨gL,0⟩),dS ⟨#[99]⟩,.sl 33 [aj ⟨gr,0⟩]] (.agg (bc tB)):=KV ⟨gL,0⟩ ⟨#[99]⟩ [⟨gr,0⟩];rw[e8]at l;obtain⟨O,q⟩: ∃A,A=rj.map b5:=⟨_,rfl⟩
 obtain⟨P,r⟩: ∃A,A=rk.map b5:=⟨_,rfl⟩
 obtain⟨Q,s⟩: ∃A,A=lj.map b5:=⟨_,rfl⟩
 obtain⟨R,t⟩: ∃A,A=ic.map b5:=⟨_,rfl⟩
 rw[←q]at l m;rw[←r]at m o;rw[←s]at o p e f g;rw[←t]at p h i j G;obtain⟨W,B⟩: ∃A,A=vf ic ⟨gr,0⟩:=⟨_,rfl⟩
 rw[←B]at G L;have N:b8 PI 0 139 ((aV xx).map .d)=some (mX [xx,.zero]):=Nd [] [.zero] .zero xx 0 rfl;have J:b8 (mX [xx,.zero]) 139 139 ((aV Ly).map .d)=some (mX lh.changes):=Nd [xx] [] .zero Ly 139 rfl;have D:nk 139 2 (mX lh.changes)=some (.d (.sl 139 (lh.changes.map aV))):=Rl lh.changes (by decide)
 have C:b8 gy 0 1 [.d (.sc (.string ⟨#[97,110,110]⟩))]=some ((bc {aX.zero with author:=vh}).map .d):=rfl;have r2:b8 ((bc {aX.zero with author:=vh}).map .d) 4 1 [.d (.sl 139 (lh.changes.map aV))]=some ((bc lh).map .d):=rfl;have M:b8 ((aV V0).map .d) 138 1 [.d (.sl 33 [aj ⟨gr,0⟩])]=some ((aV Lz).map .d):=rfl
 have K:b8 ((bc {aX.zero with author:=vh}).map .d) 4 1 [.d (.sl 139 [aV Lz])]=some ((bc vj).map .d):=rfl;obtain⟨S,u⟩: ∃E,E=lh:=⟨_,rfl⟩
 obtain⟨T,w⟩: ∃E,E=ri:=⟨_,rfl⟩
 obtain⟨U,y⟩: ∃E,E=tB:=⟨_,rfl⟩
 obtain⟨V,z⟩: ∃E,E=vj:=⟨_,rfl⟩
 rw[←u]at l J D r2;rw[←w]at m H;rw[←y]at o I;rw[←z]at p K;clear q r s t B u w y z;refine qx (F:=AJ) Wr (by simp[AJ]) ?_;simp only[AJ];refine AC.seq (bD ?_)
 repeat' first|refine ae (fun _=> ?_) fun _=> ?_|refine ay @wj ab ?_|exact ax @wj ab|fail
 refine AC.seq (bD ?_)
 repeat' first|refine ae (fun _=> ?_) fun _=> ?_|refine ay (ga @dn (ga @dj (ga @N (ga @J (ga @D (ga @C (ga @r2 (ga @az (ga @de (ga @br @wj)))))))))) (ga @qL @l) ?_|exact ax (ga @dn (ga @dj (ga @N (ga @J (ga @D (ga @C (ga @r2 (ga @az (ga @de (ga @br @wj)))))))))) (ga @qL @l)|fail
 clear N J D r2 l;refine AC.seq (bD ?_)
 repeat' first|simp only[aY,b6]|refine ae (fun _=> ?_) fun _=> ?_|refine ay @wj ab ?_|exact ax @wj ab|fail
 refine AC.seq (bD ?_);have c:(⟨gL,af.zero.n⟩:af)=⟨gL,0⟩:=rfl;have b: ∀d:Dg,[aP d][Int.toNat 0]?=some (aP d):=fun _=>rfl
 repeat' first|refine ae (fun _=> ?_) fun _=> ?_|refine ay (ga @b (ga @c (ga @da (ga @ba (ga @az @wj))))) ab ?_|exact ax (ga @b (ga @c (ga @da (ga @ba (ga @az @wj))))) ab|fail
 refine AC.seq (bD ?_)
 repeat' first|refine ae (fun _=> ?_) fun _=> ?_|refine ay (ga @dn (ga @dj (ga @c (ga @az (ga @br @wj))))) (ga @H @m) ?_|exact ax (ga @dn (ga @dj (ga @c (ga @az (ga @br @wj))))) (ga @H @m)|fail
 clear H m;refine AC.seq (bD ?_)
 repeat' first|simp only[aY,b6]|refine ae (fun _=> ?_) fun _=> ?_|refine ay @wj ab ?_|exact ax @wj ab|fail
 have a:(⟨gr,af.zero.n⟩:af)=⟨gr,0⟩:=rfl;refine AC.seq (bD ?_)
 repeat' first|refine ae (fun _=> ?_) fun _=> ?_|refine ay (ga @b (ga @a (ga @da (ga @ba (ga @az @wj))))) ab ?_|exact ax (ga @b (ga @a (ga @da (ga @ba (ga @az @wj))))) ab|fail
 refine AC.seq (bD ?_)
 repeat' first|refine ae (fun _=> ?_) fun _=> ?_|refine ay (ga @dn (ga @dj (ga @c (ga @a (ga @az (ga @br @wj)))))) (ga @I @o) ?_|exact ax (ga @dn (ga @dj (ga @c (ga @a (ga @az (ga @br @wj)))))) (ga @I @o)|fail
 clear I o;have k:(⟨nh,af.zero.n⟩:af)=⟨nh,0⟩:=rfl;refine AC.seq (bD ?_)
 repeat' first|simp only[aY,b6]|refine ae (fun _=> ?_) fun _=> ?_|refine ay (ga @b (ga @c (ga @a (ga @k (ga @da (ga @ba (ga @az @wj))))))) (ga @e (ga @f @g)) ?_|exact ax (ga @b (ga @c (ga @a (ga @k (ga @da (ga @ba (ga @az @wj))))))) (ga @e (ga @f @g))|fail
 clear e f g;refine AC.seq (bD ?_)
 repeat' first|refine ae (fun _=> ?_) fun _=> ?_|refine ay (ga @dn (ga @dj (ga @c (ga @a (ga @M (ga @C (ga @K (ga @az (ga @de (ga @br @wj)))))))))) @p ?_|exact ax (ga @dn (ga @dj (ga @c (ga @a (ga @M (ga @C (ga @K (ga @az (ga @de (ga @br @wj)))))))))) @p|fail
 clear p C K M;refine bD ?_
 repeat' first|refine ae (fun _=> ?_) fun _=> ?_|refine ay (ga @b (ga @c (ga @a (ga @k (ga @L (ga @da (ga @ba (ga @az @wj)))))))) (ga @h (ga @i (ga @j @G))) ?_|exact ax (ga @b (ga @c (ga @a (ga @k (ga @L (ga @da (ga @ba (ga @az @wj)))))))) (ga @h (ga @i (ga @j @G)))|fail
 all_goals first|rfl|trace_state
end Go.Proofs.Q
