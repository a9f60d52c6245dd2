/- Lemmas. -/
import Derived.Test.YtellfinifjmloaaGreatDoorPAN
set_option linter.unusedVariables false
set_option linter.unusedSimpArgs false
namespace Go.Proofs.Q
open Go Go.Bb Go.RowKit Go.Proofs.Lg
open Go.Ab (D RD)
theorem OZ(m:bh): ∀(l:List Nat) (h:List Int),h.length=8→(l.foldl (fun h k=>iu h (m.extract (64*k) (64*k+64))) h).length=8
 |[],h,hh=>hh
 |k::l,h,hh=>by rw[gD];exact OZ m l _ (by rw[iu,wA];exact hh)
theorem extract_size(b:ByteArray)(i j:Nat)(a:j≤b.size):(b.extract i j).size=j-i:=by
 rw[ByteArray.size_extract];omega
theorem OY(s:bh):(nv s).length=8:=by unfold nv;generalize jO s=m;exact OZ m _ iS (by decide)
theorem OX(s m:bh)(h:m=jO s):nv s=(List.range (m.size/64)).foldl (fun h k=>iu h (m.extract (64*k) (64*k+64))) iS:=by subst h;unfold nv;rfl
theorem NR(s:bh):aP (ar s)=bt .u8 (n9 (nv s)):=by rw[a1C,a3h]
set_option maxRecDepth 20000 in
set_option maxHeartbeats 1000000 in
theorem ZQ(s:bh)(K:s.size≤1000000000):aG Tryz.prog 116 [dS s] (.agg (aP (ar s))):=by
 have B:=ZS s K;have hp:=MZ s;obtain⟨m,hm⟩: ∃m,m=jO s:=⟨_,rfl⟩
 have D:((((((((List.replicate 8 (0:Int)).set 0 1779033703).set 1 3144134277).set 2 1013904242).set 3 2773480762).set 4 1359893119).set 5 2600822924).set 6 528734635).set 7 1541459225=iS:=by rfl
 have a: ∀vs:List AV,vs.length=8→b8 ((bt .u32 (List.replicate 8 0)).map .d) 0 8 vs=some vs:=fun vs h=>lq (k:= .u32) (by rfl) h;have u:iS.length=8:=rfl;refine aM (F:=C0) XG (by simp[C0]) ?_;simp only[C0]
 repeat' first|refine ae (fun _=> ?_) fun _=> ?_|refine aL ?_|refine aq.data (B) rfl ?_|simp only[z8,nj,a,aQ,ed,jh,fN,Nat.zero_lt_succ,D,u,←hm,Int.reduceLE,Int.reduceLT,Int.reduceGE,Int.reduceGT,Int.reduceEq,Int.reduceNe,Int.reduceBEq,Int.reduceBNe,decide_true,decide_false,wy,qg,aH,reduceCtorEq,reduceIte,Nat.reduceAdd,Nat.reduceMul,Nat.reduceEqDiff,Nat.reduceLT,Nat.reduceLeDiff,Nat.reduceSub,aA,aF,aE,aw]
 clear B D a;rw[←hm]at hp;obtain⟨H,C⟩: ∃H,H=nv s:=⟨_,rfl⟩
 have g:=OX s m hm;have t:=OY s;have e:=NR s;rw[←C]at g t e;rw[e];clear C e hm
 refine aZ.overI (List.range (m.size/64)) (fun k (h:List Int)=>[(5,iN (64*k))]) (fun k h=>[.cells ((aP .zero).map .d),.cells ((bt .u32 h).map .d)]) (fun r h=>r.foldl (fun h k=>iu h (m.extract (64*k) (64*k+64))) h) H (fun k h=>h.length=8) iS (by simp;omega) aB aB rfl g rfl (fun k h x hg hk j y f c=> ?_) (fun h j f c=> ?_)
 ·rw[ew]at hk;obtain rfl:k=x:=by rw[qA a8]at hg;simpa using hg
  have p:IntKind.i64.wrap (((64*k:Nat):Int)+64)=((64*k+64:Nat):Int):=bE a8 a8;have q:decide (((64*k+64:Nat):Int)≤(m.size:Int))=true:=by simp;omega
  have z:(((64*k:Nat):Int)≤((64*k+64:Nat):Int))=True:=by simp;omega
  have A:(((64*k+64:Nat):Int)≤(m.size:Int))=True:=by simp;omega
  have cs:=ZU h (m.extract (64*k) (64*k+64)) c (by rw[extract_size _ _ _ a8];omega);have a: ∀vs:List AV,vs.length=8→b8 ((bt .u32 h).map .d) 0 8 vs=some vs:=fun vs h=>lq (k:= .u32) c h;have n:(iu h (m.extract (64*k) (64*k+64))).length=8:=by rw[iu,wA];exact c
  have E:(bt .u32 h).take 8=bt .u32 h:=dq (by rw[ed,c];decide);rw[gD]at f;clear j hg y g;refine aO (ga @p (ga @q (ga @z (ga @A (ga @a (ga @n (ga @E (ga @c @ed)))))))) @cs ?_;exact⟨_,by rw[Nat.mul_add],rfl,f,n⟩
 ·rw[ew];have v:H=h:=f;subst v;have p:IntKind.i64.wrap (((64*(m.size/64):Nat):Int)+64)=((64*(m.size/64)+64:Nat):Int):=bE a8 a8;have q:decide (((64*(m.size/64)+64:Nat):Int)≤(m.size:Int))=false:=by simp;omega
  clear g f;refine aO (ga @p (ga @q (ga @eo @ba))) ab ?_
  refine aZ.overI (List.range 32) (fun k (b:List Int)=>[(7,iN k)]) (fun k b=>[.cells ((aP .zero).map .d),.cells ((bt .u32 H).map .d),.cells ((bt .u8 b).map .d)]) (fun r b=>r.foldl (fun b i=>b.set i (p8 H i)) b) (n9 H) (fun k b=>b.length=32) (List.replicate 32 0) (by decide) aB aB rfl rfl (by simp) (fun k b x hg hk j y f c=> ?_) (fun b j f c=> ?_)
  ·rw[ew]at hk;obtain rfl:k=x:=by rw[qA a8]at hg;simpa using hg
   have J:((4:Int)≠0)=True:=by simp
   have L:((k:Int)<32)=True:=by simp;omega
   have p:IntKind.i64.wrap (Int.tdiv (k:Int) 4)=((k/4:Nat):Int):=bE (by rw[Int.tdiv_eq_ediv_of_nonneg a8];omega) a8;have q:Int.tmod (k:Int) 4=((k % 4:Nat):Int):=by rw[wb a8];omega
   have z:IntKind.i64.wrap (8*((k % 4:Nat):Int))=((8*(k % 4):Nat):Int):=bE a8 a8;have A:IntKind.i64.wrap (24-((8*(k % 4):Nat):Int))=((24-8*(k % 4):Nat):Int):=bE a8 a8;have M:IntKind.u64.wrap ((24-8*(k % 4):Nat):Int)=((24-8*(k % 4):Nat):Int):=Ez rfl a8;have N:(((k/4:Nat):Int)<8)=True:=by simp;omega
   have I:=fX (w:=H) (i:=k/4) a8;have o:=fun x=>nj (k:= .u8) (l:=b) (i:=k) a8 x;rw[gD]at f;clear j hg;refine aO (ga @J (ga @L (ga @p (ga @q (ga @z (ga @A (ga @M (ga @N (ga @I (ga @o (ga @y @oy))))))))))) ab ?_;exact⟨_,rfl,f,by simp[c]⟩
  ·have v:n9 H=b:=f;have G:(bt .u8 b).take 32=bt .u8 b:=dq (by rw[ed,c];decide);have a: ∀vs:List AV,vs.length=32→b8 ((aP .zero).map .d) 0 32 vs=some vs:=fun vs h=>gN (by rw[aQ,ba]) h;refine aO (ga @G (ga @a (ga @ed @c))) ab ?_;rw[v]
end Go.Proofs.Q
namespace Go.Proofs.Q
open Go Go.Bb Go.Proofs.Lg
open Go.Ab (D)
theorem ng: ∀(l:List Dg) (d:Dg),cW l d=true↔d∈l
 |[],d=>by simp[cW]
 |y::l,d=>by
  rw[cW];by_cases h:y=d
  ·subst h;simp
  ·rw[if_neg h,ng l d,bM];exact⟨.inr,fun a=>a.elim (fun e=>absurd e.symm h) id⟩
theorem wC(l:List Dg): ∀m:List Dg,gZ l m=true↔ ∀d∈m,d∈l
 |[]=>by simp[gZ]
 |d::m=>by
  rw[gZ];by_cases h:cW l d=true
  ·rw[if_pos h,wC l m];have:=(ng l d).1 h;simp[this]
  ·rw[if_neg h];have:d∉l:=fun e=>h ((ng l d).2 e);simp[this]
theorem ML{a b:Int}(h:bQ a b=0):a=0∧b=0:=by
 unfold bQ at h;split at h
 ·rename_i c;exact absurd h c
 ·rename_i c;exact⟨by simpa using c,h⟩
section
variable (H:bh→Dg)
structure dD(s:aD):Prop where
 id: ∀x∈s,(bq H x.pat).2=0∧(bq H x.pat).1=x.id
 sorted:dQ (bs s)
 needs: ∀x∈s,∀d∈cD x.pat,d∈bs s
 order:s.length≤(dN s).length
theorem Jd: ∀(s:aD) (q:Option Dg),qR H q s=0→(∀x∈s,(bq H x.pat).2=0∧(bq H x.pat).1=x.id)∧dQ (q.toList++bs s)
 |[],q,_=>⟨by simp,by cases q<;>simp[bs,dQ]⟩
 |x::s,q,h=>by
  rw[qR]at h;split at h
  ·rename_i b;exact absurd h b
  rename_i b;split at h
  ·cases h
  rename_i e;split at h
  ·cases h
  rename_i f;obtain⟨g,i⟩:=Jd s (some x.id) h;refine⟨fun y a=> ?_,?_⟩
  ·rcases bM.1 a with rfl|a
   ·exact⟨by simpa using b,by simpa using e⟩
   ·exact g y a
  ·have c:dQ (bs (x::s)):=i;cases q with
   |none=>exact c
   |some q=>
    have d:bS q x.id<0:=by
     simp at f;omega
    refine gY.2 ⟨fun y a=> ?_,c⟩;rcases bM.1 a with rfl|a
    ·exact d
    ·exact n0 d ((gY.1 c).1 y a)
theorem Jy{b:List Dg}: ∀{s:aD},qW b s=0→ ∀x∈s,∀d∈cD x.pat,d∈b
 |[],_,x,a=>by cases a
 |y::s,h,x,a=>by
  rw[qW]at h;split at h
  ·rename_i c;rcases bM.1 a with rfl|a
   ·exact(wC _ _).1 c
   ·exact Jy h x a
  ·cases h
theorem F8{s:aD}(h:oZ H s=0):dD H s:=by
 unfold oZ at h;split at h
 ·cases h
 obtain⟨b,c⟩:=ML h;obtain⟨d,a⟩:=ML c;split at a
 ·cases a
 rename_i g;obtain⟨e,f⟩:=Jd H s none b;exact⟨e,f,Jy d,by omega⟩
end
def k8(s:aD)(o:List Dg):Prop:= ∀(i:Nat) (d:Dg),o[i]?=some d→ ∃x∈s,x.id=d∧d∉o.take i∧ ∀e∈cD x.pat,e∈o.take i
def Dp(d:Dg):Option (Nat×Dg)→Bool
 |none=>true
 |some q=>decide (bS d q.2<0)
theorem DA(out:List Dg)(x:bT)(s:aD)(i:Nat)(k:Option (Nat×Dg)):jK out (x::s) i k=jK out s (i+1) (if(!cW out x.id&&(gZ out (cD x.pat)&&Dp x.id k))=true then some (i,x.id)else k):=by
 cases k<;>rfl
theorem LU{out:List Dg}: ∀{s:aD} {i:Nat} {k:Option (Nat×Dg)} {q:Nat×Dg},jK out s i k=some q→k=some q∨ ∃x∈s,x.id=q.2∧q.2∉out∧ ∀e∈cD x.pat,e∈out
 |[],i,k,q,h=>by cases k<;>exact .inl h
 |x::s,i,k,q,h=>by
  rw[DA]at h;rcases LU h with h1|⟨y,h1,h2⟩
  ·split at h1
   ·rename_i a;simp only[er,rZ]at a;obtain rfl:=aJ h1;refine .inr ⟨x,by simp,rfl,fun hm=> ?_,(wC _ _).1 a.2.1⟩;have:=(ng out x.id).2 hm;rw[a.1]at this;cases this
   ·exact .inl h1
  ·exact .inr ⟨y,eQ _ h1,h2⟩
theorem DG{s:aD}: ∀(f:Nat) (out:List Dg),k8 s out→k8 s (kC s f out)∧(kC s f out).length≤out.length+f
 |0,out,h=>⟨h,bk _⟩
 |f+1,out,h=>by
  rw[kC];cases l:jK out s 0 none with
  |none=>dsimp only;exact⟨h,by omega⟩
  |some q=>
   dsimp only;have c:=LU l;rcases c with c|⟨x,h1,h2,h3,h4⟩
   ·cases c
   ·have:=DG (s:=s) f (out++[q.2]) fun i d a=>by
     rw[jg]at a;split at a
     ·rename_i k;obtain⟨y,m,o,p,r⟩:=h i d a;rw[gj a8];exact⟨y,m,o,p,r⟩
     ·rename_i g;have hi:i-out.length=0:=by
       cases j:i-out.length with
       |zero=>rfl
       |succ n=>rw[j]at a;simp at a
      rw[hi]at a;obtain rfl:q.2=d:=by simpa using a
      have b:i=out.length:=by omega
      rw[b,gj (bk _),sd];exact⟨x,h1,h2,h3,h4⟩
    refine⟨this.1,?_⟩;have e:=this.2;simp at e;omega
theorem k8.nodup{s:aD}{o:List Dg}(h:k8 s o):o.Nodup:=by
 refine qE.2 fun i j hi b a e=> ?_;obtain⟨_,_,_,c,_⟩:=h j o[j] (bN b);exact c (bX (i:=i) (by rw[eY,if_pos a,bN hi,e]))
theorem ry{H:bh→Dg}{s:aD}(h:dD H s):k8 s (dN s)∧ ∀d,d∈dN s↔d∈bs s:=by
 have g:k8 s []:=fun i d a=>by simp at a
 obtain⟨e,l⟩:=DG s.length [] g;refine⟨e,fun d=>⟨fun a=> ?_,fun a=> ?_⟩⟩
 ·obtain⟨i,hi⟩:=fU a;obtain⟨x,c,rfl,_⟩:=e i d hi;exact fV c
 ·apply iy;intro j;have f:=e.nodup;have b: ∀x∈d::dN s,x∈bs s:=by
   intro x c;rcases bM.1 c with rfl|c
   ·exact a
   ·obtain⟨i,hi⟩:=fU c;obtain⟨y,k,rfl,_⟩:=e i x hi;exact fV k
  have:=xD (qD.2 ⟨j,f⟩) b;have m:(bs s).length=s.length:=aQ _;have:=h.order;simp only[aY]at*;omega
theorem xh: ∀{s:aD},(bs s).Nodup→ ∀x∈s,∀y∈s,x.id=y.id→x=y
 |[],_,x,a,_,_,_=>by cases a
 |z::s,h,x,a,y,hy,e=>by
  obtain⟨b,c⟩:=qD.1 (show(z.id::bs s).Nodup from h);have hm: ∀w∈s,w.id≠z.id:=fun w d e=>b (by rw[←e];exact fV (f:=bT.id) d);rcases bM.1 a with h3|h3<;>rcases bM.1 hy with h4|h4
  ·rw[h3,h4]
  ·exact absurd (by rw[←e,h3]) (hm y h4)
  ·exact absurd (by rw[e,h4]) (hm x h3)
  ·exact xh c x h3 y h4 e
theorem Dz{H:bh→Dg}{s:aD}(h:dD H s): ∀x∈s,x.id∉cD x.pat:=by
 intro x a j;obtain⟨b,c⟩:=ry h;obtain⟨i,hi⟩:=fU ((c x.id).2 (fV (f:=(·.id)) a));obtain⟨y,k,e,d,g⟩:=b i x.id hi;have:=xh h.sorted.nodup x a y k e.symm;subst this;exact d (g _ j)
end Go.Proofs.Q
namespace Go.Proofs.Q
open Go Go.Ab Go.Bb
def CQ:CF:=⟨18, (kq [ox 3 1,kM 4 xF] (.seq (kq [o7 5 0] (.block 0 (.loop (.trim [5,3,0] (.seq (kq [om 6 5,om 7 0,o9 8 0 7,o4 9 .lss 6 8] (kd 9 .skip (.exit 0))) (.seq (.block 1 (.seq (.ops true [0,0,3,7,0,31] [om 12 0,om 13 5,oi 14 32 12 13,o2 15 32 14,o2 16 32 3,o0 17 (.eqa true eV false (.t 15) (.t 16))]) (kd 17 (kq [kM 4 xT] .ret) .skip))) (fo [om 10 5,o5 11 .add 10 1,om 5 11]))))))) (kq [kM 4 xF] .ret))),[.tmp 4]⟩
theorem MF:aN Tryz.prog [100003] 117=some CQ.erase:=by kernel_rfl
def CN:CF:=⟨26, (kq [ox 3 1,kB 4 mH,kM 5 xF] (.seq (kq [o7 6 0] (.block 0 (.loop (.trim [4,6,0,3] (.seq (kq [om 7 6,om 8 0,o9 9 0 8,o4 10 .lss 7 9] (kd 10 .skip (.exit 0))) (.seq (.block 1 (.seq (.ops true [0,0,3,7,15,0,63] [om 13 0,om 14 6,oi 15 37 13 14,o1 16 0 15,o2 17 32 16,o2 18 32 3,o0 19 (.eqa true eV false (.t 17) (.t 18))]) (kd 19 (kq [om 20 0,om 21 6,oi 22 37 20 21,o1 23 32 22,o2 24 5 23,o8 5 4 24,kM 5 xT] .ret) .skip))) (fo [om 11 6,o5 12 .add 11 1,om 6 12]))))))) (kq [o0 25 (.bld gy []),o8 5 4 25,kM 5 xF] .ret))),[.cell 4 (some 5),.tmp 5]⟩
theorem ME:aN Tryz.prog [100003,300025] 28=some CN.erase:=by kernel_rfl
def CT:CF:=⟨21, (kq [kM 2 (.c (.nil 32))] (kq [o0 5 (.bsl false 25 32 0 [] []),om 3 5] (.seq (kq [o7 4 0] (.block 0 (.loop (.trim [4,0,3] (.seq (kq [om 6 4,om 7 0,o9 8 0 7,o4 9 .lss 6 8] (kd 9 .skip (.exit 0))) (.seq (.block 1 (fo [om 12 3,om 13 0,om 14 4,oi 15 37 13 14,o1 16 0 15,o2 17 32 16,o0 18 (.bsf 32 1 ej [(0,32,(.t 17))]),o0 19 (.app false 25 32 32 (.t 12) (.t 18)),om 3 19])) (fo [om 10 4,o5 11 .add 10 1,om 4 11]))))))) (kq [om 20 3,om 2 20] .ret)))),[.tmp 2]⟩
theorem Yk:aN Tryz.prog [100018] 71=some CT.erase:=by kernel_rfl
def CV:CF:=⟨19, (kq [kM 4 xF] (.seq (kq [o7 5 0] (.block 0 (.loop (.trim [5,1,0] (.seq (kq [om 6 5,om 7 1,o9 8 0 7,o4 9 .lss 6 8] (kd 9 .skip (.exit 0))) (.seq (.block 1 (kq [om 12 0,om 13 1,om 14 5,oi 15 32 13 14,o2 16 32 15,o6 17 117 [.t 12,.t 16],o0 18 (.not (.t 17))] (kd 18 (kq [kM 4 xF] .ret) .skip))) (fo [om 10 5,o5 11 .add 10 1,om 5 11]))))))) (kq [kM 4 xT] .ret))),[.tmp 4]⟩
theorem MH:aN Tryz.prog [] 72=some CV.erase:=by kernel_rfl
def CU:CF:=⟨67, (kq [kM 2 (.c (.nil 32))] (kq [o0 6 (.bsl false 25 32 0 [] []),om 3 6] (.seq (.block 0 (.loop (.trim [3,0] (.seq (kq [om 7 3,o9 8 0 7,om 9 0,o9 10 0 9,o4 11 .lss 8 10] (kd 11 .skip (.exit 0))) (.block 1 (kq [kM 4 (xi (-1))] (.seq (kq [o7 5 0] (.block 2 (.loop (.trim [5,4,0,3] (.seq (kq [om 12 5,om 13 0,o9 14 0 13,o4 15 .lss 12 14] (kd 15 .skip (.exit 2)))
 (.seq (.block 3 (.seq (.ops true [0,0,0,6,14,30,63,127,255,511,511,511,3583,7679,15871,32255,65535,131071,262143,524287,1048575,2097151,4194303,4194303,16777215,33554431,67108863,4194303,4194303,406847487,943718399,2017460223,4294967295,8589934591,17179869183,34359738367] [om 18 3,om 19 0,om 20 5,oi 21 37 19 20,o1 22 0 21,o2 23 32 22,o6 24 117 [.t 18,.t 23],o0 25 (.not (.t 24)),om 26 25,oh 27 26 true 3,oh 28 26 true 0,oh 29 26 true 5,og 30 26 true (.iad 37 (.t 28) (.t 29)),kF 31 26 true 32 30,og 32 26 true (.ld (some 5) (.t 31)),og 33 26 true (.call (.fn 73) [.t 32]),og 34 26 true (.call (.fn 72) [.t 27,.t 33]),kP 35 26 34,om 36 35,oh 37 36 true 4,kG 38 36 true .lss (.t 37) (xi 0),oh 39 36 true 38,oh 40 39 false 0,oh 41 39 false 5,og 42 39 false (.iad 37 (.t 40) (.t 41)),kF 43 39 false 0 42,og 44 39 false (.ld (some 32) (.t 43)),oh 45 39 false 0,oh 46 39 false 4,og 47 39 false (.iad 37 (.t 45) (.t 46)),kF 48 39 false 0 47,og 49 39 false (.ld (some 32) (.t 48)),og 50 39 false (.call (.fn 70) [.t 44,.t 49]),kG 51 39 false .lss (.t 50) (xi 0),og 52 36 true (.pick (.t 39) xT (.t 51)),kP 53 36 52]) (kd 53 (fo [om 54 5,om 4 54]) .skip))) (fo [om 16 5,o5 17 .add 16 1,om 5 17]))))))) (.seq (kq [om 55 4,o5 56 .lss 55 0] (kd 56 (kq [om 57 3,om 2 57] .ret) .skip)) (fo [om 58 3,om 59 0,om 60 4,oi 61 37 59 60,o1 62 0 61,o2 63 32 62,o0 64 (.bsf 32 1 ej [(0,32,(.t 63))]),o0 65 (.app false 25 32 32 (.t 58) (.t 64)),om 3 65]))))))))) (kq [om 66 3,om 2 66] .ret)))),[.tmp 2]⟩
theorem Yl:aN Tryz.prog [100064] 74=some CU.erase:=by kernel_rfl
def tz:CF:=⟨38, (kq [ox 3 1,kB 4 dZ,kM 5 xF] (kq [om 11 0,o1 12 0 3,o2 13 32 12,o6 14 28 [.t 11,.t 13],om 10 14,oe 15 10 0,oe 16 10 1,kB 6 mH,o8 5 6 15,om 7 16] (kq [o2 18 5 6,o6 19 30 [.t 18],om 17 19,oe 20 17 0,oe 21 17 1,om 8 20,om 9 21] (.seq (kq [o1 22 32 3,o3 23 22,o5 24 .lss 23 0,om 25 24,kF 26 25 false 32 3,kL 27 25 false 26,oh 28 25 false 8,og 29 25 false (.len 0 (.t 28)),kG 30 25 false .geq (.t 27) (.t 29),kR 31 25 30] (kd 31 (kq [o0 32 (.bld ee []),o8 172 4 32,kM 5 xF] .ret) .skip)) (kq [om 33 8,o1 34 32 3,o3 35 34,oi 36 172 33 35,o2 37 172 36,o8 172 4 37,kM 5 xT] .ret))))),[.cell 4 (some 172),.tmp 5]⟩
theorem MJ:aN Tryz.prog [100003,300032] 173=some tz.erase:=by kernel_rfl
def CX:CF:=⟨17, (kq [o0 2 (.box (.t 0)),ox 3 1,kB 4 cQ] (.seq (kq [o1 5 32 2,o3 6 5,o5 7 .geq 6 0,om 8 7,kF 9 8 true 0 2,og 10 8 true (.ld (some 32) (.t 9)),og 11 8 true (.bld ej []),og 12 8 true (.eqa true eV false (.t 10) (.t 11)),kP 13 8 12] (kd 13 (fo [o2 14 32 3,o1 15 0 2,o8 32 15 14]) .skip)) (kq [o2 16 33 2,o8 33 4 16] .ret))),[.cell 4 (some 33)]⟩
theorem Yn:aN Tryz.prog [100003,300011] 178=some CX.erase:=by kernel_rfl
def D0:CF:=⟨7, (kq [ox 1 0,kM 2 xF] (kq [o1 3 0 1,o2 4 32 3,o0 5 (.bld ej []),o0 6 (.eqa true eV true (.t 4) (.t 5)),om 2 6] .ret)),[.tmp 2]⟩
theorem Yq:aN Tryz.prog [100001,300005] 172=some D0.erase:=by kernel_rfl
def CY:CF:=⟨11, (kq [ox 1 0,kM 2 xF] (kq [o1 3 33 1,o3 4 3,o5 5 .eql 4 1,om 6 5,kF 7 6 true 67 1,kL 8 6 true 7,kG 9 6 true .eql (.t 8) (xi 4),kP 10 6 9,om 2 10] .ret)),[.tmp 2]⟩
theorem Yo:aN Tryz.prog [100001] 175=some CY.erase:=by kernel_rfl
def CZ:CF:=⟨33, (kq [ox 5 1,ox 6 2,ox 7 3,o7 8 0] (.seq (kq [o2 11 33 5,o6 12 172 [.t 11],o0 13 (.not (.t 12)),om 14 13,og 15 14 false (.ld (some 33) (.t 5)),og 16 14 false (.ld (some 33) (.t 6)),og 17 14 false (.eqa true cJ false (.t 15) (.t 16)),kR 18 14 17] (kd 18 (kz 8 0) .skip)) (kq [om 20 0,o2 21 33 5,o6 22 173 [.t 20,.t 21],om 19 22,oe 23 19 0,oe 24 19 1,kB 9 dZ,o8 172 9 23,om 10 24] (.seq (kq [om 25 10,o0 26 (.not (.t 25))] (kd 26 (kz 8 7) .skip)) (.seq (.seq (.ops true [0,0,3,0,15,31] [o2 27 33 6,o2 28 32 7,o6 29 178 [.t 27,.t 28],o2 30 172 9,o6 31 231 [.t 29,.t 30],o0 32 (.not (.t 31))]) (kd 32 (kz 8 8) .skip)) (kz 8 0)))))),[.tmp 8]⟩
theorem Yp:aN Tryz.prog [100005,100006,100007] 176=some CZ.erase:=by kernel_rfl
def CW:CF:=⟨103, (kq [ox 4 1,ox 5 2,o7 6 0] (.seq (kq [o1 16 1 4,o2 17 33 16,o6 18 172 [.t 17]] (kd 18 (kq [om 20 0,o1 21 1 4,o2 22 33 21,o6 23 173 [.t 20,.t 22],om 19 23,oe 24 19 0,oe 25 19 1,kB 7 dZ,o8 172 7 24,om 8 25] (.seq (kq [om 26 8,o0 27 (.not (.t 26))] (kd 27 (kz 6 7) .skip)) (kq [o1 28 0 4,o3 29 28,o2 30 172 7,o6 31 174 [.t 29,.t 30],o0 32 (.not (.t 31))] (kd 32 (kz 6 8) .skip)))) .skip)) (.seq (kq [o1 33 35 4,o2 34 33 33,o6 35 172 [.t 34]] (kd 35 (kq [om 37 0,o1 38 35 4,o2 39 33 38,o6 40 173 [.t 37,.t 39],om 36 40,oe 41 36 0,oe 42 36 1,kB 9 dZ,o8 172 9 41,om 10 42] (.seq (kq [om 43 10,o0 44 (.not (.t 43))] (kd 44 (kz 6 7) .skip)) (kq [o2 45 172 9,o6 46 175 [.t 45],o0 47 (.not (.t 46))] (kd 47 (kz 6 8) .skip)))) .skip)) (.seq (kq [om 48 0,o1 49 71 4,o2 50 33 49,o1 51 1 4,o2 52 33 51,o2 53 32 5,o6 54 176 [.t 48,.t 50,.t 52,.t 53],om 11 54] (kq [om 55 11,o5 56 .neq 55 0] (kd 56 (kq [om 57 11,om 6 57] .ret) .skip))) (.seq (kq [om 58 0,o1 59 104 4,o2 60 33 59,o1 61 1 4,o2 62 33 61,o2 63 32 5,o6 64 176 [.t 58,.t 60,.t 62,.t 63],om 12 64] (kq [om 65 12,o5 66 .neq 65 0] (kd 66 (kq [om 67 12,om 6 67] .ret) .skip))) (.seq (kq [o7 13 0] (.block 0 (.loop (.trim [13,0,5,4] (.seq (kq [om 68 13,o1 69 138 4,o3 70 69,o9 71 0 70,o4 72 .lss 68 71] (kd 72 .skip (.exit 0))) (.seq (.block 1 (.seq (kq [o1 75 138 4,o3 76 75,om 77 13,oi 78 33 76 77,o2 79 33 78,o6 80 172 [.t 79],o0 81 (.not (.t 80))] (kd 81 (.exit 1) .skip))
 (kq [om 83 0,o1 84 138 4,o3 85 84,om 86 13,oi 87 33 85 86,o2 88 33 87,o6 89 173 [.t 83,.t 88],om 82 89,oe 90 82 0,oe 91 82 1,kB 14 dZ,o8 172 14 90,om 15 91] (.seq (kq [om 92 15,o0 93 (.not (.t 92))] (kd 93 (kz 6 7) .skip)) (.seq (.ops true [0,1,0,4,0,28,0,127,255] [o1 94 0 4,o3 95 94,o1 96 1 4,o2 97 33 96,o2 98 32 5,o6 99 178 [.t 97,.t 98],o2 100 172 14,o6 101 177 [.t 95,.t 99,.t 100],o0 102 (.not (.t 101))]) (kd 102 (kz 6 8) .skip)))))) (fo [om 73 13,o5 74 .add 73 1,om 13 74]))))))) (kz 6 0))))))),[.tmp 6]⟩
theorem Ym:aN Tryz.prog [100004,100005] 120=some CW.erase:=by kernel_rfl
def D1:CF:=⟨27, (kq [ox 4 1,ox 5 2,o7 6 0] (.seq (kq [o7 7 0] (.block 0 (.loop (.trim [7,5,4,0] (.seq (kq [om 9 7,o1 10 4 4,o3 11 10,o9 12 0 11,o4 13 .lss 9 12] (kd 13 .skip (.exit 0))) (.seq (.block 1 (.seq (.ops true [0,0,2,0,14,30,0,127,255] [om 16 0,o1 17 4 4,o3 18 17,om 19 7,oi 20 139 18 19,o2 21 139 20,o2 22 32 5,o6 23 120 [.t 16,.t 21,.t 22],om 8 23]) (kq [om 24 8,o5 25 .neq 24 0] (kd 25 (kq [om 26 8,om 6 26] .ret) .skip)))) (fo [om 14 7,o5 15 .add 14 1,om 7 15]))))))) (kz 6 0))),[.tmp 6]⟩
theorem Yr:aN Tryz.prog [100004,100005] 75=some D1.erase:=by kernel_rfl
def tu:CF:=⟨95, (kq [o7 2 0] (.seq (kq [om 10 0,o9 11 0 10,o5 12 .gtr 11 400] (kd 12 (kz 2 4) .skip)) (.seq (kq [o7 3 0] (.block 0 (.loop (.trim [3,0] (.seq (kq [om 13 3,om 14 0,o9 15 0 14,o4 16 .lss 13 15] (kd 16 .skip (.exit 0))) (.seq (.block 1 (kq [om 20 0,om 21 3,oi 22 37 20 21,o1 23 32 22,o2 24 5 23,o6 25 69 [.t 24],om 19 25,oe 26 19 0,oe 27 19 1,kB 4 ej,o8 32 4 26,om 5 27] (.seq (kq [om 28 5,o5 29 .neq 28 0] (kd 29 (kq [om 30 5,om 2 30] .ret) .skip)) (.seq (.seq (.ops true [0,0,0,6,14,30,63] [o2 31 32 4,om 32 0,om 33 3,oi 34 37 32 33,o1 35 0 34,o2 36 32 35,o0 37 (.eqa true eV true (.t 31) (.t 36))]) (kd 37 (kz 2 13) .skip)) (.seq (.ops true [0,1,3,7,7,23,63,127,255,7,1023,2047,4095] [om 38 3,o5 39 .gtr 38 0,om 40 39,oh 41 40 true 0,oh 42 40 true 3,kG 43 40 true .sub (.t 42) (xi 1),og 44 40 true (.iad 37 (.t 41) (.t 43)),kF 45 40 true 0 44,og 46 40 true (.ld (some 32) (.t 45)),og 47 40 true (.ld (some 32) (.t 4)),og 48 40 true (.call (.fn 70) [.t 46,.t 47]),kG 49 40 true .geq (.t 48) (xi 0),kP 50 40 49]) (kd 50 (kz 2 9) .skip)))))) (fo [om 17 3,o5 18 .add 17 1,om 3 18]))))))) (kq [om 51 0,o6 52 71 [.t 51],om 6 52] (.seq (kq [o7 7 0] (.block 2 (.loop (.trim [7,0,6] (.seq (kq [om 53 7,om 54 0,o9 55 0 54,o4 56 .lss 53 55] (kd 56 .skip (.exit 2))) (.seq (.block 3 (kq [om 59 6,om 60 0,om 61 7,oi 62 37 60 61,o1 63 32 62,o2 64 5 63,o6 65 73 [.t 64],o6 66 72 [.t 59,.t 65],o0 67 (.not (.t 66))] (kd 67 (kz 2 19) .skip))) (fo [om 57 7,o5 58 .add 57 1,om 7 58])))))))
 (.seq (kq [om 68 0,o6 69 74 [.t 68],o9 70 0 69,om 71 0,o9 72 0 71,o4 73 .lss 70 72] (kd 73 (kz 2 20) .skip)) (.seq (kq [o7 8 0] (.block 4 (.loop (.trim [8,0] (.seq (kq [om 74 8,om 75 0,o9 76 0 75,o4 77 .lss 74 76] (kd 77 .skip (.exit 4))) (.seq (.block 5 (.seq (.ops true [0,0,0,6,14,30,0,0,192,448,960,2047,4095] [om 80 0,om 81 0,om 82 8,oi 83 37 81 82,o1 84 32 83,o2 85 5 84,om 86 0,om 87 8,oi 88 37 86 87,o1 89 0 88,o2 90 32 89,o6 91 75 [.t 80,.t 85,.t 90],om 9 91]) (kq [om 92 9,o5 93 .neq 92 0] (kd 93 (kq [om 94 9,om 2 94] .ret) .skip)))) (fo [om 78 8,o5 79 .add 78 1,om 8 79]))))))) (kz 2 0)))))))),[.tmp 2]⟩
theorem MB:aN Tryz.prog [] 29=some tu.erase:=by kernel_rfl
end Go.Proofs.Q
