/- Lemmas. -/
import Derived.Test.YtellfinifjmloaaGreatDoorPBA
set_option linter.unusedVariables false
set_option linter.unusedSimpArgs false
namespace Go.Proofs.Q
open Go Go.Bb Go.RowKit Go.Proofs.Lg
open Go.Ab (D RD)
theorem Dw(first n:Nat)(h:first+n≤1000000000):aG Tryz.prog 189 [dI n,.ref [dI first]] (.agg (aj (dM ((first+n:Nat):Int)))):=by
 have a:IntKind.i64.wrap ((first:Int)+(n:Int))=((first+n:Nat):Int):=nB a8 a8;refine aM (F:=Bm) X2 (by simp[Bm]) ?_;simp only[Bm];refine aO (ga @a (ga @da (ga @az @wj))) ab ?_
 all_goals rfl
theorem Qf(P:Program)(l:List CO)(K:Fr→List aa→List Nat→Prop)(a:List Nat)(fr:Fr)(s:List aa)(m t:Nat):dv P l K a fr (some t) m s (.d (.sc .nilFunc))=bK P l K (m::a) ((t,.d (.sc .nilFunc))::fr) s:=propext dp
theorem Zf(c:aC)(first:Nat)(s:List aa):b7 Tryz.prog 129 [.d (.agg (aV c)),.d (dI first)] s fun d a=>d= .clo 188 [] [.d (.ref [dI first]),.d (.ref (aV c))]∧a=s:=by
 refine b7.of (F:=Bl) X1 (by simp[Bl]) ?_;simp only[Bl];exact bU (ga @Qf @wj) ab
 all_goals first|rfl|exact⟨rfl,rfl⟩
def I4(base:Nat)(s a:List aa):Prop:= ∀j cs,base≤j→s[j]?=some (.cells cs)→a[j]?=some (.cells cs)
set_option maxHeartbeats 4000000 in
theorem Ze(c:aC)(first i base:Nat)(S:List au→List aa→Prop)(V:1≤c.kind)(W:c.kind≤7)(hf:first≤1000000)(hl:c.lines.length≤2000)
  (u: ∀l s o,S l s→S l (s++[o])) (G: ∀l s j cs t,S l s→base≤j→s[j]?=some (.cells cs)→S l (s.set j (.cells t))) (p: ∀l s,S l s→base≤s.length)
  (hround: ∀(l:List au) (x:au) (s:List aa) (K:AV→List aa→Prop),S l s→l.length≤4001→(∀w,S (l++[x]) w→I4 base s w→K (.d (dB true)) w)→iD Tryz.prog i [.d (.agg (aI x))] s K)
  (s:List aa) (Q:S [] s):b7 Tryz.prog 188 [.yld i,.d (.ref [dI first]),.d (.ref (aV c))] s fun d w=>d=vT∧S (fh c first) w:=by
 have m0:=Dw first 0 a8;rw[aE]at m0;obtain hk|hk|hk|hk|hk|hk|hk:c.kind=1∨c.kind=2∨c.kind=3∨c.kind=4∨c.kind=6∨c.kind=7∨c.kind=5:=by omega
 iterate 6
  ·clear V W hl hf;refine b7.of (F:=sU) Mh (by simp[sU]) ?_;simp only[sU]
   repeat' first|refine ae (fun _=> ?_) fun _=> ?_|refine aq.yld (hround _ _ _ _ Q (fy _) (fun w H e=> ?_))|refine ay (ga @hk @wj) @m0 ?_|exact ax (ga @hk @wj) @m0|fail
   all_goals(unfold fh;simp only[hk,Int.reduceEq,if_true,if_false];exact H)
 ·have Z:fh c first=km c first c.lines 0++(List.range (c.lines.length+1)).map (qb c first c.lines.length):=by
   simp only[fh,hk,Int.reduceEq,if_false,FU,aw]
  rw[Z];clear Z V W;refine b7.of (F:=sU) Mh (by simp[sU]) ?_;simp only[sU];refine aO (ga @hk @wj) ab ?_
  refine aZ.overI c.lines (fun k (b:List au×List aa)=>[(95,iN k)]) (fun _ b=>b.2) (fun r b=>b.1++km c first r b.1.length) (km c first c.lines 0) (fun k b=>S b.1 b.2∧b.1.length=k) ([],s) a8 aB aB rfl rfl ⟨Q,rfl⟩ (fun k b x hg e n C f a=> ?_) (fun b n f a=> ?_)
  ·obtain⟨l,s⟩:=b;obtain⟨a,v⟩:=a;dsimp only at f a v;have N:=Dw first k a8;clear Q;subst v
   repeat' first|refine ae (fun _=> ?_) fun _=> ?_|refine aq.yld (hround l _ _ _ a a8 (fun w H e=> ?_))|refine ay (ga @n (ga @C (ga @hg (ga @eW.eq_1 @wj)))) @N ?_|exact ax (ga @n (ga @C (ga @hg (ga @eW.eq_1 @wj)))) @N|fail
   exact⟨(l++[xr c first l.length x],w),rfl,by simpa[km]using f,H,by simp⟩
  ·obtain⟨l,s⟩:=b;obtain⟨a,v⟩:=a;dsimp only at f a v;simp only[km,bg]at f;subst f;have w1:IntKind.i64.wrap ((c.lines.length:Int)+1)=((c.lines.length+1:Nat):Int):=nB a8 a8;refine aO (ga @n (ga @w1 (ga @da (ga @az @wj)))) ab ?_;obtain⟨D,B⟩: ∃D,D=s.length:=⟨_,rfl⟩
   have z:base≤D:=by rw[B];exact p _ _ a
   have y:=u _ _ (aa.cells (List.map AV.d (aj c.after))) a;have g:(s++[aa.cells (List.map AV.d (aj c.after))])[D]?=some (.cells ((aj (if 0<0 then dM (first+0-1)else c.after)).map .d)):=by rw[B];simp
   rw[←B];obtain⟨L,Y⟩: ∃L,L=km c first c.lines 0:=⟨_,rfl⟩
   rw[←Y]at y v⊢;generalize s++[aa.cells (List.map AV.d (aj c.after))]=s1 at y g⊢;clear a Y B Q w1 m0 n
   refine aZ.overI (List.range (c.lines.length+1)) (fun k (b:List au×List aa)=>[(118,iN k)]) (fun _ b=>b.2) (fun r b=>b.1++r.map (qb c first c.lines.length)) (L++(List.range (c.lines.length+1)).map (qb c first c.lines.length)) (fun k b=>S b.1 b.2∧b.1.length=c.lines.length+k∧(k≤c.lines.length→b.2[D]?=some (.cells ((aj (if 0<k then dM (first+k-1)else c.after)).map .d)))) (L,s1) (by simp;omega) aB (by simp only[ew,wy,qg,aH,simprocAttr,aA,aF,aE,aw];try rfl) rfl rfl ⟨y,by omega,fun _=>g⟩ (fun k b x hg e n C f a=> ?_) (fun b n f a=> ?_)
   ·obtain⟨l,s⟩:=b;obtain⟨a,E,g⟩:=a;dsimp only at f a E g;rw[ew]at e n;have g:=g a8;obtain rfl:k=x:=by rw[qA a8]at hg;simpa using hg
    have R:=Dw first (c.lines.length+k) a8;have N:=Dw first k a8;have T:IntKind.i64.wrap ((c.lines.length:Int)+(k:Int))=((c.lines.length+k:Nat):Int):=nB a8 a8
    have X:qb c first c.lines.length k={au.zero with id:=dM (first+c.lines.length+k),kind:=6,file:=c.file,fro:=(if 0<k then dM (first+k-1)else c.after),til:=(if k<c.lines.length then dM (first+k)else c.before)}:=rfl;rw[bV,X]at f;clear X y;obtain⟨fr,U⟩: ∃fr,fr=(if 0<k then dM (first+k-1)else c.after):=⟨_,rfl⟩
    rw[←U]at g f;have h8J:=bW g;by_cases A:k<c.lines.length
    ·rw[if_pos A]at f;have O:decide ((k:Int)<(c.lines.length:Int))=true:=by simpa using A
     have M:=u _ _ (aa.cells (List.map AV.d (aj (dM ((first+k:Nat):Int))))) a
     repeat' first|refine ae (fun _=> ?_) fun _=> ?_|refine aq.yld (hround l _ _ _ M a8 (fun w H e=> ?_))|refine ay (ga @n (ga @C (ga @O (ga @T (ga @g (ga @h8J (ga @da (ga @az @wj)))))))) (ga @N @R) ?_|exact ax (ga @n (ga @C (ga @O (ga @T (ga @g (ga @h8J (ga @da (ga @az @wj)))))))) (ga @N @R)|fail
     have I:=e s.length _ (p _ _ a) (List.getElem?_concat_length ..);have q:=e D _ z (h8J _);have a0:=p _ _ a;have m:=fun t=>G _ _ D _ t H z q;clear g h8J;have J:(dM (((first+(c.lines.length+k):Nat)):Int))=dM ((first:Int)+(c.lines.length:Int)+(k:Int)):=by unfold dM;congr 1;omega
     have P:=(b9.1 q).1;refine aO (ga @C (ga @I (ga @q (ga @da (ga @az @wj))))) ab ?_;refine⟨(_,_),rfl,?_,m _,by simp;omega,fun _=> ?_⟩
     ·simp only[bj,yX];rw[f,J];simp
     ·rw[eP,if_pos rfl,if_pos P];rw[if_pos a8];congr 5;omega
    ·rw[if_neg A]at f;have O:decide ((k:Int)<(c.lines.length:Int))=false:=by simpa using A
     have M:=u _ _ (aa.cells (List.map AV.d (aj c.before))) a
     repeat' first|refine ae (fun _=> ?_) fun _=> ?_|refine aq.yld (hround l _ _ _ M a8 (fun w H e=> ?_))|refine ay (ga @n (ga @C (ga @O (ga @T (ga @g (ga @h8J (ga @da (ga @az @wj)))))))) (ga @N @R) ?_|exact ax (ga @n (ga @C (ga @O (ga @T (ga @g (ga @h8J (ga @da (ga @az @wj)))))))) (ga @N @R)|fail
     have I:=e s.length _ (p _ _ a) (List.getElem?_concat_length ..);have q:=e D _ z (h8J _);have m:=fun t=>G _ _ D _ t H z q;clear g h8J;have J:(dM (((first+(c.lines.length+k):Nat)):Int))=dM ((first:Int)+(c.lines.length:Int)+(k:Int)):=by unfold dM;congr 1;omega
     refine aO (ga @C (ga @I (ga @q (ga @da (ga @az @wj))))) ab ?_;refine⟨(_,_),rfl,?_,m _,by simp;omega,fun h=>by omega⟩;simp only[bj,yX];rw[f,J]
   ·obtain⟨l,s⟩:=b;obtain⟨a,E,g⟩:=a;dsimp only at f a;rw[ew]at n;rw[e8,bg]at f;rw[f];refine aO @n ab ?_
    all_goals exact a
end Go.Proofs.Q
namespace Go.Proofs.Q
open Go Go.Ab Go.Bb
def BA:CF:=⟨148, (kq [kM 10 xT] (kq [kM 11 xT] (.block 0 (.loop (.trim [4,2,1,0,11,10,3] (.block 1 (kq [om 21 2,om 22 1,o4 23 .sub 21 22,om 12 23] (.seq (kq [om 24 12,o5 25 .leq 24 12] (kd 25 (kq [om 26 0,om 27 1,om 28 2,om 29 4,o6 30 137 [.t 26,.t 27,.t 28,.t 29]] .ret) .skip)) (.seq (kq [om 31 3,o5 32 .eql 31 0] (kd 32 (kq [om 33 0,om 34 1,om 35 2,om 36 4,o6 37 138 [.t 33,.t 34,.t 35,.t 36]] .ret) .skip)) (.seq (kq [om 38 10,o0 39 (.not (.t 38))] (kd 39 (kq [om 40 0,om 41 1,om 42 2,om 43 4,o6 44 139 [.t 40,.t 41,.t 42,.t 43]] (fo [om 45 3,o5 46 .sub 45 1,om 3 46])) .skip)) (kq [om 48 0,om 49 1,om 50 2,om 51 4,o6 52 140 [.t 48,.t 49,.t 50,.t 51],om 47 52,oe 53 47 0,oe 54 47 1,om 13 53,om 14 54] (.seq (kq [om 55 14,o5 56 .eql 55 2] (kd 56 (kq [om 57 0,om 58 1,om 59 2,om 60 4,o6 61 141 [.t 57,.t 58,.t 59,.t 60]] (kq [om 62 2,o5 63 .sub 62 1,om 64 13,om 65 1,o4 66 .sub 64 65,o4 67 .sub 63 66,om 13 67] (fo [o7 14 1]))) .skip)) (.seq (kq [om 68 10,om 69 68,oh 70 69 true 11,kP 71 69 70,om 72 71,oh 73 72 true 14,kG 74 72 true .eql (.t 73) (xi 1),kP 75 72 74] (kd 75 (kq [om 76 0,om 77 1,om 78 2,om 79 4,o6 80 142 [.t 76,.t 77,.t 78,.t 79]] (kd 80 .ret .skip)) .skip))
 (.seq (.seq (.ops true [0,1,3,7,7,7,39,119,247,7,7,1543,3591,8191,16383,32767,65535] [om 81 1,o5 82 .gtr 81 0,om 83 82,oh 84 83 true 4,oh 85 83 true 0,oh 86 83 true 1,kG 87 83 true .sub (.t 86) (xi 1),og 88 83 true (.iad 33 (.t 85) (.t 87)),og 89 83 true (.ld (some 33) (.t 88)),oh 90 83 true 0,oh 91 83 true 13,og 92 83 true (.iad 33 (.t 90) (.t 91)),og 93 83 true (.ld (some 33) (.t 92)),og 94 83 true (.call (.val (.t 84)) [.t 89,.t 93]),kG 95 83 true .lss (.t 94) (xi 0),og 96 83 true (.not (.t 95)),kP 97 83 96]) (kd 97 (kq [om 98 0,om 99 1,om 100 2,om 101 13,om 102 4,o6 103 143 [.t 98,.t 99,.t 100,.t 101,.t 102],om 15 103] (kq [om 104 15,om 1 104] (.exit 1))) .skip)) (kq [om 106 0,om 107 1,om 108 2,om 109 13,om 110 4,o6 111 144 [.t 106,.t 107,.t 108,.t 109,.t 110],om 105 111,oe 112 105 0,oe 113 105 1,om 16 112,om 17 113] (kq [om 114 17,om 11 114] (kq [om 115 16,om 116 1,o4 117 .sub 115 116,om 118 2,om 119 16,o4 120 .sub 118 119,om 18 117,om 19 120] (kq [om 121 12,o5 122 .quo 121 8,om 20 122] (kq [om 123 18,om 124 19,o4 125 .lss 123 124] (kd 125 (kq [om 126 18,om 127 20,o4 128 .geq 126 127,om 10 128] (kq [om 129 0,om 130 1,om 131 16,om 132 3,om 133 4,o6 134 90 [.t 129,.t 130,.t 131,.t 132,.t 133]] (fo [om 135 16,o5 136 .add 135 1,om 1 136]))) (kq [om 137 19,om 138 20,o4 139 .geq 137 138,om 10 139] (kq [om 140 0,om 141 16,o5 142 .add 141 1,om 143 2,om 144 3,om 145 4,o6 146 90 [.t 140,.t 142,.t 143,.t 144,.t 145]] (fo [om 147 16,om 2 147]))))))))))))))))))))))),[]⟩
theorem Xg:aN Tryz.prog [] 90=some BA.erase:=by kernel_rfl
def AH:CF:=⟨53, (kq [om 10 1,o5 11 .add 10 1,om 8 11] (.block 0 (.loop (.trim [1,3,8,0,2] (.seq (kq [om 12 8,om 13 2,o4 14 .lss 12 13] (kd 14 .skip (.exit 0))) (.seq (.block 1 (kq [om 17 8,om 9 17] (.block 2 (.loop (.trim [9,0,8,1,3,2] (.seq (.seq (.ops true [0,0,3,7,15,15,15,111,239,15,15,1039,3599,7695,16383,32767,65535] [om 18 9,om 19 1,o4 20 .gtr 18 19,om 21 20,oh 22 21 true 3,oh 23 21 true 0,oh 24 21 true 9,og 25 21 true (.iad 33 (.t 23) (.t 24)),og 26 21 true (.ld (some 33) (.t 25)),oh 27 21 true 0,oh 28 21 true 9,kG 29 21 true .sub (.t 28) (xi 1),og 30 21 true (.iad 33 (.t 27) (.t 29)),og 31 21 true (.ld (some 33) (.t 30)),og 32 21 true (.call (.val (.t 22)) [.t 26,.t 31]),kG 33 21 true .lss (.t 32) (xi 0),kP 34 21 33]) (kd 34 .skip (.exit 2))) (.seq (.block 3 (.ops true [0,0,0,0,8,0,0,64,224,480,0,0,3072,7168,16355,32739,65535,131071] [om 37 0,om 38 9,om 39 0,om 40 9,o5 41 .sub 40 1,om 42 0,om 43 9,o5 44 .sub 43 1,oi 45 33 42 44,o2 46 33 45,om 47 0,om 48 9,oi 49 33 47 48,o2 50 33 49,oi 51 33 37 38,o8 33 51 46,oi 52 33 39 41,o8 33 52 50])) (fo [om 35 9,o5 36 .sub 35 1,om 9 36])))))))) (fo [om 15 8,o5 16 .add 15 1,om 8 16]))))))),[]⟩
theorem Wp:aN Tryz.prog [] 137=some AH.erase:=by kernel_rfl
def Ax:CF:=⟨14, (kq [om 5 0,o9 6 0 5,om 4 6] (fo [om 7 0,om 8 4,om 9 4,o0 10 (.cnv .u64 (.t 9)),o6 11 91 [.t 10],om 12 1,o6 13 90 [.t 7,(xi 0),.t 8,.t 11,.t 12]])),[]⟩
theorem Wg:aN Tryz.prog [] 51=some Ax.erase:=by kernel_rfl
def Ba:CF:=⟨61, (kq [ox 1 0,kM 2 (.c (.nil 172)),kM 3 (.c (.d (.sc (.string ⟨#[]⟩)))),o7 4 0] (.seq (kq [o2 14 5 1,o6 15 126 [.t 14],om 5 15] (kq [om 16 5,o5 17 .neq 16 0] (kd 17 (kq [om 18 5,kM 2 (.c (.nil 172)),kM 3 (.c (.d (.sc (.string ⟨#[]⟩)))),om 4 18] .ret) .skip))) (kq [o0 6 (.box (.c (.nil 172)))] (.seq (kq [o1 19 4 1,o3 20 19,o9 21 0 20,o7 22 0] (.block 0 (.loop (.trim [6,22,4,3,2,1,20,21] (kq [o4 23 .lss 22 21] (.seq (kd 23 .skip (.exit 0)) (.seq (.block 1 (kq [oi 24 139 20 22,o2 25 139 24,kB 8 oH,o8 139 8 25] (.seq (kq [o2 26 139 8,o6 27 127 [.t 26],om 9 27] (kq [om 28 9,o5 29 .neq 28 0] (kd 29 (kq [om 30 9,kM 2 (.c (.nil 172)),kM 3 (.c (.d (.sc (.string ⟨#[]⟩)))),om 4 30] .ret) .skip))) (.seq (kq [o2 31 139 8,o3 32 6,o6 33 128 [.t 31,.t 32],om 10 33] (kq [om 34 10,o5 35 .neq 34 0] (kd 35 (kq [om 36 10,kM 2 (.c (.nil 172)),kM 3 (.c (.d (.sc (.string ⟨#[]⟩)))),om 4 36] .ret) .skip))) (kq [o2 37 139 8,o3 38 6,o9 39 0 38,o6 40 129 [.t 37,.t 39]] (.block 2 (.trim [40,21,20,1,2,3,4,22,6] (.rng 61 (.t 40) [41] (fo [kB 11 dZ,o8 172 11 41]) (.block 3 (fo [o3 42 6,o2 43 172 11,o0 44 (.bsf 172 1 ee [(0,172,(.t 43))]),o0 45 (.app true 32 172 296 (.t 42) (.t 44)),o8 1 6 45])))))))))) (fo [o5 46 .add 22 1,om 22 46]))))))))
 (kq [o2 48 5 1,o6 49 130 [.t 48],om 47 49,oe 50 47 0,oe 51 47 1,om 12 50,om 13 51] (.seq (kq [om 52 13,o5 53 .neq 52 0,om 54 53,oh 55 54 false 12,og 56 54 false (.len 1 (.t 55)),kG 57 54 false .gtr (.t 56) (xi 65536),kR 58 54 57] (kd 58 (kq [kM 2 (.c (.nil 172)),kM 3 (.c (.d (.sc (.string ⟨#[]⟩)))),o7 4 4] .ret) .skip)) (kq [o3 59 6,om 60 12,om 2 59,om 3 60,o7 4 0] .ret))))))),[.tmp 2,.tmp 3,.tmp 4]⟩
theorem WR:aN Tryz.prog [100001,100044,45] 82=some Ba.erase:=by kernel_rfl
def B6:CF:=⟨97, (kq [ox 1 0,kM 2 (.c (.nil 172)),o7 3 0] (kq [o2 15 5 1,o6 16 82 [.t 15],om 14 16,oe 17 14 0,oe 18 14 1,oe 19 14 2,om 4 17,om 5 18,om 6 19] (.seq (kq [om 20 6,o5 21 .neq 20 0] (kd 21 (kq [om 22 6,kM 2 (.c (.nil 172)),om 3 22] .ret) .skip)) (kq [o2 24 5 1,o6 25 105 [.t 24],om 23 25,oe 26 23 0,oe 27 23 1,kB 7 ej,o8 32 7 26,om 6 27] (.seq (kq [om 28 6,o5 29 .neq 28 0] (kd 29 (kq [om 30 6,kM 2 (.c (.nil 172)),om 3 30] .ret) .skip)) (kq [o0 31 (.mkf 131 [] [.t 7]),om 8 31] (.seq (kq [om 32 4,o9 33 0 32,o7 34 0] (.block 0 (.loop (.trim [34,4,8,32,33] (kq [o4 35 .lss 34 33] (.seq (kd 35 .skip (.exit 0)) (.seq (.block 1 (kq [om 36 34,oi 37 172 32 34,o2 38 172 37,kB 10 dZ,om 9 36,o8 172 10 38] (kq [om 39 8,o1 40 0 10,o2 41 33 40,o0 42 (.call (.val (.t 39)) [.t 41]),o1 43 0 10,o8 33 43 42] (.seq (kq [o1 44 33 10,o3 45 44,o5 46 .neq 45 7] (kd 46 (fo [om 47 8,o1 48 34 10,o2 49 33 48,o0 50 (.call (.val (.t 47)) [.t 49]),o1 51 34 10,o8 33 51 50]) .skip)) (.seq (kq [o1 52 33 10,o3 53 52,o5 54 .eql 53 2] (kd 54 (fo [om 55 8,o1 56 68 10,o2 57 33 56,o0 58 (.call (.val (.t 55)) [.t 57]),o1 59 68 10,o8 33 59 58]) .skip)) (.seq (kq [o1 60 33 10,o3 61 60,o5 62 .eql 61 6] (kd 62 (.ops true [0,0,2,7,0,0,32,127,111,511,1023,2047] [om 63 8,o1 64 105 10,o2 65 33 64,o0 66 (.call (.val (.t 63)) [.t 65]),om 67 8,o1 68 138 10,o2 69 33 68,o0 70 (.call (.val (.t 67)) [.t 69]),o1 71 105 10,o8 33 71 66,o1 72 138 10,o8 33 72 70]) .skip))
 (kq [kM 11 (.c (.nil 33))] (.seq (kq [o1 73 171 10,o3 74 73,o9 75 0 74,o7 76 0] (.block 2 (.loop (.trim [76,8,11,74,9,10,34,4,32,33,75] (kq [o4 77 .lss 76 75] (.seq (kd 77 .skip (.exit 2)) (.seq (.block 3 (kq [oi 78 33 74 76,o2 79 33 78,kB 13 cQ,o8 33 13 79] (fo [om 80 11,om 81 8,o2 82 33 13,o0 83 (.call (.val (.t 81)) [.t 82]),o0 84 (.bsf 33 1 cQ [(0,33,(.t 83))]),o0 85 (.app true 27 33 40 (.t 80) (.t 84)),om 11 85]))) (fo [o5 86 .add 76 1,om 76 86])))))))) (kq [om 87 11,o0 88 (.call (.fn 51) [.t 87,(.c (.clo 52 [] []))])] (kq [om 89 11,o1 90 171 10,o8 1 90 89] (fo [om 91 4,om 92 9,o2 93 172 10,oi 94 172 91 92,o8 172 94 93]))))))))))) (fo [o5 95 .add 34 1,om 34 95])))))))) (kq [om 96 4,om 2 96,o7 3 0] .ret)))))))),[.tmp 2,.tmp 3]⟩
theorem WM:aN Tryz.prog [100001,100084,85] 88=some B6.erase:=by kernel_rfl
def pn:CF:=⟨14, (kq [o0 2 (.box (.t 0)),kB 3 cQ] (.seq (kq [o2 4 33 2,o6 5 132 [.t 4],om 6 5,kF 7 6 true 32 2,kL 8 6 true 7,kG 9 6 true .geq (.t 8) (xi 0),kP 10 6 9] (kd 10 (fo [o2 11 32 1,o1 12 0 2,o8 32 12 11]) .skip)) (kq [o2 13 33 2,o8 33 3 13] .ret))),[.cell 3 (some 33)]⟩
theorem Ge:aN Tryz.prog [] 131=some pn.erase:=by kernel_rfl
def AY:CF:=⟨13, (kq [ox 1 0,kM 2 (.c (.nil 172)),o7 3 0] (kq [o2 7 5 1,o6 8 88 [.t 7],om 6 8,oe 9 6 0,oe 10 6 1,om 4 9,om 5 10] (kq [om 11 4,om 12 5,om 2 11,om 3 12] .ret))),[.tmp 2,.tmp 3]⟩
theorem WE:aN Tryz.prog [100001] 47=some AY.erase:=by kernel_rfl
end Go.Proofs.Q
namespace Go.Proofs.Q
open Go Go.Bb Go.RowKit Go.Proofs.Lg
open Go.Ab (D RD)
theorem a3H(x:Sx)(i:Nat)(rows:List (List D)):b8 ((ak x).map .d) 2 1 [.tsl i 3 rows]=some [.d (dB x.isL),.d (dS x.atom),.tsl i 3 rows]:=by rw[jb];rfl
theorem jt(a b:D)(i:Nat)(rows:List (List D)):aggA [.d a,.d b,.tsl i 3 rows]= .agg [.d a,.d b,.tsl i 3 rows]:=rfl
theorem lH(x:Sx)(a b c:AV):b8 ((ak x).map .d) 0 3 [a,b,c]=some [a,b,c]:=gN (by simp[cq]) rfl
theorem lp(i:Nat)(rows:List (List D))(s:List aa):b7 Tryz.prog 190 [.tsl i 3 rows] s fun d a=>d= .agg [.d (dB true),.d (dS ⟨#[]⟩),.tsl i 3 rows]∧a=s++[.cells [.d (dB true),.d (dS ⟨#[]⟩),.tsl i 3 rows]]:=by
 refine b7.of (F:=po) Gf (by simp[po]) ?_;simp only[po];refine aO (ga @a3H (ga @jt (ga @fS (ga @P3 (ga @P0 @wj))))) ab ?_;exact⟨rfl,rfl⟩
theorem lv:bw 1 48=true:=by decide
theorem E8:bw 2 48=true:=by decide
theorem E9:bw 4 48=true:=by decide
theorem vK:bw 5 48=true:=by decide
theorem tX{J X:List aa}{m r e sz n:Nat}{c:List (List Value×AV)}{o:aa}(a:J[m]?=some (.map false c))(b:J[r]?=some (.row e sz n)):((J++X).set r o)[m]?=some (.map false c):=by
 rw[bC (by rintro rfl;rw[a]at b;cases b),bW a]
theorem ez.new4{o:Nat→Nat}(J:List aa)(A B C E:aa)(x:Sx):ez o (.tsl (o (J.length+4)) 3 [ak x]) (J++[A,B,C,E,.row 217 3 1]) [x]:= .inr ⟨J.length+4,rfl,by simp⟩
theorem iW{x:AV}{l:List AV}{d:D}{ds:List D}(h:x.toL=some d)(a:toLs l=some ds):toLs (x::l)=some (d::ds):=by simp[toLs,h,a]
theorem Rk(a b c d:Sx)(f g:List Sx)(u v:AV)(k:u.toL=some (.sl 3 (f.map ak)))(m:v.toL=some (.sl 3 (g.map ak))):((b8 (List.map AV.d (ak a++(ak b++(ak c++(ak d++(ak Sx.zero++ak Sx.zero)))))) 12 3 [.d (dB true),.d (dS ⟨#[]⟩),u]).bind fun e=>(b8 e 15 3 [.d (dB true),.d (dS ⟨#[]⟩),v]).bind fun e=>some e).bind (nk 3 6)=some (.d (.sl 3 [ak a,ak b,ak c,ak d,ak (cP f),ak (cP g)])):=by
 rw[mq,mq,jb a,jb b,jb c,jb d,jb Sx.zero];have i:=iW (x:=AV.d (dB true)) (l:=[.d (dS ⟨#[]⟩),v]) rfl (iW (x:= .d (dS ⟨#[]⟩)) (l:=[v]) rfl (iW m rfl));have h:=iW (x:=AV.d (dB true)) (l:=_::u::_) rfl (iW (x:= .d (dS ⟨#[]⟩)) rfl (iW k i))
 have j:=fun(x0 q r s t w z0 y z2 n o p:D)=>iW (x:= .d x0) rfl<|iW (x:= .d q) rfl<|iW (x:= .d r) rfl<|iW (x:= .d s) rfl<|iW (x:= .d t) rfl<|iW (x:= .d w) rfl<|iW (x:= .d z0) rfl<|iW (x:= .d y) rfl<|iW (x:= .d z2) rfl<|iW (x:= .d n) rfl<|iW (x:= .d o) rfl<|iW (x:= .d p) rfl h
 show nk 3 6 [_,_,_,_,_,_,_,_,_,_,_,_,_,_,u,_,_,v]=_;unfold nk;rw[if_pos ⟨rfl,by decide⟩,j];rfl
theorem OK:((0:Int)<32∧(0:Int)≤32)=True:=by simp
theorem Ix:(Int.toNat 0+(Int.toNat 32-Int.toNat 0)≤32)=True:=by simp
theorem JD(x:Dg):List.take (Int.toNat 32-Int.toNat 0) (List.drop (Int.toNat 0) (aP x))=aP x:=by
 show List.take 32 (List.drop 0 (aP x))=_;rw[jY,rF]
theorem Iv(x:Dg):gH ((aP x).map .d)=some (x.l.map fun b=>UInt8.ofNat b.toNat):=by
 unfold aP;exact F1 x.l x.by_
theorem JF{x:Dg}(h:isZero x=false):ak (dE ⟨(x.l.map fun b=>UInt8.ofNat b.toNat).toArray⟩)=ak (gm x):=by
 unfold gm;rw[if_neg (by simp[h])];rfl
set_option maxHeartbeats 4000000 in
theorem Zb(q:jW)(p:aX)(hp:EI p)(K: ∀d∈p.deps,isZero d=false):aG Tryz.prog 130 [.agg (bc p)] (.tup [dS (lZ (ll p)),dI 0]):=by
 have M:=hp.deps;have L:=hp.chg;have E:=hp.kind;have I:=S9 (l:=[dE (str [113,117,105,108,116,49]),dE p.author,dE p.message,cp p.time,cP (p.deps.map gm),cP (p.changes.map bY)]) q hp.good hp.nodes (by have:=hp.size;exact this);clear hp;refine aM (F:=B7) WN (by simp[B7]) ?_;simp only[B7]
 refine uV (ga @fS @wj) @Gq ?_
 refine aZ.overI p.deps (fun k (b:AV×List aa×List Sx)=>[(17,iN k)]) (fun _ b=>[.cells [.d (dB true),.d (dS ⟨#[]⟩),.nil 3],.cells [.d (dB true),.d (dS ⟨#[]⟩),.nil 3],.cells [.d (dB true),.d (dS ⟨#[]⟩),b.1],.cells [.d (dB true),.d (dS ⟨#[]⟩),.nil 3]]++b.2.1) (fun r b=>b.2.2++r.map gm) (p.deps.map gm) (fun k b=>ez MW b.1 b.2.1 b.2.2∧b.2.2.length=k) (.nil 3,[],[]) a8 aB aB rfl rfl ⟨.inl ⟨rfl,rfl⟩,rfl⟩ (fun k b x hg hk s y n w=> ?_) (fun b s n w=> ?_)
 ·obtain⟨v,J,b⟩:=b;obtain⟨w,f⟩:=w;dsimp only at n w f;have H:=K x (bX hg);clear I;rcases w with⟨rfl,rfl⟩|⟨r,rfl,hr⟩
  ·have i:bw 1 48=true:=by decide
   refine aO (ga @s (ga @y (ga @hg (ga @i (ga @ig (ga @vB (ga @ba (ga @OK (ga @Ix (ga @JD (ga @Iv (ga (JF H) @wj)))))))))))) @py ?_;exact⟨(_,_,[gm x]),rfl,by simpa using n,ez.new1 J _ _ [],by simp at f;simp[f]⟩
  ·have i:bw (b.length+1) 48=true:=room_le a8 a8;have m:=pH hr;have j:=bW hr;refine aO (ga @s (ga @y (ga @hg (ga @i (ga @hr (ga @j (ga @m (ga @ig (ga @vB (ga @ba (ga @OK (ga @Ix (ga @JD (ga @Iv (ga (JF H) @wj))))))))))))))) @py ?_
   exact⟨(_,_,b++[gm x]),rfl,by simpa using n,ez.snoc (bW hr _) _,by simp[f]⟩
 ·obtain⟨v4,J,b⟩:=b;obtain⟨B,f⟩:=w;dsimp only at n B f;rw[e8,bg]at n;subst n;refine uV (ga @s @wj) @Zc ?_;refine aO @wj ab ?_
  refine aZ.overI p.changes (fun k (b:AV×List aa×List Sx)=>[(34,iN k)]) (fun _ b=>[.cells [.d (dB true),.d (dS ⟨#[]⟩),.nil 3],.cells [.d (dB true),.d (dS ⟨#[]⟩),.nil 3],.cells [.d (dB true),.d (dS ⟨#[]⟩),v4],.cells [.d (dB true),.d (dS ⟨#[]⟩),b.1]]++b.2.1) (fun r b=>b.2.2++r.map bY) (p.changes.map bY) (fun k b=>(ez MW b.1 b.2.1 b.2.2∧b.2.2.length=k)∧b.2.1[J.length]?=some (.map false jc)) (.nil 3,J++[.map false jc],[]) a8 aB aB rfl rfl ⟨⟨.inl ⟨rfl,rfl⟩,rfl⟩,by simp⟩ (fun k b x hg hk s y n w=> ?_) (fun b s n w=> ?_)
  ·obtain⟨v,O,b⟩:=b;obtain⟨⟨w,f⟩,o⟩:=w;dsimp only at n w f o;obtain⟨U,V,G,N⟩:=E x (bX hg);have h:=bW o;clear I E K;obtain g|g|g|g|g|g|g:x.kind=1∨x.kind=2∨x.kind=3∨x.kind=4∨x.kind=6∨x.kind=7∨x.kind=5:=by omega
   ·have t:=Sp q x;have u:bY x=cP [cp 1,cp x.type]:=by simp[bY,g]
    have e:[dB true,dS ⟨#[]⟩,D.sl 3 [ak (cp 1),ak (cp x.type)]]=ak (bY x):=by rw[u];exact(mq [cp 1,cp x.type]).symm
    clear u;rcases w with⟨rfl,rfl⟩|⟨r,rfl,hr⟩
    ·repeat' first|refine ae (fun _=> ?_) fun _=> ?_|refine aL ?_|refine aq.data (iU q _) rfl ?_|refine aq.data (t) rfl ?_|(refine aq.fn ((lp _ _ _).mono ?_);rintro _ z ⟨rfl,rfl⟩)|simp only[s,y,hg,lv,E8,g,o,h,e,ig,fb,dH,de,aQ,fS,lH,jt,AV.key,AV.keyK,jc,e9,bx,Int.reduceBEq,Int.reduceEq,wj,wy,qg,aH,simprocAttr,aA,aF,aE,aw]
     exact⟨(_,_,[bY x]),rfl,by simpa using n,⟨ez.new4 _ _ _ _ _ _,by simp at f;simp[f]⟩,h _⟩
    ·have i:bw (b.length+1) 48=true:=room_le a8 a8;have m:=pH hr;have j:=bW hr
     repeat' first|refine ae (fun _=> ?_) fun _=> ?_|refine aL ?_|refine aq.data (iU q _) rfl ?_|refine aq.data (t) rfl ?_|(refine aq.fn ((lp _ _ _).mono ?_);rintro _ z ⟨rfl,rfl⟩)|simp only[s,y,hg,lv,E8,i,hr,j,m,g,o,h,e,ig,fb,dH,de,aQ,fS,lH,jt,AV.key,AV.keyK,jc,e9,bx,Int.reduceBEq,Int.reduceEq,wj,wy,qg,aH,simprocAttr,aA,aF,aE,aw]
     exact⟨(_,_,b++[bY x]),rfl,by simpa using n,⟨ez.snoc (bW hr _) _,by simp[f]⟩,tX o hr⟩
   ·have t:=Sq q x G;have u:bY x=cP [cp 2,bH x.file,bH x.parent,dE x.name,eH x.over]:=by simp[bY,g]
    have e:[dB true,dS ⟨#[]⟩,D.sl 3 [ak (cp 2),ak (bH x.file),ak (bH x.parent),ak (dE x.name),ak (eH x.over)]]=ak (bY x):=by rw[u];exact(mq [cp 2,bH x.file,bH x.parent,dE x.name,eH x.over]).symm
    clear u;rcases w with⟨rfl,rfl⟩|⟨r,rfl,hr⟩
    ·repeat' first|refine ae (fun _=> ?_) fun _=> ?_|refine aL ?_|refine aq.data (iU q _) rfl ?_|refine aq.data (t) rfl ?_|(refine aq.fn ((lp _ _ _).mono ?_);rintro _ z ⟨rfl,rfl⟩)|simp only[s,y,hg,lv,vK,g,o,h,e,ig,fb,dH,de,aQ,fS,lH,jt,AV.key,AV.keyK,jc,e9,bx,Int.reduceBEq,Int.reduceEq,wj,wy,qg,aH,simprocAttr,aA,aF,aE,aw]
     exact⟨(_,_,[bY x]),rfl,by simpa using n,⟨ez.new4 _ _ _ _ _ _,by simp at f;simp[f]⟩,h _⟩
    ·have i:bw (b.length+1) 48=true:=room_le a8 a8;have m:=pH hr;have j:=bW hr
     repeat' first|refine ae (fun _=> ?_) fun _=> ?_|refine aL ?_|refine aq.data (iU q _) rfl ?_|refine aq.data (t) rfl ?_|(refine aq.fn ((lp _ _ _).mono ?_);rintro _ z ⟨rfl,rfl⟩)|simp only[s,y,hg,lv,vK,i,hr,j,m,g,o,h,e,ig,fb,dH,de,aQ,fS,lH,jt,AV.key,AV.keyK,jc,e9,bx,Int.reduceBEq,Int.reduceEq,wj,wy,qg,aH,simprocAttr,aA,aF,aE,aw]
     exact⟨(_,_,b++[bY x]),rfl,by simpa using n,⟨ez.snoc (bW hr _) _,by simp[f]⟩,tX o hr⟩
   ·have t:=Sr q x G;have u:bY x=cP [cp 3,bH x.file,cp x.mode,eH x.over]:=by simp[bY,g]
    have e:[dB true,dS ⟨#[]⟩,D.sl 3 [ak (cp 3),ak (bH x.file),ak (cp x.mode),ak (eH x.over)]]=ak (bY x):=by rw[u];exact(mq [cp 3,bH x.file,cp x.mode,eH x.over]).symm
    clear u;rcases w with⟨rfl,rfl⟩|⟨r,rfl,hr⟩
    ·repeat' first|refine ae (fun _=> ?_) fun _=> ?_|refine aL ?_|refine aq.data (iU q _) rfl ?_|refine aq.data (t) rfl ?_|(refine aq.fn ((lp _ _ _).mono ?_);rintro _ z ⟨rfl,rfl⟩)|simp only[s,y,hg,lv,E9,g,o,h,e,ig,fb,dH,de,aQ,fS,lH,jt,AV.key,AV.keyK,jc,e9,bx,Int.reduceBEq,Int.reduceEq,wj,wy,qg,aH,simprocAttr,aA,aF,aE,aw]
     exact⟨(_,_,[bY x]),rfl,by simpa using n,⟨ez.new4 _ _ _ _ _ _,by simp at f;simp[f]⟩,h _⟩
    ·have i:bw (b.length+1) 48=true:=room_le a8 a8;have m:=pH hr;have j:=bW hr
     repeat' first|refine ae (fun _=> ?_) fun _=> ?_|refine aL ?_|refine aq.data (iU q _) rfl ?_|refine aq.data (t) rfl ?_|(refine aq.fn ((lp _ _ _).mono ?_);rintro _ z ⟨rfl,rfl⟩)|simp only[s,y,hg,lv,E9,i,hr,j,m,g,o,h,e,ig,fb,dH,de,aQ,fS,lH,jt,AV.key,AV.keyK,jc,e9,bx,Int.reduceBEq,Int.reduceEq,wj,wy,qg,aH,simprocAttr,aA,aF,aE,aw]
     exact⟨(_,_,b++[bY x]),rfl,by simpa using n,⟨ez.snoc (bW hr _) _,by simp[f]⟩,tX o hr⟩
   ·have t:=Ss q x G;have u:bY x=cP [cp 4,bH x.file,dE x.data,eH x.over]:=by simp[bY,g]
    have e:[dB true,dS ⟨#[]⟩,D.sl 3 [ak (cp 4),ak (bH x.file),ak (dE x.data),ak (eH x.over)]]=ak (bY x):=by rw[u];exact(mq [cp 4,bH x.file,dE x.data,eH x.over]).symm
    clear u;rcases w with⟨rfl,rfl⟩|⟨r,rfl,hr⟩
    ·repeat' first|refine ae (fun _=> ?_) fun _=> ?_|refine aL ?_|refine aq.data (iU q _) rfl ?_|refine aq.data (t) rfl ?_|(refine aq.fn ((lp _ _ _).mono ?_);rintro _ z ⟨rfl,rfl⟩)|simp only[s,y,hg,lv,E9,g,o,h,e,ig,fb,dH,de,aQ,fS,lH,jt,AV.key,AV.keyK,jc,e9,bx,Int.reduceBEq,Int.reduceEq,wj,wy,qg,aH,simprocAttr,aA,aF,aE,aw]
     exact⟨(_,_,[bY x]),rfl,by simpa using n,⟨ez.new4 _ _ _ _ _ _,by simp at f;simp[f]⟩,h _⟩
    ·have i:bw (b.length+1) 48=true:=room_le a8 a8;have m:=pH hr;have j:=bW hr
     repeat' first|refine ae (fun _=> ?_) fun _=> ?_|refine aL ?_|refine aq.data (iU q _) rfl ?_|refine aq.data (t) rfl ?_|(refine aq.fn ((lp _ _ _).mono ?_);rintro _ z ⟨rfl,rfl⟩)|simp only[s,y,hg,lv,E9,i,hr,j,m,g,o,h,e,ig,fb,dH,de,aQ,fS,lH,jt,AV.key,AV.keyK,jc,e9,bx,Int.reduceBEq,Int.reduceEq,wj,wy,qg,aH,simprocAttr,aA,aF,aE,aw]
     exact⟨(_,_,b++[bY x]),rfl,by simpa using n,⟨ez.snoc (bW hr _) _,by simp[f]⟩,tX o hr⟩
   ·have t:=Sv q x G;have u:bY x=cP [cp 6,bH x.file,bH x.after,bH x.before,eH x.over]:=by simp[bY,g]
    have e:[dB true,dS ⟨#[]⟩,D.sl 3 [ak (cp 6),ak (bH x.file),ak (bH x.after),ak (bH x.before),ak (eH x.over)]]=ak (bY x):=by rw[u];exact(mq [cp 6,bH x.file,bH x.after,bH x.before,eH x.over]).symm
    clear u;rcases w with⟨rfl,rfl⟩|⟨r,rfl,hr⟩
    ·repeat' first|refine ae (fun _=> ?_) fun _=> ?_|refine aL ?_|refine aq.data (iU q _) rfl ?_|refine aq.data (t) rfl ?_|(refine aq.fn ((lp _ _ _).mono ?_);rintro _ z ⟨rfl,rfl⟩)|simp only[s,y,hg,lv,vK,g,o,h,e,ig,fb,dH,de,aQ,fS,lH,jt,AV.key,AV.keyK,jc,e9,bx,Int.reduceBEq,Int.reduceEq,wj,wy,qg,aH,simprocAttr,aA,aF,aE,aw]
     exact⟨(_,_,[bY x]),rfl,by simpa using n,⟨ez.new4 _ _ _ _ _ _,by simp at f;simp[f]⟩,h _⟩
    ·have i:bw (b.length+1) 48=true:=room_le a8 a8;have m:=pH hr;have j:=bW hr
     repeat' first|refine ae (fun _=> ?_) fun _=> ?_|refine aL ?_|refine aq.data (iU q _) rfl ?_|refine aq.data (t) rfl ?_|(refine aq.fn ((lp _ _ _).mono ?_);rintro _ z ⟨rfl,rfl⟩)|simp only[s,y,hg,lv,vK,i,hr,j,m,g,o,h,e,ig,fb,dH,de,aQ,fS,lH,jt,AV.key,AV.keyK,jc,e9,bx,Int.reduceBEq,Int.reduceEq,wj,wy,qg,aH,simprocAttr,aA,aF,aE,aw]
     exact⟨(_,_,b++[bY x]),rfl,by simpa using n,⟨ez.snoc (bW hr _) _,by simp[f]⟩,tX o hr⟩
   ·have t:=Sw q x G;have u:bY x=cP [cp 7,eH x.over]:=by simp[bY,g]
    have e:[dB true,dS ⟨#[]⟩,D.sl 3 [ak (cp 7),ak (eH x.over)]]=ak (bY x):=by rw[u];exact(mq [cp 7,eH x.over]).symm
    clear u;rcases w with⟨rfl,rfl⟩|⟨r,rfl,hr⟩
    ·repeat' first|refine ae (fun _=> ?_) fun _=> ?_|refine aL ?_|refine aq.data (iU q _) rfl ?_|refine aq.data (t) rfl ?_|(refine aq.fn ((lp _ _ _).mono ?_);rintro _ z ⟨rfl,rfl⟩)|simp only[s,y,hg,lv,E8,g,o,h,e,ig,fb,dH,de,aQ,fS,lH,jt,AV.key,AV.keyK,jc,e9,bx,Int.reduceBEq,Int.reduceEq,wj,wy,qg,aH,simprocAttr,aA,aF,aE,aw]
     exact⟨(_,_,[bY x]),rfl,by simpa using n,⟨ez.new4 _ _ _ _ _ _,by simp at f;simp[f]⟩,h _⟩
    ·have i:bw (b.length+1) 48=true:=room_le a8 a8;have m:=pH hr;have j:=bW hr
     repeat' first|refine ae (fun _=> ?_) fun _=> ?_|refine aL ?_|refine aq.data (iU q _) rfl ?_|refine aq.data (t) rfl ?_|(refine aq.fn ((lp _ _ _).mono ?_);rintro _ z ⟨rfl,rfl⟩)|simp only[s,y,hg,lv,E8,i,hr,j,m,g,o,h,e,ig,fb,dH,de,aQ,fS,lH,jt,AV.key,AV.keyK,jc,e9,bx,Int.reduceBEq,Int.reduceEq,wj,wy,qg,aH,simprocAttr,aA,aF,aE,aw]
     exact⟨(_,_,b++[bY x]),rfl,by simpa using n,⟨ez.snoc (bW hr _) _,by simp[f]⟩,tX o hr⟩
   ·have t:=Su q x N;have u:bY x=cP [cp 5,bH x.file,bH x.after,bH x.before,cP (x.lines.map dE)]:=by simp[bY,g]
    have e:[dB true,dS ⟨#[]⟩,D.sl 3 [ak (cp 5),ak (bH x.file),ak (bH x.after),ak (bH x.before),ak (cP (x.lines.map dE))]]=ak (bY x):=by rw[u];exact(mq [cp 5,bH x.file,bH x.after,bH x.before,cP (x.lines.map dE)]).symm
    clear u;rcases w with⟨rfl,rfl⟩|⟨r,rfl,hr⟩
    ·repeat' first|refine ae (fun _=> ?_) fun _=> ?_|refine aL ?_|refine aq.data (iU q _) rfl ?_|refine aq.data (t) rfl ?_|(refine aq.fn ((lp _ _ _).mono ?_);rintro _ z ⟨rfl,rfl⟩)|simp only[s,y,hg,lv,vK,g,o,h,e,ig,fb,dH,de,aQ,fS,lH,jt,AV.key,AV.keyK,jc,e9,bx,Int.reduceBEq,Int.reduceEq,wj,wy,qg,aH,simprocAttr,aA,aF,aE,aw]
     exact⟨(_,_,[bY x]),rfl,by simpa using n,⟨ez.new4 _ _ _ _ _ _,by simp at f;simp[f]⟩,h _⟩
    ·have i:bw (b.length+1) 48=true:=room_le a8 a8;have m:=pH hr;have j:=bW hr
     repeat' first|refine ae (fun _=> ?_) fun _=> ?_|refine aL ?_|refine aq.data (iU q _) rfl ?_|refine aq.data (t) rfl ?_|(refine aq.fn ((lp _ _ _).mono ?_);rintro _ z ⟨rfl,rfl⟩)|simp only[s,y,hg,lv,vK,i,hr,j,m,g,o,h,e,ig,fb,dH,de,aQ,fS,lH,jt,AV.key,AV.keyK,jc,e9,bx,Int.reduceBEq,Int.reduceEq,wj,wy,qg,aH,simprocAttr,aA,aF,aE,aw]
     exact⟨(_,_,b++[bY x]),rfl,by simpa using n,⟨ez.snoc (bW hr _) _,by simp[f]⟩,tX o hr⟩
  ·obtain⟨v5,O,b⟩:=b;obtain⟨⟨C,A⟩,o⟩:=w;dsimp only at n C A o;rw[e8,bg]at n;subst n;clear o A f s E K M L;have P:=B.deep;have Q:=C.deep;rcases B with⟨rfl,S⟩|⟨r4,rfl,_⟩<;>rcases C with⟨rfl,T⟩|⟨r5,rfl,_⟩
   all_goals
    have R:=fun a b c d=>Rk a b c d _ _ _ _ P Q;refine aO (ga @zg (ga @jt (ga @R @wj))) (ga @py (ga (iU q) (ga @Zq @I))) ?_
    all_goals rfl
end Go.Proofs.Q
