/- Lemmas. -/
import Derived.Test.YtikhfhjohjfamaaGreatDoorPAT
import Derived.Lib.SliceRun
import Derived.Test.YtikhfhjohjfamaaGreatDoorPAS
set_option linter.unusedVariables false
set_option linter.unusedSimpArgs false
set_option maxRecDepth 100000
namespace Go.Proofs.Q
open Go Go.Bb Go.RowKit Go.Proofs.Lg
open Go.Ab (D RD)
set_option maxHeartbeats 400000 in
theorem Oi(a:Addr)(c:Nat)(w:World):Calls Tryz.prog 262 #[.slice (some a) 0 c] w λe w'=> ∃i,e= .returned i/\(∃k,i= .slice k 0 0)/\Below w.heap.size w w':=by
 have q: ∀(w:World) (a:Option Addr) (n c g f:Nat),(binOp .eql 59 (.slice a n c) (.slice none g f)).run Tryz.prog w= .ok (.bool a.isNone) w:=λw a n c g f=>Go.Lib.run_eql_slice_nil w _ _ a n c g f Tryz.underlying59;obtain⟨j,l⟩: ∃j,Tryz.prog.info? 30=some j:=vB.1 (show(Tryz.prog.info? 30).isSome=true by kernel_rfl)
 have d: ∀(h:TypeId) (b:Addr) (W:World),(Builtin.append_ #[59,59] h #[.slice (some b) 0 0,.slice (some a) 0 c]).run Tryz.prog W= .ok (.slice (some b) 0 0) W:=λh b W=>by
  simp[Builtin.append_,run_underlying Tryz.underlying59,sizeOf,typeInfo,l,Builtin.lenOf,Builtin.firstCells,loadCells,loadCellsFrom,storeCells]
 go_enter Tryz.func262,Tryz.ntmps262
 go_wp2_with (at_builtin;refine Go.Lib.wpList_append_run _ rfl _ _ _ _ rfl _ _ rfl rfl _ _ (d _ _ _) ?_)
 go_ret
 exact⟨_,rfl,⟨_,rfl⟩,(Below.refl _ _).alloc (bg _) _⟩
set_option maxHeartbeats 400000 in
theorem Oh(m c:Nat)(w:World):Calls Tryz.prog 262 #[.slice none m c] w λe w'=>e= .returned (.slice none 0 0)/\w'=w:=by
 have q: ∀(w:World) (a:Option Addr) (n c d b:Nat),(binOp .eql 59 (.slice a n c) (.slice none d b)).run Tryz.prog w= .ok (.bool a.isNone) w:=λw a n c d b=>Go.Lib.run_eql_slice_nil w _ _ a n c d b Tryz.underlying59
 go_enter Tryz.func262,Tryz.ntmps262
 go_wp2
 go_ret
 exact⟨rfl,rfl⟩
theorem Ql(n:Nat)(s:List aa):bs Tryz.prog 262 [.d (.sl n [])] s λd h=>d= .emp n/\h=s:=by
 refine⟨.emp n,s,⟨enters_fn' Tryz.func262 rfl (by rfl),λB k w vs b f=> ?_⟩,rfl,rfl⟩
 match vs,f with
 |[v],f=>
  have g:=(f.2 0 v _ rfl rfl).d_inv;obtain⟨a,c,us,rfl,_⟩:=g.sl_inv;cases a with
  |none=>
   refine(Oh 0 c w).mono ?_;rintro e w' ⟨rfl,rfl⟩;exact⟨_,k,rfl,.emp,Ext.refl B k _,b⟩
  |some a=>
   refine(Oi a c w).mono ?_;rintro e w' ⟨j,rfl,⟨i,rfl⟩,hb⟩;exact⟨_,⟨gA k.I w.heap.size w',k.own⟩,rfl,.emp,Ext.called b.base hb,b.called hb⟩
theorem Jb(l:List Dg):((l.map au).flatten).length=l.length*32:=by
 rw[Go.Ab.flatten_len (sz:=32) _ λr a=>by obtain⟨x,_,rfl⟩:=bM.1 a;exact b9 x,aM]
theorem Qm(x:Dg)(l:List Dg)(e:l.length<=1000000)(s:List aa):bs Tryz.prog 262 [.d (.sl 32 ((x::l).map au))] s λd c=>d= .vec s.length (l.length+1) 32/\c=s++[.vec 30 32 (dx (x::l))]:=by
 have b:bw (l.length+1) 32=true:=room_le a8 a8;have a:((au x++(l.map au).flatten)).length=(l.length+1)*32:=by have:=Jb (x::l);simpa using this
 rw[bX];rw[ud];refine cz Tryz.f262 ?_ [5,7]
 repeat' first|refine ab (λ_=> ?_) λ_=> ?_|refine aH ?_|simp only[b,a,aM,gG,wj,wy,qg,aE,simprocAttr,ax,aD,aB,aw]
 all_goals first|rfl|exact⟨rfl,rfl⟩
theorem vJ:aI Tryz.prog 135 [.sc (.int .u64 0)] (dI 0):=by
 refine⟨enters_fn' Tryz.func135 rfl (by rfl),λI w vs a c _=> ?_⟩
 match vs,a with
 |[u],_=>
  have b:=c 0 u _ rfl rfl;cases b;refine(Tryz.bits_Len 0 w a8 a8).mono ?_;rintro e w' ⟨rfl,rfl⟩;exact⟨_,rfl,.sc _,Below.refl _ _⟩
theorem Sn(f:AV)(s:List aa):bs Tryz.prog 387 [.emp 32,.d (dI 0),.d (dI 0),f] s λd c=>d= .tup []/\c=s:=by
 have b:IntKind.i64.wrap (0+1)=1:=by rfl
 have a:decide ((1:Int)<0)=false:=by decide
 refine cz Tryz.f387 ?_ [] [[1,3,8,0,2],[9,0,8,1,3,2]];refine aC (ga @b @wj) trivial ?_;refine aZ.tr (λ(_:Unit)=>[(8,.d (dI 1))]) (λ_=>s) (λ_ _=>True) 0 () aA aA rfl trivial ?_;intro m _ _;exact bL (ga @a @wj) trivial
 all_goals first|rfl|exact⟨rfl,rfl⟩
theorem UR(f:FuncId)(s:List aa):bs Tryz.prog 336 [.emp 32,.d (dI 0),.d (dI 0),.d (dI 0),.clo f [] []] s λd e=>d= .tup []/\e=s:=by
 have a:=Sn (.clo f [] []) s;have c:IntKind.i64.wrap (0-0)=0:=by rfl
 have b:decide ((0:Int)<=12)=true:=by decide
 refine cz Tryz.f336 ?_ [] [[4,2,1,0,11,10,3]];refine aC @wj trivial ?_;refine aZ.tr (λ(_:Unit)=>[]) (λ_=>s) (λ_ _=>True) 0 () aA aA rfl trivial ?_;intro m _ _;exact yy (ga @c (ga @b @wj)) @a
 all_goals first|rfl|exact⟨rfl,rfl⟩
theorem Z3(f:FuncId)(s:List aa):bs Tryz.prog 264 [.emp 32,.clo f [] []] s λd c=>d= .tup []/\c=s:=by
 have a:=UR f s;refine cz Tryz.f264 ?_;have b:IntKind.u64.wrap 0=0:=by rfl
 repeat' first|refine ab (λ_=> ?_) λ_=> ?_|refine aG (ga @b @wj) (ga @vJ @a) ?_|exact aF (ga @b @wj) (ga @vJ @a)|fail
 all_goals first|rfl|exact⟨rfl,rfl⟩
set_option maxHeartbeats 2000000 in
theorem UG(p:aU)(H:Af p)(I:p.changes.length<=9223372036854775807):aI Tryz.prog 232 [.agg (br p)] (dI (if isName p.author=false then 5 else if 1000<(p.message.size:Int)then 4 else if p.time<0\/1099511627776<p.time then 2 else if iz p.deps≠0 then iz p.deps else if(p.changes.length:Int)=0 then 1 else if 400<(p.changes.length:Int)then 4 else 0)):=by
 have d:=L3 p.author H.author;obtain⟨X,a⟩: ∃X,X=if isName p.author=false then 5 else if 1000<(p.message.size:Int)then 4 else if p.time<0\/1099511627776<p.time then 2 else if iz p.deps≠0 then iz p.deps else if(p.changes.length:Int)=0 then 1 else if 400<(p.changes.length:Int)then 4 else 0:=⟨_,rfl⟩
 rw[<-a];by_cases l:isName p.author=false
 .rw[if_pos l]at a;rw[l]at d;refine aL Tryz.f232 ?_ [100001,300039] [[1,33,31,32]];refine aC trivial @d ?_;rw[a]
 rw[if_neg l]at a;rw[show isName p.author=true by simpa using l]at d;by_cases i:1000<(p.message.size:Int)
 .rw[if_pos i]at a;have g:decide ((p.message.size:Int)>1000)=true:=by simp;omega
  refine aL Tryz.f232 ?_ [100001,300039] [[1,33,31,32]];refine aC @g @d ?_;rw[a]
 rw[if_neg i]at a;have g:decide ((p.message.size:Int)>1000)=false:=by simp;omega
 by_cases D:p.time<0\/1099511627776<p.time
 .rw[if_pos D]at a;refine aL Tryz.f232 ?_ [100001,300039] [[1,33,31,32]]
  repeat' first|refine ab (λ_=> ?_) λ_=> ?_|refine aG @g @d ?_|exact aF @g @d|fail
  all_goals first|(rw[a];done)|omega
 rw[if_neg D]at a;have B:decide (p.time<0)=false:=by simp;omega
 have C:decide (p.time>1099511627776)=false:=by simp;omega
 by_cases F:100<(p.deps.length:Int)
 .have s:decide ((p.deps.length:Int)>100)=true:=by simp;omega
  have f:iz p.deps=4:=by unfold iz;rw[if_pos F]
  rw[f,if_pos (by decide)]at a;refine aL Tryz.f232 ?_ [100001,300039] [[1,33,31,32]];refine aC (ga @g (ga @B (ga @C @s))) @d ?_;rw[a]
 have s:decide ((p.deps.length:Int)>100)=false:=by simp;omega
 obtain⟨E,t⟩: ∃E,E=iz p.deps:=⟨_,rfl⟩
 have e:E=jy none p.deps:=by rw[t];unfold iz;rw[if_neg F]
 rw[<-t]at a;obtain⟨Y,G⟩: ∃Y:Int,Y=if(p.changes.length:Int)=0 then 1 else if 400<(p.changes.length:Int)then 4 else 0:=⟨_,rfl⟩
 rw[<-G]at a;clear t H l;refine aL Tryz.f232 ?_ [100001,300039] [[1,33,31,32]];refine aC (ga @g (ga @B (ga @C @s))) @d ?_;refine aZ.overI p.deps (λk (b:Option Dg×List aa)=>[(33,iN k)]) (λ_ b=>b.2) (λr b=>jy b.1 r) E (λk b=>b.1=if k=0 then none else p.deps[k-1]?) (none,[]) a8 aA aA rfl e rfl (λk b x hg hk f w c o=> ?_) (λb f c o=> ?_)
 .obtain⟨q,J⟩:=b;dsimp only at c o;cases k with
  |zero=>
   obtain rfl:q=none:=o;have u:decide ((0:Int)<(p.deps.length:Int))=true:=decide_eq_true a8;have z:IntKind.i64.wrap ((0:Int)+1)=1:=by rfl
   have v:p.deps[0]?=some x:=hg;clear f w e
   repeat' first|refine ab (λ_=> ?_) λ_=> ?_|refine aH ?_|refine af.data (zD _ _) rfl ?_|simp only[u,z,v,fy,b9,aM,n0,l9,la,gt_iff_lt,decide_false,wj,wy,qg,aE,reduceCtorEq,reduceIte,Nat.reduceAdd,Nat.reduceMul,Nat.reduceEqDiff,Nat.reduceLT,Nat.reduceLeDiff,Nat.reduceSub,ax,aD,aB,aw]
   .rename_i h;rw[jy,if_pos (by simp[isZero,h])]at c;rw[a,c];simp
   .rename_i h;rw[jy,if_neg (by simp[isZero,h]),if_neg (by simp)]at c;exact⟨(some x,_),rfl,c,rfl⟩
  |succ j=>
   obtain⟨y,A⟩: ∃y,p.deps[j]?=some y:=⟨_,bQ a8⟩
   obtain rfl:q=some y:=by rw[o,if_neg a8];exact A
   have n:IntKind.i64.wrap (((j+1:Nat):Int)-1)=(j:Int):=bN a8 a8;have m:decide (((j+1:Nat):Int)>0)=true:=decide_eq_true a8;clear e
   repeat' first|refine ab (λ_=> ?_) λ_=> ?_|refine aG (ga @f (ga @w (ga @hg (ga @A (ga @n (ga @m (ga @fy (ga @b9 @wj)))))))) @zD ?_|exact aF (ga @f (ga @w (ga @hg (ga @A (ga @n (ga @m (ga @fy (ga @b9 @wj)))))))) @zD|fail
   .rename_i h;rw[jy,if_pos (by simp[isZero,h])]at c;rw[a,c];simp
   .rename_i h i;rw[jy,if_neg (by simp[isZero,h]),if_pos (by simpa using i)]at c;rw[a,c];simp
   .rename_i h i;rw[jy,if_neg (by simp[isZero,h]),if_neg (by simpa using i)]at c;exact⟨(some x,_),rfl,c,by first|(simp;done)|simpa using hg.symm⟩
 .rw[jy]at c;rw[c,if_neg (by simp)]at a
  repeat' first|refine ab (λ_=> ?_) λ_=> ?_|refine aH ?_|simp only[f,wy,qg,aE,reduceCtorEq,reduceIte,Nat.reduceAdd,Nat.reduceMul,Nat.reduceEqDiff,Nat.reduceLT,Nat.reduceLeDiff,Nat.reduceSub,ax,aD,aB,aw]
  all_goals(rw[a,G];simp_all;try omega)
end Go.Proofs.Q
namespace Go.Proofs.Lg
open Go Go.RowKit Go.Shelf Go.Sort
attribute [local go_sem↓] Go.wp_at_zero Go.wp_at_succ
set_option maxHeartbeats 400000 in
theorem Er(a:Int)(w:World):Calls Tryz.prog 211 #[.int .i64 a] w λe w'=>e= .returned (.bool false)/\w=w':=by
 go_enter Tryz.func211,Tryz.ntmps211
 go_wp2
 go_ret
 simp
set_option maxHeartbeats 400000 in
theorem Qp(a b:Int)(w:World):Calls Tryz.prog 138 #[.int .i64 a,.int .i64 b] w λe w'=>e= .returned (.int .i64 (AO a b))/\w=w':=by
 unfold AO;by_cases c:a<b
 .go_enter Tryz.func138,Tryz.ntmps138
  go_wp2_with (go_at_call 211;refine(Er _ _).mono ?_;rintro e w' ⟨rfl,rfl⟩)
  go_ret
  simp
 .by_cases d:b<a
  .go_enter Tryz.func138,Tryz.ntmps138
   go_wp2_with (go_at_call 211;refine(Er _ _).mono ?_;rintro e w' ⟨rfl,rfl⟩)
   go_ret
   simp
  .go_enter Tryz.func138,Tryz.ntmps138
   go_wp2_with (go_at_call 211;refine(Er _ _).mono ?_;rintro e w' ⟨rfl,rfl⟩)
   go_ret
   simp
set_option maxHeartbeats 400000 in
set_option maxRecDepth 100000 in
theorem Ux(x y:List Int)(n m:Int)(j:Bytes x)(k:Bytes y)(a:x.length=32)(b:y.length=32)(w:World):
  Calls Tryz.prog 70 #[.agg (p6 x n),.agg (p6 y m)] w λe w'=>e= .returned (.int .i64 (AN x n y m))/\ ∃q l,w'=grow (w.drewN q) l:=by
 have r:=Jz n a;have s:=Jz m b;have o: ∀h,(p6 x n)[32]'h=Value.int .i64 n:=λh=>(gy.1 (Jy n a)).2;have p: ∀h,(p6 y m)[32]'h=Value.int .i64 m:=λh=>(gy.1 (Jy m b)).2;unfold AN;by_cases c:jB x y=0
 .have f:(jB x y==0)=true:=by simp[c]
  have g:(jB x y !=0)=false:=by simp[c]
  rw[if_pos c];clear c
  go_enter Tryz.func70,Tryz.ntmps70
  go_wp2
  go_quiet ((go_at_call 137;refine Calls.quiet_of_same ((Az _ _ _ _ _ 32 _ _ x y j k a b ?_ ?_).mono λ_ _ h=>⟨h.1,h.2.symm⟩);(intro i z d;exact(xh _ _ _ _ _ _ i _).1 (Bv n i z d));(intro i z d;exact(xh _ _ _ _ _ _ i _).2 (Bv m i z d))))
  go_wp2_with (go_at_call 138;refine(Qp _ _ _).mono ?_;rintro e w' ⟨rfl,rfl⟩)
  go_ret
  exact⟨rfl,nq,_,by rw[alloc_eq_grow,alloc_eq_grow,grow_grow];rfl⟩
 .have f:(jB x y==0)=false:=by simp[c]
  have g:(jB x y !=0)=true:=by simp[c]
  rw[if_neg c];clear c
  go_enter Tryz.func70,Tryz.ntmps70
  go_wp2
  go_quiet ((go_at_call 137;refine Calls.quiet_of_same ((Az _ _ _ _ _ 32 _ _ x y j k a b ?_ ?_).mono λ_ _ h=>⟨h.1,h.2.symm⟩);(intro i z d;exact(xh _ _ _ _ _ _ i _).1 (Bv n i z d));(intro i z d;exact(xh _ _ _ _ _ _ i _).2 (Bv m i z d))))
  go_wp2
  go_ret
  exact⟨rfl,nq,_,by rw[alloc_eq_grow,alloc_eq_grow,grow_grow];rfl⟩
end Go.Proofs.Lg
namespace Go.Proofs.Q
open Go Go.Bb Go.RowKit Go.Proofs.Lg Go.Sort Go.Shelf
open Go.Ab (D RD)
def ft(a b:ak):Bool:=decide (du a b<=0)
theorem CS(d:ak):(dF d).length=33:=by unfold dF;rw[aQ,CN];rfl
theorem wu(a b:ak):du a b=0↔a=b:=by
 unfold du;constructor
 .intro h;by_cases hp:bY a.p b.p=0
  .rw[if_neg (by simpa using hp)]at h;have c:=(k8 _ _).1 hp;have d:a.n=b.n:=by
    split at h
    .omega
    .split at h<;>omega
   cases a;cases b;simp_all
  .rw[if_pos hp]at h;exact absurd h hp
 .rintro rfl;rw[(k8 a.p a.p).2 rfl];simp
theorem Bw(a b:ak):du b a= -du a b:=by
 unfold du;have h:=w8 a.p b.p;rw[h];by_cases hp:bY a.p b.p=0
 .simp only[hp,Int.neg_zero,ne_eq,not_true_eq_false,if_false];by_cases c:a.n<b.n
  .rw[if_neg a8,if_pos c,if_pos c];decide
  .by_cases d:b.n<a.n
   .rw[if_pos d,if_neg c,if_pos d]
   .rw[if_neg d,if_neg c,if_neg c,if_neg d];decide
 .rw[if_pos hp,if_pos a8]
theorem uy{a b c:ak}(e:du a b<0)(d:du b c<0):du a c<0:=by
 have j:=k8 a.p b.p;have k:=k8 b.p c.p;have t:= @nk a.p b.p c.p;unfold du at*;by_cases hp:bY a.p b.p=0
 .have g:=j.1 hp;rw[if_neg (by simpa using hp)]at e;rw[<-g]at d;by_cases f:bY a.p c.p=0
  .rw[if_neg (by simpa using f)]at d⊢;have i:a.n<b.n:=by
    split at e
    .assumption
    .split at e<;>omega
   have l:b.n<c.n:=by
    split at d
    .assumption
    .split at d<;>omega
   rw[if_pos a8];decide
  .rw[if_pos f]at d⊢;exact d
 .rw[if_pos hp]at e;by_cases f:bY b.p c.p=0
  .have h:=k.1 f;rw[<-h,if_pos hp];exact e
  .rw[if_pos f]at d;have i:=t e d;rw[if_pos a8];exact i
theorem wv(a:ak): ¬du a a<0:=by rw[(wu a a).2 rfl];decide
theorem El{a b:ak}(h: ¬du a b<0)(hne:a≠b):du b a<0:=by
 have c:=Bw a b;have d:du a b≠0:=λe=>hne ((wu a b).1 e);omega
theorem Qr(a b:ak):AN a.p.l a.n b.p.l b.n=du a b:=by
 unfold AN du AO;rw[BH _ _ (by rw[a.p.len,b.p.len])];show(if bY a.p b.p=0 then _ else bY a.p b.p)=_;by_cases h:bY a.p b.p=0
 .simp[h]
 .rw[if_neg h,if_pos h]
theorem JA(x:ak):p6 x.p.l x.n=(dF x).toArray:=rfl
theorem Ny(l:List ak): ∀u∈(l.map dF).flatten,u.oneCell'=true:=by
 intro u d;obtain⟨r,c,a⟩:=List.mem_flatten.1 d;obtain⟨x,_,rfl⟩:=bM.1 c;rcases fk.1 a with a|a
 .obtain⟨b,_,rfl⟩:=bM.1 a;rfl
 .obtain rfl:=jH.1 a;rfl
theorem zO(l:List ak):(l.map dF).flatten.length=l.length*33:=by
 rw[Go.Ab.flatten_len (sz:=33) _ λr a=>by obtain⟨x,_,rfl⟩:=bM.1 a;exact CS x,aM]
set_option maxHeartbeats 1000000 in
theorem P8(l:List ak)(g c base:Nat)(w:World)(P:l.length<=1000000)(h0:l≠[])(r:w.ownsRow base 32 33 (.slice (some ⟨g,0,none⟩) l.length c) l.length (l.map dF).flatten):
  Calls Tryz.prog 214 #[.slice (some ⟨g,0,none⟩) l.length c,.func (.func 70) #[] #[]] w λe w'=>
   e= .returned (.tuple #[])/\w'.ownsRow base 32 33 (.slice (some ⟨g,0,none⟩) l.length c) l.length ((l.mergeSort ft).map dF).flatten/\w.grownBy w' (some g):=by
 rcases r.2 with⟨h,_⟩|⟨g',cap,cur,E,hbg,hg,hncap,hcm,hcs,htake⟩
 .simp at h
 obtain⟨rfl,rfl⟩:g=g'/\c=cap:=by simpa using E
 have A:g<w.heap.size:=(gy.1 hg).1;have a: ∀x,∀v∈dF x,v.oneCell'=true:=λx v E=>Ny [x] v (by simpa using E);have f:(flatK dF 33 l.toArray).toList=(l.map dF).flatten:=by rw[Bm dF 33 a8 CS]
 have K:HoldsK dF 33 w g 0 l.toArray:=by
  intro j O;have o:j<l.length*33:=by simpa using O
  refine⟨?_,by simp[World.frozen?,hg]⟩;have G:(flatK dF 33 l.toArray)[j]?=cur[j]? :=by
   rw[<-qG,f,<-htake,s6 o,qG]
  have q:j<(flatK dF 33 l.toArray).size:=by simpa using o
  rw[lZ q]at G;rw[getElem!_pos _ j q];simp only[World.cell?,hg,aw];simp only[kA,l7,if_false];exact G.symm
 have k:CmpLays Tryz.prog 70 #[] dF 33 (λx y=>du x y) g 0 l.toArray.size w:=λm I J _ x y=>by
  have:=Ux x.p.l y.p.l x.n y.n x.p.by_ y.p.by_ x.p.len y.p.len (sortWorldK dF 33 w g 0 m J I);rw[Qr,JA,JA]at this;exact this
 have L:SWO (ltOf (λx y:ak=>du x y)):=by
  unfold ltOf;refine⟨λx=> ?_,λx y z=> ?_,λx y z=> ?_⟩
  .simp[wv]
  .intro a d;simp only[decide_eq_true_eq]at a d⊢;exact uy a d
  .intro a d;simp only[decide_eq_false_iff_not]at a d⊢;intro u;by_cases s:x=y
   .subst s;exact d u
   by_cases t:y=z
   .subst t;exact a u
   exact wv _ (uy u (uy (El d t) (El a s)))
 have M: ∀x y:ak,ltOf (λx y:ak=>du x y) x y=false->ltOf (λx y:ak=>du x y) y x=false->x=y:=by
  intro x y a d;unfold ltOf at a d;simp only[decide_eq_false_iff_not]at a d;have:=Bw x y;exact(wu x y).1 a8
 have key:=AnyQ.slices_SortFunc_total Tryz.laysSortIds 33 Tryz.isAgg32 Tryz.sizeOf32 dF CS a (λx y=>du x y) L 70 #[] g 0 c l.toArray w (enters_fn' Tryz.func70 rfl (by rfl)) k K A (by simp;omega) M;have D:l.toArray.size=l.length:=by simp
 rw[D]at key;refine qJ (show Calls Tryz.prog 214 _ _ _ from key) ?_;rintro e w' ⟨N,m,I,rfl⟩;refine⟨N,?_,Ju _⟩;have C:(l.toArray.toList.mergeSort λx y=> !ltOf (λx y:ak=>du x y) y x)=l.mergeSort ft:=by
  have:(λx y:ak=> !ltOf (λx y:ak=>du x y) y x)=ft:=by
   funext x y;unfold ltOf ft;have:=Bw x y;by_cases h:du x y<=0
   .simp[h];omega
   .simp[h];omega
  rw[this]
 have b:(flatK dF 33 ((l.toArray.toList.mergeSort λx y=> !ltOf (λx y:ak=>du x y) y x).toArray)).toList=((l.mergeSort ft).map dF).flatten:=by
  rw[Bm dF 33 a8 CS,C]
 unfold sortWorldK putRowK;generalize flatK dF 33 ((l.toArray.toList.mergeSort λx y=> !ltOf (λx y:ak=>du x y) y x).toArray)=F at b;have i:F.size=l.length*33:=by rw[<-ic,b,zO,lj]
 have B:F.size<=cur.size:=by rw[i,hcs];omega
 have H:=Nf cur F B;rw[b,i]at H;exact⟨by rw[zO,lj],.inr ⟨g,c,_,rfl,hbg,Jw _ hg,hncap,hcm,by simp[Go.Sort.putCells,hcs],H⟩⟩
end Go.Proofs.Q
