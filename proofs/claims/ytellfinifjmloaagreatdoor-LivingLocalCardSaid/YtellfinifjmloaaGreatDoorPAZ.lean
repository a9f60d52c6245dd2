/- Lemmas. -/
import Derived.Test.YtellfinifjmloaaGreatDoorPAY
set_option linter.unusedVariables false
set_option linter.unusedSimpArgs false
namespace Go.Proofs.Q
open Go Go.Bb Go.RowKit Go.Proofs.Lg
open Go.Ab (D RD)
theorem a3F{B:Nat}{w:World}(h:GW B w):Lib.TabIs Tryz.prog w "internal/strconv.uint64pow10" .u64 Lib.pow10Tab:=by
 obtain⟨c,t,fz,a⟩:=h (1,(kE.map fun z=>Value.int .u64 z).toArray) (by simp[r9]);have hg:Tryz.prog.globalNamed "internal/strconv.uint64pow10"=some 1:=by kernel_rfl
 have b:kE=Lib.pow10Tab:=by decide
 unfold Lib.TabIs World.var?;rw[hg,dP,a,b]
theorem Ra(w:World)(q:Nat)(os:Array Obj):Below w.heap.size w (Go.Sort.grow (w.drewN q) os):=
 ⟨rfl,rfl,rfl,by simp[Go.Sort.grow],fun i hi=>by
  show((w.drewN q).heap++os)[i]?=_;rw[Array.getElem?_append_left (by show i<w.heap.size;omega)];rfl⟩
theorem Ff: ∀(f n:Nat),n<10^(f+1)→l8 f n=Lib.decDigits n
 |0,n,h=>by
  rw[Lib.decDigits,dif_pos (by simpa using h),l8,qa,Nat.mod_eq_of_lt (by simpa using h)]
 |f+1,n,h=>by
  rw[Lib.decDigits,l8];by_cases a:n<10
  ·rw[if_pos a,dif_pos a,qa,Nat.mod_eq_of_lt a]
  ·rw[if_neg a,dif_neg a,Ff f (n/10) a8];rfl
theorem Sc(n:Int)(a: -1099511627776≤n)(b:n≤1099511627776):dec n=⟨(Lib.itoa n).toArray⟩:=by
 unfold dec Lib.itoa;by_cases h:n<0
 ·rw[if_pos h,if_pos h,Ff 19 _ a8];have:(-n).toNat=n.natAbs:=by omega
  rw[this];rfl
 ·rw[if_neg h,if_neg h,Ff 19 _ a8];rfl
theorem Tr:jW:=fun n b c=>by
 refine⟨Go.Proofs.Lh.enters_fn' Tryz.func284 rfl (by rfl),fun I w vs a g f=> ?_⟩
 match vs,a with
 |[u],_=>
  have d:=g 0 u _ rfl rfl;cases d;refine(Tryz.strconv_Itoa n a8 a8 w (a3F f)).mono ?_;rintro e w' ⟨rfl,k,os,rfl⟩;rw[Sc n b c];exact⟨_,rfl,.sc _,Ra _ _ _⟩
theorem indexByte_ge(c:UInt8): ∀l:List UInt8,-1≤Lib.indexByte l c
 |[]=>by rw[Lib.indexByte];omega
 |b::l=>by
  have a:=indexByte_ge c l;rw[Lib.indexByte]
  repeat' split
  all_goals omega
theorem KC(c b:UInt8)(l:List UInt8):decide (Lib.indexByte (b::l) c<0)=(!(b==c)&&decide (Lib.indexByte l c<0)):=by
 have f:=indexByte_ge c l;rw[Lib.indexByte];by_cases h:b=c
 ·simp[h]
 ·have hb:(b==c)=false:=by simpa using h
  rw[hb];by_cases a:Lib.indexByte l c= -1
  ·have:(Lib.indexByte l c== -1)=true:=by simpa using a
   rw[this,a];rfl
  ·have:(Lib.indexByte l c== -1)=false:=by simpa using a
   rw[this];have d:decide (Lib.indexByte l c+1<0)=false:=by simp;omega
   have e:decide (Lib.indexByte l c<0)=false:=by simp;omega
   simp only[jU,if_false,d,e,Bool.not_false,s5]
theorem Ks(x y:Nat)(f:x<256)(g:y<256): ∀l:List UInt8,hasB l x y=(decide (Lib.indexByte l x.toUInt8<0)&&decide (Lib.indexByte l y.toUInt8<0))
 |[]=>by rw[hasB,Lib.indexByte,Lib.indexByte];rfl
 |c::l=>by
  have a:(c==x.toUInt8)=decide (c.toNat=x):=by
   rw[mJ];simp only[beq_iff_eq,decide_eq_true_eq];constructor
   ·rintro rfl;simp;omega
   ·intro h;rw[←h];simp
  have b:(c==y.toUInt8)=decide (c.toNat=y):=by
   rw[mJ];simp only[beq_iff_eq,decide_eq_true_eq];constructor
   ·rintro rfl;simp;omega
   ·intro h;rw[←h];simp
  rw[KC,KC,a,b,hasB,Ks x y f g l];by_cases d:c.toNat=x
  ·simp[d]
  ·by_cases e:c.toNat=y
   ·simp[e]
   ·simp[d,e]
theorem Ot(s:bh)(c:Nat):aG Tryz.prog 242 [dS s,.sc (.int .u8 c)] (dI (Lib.indexByte s.data.toList (c:Int).toNat.toUInt8)):=by
 refine⟨Go.Proofs.Lh.enters_fn' Tryz.func242 rfl (by rfl),fun I w vs a b _=> ?_⟩
 match vs,a with
 |[u,v],_=>
  have d:=b 0 u _ rfl rfl;have f:=b 1 v _ rfl rfl;cases d;cases f;refine(Tryz.strings_IndexByte s c w).mono ?_;rintro e w' ⟨rfl,rfl⟩;exact⟨_,rfl,.sc _,Below.refl _ _⟩
theorem U0(s:bh):aG Tryz.prog 186 [dS s] (dB (la s)):=by
 have c:=Ot s 10;have d:=Ot s 0;have e:la s=(decide ((s.size:Int)≤1000)&&(decide (Lib.indexByte s.data.toList (((10:Nat):Int).toNat.toUInt8)<0)&&decide (Lib.indexByte s.data.toList (((0:Nat):Int).toNat.toUInt8)<0))):=by
  unfold la clean;rw[Ks 10 0 a8 a8];rfl
 rw[e];clear e;generalize Lib.indexByte s.data.toList (((10:Nat):Int).toNat.toUInt8)=a at*;generalize Lib.indexByte s.data.toList (((0:Nat):Int).toNat.toUInt8)=b at*;refine aM (F:=AO) Ww (by simp[AO]) ?_;simp only[AO]
 repeat' first|refine ae (fun _=> ?_) fun _=> ?_|refine ay ab (ga @c @d) ?_|exact ax ab (ga @c @d)|fail
 all_goals first|(simp_all;done)|(simp_all;intros;omega)
set_option maxHeartbeats 2000000 in
theorem Zd(p:aX)(I:z6 p)(K:p.changes.length≤9223372036854775807):aG Tryz.prog 126 [.agg (bc p)] (dI (if isName p.author=false then 5 else if 1000<(p.message.size:Int)then 4 else if p.time<0∨1099511627776<p.time then 2 else if gl p.deps≠0 then gl p.deps else if(p.changes.length:Int)=0 then 1 else if 400<(p.changes.length:Int)then 4 else 0)):=by
 have d:=N5 p.author I.author;obtain⟨X,a⟩: ∃X,X=if isName p.author=false then 5 else if 1000<(p.message.size:Int)then 4 else if p.time<0∨1099511627776<p.time then 2 else if gl p.deps≠0 then gl p.deps else if(p.changes.length:Int)=0 then 1 else if 400<(p.changes.length:Int)then 4 else 0:=⟨_,rfl⟩
 rw[←a];by_cases l:isName p.author=false
 ·rw[if_pos l]at a;rw[l]at d;refine aM (F:=jH) xH (by simp[jH]) ?_;simp only[jH];refine aO ab @d ?_;rw[a]
 rw[if_neg l]at a;rw[show isName p.author=true by simpa using l]at d;by_cases i:1000<(p.message.size:Int)
 ·rw[if_pos i]at a;have g:decide ((p.message.size:Int)>1000)=true:=by simp;omega
  refine aM (F:=jH) xH (by simp[jH]) ?_;simp only[jH];refine aO @g @d ?_;rw[a]
 rw[if_neg i]at a;have g:decide ((p.message.size:Int)>1000)=false:=by simp;omega
 by_cases D:p.time<0∨1099511627776<p.time
 ·rw[if_pos D]at a;refine aM (F:=jH) xH (by simp[jH]) ?_;simp only[jH]
  repeat' first|refine ae (fun _=> ?_) fun _=> ?_|refine ay @g @d ?_|exact ax @g @d|fail
  all_goals first|(rw[a];done)|omega
 rw[if_neg D]at a;have B:decide (p.time<0)=false:=by simp;omega
 have C:decide (p.time>1099511627776)=false:=by simp;omega
 by_cases G:100<(p.deps.length:Int)
 ·have s:decide ((p.deps.length:Int)>100)=true:=by simp;omega
  have f:gl p.deps=4:=by unfold gl;rw[if_pos G]
  rw[f,if_pos (by decide)]at a;refine aM (F:=jH) xH (by simp[jH]) ?_;simp only[jH];refine aO (ga @g (ga @B (ga @C @s))) @d ?_;rw[a]
 have s:decide ((p.deps.length:Int)>100)=false:=by simp;omega
 obtain⟨E,t⟩: ∃E,E=gl p.deps:=⟨_,rfl⟩
 have e:E=iF none p.deps:=by rw[t];unfold gl;rw[if_neg G]
 rw[←t]at a;obtain⟨Y,H⟩: ∃Y:Int,Y=if(p.changes.length:Int)=0 then 1 else if 400<(p.changes.length:Int)then 4 else 0:=⟨_,rfl⟩
 rw[←H]at a;clear t I l;refine aM (F:=jH) xH (by simp[jH]) ?_;simp only[jH];refine aO (ga @g (ga @B (ga @C @s))) @d ?_
 refine aZ.overI p.deps (fun k (b:Option Dg×List aa)=>[(33,iN k)]) (fun _ b=>b.2) (fun r b=>iF b.1 r) E (fun k b=>b.1=if k=0 then none else p.deps[k-1]?) (none,[]) a8 aB aB rfl e rfl (fun k b x hg hk f w c o=> ?_) (fun b f c o=> ?_)
 ·obtain⟨q,J⟩:=b;dsimp only at c o;cases k with
  |zero=>
   obtain rfl:q=none:=o;have u:decide ((0:Int)<(p.deps.length:Int))=true:=decide_eq_true a8;have z:IntKind.i64.wrap ((0:Int)+1)=1:=by rfl
   have v:p.deps[0]?=some x:=hg;clear f w e
   repeat' first|refine ae (fun _=> ?_) fun _=> ?_|refine aL ?_|refine aq.data (yr _ _) rfl ?_|simp only[u,z,v,eo,ba,aQ,lP,lO,lQ,gt_iff_lt,decide_false,wj,wy,qg,aH,reduceCtorEq,reduceIte,Nat.reduceAdd,Nat.reduceMul,Nat.reduceEqDiff,Nat.reduceLT,Nat.reduceLeDiff,Nat.reduceSub,aA,aF,aE,aw]
   ·rename_i h;rw[iF,if_pos (by simp[isZero,h])]at c;rw[a,c];simp
   ·rename_i h;rw[iF,if_neg (by simp[isZero,h]),if_neg (by simp)]at c;exact⟨(some x,_),rfl,c,rfl⟩
  |succ j=>
   obtain⟨y,A⟩: ∃y,p.deps[j]?=some y:=⟨_,bN a8⟩
   obtain rfl:q=some y:=by rw[o,if_neg a8];exact A
   have n:IntKind.i64.wrap (((j+1:Nat):Int)-1)=(j:Int):=bE a8 a8;have m:decide (((j+1:Nat):Int)>0)=true:=decide_eq_true a8;clear e
   repeat' first|refine ae (fun _=> ?_) fun _=> ?_|refine ay (ga @f (ga @w (ga @hg (ga @A (ga @n (ga @m (ga @eo (ga @ba @wj)))))))) @yr ?_|exact ax (ga @f (ga @w (ga @hg (ga @A (ga @n (ga @m (ga @eo (ga @ba @wj)))))))) @yr|fail
   ·rename_i h;rw[iF,if_pos (by simp[isZero,h])]at c;rw[a,c];simp
   ·rename_i h i;rw[iF,if_neg (by simp[isZero,h]),if_pos (by simpa using i)]at c;rw[a,c];simp
   ·rename_i h i;rw[iF,if_neg (by simp[isZero,h]),if_neg (by simpa using i)]at c;exact⟨(some x,_),rfl,c,by first|(simp;done)|simpa using hg.symm⟩
 ·rw[iF]at c;rw[c,if_neg (by simp)]at a
  repeat' first|refine ae (fun _=> ?_) fun _=> ?_|refine aL ?_|simp only[f,wy,qg,aH,reduceCtorEq,reduceIte,Nat.reduceAdd,Nat.reduceMul,Nat.reduceEqDiff,Nat.reduceLT,Nat.reduceLeDiff,Nat.reduceSub,aA,aF,aE,aw]
  all_goals(rw[a,H];simp_all;try omega)
end Go.Proofs.Q
namespace Go.Proofs.Lg
open Go Go.RowKit Go.Shelf Go.Sort
attribute [local go_sem↓] Go.wp_at_zero Go.wp_at_succ
set_option maxHeartbeats 400000 in
theorem FL(a:Int)(w:World):Calls Tryz.prog 148 #[.int .i64 a] w fun e w'=>e= .returned (.bool false)∧w=w':=by
 go_enter Tryz.func148,Tryz.ntmps148
 go_wp2
 go_ret
 simp
set_option maxHeartbeats 400000 in
theorem RR(a b:Int)(w:World):Calls Tryz.prog 93 #[.int .i64 a,.int .i64 b] w fun e w'=>e= .returned (.int .i64 (zy a b))∧w=w':=by
 unfold zy;by_cases c:a<b
 ·go_enter Tryz.func93,Tryz.ntmps93
  go_wp2_with (go_at_call 148;refine(FL _ _).mono ?_;rintro e w' ⟨rfl,rfl⟩)
  go_ret
  simp
 ·by_cases d:b<a
  ·go_enter Tryz.func93,Tryz.ntmps93
   go_wp2_with (go_at_call 148;refine(FL _ _).mono ?_;rintro e w' ⟨rfl,rfl⟩)
   go_ret
   simp
  ·go_enter Tryz.func93,Tryz.ntmps93
   go_wp2_with (go_at_call 148;refine(FL _ _).mono ?_;rintro e w' ⟨rfl,rfl⟩)
   go_ret
   simp
set_option maxHeartbeats 400000 in
set_option maxRecDepth 100000 in
theorem Z3(x y:List Int)(n m:Int)(j:Bytes x)(k:Bytes y)(a:x.length=32)(b:y.length=32)(w:World):
  Calls Tryz.prog 52 #[.agg (nW x n),.agg (nW y m)] w fun e w'=>e= .returned (.int .i64 (zx x n y m))∧ ∃q os,w'=grow (w.drewN q) os:=by
 have p:=Kw n a;have r:=Kw m b;have l: ∀h,(nW x n)[32]'h=Value.int .i64 n:=fun h=>(fB.1 (Kv n a)).2;have o: ∀h,(nW y m)[32]'h=Value.int .i64 m:=fun h=>(fB.1 (Kv m b)).2;unfold zx;by_cases c:iJ x y=0
 ·have f:(iJ x y==0)=true:=by simp[c]
  have g:(iJ x y !=0)=false:=by simp[c]
  rw[if_pos c];clear c
  go_enter Tryz.func52,Tryz.ntmps52
  go_wp2
  go_quiet ((go_at_call 92;refine Calls.quiet_of_same ((zl _ _ _ _ _ 32 _ _ x y j k a b ?_ ?_).mono fun _ _ h=>⟨h.1,h.2.symm⟩);(intro i z d;exact(vV _ _ _ _ _ _ i _).1 (Aa n i z d));(intro i z d;exact(vV _ _ _ _ _ _ i _).2 (Aa m i z d))))
  go_wp2_with (go_at_call 93;refine(RR _ _ _).mono ?_;rintro e w' ⟨rfl,rfl⟩)
  go_ret
  exact⟨rfl,nq,_,by rw[alloc_eq_grow,alloc_eq_grow,grow_grow];rfl⟩
 ·have f:(iJ x y==0)=false:=by simp[c]
  have g:(iJ x y !=0)=true:=by simp[c]
  rw[if_neg c];clear c
  go_enter Tryz.func52,Tryz.ntmps52
  go_wp2
  go_quiet ((go_at_call 92;refine Calls.quiet_of_same ((zl _ _ _ _ _ 32 _ _ x y j k a b ?_ ?_).mono fun _ _ h=>⟨h.1,h.2.symm⟩);(intro i z d;exact(vV _ _ _ _ _ _ i _).1 (Aa n i z d));(intro i z d;exact(vV _ _ _ _ _ _ i _).2 (Aa m i z d))))
  go_wp2
  go_ret
  exact⟨rfl,nq,_,by rw[alloc_eq_grow,alloc_eq_grow,grow_grow];rfl⟩
end Go.Proofs.Lg
namespace Go.Proofs.Q
open Go Go.Bb Go.RowKit Go.Proofs.Lg Go.Sort Go.Shelf
open Go.Ab (D RD)
def eN(a b:af):Bool:=decide (cY a b≤0)
theorem Ev(d:af):(df d).length=33:=by unfold df;rw[aR,Es];rfl
theorem va(a b:af):cY a b=0↔a=b:=by
 unfold cY;constructor
 ·intro h;by_cases hp:bS a.p b.p=0
  ·rw[if_neg (by simpa using hp)]at h;have c:=(jz _ _).1 hp;have d:a.n=b.n:=by
    split at h
    ·omega
    ·split at h<;>omega
   cases a;cases b;simp_all
  ·rw[if_pos hp]at h;exact absurd h hp
 ·rintro rfl;rw[(jz a.p a.p).2 rfl];simp
theorem Ac(a b:af):cY b a= -cY a b:=by
 unfold cY;have h:=uO a.p b.p;rw[h];by_cases hp:bS a.p b.p=0
 ·simp only[hp,Int.neg_zero,ne_eq,not_true_eq_false,if_false];by_cases c:a.n<b.n
  ·rw[if_neg a8,if_pos c,if_pos c];decide
  ·by_cases d:b.n<a.n
   ·rw[if_pos d,if_neg c,if_pos d]
   ·rw[if_neg d,if_neg c,if_neg c,if_neg d];decide
 ·rw[if_pos hp,if_pos a8]
theorem sG{a b c:af}(e:cY a b<0)(d:cY b c<0):cY a c<0:=by
 have j:=jz a.p b.p;have k:=jz b.p c.p;have t:= @n0 a.p b.p c.p;unfold cY at*;by_cases hp:bS a.p b.p=0
 ·have g:=j.1 hp;rw[if_neg (by simpa using hp)]at e;rw[←g]at d;by_cases f:bS a.p c.p=0
  ·rw[if_neg (by simpa using f)]at d⊢;have i:a.n<b.n:=by
    split at e
    ·assumption
    ·split at e<;>omega
   have l:b.n<c.n:=by
    split at d
    ·assumption
    ·split at d<;>omega
   rw[if_pos a8];decide
  ·rw[if_pos f]at d⊢;exact d
 ·rw[if_pos hp]at e;by_cases f:bS b.p c.p=0
  ·have h:=k.1 f;rw[←h,if_pos hp];exact e
  ·rw[if_pos f]at d;have i:=t e d;rw[if_pos a8];exact i
theorem vb(a:af): ¬cY a a<0:=by rw[(va a a).2 rfl];decide
theorem FI{a b:af}(h: ¬cY a b<0)(hne:a≠b):cY b a<0:=by
 have c:=Ac a b;have d:cY a b≠0:=fun e=>hne ((va a b).1 e);omega
theorem RU(a b:af):zx a.p.l a.n b.p.l b.n=cY a b:=by
 unfold zx cY zy;rw[Dq _ _ (by rw[a.p.len,b.p.len])];show(if bS a.p b.p=0 then _ else bS a.p b.p)=_;by_cases h:bS a.p b.p=0
 ·simp[h]
 ·rw[if_neg h,if_pos h]
theorem Kx(x:af):nW x.p.l x.n=(df x).toArray:=rfl
theorem Ph(l:List af): ∀u∈(l.map df).flatten,u.oneCell'=true:=by
 intro u d;obtain⟨r,c,a⟩:=List.mem_flatten.1 d;obtain⟨x,_,rfl⟩:=bR.1 c;rcases eJ.1 a with a|a
 ·obtain⟨b,_,rfl⟩:=bR.1 a;rfl
 ·obtain rfl:=iB.1 a;rfl
theorem yD(l:List af):(l.map df).flatten.length=l.length*33:=by
 rw[Go.Ab.flatten_len (sz:=33) _ fun r a=>by obtain⟨x,_,rfl⟩:=bR.1 a;exact Ev x,aQ]
set_option maxHeartbeats 1000000 in
theorem QD(l:List af)(g c base:Nat)(w:World)(P:l.length≤1000000)(O:l≠[])(r:w.ownsRow base 27 33 (.slice (some ⟨g,0,none⟩) l.length c) l.length (l.map df).flatten):
  Calls Tryz.prog 51 #[.slice (some ⟨g,0,none⟩) l.length c,.func (.func 52) #[] #[]] w fun e w'=>
   e= .returned (.tuple #[])∧w'.ownsRow base 27 33 (.slice (some ⟨g,0,none⟩) l.length c) l.length ((l.mergeSort eN).map df).flatten∧w.grownBy w' (some g):=by
 rcases r.2 with⟨h,_⟩|⟨g',cap,cur,E,hbg,hg,hncap,hcm,hcs,htake⟩
 ·simp at h
 obtain⟨rfl,rfl⟩:g=g'∧c=cap:=by simpa using E
 have A:g<w.heap.size:=(fB.1 hg).1;have a: ∀x,∀v∈df x,v.oneCell'=true:=fun x v E=>Ph [x] v (by simpa using E);have f:(flatK df 33 l.toArray).toList=(l.map df).flatten:=by rw[zZ df 33 a8 Ev]
 have J:HoldsK df 33 w g 0 l.toArray:=by
  intro j N;have o:j<l.length*33:=by simpa using N
  refine⟨?_,by simp[World.frozen?,hg]⟩;have G:(flatK df 33 l.toArray)[j]?=cur[j]? :=by
   rw[←rY,f,←htake,qB o,rY]
  have q:j<(flatK df 33 l.toArray).size:=by simpa using o
  rw[mI q]at G;rw[getElem!_pos _ j q];simp only[World.cell?,hg,aw];simp only[nK,jU,if_false];exact G.symm
 have k:CmpLays Tryz.prog 52 #[] df 33 (fun x y=>cY x y) g 0 l.toArray.size w:=fun m os I _ x y=>by
  have:=Z3 x.p.l y.p.l x.n y.n x.p.by_ y.p.by_ x.p.len y.p.len (sortWorldK df 33 w g 0 m I os);rw[RU,Kx,Kx]at this;exact this
 have K:SWO (ltOf (fun x y:af=>cY x y)):=by
  unfold ltOf;refine⟨fun x=> ?_,fun x y z=> ?_,fun x y z=> ?_⟩
  ·simp[vb]
  ·intro a d;simp only[decide_eq_true_eq]at a d⊢;exact sG a d
  ·intro a d;simp only[decide_eq_false_iff_not]at a d⊢;intro u;by_cases s:x=y
   ·subst s;exact d u
   by_cases t:y=z
   ·subst t;exact a u
   exact vb _ (sG u (sG (FI d t) (FI a s)))
 have L: ∀x y:af,ltOf (fun x y:af=>cY x y) x y=false→ltOf (fun x y:af=>cY x y) y x=false→x=y:=by
  intro x y a d;unfold ltOf at a d;simp only[decide_eq_false_iff_not]at a d;have:=Ac x y;exact(va x y).1 a8
 have key:=AnyQ.slices_SortFunc_total Tryz.laysSortIds 33 Tryz.isAgg27 Tryz.sizeOf27 df Ev a (fun x y=>cY x y) K 52 #[] g 0 c l.toArray w (enters_fn' Tryz.func52 rfl (by rfl)) k J A (by simp;omega) L;have D:l.toArray.size=l.length:=by simp
 rw[D]at key;refine Calls.mono (show Calls Tryz.prog 51 _ _ _ from key) ?_;rintro e w' ⟨M,m,os,rfl⟩;refine⟨M,?_,Kr _⟩;have C:(l.toArray.toList.mergeSort fun x y=> !ltOf (fun x y:af=>cY x y) y x)=l.mergeSort eN:=by
  have:(fun x y:af=> !ltOf (fun x y:af=>cY x y) y x)=eN:=by
   funext x y;unfold ltOf eN;have:=Ac x y;by_cases h:cY x y≤0
   ·simp[h];omega
   ·simp[h];omega
  rw[this]
 have b:(flatK df 33 ((l.toArray.toList.mergeSort fun x y=> !ltOf (fun x y:af=>cY x y) y x).toArray)).toList=((l.mergeSort eN).map df).flatten:=by
  rw[zZ df 33 a8 Ev,C]
 unfold sortWorldK putRowK;generalize flatK df 33 ((l.toArray.toList.mergeSort fun x y=> !ltOf (fun x y:af=>cY x y) y x).toArray)=F at b;have i:F.size=l.length*33:=by rw[←gz,b,yD,mP]
 have B:F.size≤cur.size:=by rw[i,hcs];omega
 have H:=P6 cur F B;rw[b,i]at H;exact⟨by rw[yD,mP],.inr ⟨g,c,_,rfl,hbg,Kt _ hg,hncap,hcm,by simp[Go.Sort.putCells,hcs],H⟩⟩
end Go.Proofs.Q
