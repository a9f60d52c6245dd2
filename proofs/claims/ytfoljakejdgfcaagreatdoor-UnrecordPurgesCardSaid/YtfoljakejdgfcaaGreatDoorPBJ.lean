/- Part of a proof. -/
import Derived.Test.YtfoljakejdgfcaaGreatDoorPBI
set_option linter.unusedVariables false
set_option linter.unusedSimpArgs false
namespace Go.Proofs.Q
open Go Go.Bb Go.RowKit Go.Proofs.Lg
open Go.Ab (D RD)
theorem YD{B:Nat}{w:World}(h:GW B w):Lib.TabIs Tryz.prog w "internal/strconv.uint64pow10" .u64 Lib.pow10Tab:=by
 obtain⟨c,t,fz,a⟩:=h (1,(vN.map fun z=>Value.int .u64 z).toArray) (by simp[Dp]);have hg:Tryz.prog.globalNamed "internal/strconv.uint64pow10"=some 1:=by kernel_rfl
 have b:vN=Lib.pow10Tab:=by decide
 unfold Lib.TabIs World.var?;rw[hg,dF,a,b]
theorem Nn(w:World)(q:Nat)(os:Array Obj):Below w.heap.size w (Go.Sort.grow (w.drewN q) os):=
 ⟨rfl,rfl,rfl,by simp[Go.Sort.grow],fun i hi=>by
  show((w.drewN q).heap++os)[i]?=_;rw[Co (by show i<w.heap.size;omega)];rfl⟩
theorem D7: ∀(f n:Nat),n<10^(f+1)→kg f n=Lib.decDigits n
 |0,n,h=>by
  rw[Lib.decDigits,dif_pos (by simpa using h),kg,oB,Nat.mod_eq_of_lt (by simpa using h)]
 |f+1,n,h=>by
  rw[Lib.decDigits,kg];by_cases a:n<10
  ·rw[if_pos a,dif_pos a,oB,Nat.mod_eq_of_lt a]
  ·rw[if_neg a,dif_neg a,D7 f (n/10) a8];rfl
theorem Oi(n:Int)(h0: -1099511627776≤n)(a:n≤1099511627776):dec n=⟨(Lib.itoa n).toArray⟩:=by
 unfold dec Lib.itoa;by_cases h:n<0
 ·rw[if_pos h,if_pos h,D7 19 _ a8];have:(-n).toNat=n.natAbs:=by omega
  rw[this];rfl
 ·rw[if_neg h,if_neg h,D7 19 _ a8];rfl
theorem PI:jr:=fun n h0 b=>by
 refine⟨Go.Proofs.Lh.enters_fn' Tryz.func270 rfl (by rfl),fun I w vs a f d=> ?_⟩
 match vs,a with
 |[u],_=>
  have c:=f 0 u _ rfl rfl;cases c;refine(Tryz.strconv_Itoa n a8 a8 w (YD d)).mono ?_;rintro e w' ⟨rfl,k,os,rfl⟩;rw[Oi n h0 b];exact⟨_,rfl,.sc _,Nn _ _ _⟩
theorem indexByte_ge(c:UInt8): ∀l:List UInt8,-1≤Lib.indexByte l c
 |[]=>by rw[Lib.indexByte];omega
 |b::l=>by
  have a:=indexByte_ge c l;rw[Lib.indexByte]
  repeat' split
  all_goals omega
theorem HY(c b:UInt8)(l:List UInt8):decide (Lib.indexByte (b::l) c<0)=(!(b==c)&&decide (Lib.indexByte l c<0)):=by
 have f:=indexByte_ge c l;rw[Lib.indexByte];by_cases h:b=c
 ·simp[h]
 ·have hb:(b==c)=false:=by simpa using h
  rw[hb];by_cases a:Lib.indexByte l c= -1
  ·have:(Lib.indexByte l c== -1)=true:=by simpa using a
   rw[this,a];rfl
  ·have:(Lib.indexByte l c== -1)=false:=by simpa using a
   rw[this];have d:decide (Lib.indexByte l c+1<0)=false:=by simp;omega
   have e:decide (Lib.indexByte l c<0)=false:=by simp;omega
   simp only[jo,if_false,d,e,Bool.not_false,Bool.true_and]
theorem HP(x y:Nat)(f:x<256)(g:y<256): ∀l:List UInt8,hasB l x y=(decide (Lib.indexByte l x.toUInt8<0)&&decide (Lib.indexByte l y.toUInt8<0))
 |[]=>by rw[hasB,Lib.indexByte,Lib.indexByte];rfl
 |c::l=>by
  have a:(c==x.toUInt8)=decide (c.toNat=x):=by
   rw[nQ];simp only[beq_iff_eq,decide_eq_true_eq];constructor
   ·rintro rfl;simp;omega
   ·intro h;rw[←h];simp
  have b:(c==y.toUInt8)=decide (c.toNat=y):=by
   rw[nQ];simp only[beq_iff_eq,decide_eq_true_eq];constructor
   ·rintro rfl;simp;omega
   ·intro h;rw[←h];simp
  rw[HY,HY,a,b,hasB,HP x y f g l];by_cases d:c.toNat=x
  ·simp[d]
  ·by_cases e:c.toNat=y
   ·simp[e]
   ·simp[d,e]
theorem L1(s:aZ)(c:Nat):aE Tryz.prog 235 [dS s,.sc (.int .u8 c)] (dI (Lib.indexByte s.data.toList (c:Int).toNat.toUInt8)):=by
 refine⟨Go.Proofs.Lh.enters_fn' Tryz.func235 rfl (by rfl),fun I w vs a b _=> ?_⟩
 match vs,a with
 |[u,v],_=>
  have d:=b 0 u _ rfl rfl;have f:=b 1 v _ rfl rfl;cases d;cases f;refine(Tryz.strings_IndexByte s c w).mono ?_;rintro e w' ⟨rfl,rfl⟩;exact⟨_,rfl,.sc _,Below.refl _ _⟩
theorem Q6(s:aZ):aE Tryz.prog 181 [dS s] (dB (kj s)):=by
 have c:=L1 s 10;have d:=L1 s 0;have e:kj s=(decide ((s.size:Int)≤1000)&&(decide (Lib.indexByte s.data.toList (((10:Nat):Int).toNat.toUInt8)<0)&&decide (Lib.indexByte s.data.toList (((0:Nat):Int).toNat.toUInt8)<0))):=by
  unfold kj clean;rw[HP 10 0 a8 a8];rfl
 rw[e];clear e;generalize Lib.indexByte s.data.toList (((10:Nat):Int).toNat.toUInt8)=a at*;generalize Lib.indexByte s.data.toList (((0:Nat):Int).toNat.toUInt8)=b at*;refine aI (F:=yQ) RJ (by simp[yQ]) ?_;simp only[yQ]
 repeat' first|refine ak (fun _=> ?_) fun _=> ?_|refine bb trivial (ga @c @d) ?_|exact ba trivial (ga @c @d)|fail
 all_goals first|(simp_all;done)|(simp_all;intros;omega)
end Go.Proofs.Q
namespace Go.Proofs.Lg
open Go Go.RowKit Go.Shelf Go.Sort
attribute [local go_sem↓] Go.wp_at_zero Go.wp_at_succ
set_option maxHeartbeats 400000 in
theorem Dx(a:Int)(w:World):Calls Tryz.prog 198 #[.int .i64 a] w fun e w'=>e= .returned (.bool false)∧w=w':=by
 go_enter Tryz.func198,Tryz.ntmps198
 go_wp2
 go_ret
 simp
set_option maxHeartbeats 400000 in
theorem NV(a b:Int)(w:World):Calls Tryz.prog 142 #[.int .i64 a,.int .i64 b] w fun e w'=>e= .returned (.int .i64 (xA a b))∧w=w':=by
 unfold xA;by_cases c:a<b
 ·go_enter Tryz.func142,Tryz.ntmps142
  go_wp2_with (go_at_call 198;refine(Dx _ _).mono ?_;rintro e w' ⟨rfl,rfl⟩)
  go_ret
  simp
 ·by_cases d:b<a
  ·go_enter Tryz.func142,Tryz.ntmps142
   go_wp2_with (go_at_call 198;refine(Dx _ _).mono ?_;rintro e w' ⟨rfl,rfl⟩)
   go_ret
   simp
  ·go_enter Tryz.func142,Tryz.ntmps142
   go_wp2_with (go_at_call 198;refine(Dx _ _).mono ?_;rintro e w' ⟨rfl,rfl⟩)
   go_ret
   simp
set_option maxHeartbeats 400000 in
set_option maxRecDepth 100000 in
theorem Ub(x y:List Int)(n m:Int)(j:Bytes x)(k:Bytes y)(a:x.length=32)(b:y.length=32)(w:World):
  Calls Tryz.prog 97 #[.agg (mz x n),.agg (mz y m)] w fun e w'=>e= .returned (.int .i64 (xz x n y m))∧ ∃q os,w'=grow (w.drewN q) os:=by
 have p:=HT n a;have r:=HT m b;have l: ∀h,(mz x n)[32]'h=Value.int .i64 n:=fun h=>(fK.1 (HS n a)).2;have o: ∀h,(mz y m)[32]'h=Value.int .i64 m:=fun h=>(fK.1 (HS m b)).2;unfold xz;by_cases c:iu x y=0
 ·have f:(iu x y==0)=true:=by simp[c]
  have g:(iu x y !=0)=false:=by simp[c]
  rw[if_pos c];clear c
  go_enter Tryz.func97,Tryz.ntmps97
  go_wp2
  go_quiet ((go_at_call 141;refine Calls.quiet_of_same ((xo _ _ _ _ _ 32 _ _ x y j k a b ?_ ?_).mono fun _ _ h=>⟨h.1,h.2.symm⟩);(intro i z d;exact(uw _ _ _ _ _ _ i _).1 (yi n i z d));(intro i z d;exact(uw _ _ _ _ _ _ i _).2 (yi m i z d))))
  go_wp2_with (go_at_call 142;refine(NV _ _ _).mono ?_;rintro e w' ⟨rfl,rfl⟩)
  go_ret
  exact⟨rfl,nq,_,by rw[alloc_eq_grow,alloc_eq_grow,grow_grow];rfl⟩
 ·have f:(iu x y==0)=false:=by simp[c]
  have g:(iu x y !=0)=true:=by simp[c]
  rw[if_neg c];clear c
  go_enter Tryz.func97,Tryz.ntmps97
  go_wp2
  go_quiet ((go_at_call 141;refine Calls.quiet_of_same ((xo _ _ _ _ _ 32 _ _ x y j k a b ?_ ?_).mono fun _ _ h=>⟨h.1,h.2.symm⟩);(intro i z d;exact(uw _ _ _ _ _ _ i _).1 (yi n i z d));(intro i z d;exact(uw _ _ _ _ _ _ i _).2 (yi m i z d))))
  go_wp2
  go_ret
  exact⟨rfl,nq,_,by rw[alloc_eq_grow,alloc_eq_grow,grow_grow];rfl⟩
end Go.Proofs.Lg
namespace Go.Proofs.Q
open Go Go.Bb Go.RowKit Go.Proofs.Lg Go.Sort Go.Shelf
open Go.Ab (D RD)
def fP(a b:ar):Bool:=decide (en a b≤0)
theorem Cf(d:ar):(cJ d).length=33:=by unfold cJ;rw[aN,Cc];rfl
theorem vu(a b:ar):en a b=0↔a=b:=by
 unfold en;constructor
 ·intro h;by_cases c:cQ a.p b.p=0
  ·rw[if_neg (by simpa using c)]at h;have d:=(lz _ _).1 c;have e:a.n=b.n:=by
    split at h
    ·omega
    ·split at h<;>omega
   cases a;cases b;simp_all
  ·rw[if_pos c]at h;exact absurd h c
 ·rintro rfl;rw[(lz a.p a.p).2 rfl];simp
theorem Ds(a b:ar):en b a= -en a b:=by
 unfold en;have h:=va a.p b.p;rw[h];by_cases e:cQ a.p b.p=0
 ·simp only[e,Int.neg_zero,ne_eq,not_true_eq_false,if_false];by_cases c:a.n<b.n
  ·rw[if_neg a8,if_pos c,if_pos c];decide
  ·by_cases d:b.n<a.n
   ·rw[if_pos d,if_neg c,if_pos d]
   ·rw[if_neg d,if_neg c,if_neg c,if_neg d];decide
 ·rw[if_pos e,if_pos a8]
theorem yj{a b c:ar}(e:en a b<0)(d:en b c<0):en a c<0:=by
 have k:=lz a.p b.p;have l:=lz b.p c.p;have t:= @oA a.p b.p c.p;unfold en at*;by_cases g:cQ a.p b.p=0
 ·have h:=k.1 g;rw[if_neg (by simpa using g)]at e;rw[←h]at d;by_cases f:cQ a.p c.p=0
  ·rw[if_neg (by simpa using f)]at d⊢;have j:a.n<b.n:=by
    split at e
    ·assumption
    ·split at e<;>omega
   have m:b.n<c.n:=by
    split at d
    ·assumption
    ·split at d<;>omega
   rw[if_pos a8];decide
  ·rw[if_pos f]at d⊢;exact d
 ·rw[if_pos g]at e;by_cases f:cQ b.p c.p=0
  ·have i:=l.1 f;rw[←i,if_pos g];exact e
  ·rw[if_pos f]at d;have j:=t e d;rw[if_pos a8];exact j
theorem HW(a:ar): ¬en a a<0:=by rw[(vu a a).2 rfl];decide
theorem HV{a b:ar}(h: ¬en a b<0)(hne:a≠b):en b a<0:=by
 have c:=Ds a b;have d:en a b≠0:=fun e=>hne ((vu a b).1 e);omega
theorem NX(a b:ar):xz a.p.l a.n b.p.l b.n=en a b:=by
 unfold xz en xA;rw[Bn _ _ (by rw[a.p.len,b.p.len])];show(if cQ a.p b.p=0 then _ else cQ a.p b.p)=_;by_cases h:cQ a.p b.p=0
 ·simp[h]
 ·rw[if_neg h,if_pos h]
theorem HU(x:ar):mz x.p.l x.n=(cJ x).toArray:=rfl
theorem LP(l:List ar): ∀u∈(l.map cJ).flatten,u.oneCell'=true:=by
 intro u d;obtain⟨r,c,a⟩:=List.mem_flatten.1 d;obtain⟨x,_,rfl⟩:=cy.1 c;rcases fL.1 a with a|a
 ·obtain⟨b,_,rfl⟩:=cy.1 a;rfl
 ·obtain rfl:=pw.1 a;rfl
theorem wG(l:List ar):(l.map cJ).flatten.length=l.length*33:=by
 rw[Go.Ab.flatten_len (sz:=33) _ fun r a=>by obtain⟨x,_,rfl⟩:=cy.1 a;exact Cf x,aL]
set_option maxHeartbeats 1000000 in
theorem MY(l:List ar)(g c base:Nat)(w:World)(O:l.length≤1000000)(h0:l≠[])(r:w.ownsRow base 60 33 (.slice (some ⟨g,0,none⟩) l.length c) l.length (l.map cJ).flatten):
  Calls Tryz.prog 194 #[.slice (some ⟨g,0,none⟩) l.length c,.func (.func 97) #[] #[]] w fun e w'=>
   e= .returned (.tuple #[])∧w'.ownsRow base 60 33 (.slice (some ⟨g,0,none⟩) l.length c) l.length ((l.mergeSort fP).map cJ).flatten∧w.grownBy w' (some g):=by
 rcases r.2 with⟨h,_⟩|⟨g',cap,cur,E,hbg,hg,hncap,hcm,hcs,htake⟩
 ·simp at h
 obtain⟨rfl,rfl⟩:g=g'∧c=cap:=by simpa using E
 have A:g<w.heap.size:=(fK.1 hg).1;have a: ∀x,∀v∈cJ x,v.oneCell'=true:=fun x v E=>LP [x] v (by simpa using E);have f:(flatK cJ 33 l.toArray).toList=(l.map cJ).flatten:=by rw[ye cJ 33 a8 Cf]
 have J:HoldsK cJ 33 w g 0 l.toArray:=by
  intro j N;have o:j<l.length*33:=by simpa using N
  refine⟨?_,by simp[World.frozen?,hg]⟩;have G:(flatK cJ 33 l.toArray)[j]?=cur[j]? :=by
   rw[←nP,f,←htake,pq o,nP]
  have q:j<(flatK cJ 33 l.toArray).size:=by simpa using o
  rw[jL q]at G;rw[getElem!_pos _ j q];simp only[World.cell?,hg,au];simp only[jV,jo,if_false];exact G.symm
 have k:CmpLays Tryz.prog 97 #[] cJ 33 (fun x y=>en x y) g 0 l.toArray.size w:=fun m os I _ x y=>by
  have:=Ub x.p.l y.p.l x.n y.n x.p.by_ y.p.by_ x.p.len y.p.len (sortWorldK cJ 33 w g 0 m I os);rw[NX,HU,HU]at this;exact this
 have K:SWO (ltOf (fun x y:ar=>en x y)):=by
  unfold ltOf;refine⟨fun x=> ?_,fun x y z=> ?_,fun x y z=> ?_⟩
  ·simp[HW]
  ·intro a d;simp only[decide_eq_true_eq]at a d⊢;exact yj a d
  ·intro a d;simp only[decide_eq_false_iff_not]at a d⊢;intro u;by_cases s:x=y
   ·subst s;exact d u
   by_cases t:y=z
   ·subst t;exact a u
   exact HW _ (yj u (yj (HV d t) (HV a s)))
 have L: ∀x y:ar,ltOf (fun x y:ar=>en x y) x y=false→ltOf (fun x y:ar=>en x y) y x=false→x=y:=by
  intro x y a d;unfold ltOf at a d;simp only[decide_eq_false_iff_not]at a d;have:=Ds x y;exact(vu x y).1 a8
 have key:=AnyQ.slices_SortFunc_total Tryz.laysSortIds 33 Tryz.isAgg60 Tryz.sizeOf60 cJ Cf a (fun x y=>en x y) K 97 #[] g 0 c l.toArray w (enters_fn' Tryz.func97 rfl (by rfl)) k J A (by simp;omega) L;have D:l.toArray.size=l.length:=by simp
 rw[D]at key;refine nT (show Calls Tryz.prog 194 _ _ _ from key) ?_;rintro e w' ⟨M,m,os,rfl⟩;refine⟨M,?_,HO _⟩;have C:(l.toArray.toList.mergeSort fun x y=> !ltOf (fun x y:ar=>en x y) y x)=l.mergeSort fP:=by
  have:(fun x y:ar=> !ltOf (fun x y:ar=>en x y) y x)=fP:=by
   funext x y;unfold ltOf fP;have:=Ds x y;by_cases h:en x y≤0
   ·simp[h];omega
   ·simp[h];omega
  rw[this]
 have b:(flatK cJ 33 ((l.toArray.toList.mergeSort fun x y=> !ltOf (fun x y:ar=>en x y) y x).toArray)).toList=((l.mergeSort fP).map cJ).flatten:=by
  rw[ye cJ 33 a8 Cf,C]
 unfold sortWorldK putRowK;generalize flatK cJ 33 ((l.toArray.toList.mergeSort fun x y=> !ltOf (fun x y:ar=>en x y) y x).toArray)=F at b;have i:F.size=l.length*33:=by rw[←jM,b,wG,kJ]
 have B:F.size≤cur.size:=by rw[i,hcs];omega
 have H:=Ly cur F B;rw[b,i]at H;exact⟨by rw[wG,kJ],.inr ⟨g,c,_,rfl,hbg,HQ _ hg,hncap,hcm,by simp[Go.Sort.putCells,hcs],H⟩⟩
end Go.Proofs.Q
namespace Go.Proofs.Q
open Go Go.Bb Go.RowKit Go.Proofs.Lg
open Go.Ab (D RD)
def El(r:aP×Dg×Int):D:= .tup [.sl 37 (r.1.map b8),.agg (aq r.2.1),dI r.2.2]
set_option maxHeartbeats 2000000 in
theorem Ek(s:aP)(p:b9)(f:iC s)(e:cV p)(w:pn p.changes):aE Tryz.prog 19 [.sl 37 (s.map b8),.agg (bk p)] (El (uQ bE s p)):=by
 have k:=f.len;have a:=Ei p e;obtain⟨d,i⟩: ∃d,d=(dh bE p).1:=⟨_,rfl⟩
 unfold uQ;rw[←i]at a⊢;have c:=vQ s d;by_cases b:(dh bE p).2=0
 ·rw[if_neg (by simpa using b)];rw[b]at a;cases hg:bM s d with
  |some q=>
   rw[hg]at c;have u:=K6 p q w.len;dsimp only;clear f e i b hg;refine aI (F:=ir) tV (by simp[ir]) ?_;simp only[ir]
   repeat' first|refine ak (fun _=> ?_) fun _=> ?_|refine bb (ga @eV (ga @bc (ga @ew (ga @c9 @wj)))) (ga @a (ga @c @u)) ?_|exact ba (ga @eV (ga @bc (ga @ew (ga @c9 @wj)))) (ga @a (ga @c @u))|fail
   all_goals first|rfl|(rename_i h;first|(rw[if_pos h];rfl)|(rw[if_neg h];rfl))
  |none=>
   rw[hg]at c;dsimp only;have l:=BE s a8;have m:=vO p e;have j:=Ke s p d f w;have n:=Vn s ⟨d,p⟩ k;by_cases o:gj (bA s) (bB p)=false
   ·rw[if_pos o];have g:=nD (bA s) (bB p);rw[o]at g;clear f e i b hg j n;refine aI (F:=ir) tV (by simp[ir]) ?_;simp only[ir]
    repeat' first|refine ak (fun _=> ?_) fun _=> ?_|refine aD ?_|refine aj.data (a) rfl ?_|refine aj.data (c) rfl ?_|refine aj.data (l) rfl ?_|refine aj.data (m) rfl ?_|refine aj.data (g) rfl ?_|simp only[eV,bc,aL,ew,c9,bne_self_eq_false,kL,jV,wj,wy,qg,aC,reduceCtorEq,reduceIte,Nat.reduceAdd,Nat.reduceMul,Nat.reduceEqDiff,Nat.reduceLT,Nat.reduceLeDiff,Nat.reduceSub,ax,aB,ay,au]
    all_goals first|rfl|(rename_i h;first|(rw[if_pos h];rfl)|(rw[if_neg h];rfl))
   ·rw[if_neg o];have g:=nD (bA s) (bB p);rw[show gj (bA s) (bB p)=true by simpa using o]at g;by_cases r:mI bE s d p.changes=0
    ·rw[if_neg (by simpa using r)];rw[r]at j;by_cases v:400≤s.length
     ·have t:decide ((s.length:Int)≥400)=true:=by simp;omega
      rw[if_pos v];clear f e i b hg n;refine aI (F:=ir) tV (by simp[ir]) ?_;simp only[ir]
      repeat' first|refine ak (fun _=> ?_) fun _=> ?_|refine aD ?_|refine aj.data (a) rfl ?_|refine aj.data (c) rfl ?_|refine aj.data (l) rfl ?_|refine aj.data (m) rfl ?_|refine aj.data (g) rfl ?_|refine aj.data (j) rfl ?_|simp only[t,eV,bc,aL,ew,c9,bne_self_eq_false,kL,jV,wj,wy,qg,aC,reduceCtorEq,reduceIte,Nat.reduceAdd,Nat.reduceMul,Nat.reduceEqDiff,Nat.reduceLT,Nat.reduceLeDiff,Nat.reduceSub,ax,aB,ay,au]
      all_goals first|rfl|(rename_i h;first|(rw[if_pos h];rfl)|(rw[if_neg h];rfl))
     ·have t:decide ((s.length:Int)≥400)=false:=by simp;omega
      rw[if_neg v];clear f e i b hg;refine aI (F:=ir) tV (by simp[ir]) ?_;simp only[ir]
      repeat' first|refine ak (fun _=> ?_) fun _=> ?_|refine aD ?_|refine aj.data (a) rfl ?_|refine aj.data (c) rfl ?_|refine aj.data (l) rfl ?_|refine aj.data (m) rfl ?_|refine aj.data (g) rfl ?_|refine aj.data (j) rfl ?_|refine aj.data (n) rfl ?_|simp only[t,eV,bc,aL,ew,c9,bne_self_eq_false,kL,jV,wj,wy,qg,aC,reduceCtorEq,reduceIte,Nat.reduceAdd,Nat.reduceMul,Nat.reduceEqDiff,Nat.reduceLT,Nat.reduceLeDiff,Nat.reduceSub,ax,aB,ay,au]
      all_goals first|rfl|(rename_i h;first|(rw[if_pos h];rfl)|(rw[if_neg h];rfl))
    ·rw[if_pos r];have y:(mI bE s d p.changes !=0)=true:=by simpa using r
     clear f e i b hg n;refine aI (F:=ir) tV (by simp[ir]) ?_;simp only[ir]
     repeat' first|refine ak (fun _=> ?_) fun _=> ?_|refine aD ?_|refine aj.data (a) rfl ?_|refine aj.data (c) rfl ?_|refine aj.data (l) rfl ?_|refine aj.data (m) rfl ?_|refine aj.data (g) rfl ?_|refine aj.data (j) rfl ?_|simp only[y,eV,bc,aL,ew,c9,bne_self_eq_false,kL,jV,wj,wy,qg,aC,reduceCtorEq,reduceIte,Nat.reduceAdd,Nat.reduceMul,Nat.reduceEqDiff,Nat.reduceLT,Nat.reduceLeDiff,Nat.reduceSub,ax,aB,ay,au]
     all_goals first|rfl|(rename_i h;first|(rw[if_pos h];rfl)|(rw[if_neg h];rfl))
 ·rw[if_pos (by simpa using b)];have x:((dh bE p).2 !=0)=true:=by simpa using b
  clear f e i;refine aI (F:=ir) tV (by simp[ir]) ?_;simp only[ir];refine aw (ga @x (ga @eV @bc)) @a ?_
  all_goals first|rfl|(rename_i h;first|(rw[if_pos h];rfl)|(rw[if_neg h];rfl))
end Go.Proofs.Q
