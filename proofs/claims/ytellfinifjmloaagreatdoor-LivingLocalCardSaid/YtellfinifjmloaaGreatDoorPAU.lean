/- Lemmas. -/
import Derived.Test.YtellfinifjmloaaGreatDoorPAT
import Derived.Sort.OwnSortedInts
set_option linter.unusedVariables false
set_option linter.unusedSimpArgs false
namespace Go.Proofs.Lg
open Go Go.RowKit Go.Shelf Go.Sort
attribute [local go_sem↓] Go.wp_at_zero Go.wp_at_succ
theorem vV(w:World)(A B:Array Value)(t u q:Nat)(i:Nat)(v:Value):
  (A[i]?=some v→(((w.alloc (.cells A t)).alloc (.cells B u)).drewN q).cell? ⟨w.heap.size,0+i,none⟩=some v)∧(B[i]?=some v→(((w.alloc (.cells A t)).alloc (.cells B u)).drewN q).cell? ⟨w.heap.size+1,0+i,none⟩=some v):=by
 constructor
 ·intro h;simp[go_sem,h]
 ·intro h;have e:w.heap.size+1=(w.alloc (.cells A t)).heap.size:=by simp
  rw[e];simp[go_sem,h]
set_option maxHeartbeats 400000 in
set_option maxRecDepth 100000 in
theorem a3g(x y:List Int)(d:Bytes x)(f:Bytes y)(a:x.length=32)(b:y.length=32)(w:World):
  Calls Tryz.prog 163 #[.agg (x.map (Value.int .u8)).toArray,.agg (y.map (Value.int .u8)).toArray] w fun e w'=>e= .returned (.int .i64 (iJ x y))∧ ∃q os,w'=grow (w.drewN q) os:=by
 have g:(x.map (Value.int .u8)).toArray.size=32:=by simp[a]
 have j:(y.map (Value.int .u8)).toArray.size=32:=by simp[b]
 go_enter Tryz.func163,Tryz.ntmps163
 go_wp2
 go_quiet ((go_at_call 92;refine Calls.quiet_of_same ((zl _ _ _ _ _ 32 _ _ x y d f a b ?_ ?_).mono fun _ _ h=>⟨h.1,h.2.symm⟩);(intro i z c;exact(vV _ _ _ _ _ _ i _).1 (by simp[c]));(intro i z c;exact(vV _ _ _ _ _ _ i _).2 (by simp[c]))))
 go_wp2
 go_ret
 exact⟨rfl,nq,_,by rw[alloc_eq_grow,alloc_eq_grow,grow_grow];rfl⟩
theorem zZ{α:Type}[Inhabited α](enc:α→List Value)(k:Nat)(j:0<k)(hk: ∀x,(enc x).length=k)(d:Array α):(flatK enc k d).toList=(d.toList.map enc).flatten:=by
 have f: ∀r∈d.toList.map enc,r.length=k:=fun r l=>by obtain⟨x,_,rfl⟩:=bR.1 l;exact hk x
 have a:=Go.Ab.flatten_len _ f;have a:(d.toList.map enc).flatten.length=d.size*k:=by rw[a,aQ,gz]
 apply iX;intro i;by_cases hi:i<d.size*k
 ·have g:i/k<d.size:=Nat.div_lt_of_lt_mul (by rw[Nat.mul_comm];exact hi);have c:=Go.Ab.flatten_row _ f (i/k) (enc d[i/k]) (by simp[g]);have hm:i % k<k:=Nat.mod_lt _ j;have e:i/k*k+i % k=i:=by rw[Nat.mul_comm];exact Nat.div_add_mod i k
  have m:((d.toList.map enc).flatten)[i]?=(enc d[i/k])[i % k]? :=by
   rw[←c,eY,if_pos hm,fm,e]
  have h:i<(flatK enc k d).size:=by simpa using hi
  have hg:=get_flatK enc k d i hi;have b:i % k<(enc d[i/k]).length:=by rw[hk];exact hm
  rw[getElem!_pos (flatK enc k d) i h,getElem!_pos d (i/k) g,getElem!_pos (enc d[i/k]) (i % k) b]at hg;rw[m,rY,mI h,hg,bN b]
 ·rw[iA (by simpa using hi),iA a8]
theorem Kt{w:World}{g n:Nat}{os:Array Obj}{cur:Array Value}{e:TypeId}{fr:Nat×Nat}(F:Array Value)(hb:w.heap[g]?=some (.cells cur e fr)):
  (grow (putRow id (Sort.ahead w n) g 0 F) os).heap[g]?=some (.cells (putCells id 0 F cur) e fr):=by
 have hg:g<w.heap.size:=(fB.1 hb).1;rw[heap_grow_old _ _ (by simpa using hg)];simp[putRow,mapBlock,Sort.ahead,w8,hb,onCells]
theorem Kr{w:World}{g n:Nat}{os:Array Obj}(F:Array Value):w.grownBy (grow (putRow id (Sort.ahead w n) g 0 F) os) (some g):=by
 refine⟨rfl,rfl,rfl,by simp,fun k hk hne=> ?_⟩;rw[heap_grow_old _ _ (by simpa using hk)];have:g≠k:=fun e=>hne (by rw[e]);simp[putRow,mapBlock,Sort.ahead,w8,this]
theorem P6(cur F:Array Value)(h:F.size≤cur.size):(putCells id 0 F cur).toList.take F.size=F.toList:=by
 apply iX;intro j;by_cases a:j<F.size
 ·rw[qB a,rY,rY];simp[putCells,a,show j<cur.size by omega]
 ·rw[List.getElem?_take_eq_none a8,iA (by simp;omega)]
end Go.Proofs.Lg
namespace Go.Proofs.Q
open Go Go.Bb Go.RowKit Go.Proofs.Lg Go.Sort Go.Shelf
open Go.Ab (D RD)
def j9(a b:Dg):Bool:=decide (bS a b≤0)
theorem Et(d:Dg):(eh d).length=32:=Es d
theorem a3R(l:List Dg): ∀u∈(l.map eh).flatten,u.oneCell'=true:=by
 intro u d;obtain⟨r,c,a⟩:=List.mem_flatten.1 d;obtain⟨x,_,rfl⟩:=bR.1 c;obtain⟨b,_,rfl⟩:=bR.1 a;rfl
theorem Eu(l:List Dg):(l.map eh).flatten.length=l.length*32:=by
 rw[Go.Ab.flatten_len (sz:=32) _ fun r a=>by obtain⟨x,_,rfl⟩:=bR.1 a;exact Et x,aQ]
set_option maxHeartbeats 1000000 in
theorem QC(l:List Dg)(g c base:Nat)(w:World)(O:l.length≤1000000)(N:l≠[])(q:w.ownsRow base 25 32 (.slice (some ⟨g,0,none⟩) l.length c) l.length (l.map eh).flatten):
  Calls Tryz.prog 205 #[.slice (some ⟨g,0,none⟩) l.length c,.func (.func 163) #[] #[]] w fun e w'=>
   e= .returned (.tuple #[])∧w'.ownsRow base 25 32 (.slice (some ⟨g,0,none⟩) l.length c) l.length ((l.mergeSort j9).map eh).flatten∧w.grownBy w' (some g):=by
 rcases q.2 with⟨h,_⟩|⟨g',cap,cur,D,hbg,hg,hncap,hcm,hcs,htake⟩
 ·simp at h
 obtain⟨rfl,rfl⟩:g=g'∧c=cap:=by simpa using D
 have u:g<w.heap.size:=(fB.1 hg).1;have a: ∀x,∀v∈eh x,v.oneCell'=true:=fun x v D=>by
  obtain⟨b,_,rfl⟩:=bR.1 D;rfl
 have i:(flatK eh 32 l.toArray).toList=(l.map eh).flatten:=by rw[zZ eh 32 a8 Et]
 have I:HoldsK eh 32 w g 0 l.toArray:=by
  intro j M;have o:j<l.length*32:=by simpa using M
  refine⟨?_,by simp[World.frozen?,hg]⟩;have E:(flatK eh 32 l.toArray)[j]?=cur[j]? :=by
   rw[←rY,i,←htake,qB o,rY]
  have p:j<(flatK eh 32 l.toArray).size:=by simpa using o
  rw[mI p]at E;rw[getElem!_pos _ j p];simp only[World.cell?,hg,aw];simp only[nK,jU,if_false];exact E.symm
 have n:CmpLays Tryz.prog 163 #[] eh 32 (fun x y=>bS x y) g 0 l.toArray.size w:=fun m os H _ x y=>by
  have:=a3g x.l y.l x.by_ y.by_ x.len y.len (sortWorldK eh 32 w g 0 m H os);rw[Dq _ _ (by rw[x.len,y.len])]at this;exact this
 have J:SWO (ltOf (fun x y:Dg=>bS x y)):=by
  unfold ltOf;refine⟨fun x=> ?_,fun x y z=> ?_,fun x y z=> ?_⟩
  ·simp[qX]
  ·intro a f;simp only[decide_eq_true_eq]at a f⊢;exact n0 a f
  ·intro a f;simp only[decide_eq_false_iff_not]at a f⊢;intro t;by_cases r:x=y
   ·subst r;exact f t
   by_cases s:y=z
   ·subst s;exact a t
   exact qX _ (n0 t (n0 (zN f s) (zN a r)))
 have K: ∀x y:Dg,ltOf (fun x y:Dg=>bS x y) x y=false→ltOf (fun x y:Dg=>bS x y) y x=false→x=y:=by
  intro x y a f;unfold ltOf at a f;simp only[decide_eq_false_iff_not]at a f;have:=uO x y;exact(jz x y).1 a8
 have key:=AnyQ.slices_SortFunc_total Tryz.laysSortDgs 32 Tryz.isAgg25 Tryz.sizeOf25 eh Et a (fun x y=>bS x y) J 163 #[] g 0 c l.toArray w (enters_fn' Tryz.func163 rfl (by rfl)) n I u (by simp;omega) K;have C:l.toArray.size=l.length:=by simp
 rw[C]at key;refine Calls.mono (show Calls Tryz.prog 205 _ _ _ from key) ?_;rintro e w' ⟨L,m,os,rfl⟩;refine⟨L,?_,Kr _⟩;have B:(l.toArray.toList.mergeSort fun x y=> !ltOf (fun x y:Dg=>bS x y) y x)=l.mergeSort j9:=by
  have:(fun x y:Dg=> !ltOf (fun x y:Dg=>bS x y) y x)=j9:=by
   funext x y;unfold ltOf j9;have:=uO x y;by_cases h:bS x y≤0
   ·simp[h];omega
   ·simp[h];omega
  rw[this]
 have d:(flatK eh 32 ((l.toArray.toList.mergeSort fun x y=> !ltOf (fun x y:Dg=>bS x y) y x).toArray)).toList=((l.mergeSort j9).map eh).flatten:=by
  rw[zZ eh 32 a8 Et,B]
 unfold sortWorldK putRowK;generalize flatK eh 32 ((l.toArray.toList.mergeSort fun x y=> !ltOf (fun x y:Dg=>bS x y) y x).toArray)=F at d;have k:F.size=l.length*32:=by rw[←gz,d,Eu,mP]
 have A:F.size≤cur.size:=by rw[k,hcs];omega
 have G:=P6 cur F A;rw[d,k]at G;exact⟨by rw[Eu,mP],.inr ⟨g,c,_,rfl,hbg,Kt _ hg,hncap,hcm,by simp[Go.Sort.putCells,hcs],G⟩⟩
end Go.Proofs.Q
namespace Go.Proofs.Q
open Go Go.Bb Go.RowKit Go.Proofs.Lg
open Go.Ab (D RD)
theorem R2(a b:Int):l6 a b=l6 b a:=by unfold l6;rw[BitVec.or_comm]
theorem a2L(n:Nat)(a:1≤n)(b:n≤31):IntKind.u64.wrap (BitVec.ofInt IntKind.u64.bits (IntKind.u64.wrap (-(n:Int)))&&&BitVec.ofInt IntKind.u64.bits 31).toNat=((32-n:Nat):Int):=by
 have h: ∀n:Fin 32,1≤n.1→IntKind.u64.wrap (BitVec.ofInt IntKind.u64.bits (IntKind.u64.wrap (-(n.1:Int)))&&&BitVec.ofInt IntKind.u64.bits 31).toNat=((32-n.1:Nat):Int):=by decide
 exact h ⟨n,by omega⟩ a
theorem a2M(x:Int)(n:Nat)(a:1≤n)(b:n≤31):aG Tryz.prog 300 [.sc (.int .u32 x),.sc (.int .i64 (-(n:Int)))] (.sc (.int .u32 (gP x n))):=by
 have ha:=a2L n a b;have c:IntKind.u64.wrap (32-((32-n:Nat):Int))=(n:Int):=Ez a8 a8;refine aM (F:=Av) We (by simp[Av]) ?_;simp only[Av];refine aO (ga @ha @c) ab ?_
 all_goals(rw[gP,R2];rfl)
theorem pM(x:Int)(n:Nat)(b:1≤n)(c:n≤31):aG Tryz.prog 276 [.sc (.int .u32 x),.sc (.int .i64 n)] (.sc (.int .u32 (gP x n))):=by
 have a:=a2M x n b c;have d:IntKind.i64.wrap (-(n:Int))= -(n:Int):=by
  simp only[IntKind.wrap,IntKind.bits,IntKind.signed];have:(-(n:Int)) % 2^64=2^64-n:=by omega
  simp only[this];simp;omega
 refine aM (F:=Di) YH (by simp[Di]) ?_;simp only[Di];exact bU @d @a
def rV(s:bh)(w:List Int)(t:Nat):List Int:=if t<16 then w.set t (rU s t)else w.set t (qw w t)
theorem a2X(s:bh):(List.range' 0 64).foldl (rV s) (List.replicate 64 0)=sched s:=by
 have h:List.range' 0 64=List.range' 0 16++List.range' 16 48:=by decide
 have d: ∀(l:List Nat) (w:List Int),(∀t∈l,t<16)→l.foldl (rV s) w=tS s l w:=by
  intro l
  induction l with
  |nil=>intro w _;rfl
  |cons t l c=>
   intro w a;rw[gD,c _ fun t b=>a t (by simp[b]),rV,if_pos (a t (by simp))];rfl
 have e: ∀(l:List Nat) (w:List Int),(∀t∈l,16≤t)→l.foldl (rV s) w=tT l w:=by
  intro l
  induction l with
  |nil=>intro w _;rfl
  |cons t l c=>
   intro w a;have:=a t (by simp);rw[gD,c _ fun t b=>a t (by simp[b]),rV,if_neg a8];rfl
 rw[h,List.foldl_append,d (List.range' 0 16) _ (by decide),e (List.range' 16 48) _ (by decide)];rfl
def EX(b:UInt8):Int:=b.toNat
def xl(x:Int)(l:List UInt8):Int:=l.foldl (fun v b=>l6 (shl v 8) (EX b)) x
abbrev bv(x:Int):BitVec 32:=BitVec.ofInt 32 x
theorem IK(y:Int):bv (gU.wrap y)=bv y:=by
 apply BitVec.eq_of_toNat_eq;simp only[bv,BitVec.toNat_ofInt,IntKind.wrap,IntKind.bits,IntKind.signed];simp
theorem Rm(x:BitVec 32):bv (x.toNat:Int)=x:=by
 apply BitVec.eq_of_toNat_eq;simp only[bv,BitVec.toNat_ofInt];have:=x.isLt;omega
theorem R1(a b:Int):bv (l6 a b)=bv a|||bv b:=by
 unfold l6;rw[IK];exact Rm _
theorem Rn(n:Nat):bv ((2:Int)^n)=BitVec.twoPow 32 n:=by
 apply BitVec.eq_of_toNat_eq;have h:((2:Int)^n)=((2^n:Nat):Int):=by simp
 rw[bv,h,BitVec.toNat_ofInt,BitVec.toNat_twoPow];omega
theorem Hu(x:Int)(n:Nat)(a:n≤32):bv (shl x n)=bv x<<<n:=by
 unfold shl;rw[IK,BitVec.shiftLeft_eq_mul_twoPow,qG (show n≤gU.bits from a),bv,BitVec.ofInt_mul,←Rn]
theorem R3{a b c d:Int}(h:bv a|||bv b=bv c|||bv d):l6 a b=l6 c d:=by
 have e: ∀a b,l6 a b=gU.wrap ((bv a|||bv b).toNat:Int):=fun a b=>rfl;rw[e,e,h]
theorem Ts(s:bh)(k:Nat)(a b c b3:UInt8)(m0:oV s (4*k)=a.toNat)(e:oV s (4*k+1)=b.toNat)(f:oV s (4*k+2)=c.toNat)(g:oV s (4*k+3)=b3.toNat):xl 0 [a,b,c,b3]=rU s k:=by
 unfold rU xl EX;rw[m0,e,f,g];simp only[gD,uf];refine R3 ?_;congr 1;simp only[R1,Hu _ _ (show 8≤32 by decide),Hu _ _ (show 16≤32 by decide),Hu _ _ (show 24≤32 by decide),BitVec.shiftLeft_or_distrib];have d:bv 0<<<8<<<8<<<8<<<8=0#32:=by decide
 rw[d,BitVec.zero_or];simp only[←BitVec.shiftLeft_add]
theorem QS{w:List Int}{k:Nat}(h:k<w.length)(x:Int):at_ (w.set k x) k=x:=by
 rw[at_,fx h];rfl
theorem a3d{w:List Int}{k:Nat}(h:k<w.length):w.set k (at_ w k)=w:=by
 apply iX;intro i;by_cases e:k=i
 ·subst e;rw[fx h,fX h]
 ·rw[bC e]
theorem SO{s:bh}{k:Nat}(h:4*k+4≤s.size): ∃a b c b3:UInt8,Go.Bb.bytesRow (s.extract (4*k) (4*k+4))=[a,b,c,b3].map (fun x=>[D.sc (.int .u8 x.toNat)])∧rU s k=xl 0 [a,b,c,b3]:=by
 obtain⟨a,d,m0⟩:=qP (s:=s) (i:=4*k) a8;obtain⟨b,e,l⟩:=qP (s:=s) (i:=4*k+1) a8;obtain⟨c,f,m⟩:=qP (s:=s) (i:=4*k+2) a8;obtain⟨b3,g,n⟩:=qP (s:=s) (i:=4*k+3) a8;refine⟨a,b,c,b3,?_,(Ts s k a b c b3 m0 l m n).symm⟩;unfold Go.Bb.bytesRow;congr 1;rw[qM]at d e f g;apply iX;intro i
 have j:(s.extract (4*k) (4*k+4)).data.toList=(s.data.toList.drop (4*k)).take 4:=by
  rw[ByteArray.data_extract,Array.toList_extract,List.extract_eq_take_drop];congr 1;omega
 rw[j]
 match i with
 |0=>rw[qB a8,fm];exact d
 |1=>rw[qB a8,fm];exact e
 |2=>rw[qB a8,fm];exact f
 |3=>rw[qB a8,fm];exact g
 |i+4=>rw[eY,if_neg a8];rfl
set_option maxHeartbeats 2000000 in
theorem a3p(s:bh)(hs:s.size=64):aG Tryz.prog 274 [dS s] (.agg (bt .u32 (sched s))):=by
 have P:=a2X s;refine aM (F:=Dj) YI (by simp[Dj]) ?_;simp only[Dj]
 repeat' first|refine ae (fun _=> ?_) fun _=> ?_|refine aL ?_|simp only[z64,lq (fN ..),aQ,ed,fN,wy,qg,aH,reduceCtorEq,reduceIte,Nat.reduceAdd,Nat.reduceMul,Nat.reduceEqDiff,Nat.reduceLT,Nat.reduceLeDiff,Nat.reduceSub,aA,aF,aE,aw]
 refine aZ.overI (List.range' 0 64) (fun k (w:List Int)=>[(9,iN k)]) (fun k w=>[.cells ((bt .u32 (List.replicate 64 0)).map .d),.cells ((bt .u32 w).map .d)]) (fun r w=>r.foldl (rV s) w) (sched s) (fun k w=>w.length=64∧ ∀i,k≤i→i<16→at_ w i=0) (List.replicate 64 0) (by decide) aB aB rfl P.symm ⟨by simp,fun i _ hi=>by rw[at_,oL,if_pos a8];rfl⟩ (fun k w x hg hk D H h f=> ?_) (fun w D h f=> ?_)
 ·obtain⟨f,R⟩:=f;simp only[jZ]at hk D;obtain rfl:k=x:=by rw[List.getElem?_range' a8]at hg;simpa using hg
  clear P hg D;rw[gD]at h;have p:((k:Int)<64)=True:=by simp;omega
  have c:=fun v=>nj (k:= .u32) (l:=w) (i:=k) a8 v;by_cases e:k<16
  ·rw[rV,if_pos e]at h;have o:((k:Int)<16)=True:=by simp;omega
   have S:IntKind.i64.wrap (4*(k:Int))=((4*k:Nat):Int):=bE a8 a8;have T:IntKind.i64.wrap (((4*k:Nat):Int)+4)=((4*k+4:Nat):Int):=bE a8 a8;have U:(((4*k:Nat):Int)≤((4*k+4:Nat):Int))=True:=by simp;omega
   have V:(((4*k+4:Nat):Int)≤(s.size:Int))=True:=by simp;omega
   have W:((s.extract (4*k) (4*k+4)).size≤140737488355328)=True:=by simp;omega
   obtain⟨X,Y,Z,b3,y,Q⟩:=SO (s:=s) (k:=k) a8;obtain⟨L,B⟩: ∃L,L=[X,Y,Z,b3]:=⟨_,rfl⟩
   have a0:L.length=4:=by rw[B];rfl
   rw[←B]at y Q;have e0:=R k (bk _) e;have I:at_ w k=0:=e0;clear B
   repeat' first|refine ae (fun _=> ?_) fun _=> ?_|refine aL ?_|simp only[o,p,S,T,U,V,W,y,H,Int.reduceLE,Int.reduceLT,Int.reduceGE,Int.reduceGT,Int.reduceEq,Int.reduceNe,Int.reduceBEq,Int.reduceBNe,decide_true,decide_false,wy,qg,aH,reduceCtorEq,reduceIte,Nat.reduceAdd,Nat.reduceMul,Nat.reduceEqDiff,Nat.reduceLT,Nat.reduceLeDiff,Nat.reduceSub,aA,aF,aE,aw]
   refine aZ.overI L (fun m (b:List Int)=>[(23,iN m)]) (fun m b=>[.cells ((bt .u32 (List.replicate 64 0)).map .d),.cells ((bt .u32 b).map .d)]) (fun r b=>b.set k (xl (at_ b k) r)) (w.set k (rU s k)) (fun m b=>b.length=64) w a8 aB aB rfl (by rw[Q,I]) f (fun m b x E hm n J a g=> ?_) (fun b n a g=> ?_)
   ·have v0:=yI x.toNat_lt;have q:=fun v=>nj (k:= .u32) (l:=b) (i:=k) a8 v;have g1:=fX (w:=b) (i:=k) a8;clear y S T U V W c
    repeat' first|refine ae (fun _=> ?_) fun _=> ?_|refine aL ?_|simp only[p,n,J,E,v0,g1,oy,q,Int.reduceToNat,Int.reduceLE,Int.reduceLT,Int.reduceGE,Int.reduceGT,Int.reduceEq,Int.reduceNe,Int.reduceBEq,Int.reduceBNe,decide_true,decide_false,wy,qg,aH,reduceCtorEq,reduceIte,Nat.reduceAdd,Nat.reduceMul,Nat.reduceEqDiff,Nat.reduceLT,Nat.reduceLeDiff,Nat.reduceSub,aA,aF,aE,aw]
    refine⟨b.set k (l6 (shl (at_ b k) 8) (EX x)),rfl,?_,by simp[g]⟩;rw[a,QS a8,List.set_set];rfl
   ·rw[xl,uf,a3d a8]at a;clear y
    repeat' first|refine ae (fun _=> ?_) fun _=> ?_|refine aL ?_|simp only[n,H,Int.reduceLE,Int.reduceLT,Int.reduceGE,Int.reduceGT,Int.reduceEq,Int.reduceNe,Int.reduceBEq,Int.reduceBNe,decide_true,decide_false,wy,qg,aH,reduceCtorEq,reduceIte,Nat.reduceAdd,Nat.reduceMul,Nat.reduceEqDiff,Nat.reduceLT,Nat.reduceLeDiff,Nat.reduceSub,aA,aF,aE,aw]
    refine⟨b,rfl,by rw[h,a],g,fun i hi u=> ?_⟩;rw[←a,at_,bC a8];exact R i a8 u
  ·rw[rV,if_neg e]at h;have o:((k:Int)<16)=False:=by simp;omega
   obtain⟨j,rfl⟩: ∃j,k=j+16:=⟨k-16,by omega⟩
   have K:IntKind.i64.wrap (((j+16:Nat):Int)-15)=((j+1:Nat):Int):=bE a8 a8;have q2:IntKind.i64.wrap (((j+16:Nat):Int)-2)=((j+14:Nat):Int):=bE a8 a8;have q7:IntKind.i64.wrap (((j+16:Nat):Int)-7)=((j+9:Nat):Int):=bE a8 a8;have M:IntKind.i64.wrap (((j+16:Nat):Int)-16)=(j:Int):=bE a8 a8
   have N:(((j+1:Nat):Int)<64)=True:=by simp;omega
   have r2:(((j+14:Nat):Int)<64)=True:=by simp;omega
   have r7:(((j+9:Nat):Int)<64)=True:=by simp;omega
   have O:((j:Int)<64)=True:=by simp;omega
   have z:=fX (w:=w) (i:=j+1) a8;have g2:=fX (w:=w) (i:=j+14) a8;have g7:=fX (w:=w) (i:=j+9) a8;have A:=fX (w:=w) (i:=j) a8
   have C:qw w (j+16)=aW (aW (aW (iE (iE (gP (at_ w (j+14)) 17) (gP (at_ w (j+14)) 19)) (shr (at_ w (j+14)) 10)) (at_ w (j+9))) (iE (iE (gP (at_ w (j+1)) 7) (gP (at_ w (j+1)) 18)) (shr (at_ w (j+1)) 3))) (at_ w j):=by
    rw[qw,show j+16-2=j+14 by omega,show j+16-7=j+9 by omega,show j+16-15=j+1 by omega,show j+16-16=j by omega]
   repeat' first|refine ae (fun _=> ?_) fun _=> ?_|refine aL ?_|refine aq.data (pM _ 17 (by decide) (by decide)) rfl ?_|refine aq.data (pM _ 19 (by decide) (by decide)) rfl ?_|refine aq.data (pM _ 7 (by decide) (by decide)) rfl ?_|refine aq.data (pM _ 18 (by decide) (by decide)) rfl ?_|simp only[o,p,K,q2,q7,M,N,r2,r7,O,z,g2,g7,A,H,oy,c,Int.reduceToNat,Int.reduceLE,Int.reduceLT,Int.reduceGE,Int.reduceGT,Int.reduceEq,Int.reduceNe,Int.reduceBEq,Int.reduceBNe,decide_true,decide_false,wy,qg,aH,reduceCtorEq,reduceIte,Nat.reduceAdd,Nat.reduceMul,Nat.reduceEqDiff,Nat.reduceLT,Nat.reduceLeDiff,Nat.reduceSub,aA,aF,aE,aw]
   exact⟨w.set (j+16) (qw w (j+16)),by rw[C];rfl,h,by simp[f],fun i hi u=>by omega⟩
 ·rw[jZ]at*;have G:sched s=w:=h;have t:(bt .u32 w).take 64=bt .u32 w:=dq (by rw[ed,f.1];decide)
  repeat' first|refine ae (fun _=> ?_) fun _=> ?_|refine aL ?_|simp only[Int.reduceLE,Int.reduceLT,Int.reduceGE,Int.reduceGT,Int.reduceEq,Int.reduceNe,Int.reduceBEq,Int.reduceBNe,decide_true,decide_false,t,jZ,lq (fN ..),aQ,ed,f.1,wy,qg,aH,reduceCtorEq,reduceIte,Nat.reduceAdd,Nat.reduceMul,Nat.reduceEqDiff,Nat.reduceLT,Nat.reduceLeDiff,Nat.reduceSub,aA,aF,aE,aw]
  rw[G]
set_option maxRecDepth 10000 in
theorem a3n:aG Tryz.prog 275 [] (.agg (bt .u32 fG)):=by
 have b:fG.length=64:=by decide
 have a:(bt .u32 fG).take 64=bt .u32 fG:=dq (by rw[ed,b];decide);refine aM (F:=Df) YF (by simp[Df]) ?_;simp only[Df]
 repeat' first|refine ae (fun _=> ?_) fun _=> ?_|refine aL ?_|simp only[↓Jp,PH,aQ,ed,b,a,wy,qg,aH,reduceCtorEq,reduceIte,Nat.reduceAdd,Nat.reduceMul,Nat.reduceEqDiff,Nat.reduceLT,Nat.reduceLeDiff,Nat.reduceSub,aA,aF,aE,aw]
theorem a3o:aG Tryz.prog 214 [] (.agg (bt .u32 iS)):=by
 have a:(bt .u32 iS).take 8=bt .u32 iS:=dq (by decide);have b: ∀vs:List AV,vs.length=8→b8 ((bt .u32 (List.replicate 8 0)).map .d) 0 8 vs=some vs:=fun vs h=>lq (k:= .u32) (by rfl) h
 have e:((((((((List.replicate 8 (0:Int)).set 0 1779033703).set 1 3144134277).set 2 1013904242).set 3 2773480762).set 4 1359893119).set 5 2600822924).set 6 528734635).set 7 1541459225=iS:=by rfl
 have c:iS.length=8:=rfl;refine aM (F:=Dh) YG (by simp[Dh]) ?_;simp only[Dh]
 repeat' first|refine ae (fun _=> ?_) fun _=> ?_|refine aL ?_|simp only[z8,nj,b,aQ,ed,jh,fN,Nat.zero_lt_succ,e,c,a,Int.reduceLE,Int.reduceLT,Int.reduceGE,Int.reduceGT,Int.reduceEq,Int.reduceNe,Int.reduceBEq,Int.reduceBNe,decide_true,decide_false,wy,qg,aH,reduceCtorEq,reduceIte,Nat.reduceAdd,Nat.reduceMul,Nat.reduceEqDiff,Nat.reduceLT,Nat.reduceLeDiff,Nat.reduceSub,aA,aF,aE,aw]
abbrev vU(x:Int):AV:= .d (.sc (.int .u32 x))
theorem Pg{v:List Int}(h:v.length=8):v=[at_ v 0,at_ v 1,at_ v 2,at_ v 3,at_ v 4,at_ v 5,at_ v 6,at_ v 7]:=by
 obtain⟨a,b,c,d,e,f,g,i,rfl⟩:=L6 h;rfl
set_option maxRecDepth 20000 in
set_option maxHeartbeats 4000000 in
theorem a3m(h:List Int)(s:bh)(B:h.length=8)(W:s.size=64):aG Tryz.prog 216 [.agg (bt .u32 h),dS s] (.agg (bt .u32 (iu h s))):=by
 have I:=a3p s W;have u:(sched s).length=64:=by rw[sched,Hm,Hl];simp
 have t:fG.length=64:=by decide
 have H:(bt .u32 (sched s)).take 64=bt .u32 (sched s):=dq (by rw[ed,u];decide);have G:(bt .u32 fG).take 64=bt .u32 fG:=dq (by rw[ed,t];decide);have J:=fX (w:=h) (i:=0) a8;have z:=fX (w:=h) (i:=1) a8;have A:=fX (w:=h) (i:=2) a8;have K:=fX (w:=h) (i:=3) a8
 have L:=fX (w:=h) (i:=4) a8;have M:=fX (w:=h) (i:=5) a8;have N:=fX (w:=h) (i:=6) a8;have O:=fX (w:=h) (i:=7) a8;refine aM (F:=De) YE (by simp[De]) ?_;simp only[De]
 repeat' first|refine ae (fun _=> ?_) fun _=> ?_|refine aL ?_|refine aq.data (I) rfl ?_|refine aq.data (a3n) rfl ?_|simp only[z64,z8,lq (fN ..),aQ,ed,u,t,B,H,G,J,z,A,K,L,M,N,O,oy,Int.reduceToNat,Int.reduceLE,Int.reduceLT,Int.reduceGE,Int.reduceGT,Int.reduceEq,Int.reduceNe,Int.reduceBEq,Int.reduceBNe,decide_true,decide_false,wy,qg,aH,reduceCtorEq,reduceIte,Nat.reduceAdd,Nat.reduceMul,Nat.reduceEqDiff,Nat.reduceLT,Nat.reduceLeDiff,Nat.reduceSub,aA,aF,aE,aw]
 clear I H G J z A K L M N O;obtain⟨R,n⟩: ∃R,R=rounds (fG.zip (sched s)) h:=⟨_,rfl⟩
 have C:R.length=8:=by rw[n];exact Hd _ _ B
 have S:iu h s=nP R (List.range 8) h:=by rw[n];rfl
 rw[S];clear S
 refine aZ.overI (fG.zip (sched s)) (fun k (v:List Int)=>[(39,iN k),(7,vU (at_ v 0)),(8,vU (at_ v 1)),(9,vU (at_ v 2)),(10,vU (at_ v 3)),(11,vU (at_ v 4)),(12,vU (at_ v 5)),(13,vU (at_ v 6)),(14,vU (at_ v 7))]) (fun k v=>[.cells ((bt .u32 h).map .d),.cells ((bt .u32 (List.replicate 8 0)).map .d),.cells ((bt .u32 (sched s)).map .d),.cells ((bt .u32 fG).map .d)]) (fun r v=>rounds r v) R (fun k v=>v.length=8) h (by rw[we,u,t];decide) aB aB rfl n B (fun k v x hg hk p E m o=> ?_) (fun v p m o=> ?_)
 ·obtain⟨Y,Z⟩:=x;obtain⟨P,Q⟩:=yO hg;rw[we,u,t]at hk;have q:((k:Int)<64)=True:=by simp;omega
  rw[rounds]at m;dsimp only at P Q;clear n C p u t hg;rw[Pg o]at m;obtain⟨a,ha⟩: ∃a,a=at_ v 0:=⟨_,rfl⟩
  obtain⟨b,hb⟩: ∃a,a=at_ v 1:=⟨_,rfl⟩
  obtain⟨c,hc⟩: ∃a,a=at_ v 2:=⟨_,rfl⟩
  obtain⟨d,p⟩: ∃a,a=at_ v 3:=⟨_,rfl⟩
  obtain⟨e,T⟩: ∃a,a=at_ v 4:=⟨_,rfl⟩
  obtain⟨f,U⟩: ∃a,a=at_ v 5:=⟨_,rfl⟩
  obtain⟨g,hg⟩: ∃a,a=at_ v 6:=⟨_,rfl⟩
  obtain⟨i,hi⟩: ∃a,a=at_ v 7:=⟨_,rfl⟩
  rw[←ha,←hb,←hc,←p,←T,←U,←hg,←hi]at m⊢;clear ha hb hc p T U hg hi
  repeat' first|refine ae (fun _=> ?_) fun _=> ?_|refine aL ?_|refine aq.data (pM _ 6 (by decide) (by decide)) rfl ?_|refine aq.data (pM _ 11 (by decide) (by decide)) rfl ?_|refine aq.data (pM _ 25 (by decide) (by decide)) rfl ?_|refine aq.data (pM _ 2 (by decide) (by decide)) rfl ?_|refine aq.data (pM _ 13 (by decide) (by decide)) rfl ?_|refine aq.data (pM _ 22 (by decide) (by decide)) rfl ?_|simp only[q,E,P,Q,oy,Int.reduceToNat,Int.reduceLE,Int.reduceLT,Int.reduceGE,Int.reduceGT,Int.reduceEq,Int.reduceNe,Int.reduceBEq,Int.reduceBNe,decide_true,decide_false,wy,qg,aH,reduceCtorEq,reduceIte,Nat.reduceAdd,Nat.reduceMul,Nat.reduceEqDiff,Nat.reduceLT,Nat.reduceLeDiff,Nat.reduceSub,aA,aF,aE,aw]
  exact⟨Hc Y Z [a,b,c,d,e,f,g,i],⟨rfl,rfl,rfl,rfl,rfl,rfl,rfl,rfl⟩,m,rfl⟩
 ·have X:(fG.zip (sched s)).length=64:=by rw[we,u,t];decide
  have D:R=v:=m;subst D;have j:((((((((List.replicate 8 (0:Int)).set 0 (at_ R 0)).set 1 (at_ R 1)).set 2 (at_ R 2)).set 3 (at_ R 3)).set 4 (at_ R 4)).set 5 (at_ R 5)).set 6 (at_ R 6)).set 7 (at_ R 7)=R:=by
   conv=>rhs;rw[Pg o]
   rfl
  repeat' first|refine ae (fun _=> ?_) fun _=> ?_|refine aL ?_|simp only[X,z8,nj,j,aQ,ed,jh,fN,Nat.zero_lt_succ,Int.reduceLE,Int.reduceLT,Int.reduceGE,Int.reduceGT,Int.reduceEq,Int.reduceNe,Int.reduceBEq,Int.reduceBNe,decide_true,decide_false,wy,qg,aH,reduceCtorEq,reduceIte,Nat.reduceAdd,Nat.reduceMul,Nat.reduceEqDiff,Nat.reduceLT,Nat.reduceLeDiff,Nat.reduceSub,aA,aF,aE,aw]
  clear j
  refine aZ.overI (List.range 8) (fun k (v:List Int)=>[(111,iN k)]) (fun k v=>[.cells ((bt .u32 v).map .d),.cells ((bt .u32 (List.replicate 8 0)).map .d),.cells ((bt .u32 (sched s)).map .d),.cells ((bt .u32 fG).map .d)]) (fun r v=>nP R r v) (nP R (List.range 8) h) (fun k v=>v.length=8) h (by decide) aB aB rfl rfl B (fun k v x hg hk p E m o=> ?_) (fun v p m o=> ?_)
  ·simp only[ew]at hk;obtain rfl:k=x:=by rw[qA a8]at hg;simpa using hg
   have q:((k:Int)<8)=True:=by simp;omega
   have z:=fX (w:=v) (i:=k) a8;have A:=fX (w:=R) (i:=k) a8;have y:=fun x=>nj (k:= .u32) (l:=v) (i:=k) a8 x;clear p
   repeat' first|refine ae (fun _=> ?_) fun _=> ?_|refine aL ?_|simp only[q,E,z,A,oy,y,Int.reduceLE,Int.reduceLT,Int.reduceGE,Int.reduceGT,Int.reduceEq,Int.reduceNe,Int.reduceBEq,Int.reduceBNe,decide_true,decide_false,wy,qg,aH,reduceCtorEq,reduceIte,Nat.reduceAdd,Nat.reduceMul,Nat.reduceEqDiff,Nat.reduceLT,Nat.reduceLeDiff,Nat.reduceSub,aA,aF,aE,aw]
   exact⟨v.set k (aW (at_ v k) (at_ R k)),rfl,m,by simp[o]⟩
  ·have D:nP R (List.range 8) h=v:=m;have V:(bt .u32 v).take 8=bt .u32 v:=dq (by rw[ed,o];decide)
   repeat' first|refine ae (fun _=> ?_) fun _=> ?_|refine aL ?_|simp only[Int.reduceLE,Int.reduceLT,Int.reduceGE,Int.reduceGT,Int.reduceEq,Int.reduceNe,Int.reduceBEq,Int.reduceBNe,decide_true,decide_false,ew,V,lq (fN ..),aQ,ed,o,wy,qg,aH,reduceCtorEq,reduceIte,Nat.reduceAdd,Nat.reduceMul,Nat.reduceEqDiff,Nat.reduceLT,Nat.reduceLeDiff,Nat.reduceSub,aA,aF,aE,aw]
   rw[D]
end Go.Proofs.Q
