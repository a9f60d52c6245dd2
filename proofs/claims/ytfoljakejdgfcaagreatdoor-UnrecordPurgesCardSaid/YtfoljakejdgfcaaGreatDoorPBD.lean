/- Part of a proof. -/
import Derived.Sort.OwnSortedInts
import Derived.Test.YtfoljakejdgfcaaGreatDoorPBC
set_option linter.unusedVariables false
set_option linter.unusedSimpArgs false
namespace Go.Proofs
open Go.Shelf
def Tryz.laysSortDgs_ren:Go.Shelf.Ren:=⟨fun|6=>116|15=>165|14=>164|28=>225|29=>226|20=>217|21=>218|22=>219|23=>220|24=>221|25=>222|26=>223|27=>224|46=>260|47=>261|48=>262|49=>263|50=>264|57=>286|n=>n,fun|22=>26|24=>25|25=>91|3=>3|39=>162|0=>0|53=>158|55=>207|4=>4|46=>239|45=>238|50=>137|5=>5|9=>9|66=>267|70=>271|76=>291|77=>292|n=>n,fun|n=>n⟩
theorem Tryz.laysSortDgs:Go.Proofs.SlLaysF0.n6 Tryz.prog Tryz.laysSortDgs_ren:={
 mixed:=by kernel_rfl
 f6:=⟨Tryz.f116.name,by decide,Tryz.func116.trans (congrArg some (by kernel_rfl))⟩
 f14:=⟨Tryz.f164.name,by decide,Tryz.func164.trans (congrArg some (by kernel_rfl))⟩
 f15:=Tryz.func165.trans (congrArg some (by kernel_rfl))
 f20:=⟨Tryz.f217.name,by decide,Tryz.func217.trans (congrArg some (by kernel_rfl))⟩
 f21:=⟨Tryz.f218.name,by decide,Tryz.func218.trans (congrArg some (by kernel_rfl))⟩
 f22:=⟨Tryz.f219.name,by decide,Tryz.func219.trans (congrArg some (by kernel_rfl))⟩
 f23:=⟨Tryz.f220.name,by decide,Tryz.func220.trans (congrArg some (by kernel_rfl))⟩
 f24:=⟨Tryz.f221.name,by decide,Tryz.func221.trans (congrArg some (by kernel_rfl))⟩
 f25:=⟨Tryz.f222.name,by decide,Tryz.func222.trans (congrArg some (by kernel_rfl))⟩
 f26:=⟨Tryz.f223.name,by decide,Tryz.func223.trans (congrArg some (by kernel_rfl))⟩
 f27:=⟨Tryz.f224.name,by decide,Tryz.func224.trans (congrArg some (by kernel_rfl))⟩
 f28:=Tryz.func225.trans (congrArg some (by kernel_rfl))
 f29:=Tryz.func226.trans (congrArg some (by kernel_rfl))
 f46:=⟨Tryz.f260.name,by decide,Tryz.func260.trans (congrArg some (by kernel_rfl))⟩
 f47:=Tryz.func261.trans (congrArg some (by kernel_rfl))
 f48:=Tryz.func262.trans (congrArg some (by kernel_rfl))
 f49:=⟨Tryz.f263.name,by decide,Tryz.func263.trans (congrArg some (by kernel_rfl))⟩
 f50:=⟨Tryz.f264.name,by decide,Tryz.func264.trans (congrArg some (by kernel_rfl))⟩
 f57:=⟨Tryz.f286.name,by decide,Tryz.func286.trans (congrArg some (by kernel_rfl))⟩
 t0:=Tryz.underlying0
 a0:=Tryz.isAgg0
 z0:=Tryz.sizeOf0
 v0:=Tryz.zeroValue0
 t3:=Tryz.underlying3
 a3:=Tryz.isAgg3
 z3:=Tryz.sizeOf3
 v3:=Tryz.zeroValue3
 t4:=Tryz.underlying4
 a4:=Tryz.isAgg4
 z4:=Tryz.sizeOf4
 v4:=Tryz.zeroValue4
 t5:=Tryz.underlying5
 a5:=Tryz.isAgg5
 z5:=Tryz.sizeOf5
 v5:=Tryz.zeroValue5
 t9:=Tryz.underlying9
 a9:=Tryz.isAgg9
 z9:=Tryz.sizeOf9
 v9:=Tryz.zeroValue9
 t22:=Tryz.underlying26
 a22:=Tryz.isAgg26
 z22:=Tryz.sizeOf26
 v22:=Tryz.zeroValue26
 t25:=Tryz.underlying91
 a25:=Tryz.isAgg91
 z25:=Tryz.sizeOf91
 v25:=Tryz.zeroValue91
 t39:=Tryz.underlying162
 a39:=Tryz.isAgg162
 z39:=Tryz.sizeOf162
 v39:=Tryz.zeroValue162
 t45:=Tryz.underlying238
 a45:=Tryz.isAgg238
 z45:=Tryz.sizeOf238
 v45:=Tryz.zeroValue238
 t46:=Tryz.underlying239
 a46:=Tryz.isAgg239
 z46:=Tryz.sizeOf239
 v46:=Tryz.zeroValue239
 t50:=Tryz.underlying137
 a50:=Tryz.isAgg137
 z50:=Tryz.sizeOf137
 v50:=Tryz.zeroValue137
 t53:=Tryz.underlying158
 a53:=Tryz.isAgg158
 z53:=Tryz.sizeOf158
 v53:=Tryz.zeroValue158
 t55:=Tryz.underlying207
 a55:=Tryz.isAgg207
 z55:=Tryz.sizeOf207
 v55:=Tryz.zeroValue207
 t66:=Tryz.underlying267
 a66:=Tryz.isAgg267
 z66:=Tryz.sizeOf267
 v66:=Tryz.zeroValue267
 t70:=Tryz.underlying271
 a70:=Tryz.isAgg271
 z70:=Tryz.sizeOf271
 v70:=Tryz.zeroValue271
 t76:=Tryz.underlying291
 a76:=Tryz.isAgg291
 z76:=Tryz.sizeOf291
 v76:=Tryz.zeroValue291
 t77:=Tryz.underlying292
 a77:=Tryz.isAgg292
 z77:=Tryz.sizeOf292
 v77:=Tryz.zeroValue292}
end Go.Proofs
namespace Go.Proofs.Lg
open Go Go.RowKit Go.Shelf Go.Sort
attribute [local go_sem↓] Go.wp_at_zero Go.wp_at_succ
theorem uw(w:World)(A B:Array Value)(t u q:Nat)(i:Nat)(v:Value):
  (A[i]?=some v→(((w.alloc (.cells A t)).alloc (.cells B u)).drewN q).cell? ⟨w.heap.size,0+i,none⟩=some v)∧(B[i]?=some v→(((w.alloc (.cells A t)).alloc (.cells B u)).drewN q).cell? ⟨w.heap.size+1,0+i,none⟩=some v):=by
 constructor
 ·intro h;simp[go_sem,h]
 ·intro h;have e:w.heap.size+1=(w.alloc (.cells A t)).heap.size:=by simp
  rw[e];simp[go_sem,h]
set_option maxHeartbeats 400000 in
set_option maxRecDepth 100000 in
theorem Y8(x y:List Int)(d:Bytes x)(f:Bytes y)(a:x.length=32)(b:y.length=32)(w:World):
  Calls Tryz.prog 117 #[.agg (x.map (Value.int .u8)).toArray,.agg (y.map (Value.int .u8)).toArray] w fun e w'=>e= .returned (.int .i64 (iu x y))∧ ∃q os,w'=grow (w.drewN q) os:=by
 have g:(x.map (Value.int .u8)).toArray.size=32:=by simp[a]
 have j:(y.map (Value.int .u8)).toArray.size=32:=by simp[b]
 go_enter Tryz.func117,Tryz.ntmps117
 go_wp2
 go_quiet ((go_at_call 141;refine Calls.quiet_of_same ((xo _ _ _ _ _ 32 _ _ x y d f a b ?_ ?_).mono fun _ _ h=>⟨h.1,h.2.symm⟩);(intro i z c;exact(uw _ _ _ _ _ _ i _).1 (by simp[c]));(intro i z c;exact(uw _ _ _ _ _ _ i _).2 (by simp[c]))))
 go_wp2
 go_ret
 exact⟨rfl,nq,_,by rw[alloc_eq_grow,alloc_eq_grow,grow_grow];rfl⟩
theorem ye{α:Type}[Inhabited α](enc:α→List Value)(k:Nat)(h0:0<k)(f: ∀x,(enc x).length=k)(d:Array α):(flatK enc k d).toList=(d.toList.map enc).flatten:=by
 have g: ∀r∈d.toList.map enc,r.length=k:=fun r l=>by obtain⟨x,_,rfl⟩:=cy.1 l;exact f x
 have a:=Go.Ab.flatten_len _ g;have a:(d.toList.map enc).flatten.length=d.size*k:=by rw[a,aL,jM]
 apply fy;intro i;by_cases hi:i<d.size*k
 ·have h:i/k<d.size:=Nat.div_lt_of_lt_mul (by rw[Nat.mul_comm];exact hi);have c:=Go.Ab.flatten_row _ g (i/k) (enc d[i/k]) (by simp[h]);have hm:i % k<k:=Nat.mod_lt _ h0;have e:i/k*k+i % k=i:=by rw[Nat.mul_comm];exact Nat.div_add_mod i k
  have m:((d.toList.map enc).flatten)[i]?=(enc d[i/k])[i % k]? :=by
   rw[←c,gb,if_pos hm,fB,e]
  have j:i<(flatK enc k d).size:=by simpa using hi
  have hg:=get_flatK enc k d i hi;have b:i % k<(enc d[i/k]).length:=by rw[f];exact hm
  rw[getElem!_pos (flatK enc k d) i j,getElem!_pos d (i/k) h,getElem!_pos (enc d[i/k]) (i % k) b]at hg;rw[m,nP,jL j,hg,bV b]
 ·rw[fZ (by simpa using hi),fZ a8]
theorem HQ{w:World}{g n:Nat}{os:Array Obj}{cur:Array Value}{e:TypeId}{fr:Nat×Nat}(F:Array Value)(hb:w.heap[g]?=some (.cells cur e fr)):
  (grow (putRow id (Sort.ahead w n) g 0 F) os).heap[g]?=some (.cells (putCells id 0 F cur) e fr):=by
 have hg:g<w.heap.size:=(fK.1 hb).1;rw[heap_grow_old _ _ (by simpa using hg)];simp[putRow,mapBlock,Sort.ahead,uC,hb,onCells]
theorem HO{w:World}{g n:Nat}{os:Array Obj}(F:Array Value):w.grownBy (grow (putRow id (Sort.ahead w n) g 0 F) os) (some g):=by
 refine⟨rfl,rfl,rfl,by simp,fun k a hne=> ?_⟩;rw[heap_grow_old _ _ (by simpa using a)];have:g≠k:=fun e=>hne (by rw[e]);simp[putRow,mapBlock,Sort.ahead,uC,this]
theorem Ly(cur F:Array Value)(h:F.size≤cur.size):(putCells id 0 F cur).toList.take F.size=F.toList:=by
 apply fy;intro j;by_cases a:j<F.size
 ·rw[pq a,nP,nP];simp[putCells,a,show j<cur.size by omega]
 ·rw[List.getElem?_take_eq_none a8,fZ (by simp;omega)]
end Go.Proofs.Lg
namespace Go.Proofs.Q
open Go Go.Bb Go.RowKit Go.Proofs.Lg Go.Sort Go.Shelf
open Go.Ab (D RD)
def eo(a b:Dg):Bool:=decide (cQ a b≤0)
theorem Cd(d:Dg):(cj d).length=32:=Cc d
theorem Z3(l:List Dg): ∀u∈(l.map cj).flatten,u.oneCell'=true:=by
 intro u d;obtain⟨r,c,a⟩:=List.mem_flatten.1 d;obtain⟨x,_,rfl⟩:=cy.1 c;obtain⟨b,_,rfl⟩:=cy.1 a;rfl
theorem Ce(l:List Dg):(l.map cj).flatten.length=l.length*32:=by
 rw[Go.Ab.flatten_len (sz:=32) _ fun r a=>by obtain⟨x,_,rfl⟩:=cy.1 a;exact Cd x,aL]
set_option maxHeartbeats 1000000 in
theorem MX(l:List Dg)(g c base:Nat)(w:World)(N:l.length≤1000000)(h0:l≠[])(q:w.ownsRow base 25 32 (.slice (some ⟨g,0,none⟩) l.length c) l.length (l.map cj).flatten):
  Calls Tryz.prog 116 #[.slice (some ⟨g,0,none⟩) l.length c,.func (.func 117) #[] #[]] w fun e w'=>
   e= .returned (.tuple #[])∧w'.ownsRow base 25 32 (.slice (some ⟨g,0,none⟩) l.length c) l.length ((l.mergeSort eo).map cj).flatten∧w.grownBy w' (some g):=by
 rcases q.2 with⟨h,_⟩|⟨g',cap,cur,D,hbg,hg,hncap,hcm,hcs,htake⟩
 ·simp at h
 obtain⟨rfl,rfl⟩:g=g'∧c=cap:=by simpa using D
 have u:g<w.heap.size:=(fK.1 hg).1;have a: ∀x,∀v∈cj x,v.oneCell'=true:=fun x v D=>by
  obtain⟨b,_,rfl⟩:=cy.1 D;rfl
 have i:(flatK cj 32 l.toArray).toList=(l.map cj).flatten:=by rw[ye cj 32 a8 Cd]
 have I:HoldsK cj 32 w g 0 l.toArray:=by
  intro j M;have o:j<l.length*32:=by simpa using M
  refine⟨?_,by simp[World.frozen?,hg]⟩;have E:(flatK cj 32 l.toArray)[j]?=cur[j]? :=by
   rw[←nP,i,←htake,pq o,nP]
  have p:j<(flatK cj 32 l.toArray).size:=by simpa using o
  rw[jL p]at E;rw[getElem!_pos _ j p];simp only[World.cell?,hg,au];simp only[jV,jo,if_false];exact E.symm
 have n:CmpLays Tryz.prog 117 #[] cj 32 (fun x y=>cQ x y) g 0 l.toArray.size w:=fun m os H _ x y=>by
  have:=Y8 x.l y.l x.by_ y.by_ x.len y.len (sortWorldK cj 32 w g 0 m H os);rw[Bn _ _ (by rw[x.len,y.len])]at this;exact this
 have J:SWO (ltOf (fun x y:Dg=>cQ x y)):=by
  unfold ltOf;refine⟨fun x=> ?_,fun x y z=> ?_,fun x y z=> ?_⟩
  ·simp[tF]
  ·intro a f;simp only[decide_eq_true_eq]at a f⊢;exact oA a f
  ·intro a f;simp only[decide_eq_false_iff_not]at a f⊢;intro t;by_cases r:x=y
   ·subst r;exact f t
   by_cases s:y=z
   ·subst s;exact a t
   exact tF _ (oA t (oA (D9 f s) (D9 a r)))
 have K: ∀x y:Dg,ltOf (fun x y:Dg=>cQ x y) x y=false→ltOf (fun x y:Dg=>cQ x y) y x=false→x=y:=by
  intro x y a f;unfold ltOf at a f;simp only[decide_eq_false_iff_not]at a f;have:=va x y;exact(lz x y).1 a8
 have key:=AnyQ.slices_SortFunc_total Tryz.laysSortDgs 32 Tryz.isAgg25 Tryz.sizeOf25 cj Cd a (fun x y=>cQ x y) J 117 #[] g 0 c l.toArray w (enters_fn' Tryz.func117 rfl (by rfl)) n I u (by simp;omega) K;have C:l.toArray.size=l.length:=by simp
 rw[C]at key;refine nT (show Calls Tryz.prog 116 _ _ _ from key) ?_;rintro e w' ⟨L,m,os,rfl⟩;refine⟨L,?_,HO _⟩;have B:(l.toArray.toList.mergeSort fun x y=> !ltOf (fun x y:Dg=>cQ x y) y x)=l.mergeSort eo:=by
  have:(fun x y:Dg=> !ltOf (fun x y:Dg=>cQ x y) y x)=eo:=by
   funext x y;unfold ltOf eo;have:=va x y;by_cases h:cQ x y≤0
   ·simp[h];omega
   ·simp[h];omega
  rw[this]
 have d:(flatK cj 32 ((l.toArray.toList.mergeSort fun x y=> !ltOf (fun x y:Dg=>cQ x y) y x).toArray)).toList=((l.mergeSort eo).map cj).flatten:=by
  rw[ye cj 32 a8 Cd,B]
 unfold sortWorldK putRowK;generalize flatK cj 32 ((l.toArray.toList.mergeSort fun x y=> !ltOf (fun x y:Dg=>cQ x y) y x).toArray)=F at d;have k:F.size=l.length*32:=by rw[←jM,d,Ce,kJ]
 have A:F.size≤cur.size:=by rw[k,hcs];omega
 have G:=Ly cur F A;rw[d,k]at G;exact⟨by rw[Ce,kJ],.inr ⟨g,c,_,rfl,hbg,HQ _ hg,hncap,hcm,by simp[Go.Sort.putCells,hcs],G⟩⟩
end Go.Proofs.Q
namespace Go.Bb
open Go Go.RowKit Go.Ab
theorem MT{k:aF}{w:World}{us vs:List Value}(h:bK k w us (vs.map fun v=> .d (.sc v))):us=vs:=by
 apply fy;intro i;have e:=h.1;rw[aL]at e;by_cases hi:i<us.length
 ·have b:us[i]?=some us[i]:=bV hi;have c:vs[i]?=some vs[i]:=bV a8;have:=h.2.2 i _ (.d (.sc vs[i])) b (by rw[cC,c];rfl);have a:=this.d_inv;rw[b,c];generalize us[i]=u at a;cases a;rfl
 ·rw[fZ a8,fZ a8]
theorem XX{k:aF}{w:World}{vs:List Value}(b: ∀u∈vs,u.oneCell'=true):bK k w vs (vs.map fun v=> .d (.sc v)):=
 ⟨by simp,b,fun i u d c a=>by
  rw[cC,c]at a;cases a;exact .d (.sc u)⟩
theorem St.vecSc{o:Nat→Code→CC→Prop}{B:Nat}{k:aF}{s:List aa}{w:World}(h:St o B k s w){id e sz n:Nat}{vs:List Value}(x:s[id]?=some (.vec e sz (vs.map fun v=> .d (.sc v))))(r:vs.length=n*sz)(i:0<sz){v:Value}(t:RA k w v (.vec id n sz)):
  k.own[id]?=some (.row v n)∧w.ownsRow B e sz v n vs∧ ∀g,v.ownBlock=some g→k.I g=0:=by
 obtain⟨_,u,y,a,q,c⟩:=t.vec_inv;obtain⟨v2,z,xs,l,b,p,m,j⟩:=h.vec x;rw[a]at l;cases l;have f:n=y:=by
  rw[aL,r]at m;exact kK i m
 subst f;obtain rfl:=MT j;rw[c rfl];exact⟨a,b,p⟩
theorem St.vecPut{l:Nat→Code→CC→Prop}{B:Nat}{k:aF}{s:List aa}{w w':World}(c:St l B k s w){id e sz n g:Nat}{v:Value}{vs:List Value}(h:k.own[id]?=some (.row v n))(m: ∀g,v.ownBlock=some g→k.I g=0)(hg:v.ownBlock=some g)(t:vs.length=n*sz)(q: ∀u∈vs,u.oneCell'=true)
  (j:w'.ownsRow B e sz v n vs) (a:w.grownBy w' (some g)):Ext B k w k w'∧St l B k (s.set id (.vec e sz (vs.map fun v=> .d (.sc v)))) w':=by
 have i:(Own.row v n).block=some g:=hg;obtain⟨x,r⟩:=c.lies id _ g h i;have f:gX k.I w k.I w':=fun b o u p hc=>by
  have hne:b≠g:=by rintro rfl;rw[m _ hg]at p;omega
  refine⟨p,?_⟩;have hb:b<w.heap.size:=Go.Proofs.Lg.cell_lt hc;exact(sZ (w:=w) (a.block b hb (by simpa using hne))).trans hc
 exact c.upd (k':=k) h _ (oS h) (de.refl _) f ⟨a.os,a.tape,a.output,a.size,fun b hb=>a.block b (by have:=c.base;omega) (by simp;omega)⟩
  (fun b hb=>⟨.inl hb,by have:=(c.lies id _ b h hb).2;have:=a.size;omega,(c.lies id _ b h hb).1⟩)
  (fun b hb hne=>⟨a.block b hb (fun e=>hne (by cases e;exact i)),rfl⟩)
  ⟨vs,j,m,by rw[aL];exact t,XX q⟩
end Go.Bb
namespace Go.Proofs.Q
open Go Go.Bb Go.RowKit Go.Proofs.Lg
open Go.Ab (D RD)
def cz(l:List Dg):List AV:=(l.map cj).flatten.map fun v=> .d (.sc v)
theorem r9(l:List Dg):cz l=((l.map aq).flatten).map .d:=by
 unfold cz
 induction l with
 |nil=>rfl
 |cons x l a=>
  simp only[bO,fA,eX];rw[a,BJ,lk];rfl
theorem Ll{s:List aa}{i:Nat}{l:List Dg}(C:s[i]?=some (.vec 25 32 (cz l)))(h0:l≠[])(z:l.length≤1000000):
  aT Tryz.prog 116 [.vec i l.length 32,.clo 117 [] []] s fun d D=>d= .tup []∧D=s.set i (.vec 25 32 (cz (l.mergeSort eo))):=by
 refine⟨.tup [],_,⟨enters_fn' Tryz.func116 rfl (by rfl),fun B k w vs n a=> ?_⟩,rfl,rfl⟩
 match vs,a with
 |[v,f],a=>
  obtain⟨x,b,r⟩:=n.vecSc C (Ce l) a8 (a.2 0 v _ rfl rfl);obtain⟨us,vs,rfl,p,q⟩:=(a.2 1 f _ rfl rfl).clo_inv;obtain rfl:us=[]:=fx p.1;obtain rfl:vs=[]:=fx q.1;rcases b.2 with⟨_,h⟩|⟨g,c,cur,hvv,_⟩
  ·exact absurd (fx h) h0
  ·subst hvv;refine(MX l g c B w z h0 b).mono ?_;rintro e w' ⟨rfl,m,o⟩;have y:(l.mergeSort eo).length=l.length:=kJ _;obtain⟨t,A⟩:=n.vecPut x r rfl (by rw[Ce,y]) (Z3 _) m o;exact⟨_,k,rfl,.tup (us:=[]) rfl (fun j u c h=>by simp at h),t,A⟩
end Go.Proofs.Q
namespace Go.Proofs.Q
open Go Go.Ab Go.Bb
def rJ:CF:=⟨148, (.seq (fo [o0 10 (.mov xT)]) (.seq (fo [o0 11 (.mov xT)]) (.block 0 (.loop (.trim [4,2,1,0,11,10,3] (.block 1 (.seq (fo [om 21 2,om 22 1,o4 23 .sub 21 22,om 12 23]) (.seq (.seq (fo [om 24 12,o5 25 .leq 24 12]) (.cond (.t 25) (.seq (fo [om 26 0,om 27 1,om 28 2,om 29 4,o6 30 217 [.t 26,.t 27,.t 28,.t 29]]) .ret) .skip)) (.seq (.seq (fo [om 31 3,o5 32 .eql 31 0]) (.cond (.t 32) (.seq (fo [om 33 0,om 34 1,om 35 2,om 36 4,o6 37 218 [.t 33,.t 34,.t 35,.t 36]]) .ret) .skip)) (.seq (.seq (fo [om 38 10,o0 39 (.not (.t 38))]) (.cond (.t 39) (.seq (fo [om 40 0,om 41 1,om 42 2,om 43 4,o6 44 219 [.t 40,.t 41,.t 42,.t 43]]) (fo [om 45 3,o5 46 .sub 45 1,om 3 46])) .skip)) (.seq (fo [om 48 0,om 49 1,om 50 2,om 51 4,o6 52 220 [.t 48,.t 49,.t 50,.t 51],om 47 52,oe 53 47 0,oe 54 47 1,om 13 53,om 14 54]) (.seq (.seq (fo [om 55 14,o5 56 .eql 55 2]) (.cond (.t 56) (.seq (fo [om 57 0,om 58 1,om 59 2,om 60 4,o6 61 221 [.t 57,.t 58,.t 59,.t 60]]) (.seq (fo [om 62 2,o5 63 .sub 62 1,om 64 13,om 65 1,o4 66 .sub 64 65,o4 67 .sub 63 66,om 13 67]) (fo [o7 14 1]))) .skip)) (.seq (.seq (fo [om 68 10,om 69 68,oh 70 69 true 11,o0 71 (.pick (.t 69) (.t 70) xF),om 72 71,oh 73 72 true 14,og 74 72 true (.bin .eql (.t 73) (xi 1)),o0 75 (.pick (.t 72) (.t 74) xF)]) (.cond (.t 75) (.seq (fo [om 76 0,om 77 1,om 78 2,om 79 4,o6 80 222 [.t 76,.t 77,.t 78,.t 79]]) (.cond (.t 80) .ret .skip)) .skip))
 (.seq (.seq (.ops true [0,1,3,7,7,7,39,119,247,7,7,1543,3591,8191,16383,32767,65535] [om 81 1,o5 82 .gtr 81 0,om 83 82,oh 84 83 true 4,oh 85 83 true 0,oh 86 83 true 1,og 87 83 true (.bin .sub (.t 86) (xi 1)),og 88 83 true (.iad 32 (.t 85) (.t 87)),og 89 83 true (.ld (some 32) (.t 88)),oh 90 83 true 0,oh 91 83 true 13,og 92 83 true (.iad 32 (.t 90) (.t 91)),og 93 83 true (.ld (some 32) (.t 92)),og 94 83 true (.call (.val (.t 84)) [.t 89,.t 93]),og 95 83 true (.bin .lss (.t 94) (xi 0)),og 96 83 true (.not (.t 95)),o0 97 (.pick (.t 83) (.t 96) xF)]) (.cond (.t 97) (.seq (fo [om 98 0,om 99 1,om 100 2,om 101 13,om 102 4,o6 103 223 [.t 98,.t 99,.t 100,.t 101,.t 102],om 15 103]) (.seq (fo [om 104 15,om 1 104]) (.exit 1))) .skip)) (.seq (fo [om 106 0,om 107 1,om 108 2,om 109 13,om 110 4,o6 111 224 [.t 106,.t 107,.t 108,.t 109,.t 110],om 105 111,oe 112 105 0,oe 113 105 1,om 16 112,om 17 113]) (.seq (fo [om 114 17,om 11 114]) (.seq (fo [om 115 16,om 116 1,o4 117 .sub 115 116,om 118 2,om 119 16,o4 120 .sub 118 119,om 18 117,om 19 120]) (.seq (fo [om 121 12,o5 122 .quo 121 8,om 20 122]) (.seq (fo [om 123 18,om 124 19,o4 125 .lss 123 124]) (.cond (.t 125) (.seq (fo [om 126 18,om 127 20,o4 128 .geq 126 127,om 10 128]) (.seq (fo [om 129 0,om 130 1,om 131 16,om 132 3,om 133 4,o6 134 164 [.t 129,.t 130,.t 131,.t 132,.t 133]]) (fo [om 135 16,o5 136 .add 135 1,om 1 136]))) (.seq (fo [om 137 19,om 138 20,o4 139 .geq 137 138,om 10 139])
 (.seq (fo [om 140 0,om 141 16,o5 142 .add 141 1,om 143 2,om 144 3,om 145 4,o6 146 164 [.t 140,.t 142,.t 143,.t 144,.t 145]]) (fo [om 147 16,om 2 147]))))))))))))))))))))))),[]⟩
theorem J0:aG Tryz.prog [] 164=some rJ.erase:=by kernel_rfl
def rC:CF:=⟨53, (.seq (fo [om 10 1,o5 11 .add 10 1,om 8 11]) (.block 0 (.loop (.trim [1,3,8,0,2] (.seq (.seq (fo [om 12 8,om 13 2,o4 14 .lss 12 13]) (.cond (.t 14) .skip (.exit 0))) (.seq (.block 1 (.seq (fo [om 17 8,om 9 17]) (.block 2 (.loop (.trim [9,0,8,1,3,2] (.seq (.seq (.ops true [0,0,3,7,15,15,15,111,239,15,15,1039,3599,7695,16383,32767,65535] [om 18 9,om 19 1,o4 20 .gtr 18 19,om 21 20,oh 22 21 true 3,oh 23 21 true 0,oh 24 21 true 9,og 25 21 true (.iad 32 (.t 23) (.t 24)),og 26 21 true (.ld (some 32) (.t 25)),oh 27 21 true 0,oh 28 21 true 9,og 29 21 true (.bin .sub (.t 28) (xi 1)),og 30 21 true (.iad 32 (.t 27) (.t 29)),og 31 21 true (.ld (some 32) (.t 30)),og 32 21 true (.call (.val (.t 22)) [.t 26,.t 31]),og 33 21 true (.bin .lss (.t 32) (xi 0)),o0 34 (.pick (.t 21) (.t 33) xF)]) (.cond (.t 34) .skip (.exit 2))) (.seq (.block 3 (.ops true [0,0,0,0,8,0,0,64,224,480,0,0,3072,7168,16355,32739,65535,131071] [om 37 0,om 38 9,om 39 0,om 40 9,o5 41 .sub 40 1,om 42 0,om 43 9,o5 44 .sub 43 1,oi 45 32 42 44,o2 46 32 45,om 47 0,om 48 9,oi 49 32 47 48,o2 50 32 49,oi 51 32 37 38,o8 32 51 46,oi 52 32 39 41,o8 32 52 50])) (fo [om 35 9,o5 36 .sub 35 1,om 9 36])))))))) (fo [om 15 8,o5 16 .add 15 1,om 8 16]))))))),[]⟩
theorem IT:aG Tryz.prog [] 217=some rC.erase:=by kernel_rfl
def ru:CF:=⟨14, (.seq (fo [om 5 0,o9 6 0 5,om 4 6]) (fo [om 7 0,om 8 4,om 9 4,o0 10 (.cnv .u64 (.t 9)),o6 11 165 [.t 10],om 12 1,o6 13 164 [.t 7,(xi 0),.t 8,.t 11,.t 12]])),[]⟩
theorem IN:aG Tryz.prog [] 116=some ru.erase:=by kernel_rfl
def yt:CF:=⟨8, (.seq (fo [o0 2 (.mov (.c (.nil 32)))]) (.seq (.seq (fo [om 3 0,o0 4 (.isn false (.t 3))]) (.cond (.t 4) (.seq (fo [o0 2 (.mov (.c (.nil 32)))]) .ret) .skip)) (.seq (fo [o0 5 (.bsl true 25 32 0 [] []),om 6 0,o0 7 (.app true 25 32 32 (.t 5) (.t 6)),om 2 7]) .ret))),[.tmp 2]⟩
theorem Rn:aG Tryz.prog [5,7] 113=some yt.erase:=by kernel_rfl
def rp:CF:=⟨61, (.seq (fo [o0 2 (.mov (.c (.nil 32)))]) (.seq (.seq (fo [om 6 0,o9 7 0 6,o5 8 .lss 7 2]) (.cond (.t 8) (.seq (fo [om 9 0,om 2 9]) .ret) .skip)) (.seq (.seq (fo [o7 3 1]) (.block 0 (.loop (.trim [0,3] (.seq (.seq (fo [om 10 3,om 11 0,o9 12 0 11,o4 13 .lss 10 12]) (.cond (.t 13) .skip (.exit 0))) (.seq (.block 1 (.seq (.ops true [0,0,3,7,0,0,32,112,240,511] [om 16 0,om 17 3,oi 18 32 16 17,o2 19 32 18,om 20 0,om 21 3,o5 22 .sub 21 1,oi 23 32 20 22,o2 24 32 23,o0 25 (.eqa true dD false (.t 19) (.t 24))]) (.cond (.t 25) (.seq (fo [om 26 0,om 27 3,o0 28 (.slc 32 (.t 26) (some (.t 27)) none),om 4 28]) (.seq (.seq (fo [o7 5 1]) (.block 2 (.loop (.trim [5,3,4,0] (.seq (.seq (fo [om 29 5,om 30 4,o9 31 0 30,o4 32 .lss 29 31]) (.cond (.t 32) .skip (.exit 2))) (.seq (.block 3 (.seq (.ops true [0,0,3,7,0,0,32,112,240,511] [om 35 4,om 36 5,oi 37 32 35 36,o2 38 32 37,om 39 4,om 40 5,o5 41 .sub 40 1,oi 42 32 39 41,o2 43 32 42,o0 44 (.eqa true dD true (.t 38) (.t 43))]) (.cond (.t 44) (.seq (fo [om 45 0,om 46 3,om 47 4,om 48 5,oi 49 32 47 48,o2 50 32 49,oi 51 32 45 46,o8 32 51 50]) (fo [om 52 3,o5 53 .add 52 1,om 3 53])) .skip))) (fo [om 33 5,o5 34 .add 33 1,om 5 34]))))))) (.seq (fo [om 54 0,om 55 3,o0 56 (.slc 32 (.t 54) (some (.t 55)) none),oN (.clr 32 cN (.t 56))]) (.seq (fo [om 57 0,om 58 3,o0 59 (.slc 32 (.t 57) none (some (.t 58))),om 2 59]) .ret)))) .skip))) (fo [om 14 3,o5 15 .add 14 1,om 3 15]))))))) (.seq (fo [om 60 0,om 2 60]) .ret)))),[.tmp 2]⟩
theorem IJ:aG Tryz.prog [] 118=some rp.erase:=by kernel_rfl
def rF:CF:=⟨44, (.seq (fo [ox 1 0,o0 2 (.mov (.c (.nil 32)))]) (.seq (.seq (fo [o2 8 5 1,o6 9 59 [.t 8],o5 10 .neq 9 0]) (.cond (.t 10) (.seq (fo [o0 2 (.mov (.c (.nil 32)))]) .ret) .skip)) (.seq (fo [o1 11 3 1,o3 12 11,o6 13 113 [.t 12],om 3 13]) (.seq (.seq (fo [o1 14 4 1,o3 15 14,o9 16 0 15,o7 17 0]) (.block 0 (.loop (.trim [17,3,15,16] (.seq (fo [o4 18 .lss 17 16]) (.seq (.cond (.t 18) .skip (.exit 0)) (.seq (.block 1 (.seq (fo [oi 19 139 15 17,o2 20 139 19,o0 5 (.box (.c (.agg pf))),o8 139 5 20]) (.seq (fo [o2 21 139 5,o6 22 114 [.t 21],o9 23 0 22,o7 24 0]) (.block 2 (.loop (.trim [24,3,22,17,15,16,23] (.seq (fo [o4 25 .lss 24 23]) (.seq (.cond (.t 25) .skip (.exit 2)) (.seq (.block 3 (.seq (fo [oi 26 34 22 24,o2 27 34 26,o0 7 (.box (.c (.agg pg))),o8 34 7 27]) (.seq (fo [o1 28 0 7,o2 29 33 28,o6 30 115 [.t 29],o0 31 (.not (.t 30))]) (.cond (.t 31) (fo [om 32 3,o1 33 0 7,o1 34 0 33,o2 35 32 34,o0 36 (.bsf 32 1 cN [(0,32,(.t 35))]),o0 37 (.app true 25 32 32 (.t 32) (.t 36)),om 3 37]) .skip)))) (fo [o5 38 .add 24 1,om 24 38])))))))))) (fo [o5 39 .add 17 1,om 17 39])))))))) (.seq (fo [om 40 3,o0 41 (.call (.fn 116) [.t 40,(.c (.clo 117 [] []))])]) (.seq (fo [om 42 3,o6 43 118 [.t 42],om 2 43]) .ret)))))),[.tmp 2]⟩
theorem IW:aG Tryz.prog [100001,100036,37] 76=some rF.erase:=by kernel_rfl
end Go.Proofs.Q
namespace Go.Proofs.Q
open Go Go.Bb Go.RowKit Go.Proofs.Lg
open Go.Ab (D RD)
def vD(d:Dg):Option (Nat×Dg)→Bool
 |none=>true
 |some q=>decide (cQ d q.2<0)
theorem Qu(a:List Dg)(x:bU)(s:aP)(i:Nat)(k:Option (Nat×Dg)):mD a (x::s) i k=mD a s (i+1) (if(!bN a x.id&&(gj a (bB x.pat)&&vD x.id k))=true then some (i,x.id)else k):=by
 cases k<;>rfl
theorem Qw(a:List Dg)(i:Nat)(k:Option (Nat×Dg)):mD a [] i k=k:=by cases k<;>rfl
def mA:Option (Nat×Dg)→Int
 |none=> -1
 |some q=>q.1
set_option maxHeartbeats 2000000 in
theorem Vk(s:aP)(B:iC s):aE Tryz.prog 55 [.sl 37 (s.map b8)] (.sl 32 ((iU s).map aq)):=by
 have z:=B.len;refine aI (F:=AP) Tq (by simp[AP]) ?_;simp only[AP];refine aw trivial trivial ?_;refine aX.tr (fun(a:List Dg)=>[(3,.tsl 0 32 (a.map aq))]) (fun a=>[.row 25 32 a.length]) (fun m a=>m+a.length=s.length∧iU s=qj s m a) s.length [] aA aA rfl ⟨rfl,rfl⟩ ?_;rintro m a ⟨hm,l⟩;by_cases I:a.length<s.length
 ·obtain⟨f,rfl⟩: ∃f,m=f+1:=⟨m-1,by omega⟩
  have w:decide ((a.length:Int)<(s.length:Int))=true:=by simp;omega
  rw[qj]at l;refine aw @w trivial ?_
  refine aX.overI s (fun k (b:Option (Nat×Dg))=>[(5,iN k),(4,.d (.sc (.int .i64 (mA b))))]) (fun _ _=>[.row 25 32 a.length]) (fun r b=>mD a r (s.length-r.length) b) (mD a s 0 none) (fun k b=> ∀j d,b=some (j,d)→j<k∧ ∃x,s[j]?=some x∧x.id=d) none a8 aA aA rfl (by simp) (by simp) (fun k b x hg H g u c n=> ?_) (fun b g c n=> ?_)
  ·have p:=vO x.pat (B.pat x (bT hg));have C:s.length-(x::s.drop (k+1)).length=k:=by simp only[aU,ax];omega
   have G:s.length-(s.drop (k+1)).length=k+1:=by simp only[ax];omega
   have t:s.length-(s.length-(k+1))=k+1:=by omega
   rw[C,Qu]at c;cases b with
   |none=>
    have e:(mA none<0)=True:=by simp[mA]
    clear l
    repeat' first|refine ak (fun _=> ?_) fun _=> ?_|refine bb (ga @g (ga @u (ga @hg @e))) (ga @qq (ga @p @nD)) ?_|exact ba (ga @g (ga @u (ga @hg @e))) (ga @qq (ga @p @nD))|fail
    all_goals first
     |(rw[if_pos (by simp_all[vD])]at c;exact⟨some (k,x.id),rfl,by rw[t];exact c,fun j d h=>by cases h;exact⟨by omega,x,hg,rfl⟩⟩)
     |(rw[if_neg (by simp_all[vD])]at c;exact⟨none,rfl,by rw[t];exact c,fun j d h=>let⟨D,v⟩:=n j d h;⟨by omega,v⟩⟩)
   |some q=>
    obtain⟨j,d⟩:=q;obtain⟨E,y,o,rfl⟩:=n j d rfl;have e:(mA (some (j,y.id))<0)=False:=by simp[mA]
    have i:mA (some (j,y.id))=(j:Int):=rfl;clear l
    repeat' first|refine ak (fun _=> ?_) fun _=> ?_|refine bb (ga @g (ga @u (ga @hg (ga @e (ga @i @o))))) (ga @qq (ga @p (ga @nD @lI))) ?_|exact ba (ga @g (ga @u (ga @hg (ga @e (ga @i @o))))) (ga @qq (ga @p (ga @nD @lI)))|fail
    all_goals first
     |(rw[if_pos (by simp_all[vD])]at c;exact⟨some (k,x.id),rfl,by rw[t];exact c,fun j d h=>by cases h;exact⟨by omega,x,hg,rfl⟩⟩)
     |(rw[if_neg (by simp_all[vD])]at c;exact⟨some (j,y.id),rfl,by rw[t];exact c,fun j d h=>let⟨D,v⟩:=n j d h;⟨by omega,v⟩⟩)
  ·rw[Qw]at c;rw[c]at l;cases b with
   |none=>
    have e:(mA none<0)=True:=by simp[mA]
    refine aw (ga @g @e) trivial ?_;rw[l]
   |some q=>
    obtain⟨j,d⟩:=q;obtain⟨E,y,o,rfl⟩:=n j d rfl;have e:(mA (some (j,y.id))<0)=False:=by simp[mA]
    have i:mA (some (j,y.id))=(j:Int):=rfl;have A:br (a.length+1) 32=true:=room_le a8 a8;clear c n
    repeat' first|refine ak (fun _=> ?_) fun _=> ?_|refine bb (ga @g (ga @e (ga @i (ga @o (ga @A (ga @eV @bc)))))) trivial ?_|exact ba (ga @g (ga @e (ga @i (ga @o (ga @A (ga @eV @bc)))))) trivial|fail
    ·omega
    ·exact⟨f,a++[y.id],by omega,by simp,by simp,by simp;omega,l⟩
 ·have w:decide ((a.length:Int)<(s.length:Int))=false:=by simp;omega
  obtain rfl:m=0:=by omega
  rw[qj]at l;refine aw @w trivial ?_;rw[l]
theorem I2{b:aZ}(h:isName b=true):b.size≤40:=by
 unfold isName at h;simp only[eI,decide_eq_true_eq]at h;omega
theorem PF{b:aZ}(h:kj b=true):b.size≤1000:=by
 unfold kj at h;simp only[eI,decide_eq_true_eq]at h;omega
theorem I9: ∀{l:List aZ},km l=0→ ∀s∈l,kj s=true
 |[],_,s,a=>by cases a
 |x::l,h,s,a=>by
  rw[km]at h;split at h
  ·rename_i b;rcases bY.1 a with rfl|a
   ·exact b
   ·exact I9 h s a
  ·cases h
theorem Q3{l:List aZ}(h:mB l=0): ∀s∈l,kj s=true:=by
 unfold mB at h;split at h
 ·cases h
 split at h
 ·cases h
 exact I9 h
theorem OR{c:af}(h:gm c=0):CB c:=by
 have b:=(oD h).2.2;unfold gm at h;split at h
 ·cases h
 split at h
 ·cases h
 split at h
 ·cases h
 split at h
 ·cases h
 rename_i e;split at h
 ·cases h
 split at h
 ·cases h
 rename_i g;refine⟨fun a=> ?_,by omega,fun d s f=> ?_⟩
 ·have:isName c.name=true:=by
   cases hi:isName c.name with
   |true=>rfl
   |false=>exact absurd ⟨a,hi⟩ e
  have:=I2 this;omega
 ·have:=PF (Q3 (b d) s f);omega
theorem tQ:maxLen≤9223372036854775807:=by decide
theorem Mq{p:b9}(h:oq p):xa p where
 author:=eS h.author tQ
 chg:=fun c hc=>⟨⟨eS (h.chg c hc).name tQ,fun s a=>eS ((h.chg c hc).line s a) tQ⟩,eS (h.chg c hc).over tQ⟩
theorem FM{p:b9}(h:oq p):pn p.changes:=⟨eS h.changes tQ,fun c hc=>eS (h.chg c hc).over tQ⟩
theorem Mp{p:b9}(h:oq p){b:Nat}(hb: ∀c∈p.changes,20+c.lines.length+3*c.over.length≤b)(j:b*p.changes.length≤19000):cV p:=by
 refine⟨Mq h,fun hc=> ?_⟩;obtain⟨e,f,a,_,d,g,_⟩:=mY hc;have hg:eW 6 (kn p):=Pm (by have:=I2 d;omega) a8 fun c hc=>OR (a c hc);have i:=QA p b hb;refine⟨by omega,by omega,fun c hc=>⟨(oD (a c hc)).1.1,(oD (a c hc)).1.2,by have:=vg (a c hc);omega,by have:=Df (a c hc);omega⟩,hg,by omega,?_⟩
 have:=He 6 _ hg;omega
theorem Pn{l:List aZ}(h:tJ l=false):l.length≤40:=by
 unfold tJ at h;simp only[Bool.or_eq_false_iff,decide_eq_false_iff_not]at h;omega
theorem HM: ∀{l:List af} {n m:Int},pZ l n=some m→ ∀c∈l,c.lines.length≤40∧c.over.length≤40
 |[],_,_,_,c,hc=>by cases hc
 |x::l,n,m,h,c,hc=>by
  rw[pZ]at h;split at h
  ·cases h
  rename_i a;rcases bY.1 hc with rfl|hc
  ·refine⟨Pn (by cases hg:tJ c.lines with|false=>rfl|true=>exact absurd (.inl hg) a),by omega⟩
  ·exact HM h c hc
theorem Dq{p:b9}(h:kT p=false):p.deps.length≤20∧p.changes.length≤20∧ ∀c∈p.changes,c.lines.length≤40∧c.over.length≤40:=by
 unfold kT at h;split at h
 ·cases h
 ·rename_i m hm;simp only[Bool.or_eq_false_iff,decide_eq_false_iff_not]at h;exact⟨by omega,by omega,HM hm⟩
theorem Cx{p:b9}(h:oq p)(hg:kT p=false):cV p:=by
 obtain⟨_,d,a⟩:=Dq hg;exact Mp h (b:=180) (fun c hc=>by have:=a c hc;omega) a8
theorem HR{a:Nat}: ∀{s:aP} {i:Nat} {n m:Int},qa a s i n=some m→s.length+i≤a+1→ ∀x∈s,kT x.pat=false
 |[],_,_,_,_,_,x,b=>by cases b
 |y::s,i,n,m,h,hl,x,b=>by
  rw[aU]at hl;rw[qa,if_pos a8]at h;split at h
  ·cases h
  rename_i c;rcases bY.1 b with rfl|b
  ·simpa using c
  ·exact HR h a8 x b
theorem HN{s:aP}(h:my s=false):s.length≤8∧ ∀x∈s,kT x.pat=false:=by
 unfold my tL at h;split at h
 ·cases h
 ·rename_i m hm;simp only[Bool.or_eq_false_iff,decide_eq_false_iff_not]at h;exact⟨by omega,HR hm a8⟩
theorem FT{s:aP}(h:sW s)(hg:my s=false):iC s∧ ∀x∈s,pn x.pat.changes:=by
 obtain⟨c,b⟩:=HN hg;exact⟨⟨by omega,fun x a=>Cx (h.pat x a) (b x a)⟩,fun x a=>FM (h.pat x a)⟩
end Go.Proofs.Q
