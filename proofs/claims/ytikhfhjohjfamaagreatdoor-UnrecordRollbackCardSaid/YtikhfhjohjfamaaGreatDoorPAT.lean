/- Lemmas. -/
import Derived.Test.YtikhfhjohjfamaaGreatDoorPAP
import Derived.Test.YtikhfhjohjfamaaGreatDoorPAO
import Derived.Sort.OwnSortedInts
set_option linter.unusedVariables false
set_option linter.unusedSimpArgs false
set_option maxRecDepth 100000
namespace Go.Proofs.Lg
open Go Go.RowKit Go.Shelf Go.Sort
attribute [local go_sem↓] Go.wp_at_zero Go.wp_at_succ
theorem xh(w:World)(A B:Array Value)(t u q:Nat)(i:Nat)(v:Value):
  (A[i]?=some v->(((w.alloc (.cells A t)).alloc (.cells B u)).drewN q).cell? ⟨w.heap.size,0+i,none⟩=some v)/\(B[i]?=some v->(((w.alloc (.cells A t)).alloc (.cells B u)).drewN q).cell? ⟨w.heap.size+1,0+i,none⟩=some v):=by
 constructor
 .intro h;simp[go_sem,h]
 .intro h;have e:w.heap.size+1=(w.alloc (.cells A t)).heap.size:=by simp
  rw[e];simp[go_sem,h]
set_option maxHeartbeats 400000 in
set_option maxRecDepth 100000 in
theorem YM(x y:List Int)(d:Bytes x)(f:Bytes y)(a:x.length=32)(b:y.length=32)(w:World):
  Calls Tryz.prog 183 #[.agg (x.map (Value.int .u8)).toArray,.agg (y.map (Value.int .u8)).toArray] w λe w'=>e= .returned (.int .i64 (jB x y))/\ ∃q g,w'=grow (w.drewN q) g:=by
 have j:(x.map (Value.int .u8)).toArray.size=32:=by simp[a]
 have k:(y.map (Value.int .u8)).toArray.size=32:=by simp[b]
 go_enter Tryz.func183,Tryz.ntmps183
 go_wp2
 go_quiet ((go_at_call 137;refine Calls.quiet_of_same ((Az _ _ _ _ _ 32 _ _ x y d f a b ?_ ?_).mono λ_ _ h=>⟨h.1,h.2.symm⟩);(intro i z c;exact(xh _ _ _ _ _ _ i _).1 (by simp[c]));(intro i z c;exact(xh _ _ _ _ _ _ i _).2 (by simp[c]))))
 go_wp2
 go_ret
 exact⟨rfl,nq,_,by rw[alloc_eq_grow,alloc_eq_grow,grow_grow];rfl⟩
theorem Bm{α:Type}[Inhabited α](enc:α->List Value)(k:Nat)(h0:0<k)(hk: ∀x,(enc x).length=k)(d:Array α):(flatK enc k d).toList=(d.toList.map enc).flatten:=by
 have f: ∀r∈d.toList.map enc,r.length=k:=λr j=>by obtain⟨x,_,rfl⟩:=bM.1 j;exact hk x
 have a:=Go.Ab.flatten_len _ f;have a:(d.toList.map enc).flatten.length=d.size*k:=by rw[a,aM,ic]
 apply gW;intro i;by_cases hi:i<d.size*k
 .have g:i/k<d.size:=Nat.div_lt_of_lt_mul (by rw[Nat.mul_comm];exact hi);have c:=Go.Ab.flatten_row _ f (i/k) (enc d[i/k]) (by simp[g]);have hm:i % k<k:=Nat.mod_lt _ h0;have e:i/k*k+i % k=i:=by rw[Nat.mul_comm];exact Nat.div_add_mod i k
  have l:((d.toList.map enc).flatten)[i]?=(enc d[i/k])[i % k]? :=by
   rw[<-c,fL,if_pos hm,gf,e]
  have h:i<(flatK enc k d).size:=by simpa using hi
  have hg:=get_flatK enc k d i hi;have b:i % k<(enc d[i/k]).length:=by rw[hk];exact hm
  rw[getElem!_pos (flatK enc k d) i h,getElem!_pos d (i/k) g,getElem!_pos (enc d[i/k]) (i % k) b]at hg;rw[l,qG,lZ h,hg,bQ b]
 .rw[iO (by simpa using hi),iO a8]
theorem Jw{w:World}{g n:Nat}{a:Array Obj}{cur:Array Value}{e:TypeId}{fr:Nat×Nat}(F:Array Value)(hb:w.heap[g]?=some (.cells cur e fr)):
  (grow (putRow id (Sort.ahead w n) g 0 F) a).heap[g]?=some (.cells (putCells id 0 F cur) e fr):=by
 have hg:g<w.heap.size:=(gy.1 hb).1;rw[heap_grow_old _ _ (by simpa using hg)];simp[putRow,mapBlock,Sort.ahead,xu,hb,onCells]
theorem Ju{w:World}{g n:Nat}{a:Array Obj}(F:Array Value):w.grownBy (grow (putRow id (Sort.ahead w n) g 0 F) a) (some g):=by
 refine⟨rfl,rfl,rfl,by simp,λk hk hne=> ?_⟩;rw[heap_grow_old _ _ (by simpa using hk)];have:g≠k:=λe=>hne (by rw[e]);simp[putRow,mapBlock,Sort.ahead,xu,this]
theorem Nf(cur F:Array Value)(h:F.size<=cur.size):(putCells id 0 F cur).toList.take F.size=F.toList:=by
 apply gW;intro j;by_cases a:j<F.size
 .rw[s6 a,qG,qG];simp[putCells,a,show j<cur.size by omega]
 .rw[List.getElem?_take_eq_none a8,iO (by simp;omega)]
end Go.Proofs.Lg
namespace Go.Proofs.Q
open Go Go.Bb Go.RowKit Go.Proofs.Lg Go.Sort Go.Shelf
open Go.Ab (D RD)
def fp(a b:Dg):Bool:=decide (bY a b<=0)
theorem CP(d:Dg):(dn d).length=32:=CN d
theorem ZN(l:List Dg): ∀u∈(l.map dn).flatten,u.oneCell'=true:=by
 intro u d;obtain⟨r,c,a⟩:=List.mem_flatten.1 d;obtain⟨x,_,rfl⟩:=bM.1 c;obtain⟨b,_,rfl⟩:=bM.1 a;rfl
theorem CQ(l:List Dg):(l.map dn).flatten.length=l.length*32:=by
 rw[Go.Ab.flatten_len (sz:=32) _ λr a=>by obtain⟨x,_,rfl⟩:=bM.1 a;exact CP x,aM]
set_option maxHeartbeats 1000000 in
theorem P7(l:List Dg)(g c base:Nat)(w:World)(O:l.length<=1000000)(h0:l≠[])(q:w.ownsRow base 30 32 (.slice (some ⟨g,0,none⟩) l.length c) l.length (l.map dn).flatten):
  Calls Tryz.prog 264 #[.slice (some ⟨g,0,none⟩) l.length c,.func (.func 183) #[] #[]] w λe w'=>
   e= .returned (.tuple #[])/\w'.ownsRow base 30 32 (.slice (some ⟨g,0,none⟩) l.length c) l.length ((l.mergeSort fp).map dn).flatten/\w.grownBy w' (some g):=by
 rcases q.2 with⟨h,_⟩|⟨g',cap,cur,D,hbg,hg,hncap,hcm,hcs,htake⟩
 .simp at h
 obtain⟨rfl,rfl⟩:g=g'/\c=cap:=by simpa using D
 have u:g<w.heap.size:=(gy.1 hg).1;have a: ∀x,∀v∈dn x,v.oneCell'=true:=λx v D=>by
  obtain⟨b,_,rfl⟩:=bM.1 D;rfl
 have i:(flatK dn 32 l.toArray).toList=(l.map dn).flatten:=by rw[Bm dn 32 a8 CP]
 have J:HoldsK dn 32 w g 0 l.toArray:=by
  intro j N;have o:j<l.length*32:=by simpa using N
  refine⟨?_,by simp[World.frozen?,hg]⟩;have E:(flatK dn 32 l.toArray)[j]?=cur[j]? :=by
   rw[<-qG,i,<-htake,s6 o,qG]
  have p:j<(flatK dn 32 l.toArray).size:=by simpa using o
  rw[lZ p]at E;rw[getElem!_pos _ j p];simp only[World.cell?,hg,aw];simp only[kA,l7,if_false];exact E.symm
 have n:CmpLays Tryz.prog 183 #[] dn 32 (λx y=>bY x y) g 0 l.toArray.size w:=λm H I _ x y=>by
  have:=YM x.l y.l x.by_ y.by_ x.len y.len (sortWorldK dn 32 w g 0 m I H);rw[BH _ _ (by rw[x.len,y.len])]at this;exact this
 have K:SWO (ltOf (λx y:Dg=>bY x y)):=by
  unfold ltOf;refine⟨λx=> ?_,λx y z=> ?_,λx y z=> ?_⟩
  .simp[oW]
  .intro a f;simp only[decide_eq_true_eq]at a f⊢;exact nk a f
  .intro a f;simp only[decide_eq_false_iff_not]at a f⊢;intro t;by_cases r:x=y
   .subst r;exact f t
   by_cases s:y=z
   .subst s;exact a t
   exact oW _ (nk t (nk (B8 f s) (B8 a r)))
 have L: ∀x y:Dg,ltOf (λx y:Dg=>bY x y) x y=false->ltOf (λx y:Dg=>bY x y) y x=false->x=y:=by
  intro x y a f;unfold ltOf at a f;simp only[decide_eq_false_iff_not]at a f;have:=w8 x y;exact(k8 x y).1 a8
 have key:=AnyQ.slices_SortFunc_total Tryz.laysSortDgs 32 Tryz.isAgg30 Tryz.sizeOf30 dn CP a (λx y=>bY x y) K 183 #[] g 0 c l.toArray w (enters_fn' Tryz.func183 rfl (by rfl)) n J u (by simp;omega) L;have C:l.toArray.size=l.length:=by simp
 rw[C]at key;refine qJ (show Calls Tryz.prog 264 _ _ _ from key) ?_;rintro e w' ⟨M,m,H,rfl⟩;refine⟨M,?_,Ju _⟩;have B:(l.toArray.toList.mergeSort λx y=> !ltOf (λx y:Dg=>bY x y) y x)=l.mergeSort fp:=by
  have:(λx y:Dg=> !ltOf (λx y:Dg=>bY x y) y x)=fp:=by
   funext x y;unfold ltOf fp;have:=w8 x y;by_cases h:bY x y<=0
   .simp[h];omega
   .simp[h];omega
  rw[this]
 have d:(flatK dn 32 ((l.toArray.toList.mergeSort λx y=> !ltOf (λx y:Dg=>bY x y) y x).toArray)).toList=((l.mergeSort fp).map dn).flatten:=by
  rw[Bm dn 32 a8 CP,B]
 unfold sortWorldK putRowK;generalize flatK dn 32 ((l.toArray.toList.mergeSort λx y=> !ltOf (λx y:Dg=>bY x y) y x).toArray)=F at d;have k:F.size=l.length*32:=by rw[<-ic,d,CQ,lj]
 have A:F.size<=cur.size:=by rw[k,hcs];omega
 have G:=Nf cur F A;rw[d,k]at G;exact⟨by rw[CQ,lj],.inr ⟨g,c,_,rfl,hbg,Jw _ hg,hncap,hcm,by simp[Go.Sort.putCells,hcs],G⟩⟩
end Go.Proofs.Q
namespace Go.Bb
open Go Go.RowKit Go.Ab
theorem OZ{k:aP}{w:World}{us vs:List Value}(h:bZ k w us (vs.map λv=> .d (.sc v))):us=vs:=by
 apply gW;intro i;have e:=h.1;rw[aM]at e;by_cases hi:i<us.length
 .have b:us[i]?=some us[i]:=bQ hi;have c:vs[i]?=some vs[i]:=bQ a8;have:=h.2.2 i _ (.d (.sc vs[i])) b (by rw[dj,c];rfl);have a:=this.d_inv;rw[b,c];generalize us[i]=u at a;cases a;rfl
 .rw[iO a8,iO a8]
theorem YA{k:aP}{w:World}{vs:List Value}(b: ∀u∈vs,u.oneCell'=true):bZ k w vs (vs.map λv=> .d (.sc v)):=
 ⟨by simp,b,λi u d c a=>by
  rw[dj,c]at a;cases a;exact .d (.sc u)⟩
theorem St.vecSc{o:Nat->Code->CC->Prop}{B:Nat}{k:aP}{s:List aa}{w:World}(h:St o B k s w){id e sz n:Nat}{vs:List Value}(x:s[id]?=some (.vec e sz (vs.map λv=> .d (.sc v))))(r:vs.length=n*sz)(i:0<sz){v:Value}(t:RA k w v (.vec id n sz)):
  k.own[id]?=some (.row v n)/\w.ownsRow B e sz v n vs/\ ∀g,v.ownBlock=some g->k.I g=0:=by
 obtain⟨_,u,y,a,q,c⟩:=t.vec_inv;obtain⟨v2,z,xs,l,b,p,m,j⟩:=h.vec x;rw[a]at l;cases l;have f:n=y:=by
  rw[aM,r]at m;exact mf i m
 subst f;obtain rfl:=OZ j;rw[c rfl];exact⟨a,b,p⟩
theorem St.vecPut{j:Nat->Code->CC->Prop}{B:Nat}{k:aP}{s:List aa}{w w':World}(c:St j B k s w){id e sz n g:Nat}{v:Value}{vs:List Value}(hk:k.own[id]?=some (.row v n))(l: ∀g,v.ownBlock=some g->k.I g=0)(hg:v.ownBlock=some g)(r:vs.length=n*sz)(p: ∀u∈vs,u.oneCell'=true)
  (i:w'.ownsRow B e sz v n vs) (a:w.grownBy w' (some g)):Ext B k w k w'/\St j B k (s.set id (.vec e sz (vs.map λv=> .d (.sc v)))) w':=by
 have h:(Own.row v n).block=some g:=hg;obtain⟨t,q⟩:=c.lies id _ g hk h;have f:jr k.I w k.I w':=λb o u m hc=>by
  have hne:b≠g:=by rintro rfl;rw[l _ hg]at m;omega
  refine⟨m,?_⟩;have hb:b<w.heap.size:=Go.Proofs.Lg.cell_lt hc;exact(vG (w:=w) (a.block b hb (by simpa using hne))).trans hc
 exact c.upd (k':=k) hk _ (rz hk) (dM.refl _) f ⟨a.os,a.tape,a.output,a.size,λb hb=>a.block b (by have:=c.base;omega) (by simp;omega)⟩
  (λb hb=>⟨.inl hb,by have:=(c.lies id _ b hk hb).2;have:=a.size;omega,(c.lies id _ b hk hb).1⟩)
  (λb hb hne=>⟨a.block b hb (λe=>hne (by cases e;exact h)),rfl⟩)
  ⟨vs,i,l,by rw[aM];exact r,YA p⟩
end Go.Bb
namespace Go.Proofs.Q
open Go Go.Bb Go.RowKit Go.Proofs.Lg
open Go.Ab (D RD)
def dx(l:List Dg):List AV:=(l.map dn).flatten.map λv=> .d (.sc v)
theorem ud(l:List Dg):dx l=((l.map au).flatten).map .d:=by
 unfold dx
 induction l with
 |nil=>rfl
 |cons x l a=>
  simp only[bX,gG,fF];rw[a,Cc,ll];rfl
theorem MU{s:List aa}{i:Nat}{l:List Dg}(A:s[i]?=some (.vec 30 32 (dx l)))(h0:l≠[])(y:l.length<=1000000):
  bs Tryz.prog 264 [.vec i l.length 32,.clo 183 [] []] s λd C=>d= .tup []/\C=s.set i (.vec 30 32 (dx (l.mergeSort fp))):=by
 refine⟨.tup [],_,⟨enters_fn' Tryz.func264 rfl (by rfl),λB k w vs n a=> ?_⟩,rfl,rfl⟩
 match vs,a with
 |[v,f],a=>
  obtain⟨hk,b,r⟩:=n.vecSc A (CQ l) a8 (a.2 0 v _ rfl rfl);obtain⟨us,vs,rfl,p,q⟩:=(a.2 1 f _ rfl rfl).clo_inv;obtain rfl:us=[]:=gV p.1;obtain rfl:vs=[]:=gV q.1;rcases b.2 with⟨_,h⟩|⟨g,c,cur,hvv,_⟩
  .exact absurd (gV h) h0
  .subst hvv;refine(P7 l g c B w y h0 b).mono ?_;rintro e w' ⟨rfl,m,o⟩;have x:(l.mergeSort fp).length=l.length:=lj _;obtain⟨t,z⟩:=n.vecPut hk r rfl (by rw[CQ,x]) (ZN _) m o;exact⟨_,k,rfl,.tup (us:=[]) rfl (λj u c h=>by simp at h),t,z⟩
end Go.Proofs.Q
namespace Go.Proofs.Q
open Go Go.Bb Go.RowKit Go.Proofs.Lg
open Go.Ab (D RD)
theorem Sw(s:bb):isName s=(pe s.data.toList&& !decide (s=⟨#[]⟩)&&decide ((s.size:Int)<=40)&& !decide (s=⟨#[46]⟩)&& !decide (s=⟨#[46,46]⟩)):=by
 have h:decide (1<=(s.size:Int))= !decide (s=⟨#[]⟩):=by
  by_cases e:s=⟨#[]⟩
  .subst e;rfl
  .have hp:s.size≠0:=λh0=>e (by
    apply ByteArray.ext;exact Array.eq_empty_of_size_eq_zero h0)
   rw[decide_eq_false e];simp;omega
 unfold isName;rw[h]
set_option maxHeartbeats 4000000 in
theorem L3(s:bb)(c:s.size<=9223372036854775807):aI Tryz.prog 289 [dS s] (dB (isName s)):=by
 refine aL Tryz.f289 ?_ [] [[7,0,6]];refine aC trivial trivial ?_;refine aZ.over s.data.toList (λk (_:Unit)=>[(7,iN k)]) (λ_ _=>[]) (λl _=>pe l) (pe s.data.toList) () (by rw[gJ];exact c) aA aA rfl rfl (λk _ x hg hk b d a=> ?_) (λ_ b a=> ?_)
 .rw[gJ]at b;rw[pe]at a
  repeat' first|refine ab (λ_=> ?_) λ_=> ?_|refine aG (ga @b (ga @d (ga @sk @hg))) trivial ?_|exact aF (ga @b (ga @d (ga @sk @hg))) trivial|fail
  all_goals first
   |(
    have hb:wF x=true:=by(clear a b d hg c;simp_all[wF];try omega)
    rw[if_pos hb]at a;exact⟨(),a⟩)
   |(
    have hb:wF x=false:=by(clear a b d hg c;simp_all[wF];try omega)
    rw[if_neg (by simp[hb])]at a;simp[isName,a])
 .rw[gJ]at b;rw[pe]at a
  repeat' first|refine ab (λ_=> ?_) λ_=> ?_|refine aG (ga @b (ga @gJ @mq)) trivial ?_|exact aF (ga @b (ga @gJ @mq)) trivial|fail
  all_goals(rw[Sw,a];clear b c;first|(simp_all;done)|(simp_all;intros;omega))
end Go.Proofs.Q
namespace Go.Proofs.Q
open Go Go.Bb Go.Proofs.Lg
def Bh:bb:=⟨#[97,110,110]⟩
def E6:bb:=⟨#[98,111,98]⟩
def Bi:bb:=⟨#[99,105,100]⟩
def gm:aU:={aU.zero with author:=Bh,changes:=[{az.zero with kind:=1,type:=1},{az.zero with kind:=2,parent:=⟨.zero,-1⟩,name:=⟨#[102]⟩},{az.zero with kind:=5,lines:=[⟨#[120]⟩]}]}
def kN(p:Dg):aU:={aU.zero with author:=E6,changes:=[{az.zero with kind:=5,file:=⟨p,0⟩,after:=⟨p,2⟩,before:=⟨p,0⟩,lines:=[⟨#[121]⟩]}]}
def dP:Dg:=⟨[154,86,201,38,78,66,242,149,218,150,198,81,33,64,41,219,218,30,46,195,27,124,2,109,174,115,149,13,46,189,118,187],by decide,by unfold Bytes;decide⟩
def dQ:Dg:=⟨[97,162,199,217,104,214,45,212,92,121,32,118,196,106,212,70,117,144,33,182,63,32,96,180,1,221,62,43,83,4,97,13],by decide,by unfold Bytes;decide⟩
def dR:Dg:=⟨[129,167,102,69,184,39,93,200,1,191,126,90,89,92,60,181,177,99,117,110,106,179,26,82,202,91,92,78,104,170,43,47],by decide,by unfold Bytes;decide⟩
def mB:aU:={aU.zero with author:=Bi,time:=3,changes:=[{az.zero with kind:=7,over:=[⟨dP,0⟩,⟨dP,1⟩,⟨dP,2⟩,⟨dP,3⟩,⟨dP,4⟩]}]}
def jg:ar:=[⟨dQ,kN dP⟩,⟨dP,gm⟩]
def gL:ar:=[⟨dQ,kN dP⟩,⟨dR,mB⟩,⟨dP,gm⟩]
set_option maxRecDepth 100000 in
theorem R5:eZ aq [] gm=([⟨dP,gm⟩],dP,0):=by kernel_rfl
set_option maxRecDepth 100000 in
theorem R8:eZ aq [⟨dP,gm⟩] (kN dP)=(jg,dQ,0):=by kernel_rfl
set_option maxRecDepth 100000 in
theorem Rg:eZ aq jg mB=(gL,dR,0):=by kernel_rfl
set_option maxRecDepth 100000 in
theorem Rc:eT jg dP=([],19):=by kernel_rfl
set_option maxRecDepth 100000 in
theorem Rb:rD jg [dP]=([],[dQ,dP],0):=by kernel_rfl
end Go.Proofs.Q
