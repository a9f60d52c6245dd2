/- Lemmas. -/
import Derived.Test.YtikhfhjohjfamaaGreatDoorPAN
import Derived.ProofKit
import Derived.OpenShut
import Derived.Deep.Slices
set_option linter.unusedVariables false
set_option linter.unusedSimpArgs false
set_option maxRecDepth 100000
namespace Go.Proofs.Lg
open Go Go.RowKit
attribute [local go_sem↓] Go.wp_at_zero Go.wp_at_succ
theorem Yx(w:World)(b f off e c g:Nat)(x y:List Int)(o:Bytes x)(p:Bytes y)(n:x.length=y.length)
  (l: ∀i z,x[i]?=some z->w.cell? ⟨b,off+i,none⟩=some (Value.int .u8 z)) (m: ∀i z,y[i]?=some z->w.cell? ⟨f,e+i,none⟩=some (Value.int .u8 z)):
  (Extern.BytealgCompare.compare #[.slice (some ⟨b,off,none⟩) x.length c,.slice (some ⟨f,e,none⟩) y.length g]).run Tryz.prog w= .ok (.int .i64 (jB x y)) w:=by
 have j:=run_loadBytes (P:=Tryz.prog) w b x off .empty l;have k:=run_loadBytes (P:=Tryz.prog) w f y e .empty m;have hc: ∀a b:Value,Extern.BytealgCompare.compare #[a,b]=(Extern.Bytes.bytesOf a>>=λx=>Extern.Bytes.bytesOf b>>=λy=>pure (goInt (Extern.BytealgCompare.cmp x y))):=λ_ _=>rfl;rw[hc];simp only[Extern.Bytes.bytesOf,bP,j,k,bV,cJ]
 have: ∀d:List Int,(⟨ByteArray.empty.data++(iH d).data⟩:ByteArray)=iH d:=λd=>by cases h:iH d;simp
 rw[this,this,Qs x y o p n];rfl
set_option maxHeartbeats 400000 in
theorem Az(w:World)(b f off a n c h:Nat)(x y:List Int)(l:Bytes x)(m:Bytes y)(g:x.length=n)(d:y.length=n)
  (j: ∀i z,x[i]?=some z->w.cell? ⟨b,off+i,none⟩=some (Value.int .u8 z)) (k: ∀i z,y[i]?=some z->w.cell? ⟨f,a+i,none⟩=some (Value.int .u8 z)):
  Calls Tryz.prog 137 #[.slice (some ⟨b,off,none⟩) n c,.slice (some ⟨f,a,none⟩) n h] w λe w'=>e= .returned (.int .i64 (jB x y))/\w=w':=by
 have e:=Yx w b f off a c h x y l m (g.trans d.symm) j k;rw[g,d]at e;have E:=Lib.hid e;clear e j k g d
 go_enter Tryz.func137,Tryz.ntmps137
 go_wp2
 rw[run_callFunc_extern Tryz.func210 (by kernel_rfl) (by kernel_rfl) (by kernel_rfl) (e:=Extern.BytealgCompare.compare) (by kernel_rfl),E.out];simp only[Result.andThen];rw[Oper.upon_value]
 go_wp2
 go_ret
 exact⟨rfl,rfl⟩
end Go.Proofs.Lg
namespace Go.Proofs.Q
open Go Go.Bb Go.RowKit Go.Proofs.Lg
open Go.Ab (D RD)
theorem enters_fn'{P:Program}{f:FuncId}{fn:Func}{c:Code}(a:P.funcs[f]?=some fn)(hb:fn.body=some c)(d:(fn.name== "runtime.NumGoroutine")=false):Enters P f:=λargs w=>by
 have b:fn.name≠ "runtime.NumGoroutine":=by simpa using d
 simp[callFunc,a,b,hb,mark]
theorem Hu{I:Nat->Nat}{w:World}{v:Value}{x:List Int}(h:RD I w v (.sl 1 (x.map λn=>[D.sc (.int .u8 n)])))(s:0<x.length): ∃b off c,v= .slice (some ⟨b,off,none⟩) x.length c/\ ∀i z,x[i]?=some z->w.cell? ⟨b,off+i,none⟩=some (Value.int .u8 z):=by
 obtain⟨a,c,us,rfl,o,p,q,f,j⟩:=h.sl_inv;obtain⟨b,off,rfl,hc⟩:=j (by intro e;have:=congrArg List.length e;rw[aM]at this;simp only[bc]at this;omega);have g:(x.map λn=>[D.sc (.int .u8 n)]).flatten=x.map λn=>D.sc (.int .u8 n):=by
  clear o p q f j hc s h
  induction x with
  |nil=>rfl
  |cons a l t=>simp[t]
 rw[g]at f;refine⟨b,off,c,by rw[aM],λi z m=> ?_⟩;have r:=f.1;rw[aM]at r;have hi:=(aV.1 m).1;have k:us[i]?=some us[i]:=bQ a8;have d:=f.2.2 i _ _ k (by rw[dj,m];rfl);rw[(hc i _ k).2];congr 1;generalize us[i]=u at d;cases d;rfl
theorem BH: ∀(a b:List Int),a.length=b.length->jB a b=jz (a.zip b)
 |[],[],_=>rfl
 |x::a,y::b,h=>by
  rw[jB,oK,jz,BH a b (by simpa using h)]
 |[],_::_,h=>by simp at h
 |_::_,[],h=>by simp at h
theorem Ht(a b:Dg):aI Tryz.prog 137 [.sl 1 ((au a).map λx=>[x]),.sl 1 ((au b).map λx=>[x])] (dI (bY a b)):=by
 refine⟨enters_fn' Tryz.func137 rfl (by rfl),λI w vs g h _=> ?_⟩;have e: ∀d:Dg,((au d).map λx=>[x])=d.l.map λn=>[D.sc (.int .u8 n)]:=λd=>by unfold au;rw[ll];rfl
 rw[e,e]at h
 match vs,g with
 |[u,v],_=>
  obtain⟨j,off,c,rfl,m⟩:=Hu (h 0 _ _ rfl rfl) (by rw[a.len];decide);obtain⟨i,f,k,rfl,o⟩:=Hu (h 1 _ _ rfl rfl) (by rw[b.len];decide);rw[a.len,b.len];refine(Az w j i off f 32 c k a.l b.l a.by_ b.by_ a.len b.len m o).mono ?_;rintro e w' ⟨rfl,rfl⟩;rw[BH _ _ (by rw[a.len,b.len])];exact⟨_,rfl,.sc _,Below.refl _ _⟩
theorem zD(a b:Dg):aI Tryz.prog 183 [.agg (au a),.agg (au b)] (dI (bY a b)):=by
 refine aL Tryz.f183 ?_ [100002,100003]
 repeat' first|refine ab (λ_=> ?_) λ_=> ?_|refine aH ?_|refine af.data (Ht _ _) rfl ?_|simp only[Cz,MP,wy,qg,aE,reduceCtorEq,reduceIte,Nat.reduceAdd,Nat.reduceMul,Nat.reduceEqDiff,Nat.reduceLT,Nat.reduceLeDiff,Nat.reduceSub,ax,aD,aB,aw]
theorem BY(x:ak):aI Tryz.prog 213 [.agg (ae x)] (dB (isZero x.p)):=by
 refine aL Tryz.f213 ?_ [100001,300005]
 repeat' first|refine ab (λ_=> ?_) λ_=> ?_|refine aG trivial trivial ?_|exact aF trivial trivial|fail
 all_goals(simp_all[isZero,cj];try exact ch)
end Go.Proofs.Q
namespace Go.Bb
open Go Go.RowKit Go.Ab Go.Deep Go.WideShapes
inductive Sh where
 |int (k:IntKind)
 |bool
 |str
 |sl (size:Nat) (row:List Sh)
inductive ShOk:Sh->D->Prop where
 |int {k:IntKind} {n:Int}:(Lit.int k n).wf=true->ShOk (.int k) (.sc (.int k n))
 |bool (b:Bool):ShOk .bool (.sc (.bool b))
 |str {s:ByteArray}:s.size<=maxLen->ShOk .str (.sc (.string s))
 |sl {size:Nat} {shs:List Sh} {rows:List (List D)}:rows.length<=maxLen->(∀r,r∈rows->r.length=shs.length)->(∀(r:List D) (i:Nat) (sh:Sh) (d:D),r∈rows->shs[i]?=some sh->r[i]?=some d->ShOk sh d)->ShOk (.sl size shs) (.sl size rows)
def ShsOk(a:List Sh)(ds:List D):Prop:=ds.length=a.length/\ ∀(i:Nat) (b:Sh) (d:D),a[i]?=some b->ds[i]?=some d->ShOk b d
theorem ShsOk.append{a b:List Sh}{x y:List D}(h:ShsOk a x)(k:ShsOk b y):ShsOk (a++b) (x++y):=by
 refine⟨by simp[h.1,k.1],λi g d f e=> ?_⟩;rw[jb]at f e;rw[h.1]at e;split at f
 .rename_i c;rw[if_pos c]at e;exact h.2 i g d f e
 .rename_i c;rw[if_neg c]at e;exact k.2 _ g d f e
theorem ShsOk.one{a:Sh}{x:D}(h:ShOk a x):ShsOk [a] [x]:=by
 refine⟨rfl,λi e d b c=> ?_⟩;cases i with
 |zero=>simp at b c;subst b;subst c;exact h
 |succ i=>simp at b
def zC(P:Program)(g:TypeId->Option (List Sh))(b:Nat):Nat->List Field->Option (List Sh)
 |off,[]=>if off=b then some []else none
 |off,f::fs=>if f.offset=off then(g f.type).bind λa=>if a.length=P.cellsOf f.type then(zC P g b (off+P.cellsOf f.type) fs).map (a++ ·)else none else none
def tF(P:Program):Nat->TypeId->Option (List Sh)
 |0,_=>none
 |n+1,t=>match P.underlying t with
  |some .bool=>some [.bool]
  |some (.int k)=>some [.int k]
  |some .string=>some [.str]
  |some (.slice e)=>(tF P n e).bind λr=>if r.length=P.cellsOf e/\0<P.cellsOf e then some [.sl (P.cellsOf e) r]else none
  |some (.struct fs)=>zC P (tF P n) (P.cellsOf t) 0 fs.toList
  |some (.array m e)=>(tF P n e).bind λr=>if r.length=P.cellsOf e/\P.cellsOf t=m*P.cellsOf e then some (List.replicate m r).flatten else none
  |_=>none
theorem Jd{α:Type}{sz:Nat}: ∀(rows:List (List α)),(∀r∈rows,r.length=sz)-> ∀(i:Nat) (x:α),rows.flatten[i]?=some x-> ∃r,rows[i/sz]?=some r/\r[i % sz]?=some x
 |[],_,i,x,h=>by simp at h
 |r::rows,hr,i,x,h=>by
  have d:=hr r (by simp);rw[gG,jb]at h;split at h
  .rename_i a;rw[d]at a;rw[Nat.div_eq_of_lt a,xK a];exact⟨r,rfl,h⟩
  .rename_i a;rw[d]at a h;obtain⟨r',e,g⟩:=Jd rows (λr h=>hr r (er _ h)) (i-sz) x h;have c:0<sz:=by
    rcases qM sz with h0|h0
    .subst h0;have f:rows.flatten=[]:=by
      rw[List.flatten_eq_nil_iff];intro l b;exact xD.1 (hr l (er _ b))
     rw[f]at h;simp at h
    .exact h0
   have hi:sz<=i:=by omega
   refine⟨r',?_,?_⟩
   .rw[show i/sz=(i-sz)/sz+1 from by rw[<-Nat.add_div_right _ c,Nat.sub_add_cancel hi]];simpa using e
   .rwa[Nat.mod_eq_sub_mod hi]
section
variable {H:Type} {enc:TypeId×Value->H} {P:Program} {w:World} {base:Nat} {spare:Nat->Bool} {held:Bool}
theorem M9{I:Nat->Nat}{g:TypeId->Option (List Sh)}{q:TypeId->List Value->Prop}{cs:List Value}(hg: ∀t d c,g t=some d->q t c-> ∃ds,dA I w c ds/\ShsOk d ds):
  ∀(j:List Field) (off:Nat) (d:List Sh),zC P g cs.length off j=some d->(∀f∈j,q f.type ((cs.drop f.offset).take (P.cellsOf f.type)))-> ∃ds,dA I w (cs.drop off) ds/\ShsOk d ds
 |[],off,d,i,_=>by
  unfold zC at i;split at i
  .rename_i h;cases i;subst h;refine⟨[],⟨by simp,by simp,by simp⟩,rfl,by simp⟩
  .cases i
 |f::j,off,d,i,hq=>by
  unfold zC at i;split at i
  .rename_i h;obtain⟨a,ha,i⟩:=Ae.1 i;split at i
   .rename_i p;obtain⟨b,hb,rfl⟩:=dy.1 i;obtain⟨l,k,o⟩:=hg _ _ _ ha (hq f (by simp));obtain⟨m,r2,s2⟩:=M9 hg j _ b hb λf n=>hq f (er _ n);refine⟨l++m,?_,o.append s2⟩;rw[h]at k;have e:cs.drop off=(cs.drop off).take (P.cellsOf f.type)++cs.drop (off+P.cellsOf f.type):=by
     rw[<-vo,jV]
    rw[e];exact k.append r2
   .cases i
  .cases i
theorem M8{I:Nat->Nat}{sz:Nat}{r:List Sh}(d:r.length=sz): ∀(m:Nat) (cs:List Value),cs.length=m*sz->(∀i,i<m-> ∃ds,dA I w ((cs.drop (i*sz)).take sz) ds/\ShsOk r ds)-> ∃ds,dA I w cs ds/\ShsOk (List.replicate m r).flatten ds
 |0,cs,hl,_=>by
  rw[oL]at hl;obtain rfl:=xD.1 hl;exact⟨[],⟨rfl,by simp,by simp⟩,by simp,by simp⟩
 |m+1,cs,hl,h=>by
  obtain⟨b,a,e⟩:=h 0 a8;rw[oL,ky]at a;obtain⟨c,r2,s2⟩:=M8 d m (cs.drop sz) (by rw[ax,hl,fQ];omega) λi hi=>by
   have:=h (i+1) a8;rwa[vo,show sz+i*sz=(i+1)*sz by rw[fQ];omega]
  refine⟨b++c,?_,?_⟩
  .rw[<-jV sz cs];exact a.append r2
  .rw[s8,gG];exact e.append s2
theorem zo: ∀(n:Nat) {F:Nat} {t:TypeId} {C:List Sh} {cs:List Value} {x:DataW H×List MemPlace},tF P n t=some C->DataW.trod enc P w base spare held F t cs=some x-> ∃ds,dA (cellsIn w) w cs ds/\ShsOk C ds
 |0,_,_,_,_,_,l,_=>by cases l
 |n+1,F,t,C,cs,x,l,h=>by
  unfold tF at l;split at l
  .rename_i B;cases l;obtain⟨b,rfl,_⟩:=DataW.trod_bool B h;exact⟨_,dA.one (.sc _) rfl,ShsOk.one (.bool b)⟩
  .rename_i k B;cases l;obtain⟨m,rfl,_,hw⟩:=DataW.trod_int B h;exact⟨_,dA.one (.sc _) rfl,ShsOk.one (.int hw)⟩
  .rename_i B;cases l;obtain⟨s,rfl,_,hw⟩:=DataW.trod_string B h;exact⟨_,dA.one (.sc _) rfl,ShsOk.one (.str hw)⟩
  .rename_i e B;obtain⟨r,Y,l⟩:=Ae.1 l;split at l
   .rename_i z;cases l;rcases open_slice B h with⟨rfl,_⟩|⟨a,len,cap,m,k,DD,Pl,rfl,hb,O,hm,hmm,_,hi⟩
    .exact⟨[.sl (P.cellsOf e) []],dA.one (RD.sl_mk (us:=[]) rfl (by simp) a8 a8 ⟨rfl,by simp,by simp⟩ (by simp)) rfl,ShsOk.one (.sl (by simp) (by simp) (by simp))⟩
    .have a1:len<=m:=by rw[hmm];split<;>omega
     have T: ∀i,i<len-> ∃p:List Value×List D,w.cells? base (a.add (i*P.cellsOf e)) (P.cellsOf e)=some p.1/\dA (cellsIn w) w p.1 p.2/\ShsOk r p.2:=λi o=>by
      obtain⟨c,hc,a0⟩:=hi i a8;obtain⟨ds,N,v⟩:=zo n Y a0;exact⟨(c,ds),hc,N,v⟩
     obtain⟨f,A⟩:=choose_lt T;have K: ∀i,i<len->(f i).1.length=P.cellsOf e:=λi o=>(World.cells?_some (A i o).1).2.1;have L: ∀i,i<len->(f i).2.length=P.cellsOf e:=λi o=>by rw[(A i o).2.2.1];exact z.1
     have U: ∀m,m<=len->dA (cellsIn w) w (((List.range m).map λi=>(f i).1).flatten) (((List.range m).map λi=>(f i).2).flatten):=by
      intro m
      induction m with
      |zero=>intro _;exact⟨rfl,by simp,by simp⟩
      |succ m ih=>
       intro hm;rw[List.range_succ,fF,fF,tS,tS];refine(ih a8).append ?_;simpa using(A m a8).2.1
     have M:0<len->a.spot=none:=λh0=>by
      obtain⟨_,N,v⟩:=World.cells?_some (A 0 h0).1;have J:=v 0 z.2;rw[bQ a8]at J;have:=World.cell?_spot J;simpa[Addr.add]using this
     refine⟨[.sl (P.cellsOf e) ((List.range len).map λi=>(f i).2)],dA.one (RD.sl_mk (us:=((List.range len).map λi=>(f i).1).flatten) (by simp) ?_ O (by unfold maxLen at hm;omega) (U len (bg _)) ?_) rfl,ShsOk.one (.sl ?_ ?_ ?_)⟩
     .intro x E;obtain⟨i,hi,rfl⟩:=bM.1 E;exact L i (lp.1 hi)
     .intro hne;have Q:0<len:=by
       rcases qM len with h0|h0
       .subst h0;exact absurd rfl hne
       .exact h0
      have R:=M Q;obtain⟨b,off,sp⟩:=a;simp only at R;subst R;refine⟨b,off,rfl,λi u hu=> ?_⟩;obtain⟨x,E,S⟩:=Jd _ (λx E=>by obtain⟨i,hi,rfl⟩:=bM.1 E;exact K i (lp.1 hi)) i u hu;rw[dj]at E;obtain⟨i',W,rfl⟩:=dy.1 E;obtain⟨o,rfl⟩:=aV.1 W;simp only[dX]at o
      simp only[List.getElem_range]at S;obtain⟨_,N,v⟩:=World.cells?_some (A _ o).1;have J:=v (i % P.cellsOf e) (Nat.mod_lt _ z.2);rw[S]at J;have e':((⟨b,off,none⟩:Addr).add (i/P.cellsOf e*P.cellsOf e)).add (i % P.cellsOf e)=⟨b,off+i,none⟩:=by
       rw[fW,fW];congr 1;have:=Nat.div_add_mod i (P.cellsOf e);rw[Nat.mul_comm]at this;omega
      rw[e']at J;exact⟨sN J,J⟩
     .simp only[aM,dX];omega
     .intro x E;obtain⟨i,hi,rfl⟩:=bM.1 E;exact(A i (lp.1 hi)).2.2.1
     .intro x j sh d E Z hd;obtain⟨i,hi,rfl⟩:=bM.1 E;exact(A i (lp.1 hi)).2.2.2 j sh d Z hd
   .cases l
  .rename_i fs B;obtain⟨xs,k,_,rfl,O,G,A⟩:=DataW.trod_struct B h;rw[<-O]at l;have:=M9 (P:=P) (w:=w) (I:=cellsIn w) (g:=tF P n) (q:=λt c=> ∃y,DataW.trod enc P w base spare held k t c=some y) (cs:=cs) (λt C c N ⟨y,v⟩=>zo n N v) fs.toList 0 C l (λf V=>by
    obtain⟨i,hi,rfl⟩:=List.mem_iff_getElem.1 V;have v:=A i fs.toList[i] (by rw[<-qG];exact bQ hi);have X:i<xs.length:=by rw[G];simpa using hi
    rw[bQ X]at v;exact⟨_,v⟩)
   simpa using this
  .rename_i m e B;obtain⟨r,Y,l⟩:=Ae.1 l;split at l
   .rename_i z;cases l;obtain⟨xs,k,_,rfl,O,G,A⟩:=DataW.trod_array B h;refine M8 (sz:=P.cellsOf e) z.1 m cs (O.trans z.2) λi hi=> ?_;have v:=A i hi;rw[bQ a8]at v;exact zo n Y v
   .cases l
  .cases l
theorem a05{r:Reach}{i:Nat}{n:Nat}{t:TypeId}{c:List Sh}{v:Value}{d:DataW H}{ps:List MemPlace}(l:(∃f,P.underlying t=some (.struct f))\/ ∃m e,P.underlying t=some (.array m e))(k:tF P n t=some c)(b:Value.okWide P w r i t v)(h:DataW.Trod enc P w base spare held t v d ps):
  ∃ds,RD (cellsIn w) w v (.agg ds)/\ShsOk c ds:=by
 have hc: ∃cs,v= .agg cs:=by
  unfold Value.okWide at b;rcases l with⟨f,a⟩|⟨m,e,a⟩
  .simp only[a]at b;obtain⟨cs,rfl,_⟩:=b;exact⟨cs,rfl⟩
  .simp only[a]at b;obtain⟨cs,rfl,_⟩:=b;exact⟨cs,rfl⟩
 obtain⟨cs,rfl⟩:=hc;obtain⟨g,h⟩:=h;obtain⟨ds,a,j⟩:=zo n k h;have e:(Value.agg cs).cells.toList=cs.toList:=rfl;rw[e]at a;refine⟨ds,?_,j⟩;have:=RD.agg cs.toList ds a.1 a.2.1 a.2.2;rwa[Array.toArray_toList]at this
theorem a06{r:Reach}{j:Nat}{n:Nat}{t e:TypeId}{g:Sh}{v:Value}{d:DataW H}{ps:List MemPlace}(m:P.underlying t=some (.slice e))(l:tF P n t=some [g])(o:Value.okWide P w r j t v)(h:DataW.Trod enc P w base spare held t v d ps):
  ∃x,RD (cellsIn w) w v x/\ShOk g x:=by
 obtain⟨a,b,c,rfl⟩:=okWide_slice m o;obtain⟨i,h⟩:=h;obtain⟨ds,f,k⟩:=zo n l h;have e:(Value.slice a b c).cells.toList=[Value.slice a b c]:=rfl;rw[e]at f
 match ds,f.1 with
 |[x],_=>exact⟨x,f.2.2 0 _ x rfl rfl,k.2 0 g x rfl rfl⟩
end
end Go.Bb
