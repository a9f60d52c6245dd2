/- Part of a proof. -/
import Derived.Test.YtfoljakejdgfcaaGreatDoorPAJ
import Derived.ProofKit
import Derived.OpenShut
import Derived.Deep.Slices
set_option linter.unusedVariables false
set_option linter.unusedSimpArgs false
namespace Go.Proofs.Q
open Go Go.Bb Go.RowKit Go.Proofs.Lg
theorem aw{A B F C:Prop}(f:F)(c:C)(h:B)(a:F→C→B→A:=by
 intro f c b
 repeat' first|refine ak (fun _=> ?_) fun _=> ?_|refine aD ?_|refine aj.data (c ..) rfl ?_|refine aj.data (c.1 ..) rfl ?_|refine aj.data (c.2 ..) rfl ?_|refine aj.data (c.2.1 ..) rfl ?_|refine aj.data (c.2.2 ..) rfl ?_|refine aj.data (c.2.2.1 ..) rfl ?_|refine aj.data (c.2.2.2 ..) rfl ?_|simp only[f,bne_self_eq_false,kI,iL,dX,kL,ic,jV,oo,iB,fh,iz,Int.reduceToNat,jt,aL,decide_true,decide_false,Int.reduceLE,Int.reduceLT,Int.reduceGE,Int.reduceGT,Int.reduceEq,Int.reduceNe,Int.reduceBEq,Int.reduceBNe,decide_true,decide_false,wy,qg,aC,reduceCtorEq,reduceIte,Nat.reduceAdd,Nat.reduceMul,Nat.reduceEqDiff,Nat.reduceLT,Nat.reduceLeDiff,Nat.reduceSub,ax,aB,ay,au]
 all_goals exact b):A:=a f c h
theorem bx{A F C:Prop}(f:F)(c:C)(a:F→C→A:=by
 intro f c
 repeat' first|refine ak (fun _=> ?_) fun _=> ?_|refine aD ?_|refine aj.data (c ..) rfl ?_|refine aj.data (c.1 ..) rfl ?_|refine aj.data (c.2 ..) rfl ?_|refine aj.data (c.2.1 ..) rfl ?_|refine aj.data (c.2.2 ..) rfl ?_|refine aj.data (c.2.2.1 ..) rfl ?_|refine aj.data (c.2.2.2 ..) rfl ?_|simp only[f,bne_self_eq_false,kI,iL,dX,kL,ic,jV,oo,iB,fh,iz,Int.reduceToNat,jt,aL,decide_true,decide_false,Int.reduceLE,Int.reduceLT,Int.reduceGE,Int.reduceGT,Int.reduceEq,Int.reduceNe,Int.reduceBEq,Int.reduceBNe,decide_true,decide_false,wy,qg,aC,reduceCtorEq,reduceIte,Nat.reduceAdd,Nat.reduceMul,Nat.reduceEqDiff,Nat.reduceLT,Nat.reduceLeDiff,Nat.reduceSub,ax,aB,ay,au]
 all_goals first|rfl|exact⟨rfl,rfl⟩|(simp_all;done)):A:=a f c
theorem pY{A B F C:Prop}(f:F)(c:C)(h:B)(a:F→C→B→A:=by
 intro f c b
 repeat' first|refine ak (fun _=> ?_) fun _=> ?_|refine aD ?_|(refine aj.fn ((c ..).mono ?_);rintro _ _ ⟨rfl,rfl⟩)|(refine aj.fn ((c.1 ..).mono ?_);rintro _ _ ⟨rfl,rfl⟩)|(refine aj.fn ((c.2 ..).mono ?_);rintro _ _ ⟨rfl,rfl⟩)|(refine aj.fn ((c.2.1 ..).mono ?_);rintro _ _ ⟨rfl,rfl⟩)|(refine aj.fn ((c.2.2 ..).mono ?_);rintro _ _ ⟨rfl,rfl⟩)|simp only[f,bne_self_eq_false,kI,iL,dX,kL,ic,jV,oo,iB,fh,iz,Int.reduceToNat,jt,aL,decide_true,decide_false,Int.reduceLE,Int.reduceLT,Int.reduceGE,Int.reduceGT,Int.reduceEq,Int.reduceNe,Int.reduceBEq,Int.reduceBNe,decide_true,decide_false,wy,qg,aC,reduceCtorEq,reduceIte,Nat.reduceAdd,Nat.reduceMul,Nat.reduceEqDiff,Nat.reduceLT,Nat.reduceLeDiff,Nat.reduceSub,ax,aB,ay,au]
 all_goals exact b):A:=a f c h
theorem vr{A F C:Prop}(f:F)(c:C)(a:F→C→A:=by
 intro f c
 repeat' first|refine ak (fun _=> ?_) fun _=> ?_|refine aD ?_|(refine aj.fn ((c ..).mono ?_);rintro _ _ ⟨rfl,rfl⟩)|(refine aj.fn ((c.1 ..).mono ?_);rintro _ _ ⟨rfl,rfl⟩)|(refine aj.fn ((c.2 ..).mono ?_);rintro _ _ ⟨rfl,rfl⟩)|(refine aj.fn ((c.2.1 ..).mono ?_);rintro _ _ ⟨rfl,rfl⟩)|(refine aj.fn ((c.2.2 ..).mono ?_);rintro _ _ ⟨rfl,rfl⟩)|simp only[f,bne_self_eq_false,kI,iL,dX,kL,ic,jV,oo,iB,fh,iz,Int.reduceToNat,jt,aL,decide_true,decide_false,Int.reduceLE,Int.reduceLT,Int.reduceGE,Int.reduceGT,Int.reduceEq,Int.reduceNe,Int.reduceBEq,Int.reduceBNe,decide_true,decide_false,wy,qg,aC,reduceCtorEq,reduceIte,Nat.reduceAdd,Nat.reduceMul,Nat.reduceEqDiff,Nat.reduceLT,Nat.reduceLeDiff,Nat.reduceSub,ax,aB,ay,au]
 all_goals first|rfl|exact⟨rfl,rfl⟩|(simp_all;done)):A:=a f c
theorem gg2{A B D F C:Prop}(f:F)(c:C)(h:B)(k:D)(a:F→C→B→D→A:=by
 intro f c b d
 repeat' first|refine ak (fun _=> ?_) fun _=> ?_|refine aD ?_|refine aj.data (c ..) rfl ?_|refine aj.data (c.1 ..) rfl ?_|refine aj.data (c.2 ..) rfl ?_|refine aj.data (c.2.1 ..) rfl ?_|refine aj.data (c.2.2 ..) rfl ?_|refine aj.data (c.2.2.1 ..) rfl ?_|refine aj.data (c.2.2.2 ..) rfl ?_|simp only[f,bne_self_eq_false,kI,iL,dX,kL,ic,jV,oo,iB,fh,iz,Int.reduceToNat,jt,aL,decide_true,decide_false,Int.reduceLE,Int.reduceLT,Int.reduceGE,Int.reduceGT,Int.reduceEq,Int.reduceNe,Int.reduceBEq,Int.reduceBNe,decide_true,decide_false,wy,qg,aC,reduceCtorEq,reduceIte,Nat.reduceAdd,Nat.reduceMul,Nat.reduceEqDiff,Nat.reduceLT,Nat.reduceLeDiff,Nat.reduceSub,ax,aB,ay,au]
 all_goals first|exact b|exact d):A:=a f c h k
theorem bb{A B F C:Prop}(f:F)(c:C)(h:B)(a:F→C→B→A:=by
 intro f c b
 first|((with_reducible refine wY ?ord ?_);case ord=>(first|rfl|exact(Bt (by simp only[bO,eg,pS,n0];rfl))))|refine aj.data (c ..) rfl ?_|refine aj.data (c.1 ..) rfl ?_|refine aj.data (c.2 ..) rfl ?_|refine aj.data (c.2.1 ..) rfl ?_|refine aj.data (c.2.2 ..) rfl ?_|refine aj.data (c.2.2.1 ..) rfl ?_|refine aj.data (c.2.2.2 ..) rfl ?_|(refine aj.fn ((c ..).mono ?_);rintro _ _ ⟨rfl,rfl⟩)|(refine aj.fn ((c.1 ..).mono ?_);rintro _ _ ⟨rfl,rfl⟩)|(refine aj.fn ((c.2 ..).mono ?_);rintro _ _ ⟨rfl,rfl⟩)|(refine aj.fn ((c.2.1 ..).mono ?_);rintro _ _ ⟨rfl,rfl⟩)|(refine aj.fn ((c.2.2 ..).mono ?_);rintro _ _ ⟨rfl,rfl⟩)|simp only[f,bne_self_eq_false,kI,iL,dX,kL,ic,jV,oo,iB,fh,iz,Int.reduceToNat,jt,aL,decide_true,decide_false,Int.reduceLE,Int.reduceLT,Int.reduceGE,Int.reduceGT,Int.reduceEq,Int.reduceNe,Int.reduceBEq,Int.reduceBNe,decide_true,decide_false,wy,qg,aC,reduceCtorEq,reduceIte,Nat.reduceAdd,Nat.reduceMul,Nat.reduceEqDiff,Nat.reduceLT,Nat.reduceLeDiff,Nat.reduceSub,ax,aB,ay,au]
 repeat first|((with_reducible refine wY ?ord ?_);case ord=>(first|rfl|exact(Bt (by simp only[bO,eg,pS,n0];rfl))))|refine aj.data (c ..) rfl ?_|refine aj.data (c.1 ..) rfl ?_|refine aj.data (c.2 ..) rfl ?_|refine aj.data (c.2.1 ..) rfl ?_|refine aj.data (c.2.2 ..) rfl ?_|refine aj.data (c.2.2.1 ..) rfl ?_|refine aj.data (c.2.2.2 ..) rfl ?_|(refine aj.fn ((c ..).mono ?_);rintro _ _ ⟨rfl,rfl⟩)|(refine aj.fn ((c.1 ..).mono ?_);rintro _ _ ⟨rfl,rfl⟩)|(refine aj.fn ((c.2 ..).mono ?_);rintro _ _ ⟨rfl,rfl⟩)|(refine aj.fn ((c.2.1 ..).mono ?_);rintro _ _ ⟨rfl,rfl⟩)|(refine aj.fn ((c.2.2 ..).mono ?_);rintro _ _ ⟨rfl,rfl⟩)|simp only[f,bne_self_eq_false,kI,iL,dX,kL,ic,jV,oo,iB,fh,iz,Int.reduceToNat,jt,aL,decide_true,decide_false,Int.reduceLE,Int.reduceLT,Int.reduceGE,Int.reduceGT,Int.reduceEq,Int.reduceNe,Int.reduceBEq,Int.reduceBNe,decide_true,decide_false,wy,qg,aC,reduceCtorEq,reduceIte,Nat.reduceAdd,Nat.reduceMul,Nat.reduceEqDiff,Nat.reduceLT,Nat.reduceLeDiff,Nat.reduceSub,ax,aB,ay,au]
 exact b):A:=a f c h
theorem ba{A F C:Prop}(f:F)(c:C)(a:F→C→A:=by
 intro f c
 repeat first|((with_reducible refine wY ?ord ?_);case ord=>(first|rfl|exact(Bt (by simp only[bO,eg,pS,n0];rfl))))|refine aj.data (c ..) rfl ?_|refine aj.data (c.1 ..) rfl ?_|refine aj.data (c.2 ..) rfl ?_|refine aj.data (c.2.1 ..) rfl ?_|refine aj.data (c.2.2 ..) rfl ?_|refine aj.data (c.2.2.1 ..) rfl ?_|refine aj.data (c.2.2.2 ..) rfl ?_|(refine aj.fn ((c ..).mono ?_);rintro _ _ ⟨rfl,rfl⟩)|(refine aj.fn ((c.1 ..).mono ?_);rintro _ _ ⟨rfl,rfl⟩)|(refine aj.fn ((c.2 ..).mono ?_);rintro _ _ ⟨rfl,rfl⟩)|(refine aj.fn ((c.2.1 ..).mono ?_);rintro _ _ ⟨rfl,rfl⟩)|(refine aj.fn ((c.2.2 ..).mono ?_);rintro _ _ ⟨rfl,rfl⟩)|simp only[f,bne_self_eq_false,kI,iL,dX,kL,ic,jV,oo,iB,fh,iz,Int.reduceToNat,jt,aL,decide_true,decide_false,Int.reduceLE,Int.reduceLT,Int.reduceGE,Int.reduceGT,Int.reduceEq,Int.reduceNe,Int.reduceBEq,Int.reduceBNe,decide_true,decide_false,wy,qg,aC,reduceCtorEq,reduceIte,Nat.reduceAdd,Nat.reduceMul,Nat.reduceEqDiff,Nat.reduceLT,Nat.reduceLeDiff,Nat.reduceSub,ax,aB,ay,au]
 all_goals fail):A:=a f c
theorem bQ{A:Prop}(h:A:=by first|omega|(intros;omega)|((repeat' split)<;>(intros;omega))):A:=h
theorem ak{A B D p q:Prop}(h:p→B)(k:q→D)(a:(p→B)→(q→D)→A:=by
 intro h k
 with_reducible first|exact df.dec h k|exact df.ndec h k|exact df.both h k|exact lW.both h k):A:=a h k
theorem aD{A B:Prop}(h:B)(a:B→A:=by
 intro h
 (with_reducible refine wY ?ord h);case ord=>(first|rfl|exact(Bt (by simp only[bO,eg,pS,n0];rfl)))):A:=a h
theorem aA{A:Prop}(h:A:=by simp only[wy,qg,aC,reduceCtorEq,reduceIte,Nat.reduceAdd,Nat.reduceMul,Nat.reduceEqDiff,Nat.reduceLT,Nat.reduceLeDiff,Nat.reduceSub,ax,aB,ay,au];try rfl):A:=h
theorem ga{p q:Prop}(h:p)(k:q):p∧q:=⟨h,k⟩
end Go.Proofs.Q
namespace Go.Bb
open Go Go.RowKit Go.Ab Go.Deep Go.WideShapes
inductive Sh where
 |int (k:IntKind)
 |bool
 |str
 |sl (size:Nat) (row:List Sh)
inductive ShOk:Sh→D→Prop where
 |int {k:IntKind} {n:Int}:(Lit.int k n).wf=true→ShOk (.int k) (.sc (.int k n))
 |bool (b:Bool):ShOk .bool (.sc (.bool b))
 |str {s:ByteArray}:s.size≤maxLen→ShOk .str (.sc (.string s))
 |sl {size:Nat} {shs:List Sh} {rows:List (List D)}:rows.length≤maxLen→(∀r,r∈rows→r.length=shs.length)→(∀(r:List D) (i:Nat) (sh:Sh) (d:D),r∈rows→shs[i]?=some sh→r[i]?=some d→ShOk sh d)→ShOk (.sl size shs) (.sl size rows)
def ShsOk(shs:List Sh)(ds:List D):Prop:=ds.length=shs.length∧ ∀(i:Nat) (sh:Sh) (d:D),shs[i]?=some sh→ds[i]?=some d→ShOk sh d
theorem ShsOk.append{a b:List Sh}{x y:List D}(h:ShsOk a x)(k:ShsOk b y):ShsOk (a++b) (x++y):=by
 refine⟨by simp[h.1,k.1],fun i sh d f e=> ?_⟩;rw[gY]at f e;rw[h.1]at e;split at f
 ·rename_i c;rw[if_pos c]at e;exact h.2 i sh d f e
 ·rename_i c;rw[if_neg c]at e;exact k.2 _ sh d f e
theorem ShsOk.one{a:Sh}{x:D}(h:ShOk a x):ShsOk [a] [x]:=by
 refine⟨rfl,fun i sh d b c=> ?_⟩;cases i with
 |zero=>simp at b c;subst b;subst c;exact h
 |succ i=>simp at b
def wx(P:Program)(g:TypeId→Option (List Sh))(b:Nat):Nat→List Field→Option (List Sh)
 |off,[]=>if off=b then some []else none
 |off,f::fs=>if f.offset=off then(g f.type).bind fun a=>if a.length=P.cellsOf f.type then(wx P g b (off+P.cellsOf f.type) fs).map (a++ ·)else none else none
def qE(P:Program):Nat→TypeId→Option (List Sh)
 |0,_=>none
 |n+1,t=>match P.underlying t with
  |some .bool=>some [.bool]
  |some (.int k)=>some [.int k]
  |some .string=>some [.str]
  |some (.slice e)=>(qE P n e).bind fun r=>if r.length=P.cellsOf e∧0<P.cellsOf e then some [.sl (P.cellsOf e) r]else none
  |some (.struct fs)=>wx P (qE P n) (P.cellsOf t) 0 fs.toList
  |some (.array m e)=>(qE P n e).bind fun r=>if r.length=P.cellsOf e∧P.cellsOf t=m*P.cellsOf e then some (List.replicate m r).flatten else none
  |_=>none
theorem HB{α:Type}{sz:Nat}: ∀(rows:List (List α)),(∀r∈rows,r.length=sz)→ ∀(i:Nat) (x:α),rows.flatten[i]?=some x→ ∃r,rows[i/sz]?=some r∧r[i % sz]?=some x
 |[],_,i,x,h=>by simp at h
 |r::rows,hr,i,x,h=>by
  have d:=hr r (by simp);rw[fA,gY]at h;split at h
  ·rename_i a;rw[d]at a;rw[Nat.div_eq_of_lt a,Nat.mod_eq_of_lt a];exact⟨r,rfl,h⟩
  ·rename_i a;rw[d]at a h;obtain⟨r',e,g⟩:=HB rows (fun r h=>hr r (jS _ h)) (i-sz) x h;have c:0<sz:=by
    rcases nW sz with h0|h0
    ·subst h0;have f:rows.flatten=[]:=by
      rw[List.flatten_eq_nil_iff];intro l b;exact List.length_eq_zero_iff.1 (hr l (jS _ b))
     rw[f]at h;simp at h
    ·exact h0
   have hi:sz≤i:=by omega
   refine⟨r',?_,?_⟩
   ·rw[show i/sz=(i-sz)/sz+1 from by rw[←Nat.add_div_right _ c,Nat.sub_add_cancel hi]];simpa using e
   ·rwa[Nat.mod_eq_sub_mod hi]
section
variable {H:Type} {enc:TypeId×Value→H} {P:Program} {w:World} {base:Nat} {spare:Nat→Bool} {held:Bool}
theorem KB{I:Nat→Nat}{g:TypeId→Option (List Sh)}{q:TypeId→List Value→Prop}{cs:List Value}(hg: ∀t shs c,g t=some shs→q t c→ ∃ds,cD I w c ds∧ShsOk shs ds):
  ∀(i:List Field) (off:Nat) (shs:List Sh),wx P g cs.length off i=some shs→(∀f∈i,q f.type ((cs.drop f.offset).take (P.cellsOf f.type)))→ ∃ds,cD I w (cs.drop off) ds∧ShsOk shs ds
 |[],off,shs,d,_=>by
  unfold wx at d;split at d
  ·rename_i h;cases d;subst h;refine⟨[],⟨by simp,by simp,by simp⟩,rfl,by simp⟩
  ·cases d
 |f::i,off,shs,d,hq=>by
  unfold wx at d;split at d
  ·rename_i h;obtain⟨a,ha,d⟩:=wZ.1 d;split at d
   ·rename_i p;obtain⟨b,hb,rfl⟩:=db.1 d;obtain⟨k,j,o⟩:=hg _ _ _ ha (hq f (by simp));obtain⟨l,n,s2⟩:=KB hg i _ b hb fun f m=>hq f (jS _ m);refine⟨k++l,?_,o.append s2⟩;rw[h]at j;have e:cs.drop off=(cs.drop off).take (P.cellsOf f.type)++cs.drop (off+P.cellsOf f.type):=by
     rw[←sN,ll]
    rw[e];exact j.append n
   ·cases d
  ·cases d
theorem KA{I:Nat→Nat}{sz:Nat}{r:List Sh}(d:r.length=sz): ∀(m:Nat) (cs:List Value),cs.length=m*sz→(∀i,i<m→ ∃ds,cD I w ((cs.drop (i*sz)).take sz) ds∧ShsOk r ds)→ ∃ds,cD I w cs ds∧ShsOk (List.replicate m r).flatten ds
 |0,cs,hl,_=>by
  rw[od]at hl;obtain rfl:=List.length_eq_zero_iff.1 hl;exact⟨[],⟨rfl,by simp,by simp⟩,by simp,by simp⟩
 |m+1,cs,hl,h=>by
  obtain⟨b,a,f⟩:=h 0 a8;rw[od,jQ]at a;obtain⟨c,e,s2⟩:=KA d m (cs.drop sz) (by rw[ax,hl,eR];omega) fun i hi=>by
   have:=h (i+1) a8;rwa[sN,show sz+i*sz=(i+1)*sz by rw[eR];omega]
  refine⟨b++c,?_,?_⟩
  ·rw[←ll sz cs];exact a.append e
  ·rw[qQ,fA];exact f.append s2
theorem wc: ∀(n:Nat) {E:Nat} {t:TypeId} {shs:List Sh} {cs:List Value} {x:DataW H×List MemPlace},qE P n t=some shs→DataW.trod enc P w base spare held E t cs=some x→ ∃ds,cD (cellsIn w) w cs ds∧ShsOk shs ds
 |0,_,_,_,_,_,l,_=>by cases l
 |n+1,E,t,shs,cs,x,l,h=>by
  unfold qE at l;split at l
  ·rename_i B;cases l;obtain⟨b,rfl,_⟩:=DataW.trod_bool B h;exact⟨_,cD.one (.sc _) rfl,ShsOk.one (.bool b)⟩
  ·rename_i k B;cases l;obtain⟨m,rfl,_,hw⟩:=DataW.trod_int B h;exact⟨_,cD.one (.sc _) rfl,ShsOk.one (.int hw)⟩
  ·rename_i B;cases l;obtain⟨s,rfl,_,hw⟩:=DataW.trod_string B h;exact⟨_,cD.one (.sc _) rfl,ShsOk.one (.str hw)⟩
  ·rename_i e B;obtain⟨r,X,l⟩:=wZ.1 l;split at l
   ·rename_i z;cases l;rcases open_slice B h with⟨rfl,_⟩|⟨a,len,cap,m,k,DD,Pl,rfl,hb,N,hm,hmm,_,hi⟩
    ·exact⟨[.sl (P.cellsOf e) []],cD.one (RD.sl_mk (us:=[]) rfl (by simp) a8 a8 ⟨rfl,by simp,by simp⟩ (by simp)) rfl,ShsOk.one (.sl (by simp) (by simp) (by simp))⟩
    ·have a0:len≤m:=by rw[hmm];split<;>omega
     have S: ∀i,i<len→ ∃p:List Value×List D,w.cells? base (a.add (i*P.cellsOf e)) (P.cellsOf e)=some p.1∧cD (cellsIn w) w p.1 p.2∧ShsOk r p.2:=fun i o=>by
      obtain⟨c,hc,Z⟩:=hi i a8;obtain⟨ds,M,v⟩:=wc n X Z;exact⟨(c,ds),hc,M,v⟩
     obtain⟨f,A⟩:=choose_lt S;have J: ∀i,i<len→(f i).1.length=P.cellsOf e:=fun i o=>(World.cells?_some (A i o).1).2.1;have K: ∀i,i<len→(f i).2.length=P.cellsOf e:=fun i o=>by rw[(A i o).2.2.1];exact z.1
     have T: ∀m,m≤len→cD (cellsIn w) w (((List.range m).map fun i=>(f i).1).flatten) (((List.range m).map fun i=>(f i).2).flatten):=by
      intro m
      induction m with
      |zero=>intro _;exact⟨rfl,by simp,by simp⟩
      |succ m ih=>
       intro hm;rw[List.range_succ,eX,eX,sP,sP];refine(ih a8).append ?_;simpa using(A m a8).2.1
     have L:0<len→a.spot=none:=fun h0=>by
      obtain⟨_,M,v⟩:=World.cells?_some (A 0 h0).1;have G:=v 0 z.2;rw[bV a8]at G;have:=World.cell?_spot G;simpa[Addr.add]using this
     refine⟨[.sl (P.cellsOf e) ((List.range len).map fun i=>(f i).2)],cD.one (RD.sl_mk (us:=((List.range len).map fun i=>(f i).1).flatten) (by simp) ?_ N (by unfold maxLen at hm;omega) (T len (bh _)) ?_) rfl,ShsOk.one (.sl ?_ ?_ ?_)⟩
     ·intro x C;obtain⟨i,hi,rfl⟩:=cy.1 C;exact K i (ju.1 hi)
     ·intro hne;have O:0<len:=by
       rcases nW len with h0|h0
       ·subst h0;exact absurd rfl hne
       ·exact h0
      have Q:=L O;obtain⟨b,off,sp⟩:=a;simp only at Q;subst Q;refine⟨b,off,rfl,fun i u hu=> ?_⟩;obtain⟨x,C,R⟩:=HB _ (fun x C=>by obtain⟨i,hi,rfl⟩:=cy.1 C;exact J i (ju.1 hi)) i u hu;rw[cC]at C;obtain⟨i',V,rfl⟩:=db.1 C;obtain⟨o,rfl⟩:=aR.1 V;simp only[dX]at o
      simp only[List.getElem_range]at R;obtain⟨_,M,v⟩:=World.cells?_some (A _ o).1;have G:=v (i % P.cellsOf e) (Nat.mod_lt _ z.2);rw[R]at G;have e':((⟨b,off,none⟩:Addr).add (i/P.cellsOf e*P.cellsOf e)).add (i % P.cellsOf e)=⟨b,off+i,none⟩:=by
       rw[fJ,fJ];congr 1;have:=Nat.div_add_mod i (P.cellsOf e);rw[Nat.mul_comm]at this;omega
      rw[e']at G;exact⟨qd G,G⟩
     ·simp only[aL,dX];omega
     ·intro x C;obtain⟨i,hi,rfl⟩:=cy.1 C;exact(A i (ju.1 hi)).2.2.1
     ·intro x j sh d C Y hd;obtain⟨i,hi,rfl⟩:=cy.1 C;exact(A i (ju.1 hi)).2.2.2 j sh d Y hd
   ·cases l
  ·rename_i fs B;obtain⟨xs,k,_,rfl,N,F,A⟩:=DataW.trod_struct B h;rw[←N]at l;have:=KB (P:=P) (w:=w) (I:=cellsIn w) (g:=qE P n) (q:=fun t c=> ∃y,DataW.trod enc P w base spare held k t c=some y) (cs:=cs) (fun t shs c M ⟨y,v⟩=>wc n M v) fs.toList 0 shs l (fun f U=>by
    obtain⟨i,hi,rfl⟩:=List.mem_iff_getElem.1 U;have v:=A i fs.toList[i] (by rw[←nP];exact bV hi);have W:i<xs.length:=by rw[F];simpa using hi
    rw[bV W]at v;exact⟨_,v⟩)
   simpa using this
  ·rename_i m e B;obtain⟨r,X,l⟩:=wZ.1 l;split at l
   ·rename_i z;cases l;obtain⟨xs,k,_,rfl,N,F,A⟩:=DataW.trod_array B h;refine KA (sz:=P.cellsOf e) z.1 m cs (N.trans z.2) fun i hi=> ?_;have v:=A i hi;rw[bV a8]at v;exact wc n X v
   ·cases l
  ·cases l
theorem Xv{r:Reach}{g:Nat}{n:Nat}{t:TypeId}{shs:List Sh}{v:Value}{d:DataW H}{ps:List MemPlace}(k:(∃c,P.underlying t=some (.struct c))∨ ∃m e,P.underlying t=some (.array m e))(j:qE P n t=some shs)(b:Value.okWide P w r g t v)(h:DataW.Trod enc P w base spare held t v d ps):
  ∃ds,RD (cellsIn w) w v (.agg ds)∧ShsOk shs ds:=by
 have hc: ∃cs,v= .agg cs:=by
  unfold Value.okWide at b;rcases k with⟨c,a⟩|⟨m,e,a⟩
  ·simp only[a]at b;obtain⟨cs,rfl,_⟩:=b;exact⟨cs,rfl⟩
  ·simp only[a]at b;obtain⟨cs,rfl,_⟩:=b;exact⟨cs,rfl⟩
 obtain⟨cs,rfl⟩:=hc;obtain⟨f,h⟩:=h;obtain⟨ds,a,i⟩:=wc n j h;have e:(Value.agg cs).cells.toList=cs.toList:=rfl;rw[e]at a;refine⟨ds,?_,i⟩;have:=RD.agg cs.toList ds a.1 a.2.1 a.2.2;rwa[Array.toArray_toList]at this
theorem KC{r:Reach}{i:Nat}{n:Nat}{t e:TypeId}{sh:Sh}{v:Value}{d:DataW H}{ps:List MemPlace}(l:P.underlying t=some (.slice e))(k:qE P n t=some [sh])(m:Value.okWide P w r i t v)(h:DataW.Trod enc P w base spare held t v d ps):
  ∃x,RD (cellsIn w) w v x∧ShOk sh x:=by
 obtain⟨a,b,c,rfl⟩:=okWide_slice l m;obtain⟨g,h⟩:=h;obtain⟨ds,f,j⟩:=wc n k h;have e:(Value.slice a b c).cells.toList=[Value.slice a b c]:=rfl;rw[e]at f
 match ds,f.1 with
 |[x],_=>exact⟨x,f.2.2 0 _ x rfl rfl,j.2 0 sh x rfl rfl⟩
end
end Go.Bb
