/- Part of a proof. -/
import Derived.Test.YtfoljakejdgfcaaGreatDoorPAQ
import Derived.Test.YtfoljakejdgfcaaGreatDoorV2
set_option linter.unusedVariables false
set_option linter.unusedSimpArgs false
namespace Go.Proofs.Q
open Go Go.Bb Go.RowKit Go.Proofs.Lg
open Go.Ab (D RD)
structure FK(c:af):Prop where
 name:ByteArray.size c.name≤9223372036854775807
 line: ∀s∈c.lines,ByteArray.size s≤9223372036854775807
set_option maxHeartbeats 4000000 in
theorem Va(c:af)(hc:FK c):aE Tryz.prog 153 [.agg (aQ c)] (dI (gm c)):=by
 have a:=hc.name;have b:=hc.line;clear hc;refine aI (F:=Au) Ta (by simp[Au]) ?_;simp only[Au]
 repeat' first|refine ak (fun _=> ?_) fun _=> ?_|refine aD ?_|refine aj.data (Ve _) rfl ?_|refine aj.data (V8 _) rfl ?_|refine aj.data (K3 _ a) rfl ?_|refine aj.data (Vb _ b) rfl ?_|refine aj.data (UY _) rfl ?_|simp only[decide_true,wy,qg,aC,reduceCtorEq,reduceIte,Nat.reduceAdd,Nat.reduceMul,Nat.reduceEqDiff,Nat.reduceLT,Nat.reduceLeDiff,Nat.reduceSub,ax,aB,ay,au]
 clear a b
 all_goals(simp_all[gm,bS];try exact bQ)
theorem V7(l:List Dg):aE Tryz.prog 108 [.sl 32 (l.map aq)] (dI (fN l)):=by
 refine aE.big (enters_of Jh) 0 rfl fun o=> ?_;rw[aL]at o;refine aI (F:=Ap) Jh (by simp[Ap]) ?_;simp only[Ap]
 repeat' first|refine ak (fun _=> ?_) fun _=> ?_|refine bb trivial trivial ?_|exact ba trivial trivial|fail
 ·all_goals(simp_all[fN,bS];try exact bQ)
 ·rename_i h0;refine aX.overI l (fun k (p:Option Dg)=>[(3,iN k)]) (fun _ _=>[]) (fun l p=>il p l) (fN l) (fun k p=>p=if k=0 then none else l[k-1]?) none o aA aA rfl (by unfold fN;rw[if_neg a8]) rfl (fun k p x hg t b r a n=> ?_) (fun p b a _=> ?_)
  ·cases k with
   |zero=>
    obtain rfl:=n;have f:decide ((0:Int)<(l.length:Int))=true:=decide_eq_true a8;have m:IntKind.i64.wrap ((0:Int)+1)=1:=by rfl
    have g:l[0]?=some x:=hg
    repeat' first|refine ak (fun _=> ?_) fun _=> ?_|refine aD ?_|refine aj.data (jH _) rfl ?_|refine aj.data (lI _ _) rfl ?_|simp only[f,m,g,kI,iL,iz,gt_iff_lt,decide_false,wy,qg,aC,reduceCtorEq,reduceIte,Nat.reduceAdd,Nat.reduceMul,Nat.reduceEqDiff,Nat.reduceLT,Nat.reduceLeDiff,Nat.reduceSub,ax,aB,ay,au]
    ·rename_i h;rw[a,il,if_pos h]
    ·rename_i h;exact⟨some x,by rw[a,il,if_neg (by simp[h]),if_neg (by simp)],rfl⟩
   |succ j=>
    obtain⟨q,i⟩: ∃q,l[j]?=some q:=⟨_,bV a8⟩
    have s:p=some q:=by rw[n,if_neg a8];exact i
    subst s;have d:IntKind.i64.wrap (((j+1:Nat):Int)-1)=(j:Int):=ck a8 a8;have c:decide (((j+1:Nat):Int)>0)=true:=decide_eq_true a8
    repeat' first|refine ak (fun _=> ?_) fun _=> ?_|refine bb (ga @b (ga @r (ga @hg (ga @i (ga @d @c))))) (ga @jH @lI) ?_|exact ba (ga @b (ga @r (ga @hg (ga @i (ga @d @c))))) (ga @jH @lI)|fail
    ·rename_i h;rw[a,il,if_pos h]
    ·rename_i h e;rw[a,il,if_neg (by simp[h]),if_pos (by simpa using e)]
    ·rename_i h e;exact⟨some x,by rw[a,il,if_neg (by simp[h]),if_neg (by simpa using e)],by simpa using hg.symm⟩
  ·repeat' first|refine ak (fun _=> ?_) fun _=> ?_|refine bb @b trivial ?_|exact ba @b trivial|fail
   all_goals(simp_all[il,bS];try exact bQ)
theorem xj:aE Tryz.prog 36 [] (.agg (ab ⟨.zero,-1⟩)):=by
 refine aI (F:=yH) Ry (by simp[yH]) ?_;simp only[yH];refine aw trivial trivial ?_
 all_goals rfl
set_option maxHeartbeats 4000000 in
theorem Vd(c:af)(own:List aJ)(b:c.over.length≤9223372036854775807):aE Tryz.prog 154 [.agg (aQ c),.sl 172 (own.map aO)] (dI (jJ c own)):=by
 refine ph (F:=AE) Ti (by simp[AE]) ?_;simp only[AE];refine AC.cut [1,2] [(1,.d (.sl 172 (own.map aO))),(2,.d (.ref (aQ c)))] [] True ?_ fun J _=> ?_
 ·refine aw trivial trivial ?_
  all_goals exact⟨_,rfl⟩
 refine AC.cut [1,2] [(1,.d (.sl 172 (own.map aO))),(2,.d (.ref (aQ c)))] [] (ug c own=0) ?_ fun J m=> ?_
 ·repeat' first|refine ak (fun _=> ?_) fun _=> ?_|refine bb trivial (ga @qn (ga @BB @qo)) ?_|exact ba trivial (ga @qn (ga @BB @qo))|fail
  all_goals first|(refine⟨⟨_,rfl⟩,?_⟩;all_goals(simp_all[ug,bS];try exact bQ);done)|(all_goals(simp_all[jJ,ug,cF,bS];try exact bQ);done)
 refine AC.cut [1,2] [(1,.d (.sl 172 (own.map aO))),(2,.d (.ref (aQ c)))] [] (uh c own=0) ?_ fun J o=> ?_
 ·repeat' first|refine ak (fun _=> ?_) fun _=> ?_|refine bb (ga @ef (ga @bJ @wj)) (ga @qn (ga @xj @qo)) ?_|exact ba (ga @ef (ga @bJ @wj)) (ga @qn (ga @xj @qo))|fail
  all_goals first|(refine⟨⟨_,rfl⟩,?_⟩;all_goals(simp_all[uh,bS];try exact bQ);done)|(simp only[jJ,m];all_goals(simp_all[uh,cF,bS];try exact bQ);done)
 refine AC.cut [1,2] [(1,.d (.sl 172 (own.map aO))),(2,.d (.ref (aQ c)))] [] (sr c own=0) ?_ fun J p=> ?_
 ·repeat' first|refine ak (fun _=> ?_) fun _=> ?_|refine bb trivial @u7 ?_|exact ba trivial @u7|fail
  ·rename_i j;have r:sr c own=pW c own [c.after,c.before]:=by simp[sr,j]
   obtain⟨L,i⟩: ∃L,L=[c.after,c.before]:=⟨_,rfl⟩
   rw[←i]at r;have h:L.length=2:=by rw[i];rfl
   refine aX.over L (fun k (_:Unit)=>[(9,iN k)]) (fun _ _=>[]++J) (fun l _=>pW c own l) (pW c own L) () a8 aA aA rfl rfl (fun k _ x hg t f e g=> ?_) (fun _ f g=> ?_)
   ·have n:[ab c.after,ab c.before][k]?=some (ab x):=by
     rw[show[ab c.after,ab c.before]=L.map ab from by rw[i];rfl,cC,hg];rfl
    have a:((k:Nat):Int)<2:=by omega
    rw[pW,xQ]at g;clear i h
    repeat' first|refine ak (fun _=> ?_) fun _=> ?_|refine bb (ga @a (ga @n @e)) (ga @qn (ga @BA @qo)) ?_|exact ba (ga @a (ga @n @e)) (ga @qn (ga @BA @qo))|fail
    all_goals(clear e;all_goals(simp_all[jJ,cF,bS];try exact bQ))
   ·have a:(L.length:Int)=2:=by omega
    refine aw @a trivial ?_
    all_goals(simp_all[pW,bS];try exact bQ)
  ·rename_i j;simp[sr,j]
 refine AC.cut [1,2] [(1,.d (.sl 172 (own.map aO))),(2,.d (.ref (aQ c)))] [] (nA c own c.over=0) ?_ fun J q=> ?_
 ·refine aw trivial trivial ?_;refine aX.over c.over (fun k (_:Unit)=>[(11,iN k)]) (fun _ _=>[]++J) (fun l _=>nA c own l) (nA c own c.over) () b aA aA rfl rfl (fun k _ x hg t f e g=> ?_) (fun _ f g=> ?_)
  ·rw[nA]at g
   repeat' first|refine ak (fun _=> ?_) fun _=> ?_|refine bb (ga @f (ga @hg @e)) (ga @qn (ga @BC @qo)) ?_|exact ba (ga @f (ga @hg @e)) (ga @qn (ga @BC @qo))|fail
   all_goals(clear e;all_goals(simp_all[jJ,cF,bS];try exact bQ))
  ·refine aw @f trivial ?_
   all_goals(simp_all[nA,bS];try exact bQ)
 have s:jJ c own=vB c:=by simp[jJ,cF,m,o,p,q]
 rw[s];refine bL ?_
 repeat' first|refine ak (fun _=> ?_) fun _=> ?_|refine bb trivial @u7 ?_|exact ba trivial @u7|fail
 all_goals(simp_all[vB,bS];try exact bQ)
def jC(c:af)(first:Nat):List aZ→Nat→List aJ
 |[],_=>[]
 |x::l,i=>vE c first i x::jC c first l (i+1)
theorem DE(c:af)(first:Nat): ∀(l:List aZ) (i:Nat),jC c first l i=l.mapIdx fun k=>vE c first (i+k)
 |[],_=>rfl
 |x::l,i=>by
  rw[jC,DE c first l (i+1),List.mapIdx_cons];congr 2;funext k;rw[jv,Nat.add_comm 1 k]
theorem step2{α:Type}{f:α→List D}{b:List α}{A:α}{R rest:List α}{id sz e n m:Nat}{X:aa}{c:List aa}(d:R=b++A::rest)(hm:b.length+1=m): ∃a:List α×List aa,AV.tsl id sz (b.map f++[f A])=AV.tsl id sz (a.1.map f)∧X::aa.row e n (b.length+1)::c=X::aa.row e n a.1.length::a.2∧R=a.1++rest∧a.1.length=m:=⟨(b++[A],c),by simp,by simp,by simp[d],by simp[hm]⟩
set_option maxHeartbeats 4000000 in
theorem V3(c:af)(first:Nat)(D:first≤1000000000)(E:c.lines.length≤1000000)(y:1≤c.kind)(z:c.kind≤7):aE Tryz.prog 155 [.agg (aQ c),dI first] (.sl 172 ((fF c first).map aO)):=by
 obtain e|e|e|e|e|e|e:c.kind=1∨c.kind=2∨c.kind=3∨c.kind=4∨c.kind=6∨c.kind=7∨c.kind=5:=by omega
 iterate 6
  ·clear y z E D;refine aI (F:=rR) Jd (by simp[rR]) ?_;simp only[rR];refine aw @e trivial ?_
   all_goals(simp only[fF,e,Int.reduceEq,if_true,if_false];rfl)
 ·have C:fF c first=jC c first c.lines 0++(List.range (c.lines.length+1)).map (oC c first c.lines.length):=by
   simp only[fF,e,Int.reduceEq,if_false,DE,au]
  rw[C];clear C y z;refine aI (F:=rR) Jd (by simp[rR]) ?_;simp only[rR];refine aw @e trivial ?_
  refine aX.overI c.lines (fun k (b:List aJ)=>[(8,iN k),(6,.tsl 1 172 (b.map aO))]) (fun k b=>[.cells ((ab (dL first)).map .d),.row 71 172 b.length]) (fun r b=>b++jC c first r b.length) (jC c first c.lines 0) (fun k b=>b.length=k) [] a8 aA aA rfl rfl rfl (fun k b x hg q f j a v=> ?_) (fun b f a v=> ?_)
  ·have i:br (b.length+1) 296=true:=by simp only[br,decide_eq_true_eq];omega
   have h:IntKind.i64.wrap ((first:Int)+(k:Int))=(first:Int)+(k:Int):=by
    have:=ck (n:=(first:Int)+(k:Int)) (m:=first+k) a8 a8;omega
   repeat' first|refine ak (fun _=> ?_) fun _=> ?_|refine aD ?_|simp only[f,j,hg,i,h,eG,wy,qg,aC,reduceCtorEq,reduceIte,Nat.reduceAdd,Nat.reduceMul,Nat.reduceEqDiff,Nat.reduceLT,Nat.reduceLeDiff,Nat.reduceSub,ax,aB,ay,au]
   subst v;exact⟨b++[vE c first b.length x],by simp only[eX];rfl,by simp,by rw[a];simp[jC],by simp⟩
  ·simp[jC]at a;subst a;obtain⟨L,B⟩: ∃L,L=jC c first c.lines 0:=⟨_,rfl⟩
   rw[←B]at v⊢;clear B;refine aw @f trivial ?_
   refine aX.overI (List.range (c.lines.length+1)) (fun k (b:List aJ×List aa)=>[(9,iN k),(6,.tsl 1 172 (b.1.map aO))]) (fun k b=>[.cells ((ab (dL first)).map .d),.row 71 172 b.1.length]++b.2) (fun r b=>b.1++r.map (oC c first c.lines.length)) (L++(List.range (c.lines.length+1)).map (oC c first c.lines.length)) (fun k b=>b.1.length=L.length+k) (L,[]) (by simp;omega) aA aA rfl rfl rfl (fun k b x hg q f j a o=> ?_) (fun b f a o=> ?_)
   ·obtain⟨b,J⟩:=b;dsimp only at a o;rw[dX]at q;obtain rfl:k=x:=by rw[nV a8]at hg;simpa using hg
    have i:br (b.length+1) 296=true:=by simp only[br,decide_eq_true_eq];omega
    have g:decide ((k:Int)≤(c.lines.length:Int))=true:=by simp;omega
    have h:IntKind.i64.wrap ((first:Int)+(c.lines.length:Int))=(first:Int)+(c.lines.length:Int):=by
     have:=ck (n:=(first:Int)+(c.lines.length:Int)) (m:=first+c.lines.length) a8 a8;omega
    have t:IntKind.i64.wrap ((first:Int)+(c.lines.length:Int)+(k:Int))=(first:Int)+(c.lines.length:Int)+(k:Int):=by
     have:=ck (n:=(first:Int)+(c.lines.length:Int)+(k:Int)) (m:=first+c.lines.length+k) a8 a8;omega
    have u:IntKind.i64.wrap ((first:Int)+(k:Int))=(first:Int)+(k:Int):=by
     have:=ck (n:=(first:Int)+(k:Int)) (m:=first+k) a8 a8;omega
    have A:oC c first c.lines.length k={aJ.zero with id:=dL (first+c.lines.length+k),kind:=6,file:=c.file,fro:=(if 0<k then dL (first+k-1)else c.after),til:=(if k<c.lines.length then dL (first+k)else c.before)}:=rfl;rw[bO,A]at a;clear A f;by_cases s:0<k
    ·have w:IntKind.i64.wrap ((first:Int)+(k:Int)-1)=(first:Int)+(k:Int)-1:=by
      have:=ck (n:=(first:Int)+(k:Int)-1) (m:=first+k-1) a8 a8;omega
     have l:decide ((k:Int)>0)=true:=by simp;omega
     rw[if_pos s]at a
     repeat' first|refine ak (fun _=> ?_) fun _=> ?_|refine bb (ga @g (ga @h (ga @t (ga @u (ga @w (ga @l (ga @j (ga @i (ga @ef (ga @bJ @wj)))))))))) trivial ?_|exact ba (ga @g (ga @h (ga @t (ga @u (ga @w (ga @l (ga @j (ga @i (ga @ef (ga @bJ @wj)))))))))) trivial|fail
     ·rw[if_pos a8]at a;exact step2 a a8
     ·rw[if_neg a8]at a;exact step2 a a8
    ·have l:decide ((k:Int)>0)=false:=by simp;omega
     rw[if_neg s]at a
     repeat' first|refine ak (fun _=> ?_) fun _=> ?_|refine bb (ga @g (ga @h (ga @t (ga @u (ga @l (ga @j (ga @i (ga @ef (ga @bJ @wj))))))))) trivial ?_|exact ba (ga @g (ga @h (ga @t (ga @u (ga @l (ga @j (ga @i (ga @ef (ga @bJ @wj))))))))) trivial|fail
     ·rw[if_pos a8]at a;exact step2 a a8
     ·rw[if_neg a8]at a;exact step2 a a8
   ·rw[dX]at f⊢;have g:decide (((c.lines.length+1:Nat):Int)≤(c.lines.length:Int))=false:=by simp;omega
    have p:=a;rw[eg,bg]at p;refine aw @g trivial ?_
    all_goals rw[p]
end Go.Proofs.Q
