/- Lemmas. -/
import Derived.Test.YtellfinifjmloaaGreatDoorPAK
import Derived.Test.YtellfinifjmloaaGreatDoorPAJ
set_option linter.unusedVariables false
set_option linter.unusedSimpArgs false
namespace Go.Proofs.Q
open Go Go.Bb Go.RowKit Go.Proofs.Lg
open Go.Ab (D RD)
structure HV(c:aC):Prop where
 name:ByteArray.size c.name≤9223372036854775807
 line: ∀s∈c.lines,ByteArray.size s≤9223372036854775807
set_option maxHeartbeats 4000000 in
theorem a0f(c:aC)(hc:HV c):aG Tryz.prog 179 [.agg (aV c)] (dI (ft c)):=by
 have a:=hc.name;have b:=hc.line;clear hc;refine aM (F:=Cv) Y5 (by simp[Cv]) ?_;simp only[Cv]
 repeat' first|refine ae (fun _=> ?_) fun _=> ?_|refine aL ?_|refine aq.data (a0j _) rfl ?_|refine aq.data (a0d _) rfl ?_|refine aq.data (Np _ a) rfl ?_|refine aq.data (a0g _ b) rfl ?_|refine aq.data (ZW _) rfl ?_|simp only[decide_true,wy,qg,aH,simprocAttr,aA,aF,aE,aw]
 clear a b
 all_goals(simp_all[ft,cG];try exact cB)
theorem a0c(l:List Dg):aG Tryz.prog 122 [.sl 32 (l.map aP)] (dI (gl l)):=by
 refine aG.big (enters_of Mz) 0 rfl fun o=> ?_;rw[aQ]at o;refine aM (F:=Cr) Mz (by simp[Cr]) ?_;simp only[Cr]
 repeat' first|refine ae (fun _=> ?_) fun _=> ?_|refine ay ab ab ?_|exact ax ab ab|fail
 ·all_goals(simp_all[gl,cG];try exact cB)
 ·rename_i s;refine aZ.overI l (fun k (p:Option Dg)=>[(3,iN k)]) (fun _ _=>[]) (fun l p=>iF p l) (gl l) (fun k p=>p=if k=0 then none else l[k-1]?) none o aB aB rfl (by unfold gl;rw[if_neg a8]) rfl (fun k p x hg hk b r a n=> ?_) (fun p b a _=> ?_)
  ·cases k with
   |zero=>
    obtain rfl:=n;have f:decide ((0:Int)<(l.length:Int))=true:=decide_eq_true a8;have m:IntKind.i64.wrap ((0:Int)+1)=1:=by rfl
    have g:l[0]?=some x:=hg
    repeat' first|refine ae (fun _=> ?_) fun _=> ?_|refine aL ?_|refine aq.data (kH _) rfl ?_|refine aq.data (ot _ _) rfl ?_|simp only[f,m,g,lP,lO,lQ,gt_iff_lt,decide_false,wy,qg,aH,reduceCtorEq,reduceIte,Nat.reduceAdd,Nat.reduceMul,Nat.reduceEqDiff,Nat.reduceLT,Nat.reduceLeDiff,Nat.reduceSub,aA,aF,aE,aw]
    ·rename_i h;rw[a,iF,if_pos h]
    ·rename_i h;exact⟨some x,by rw[a,iF,if_neg (by simp[h]),if_neg (by simp)],rfl⟩
   |succ j=>
    obtain⟨q,i⟩: ∃q,l[j]?=some q:=⟨_,bN a8⟩
    have hp:p=some q:=by rw[n,if_neg a8];exact i
    subst hp;have d:IntKind.i64.wrap (((j+1:Nat):Int)-1)=(j:Int):=bE a8 a8;have c:decide (((j+1:Nat):Int)>0)=true:=decide_eq_true a8
    repeat' first|refine ae (fun _=> ?_) fun _=> ?_|refine ay (ga @b (ga @r (ga @hg (ga @i (ga @d @c))))) (ga @kH @ot) ?_|exact ax (ga @b (ga @r (ga @hg (ga @i (ga @d @c))))) (ga @kH @ot)|fail
    ·rename_i h;rw[a,iF,if_pos h]
    ·rename_i h e;rw[a,iF,if_neg (by simp[h]),if_pos (by simpa using e)]
    ·rename_i h e;exact⟨some x,by rw[a,iF,if_neg (by simp[h]),if_neg (by simpa using e)],by first|(simp;done)|simpa using hg.symm⟩
  ·repeat' first|refine ae (fun _=> ?_) fun _=> ?_|refine ay @b ab ?_|exact ax @b ab|fail
   all_goals(simp_all[iF,cG];try exact cB)
theorem qL:aG Tryz.prog 44 [] (.agg (aj ⟨.zero,-1⟩)):=by
 refine aM (F:=Az) Wi (by simp[Az]) ?_;simp only[Az];refine aO ab ab ?_
 all_goals rfl
set_option maxHeartbeats 4000000 in
theorem a0i(c:aC)(own:List au)(b:c.over.length≤9223372036854775807):aG Tryz.prog 180 [.agg (aV c),.sl 172 (own.map aI)] (dI (gO c own)):=by
 refine qx (F:=CG) Yd (by simp[CG]) ?_;simp only[CG];refine AC.cut [1,2] [(1,.d (.sl 172 (own.map aI))),(2,.d (.ref (aV c)))] [] True ?_ fun J _=> ?_
 ·refine aO ab ab ?_
  all_goals exact⟨_,rfl⟩
 refine AC.cut [1,2] [(1,.d (.sl 172 (own.map aI))),(2,.d (.ref (aV c)))] [] (rK c own=0) ?_ fun J m=> ?_
 ·repeat' first|refine ae (fun _=> ?_) fun _=> ?_|refine ay ab (ga @rA (ga @DP @rC)) ?_|exact ax ab (ga @rA (ga @DP @rC))|fail
  all_goals first|(refine⟨⟨_,rfl⟩,?_⟩;all_goals(simp_all[rK,cG];try exact cB);done)|(all_goals(simp_all[gO,rK,bQ,cG];try exact cB);done)
 refine AC.cut [1,2] [(1,.d (.sl 172 (own.map aI))),(2,.d (.ref (aV c)))] [] (vG c own=0) ?_ fun J o=> ?_
 ·repeat' first|refine ae (fun _=> ?_) fun _=> ?_|refine ay (ga @bz (ga @bb @wj)) (ga @rA (ga @qL @rC)) ?_|exact ax (ga @bz (ga @bb @wj)) (ga @rA (ga @qL @rC))|fail
  all_goals first|(refine⟨⟨_,rfl⟩,?_⟩;all_goals(simp_all[vG,cG];try exact cB);done)|(simp only[gO,m];all_goals(simp_all[vG,bQ,cG];try exact cB);done)
 refine AC.cut [1,2] [(1,.d (.sl 172 (own.map aI))),(2,.d (.ref (aV c)))] [] (tN c own=0) ?_ fun J p=> ?_
 ·repeat' first|refine ae (fun _=> ?_) fun _=> ?_|refine ay ab @vy ?_|exact ax ab @vy|fail
  ·rename_i j;have r:tN c own=qY c own [c.after,c.before]:=by simp[tN,j]
   obtain⟨L,i⟩: ∃L,L=[c.after,c.before]:=⟨_,rfl⟩
   rw[←i]at r;have h:L.length=2:=by rw[i];rfl
   refine aZ.over L (fun k (_:Unit)=>[(9,iN k)]) (fun _ _=>[]++J) (fun l _=>qY c own l) (qY c own L) () a8 aB aB rfl rfl (fun k _ x hg hk f e g=> ?_) (fun _ f g=> ?_)
   ·have n:[aj c.after,aj c.before][k]?=some (aj x):=by
     rw[show[aj c.after,aj c.before]=L.map aj from by rw[i];rfl,dL,hg];rfl
    have a:((k:Nat):Int)<2:=by omega
    rw[qY,zQ]at g;clear i h
    repeat' first|refine ae (fun _=> ?_) fun _=> ?_|refine ay (ga @a (ga @n @e)) (ga @rA (ga @DO @rC)) ?_|exact ax (ga @a (ga @n @e)) (ga @rA (ga @DO @rC))|fail
    all_goals(clear e;all_goals(simp_all[gO,bQ,cG];try exact cB))
   ·have a:(L.length:Int)=2:=by omega
    refine aO @a ab ?_
    all_goals(simp_all[qY,cG];try exact cB)
  ·rename_i j;simp[tN,j]
 refine AC.cut [1,2] [(1,.d (.sl 172 (own.map aI))),(2,.d (.ref (aV c)))] [] (kD c own c.over=0) ?_ fun J q=> ?_
 ·refine aO ab ab ?_;refine aZ.over c.over (fun k (_:Unit)=>[(11,iN k)]) (fun _ _=>[]++J) (fun l _=>kD c own l) (kD c own c.over) () b aB aB rfl rfl (fun k _ x hg hk f e g=> ?_) (fun _ f g=> ?_)
  ·rw[kD]at g
   repeat' first|refine ae (fun _=> ?_) fun _=> ?_|refine ay (ga @f (ga @hg @e)) (ga @rA (ga @DQ @rC)) ?_|exact ax (ga @f (ga @hg @e)) (ga @rA (ga @DQ @rC))|fail
   all_goals(clear e;all_goals(simp_all[gO,bQ,cG];try exact cB))
  ·refine aO @f ab ?_
   all_goals(simp_all[kD,cG];try exact cB)
 have s:gO c own=xo c:=by simp[gO,bQ,m,o,p,q]
 rw[s];refine bD ?_
 repeat' first|refine ae (fun _=> ?_) fun _=> ?_|refine ay ab @vy ?_|exact ax ab @vy|fail
 all_goals(simp_all[xo,cG];try exact cB)
def km(c:aC)(first:Nat):List bh→Nat→List au
 |[],_=>[]
 |x::l,i=>xr c first i x::km c first l (i+1)
theorem FU(c:aC)(first:Nat): ∀(l:List bh) (i:Nat),km c first l i=l.mapIdx fun k=>xr c first (i+k)
 |[],_=>rfl
 |x::l,i=>by
  rw[km,FU c first l (i+1),List.mapIdx_cons];congr 2;funext k;rw[kW,Nat.add_comm 1 k]
theorem step2{α:Type}{f:α→List D}{b:List α}{A:α}{R rest:List α}{id sz e n m:Nat}{X:aa}{c:List aa}(d:R=b++A::rest)(hm:b.length+1=m): ∃a:List α×List aa,AV.tsl id sz (b.map f++[f A])=AV.tsl id sz (a.1.map f)∧X::aa.row e n (b.length+1)::c=X::aa.row e n a.1.length::a.2∧R=a.1++rest∧a.1.length=m:=⟨(b++[A],c),by simp,by simp,by simp[d],by simp[hm]⟩
set_option maxHeartbeats 4000000 in
theorem ZY(c:aC)(first:Nat)(C:first≤1000000000)(D:c.lines.length≤1000000)(w:1≤c.kind)(y:c.kind≤7):aG Tryz.prog 181 [.agg (aV c),dI first] (.sl 172 ((fh c first).map aI)):=by
 obtain hk|hk|hk|hk|hk|hk|hk:c.kind=1∨c.kind=2∨c.kind=3∨c.kind=4∨c.kind=6∨c.kind=7∨c.kind=5:=by omega
 iterate 6
  ·clear w y D C;refine aM (F:=tk) Mu (by simp[tk]) ?_;simp only[tk];refine aO @hk ab ?_
   all_goals(simp only[fh,hk,Int.reduceEq,if_true,if_false];rfl)
 ·have B:fh c first=km c first c.lines 0++(List.range (c.lines.length+1)).map (qb c first c.lines.length):=by
   simp only[fh,hk,Int.reduceEq,if_false,FU,aw]
  rw[B];clear B w y;refine aM (F:=tk) Mu (by simp[tk]) ?_;simp only[tk];refine aO @hk ab ?_
  refine aZ.overI c.lines (fun k (b:List au)=>[(8,iN k),(6,.tsl 1 172 (b.map aI))]) (fun k b=>[.cells ((aj (dM first)).map .d),.row 32 172 b.length]) (fun r b=>b++km c first r b.length) (km c first c.lines 0) (fun k b=>b.length=k) [] a8 aB aB rfl rfl rfl (fun k b x hg p e i a u=> ?_) (fun b e a u=> ?_)
  ·have h:bw (b.length+1) 296=true:=by simp only[bw,decide_eq_true_eq];omega
   have g:IntKind.i64.wrap ((first:Int)+(k:Int))=(first:Int)+(k:Int):=by
    have:=bE (n:=(first:Int)+(k:Int)) (m:=first+k) a8 a8;omega
   repeat' first|refine ae (fun _=> ?_) fun _=> ?_|refine aL ?_|simp only[e,i,hg,h,g,eW,wy,qg,aH,simprocAttr,aA,aF,aE,aw]
   subst u;exact⟨b++[xr c first b.length x],by simp only[fp];rfl,by simp,by rw[a];simp[km],by simp⟩
  ·simp[km]at a;subst a;obtain⟨L,A⟩: ∃L,L=km c first c.lines 0:=⟨_,rfl⟩
   rw[←A]at u⊢;clear A;refine aO @e ab ?_
   refine aZ.overI (List.range (c.lines.length+1)) (fun k (b:List au×List aa)=>[(9,iN k),(6,.tsl 1 172 (b.1.map aI))]) (fun k b=>[.cells ((aj (dM first)).map .d),.row 32 172 b.1.length]++b.2) (fun r b=>b.1++r.map (qb c first c.lines.length)) (L++(List.range (c.lines.length+1)).map (qb c first c.lines.length)) (fun k b=>b.1.length=L.length+k) (L,[]) (by simp;omega) aB aB rfl rfl rfl (fun k b x hg p e i a l=> ?_) (fun b e a l=> ?_)
   ·obtain⟨b,J⟩:=b;dsimp only at a l;rw[ew]at p;obtain rfl:k=x:=by rw[qA a8]at hg;simpa using hg
    have h:bw (b.length+1) 296=true:=by simp only[bw,decide_eq_true_eq];omega
    have f:decide ((k:Int)≤(c.lines.length:Int))=true:=by simp;omega
    have g:IntKind.i64.wrap ((first:Int)+(c.lines.length:Int))=(first:Int)+(c.lines.length:Int):=by
     have:=bE (n:=(first:Int)+(c.lines.length:Int)) (m:=first+c.lines.length) a8 a8;omega
    have s:IntKind.i64.wrap ((first:Int)+(c.lines.length:Int)+(k:Int))=(first:Int)+(c.lines.length:Int)+(k:Int):=by
     have:=bE (n:=(first:Int)+(c.lines.length:Int)+(k:Int)) (m:=first+c.lines.length+k) a8 a8;omega
    have t:IntKind.i64.wrap ((first:Int)+(k:Int))=(first:Int)+(k:Int):=by
     have:=bE (n:=(first:Int)+(k:Int)) (m:=first+k) a8 a8;omega
    have z:qb c first c.lines.length k={au.zero with id:=dM (first+c.lines.length+k),kind:=6,file:=c.file,fro:=(if 0<k then dM (first+k-1)else c.after),til:=(if k<c.lines.length then dM (first+k)else c.before)}:=rfl;rw[bV,z]at a;clear z e;by_cases q:0<k
    ·have v:IntKind.i64.wrap ((first:Int)+(k:Int)-1)=(first:Int)+(k:Int)-1:=by
      have:=bE (n:=(first:Int)+(k:Int)-1) (m:=first+k-1) a8 a8;omega
     have j:decide ((k:Int)>0)=true:=by simp;omega
     rw[if_pos q]at a
     repeat' first|refine ae (fun _=> ?_) fun _=> ?_|refine ay (ga @f (ga @g (ga @s (ga @t (ga @v (ga @j (ga @i (ga @h (ga @bz (ga @bb @wj)))))))))) ab ?_|exact ax (ga @f (ga @g (ga @s (ga @t (ga @v (ga @j (ga @i (ga @h (ga @bz (ga @bb @wj)))))))))) ab|fail
     ·rw[if_pos a8]at a;exact step2 a a8
     ·rw[if_neg a8]at a;exact step2 a a8
    ·have j:decide ((k:Int)>0)=false:=by simp;omega
     rw[if_neg q]at a
     repeat' first|refine ae (fun _=> ?_) fun _=> ?_|refine ay (ga @f (ga @g (ga @s (ga @t (ga @j (ga @i (ga @h (ga @bz (ga @bb @wj))))))))) ab ?_|exact ax (ga @f (ga @g (ga @s (ga @t (ga @j (ga @i (ga @h (ga @bz (ga @bb @wj))))))))) ab|fail
     ·rw[if_pos a8]at a;exact step2 a a8
     ·rw[if_neg a8]at a;exact step2 a a8
   ·rw[ew]at e⊢;have f:decide (((c.lines.length+1:Nat):Int)≤(c.lines.length:Int))=false:=by simp;omega
    have o:=a;rw[e8,bg]at o;refine aO @f ab ?_
    all_goals rw[o]
end Go.Proofs.Q
