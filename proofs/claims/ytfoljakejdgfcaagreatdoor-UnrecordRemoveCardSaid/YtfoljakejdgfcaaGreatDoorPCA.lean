/- Part of a proof. -/
import Derived.Test.YtfoljakejdgfcaaGreatDoorPBZ
set_option linter.unusedVariables false
set_option linter.unusedSimpArgs false
namespace Go.Proofs.Q
open Go Go.Bb Go.RowKit Go.Proofs.Lg
open Go.Ab (D RD)
theorem Ef(A B:List af)(x y:af)(o:Nat)(a:o=A.length*139):aV (jZ (A++x::B)) o 139 ((aQ y).map .d)=some (jZ (A++y::B)):=by
 unfold jZ;refine bZ (A:=(A.map aQ).flatten) (B:=aQ x) (C:=(B.map aQ).flatten) (by simp) ?_ (dN x) (dN y) (by simp);rw[a,Go.Ab.flatten_len (sz:=139) _ fun r b=>by obtain⟨x,_,rfl⟩:=cy.1 b;exact dN x,aL]
theorem Ny(l:List af)(b:l.length≤1000):oV 139 l.length (jZ l)=some (.d (.sl 139 (l.map aQ))):=by
 unfold oV;rw[if_pos ⟨NG l,by omega⟩];unfold jZ;rw[LC,eY];have:=xy 139 (l.map aQ) fun r a=>by obtain⟨x,_,rfl⟩:=cy.1 a;exact dN x
 rw[aL]at this;rw[this]
set_option maxHeartbeats 4000000 in
set_option maxRecDepth 20000 in
theorem Nb:aE Tryz.prog 11 [] (dB true):=by
 obtain⟨⟨H,n1⟩,V⟩:=Fg Yk;obtain⟨⟨s2,n2⟩,z2⟩:=Fg Yl;obtain⟨⟨I,N⟩,W⟩:=Fg Ym;have cA:=Ek [] fa ⟨by simp,by simp⟩ H V;rw[Ow]at cA;have c:=Ek [⟨dP,fa⟩] (jc dP) ⟨by simp,by simpa using H⟩ s2 z2;rw[OA]at c;have i:=Ek gN kh ⟨by simp[gN],by intro x a;simp[gN]at a;rcases a with rfl|rfl<;>assumption⟩ I W;rw[OH]at i
 have z:gK bE gN:=D0 bE OJ;have s: ∀x∈gN,cV x.pat∧e8 x.pat:=by intro x a;simp[gN]at a;rcases a with rfl|rfl<;>constructor<;>assumption
 have L: ∀x∈gN,(bB x.pat).length≤100000:=by intro x a;simp[gN]at a;(rcases a with rfl|rfl);exact Iw;exact Iv
 have h: ∀x∈fj,cV x.pat∧e8 x.pat:=by intro x a;simp[fj]at a;rcases a with rfl|rfl|rfl<;>constructor<;>assumption
 have g: ∀x∈fj,(bB x.pat).length≤1000000:=by intro x a;simp[fj]at a;(rcases a with rfl|rfl|rfl);exact eS Iw a8;exact eS Qn a8;exact eS Iv a8
 have cM:=LM z (by simp[gN]) s dP;rw[OE]at cM;have k:=LK z (by simp[gN]) s L [dP] (by simp);rw[OD]at k;have j:=YT gN (by simp[gN]) s dP ⟨xZ,⟨#[]⟩,3⟩ (fun p M _=>by
  have Y:bM gN dP=some fa:=by rfl
  rw[Y]at M;obtain rfl:=az M;rw[Ov];exact⟨I,N⟩)
 rw[OF]at j;have b:=OI;have e:=Ic fj (by simp[fj]) h g b ⟨dQ,0⟩;rw[Ox]at e;have f:=Ic fj (by simp[fj]) h g b ⟨dP,0⟩;rw[OB]at f;have K:=PV xZ 3;simp only[El,eg]at cA;simp only[El]at c i;have y:(b8 ⟨dP,fa⟩)=b8 ⟨dP,fa⟩:=rfl;dsimp only at cM k j
 obtain⟨A1,l⟩: ∃A,A=[(⟨dP,fa⟩:bU)].map b8:=⟨_,rfl⟩
 obtain⟨J,m⟩: ∃A,A=gN.map b8:=⟨_,rfl⟩
 obtain⟨A3,o⟩: ∃A,A=fj.map b8:=⟨_,rfl⟩
 rw[←l]at cA c;rw[←m]at c i cM k j;rw[←o]at i e f;have X:bk fa=[D.sc (.string xY),.sc (.string ⟨#[]⟩),.sc (.int .i64 0),.sl 32 [],.sl 139 (fa.changes.map aQ)]:=rfl;clear H n1 V s2 n2 z2 I N W z s L h g b l m o;refine ph (F:=yO) RH (by simp[yO]) ?_;simp only[yO];refine AC.seq (bL ?_)
 refine aw @wj trivial ?_;refine AC.seq (bL ?_)
 have q:aV ((aQ (⟨5,af.zero.file,af.zero.type,af.zero.parent,af.zero.name,af.zero.mode,af.zero.data,af.zero.after,af.zero.before,af.zero.lines,af.zero.over⟩:af)).map .d) 137 1 [.d (.sl 1 [[.sc (.string ⟨#[120]⟩)]])]=some ((aQ (⟨5,af.zero.file,af.zero.type,af.zero.parent,af.zero.name,af.zero.mode,af.zero.data,af.zero.after,af.zero.before,[⟨#[120]⟩],af.zero.over⟩:af)).map .d):=BI (⟨5,af.zero.file,af.zero.type,af.zero.parent,af.zero.name,af.zero.mode,af.zero.data,af.zero.after,af.zero.before,af.zero.lines,af.zero.over⟩:af) [⟨#[120]⟩]
 have O:aV M4 0 139 ((aQ (⟨1,af.zero.file,1,af.zero.parent,af.zero.name,af.zero.mode,af.zero.data,af.zero.after,af.zero.before,af.zero.lines,af.zero.over⟩:af)).map .d)=some (jZ [(⟨1,af.zero.file,1,af.zero.parent,af.zero.name,af.zero.mode,af.zero.data,af.zero.after,af.zero.before,af.zero.lines,af.zero.over⟩:af),.zero,.zero]):=Ef [] [.zero,.zero] .zero (⟨1,af.zero.file,1,af.zero.parent,af.zero.name,af.zero.mode,af.zero.data,af.zero.after,af.zero.before,af.zero.lines,af.zero.over⟩:af) 0 rfl
 have P:aV (jZ [(⟨1,af.zero.file,1,af.zero.parent,af.zero.name,af.zero.mode,af.zero.data,af.zero.after,af.zero.before,af.zero.lines,af.zero.over⟩:af),.zero,.zero]) 139 139 ((aQ (⟨2,af.zero.file,af.zero.type,⟨Dg.zero,-1⟩,⟨#[102]⟩,af.zero.mode,af.zero.data,af.zero.after,af.zero.before,af.zero.lines,af.zero.over⟩:af)).map .d)=some (jZ [(⟨1,af.zero.file,1,af.zero.parent,af.zero.name,af.zero.mode,af.zero.data,af.zero.after,af.zero.before,af.zero.lines,af.zero.over⟩:af),(⟨2,af.zero.file,af.zero.type,⟨Dg.zero,-1⟩,⟨#[102]⟩,af.zero.mode,af.zero.data,af.zero.after,af.zero.before,af.zero.lines,af.zero.over⟩:af),.zero]):=Ef [(⟨1,af.zero.file,1,af.zero.parent,af.zero.name,af.zero.mode,af.zero.data,af.zero.after,af.zero.before,af.zero.lines,af.zero.over⟩:af)] [.zero] .zero (⟨2,af.zero.file,af.zero.type,⟨Dg.zero,-1⟩,⟨#[102]⟩,af.zero.mode,af.zero.data,af.zero.after,af.zero.before,af.zero.lines,af.zero.over⟩:af) 139 rfl
 have B:aV (jZ [(⟨1,af.zero.file,1,af.zero.parent,af.zero.name,af.zero.mode,af.zero.data,af.zero.after,af.zero.before,af.zero.lines,af.zero.over⟩:af),(⟨2,af.zero.file,af.zero.type,⟨Dg.zero,-1⟩,⟨#[102]⟩,af.zero.mode,af.zero.data,af.zero.after,af.zero.before,af.zero.lines,af.zero.over⟩:af),.zero]) 278 139 ((aQ (⟨5,af.zero.file,af.zero.type,af.zero.parent,af.zero.name,af.zero.mode,af.zero.data,af.zero.after,af.zero.before,[⟨#[120]⟩],af.zero.over⟩:af)).map .d)=some (jZ fa.changes):=Ef [(⟨1,af.zero.file,1,af.zero.parent,af.zero.name,af.zero.mode,af.zero.data,af.zero.after,af.zero.before,af.zero.lines,af.zero.over⟩:af),(⟨2,af.zero.file,af.zero.type,⟨Dg.zero,-1⟩,⟨#[102]⟩,af.zero.mode,af.zero.data,af.zero.after,af.zero.before,af.zero.lines,af.zero.over⟩:af)] [] .zero (⟨5,af.zero.file,af.zero.type,af.zero.parent,af.zero.name,af.zero.mode,af.zero.data,af.zero.after,af.zero.before,[⟨#[120]⟩],af.zero.over⟩:af) 278 rfl
 have u:oV 139 3 (jZ fa.changes)=some (.d (.sl 139 (fa.changes.map aQ))):=Ny fa.changes (by decide);have Q:aV l9 0 1 [.d (.sc (.string ⟨#[97,110,110]⟩))]=some ((bk {b9.zero with author:=xY}).map .d):=rfl;have C:aV ((bk {b9.zero with author:=xY}).map .d) 4 1 [.d (.sl 139 (fa.changes.map aQ))]=some ((bk fa).map .d):=rfl;obtain⟨E1,v⟩: ∃E,E=fa:=⟨_,rfl⟩
 rw[←v]at cA B u C;refine aw (ga @q (ga @O (ga @P (ga @B (ga @u (ga @Q (ga @C (ga @aM (ga @dN (ga @bc (ga @jm @wj))))))))))) (ga @xj @cA) ?_;clear q O P B u Q C;refine AC.seq (bL ?_);refine aw (ga @aM (ga @fS (ga @dN (ga @bc @wj)))) trivial ?_;have t:(⟨dP,ar.zero.n⟩:ar)=⟨dP,0⟩:=rfl;rw[t]
 have r:aV ((aQ (⟨5,⟨dP,0⟩,af.zero.type,af.zero.parent,af.zero.name,af.zero.mode,af.zero.data,⟨dP,2⟩,⟨dP,0⟩,af.zero.lines,af.zero.over⟩:af)).map .d) 137 1 [.d (.sl 1 [[.sc (.string ⟨#[121]⟩)]])]=some ((aQ (⟨5,⟨dP,0⟩,af.zero.type,af.zero.parent,af.zero.name,af.zero.mode,af.zero.data,⟨dP,2⟩,⟨dP,0⟩,[⟨#[121]⟩],af.zero.over⟩:af)).map .d):=BI (⟨5,⟨dP,0⟩,af.zero.type,af.zero.parent,af.zero.name,af.zero.mode,af.zero.data,⟨dP,2⟩,⟨dP,0⟩,af.zero.lines,af.zero.over⟩:af) [⟨#[121]⟩]
 have S:aV l9 0 1 [.d (.sc (.string ⟨#[98,111,98]⟩))]=some ((bk {b9.zero with author:=Dc}).map .d):=rfl;have G:aV ((bk {b9.zero with author:=Dc}).map .d) 4 1 [.d (.sl 139 [aQ (⟨5,⟨dP,0⟩,af.zero.type,af.zero.parent,af.zero.name,af.zero.mode,af.zero.data,⟨dP,2⟩,⟨dP,0⟩,[⟨#[121]⟩],af.zero.over⟩:af)])]=some ((bk (jc dP)).map .d):=rfl;obtain⟨E2,w⟩: ∃E,E=jc dP:=⟨_,rfl⟩
 rw[←w]at c G;refine AC.seq (bL ?_);refine aw (ga @r (ga @S (ga @G (ga @aM (ga @fS (ga @dN (ga @bc (ga @jm @wj)))))))) @c ?_;clear r S G cA c X y t;refine AC.frame (fr0:=[(1,.d (.sl 37 J)),(2,.ptr 0 0),(3,.d (dI 0)),(4,.ptr 1 0),(5,.ptr 2 0),(6,.d (dI 0))]) ?_ (lr.sub ⟨rfl,rfl,rfl,rfl,rfl,rfl,trivial⟩);refine AC.seq (bL ?_)
 refine aw (ga @bc @wj) @cM ?_;refine AC.seq (bL ?_);refine aw (ga @bc (ga @jm @wj)) @k ?_;refine AC.seq (bL ?_);refine aw (ga @bc (ga @c9 (ga @kq (ga @ew @wj)))) (ga @K @j) ?_;clear cM k j K
 refine AC.frame (fr0:=[(1,.d (.sl 37 J)),(3,.d (dI 0)),(4,.ptr 1 0),(5,.ptr 2 0),(6,.d (dI 0)),(8,.d (dI 19)),(9,.d (.sl 37 [])),(10,.d (.sl 32 [aq dQ,aq dP])),(11,.d (dI 0)),(12,.ptr 3 0),(13,.d (dI 0))]) ?_ (lr.sub ⟨rfl,rfl,rfl,rfl,rfl,rfl,rfl,rfl,rfl,rfl,rfl,trivial⟩);obtain⟨cR,T,U,ro⟩: ∃cR,kh.changes[0]?=some cR∧kh.changes.length=1∧cR.over.length=5:=⟨_,rfl,rfl,rfl⟩
 obtain⟨R,Z⟩: ∃R,R=kh:=⟨_,rfl⟩
 rw[←Z]at T U i⊢;refine AC.seq (bL ?_)
 repeat' first|refine ak (fun _=> ?_) fun _=> ?_|refine aD ?_|simp only[T,U,ro,Int.reduceBNe,Int.reduceLE,Int.reduceToNat,aL,aU,aY,wj,wy,qg,aC,reduceCtorEq,reduceIte,Nat.reduceAdd,Nat.reduceMul,Nat.reduceEqDiff,Nat.reduceLT,Nat.reduceLeDiff,Nat.reduceSub,ax,aB,ay,au]
 refine AC.seq (bL ?_);refine aw (ga @bc (ga @c9 (ga @jm @wj))) @i ?_;refine bL ?_;have t:(⟨dQ,ar.zero.n⟩:ar)=⟨dQ,0⟩:=rfl;exact bx (ga @t (ga @bc (ga @aM (ga @fS @wj)))) (ga @e @f)
end Go.Proofs.Q
