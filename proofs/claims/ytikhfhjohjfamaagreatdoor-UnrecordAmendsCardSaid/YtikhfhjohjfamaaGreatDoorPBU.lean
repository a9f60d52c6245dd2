/- Lemmas. -/
import Derived.Test.YtikhfhjohjfamaaGreatDoorPBV
set_option linter.unusedVariables false
set_option linter.unusedSimpArgs false
set_option maxRecDepth 100000
namespace Go.Proofs.Q
open Go Go.Bb Go.RowKit Go.Proofs.Lg
open Go.Ab (D RD)
theorem Zz(x:Dg)(U:List Dg):aI Tryz.prog 158 [.agg (au x),.ref [.sl 32 (U.map au)]] (dB (bI U x)):=by
 have a:=DR U x;refine aL Tryz.f158 ?_ [100002]
 repeat' first|refine ab (λ_=> ?_) λ_=> ?_|refine aG @wj @a ?_|exact aF @wj @a|fail
 all_goals first|rfl|(simp_all;done)|trace_state
theorem ZA{H:bb->Dg}{l:ar}(h:dm H l)(p:l.length<=100000)(q: ∀x∈l,bS x.pat/\db x.pat)(g: ∀x∈l,(bu x.pat).length<=100000)(ids:List Dg)(f:ids.length<=1000000):
  aI Tryz.prog 90 [.sl 37 (l.map aX),.sl 32 (ids.map au)] (.tup [.sl 37 ((if(fS l ids).2=0 then l.filter (λx=> !bI (fS l ids).1 x.id)else[]).map aX),.sl 32 ((if(fS l ids).2=0 then(fS l ids).1 else[]).map au),dI (fS l ids).2]):=by
 have b:=V3 h p q g ids f;obtain⟨U,n⟩: ∃U,U=(fS l ids).1:=⟨_,rfl⟩
 obtain⟨e,o⟩: ∃e,e=(fS l ids).2:=⟨_,rfl⟩
 rw[<-n,<-o]at b⊢;by_cases h0:e=0
 .subst h0;rw[if_pos rfl,if_pos rfl];have k:=λs=>Nw l a8 158 [] [.d (.ref [.sl 32 (U.map au)])] (λx=>bI U x) s (λx r K _ _ m=>af.data (Zz x.id U) rfl (m 0));refine pB Tryz.f90 ?_;refine AC.seq (bG ?_);refine aC @wj trivial ?_;refine AC.seq (bG ?_);refine aC @wj @b ?_
  refine AC.freeze (i:=0) (ds:=[.sl 32 (U.map au)]) (fr':=[(7,.d (.ref [.sl 32 (U.map au)])),(8,.d (dI 0)),(0,.d (.sl 37 (l.map aX)))]) rfl (λt x a=> ?_) (bG ?_)
  .unfold Bb.look at a;split at a
   .rename_i e;subst e;cases a;exact .inr ⟨rfl,rfl⟩
   .unfold Bb.look at a;split at a
    .rename_i e;subst e;cases a;exact .inl rfl
    .obtain⟨rfl,rfl⟩:=wD a;exact .inl rfl
  repeat' first|refine ab (λ_=> ?_) λ_=> ?_|(refine af.fn ((k _).mono ?_);rintro v r ⟨_,c⟩)|refine aG @wj trivial ?_|exact aF @wj trivial|fail
  have j:=jC Tryz.prog v;refine aC (ga @j @wj) trivial ?_;rw[c 2];rfl
 .rw[if_neg h0,if_neg h0];have hb:(e !=0)=true:=by simpa using h0
  refine aL Tryz.f90 ?_;exact bL (ga @hb @wj) @b
  all_goals first|rfl|trace_state
theorem Vk{H:bb->Dg}{l:ar}(h:dm H l)(ids:List Dg):rD l ids=(if(fS l ids).2=0 then l.filter (λx=> !bI (fS l ids).1 x.id)else[],if(fS l ids).2=0 then(fS l ids).1 else[],(fS l ids).2):=by
 by_cases hi: ∀d∈ids,d∈b8 l
 .rw[Vj h hi];have h0:=(Gt h hi).1;rw[if_pos h0,if_pos h0,h0];rfl
 .obtain⟨d,e,a⟩: ∃d,d∈ids/\d∉b8 l:=fX λb=>hi λx g=>fX λa=>b ⟨x,g,a⟩;rw[Vi e a];have f:fS l ids=([],7):=by unfold fS;rw[if_neg λc=>hi ((oS _ _).1 c)]
  rw[f];rfl
theorem ZB{H:bb->Dg}{l:ar}(h:dm H l)(c:l.length<=100000)(d: ∀x∈l,bS x.pat/\db x.pat)(b: ∀x∈l,(bu x.pat).length<=100000)(ids:List Dg)(a:ids.length<=1000000):
  aI Tryz.prog 90 [.sl 37 (l.map aX),.sl 32 (ids.map au)] (.tup [.sl 37 ((rD l ids).1.map aX),.sl 32 ((rD l ids).2.1.map au),dI (rD l ids).2.2]):=by
 rw[Vk h ids];exact ZA h c d b ids a
theorem ZD{H:bb->Dg}{l:ar}(h:dm H l)(b:l.length<=100000)(a: ∀x∈l,bS x.pat/\db x.pat)(d:Dg):
  aI Tryz.prog 89 [.sl 37 (l.map aX),.agg (au d)] (.tup [.sl 37 ((eT l d).1.map aX),dI (eT l d).2]):=by
 rw[<-Mf h d];exact Nu l a8 a d
theorem R6:qV gL ⟨dQ,0⟩=true:=by
 have c:bh gL dQ=some (kN dP):=by rfl
 have a:(lG gL ⟨dQ,0⟩).isSome=true:=by
  unfold lG;rw[show bh gL (⟨dQ,0⟩:ak).p=some (kN dP)from c];show((ee (kN dP)).1.find? _).isSome=true;rw[Ar id2 MT];kernel_rfl
 have b:eN (jh gL).2 ⟨dQ,0⟩=[]:=by
  unfold jh;rw[<-IN];kernel_rfl
 unfold qV;rw[a,b];rfl
theorem R9:qV gL ⟨dP,0⟩=false:=by
 have a:(eN (jh gL).2 ⟨dP,0⟩).length=1:=by
  unfold jh;rw[<-IN];kernel_rfl
 unfold qV;have:eN (jh gL).2 ⟨dP,0⟩≠[]:=λh=>by rw[h]at a;cases a
 simp[this]
theorem YY:zF gm=true:=by kernel_rfl
theorem YZ:zF (kN dP)=true:=by kernel_rfl
theorem Z0:zF mB=true:=by kernel_rfl
theorem Ri:gl aq jg=0:=by kernel_rfl
theorem Kn:(bu gm).length<=100000:=by
 have:(bu gm).length=0:=by kernel_rfl
 omega
theorem Ko:(bu (kN dP)).length<=100000:=by
 have:(bu (kN dP)).length=1:=by kernel_rfl
 omega
theorem Tm:(bu mB).length<=100000:=by
 have:(bu mB).length=1:=by kernel_rfl
 omega
theorem SM(a:bb)(n:Int):aI Tryz.prog 91 [dS a,dI n] (.agg (eS ⟨a,⟨#[]⟩,n⟩)):=by
 refine aL Tryz.f91 ?_ [300007];have c:ba [AV.d (D.sc (Value.string ⟨#[]⟩)),AV.d (D.sc (Value.string ⟨#[]⟩)),AV.d (D.sc (Value.int IntKind.i64 0))] 0 1 [AV.d (D.sc (Value.string a))]=some ((eS ⟨a,⟨#[]⟩,0⟩).map .d):=rfl;have e:ba ((eS ⟨a,⟨#[]⟩,0⟩).map .d) 2 1 [AV.d (D.sc (Value.int IntKind.i64 n))]=some ((eS ⟨a,⟨#[]⟩,n⟩).map .d):=rfl
 have f:ba [AV.d (D.sc (Value.string ⟨#[]⟩)),AV.d (D.sc (Value.string ⟨#[]⟩)),AV.d (D.sc (Value.int IntKind.i64 0))] 0 3 ((eS ⟨a,⟨#[]⟩,n⟩).map .d)=some ((eS ⟨a,⟨#[]⟩,n⟩).map .d):=rfl;have b:(eS ⟨a,⟨#[]⟩,n⟩).take 3=eS ⟨a,⟨#[]⟩,n⟩:=Fy _;exact bL (ga @c (ga @e (ga @f (ga @b (ga @iF @wj))))) trivial
 all_goals first|rfl|trace_state
theorem R4:(dp gm).length=5:=by kernel_rfl
theorem Rh:(b8 gL).Nodup:=by
 have h:decide ((b8 gL).Nodup)=true:=by kernel_rfl
 exact of_decide_eq_true h
abbrev Iv:az:=⟨5,az.zero.file,az.zero.type,az.zero.parent,az.zero.name,az.zero.mode,az.zero.data,az.zero.after,az.zero.before,az.zero.lines,az.zero.over⟩
abbrev E0:az:=⟨5,az.zero.file,az.zero.type,az.zero.parent,az.zero.name,az.zero.mode,az.zero.data,az.zero.after,az.zero.before,[⟨#[120]⟩],az.zero.over⟩
abbrev yj:az:=⟨2,az.zero.file,az.zero.type,⟨Dg.zero,-1⟩,⟨#[102]⟩,az.zero.mode,az.zero.data,az.zero.after,az.zero.before,az.zero.lines,az.zero.over⟩
abbrev sE:az:=⟨1,az.zero.file,1,az.zero.parent,az.zero.name,az.zero.mode,az.zero.data,az.zero.after,az.zero.before,az.zero.lines,az.zero.over⟩
abbrev Iw:az:=⟨5,⟨dP,0⟩,az.zero.type,az.zero.parent,az.zero.name,az.zero.mode,az.zero.data,⟨dP,2⟩,⟨dP,0⟩,az.zero.lines,az.zero.over⟩
abbrev Ix:az:=⟨5,⟨dP,0⟩,az.zero.type,az.zero.parent,az.zero.name,az.zero.mode,az.zero.data,⟨dP,2⟩,⟨dP,0⟩,[⟨#[121]⟩],az.zero.over⟩
set_option maxHeartbeats 4000000 in
theorem a0O:aI Tryz.prog 33 [] (dB true):=by
 obtain⟨⟨F,X⟩,S⟩:=Gb YY;obtain⟨⟨s2,Y⟩,z2⟩:=Gb YZ;obtain⟨⟨G,K⟩,T⟩:=Gb Z0;have cA:=C7 [] gm ⟨by simp,by simp⟩ F S;rw[R5]at cA;have c:=C7 [⟨dP,gm⟩] (kN dP) ⟨by simp,by simpa using F⟩ s2 z2;rw[R8]at c;have i:=C7 jg mB ⟨by simp[jg],by intro x a;simp[jg]at a;rcases a with rfl|rfl<;>assumption⟩ G T;rw[Rg]at i
 have z:dm aq jg:=mw aq Ri;have s: ∀x∈jg,bS x.pat/\db x.pat:=by intro x a;simp[jg]at a;rcases a with rfl|rfl<;>constructor<;>assumption
 have J: ∀x∈jg,(bu x.pat).length<=100000:=by intro x a;simp[jg]at a;(rcases a with rfl|rfl);exact Ko;exact Kn
 have h: ∀x∈gL,bS x.pat/\db x.pat:=by intro x a;simp[gL]at a;rcases a with rfl|rfl|rfl<;>constructor<;>assumption
 have g: ∀x∈gL,(bu x.pat).length<=1000000:=by intro x a;simp[gL]at a;(rcases a with rfl|rfl|rfl);exact ez Ko a8;exact ez Tm a8;exact ez Kn a8
 have cM:=ZD z (by simp[jg]) s dP;rw[Rc]at cM;have k:=ZB z (by simp[jg]) s J [dP] (by simp);rw[Rb]at k;have j:=Nv jg (by simp[jg]) s dP ⟨Bi,⟨#[]⟩,3⟩ (λp hp _=>by
  have V:bh jg dP=some gm:=by rfl
  rw[V]at hp;obtain rfl:=aJ hp;rw[R4];exact⟨G,K⟩)
 rw[Re]at j;have b:=Rh;have e:=EB gL (by simp[gL]) h g b ⟨dQ,0⟩;rw[R6]at e;have f:=EB gL (by simp[gL]) h g b ⟨dP,0⟩;rw[R9]at f;have I:=SM Bi 3;simp only[nA,fi]at cA;simp only[nA]at c i;have y:(aX ⟨dP,gm⟩)=aX ⟨dP,gm⟩:=rfl;dsimp only at cM k j
 obtain⟨A1,l⟩: ∃A,A=[(⟨dP,gm⟩:bD)].map aX:=⟨_,rfl⟩
 obtain⟨H,m⟩: ∃A,A=jg.map aX:=⟨_,rfl⟩
 obtain⟨A3,o⟩: ∃A,A=gL.map aX:=⟨_,rfl⟩
 rw[<-l]at cA c;rw[<-m]at c i cM k j;rw[<-o]at i e f;have U:br gm=[D.sc (.string Bh),.sc (.string ⟨#[]⟩),.sc (.int .i64 0),.sl 32 [],.sl 139 (gm.changes.map aR)]:=rfl;clear F X S s2 Y z2 G K T z s J h g b l m o;refine pB Tryz.f33 ?_ [300018,300020,100021,300022,100023,300024,300030,300035,100037,300038,100039,300040,100054,300121]
 refine AC.seq (bG ?_);refine aC @wj trivial ?_;refine AC.seq (bG ?_);have q:ba ((aR Iv).map .d) 137 1 [.d (.sl 1 [[.sc (.string ⟨#[120]⟩)]])]=some ((aR E0).map .d):=Cb Iv [⟨#[120]⟩];have L:ba NY 0 139 ((aR sE).map .d)=some (lD [sE,.zero,.zero]):=F7 [] [.zero,.zero] .zero sE 0 rfl
 have M:ba (lD [sE,.zero,.zero]) 139 139 ((aR yj).map .d)=some (lD [sE,yj,.zero]):=F7 [sE] [.zero] .zero yj 139 rfl;have B:ba (lD [sE,yj,.zero]) 278 139 ((aR E0).map .d)=some (lD gm.changes):=F7 [sE,yj] [] .zero E0 278 rfl;have u:lU 139 3 (lD gm.changes)=some (.d (.sl 139 (gm.changes.map aR))):=PW gm.changes (by decide)
 have N:ba qD 0 1 [.d (.sc (.string ⟨#[97,110,110]⟩))]=some ((br {aU.zero with author:=Bh}).map .d):=rfl;have r2:ba ((br {aU.zero with author:=Bh}).map .d) 4 1 [.d (.sl 139 (gm.changes.map aR))]=some ((br gm).map .d):=rfl;obtain⟨E1,v⟩: ∃E,E=gm:=⟨_,rfl⟩
 rw[<-v]at cA B u r2;refine aC (ga @q (ga @L (ga @M (ga @B (ga @u (ga @N (ga @r2 (ga @aN (ga @dV (ga @b9 (ga @fw @wj))))))))))) (ga @xU @cA) ?_;clear q L M B u N r2;refine AC.seq (bG ?_);refine aC (ga @aN (ga @fe (ga @dV (ga @b9 @wj)))) trivial ?_;have t:(⟨dP,ak.zero.n⟩:ak)=⟨dP,0⟩:=rfl;rw[t]
 have r:ba ((aR Iw).map .d) 137 1 [.d (.sl 1 [[.sc (.string ⟨#[121]⟩)]])]=some ((aR Ix).map .d):=Cb Iw [⟨#[121]⟩];have O:ba qD 0 1 [.d (.sc (.string ⟨#[98,111,98]⟩))]=some ((br {aU.zero with author:=E6}).map .d):=rfl;have C:ba ((br {aU.zero with author:=E6}).map .d) 4 1 [.d (.sl 139 [aR Ix])]=some ((br (kN dP)).map .d):=rfl
 obtain⟨E2,w⟩: ∃E,E=kN dP:=⟨_,rfl⟩
 rw[<-w]at c C;refine AC.seq (bG ?_);refine aC (ga @r (ga @O (ga @C (ga @aN (ga @fe (ga @dV (ga @b9 (ga @fw @wj)))))))) @c ?_;clear r O C cA c U y t;refine AC.frame (fr0:=[(1,.d (.sl 37 H)),(2,.ptr 0 0),(3,.d (dI 0)),(4,.ptr 1 0),(5,.ptr 2 0),(6,.d (dI 0))]) ?_ (lz.sub ⟨rfl,rfl,rfl,rfl,rfl,rfl,trivial⟩);refine AC.seq (bG ?_)
 refine aC (ga @b9 @wj) @cM ?_;refine AC.seq (bG ?_);refine aC (ga @b9 (ga @fw @wj)) @k ?_;refine AC.seq (bG ?_);refine aC (ga @b9 (ga @bH (ga @iF (ga @dG @wj)))) (ga @I @j) ?_;clear cM k j I
 refine AC.frame (fr0:=[(1,.d (.sl 37 H)),(3,.d (dI 0)),(4,.ptr 1 0),(5,.ptr 2 0),(6,.d (dI 0)),(8,.d (dI 19)),(9,.d (.sl 37 [])),(10,.d (.sl 32 [au dQ,au dP])),(11,.d (dI 0)),(12,.ptr 3 0),(13,.d (dI 0))]) ?_ (lz.sub ⟨rfl,rfl,rfl,rfl,rfl,rfl,rfl,rfl,rfl,rfl,rfl,trivial⟩);obtain⟨cR,P,Q,Z⟩: ∃cR,mB.changes[0]?=some cR/\mB.changes.length=1/\cR.over.length=5:=⟨_,rfl,rfl,rfl⟩
 obtain⟨R,W⟩: ∃R,R=mB:=⟨_,rfl⟩
 rw[<-W]at P Q i⊢;refine AC.seq (bG ?_)
 repeat' first|refine ab (λ_=> ?_) λ_=> ?_|refine aH ?_|simp only[P,Q,Z,Int.reduceBNe,Int.reduceLE,Int.reduceToNat,aM,aY,bc,wj,wy,qg,aE,reduceCtorEq,reduceIte,Nat.reduceAdd,Nat.reduceMul,Nat.reduceEqDiff,Nat.reduceLT,Nat.reduceLeDiff,Nat.reduceSub,ax,aD,aB,aw]
 refine AC.seq (bG ?_);refine aC (ga @b9 (ga @bH (ga @fw @wj))) @i ?_;refine bG ?_;have t:(⟨dQ,ak.zero.n⟩:ak)=⟨dQ,0⟩:=rfl;exact bL (ga @t (ga @b9 (ga @aN (ga @fe @wj)))) (ga @e @f)
end Go.Proofs.Q
