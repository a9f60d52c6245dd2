/- Part of a proof. -/
import Derived.Test.YtfoljakejdgfcaaGreatDoorPAD
import Derived.TacticsIn
import Derived.RangeFuncNested
set_option linter.unusedVariables false
set_option linter.unusedSimpArgs false
namespace Go.Bb
open Go Go.RowKit Go.Ab Go.Proofs.Lg
section
variable {LL:Nat→Code→CC→Prop} {P:Program} {o:Oper} {fr:Fr} {s s':List aa} {d:AV}
theorem se{ci:CI}(h:gV LL P o fr s d s'):bq LL P o fr s d s'∧(ci.touch fr=3→gV LL P o fr s d s'):=⟨h.op,fun _=>h⟩
theorem dM{ci:CI}(h:bq LL P o fr s d s')(a:ci.touch fr≠3):bq LL P o fr s d s'∧(ci.touch fr=3→gV LL P o fr s d s'):=⟨h,fun e=>absurd e a⟩
theorem Iu{e:List Nat}{ci:CI}{x:Operand}(a:o.op= .move x∨o.op= .assign x)(h:tB P e o x=some ci)(b:ci.sem fr s=some (d,s')):bq LL P o fr s d s'∧(ci.touch fr=3→gV LL P o fr s d s'):=by
 unfold tB at h;split at h
 ·split at h
  ·rename_i f;obtain rfl:=az h;exact se (R6 a rfl f b)
  ·obtain⟨y,c,rfl⟩:=bz h;exact dM (Bs a c b) (by simp only[CI.touch];first|decide|(split<;>decide))
 ·obtain⟨y,c,rfl⟩:=bz h;exact dM (Bs a c b) (by simp only[CI.touch];first|decide|(split<;>decide))
theorem GO{N:List Nat}{ci:CI}(h:ka P N o=some ci)(r:ci.sem fr s=some (d,s')):bq LL P o fr s d s'∧(ci.touch fr=3→gV LL P o fr s d s'):=by
 unfold ka at h;split at h
 ·rename_i x g;exact Iu (.inl g) h r
 ·rename_i x g;exact Iu (.inr g) h r
 ·rename_i c a b g;split at h
  ·rename_i x y z q p u;obtain rfl:=az h;exact dM (R8 g q p u r) (by simp only[CI.touch];first|decide|(split<;>decide))
  ·cases h
 ·rename_i t x g;split at h
  ·rename_i n x q p;obtain rfl:=az h;exact dM (QX g q p r) (by simp only[CI.touch];first|decide|(split<;>decide))
  ·cases h
 ·rename_i t x v g;split at h
  ·rename_i i x y q p u;obtain rfl:=az h;exact dM (Rh g q p u r) (by simp only[CI.touch];first|decide|(split<;>decide))
  ·cases h
 ·rename_i t x f g;split at h
  ·rename_i V x q p;split at h
   ·rename_i U u;split at h
    ·cases h
    ·rename_i w;obtain rfl:=az h;exact dM (QP g q u w p r) (by simp only[CI.touch];first|decide|(split<;>decide))
   ·cases h
  ·cases h
 ·rename_i t x i g;unfold xG at h;split at h
  ·rename_i e x y q p u;split at h
   ·rename_i j w;obtain rfl:=az h;exact dM (QS g q w p u r) (by simp only[CI.touch];first|decide|(split<;>decide))
   ·cases h
  ·rename_i n e x y q p u;split at h
   ·rename_i j w;obtain rfl:=az h;exact dM (QT g q w p u r) (by simp only[CI.touch];first|decide|(split<;>decide))
   ·cases h
  ·cases h
 ·rename_i t x i g;unfold xH at h;split at h
  ·rename_i n e x y q p u;split at h
   ·rename_i m j w A;obtain rfl:=az h;exact dM (QU g q w A p u r) (by simp only[CI.touch];first|decide|(split<;>decide))
   ·cases h
  ·rename_i x y q p u;obtain rfl:=az h;exact dM (Rc g q p u r) (by simp only[CI.touch];first|decide|(split<;>decide))
  ·cases h
 ·rename_i t x f g;split at h
  ·rename_i V x q p;split at h
   ·rename_i U u;split at h
    ·rename_i n w;obtain rfl:=az h;exact dM (QR g q u w p r) (by simp only[CI.touch];first|decide|(split<;>decide))
    ·cases h
   ·cases h
  ·cases h
 ·rename_i x i g;obtain⟨y,B,rfl⟩:=bz h;exact dM (QO g B r) (by simp only[CI.touch];first|decide|(split<;>decide))
 ·rename_i Z t x y t' g;unfold xC at h;split at h
  ·rename_i O H;split at h
   ·rename_i x q;obtain rfl:=az h;exact dM (QW g H q r) (by simp only[CI.touch];first|decide|(split<;>decide))
   ·cases h
  split at h
  ·rename_i x y q p;split at h
   ·rename_i ag ks O F;obtain rfl:=az h;exact dM (QN g q p F r) (by simp only[CI.touch];first|decide|(split<;>decide))
   ·obtain rfl:=az h;exact dM (QG g q p r) (by simp only[CI.touch];first|decide|(split<;>decide))
  ·cases h
 ·rename_i t x g;obtain⟨y,B,rfl⟩:=bz h;exact dM (R7 g B r) (by simp only[CI.touch];first|decide|(split<;>decide))
 ·rename_i t x g;split at h
  ·rename_i k D;obtain⟨y,B,rfl⟩:=bz h;exact dM (II g B r) (by simp only[CI.touch];first|decide|(split<;>decide))
  ·cases h
 ·rename_i t x g;split at h
  ·rename_i k D;obtain⟨y,B,rfl⟩:=bz h;exact dM (II g B r) (by simp only[CI.touch];first|decide|(split<;>decide))
  ·cases h
 ·rename_i t x lo hi mx g;unfold uZ at h;split at h
  ·rename_i e R l p u w A C;split at h
   ·rename_i j E;obtain rfl:=az h;exact dM (Re g u E w A C r) (by simp only[CI.touch];first|decide|(split<;>decide))
   ·rename_i j m E;split at h
    ·rename_i W;obtain rfl:=az h;exact dM (Rg g W u E w r) (by simp only[CI.touch];first|decide|(split<;>decide))
    ·cases h
   ·cases h
  ·rename_i T R l p u w A C;split at h
   ·rename_i n e E;split at h
    ·rename_i j K;split at h
     ·rename_i H;obtain rfl:=az h;exact dM (IG g (.inr ⟨_,u,E⟩) K w A C H r) (by simp only[CI.touch];first|decide|(split<;>decide))
     ·cases h
    ·cases h
   ·cases h
  ·rename_i n e R l p u w A C;split at h
   ·rename_i j K;split at h
    ·rename_i H;obtain rfl:=az h;exact dM (IG g (.inl u) K w A C H r) (by simp only[CI.touch];first|decide|(split<;>decide))
    ·cases h
   ·cases h
  ·rename_i R l p u w A C;split at h
   ·rename_i H;have:mx=none:=by simpa using H
    subst this;obtain rfl:=az h;exact dM (Rf g u w A C r) (by simp only[CI.touch];first|decide|(split<;>decide))
   ·cases h
  ·cases h
 ·rename_i t x g;obtain⟨y,B,F⟩:=bz h;split at F
  ·subst F;exact dM (QJ g B r) (by simp only[CI.touch];first|decide|(split<;>decide))
  ·subst F;exact se (QI g B r)
 ·rename_i t g;split at h
  ·rename_i i q;split at h
   ·rename_i z p;obtain⟨c,hc,rfl⟩:=bz h;split at r
    ·rename_i G;rw[if_pos G];exact se (QD g q p hc r)
    ·rename_i G;rw[if_neg G];exact se (QC g q p hc r)
   ·cases h
  ·cases h
 ·rename_i t I g;have M: ∃z Q,ci= .bld z Q:=by
   unfold tA at h
   (repeat' split at h)<;>first|(cases h;done)|(obtain⟨Q,_,F⟩:=bz h;exact⟨_,_,F.symm⟩)
  obtain⟨z,Q,rfl⟩:=M;exact dM (QH g h r) (by simp only[CI.touch];first|decide|(split<;>decide))
 ·rename_i t n I g;exact R9 g h r
 ·rename_i t l c g;exact se (R2 g h r)
 ·rename_i X dst x g;unfold uW at h;split at h
  ·rename_i k' k x q p u;obtain rfl:=az h;exact dM (QM g q p u r) (by simp only[CI.touch];first|decide|(split<;>decide))
  ·rename_i e x q p u;split at h
   ·rename_i w;obtain rfl:=az h;split at r
    ·rename_i G;rw[if_pos G];exact se (Rb g q p w u r)
    ·rename_i G;rw[if_neg G];exact dM (Ra g q p w u r) (by simp only[CI.touch];first|decide|(split<;>decide))
   ·cases h
  ·rename_i e x q p u;split at h
   ·rename_i w;obtain rfl:=az h;exact dM (QF g q p w u r) (by simp only[CI.touch];first|decide|(split<;>decide))
   ·cases h
  ·cases h
 ·rename_i x g;obtain⟨y,B,rfl⟩:=bz h;exact dM (R5 g B r) (by simp only[CI.touch];first|decide|(split<;>decide))
 ·rename_i f xs ys g;split at h
  ·rename_i us vs q p;obtain rfl:=az h;exact dM (R0 g q p r) (by simp only[CI.touch];first|decide|(split<;>decide))
  ·cases h
 ·rename_i t g;split at h
  ·rename_i kt et D;obtain rfl:=az h;exact se (R1 (t:=t) (et:=et) g r)
  ·cases h
 ·rename_i t m k ok g;unfold xJ at h;split at h
  ·rename_i kt et D;split at h
   ·rename_i L k' ks z q p u w;obtain rfl:=az h;exact dM (QY g D q p u w r) (by simp only[CI.touch];first|decide|(split<;>decide))
   ·cases h
  ·cases h
 ·rename_i t m k v g;unfold tC at h;split at h
  ·rename_i kt et D;split at h
   ·rename_i L k' S ks q p u w;obtain rfl:=az h;exact dM (R4 g D q p u w r) (by simp only[CI.touch];first|decide|(split<;>decide))
   ·cases h
  ·cases h
 ·rename_i t m k v g;unfold tC at h;split at h
  ·rename_i kt et D;split at h
   ·rename_i L k' S ks q p u w;obtain rfl:=az h;exact dM (QV g D q p u w r) (by simp only[CI.touch];first|decide|(split<;>decide))
   ·cases h
  ·cases h
 ·rename_i t m k g;unfold xK at h;split at h
  ·rename_i kt et D;split at h
   ·rename_i L k' ks z q p u w;obtain rfl:=az h;exact dM (QZ g D q p u w r) (by simp only[CI.touch];first|decide|(split<;>decide))
   ·cases h
  ·cases h
 ·rename_i t m i v g;unfold xL at h;split at h
  ·rename_i kt et D;split at h
   ·rename_i L Y S q p u;obtain rfl:=az h;exact dM (R3 g D q p u r) (by simp only[CI.touch];first|decide|(split<;>decide))
   ·cases h
  ·cases h
 ·rename_i c g;obtain⟨callee,args,J⟩:=c;obtain⟨args⟩:=args;obtain⟨J⟩:=J;unfold xD at h;dsimp only at h;split at h
  ·unfold xI at h;split at h
   ·split at h
    ·rename_i e x q p;obtain rfl:=az h;exact dM (DU (kd:=0) g ⟨e,q⟩ p r) (by simp only[CI.touch];first|decide|(split<;>decide))
    ·rename_i x q p;obtain rfl:=az h;exact dM (DU (kd:=1) g q p r) (by simp only[CI.touch];first|decide|(split<;>decide))
    ·rename_i k e x q p;obtain rfl:=az h;exact dM (DU (kd:=2) g ⟨k,e,q⟩ p r) (by simp only[CI.touch];first|decide|(split<;>decide))
    ·cases h
   ·cases h
  ·unfold xB at h;split at h
   ·split at h
    ·rename_i e x y q p u;split at h
     ·rename_i j w;split at h
      ·rename_i z A;split at h
       ·rename_i C;obtain⟨rfl,E,K⟩:=C;obtain rfl:=az h;exact⟨QE g q w A E p u r,IE g q w A E p u r⟩
       ·cases h
      ·cases h
     ·cases h
    ·cases h
   ·cases h
  ·unfold xE at h;split at h
   ·split at h
    ·rename_i e x q p;split at h
     ·rename_i j w;split at h
      ·rename_i z A;split at h
       ·rename_i C;obtain rfl:=az h;exact dM (QL g q w A C.1 C.2 p r) (by simp[CI.touch])
       ·cases h
      ·cases h
     ·cases h
    ·cases h
   ·cases h
  ·unfold pT at h;split at h
   ·split at h
    ·rename_i x y q p;obtain rfl:=az h;exact dM (IF (mx:=true) g q p r) (by simp only[CI.touch];first|decide|(split<;>decide))
    ·cases h
   ·cases h
  ·unfold pT at h;split at h
   ·split at h
    ·rename_i x y q p;obtain rfl:=az h;exact dM (IF (mx:=false) g q p r) (by simp only[CI.touch];first|decide|(split<;>decide))
    ·cases h
   ·cases h
  ·obtain⟨y,B,rfl⟩:=bz h;cases r
  ·split at h
   ·obtain rfl:=az h;cases r
   ·cases h
  ·cases h
 ·cases h
theorem xM{a:List Nat}{ci:CI}(h:ka P a o=some ci)(b:ci.sem fr s=some (d,s')):bq LL P o fr s d s':=(GO h b).1
theorem O3{a:List Nat}{ci:CI}(h:ka P a o=some ci)(b:ci.sem fr s=some (d,s'))(c:ci.touch fr=3):gV LL P o fr s d s':=(GO h b).2 c
theorem L7{ci:CI}(h:ci.sem fr s=some (d,s'))(a:ci.touch fr<2):s'=s:=by
 cases ci with
 |st n x v=>simp[CI.touch]at a
 |app mu e sz b x y=>exact absurd a (Nat.not_lt.2 (CH (x.ev fr)))
 |mup ag ks m k v=>simp[CI.touch]at a
 |men ag ks z m k=>simp[CI.touch]at a
 |mst m i v=>simp[CI.touch]at a
 |box x=>simp[CI.touch]at a
 |s2o e x=>simp[CI.touch]at a
 |bxt t x=>simp[CI.touch]at a
 |clr sz z x=>simp[CI.touch]at a
 |bsl mu e sz n z ps=>simp[CI.touch]at a
 |mks mu e b z l c=>simp[CI.touch]at a
 |mkm ag=>simp[CI.touch]at a
 |nlr e sz=>simp[CI.touch]at a
 |call c xs=>cases h
 |bad=>cases h
 |_=>exact(dw h).2
theorem qi{s s2:List aa}{v:AV}(h: ∀id,v.hdl=some id→s2[id]?=s[id]?):fR s2 v=fR s v:=by
 unfold fR;cases a:v.hdl with
 |none=>rfl
 |some id=>exact h id a
theorem L6{ci:CI}(h:ci.sem fr s=some (d,s))(p:ci.touch fr<2){s2:List aa}(r: ∀id,ci.use fr=some id→s2[id]?=s[id]?):ci.sem fr s2=some (d,s2):=by
 have u: ∀{s2:List aa} {x:Option AV},x=some d→ret s2 x=some (d,s2):=fun h=>by rw[h];rfl
 cases ci with
 |st n x v=>simp[CI.touch]at p
 |app mu e sz b x y=>exact absurd p (Nat.not_lt.2 (CH (x.ev fr)))
 |mup ag ks m k v=>simp[CI.touch]at p
 |men ag ks z m k=>simp[CI.touch]at p
 |mst m i v=>simp[CI.touch]at p
 |box x=>simp[CI.touch]at p
 |s2o e x=>simp[CI.touch]at p
 |bxt t x=>simp[CI.touch]at p
 |clr sz z x=>simp[CI.touch]at p
 |bsl mu e sz n z ps=>simp[CI.touch]at p
 |mks mu e b z l c=>simp[CI.touch]at p
 |mkm ag=>simp[CI.touch]at p
 |nlr e sz=>simp[CI.touch]at p
 |call c xs=>cases h
 |bad=>cases h
 |ld n x=>
  obtain⟨hc,_⟩:=dw h;obtain⟨v,f,g⟩:=aH hc;refine u ?_;rw[f,dF,qi fun id a=>r id (by simp only[CI.use,f,dF,a])];exact g
 |iad sz x i=>
  obtain⟨hc,_⟩:=dw h;obtain⟨j,D,q⟩:=aH hc;obtain⟨v,f,g⟩:=aH q;refine u ?_;rw[D,dF,f,dF];cases v with
  |vec id m w=>
   rw[qi fun id a=>r id (by simp only[CI.use,f,dF];exact a)];exact g
  |vwn id N m n w=>
   rw[qi fun id a=>r id (by simp only[CI.use,f,dF];exact a)];exact g
  |_=>exact g
 |slc sz x lo hi=>
  obtain⟨hc,_⟩:=dw h;obtain⟨v,f,q⟩:=aH hc;obtain⟨l,E,B⟩:=aH q;obtain⟨m,hm,g⟩:=aH B;refine u ?_;rw[f,dF,E,dF,hm,dF];cases v with
  |vec id m w=>
   rw[qi fun id a=>r id (by simp only[CI.use,f,dF];exact a)];exact g
  |vwn id N m n w=>
   rw[qi fun id a=>r id (by simp only[CI.use,f,dF];exact a)];exact g
  |_=>exact g
 |len kd x=>
  obtain⟨hc,_⟩:=dw h;obtain⟨v,f,g⟩:=aH hc;refine u ?_;rw[f,dF];by_cases C:kd=2
  ·rw[qi fun id a=>r id (by simp only[CI.use,C,if_true,f,dF,a])];exact g
  ·have: ∀o o',iW o kd v=iW o' kd v:=fun o o'=>by
    unfold iW;split<;>first|rfl|exact absurd rfl C
   rw[this _ (fR s v)];exact g
 |b2s x=>
  obtain⟨hc,_⟩:=dw h;obtain⟨v,f,g⟩:=aH hc;refine u ?_;rw[f,dF,qi fun id a=>r id (by simp only[CI.use,f,dF,a])];exact g
 |lkp ag ks z ok m k=>
  obtain⟨hc,_⟩:=dw h;obtain⟨key,A,q⟩:=aH hc;obtain⟨v,f,g⟩:=aH q;refine u ?_;rw[A,dF,f,dF,qi fun id a=>r id (by simp only[CI.use,f,dF,a])];exact g
 |_=>exact u (dw h).1
theorem LD{ci:CI}(a:ci.touch fr<2):ci.touch fr=if(ci.use fr).isSome then 1 else 0:=by
 cases ci with
 |st n x v=>simp[CI.touch]at a
 |app mu e sz b x y=>exact absurd a (Nat.not_lt.2 (CH (x.ev fr)))
 |mup ag ks m k v=>simp[CI.touch]at a
 |men ag ks z m k=>simp[CI.touch]at a
 |mst m i v=>simp[CI.touch]at a
 |box x=>simp[CI.touch]at a
 |s2o e x=>simp[CI.touch]at a
 |bxt t x=>simp[CI.touch]at a
 |clr sz z x=>simp[CI.touch]at a
 |bsl mu e sz n z ps=>simp[CI.touch]at a
 |mks mu e b z l c=>simp[CI.touch]at a
 |mkm ag=>simp[CI.touch]at a
 |nlr e sz=>simp[CI.touch]at a
 |_=>rfl
theorem Z0{ci:CI}(h:ci.sem fr s=some (d,s)){id:Nat}(f:ci.use fr=some id):id<s.length:=by
 have lt: ∀{x:aa},s[id]?=some x→id<s.length:=fun h=>(aR.1 h).1;cases ci with
 |ld n x=>
  obtain⟨hc,_⟩:=dw h;obtain⟨v,p,c⟩:=aH hc;simp only[CI.use,p,dF]at f;have t:fR s v=s[id]? :=by unfold fR;rw[f];rfl
  rw[t]at c;unfold lL at c;split at c
  ·cases f
  ·obtain⟨cs,a,_⟩:=aH c;exact lt (ra a)
  ·obtain⟨⟨sz,ds⟩,a,_⟩:=aH c;obtain⟨e,o,_⟩:=gU a;exact lt o
  ·cases c
 |iad sz x i=>
  obtain⟨hc,_⟩:=dw h;obtain⟨j,E,g⟩:=aH hc;obtain⟨v,p,c⟩:=aH g;simp only[CI.use,p,dF]at f;cases v with
  |vec q m u=>
   cases f;obtain⟨⟨w,ds⟩,a,_⟩:=aH c;obtain⟨e,o,_⟩:=gU a;exact lt o
  |vwn q N m n u=>
   cases f;obtain⟨⟨w,ds⟩,a,_⟩:=aH c;obtain⟨e,o,_⟩:=gU a;exact lt o
  |_=>cases f
 |slc sz x lo hi=>
  obtain⟨hc,_⟩:=dw h;obtain⟨v,p,g⟩:=aH hc;obtain⟨l,F,y⟩:=aH g;obtain⟨m,hm,c⟩:=aH y;simp only[CI.use,p,dF]at f;cases v with
  |vec q m u=>
   cases f;obtain⟨⟨w,ds⟩,a,_⟩:=aH c;obtain⟨e,o,_⟩:=gU a;exact lt o
  |vwn q N m n u=>
   cases f;obtain⟨⟨w,ds⟩,a,_⟩:=aH c;obtain⟨e,o,_⟩:=gU a;exact lt o
  |_=>cases f
 |len kd x=>
  obtain⟨hc,_⟩:=dw h;obtain⟨v,p,c⟩:=aH hc;by_cases B:kd=2
  ·subst B;simp only[CI.use,p,dF,if_true]at f;have t:fR s v=s[id]? :=by unfold fR;rw[f];rfl
   obtain⟨n,A,_⟩:=bz c;rw[t]at A;cases v with
   |mp q=>obtain⟨ag,es,r,_⟩:=Il (show tP s[id]?=some n from A);exact lt r
   |d x=>cases f
   |_=>simp[iW]at A
  ·simp[CI.use,B]at f
 |b2s x=>
  obtain⟨hc,_⟩:=dw h;obtain⟨v,p,c⟩:=aH hc;simp only[CI.use,p,dF]at f;have t:fR s v=s[id]? :=by unfold fR;rw[f];rfl
  obtain⟨b,hb,_⟩:=bz c;rw[t]at hb;unfold qx at hb;split at hb
  ·split at hb
   ·obtain⟨cs,a,_⟩:=aH hb;exact lt (ra a)
   ·cases hb
  ·split at hb
   ·obtain⟨⟨sz,ds⟩,a,_⟩:=aH hb;obtain⟨e,o,_⟩:=gU a;exact lt o
   ·cases hb
  ·obtain⟨rows,D,_⟩:=aH hb;have:=Ld D;cases v<;>simp[AV.hdl]at f<;>simp[AV.toL]at this
 |lkp ag ks z ok m k=>
  obtain⟨hc,_⟩:=dw h;obtain⟨key,C,g⟩:=aH hc;obtain⟨v,p,c⟩:=aH g;simp only[CI.use,p,dF]at f;have t:fR s v=s[id]? :=by unfold fR;rw[f];rfl
  rw[t]at c;unfold ud at c;split at c
  ·obtain⟨es,r,_⟩:=aH c;exact lt (vF r)
  ·cases f
  ·cases c
 |_=>cases f
theorem nJ(id:Nat)(s:List aa)(x:aa):qU id s (s.set id x):=⟨by simp,fun j a=>by rw[bs (Ne.symm a)]⟩
theorem XZ{ci:CI}(h:ci.sem fr s=some (d,s')){id:Nat}(f:ci.wr fr=some id):qU id s s':=by
 cases ci with
 |clr sz z x=>
  obtain⟨p,o,l⟩:=aH (show(x.ev fr).bind (sC s sz z)=some (d,s')from h);simp only[CI.wr,o,dF]at f;unfold sC at l;split at l
  ·cases f;obtain⟨_,_,c⟩:=aH l;split at c
   ·cases c;exact nJ ..
   ·cases c
  ·cases l
 |st n x v=>
  obtain⟨p,o,l⟩:=aH (show((x.ev fr).bind fun p=>((v.ev fr).bind AV.cells).bind fun vs=>qC s n vs p)=some (d,s')from h);obtain⟨vs,_,c⟩:=aH l;simp only[CI.wr,o,dF]at f;unfold qC at c;split at c
  ·cases f;obtain⟨cs,_,a⟩:=aH c;unfold putCells at a;split at a
   ·cases a;exact nJ ..
   ·cases a
  ·cases f;obtain⟨cs,_,a⟩:=aH c;unfold Bz at a;split at a
   ·cases a;exact nJ ..
   ·cases a
  ·cases c
 |app mu e sz b x y=>
  obtain⟨p,o,l⟩:=aH (show((x.ev fr).bind fun v=>(y.ev fr).bind fun u=>l6 s mu e sz b u v)=some (d,s')from h);obtain⟨u,_,c⟩:=aH l;simp only[CI.wr,o,dF]at f;unfold l6 at c;split at c
  ·cases f;obtain⟨us,_,a⟩:=aH c;obtain⟨p,_,g⟩:=aH a;split at g
   ·cases g;exact nJ ..
   ·cases g
  ·cases f
  ·cases f
  ·cases f;obtain⟨news,_,a⟩:=aH c;split at a
   ·cases a;exact nJ ..
   ·cases a
  ·cases f;obtain⟨us,_,a⟩:=aH c;obtain⟨p,_,g⟩:=aH a;split at g
   ·have w:=az g;split at w
    ·cases w;exact nJ ..
    ·cases w;exact nJ ..
   ·cases g
  ·cases c
 |mup ag ks m k v=>
  obtain⟨key,_,l⟩:=aH (show(((k.ev fr).bind (AV.keyK ag ks)).bind fun key=>(v.ev fr).bind fun u=>(m.ev fr).bind fun p=>oZ ag ks s key u p)=some (d,s')from h);obtain⟨u,_,c⟩:=aH l;obtain⟨p,o,a⟩:=aH c;simp only[CI.wr,o,dF]at f;unfold oZ at a;split at a
  ·cases f;obtain⟨es,_,g⟩:=aH a;obtain⟨r,_,t⟩:=bz g;cases t;exact nJ ..
  ·cases a
 |men ag ks z m k=>
  obtain⟨key,_,l⟩:=aH (show(((k.ev fr).bind (AV.keyK ag ks)).bind fun key=>(m.ev fr).bind fun p=>sD ag ks s key z p)=some (d,s')from h);obtain⟨p,o,a⟩:=aH l;simp only[CI.wr,o,dF]at f;unfold sD at a;split at a
  ·cases f;obtain⟨es,_,g⟩:=aH a;obtain⟨r,_,t⟩:=bz g;split at t<;>(cases t;exact nJ ..)
  ·cases a
 |mst m i v=>
  obtain⟨j,_,l⟩:=aH (show(((i.ev fr).bind AV.int?).bind fun j=>(v.ev fr).bind fun u=>(m.ev fr).bind fun p=>sE s j u p)=some (d,s')from h);obtain⟨u,_,c⟩:=aH l;obtain⟨p,o,a⟩:=aH c;simp only[CI.wr,o,dF]at f;unfold sE at a;split at a
  ·cases f;obtain⟨q,_,g⟩:=aH a;split at g
   ·obtain⟨r,_,t⟩:=bz g;cases t;exact nJ ..
   ·cases g
  ·cases a
 |_=>cases f
end
end Go.Bb
namespace Go.Bb
open Go Go.RowKit Go.Ab Go.Proofs.Lg
def lF(fr:Fr):Option (Option Nat×Bool)→Option Bool
 |none=>some true
 |some (none,_)=>some false
 |some (some t,want)=>match look fr t with
  |some (.d (.sc (.bool b)))=>some (b==want)
  |some (.d (.sc (.tuple _)))=>some false
  |_=>none
def GI(P:Program)(a:List Nat)(o:Oper):Option CI:=match ka P a o with
 |some ci=>some ci
 |none=>if eh o then some .bad else none
def tD(P:Program)(a:List Nat)(ops:Array Oper)(o:Oper):Option CO:=
 match GI P a o with
 |some ci=>some ⟨o.dst,match o.guard with
  |none=>none
  |some (j,want)=>some ((ops[j]?).bind (·.dst),want),ci⟩
 |none=>none
def jz(P:Program)(a:List Nat)(ops:Array Oper):List Oper→Option (List CO)
 |[]=>some []
 |o::l=>match tD P a ops o,jz P a ops l with
  |some c,some cs=>some (c::cs)
  |_,_=>none
def comp(P:Program)(e:List Nat)(N:Nat):Code→Option CC
 | .skip=>some .skip
 | .label _=>some .skip
 | .region _ ops g=>if ops.all (fun o=>match o.dst with|some d=>decide (d<N)|none=>true)&&(!g||(P.follows .mixedOrders&&si ops []))then
   (jz P e ops ops.toList).map fun l=> .ops g (if g then(Region.before ops).toList else[]) l else none
 | .seq a b=>match comp P e N a,comp P e N b with
  |some a,some b=>some (.seq a b)
  |_,_=>none
 | .cond c a b=>match cX P 0 c,comp P e N a,comp P e N b with
  |some c,some a,some b=>some (.cond c a b)
  |_,_,_=>none
 | .block id c=>(comp P e N c).map (.block id)
 | .loop c=>(comp P e N c).map .loop
 | .exit id=>some (.exit id)
 | .ret=>some .ret
 | .rangeFunc f ps a b=>match cX P 0 f,comp P e N a,comp P e N b with
  |some f,some a,some b=>if ps.all (fun t=>decide (t<N))then some (.rng N f ps.toList a b)else none
  |_,_,_=>none
 |_=>none
def CC.erase:CC→CC
 | .trim _ c=>c.erase
 | .seq a b=> .seq a.erase b.erase
 | .cond x a b=> .cond x a.erase b.erase
 | .block id c=> .block id c.erase
 | .loop c=> .loop c.erase
 | .rng n f ps a b=> .rng n f ps a.erase b.erase
 | .skip=> .skip
 | .ops e d l=> .ops e d l
 | .exit id=> .exit id
 | .ret=> .ret
def dx(P:Program):Nat→Code→CC→Prop:=fun N c cc=> ∃a,comp P a N c=some cc.erase
section
variable {P:Program} {N:Nat} {rd:Option Nat}
def Cz(P:Program)(N:Nat)(rd:Option Nat)(cc:CC)(fr:Fr)(s:List aa)(e:Exit)(fr':Fr)(a:List aa):Prop:=
 ∀c,dx P N c cc→iO (dx P) P N rd c fr s e fr' a
def AC(P:Program)(N:Nat)(rd:Option Nat)(cc:CC)(Q:Exit→Fr→List aa→Prop)(fr:Fr)(s:List aa):Prop:=
 ∃e fr' a,Q e fr' a∧Cz P N rd cc fr s e fr' a
structure aE(P:Program)(f:FuncId)(args:List D)(r:D):Prop where
 enters:Enters P f
 calls: ∀(I:Nat→Nat) (w:World) (vs:List Value),vs.length=args.length→(∀(i:Nat) (v:Value) (d:D),vs[i]?=some v→args[i]?=some d→RD I w v d)→GW w.heap.size w→
  Calls P f vs.toArray w fun e w'=> ∃v,e= .returned v∧RD (ff I w.heap.size w') w' v r∧Below w.heap.size w w'
def nM:List AV→Option (List D)
 |[]=>some []
 |x::l=>x.toD.bind fun d=>(nM l).map (d:: ·)
theorem Lz: ∀{xs:List AV} {ds:List D},nM xs=some ds→ds.length=xs.length∧ ∀(i:Nat) (d:D),ds[i]?=some d→ ∃x,xs[i]?=some x∧x.toD=some d
 |[],ds,h=>by simp[nM]at h;subst h;simp
 |x::xs,ds,h=>by
  obtain⟨d,f,c⟩:=aH (show(x.toD.bind fun d=>(nM xs).map (d:: ·))=some ds from h);obtain⟨b,e,rfl⟩:=bz c;obtain⟨g,j⟩:=Lz e;refine⟨by simp[g],fun i y a=> ?_⟩;cases i with
  |zero=>simp at a;subst a;exact⟨x,rfl,f⟩
  |succ i=>exact j i y (by simpa using a)
theorem aE.runs{g:Nat→Code→CC→Prop}{f:FuncId}{ds:List D}{r:D}(h:aE P f ds r){xs:List AV}(n:nM xs=some ds)(s:List aa):iy g P f xs s (.d r) s:=by
 refine⟨h.enters,fun B k w vs a b=> ?_⟩;obtain⟨o,p⟩:=Lz n;refine nT (h.calls k.I w vs (by rw[b.1,o]) (fun i v d c m=> ?_) (a.glob.mono a.base)) ?_
 ·obtain⟨x,j,l⟩:=p i d m;exact(b.2 i v x c j).toD l
 ·rintro e w' ⟨v,rfl,c,hb⟩;exact⟨v,⟨ff k.I w.heap.size w',k.own⟩,rfl,.d c,Ext.called a.base hb,a.called hb⟩
def pO(fr:Fr):wS→Option AV
 | .fn f=>some (.clo f [] [])
 | .val x=>x.ev fr
def aj(P:Program)(b:AV)(vs:List AV)(s:List aa)(K:AV→List aa→Nat→Prop):Prop:=
 (∃d,(∀s2,nS (dx P) P b vs s2 d s2)∧K d s 0)∨(∃d a,nS (dx P) P b vs s d a∧K d a 2)∨(∃d,(∀s2,fm s s2→nS (dx P) P b vs s2 d s2)∧K d s 1)∨(∃d xs,(∀s2,fm s s2→gr s2 s.length xs.length→nS (dx P) P b vs s2 d (fill s2 s.length xs))∧K d (s++xs) 3)∨(∃d a id,nS (dx P) P b vs s d a∧qU id s a∧K d a (5+2*id))
theorem aj.mono{f:AV}{vs:List AV}{s:List aa}{K e:AV→List aa→Nat→Prop}(h:aj P f vs s K)(c: ∀d s g,K d s g→e d s g):aj P f vs s e:=by
 rcases h with⟨d,a,b⟩|⟨d,s',a,b⟩|⟨d,a,b⟩|⟨d,xs,a,b⟩|⟨d,s',id,a,b,h3⟩
 ·exact .inl ⟨d,a,c _ _ _ b⟩
 ·exact .inr (.inl ⟨d,s',a,c _ _ _ b⟩)
 ·exact .inr (.inr (.inl ⟨d,a,c _ _ _ b⟩))
 ·exact .inr (.inr (.inr (.inl ⟨d,xs,a,c _ _ _ b⟩)))
 ·exact .inr (.inr (.inr (.inr ⟨d,s',id,a,b,c _ _ _ h3⟩)))
theorem aj.data{f:FuncId}{a cs vs:List AV}{s:List aa}{K:AV→List aa→Nat→Prop}{ds:List D}{r:D}(h:aE P f ds r)(b:nM (a++vs++cs)=some ds)(c:K (.d r) s 0):aj P (.clo f a cs) vs s K:=
 .inl ⟨_,fun s2=>h.runs b s2,c⟩
theorem aj.run{b:AV}{vs:List AV}{s:List aa}{K:AV→List aa→Nat→Prop}{d:AV}{a:List aa}(h:nS (dx P) P b vs s d a)(c:K d a 2):aj P b vs s K:= .inr (.inl ⟨d,a,h,c⟩)
theorem NO{fr:Fr}{c:wS}{d:AV}(hc:pO fr c=some d){o:Oper}{p:Operand}(e:(∃f,c= .fn f∧p= .func f)∨(∃x,c= .val x∧cX P 0 p=some x∧p∈o.op.operands)){k:aF}{w:World}{a:Act}(b:iM k w a o fr):RA k w (a.eval p) d:=by
 rcases e with⟨f,rfl,rfl⟩|⟨x,rfl,hx,hmem⟩
 ·obtain rfl:=az hc;exact .clo (us:=[]) (vs:=[]) rfl rfl (by simp) (by simp)
 ·exact bF b hmem hx hc
theorem GP{fz mu:Bool}{t:TypeId}{n:Nat}{g:List (Nat×Operand)}{ci:CI}(h:uY P fz mu t n g=some ci):(∃a b c d,ci= .bsf a b c d)∨(∃a b c d e f,ci= .bsl a b c d e f):=by
 unfold uY at h;split at h
 ·split at h
  ·split at h
   ·split at h
    ·obtain⟨j,_,i⟩:=db.1 h;cases fz with
     |true=>exact .inl ⟨_,_,_,_,i.symm⟩
     |false=>exact .inr ⟨_,_,_,_,_,_,i.symm⟩
    ·cases h
   ·cases h
  ·cases h
 ·cases h
theorem O2{i:List Nat}{o:Oper}{c:wS}{xs:List X}(h:ka P i o=some (.call c xs)):
  ∃p ps ts,o.op= .call {callee:= .value p,args:=ps,argTypes:=ts}∧gL P ts.toList ps.toList=some xs∧((∃f,c= .fn f∧p= .func f)∨(∃x,c= .val x∧cX P 0 p=some x∧p∈o.op.operands)):=by
 unfold ka at h;split at h
 all_goals first
  |(
   rename_i j d;obtain⟨callee,args,b⟩:=j;unfold xD at h;dsimp only at h;split at h
   ·unfold xI at h
    (repeat' split at h)<;>first|(cases h;done)|(injection h with h;cases h)
   ·unfold xB at h
    (repeat' split at h)<;>first|(cases h;done)|(injection h with h;cases h)
   ·unfold xE at h
    (repeat' split at h)<;>first|(cases h;done)|(injection h with h;cases h)
   ·unfold pT at h
    (repeat' split at h)<;>first|(cases h;done)|(injection h with h;cases h)
   ·unfold pT at h
    (repeat' split at h)<;>first|(cases h;done)|(injection h with h;cases h)
   ·rename_i g;obtain⟨y,e,a⟩:=db.1 h;injection a with e1 e2
    subst e1;subst e2;exact⟨.func g,args,b,d,e,.inl ⟨g,rfl,rfl⟩⟩
   ·rename_i p _;split at h
    ·rename_i x q k l;injection h with h
     injection h with e1 e2
     subst e1;subst e2;exact⟨p,args,b,d,l,.inr ⟨x,rfl,k,by rw[d];simp[Op.operands,Call.operands]⟩⟩
    ·cases h
   ·cases h)
  |(exfalso;obtain⟨y,e,a⟩:=db.1 h;first|(cases a;done)|(split at a<;>(cases a;done)))
  |(exfalso;unfold tB at h;(repeat' split at h)<;>first|(cases h;done)|(injection h with h;cases h;done)|(obtain⟨y,e,a⟩:=db.1 h;cases a;done))
  |(exfalso;unfold tA at h;(repeat' split at h)<;>first|(cases h;done)|(obtain⟨n,_,a⟩:=db.1 h;cases a;done))
  |(exfalso;have m:=GP h;rcases m with⟨_,_,_,_,a⟩|⟨_,_,_,_,_,_,a⟩<;>(cases a;done))
  |(exfalso;unfold uX at h;(repeat' split at h)<;>first|(cases h;done)|(injection h with h;cases h;done))
  |(exfalso;unfold xC at h;(repeat' split at h)<;>first|(cases h;done)|(injection h with h;cases h;done))
  |(exfalso;unfold xG at h;(repeat' split at h)<;>first|(cases h;done)|(injection h with h;cases h;done))
  |(exfalso;unfold xH at h;(repeat' split at h)<;>first|(cases h;done)|(injection h with h;cases h;done))
  |(exfalso;unfold uZ at h;(repeat' split at h)<;>first|(cases h;done)|(injection h with h;cases h;done))
  |(exfalso;unfold uW at h;(repeat' split at h)<;>first|(cases h;done)|(injection h with h;cases h;done)|(injection h with h;split at h<;>(cases h;done)))
  |(exfalso;unfold xJ at h;(repeat' split at h)<;>first|(cases h;done)|(injection h with h;cases h;done))
  |(exfalso;unfold tC at h;(repeat' split at h)<;>first|(cases h;done)|(injection h with h;cases h;done))
  |(exfalso;unfold xK at h;(repeat' split at h)<;>first|(cases h;done)|(injection h with h;cases h;done))
  |(exfalso;unfold xL at h;(repeat' split at h)<;>first|(cases h;done)|(injection h with h;cases h;done))
  |(exfalso;(repeat' split at h)<;>first|(cases h;done)|(obtain⟨n,_,a⟩:=db.1 h;first|(cases a;done)|(split at a<;>(cases a;done)))|(injection h with h;cases h))
theorem QK{E:Nat→Code→CC→Prop}{o:Oper}{fr:Fr}{s G:List aa}{d:AV}{p:Operand}{ps:Array Operand}{ts:Array TypeId}{xs:List X}{t:AV}{vs:List AV}(y:o.op= .call {callee:= .value p,args:=ps,argTypes:=ts})
  (hc: ∀(k:aF) (w:World) (a:Act),iM k w a o fr→RA k w (a.eval p) t) (K:gL P ts.toList ps.toList=some xs) (J:jb fr xs=some vs) (h:nS E P t vs s d G):bq E P o fr s d G:=by
 intro B k a w l n x r M;refine⟨fun f _=>qO r f,?_⟩;rw[uF,BX x];have c:eT k w (ps.toList.map a.eval) vs:=xX l K (fun q F=>by rw[y];simp only[Op.operands,Call.operands];simp at F⊢;exact .inr F) J;have m:=hc k w a l;have i:ps.map a.eval=(ps.toList.map a.eval).toArray:=by apply Array.ext';simp
 have j:(FW r).depth.isSome=true→1≤0:=fun h=>by rw[Cs]at h;cases h
 cases t with
 |clo f N cs=>
  obtain⟨us,D,u,H,I⟩:=m.clo_inv;have g:(execOp a.eval o).run P w= .ok (.enter f (us++ps.toList.map a.eval++D).toArray) w:=by
   unfold execOp;rw[y];simp only[resolve,u,Deferred.ofValue,bC,bX,bI,invoke];have:us.toArray++Array.map a.eval ps++D.toArray=(us++ps.toList.map a.eval++D).toArray:=by rw[i];simp
   rw[this];exact h.enters _ w
  rw[g,Oper.uponIn_enter];refine⟨j,CW (nT (h.calls B k w _ n ((H.append c).append I)) ?_)⟩;rintro e w' ⟨v,k',rfl,z,A,C⟩;exact⟨v,rfl,k',z,A,C⟩
 |yld id=>
  obtain⟨b,hb,u⟩:=m.yld_inv;obtain⟨fn,tmps,assign,body,L,hround⟩:=h B k w _ b n c hb;have g:(execOp a.eval o).run P w= .ok (.round b fn tmps assign body) w:=by
   unfold execOp;rw[y];simp only[resolve,u,Deferred.ofValue,bC,bX,bI,invoke,Array.empty_append];rw[i];exact L
  rw[g,Oper.uponIn_round];refine⟨j,XO (RoundIn.mono hround ?_)⟩;rintro e w' ⟨v,k',rfl,z,A,C⟩;exact⟨v,rfl,k',z,A,C⟩
 |_=>exact h.elim
def lf(b:Bool)(x y:Prop):Prop:=(b=false→x)∧(b=true→y)
theorem FJ(x y:Prop):lf true x y=y:=by simp[lf]
theorem FI(x y:Prop):lf false x y=x:=by simp[lf]
@[congr] theorem a0c (b a:Bool) (x y:Prop) (h:b=a):lf b x y=lf a x y:=by rw[h]
def bH(P:Program):List CO→(Fr→List aa→List Nat→Prop)→List Nat→Fr→List aa→Prop
 |[],K,acc,fr,s=>K fr s acc.reverse
 |o::l,K,acc,fr,s=>match lF fr o.g with
  |none=>False
  |some b=>lf b (bH P l K (0::acc) (cG fr o.dst lQ) s) (match o.ci with
   | .call c xs=>match pO fr c,jb fr xs with
    |some cv,some vs=>aj P cv vs s fun d a e=>bH P l K (e::acc) (cG fr o.dst d) a
    |_,_=>False
   |ci=>match ci.sem fr s with
    |some (d,a)=>bH P l K (ci.mark fr::acc) (cG fr o.dst d) a
    |none=>False)
theorem rj{a:List Nat}{ops:Array Oper}{o:Oper}{c:CO}(h:tD P a ops o=some c)(fr:Fr):lF fr c.g=gd ops fr o:=by
 unfold tD at h;split at h
 ·obtain rfl:=az h;unfold gd lF;cases hg:o.guard with
  |none=>rfl
  |some d=>
   obtain⟨j,b⟩:=d;dsimp only;cases e:(ops[j]?).bind (·.dst)with
   |none=>rfl
   |some t=>rfl
 ·cases h
theorem pU{a:List Nat}{ops:Array Oper}{o:Oper}{c:CO}(h:tD P a ops o=some c):(ka P a o=some c.ci∨(c.ci= .bad∧eh o=true))∧c.dst=o.dst:=by
 unfold tD at h;split at h
 ·rename_i ci hc;obtain rfl:=az h;refine⟨?_,rfl⟩;unfold GI at hc;split at hc
  ·rename_i d b;obtain rfl:=az hc;exact .inl b
  ·split at hc
   ·rename_i e;obtain rfl:=az hc;exact .inr ⟨rfl,e⟩
   ·cases hc
 ·cases h
theorem rh{a:List Nat}{ops:Array Oper}{l:List Oper}{c:CO}{cs:List CO}(h:jz P a ops l=some (c::cs)): ∃o l',l=o::l'∧tD P a ops o=some c∧jz P a ops l'=some cs:=by
 cases l with
 |nil=>simp[jz]at h
 |cons o l'=>
  unfold jz at h;split at h
  ·rename_i f b d e;cases h;exact⟨o,l',rfl,d,e⟩
  ·cases h
theorem O1{a:List Nat}{ops:Array Oper}{l:List Oper}(h:jz P a ops l=some []):l=[]:=by
 cases l with
 |nil=>rfl
 |cons o l'=>
  unfold jz at h;split at h
  ·cases h
  ·cases h
theorem LQ{v:AV}{id:Nat}(h:v.vecId=some id):v.hdl=some id:=by
 cases v<;>first|exact h|cases h
theorem YZ{B:List Nat}{o:Oper}{ci:CI}(h:ka P B o=some ci){fr:Fr}{id:Nat}(q:ci.use fr=some id): ∃p t x v,p∈o.op.operands∧cX P t p=some x∧x.ev fr=some v∧v.hdl=some id:=by
 have a: ∀{s:CI},s=ci→s.use fr=none→False:=fun e E=>by rw[e,q]at E;cases E
 unfold ka at h;split at h
 case h_4=>
  rename_i t x g;split at h
  ·rename_i n f u r;obtain rfl:=az h;obtain⟨v,j,b⟩:=aH (show(f.ev fr).bind AV.hdl=some id from q);exact⟨x,0,f,v,by rw[g];simp[Op.operands],r,j,b⟩
  ·cases h
 case h_7=>
  rename_i t x i g;unfold xG at h;split at h
  ·rename_i e f y u r A;split at h
   · obtain rfl:=az h;obtain⟨v,j,b⟩:=aH (show(f.ev fr).bind AV.vecId=some id from q);exact⟨x,0,f,v,by rw[g];simp[Op.operands],r,j,LQ b⟩
   · cases h
  ·split at h
   · obtain rfl:=az h;cases q
   · cases h
  ·cases h
 all_goals first
  |(
    rename_i t x lo hi mx g;unfold uZ at h;split at h
    · rename_i e f l r A D L M;split at h
      ·obtain rfl:=az h;obtain⟨v,j,b⟩:=aH (show(f.ev fr).bind AV.vecId=some id from q);exact⟨x,0,f,v,by rw[g];simp[Op.operands],D,j,LQ b⟩
      ·exfalso;split at h
       ·injection h with h;exact a h rfl
       ·cases h
      ·cases h
    all_goals(exfalso;(repeat' split at h)<;>first|(cases h;done)|(injection h with h;exact a h rfl)))
  |(
    rename_i t m k ok g;unfold xJ at h;split at h
    · split at h
      ·rename_i G k' ks z u r A D;obtain rfl:=az h;obtain⟨v,j,b⟩:=aH (show(G.ev fr).bind AV.hdl=some id from q);exact⟨m,t,G,v,by rw[g];simp[Op.operands],u,j,b⟩
      ·cases h
    · cases h)
  |(
    rename_i c g;obtain⟨callee,args,w⟩:=c;obtain⟨args⟩:=args;obtain⟨w⟩:=w;unfold xD at h;dsimp only at h;split at h
    · unfold xI at h;split at h
      ·split at h
       ·obtain rfl:=az h;simp[CI.use]at q
       ·obtain rfl:=az h;simp[CI.use]at q
       ·rename_i p t I J k e f u r;obtain rfl:=az h;obtain⟨v,j,b⟩:=aH (show(f.ev fr).bind AV.hdl=some id from q);exact⟨p,t,f,v,by rw[g];simp[Op.operands,Call.operands],r,j,b⟩
       ·cases h
      ·cases h
    · exfalso;unfold xB at h
      (repeat' split at h)<;>first|(cases h;done)|(injection h with h;exact a h rfl)
    · exfalso;unfold xE at h
      (repeat' split at h)<;>first|(cases h;done)|(injection h with h;exact a h rfl)
    · exfalso;unfold pT at h
      (repeat' split at h)<;>first|(cases h;done)|(injection h with h;exact a h rfl)
    · exfalso;unfold pT at h
      (repeat' split at h)<;>first|(cases h;done)|(injection h with h;exact a h rfl)
    · exfalso;obtain⟨y,F,d⟩:=db.1 h;exact a d rfl
    · exfalso;split at h
      ·injection h with h;exact a h rfl
      ·cases h
    · cases h)
  |(
    rename_i C dst x g;unfold uW at h;split at h
    · exfalso;injection h with h;exact a h rfl
    · exfalso;split at h
      ·injection h with h
       split at h<;>exact a h rfl
      ·cases h
    · rename_i e f u r A;split at h
      ·obtain rfl:=az h;obtain⟨v,j,b⟩:=aH (show(f.ev fr).bind AV.hdl=some id from q);exact⟨x,C,f,v,by rw[g];simp[Op.operands],A,j,b⟩
      ·cases h
    · cases h)
  |(exfalso;obtain⟨y,F,d⟩:=db.1 h;first|exact a d rfl|(split at d<;>exact a d rfl))
  |(exfalso;unfold tB at h;(repeat' split at h)<;>first|(exact a (az h) rfl)|(obtain⟨y,F,d⟩:=db.1 h;exact a d rfl))
  |(exfalso;unfold tA at h;(repeat' split at h)<;>first|(cases h;done)|(obtain⟨K,_,d⟩:=db.1 h;exact a d rfl))
  |(exfalso;have H:=GP h;rcases H with⟨_,_,_,_,d⟩|⟨_,_,_,_,_,_,d⟩<;>exact a d.symm rfl)
  |(exfalso;unfold uX at h;(repeat' split at h)<;>first|(cases h;done)|(injection h with h;exact a h rfl))
  |(exfalso;unfold xC at h;(repeat' split at h)<;>first|(cases h;done)|(injection h with h;exact a h rfl))
  |(exfalso;unfold xH at h;(repeat' split at h)<;>first|(cases h;done)|(injection h with h;exact a h rfl))
  |(exfalso;unfold uZ at h;(repeat' split at h)<;>first|(cases h;done)|(injection h with h;exact a h rfl))
  |(exfalso;unfold uW at h;(repeat' split at h)<;>first|(cases h;done)|(injection h with h;exact a h rfl))
  |(exfalso;unfold tC at h;(repeat' split at h)<;>first|(cases h;done)|(injection h with h;exact a h rfl))
  |(exfalso;unfold xK at h;(repeat' split at h)<;>first|(cases h;done)|(injection h with h;exact a h rfl))
  |(exfalso;unfold xL at h;(repeat' split at h)<;>first|(cases h;done)|(injection h with h;exact a h rfl))
  |(exfalso;(repeat' split at h)<;>first|(cases h;done)|(obtain⟨K,_,d⟩:=db.1 h;exact a d rfl)|(injection h with h;exact a h rfl))
theorem TR{l:Nat→Code→CC→Prop}{j:List Nat}{o:Oper}{ci:CI}(hc:ka P j o=some ci){fr:Fr}{s:List aa}{d:AV}(h:ci.sem fr s=some (d,s))(A:ci.touch fr=1){id:Nat}(f:ci.use fr=some id)(s2:List aa)(ha:mN id s s2):bq l P o fr s2 d s2:=by
 have i:=Z0 h f;intro B k a w c g;obtain⟨p,t,x,v,m,n,q,r⟩:=YZ hc f;obtain⟨y,z⟩:=(bF c m n q).no_hole g r;rcases ha i y with e|e
 ·exact xM hc (L6 h a8 fun u b=>by rw[f]at b;cases b;exact e) B k a w c g
 ·exact absurd e z
end
end Go.Bb
namespace Go.Bb
open Go Go.RowKit Go.Ab Go.Proofs.Lg
section
variable {P:Program} {N:Nat} {rd:Option Nat}
theorem pe: ∀{cs:List CO} {fr:Fr} {s:List aa} {K:Fr→List aa→List Nat→Prop} {D:List Nat},bH P cs K D fr s→
  ∃q fr' n,K fr' n (D.reverse++q)∧ ∀(i:List Nat) (ops:Array Oper) (l:List Oper),jz P i ops l=some cs→fY (dx P) P ops l fr s q fr' n
 |[],fr,s,K,D,hw=>⟨[],fr,s,by simpa[bH]using hw,fun i ops l v=>by obtain rfl:=O1 v;exact .nil fr s⟩
 |c::cs,fr,s,K,D,hw=>by
  unfold bH at hw;cases hg:lF fr c.g with
  |none=>rw[hg]at hw;exact hw.elim
  |some b=>
   rw[hg]at hw;obtain⟨X,Y⟩:=hw;cases b with
   |false=>
    obtain⟨q,fr',n,A,ha⟩:=pe (X rfl);refine⟨0::q,fr',n,by simpa using A,fun i ops l v=> ?_⟩;obtain⟨o,l',rfl,t,z⟩:=rh v;obtain⟨e,j⟩:=pU t;have f:=ha i ops l' z;rw[j]at f;exact .skip o l' fr s q fr' n (by rw[←rj t];exact hg) f
   |true=>
    have H:=Y rfl;split at H
    ·rename_i Z xs r;split at H
     ·rename_i R vs N Q;have M: ∀(i:List Nat) (o:Oper),ka P i o=some c.ci→ ∀{s n:List aa} {d:AV},nS (dx P) P R vs s d n→bq (dx P) P o fr s d n:=fun i o e s n d C=>by
       rw[r]at e;obtain⟨p,ps,ts,U,W,V⟩:=O2 e;exact QK U (fun k w a J=>NO N V J) W Q C
      rcases H with⟨d,C,A⟩|⟨d,I,C,A⟩|⟨d,C,A⟩|⟨d,xs',C,A⟩|⟨d,I,id,C,hset,A⟩
      ·obtain⟨q,fr',n,u,ha⟩:=pe A;refine⟨0::q,fr',n,by simpa using u,fun i ops l v=> ?_⟩;obtain⟨o,l',rfl,t,z⟩:=rh v;obtain⟨e,j⟩:=pU t;replace e:=e.resolve_right fun h=>by rw[r]at h;cases h.1
       have f:=ha i ops l' z;rw[j]at f;exact .free o l' fr s _ q fr' n (by rw[←rj t];exact hg) (fun s2=>M i o e (C s2)) f
      ·obtain⟨q,fr',n,u,ha⟩:=pe A;refine⟨2::q,fr',n,by simpa using u,fun i ops l v=> ?_⟩;obtain⟨o,l',rfl,t,z⟩:=rh v;obtain⟨e,j⟩:=pU t;replace e:=e.resolve_right fun h=>by rw[r]at h;cases h.1
       have f:=ha i ops l' z;rw[j]at f;exact .eff o l' fr s d I q fr' n (by rw[←rj t];exact hg) (M i o e C) f
      ·obtain⟨q,fr',n,u,ha⟩:=pe A;refine⟨1::q,fr',n,by simpa using u,fun i ops l v=> ?_⟩;obtain⟨o,l',rfl,t,z⟩:=rh v;obtain⟨e,j⟩:=pU t;replace e:=e.resolve_right fun h=>by rw[r]at h;cases h.1
       have f:=ha i ops l' z;rw[j]at f;exact .reads o l' fr s d q fr' n (by rw[←rj t];exact hg) (fun s2 E=>M i o e (C s2 E)) f
      ·obtain⟨q,fr',n,u,ha⟩:=pe A;refine⟨3::q,fr',n,by simpa using u,fun i ops l v=> ?_⟩;obtain⟨o,l',rfl,t,z⟩:=rh v;obtain⟨e,j⟩:=pU t;replace e:=e.resolve_right fun h=>by rw[r]at h;cases h.1
       have f:=ha i ops l' z;rw[j]at f;exact .make o l' fr s d xs' q fr' n (by rw[←rj t];exact hg) (fun s2 E T=>M i o e (C s2 E T)) f
      ·obtain⟨q,fr',n,u,ha⟩:=pe A;refine⟨(5+2*id)::q,fr',n,by simpa using u,fun i ops l v=> ?_⟩;obtain⟨o,l',rfl,t,z⟩:=rh v;obtain⟨e,j⟩:=pU t;replace e:=e.resolve_right fun h=>by rw[r]at h;cases h.1
       have f:=ha i ops l' z;rw[j]at f;exact .effAt id o l' fr s d I q fr' n (by rw[←rj t];exact hg) (M i o e C) hset f
     ·exact H.elim
    ·split at H
     ·rename_i d I m;obtain⟨q,fr',n,A,ha⟩:=pe H;have y:c.ci.touch fr=0∨c.ci.touch fr=1∨c.ci.touch fr=2∨c.ci.touch fr=3:=by
       rcases Nat.lt_or_ge (c.ci.touch fr) 2 with h|h
       ·omega
       ·have:c.ci.touch fr≤3:=by
         generalize c.ci=ci;cases ci<;>simp only[CI.touch]<;>first|exact N6 _|(split<;>omega)|omega
        omega
      refine⟨c.ci.mark fr::q,fr',n,by simpa using A,fun i ops l v=> ?_⟩;obtain⟨o,l',rfl,t,z⟩:=rh v;obtain⟨e,j⟩:=pU t;replace e:=e.resolve_right fun h=>by rw[h.1]at m;cases m
      have f:=ha i ops l' z;rw[j]at f;have B:gd ops fr o=some true:=by rw[←rj t];exact hg
      rcases y with y|y|y|y
      ·have:=L7 m a8;subst this;have hm:c.ci.mark fr=0:=by unfold CI.mark sb;rw[y];rfl
       rw[hm];refine .free o l' fr _ d q fr' n B (fun s2=>xM e (L6 m a8 fun id O=> ?_)) f;have L:=LD (fr:=fr) (ci:=c.ci) a8;rw[O,y]at L;cases L
      ·have:=L7 m a8;subst this;have L:=LD (fr:=fr) (ci:=c.ci) a8;cases F:c.ci.use fr with
       |none=>rw[F,y]at L;cases L
       |some id=>
        have hm:c.ci.mark fr=4+2*id:=by unfold CI.mark sb;rw[y,F];rfl
        rw[hm];exact .readsAt id o l' fr _ d q fr' n B (TR e m y F) f
      ·cases G:c.ci.wr fr with
       |none=>
        have hm:c.ci.mark fr=2:=by unfold CI.mark sb;rw[y,G];rfl
        rw[hm];exact .eff o l' fr s d I q fr' n B (xM e m) f
       |some id=>
        have hm:c.ci.mark fr=5+2*id:=by unfold CI.mark sb;rw[y,G];rfl
        rw[hm];exact .effAt id o l' fr s d I q fr' n B (xM e m) (XZ m G) f
      ·obtain⟨x,rfl,S⟩:=O3 e m y;have hm:c.ci.mark fr=3:=by unfold CI.mark sb;rw[y];rfl
       rw[hm];exact .make o l' fr s d x q fr' n B S f
     ·exact H.elim
def sj(b:List Nat)(a:List Nat):Bool:=
 (List.range a.length).all fun j=>a.getD j 0==0||(List.range j).all fun i=> !ec (a.getD i 0) (a.getD j 0)||(b.getD j 0).testBit i
theorem TW{ops:Array Oper}{b:List Nat}(h0:si ops []=true)(k:b.length=ops.size)(h:sj (Region.before ops).toList b=true):lp ops (th (Region.before ops)) (fun i=>b.getD i 0):=by
 have e:=TV h0;refine⟨e.back,e.up,e.names,fun i j f l g=> ?_⟩;unfold sj at h;simp only[iA,ju]at h;have c:=h j a8;simp only[jN,iA,ju,beq_iff_eq]at c;rcases c with c|c
 ·exfalso;have a:ec (b.getD i 0) (b.getD j 0)=true:=g;rw[c]at a;simp[ec,dt,eM,kV]at a
 ·rcases c i f with d|d
  ·have a:ec (b.getD i 0) (b.getD j 0)=true:=g;rw[a]at d;cases d
  ·unfold th;have:(Region.before ops).toList.getD j 0=(Region.before ops).getD j 0:=by simp[List.getD_eq_getElem?_getD,pj]
   rw[←this];exact d
def coarse(x:Nat):Nat:=if x<4 then x else if x % 2=0 then 1 else 2
theorem pS(b:Nat):coarse (4+2*b)=1:=by unfold coarse;rw[if_neg a8,if_pos a8]
theorem n0(b:Nat):coarse (5+2*b)=2:=by unfold coarse;rw[if_neg a8,if_neg a8]
theorem O8{a b:Nat}(h:ec a b=true):ec (coarse a) (coarse b)=true:=by
 have cs: ∀x,(x<4∧coarse x=x)∨(∃c,x=4+2*c)∨ ∃c,x=5+2*c:=fun x=>by
  by_cases h:x<4
  ·exact .inl ⟨h,if_pos h⟩
  ·by_cases i:x % 2=0
   ·exact .inr (.inl ⟨(x-4)/2,by omega⟩)
   ·exact .inr (.inr ⟨(x-5)/2,by omega⟩)
 have d: ∀x,x<4→x=0∨x=1∨x=2∨x=3:=fun x h=>by omega
 rcases cs a with⟨ha,f⟩|⟨c,f⟩|⟨c,f⟩<;>rcases cs b with⟨hb,g⟩|⟨e,g⟩|⟨e,g⟩
 ·rw[f,g];exact h
 ·subst g;rw[f,pS];rcases d a ha with rfl|rfl|rfl|rfl<;>simp[ec,dt,eM,kV]at h⊢ <;>omega
 ·subst g;rw[f,n0];rcases d a ha with rfl|rfl|rfl|rfl<;>simp[ec,dt,eM,kV]at h⊢ <;>omega
 ·subst f;rw[g,pS];rcases d b hb with rfl|rfl|rfl|rfl<;>simp[ec,dt,eM,kV]at h⊢ <;>omega
 ·subst f;subst g;exfalso;unfold ec dt eM kV at h;simp at h;omega
 ·subst f;subst g;rw[pS,n0];rfl
 ·subst f;rw[g,n0];rcases d b hb with rfl|rfl|rfl|rfl<;>simp[ec,dt,eM,kV]at h⊢ <;>omega
 ·subst f;subst g;rw[pS,n0];rfl
 ·subst f;subst g;rw[n0,n0];rfl
theorem Bt{c a:List Nat}(h:sj c (a.map coarse)=true):sj c a=true:=by
 unfold sj at h⊢;rw[aL]at h;have e: ∀i,(a.map coarse).getD i 0=coarse (a.getD i 0):=fun i=>by
  simp only[List.getD_eq_getElem?_getD,cC];cases a[i]? <;>rfl
 simp only[iA,ju,jN,beq_iff_eq,uD,e]at h⊢;intro j d;rcases h j d with b|b
 ·left;unfold coarse at b;split at b
  ·exact b
  ·split at b<;>cases b
 ·refine .inr fun i hi=> ?_;rcases b i hi with h2|h2
  ·left;cases hc:ec (a.getD i 0) (a.getD j 0)with
   |false=>rfl
   |true=>have:=O8 hc;rw[h2]at this;cases this
  ·exact .inr h2
theorem FC{u:Nat→Code→CC→Prop}{ops:Array Oper}{B:Nat}{D:List Deferred}{r:Option Nat}{l:List Oper}{fr:Fr}{s:List aa}{y:List Nat}{fr':Fr}{q:List aa}(h:fY u P ops l fr s y fr' q){Q:Exit→Fr→List aa→Prop}(z:Q .normal fr' q)
  (n: ∀o∈l,∀d,o.dst=some d→d<N) (e: ∀o∈l,eh o=true) {A:aF} {C:World}: ∀(k:aF) (a:Act) (w:World),a.tmps.size=N→a.defers=D→FR k w a fr→St u B k s w→Ext B A C k w→
  wpListIn (FW r) 0 P ops (pD u B N D A C Q) l a w:=by
 have step: ∀{o:Oper} {rest:List Oper} {fr:Fr} {s:List aa} {d:AV} {F:List aa} {k:aF} {a:Act} {w:World},gd ops fr o=some true→bq u P o fr s d F→eh o=true→(∀d,o.dst=some d→d<N)→
   (∀(k:aF) (a:Act) (w:World),a.tmps.size=N→a.defers=D→FR k w a (cG fr o.dst d)→St u B k F w→Ext B A C k w→wpListIn (FW r) 0 P ops (pD u B N D A C Q) rest a w)→
   a.tmps.size=N→a.defers=D→FR k w a fr→St u B k s w→Ext B A C k w→wpListIn (FW r) 0 P ops (pD u B N D A C Q) (o::rest) a w:=fun hg c e n p ha i g m j=>by
  refine wpListIn_step fun K G=> ?_;rw[if_pos (yf hg fun t x _ I=>g t x I)];refine Oper.wpIn_mono ?_ (c B _ _ _ (g.ops _) m e r _);rintro _ w' ⟨v,rfl,k',J,E,H⟩;exact G _ _ (p k' _ w' (by rw[lH,ha]) (by rw[oT,i]) ((g.mono E.mono).put J (by rw[ha];exact n)) H (j.trans E))
 induction h with
 |nil fr s=>exact fun k a w ha i g m j=>⟨fr,s,k,z,ha,i,j,g,m⟩
 |skip o rest fr s y fr' q hg _ p=>
  intro k a w ha i g m j;refine wpListIn_step fun K G=> ?_;rw[if_neg (by rw[yf hg fun t x _ I=>g t x I];simp)];exact⟨fun f _=>qO r f,G _ _ (p z (fun o c=>n o (by simp[c])) (fun o c=>e o (by simp[c])) k _ w (by rw[lH,ha]) (by rw[oT,i]) (g.put RA.undf (by rw[ha];exact n o (by simp))) m j)⟩
 |free o rest fr s d y fr' q hg c _ p=>
  intro k a w ha i g m j;exact step hg (c s) (e o (by simp)) (n o (by simp)) (p z (fun o c=>n o (by simp[c])) (fun o c=>e o (by simp[c]))) ha i g m j
 |reads o rest fr s d y fr' q hg c _ p=>
  intro k a w ha i g m j;exact step hg (c s (fm.refl s)) (e o (by simp)) (n o (by simp)) (p z (fun o c=>n o (by simp[c])) (fun o c=>e o (by simp[c]))) ha i g m j
 |readsAt b o rest fr s d y fr' q hg c _ p=>
  intro k a w ha i g m j;exact step hg (c s (mN.refl b s)) (e o (by simp)) (n o (by simp)) (p z (fun o c=>n o (by simp[c])) (fun o c=>e o (by simp[c]))) ha i g m j
 |effAt b o rest fr s d F y fr' q hg c _ _ p=>
  intro k a w ha i g m j;exact step hg c (e o (by simp)) (n o (by simp)) (p z (fun o c=>n o (by simp[c])) (fun o c=>e o (by simp[c]))) ha i g m j
 |make o rest fr s d x y fr' q hg c _ p=>
  intro k a w ha i g m j;exact step hg (by have:=c s (fm.refl s) (gr.end' s _);rw[tH]at this;exact this) (e o (by simp)) (n o (by simp)) (p z (fun o c=>n o (by simp[c])) (fun o c=>e o (by simp[c]))) ha i g m j
 |eff o rest fr s d F y fr' q hg c _ p=>
  intro k a w ha i g m j;exact step hg c (e o (by simp)) (n o (by simp)) (p z (fun o c=>n o (by simp[c])) (fun o c=>e o (by simp[c]))) ha i g m j
def pB(b:Bool)(a:List Nat)(Q:Exit→Fr→List aa→Prop)(fr:Fr)(s:List aa)(c:List Nat):Prop:=(b=true→sj a c=true)∧Q .normal fr s
theorem O4{a:List Nat}{o:Oper}{ci:CI}(h:ka P a o=some ci):eh o=true:=by
 unfold eh;split
 ·rename_i c b;unfold ka at h;rw[b]at h;cases h
 ·rfl
theorem GN{b:List Nat}{ops:Array Oper}: ∀{l:List Oper} {cs:List CO},jz P b ops l=some cs→ ∀o∈l,eh o=true
 |[],_,_,o,a=>by cases a
 |o'::l,cs,h,o,a=>by
  unfold jz at h;split at h
  ·rename_i c d e f;rcases bY.1 a with rfl|a
   ·rcases(pU e).1 with h3|h3
    ·exact O4 h3
    ·exact h3.2
   ·exact GN f o a
  ·cases h
theorem AC.ops{J:Bool}{I:List Nat}{cs:List CO}{Q:Exit→Fr→List aa→Prop}{fr:Fr}{s:List aa}(h:bH P cs (pB J I Q) [] fr s):AC P N rd (.ops J I cs) Q fr s:=by
 obtain⟨W,fr',G,U,ha⟩:=pe h;rw[List.reverse_nil,bn]at U;obtain⟨O,X⟩:=U;refine⟨.normal,fr',G,X,?_⟩;rintro c ⟨F,hc⟩;replace hc:comp P F N c=some (.ops J I cs):=hc;cases c with
 |region id ops K=>
  unfold comp at hc;split at hc
  ·rename_i n;obtain⟨l,V,C⟩:=bz hc;injection C with e1 e2 e3
   subst e1;subst e3;have S:=ha F ops ops.toList V;have E: ∀o∈ops,eh o=true:=fun o m=>GN V o (by simpa using m);simp only[eI,jN,uD]at n;have z: ∀o∈ops,∀d,o.dst=some d→d<N:=fun o m d A=>by
    have:=qL.1 n.1 o m;simpa[A]using this
   intro B k a w r h0 L M R;have v: ∀(e:Exit) (H:Act) (w':World),pD (dx P) B N a.defers k w (fun e fr s=>e= .normal∧fr=fr'∧s=G) e H w'→Ends (dx P) N B k a.defers w .normal fr' G e H w':=by
    rintro e H w' ⟨_,_,k',⟨rfl,rfl,rfl⟩,q1,q2,q3,q4,q5⟩;exact⟨rfl,k',q1,Marks.same q2,q3,q4,q5⟩
   cases K with
   |false=>exact wpIn_mono (wpIn_region_list (FC (Q:=fun e fr s=>e= .normal∧fr=fr'∧s=G) S ⟨rfl,rfl,rfl⟩ (fun o m=>z o (by simpa using m)) (fun o m=>E o (by simpa using m)) k a w L rfl M R (Ext.refl B k w))) v
   |true=>
    obtain⟨hm,m⟩:=n.2.resolve_left (by simp);simp only[if_true]at e2;subst e2;refine wpIn_mono (wpIn_region_any hm ?_) v;obtain⟨y,ss,ds,wt,t1,t2,t3,t4,t5,p,t7⟩:=YM S;have g: ∀(i:Nat) (o:Oper),ops[i]?=some o→ops.toList[i]?=some o:=fun i o m=>by simpa using m
    have Y:mg (dx P) P ops y ss ds wt (fun i=>W.getD i 0):=by
     have u: ∀(i:Nat) (hi:i<ops.size),ops.toList[i]?=some ops[i]:=fun i hi=>g i _ (jL hi);exact{
      guard:=fun i o m=>(p i o (g i o m)).1
      next:=fun i o m=>(p i o (g i o m)).2.1
      skip:=fun i o m=>(p i o (g i o m)).2.2.1
      free:=fun i o m=>(p i o (g i o m)).2.2.2.1
      step:=fun i o m=>(p i o (g i o m)).2.2.2.2.1
      reads:=fun i o m=>(p i o (g i o m)).2.2.2.2.2.2.1
      readsAt:=fun b i o m=>(p i o (g i o m)).2.2.2.2.2.2.2.2.1 b
      make:=fun i o m D=>(p i o (g i o m)).2.2.2.2.2.2.2.1 D
      setAt:=fun b i hi D=>(p i _ (u i hi)).2.2.2.2.2.2.2.2.2 b D
      still:=fun i hi D=>(p i _ (u i hi)).2.2.2.2.2.1 D
      off:=t7}
    subst t1;subst t2;subst t3;subst t4;have hz:(Array.replicate ops.size false).size=ops.size:=by simp
    have q: ∀i,(Array.replicate ops.size false).getD i false=false:=fun i=>by
     rw[pj,Array.getElem?_replicate];split<;>rfl
    refine XF Y (TW m (by simpa using t5) (O rfl)) z E (Q:=fun e fr s=>e= .normal∧fr=_∧s=_) ⟨rfl,by simp,by simp⟩ ops.size (Array.replicate ops.size false) (List.range ops.size) k a _ (by simp) (fun i hi _=>by simpa using hi) ?_
    refine⟨hz,fun j T=>(by rw[q]at T;cases T),L,rfl,Ext.drew B k w,fun t x Z=> ?_,0,0,_,bh _,by omega,fun i hi=>by omega,fun i _ _ _=>q i,fun i L M=>by omega,lj.refl ..,R.drew⟩;refine(FR.mono (Ext.drew B k w).mono M) t x ?_;rw[←Z,Fy (ops:=ops) ds (y 0) _ t 0 ops.size a8 fun i _ _ _=>q i];rfl
  ·cases hc
 |seq a b=>unfold comp at hc;split at hc<;>cases hc
 |cond c a b=>unfold comp at hc;split at hc<;>cases hc
 |block id c=>unfold comp at hc;obtain⟨_,_,C⟩:=bz hc;cases C
 |loop c=>unfold comp at hc;obtain⟨_,_,C⟩:=bz hc;cases C
 |rangeFunc f ps a b=>
  unfold comp at hc;split at hc
  ·split at hc<;>cases hc
  ·cases hc
 |_=>cases hc
end
end Go.Bb
namespace Go.Bb
open Go Go.RowKit Go.Ab Go.Proofs.Lg
section
variable {P:Program} {N:Nat} {rd:Option Nat} {Q:Exit→Fr→List aa→Prop} {fr:Fr} {s:List aa}
theorem AC.mono{cc:CC}{a:Exit→Fr→List aa→Prop}(h:AC P N rd cc Q fr s)(b: ∀e fr s,Q e fr s→a e fr s):AC P N rd cc a fr s:=
 let⟨e,fr',d,q,c⟩:=h;⟨e,fr',d,b _ _ _ q,c⟩
theorem AC.frame{cc:CC}{fr0:Fr}(h:AC P N rd cc Q fr0 s)(a: ∀t x,look fr0 t=some x→look fr t=some x):AC P N rd cc Q fr s:=
 let⟨e,fr',d,q,b⟩:=h;⟨e,fr',d,q,fun c hc=>(b c hc).frame a⟩
theorem oz{d:List Nat}{c:Code}{cc:CC}(h:comp P d N c=some cc):match cc with
  | .skip=>c= .skip∨ ∃l,c= .label l
  | .seq x y=> ∃a b,c= .seq a b∧comp P d N a=some x∧comp P d N b=some y
  | .cond p x y=> ∃q a b,c= .cond q a b∧cX P 0 q=some p∧comp P d N a=some x∧comp P d N b=some y
  | .block id x=> ∃a,c= .block id a∧comp P d N a=some x
  | .loop x=> ∃a,c= .loop a∧comp P d N a=some x
  | .exit id=>c= .exit id
  | .ret=>c= .ret
  | .rng n f ps x y=>n=N∧ ∃g m a b,c= .rangeFunc g m a b∧cX P 0 g=some f∧m.toList=ps∧comp P d N a=some x∧comp P d N b=some y∧m.all (fun t=>decide (t<N))=true
  | .ops _ _ _=>True
  | .trim _ _=>True:=by
 cases c with
 |skip=>simp[comp]at h;subst h;exact .inl rfl
 |label l=>simp[comp]at h;subst h;exact .inr ⟨l,rfl⟩
 |region id ops r=>
  unfold comp at h;split at h
  ·obtain⟨l,_,rfl⟩:=bz h;trivial
  ·cases h
 |seq a b=>
  unfold comp at h;split at h
  ·rename_i x y e i;obtain rfl:=az h;exact⟨a,b,rfl,e,i⟩
  ·cases h
 |cond p a b=>
  unfold comp at h;split at h
  ·rename_i u x y e i j;obtain rfl:=az h;exact⟨p,a,b,rfl,e,i,j⟩
  ·cases h
 |block id a=>unfold comp at h;obtain⟨x,k,rfl⟩:=bz h;exact⟨a,rfl,k⟩
 |loop a=>unfold comp at h;obtain⟨x,k,rfl⟩:=bz h;exact⟨a,rfl,k⟩
 |exit id=>simp[comp]at h;subst h;rfl
 |ret=>simp[comp]at h;subst h;rfl
 |rangeFunc f ps a b=>
  unfold comp at h;split at h
  ·rename_i s x y e i j;split at h
   ·rename_i o;obtain rfl:=az h;exact⟨rfl,f,ps,a,b,rfl,e,rfl,i,j,o⟩
   ·cases h
  ·cases h
 |scope a=>simp[comp]at h
 |goto l=>simp[comp]at h
 |refuse w=>simp[comp]at h
theorem AC.skip(h:Q .normal fr s):AC P N rd .skip Q fr s:=⟨_,_,_,h,fun c ⟨e,hc⟩=>by
 rcases oz hc with rfl|⟨l,rfl⟩
 ·exact fun _ _ _ _ _ _ a b d=>wpIn_skip (Ends.now a b d)
 ·exact fun _ _ _ _ _ _ a b d=>wpIn_label (Ends.now a b d)⟩
theorem AC.exit{id:Nat}(h:Q (.exit id) fr s):AC P N rd (.exit id) Q fr s:=⟨_,_,_,h,fun c ⟨e,hc⟩=>by
 obtain rfl:c= .exit id:=oz hc;exact fun _ _ _ _ _ _ a b d=>wpIn_exit (Ends.now a b d)⟩
theorem AC.ret(h:Q .ret fr s):AC P N rd .ret Q fr s:=⟨_,_,_,h,fun c ⟨e,hc⟩=>by
 obtain rfl:c= .ret:=oz hc;exact fun _ _ _ _ _ _ a b d=>wpIn_ret (Ends.now a b d)⟩
theorem AC.seq{x y:CC}(h:AC P N rd x (fp (AC P N rd y Q) Q) fr s):AC P N rd (.seq x y) Q fr s:=by
 obtain⟨e,f,o,j,k⟩:=h;by_cases i:e= .normal
 ·subst i;obtain⟨l,g,s2,m,n⟩:=j;refine⟨l,g,s2,m,fun c ⟨d,hc⟩=> ?_⟩;obtain⟨a,b,rfl,ha,hb⟩:=oz hc;exact(k a ⟨d,ha⟩).seq (n b ⟨d,hb⟩)
 ·refine⟨e,f,o,?_,fun c ⟨d,hc⟩=> ?_⟩
  ·cases e with
   |normal=>exact absurd rfl i
   |_=>exact j
  ·obtain⟨a,b,rfl,ha,hb⟩:=oz hc;exact(k a ⟨d,ha⟩).seqX i
theorem AC.cond{p:X}{x y:CC}{v:Bool}(D:(p.ev fr).bind AV.bool? =some v)(h:AC P N rd (if v then x else y) Q fr s):AC P N rd (.cond p x y) Q fr s:=by
 obtain⟨e,g,F,E,z⟩:=h;refine⟨e,g,F,E,fun c ⟨d,hc⟩=> ?_⟩;obtain⟨q,a,b,rfl,l,ha,hb⟩:=oz hc;intro B k f w r h0 n i o;obtain⟨G,m,j⟩:=aH D;have A:f.eval q= .bool v:=(CV l m fun u y e C=>i u y C).sc_eq (AV.bool_sc j);refine wpIn_cond (t:=v) A ?_;cases v with
 |true=>exact z a ⟨d,ha⟩ B k f w r h0 n i o
 |false=>exact z b ⟨d,hb⟩ B k f w r h0 n i o
theorem AC.block{id:Nat}{x:CC}(h:AC P N rd x (la id Q) fr s):AC P N rd (.block id x) Q fr s:=by
 obtain⟨e,d,t,j,q⟩:=h;rw[wR]at j;refine⟨_,d,t,j,fun c ⟨i,hc⟩=> ?_⟩;obtain⟨a,rfl,ha⟩:=oz hc;intro B k l w r h0 n o p;refine wpIn_block (wpIn_mono (q a ⟨i,ha⟩ B k l w r h0 n o p) ?_);rintro m u w' ⟨rfl,g⟩;cases m with
 |exit b=>
  show if b=id then _ else _;by_cases e:b=id
  ·have f:qX id (.exit b)= .normal:=if_pos e;rw[if_pos e,f];exact⟨rfl,g⟩
  ·have f:qX id (.exit b)= .exit b:=if_neg e;rw[if_neg e,f];exact⟨rfl,g⟩
 |_=>exact⟨rfl,g⟩
inductive sU(P:Program)(N:Nat)(rd:Option Nat)(x:CC)(e:Exit)(fr':Fr)(s':List aa):Fr→List aa→Prop
 |last {fr fr0:Fr} {s:List aa}:(∀t y,look fr0 t=some y→look fr t=some y)→e≠ .normal→Cz P N rd x fr0 s e fr' s'→sU P N rd x e fr' s' fr s
 |more {fr fr0 fr1:Fr} {s s1:List aa}:(∀t y,look fr0 t=some y→look fr t=some y)→Cz P N rd x fr0 s .normal fr1 s1→sU P N rd x e fr' s' fr1 s1→sU P N rd x e fr' s' fr s
theorem sU.tr{x:CC}{e:Exit}{fr':Fr}{d:List aa}(h:sU P N rd x e fr' d fr s){c:Code}(hc:dx P N c x): ∃n,pz (dx P) P N rd c e fr' d n fr s:=by
 induction h with
 |last a f b=>exact⟨0,.last f ((b c hc).frame a)⟩
 |more a b _ i=>obtain⟨n,g⟩:=i;exact⟨n+1,.more ((b c hc).frame a) g⟩
def Sub(fr' fr:Fr):Prop:= ∀t x,look fr' t=some x→look fr t=some x
theorem Sub.refl(fr:Fr):Sub fr fr:=fun _ _ h=>h
theorem Sub.nil(fr:Fr):Sub [] fr:=fun _ _ h=>by cases h
theorem Sub.cons{fr' fr:Fr}{t:Nat}{x:AV}(h:look fr t=some x)(b:Sub fr' fr):Sub ((t,x)::fr') fr:=fun u y a=>by
 unfold look at a;split at a
 ·rename_i e;subst e;obtain rfl:=az a;exact h
 ·exact b u y a
def dV(keep:List Nat)(fr:Fr):Fr:=keep.filterMap fun t=>(look fr t).map fun x=>(t,x)
theorem BQ(keep:List Nat)(fr:Fr):Sub (dV keep fr) fr:=by
 induction keep with
 |nil=>exact Sub.nil fr
 |cons t l a=>
  unfold dV;rw[List.filterMap_cons];cases h:look fr t with
  |none=>exact a
  |some x=>exact Sub.cons h a
theorem AC.trim{keep:List Nat}{x:CC}(h:AC P N rd x Q (dV keep fr) s):AC P N rd (.trim keep x) Q fr s:=
 let⟨e,fr',b,q,a⟩:=h;⟨e,fr',b,q,fun c hc=>(a c hc).frame (BQ keep fr)⟩
def FO(body:(Exit→Fr→List aa→Prop)→Fr→List aa→Prop)(Q:Exit→Fr→List aa→Prop)(fr:Fr)(s:List aa):Prop:=
 ∃(b:Nat→Fr→List aa→Prop),(∃m fr0,Sub fr0 fr∧b m fr0 s)∧ ∀m fr s,b m fr s→body (fp (fun fr' d=> ∃c a,c<m∧Sub a fr'∧b c a d) Q) fr s
theorem AC.loop{x:CC}(d:Nat→Fr→List aa→Prop){m:Nat}{fr0:Fr}(z:Sub fr0 fr)(h0:d m fr0 s)(h: ∀m fr s,d m fr s→AC P N rd x (fp (fun fr' i=> ∃l b,l<m∧Sub b fr'∧d l b i) Q) fr s):AC P N rd (.loop x) Q fr s:=by
 have key: ∀m fr0 fr s,Sub fr0 fr→d m fr0 s→ ∃e fr' i,Q e fr' i∧sU P N rd x e fr' i fr s:=by
  intro m
  induction m using Nat.strongRecOn with
  |_ m B=>
   intro fr0 fr s f hi;obtain⟨e,j,v,k,u⟩:=h m fr0 s hi;by_cases p:e= .normal
   ·subst p;obtain⟨l,b,r,g,q⟩:=k;obtain⟨w,o,s2,C,t2⟩:=B l r b j v g q;exact⟨w,o,s2,C,.more f u t2⟩
   ·refine⟨e,j,v,?_,.last f p u⟩;cases e with
    |normal=>exact absurd rfl p
    |_=>exact k
 obtain⟨e,fr',i,k,A⟩:=key m fr0 fr s z h0;refine⟨e,fr',i,k,fun c ⟨t,hc⟩=> ?_⟩;obtain⟨a,rfl,ha⟩:=oz hc;obtain⟨n,y⟩:=A.tr ⟨t,ha⟩;exact y.runs
theorem DJ{B:Nat}{k:aF}{w:World}{d:Nat→Code→CC→Prop}(c:St d B k s w){id b:Nat}{l l':j1}{r r':Loop}(t:s[id]?=some (.loop l))(hb:k.own[id]?=some (.blk b))(m:w.heap[b]?=some (.loop r))(p:k.I b=0)
  (hm:Mono k w k (w.putObj b (.loop r'))→sT d k (w.putObj b (.loop r')) l' r'):Mono k w k (w.putObj b (.loop r'))∧Ext B k w k (w.putObj b (.loop r'))∧St d B k (s.set id (.loop l')) (w.putObj b (.loop r')):=by
 have i:=jd m;have a:=c.lies id _ b hb rfl;have h:gX k.I w k.I (w.putObj b (.loop r')):=fun n q u v hc=>⟨v,by
  have hne:n≠b:=by rintro rfl;unfold World.cell? at hc;rw[m]at hc;cases hc
  exact(sZ (w:=w) (World.putObj_heap_other hne)).trans hc⟩
 have g:Below B w (w.putObj b (.loop r')):=⟨rfl,rfl,rfl,by simp,fun j x=>World.putObj_heap_other a8⟩
 refine⟨qe h,c.upd (k':=k) hb (.loop l') (oS hb) (de.refl _) h g (fun o f=>by cases f;exact⟨.inl rfl,by simpa using a.2,a.1⟩)
  (fun o _ hne=>⟨World.putObj_heap_other (fun e=>hne (by rw[e];rfl)),rfl⟩) ⟨r',World.putObj_heap_same i,hm (qe h),p⟩⟩
def kH(Q:Exit→Fr→List aa→Prop)(fr:Fr)(i:Nat)(a:List aa):Prop:=match a[i]? with
 |some (.loop l)=>l.st≠ .busy∧(match l.pend with
  |none=>Q .normal fr (a.set i (.loop {l with st:= .exhausted}))
  |some .ret=>Q .ret fr (a.set i (.loop {l with st:= .exhausted}))
  |some (.exit id)=>Q (.exit id) fr (a.set i (.loop {l with st:= .exhausted})))
 |_=>False
def MW(s:List aa):Option Nat→Prop
 |none=>True
 |some id=> ∃l,s[id]?=some (.loop l)
def qT(P:Program)(rd:Option Nat)(n:Nat)(f:X)(ps:List Nat)(x y:CC)(Q:Exit→Fr→List aa→Prop)(fr:Fr)(s:List aa):Prop:=
 MW s rd∧ ∃g a cs,f.ev fr=some (.clo g a cs)∧jP (dx P) P (.clo g a cs) [.yld s.length] (s++[.loop ⟨.ready,none,fr,ps,n,x,y⟩]) fun _ b=>kH Q fr s.length b
theorem AC.rng{n:Nat}{f:X}{ps:List Nat}{x y:CC}(h:qT P rd n f ps x y Q fr s):AC P N rd (.rng n f ps x y) Q fr s:=by
 obtain⟨b8,g,fs,cs,hf,d,s',M,j⟩:=h;unfold kH at j;split at j
 ·rename_i l hl;obtain⟨O,j⟩:=j;obtain⟨e,hq,he⟩: ∃e,Q e fr (s'.set s.length (.loop {l with st:= .exhausted}))∧((l.pend=none∧e= .normal)∨(l.pend=some .ret∧e= .ret)∨ ∃id,l.pend=some (.exit id)∧e= .exit id):=by
   split at j
   ·rename_i G;exact⟨_,j,.inl ⟨G,rfl⟩⟩
   ·rename_i G;exact⟨_,j,.inr (.inl ⟨G,rfl⟩)⟩
   ·rename_i id G;exact⟨_,j,.inr (.inr ⟨id,G,rfl⟩)⟩
  refine⟨e,fr,_,hq,?_⟩;rintro c ⟨b1,hc⟩;obtain⟨rfl,U,qs,ca,cb,rfl,hg,b7,ha,hb,c3⟩:=oz hc;intro B k a w r h0 h1 h2 V;refine wpIn_rangeFunc fun J _=> ?_;rw[uF]
  have b0: ∃(p:Nat) (H:List Nat) (C:World) (A:Loop),(Instr.enterLoop J a.tmps qs ca cb r).run P w= .ok (p,H.map mark) C∧Below w.heap.size w C∧C.heap[p]?=some (.loop A)∧w.heap.size≤p∧A.state= .ready∧A.pending=none∧A.tmps=a.tmps∧A.params=qs∧A.assign=ca∧A.body=cb∧
    H.Nodup∧ ∀m∈H,w.heap.size≤m∧m≠p∧C.heap[m]?=some (.deferred (some [])):=by
   cases r with
   |none=>
    have hr:=run_enterLoop_outer (P:=P) (w:=w) J a.tmps qs ca cb
    refine⟨w.heap.size+1,[w.heap.size],_,_,hr,((Below.refl _ _).alloc (bh _) _).alloc (by simp) _,by have:=World.alloc_heap_new (w.alloc (.deferred (some []))) (.loop {state:= .ready,pending:=none,fn:=J,tmps:=a.tmps,params:=qs,assign:=ca,body:=cb,defers:=w.heap.size});simpa using this,by omega,rfl,rfl,rfl,rfl,rfl,rfl,by simp,fun m hm=> ?_⟩;obtain rfl:m=w.heap.size:=by simpa using hm
    refine⟨bh _,by omega,?_⟩;rw[Below.heap_alloc _ _ _ (by simp)];exact World.alloc_heap_new w _
   |some l0=>
    cases rd with
    |none=>exact h0.elim
    |some id=>
     obtain⟨al,b2⟩:=b8;obtain⟨b,r0,T,g2,_⟩:=V.loop b2;have:k.own[id]?=some (.blk l0):=h0;rw[this]at T;cases T;exact⟨w.heap.size,[],_,_,run_enterLoop_inner g2 J a.tmps qs ca cb,(Below.refl _ _).alloc (bh _) _,World.alloc_heap_new w _,bh _,rfl,rfl,rfl,rfl,rfl,rfl,List.nodup_nil,fun m hm=>by cases hm⟩
  obtain⟨p,H,C,A,Z,W,a3,a1,r1,r2,r3,r4,r5,r6,b6,b5⟩:=b0;have a4:=jd a3;have hI: ∀b,b<w.heap.size→dH k.I p 0 b=k.I b:=fun b hb=>gT _ _ a8;have a0:Ext B k w ⟨dH k.I p 0,k.own++[.blk p]⟩ C:=Ext.new V.base W hI _ fun b hb=>by cases hb;exact a1
  obtain⟨K,b9⟩:=V.new W hI (.blk p) (.loop ⟨.ready,none,fr,ps,n,x,y⟩) (fun b hb=>by cases hb;exact⟨a1,a4⟩)
   ⟨A,a3,⟨r1,by rw[r2];rfl,by rw[r3];exact h1,fun t z hz=>by rw[r3];exact(h2 t z hz).mono a0.mono,by rw[r4];exact b7,by rw[r5];exact⟨b1,ha⟩,by rw[r6];exact⟨b1,hb⟩⟩,fH ..⟩
  have b4:RA k w (a.eval U) (.clo g fs cs):=CV hg hf fun u y e hl=>h2 u y hl;obtain⟨us,vs,S,c0,c1⟩:=b4.clo_inv;have F:(k.own++[.blk p])[s.length]?=some (.blk p):=by rw[←V.len];simp
  have c2:eT ⟨dH k.I p 0,k.own++[.blk p]⟩ C [Value.func (.yield p) #[] #[]] [.yld s.length]:=⟨rfl,fun i u c hu hc=>by
   match i with
   |0=>simp at hu hc;subst hu;subst hc;exact .yld F
   |i+1=>simp at hu⟩
  have hcalls:=M.calls B _ C (us++[Value.func (.yield p) #[] #[]]++vs) b9 (((c0.mono K.mono).append c2).append (c1.mono K.mono));have Y:(FW r).depth.isSome=true→1≤0:=fun hh=>by rw[Cs]at hh;cases hh
  have a6:(resolve a.eval (rangeCall U p) 0).run P C= .ok {target:= .fn (.func g) vs.toArray,args:=us.toArray++ #[Value.func (.yield p) #[] #[]]} C:=by
   simp only[resolve,rangeCall];rw[S];simp[Deferred.ofValue,Act.eval,bX,bC,bI]
  have a2:(invoke (.fn (.func g) vs.toArray) (us.toArray++ #[Value.func (.yield p) #[] #[]])).run P C= .ok (.enter g (us++[Value.func (.yield p) #[] #[]]++vs).toArray) C:=by
   have:us.toArray++ #[Value.func (.yield p) #[] #[]]++vs.toArray=(us++[Value.func (.yield p) #[] #[]]++vs).toArray:=by simp
   simp only[invoke];rw[this];exact M.enters _ C
  refine⟨p,H.map mark,C,{target:= .fn (.func g) vs.toArray,args:=us.toArray++ #[Value.func (.yield p) #[] #[]]},C,g,(us++[Value.func (.yield p) #[] #[]]++vs).toArray,C,Z,a6,fun f' _=>qO r f',a2,Y,CW (nT hcalls ?_)⟩
  ·rintro e' w3 ⟨v,k2,rfl,hv,E,a7⟩;obtain⟨b,D,T,g2,g3,gI⟩:=a7.loop hl;have b3:b=p:=by
    have:=de.blk' E.mono F;rw[this]at T;cases T;rfl
   subst b3;obtain⟨q1,q2,q3,q4,q5,q6,q7⟩:=g3;obtain⟨m1,m2,m3⟩:=DJ a7 (l':={l with st:= .exhausted}) (r':={D with state:= .exhausted}) hl T g2 gI fun hm=>⟨rfl,q2,q3,fun t z hz=>(q4 t z hz).mono hm,q5,q6,q7⟩
   have R:=run_endLoop (P:=P) g2 (by rw[q1];exact O);have hmarks:Marks w (w3.putObj b (.loop {D with state:= .exhausted})) k2 a.defers (H.map mark++a.defers):=by
    refine⟨H,rfl,b6,fun m hm=> ?_⟩;obtain⟨p1,p2,p3⟩:=b5 m hm;have a9:jy ⟨dH k.I b 0,k.own++[.blk b]⟩ m:=fun id o ho a5=>by
     rcases oI ho with ho2|⟨_,rfl⟩
     ·have:=(V.lies id o m ho2 a5).2;omega
     ·cases a5;exact p2 rfl
    have L:=jd p3;refine⟨p1,?_,E.unowned L a9⟩;rw[World.putObj_heap_other p2,E.rest m L a9];exact p3
   have q: ∃k',({a with defers:=H.map mark++a.defers}:Act).tmps.size=n∧Marks w (w3.putObj b (.loop {D with state:= .exhausted})) k' a.defers (H.map mark++a.defers)∧Ext B k w k' (w3.putObj b (.loop {D with state:= .exhausted}))∧FR k' (w3.putObj b (.loop {D with state:= .exhausted})) {a with defers:=H.map mark++a.defers} fr∧St (dx P) B k' (s'.set s.length (.loop {l with st:= .exhausted})) (w3.putObj b (.loop {D with state:= .exhausted})):=
    ⟨k2,h1,hmarks,(K.trans E).trans m2,fun t z hz=>(((h2 t z hz).mono K.mono).mono E.mono).mono m1,m3⟩
   refine⟨D.pending,_,R,?_⟩;rcases he with⟨G,rfl⟩|⟨G,rfl⟩|⟨id,G,rfl⟩
   ·rw[q2,G]at q⊢;exact⟨rfl,q⟩
   ·rw[q2,G]at q⊢;exact wpIn_ret ⟨rfl,q⟩
   ·rw[q2,G]at q⊢;exact wpIn_exit ⟨rfl,q⟩
 ·exact j.elim
end
end Go.Bb
namespace Go.Bb
open Go Go.RowKit Go.Ab Go.Proofs.Lg
theorem kH.mono{Q c:Exit→Fr→List aa→Prop}{fr:Fr}{i:Nat}{s:List aa}(h:kH Q fr i s)(b: ∀e fr s,Q e fr s→c e fr s):kH c fr i s:=by
 unfold kH at h⊢;split at h
 ·refine⟨h.1,?_⟩;have a:=h.2;split at a
  ·exact b _ _ _ a
  ·exact b _ _ _ a
  ·exact b _ _ _ a
 ·exact h
theorem qT.mono{P:Program}{rd:Option Nat}{n:Nat}{f:X}{ps:List Nat}{x y:CC}{Q a:Exit→Fr→List aa→Prop}{fr:Fr}{s:List aa}(h:qT P rd n f ps x y Q fr s)(j: ∀e fr s,Q e fr s→a e fr s):qT P rd n f ps x y a fr s:=
 let⟨c,g,b,cs,d,i⟩:=h;⟨c,g,b,cs,d,i.mono fun _ _ h=>h.mono j⟩
def bR(P:Program)(rd:Option Nat):CC→(Exit→Fr→List aa→Prop)→Fr→List aa→Prop
 | .skip,Q,fr,s=>Q .normal fr s
 | .ops dr bf l,Q,fr,s=>bH P l (pB dr bf Q) [] fr s
 | .seq a b,Q,fr,s=>bR P rd a (fp (bR P rd b Q) Q) fr s
 | .cond c a b,Q,fr,s=>match(c.ev fr).bind AV.bool? with
  |some v=>lf v (bR P rd b Q fr s) (bR P rd a Q fr s)
  |none=>False
 | .block id c,Q,fr,s=>bR P rd c (la id Q) fr s
 | .loop c,Q,fr,s=>FO (bR P rd c) Q fr s
 | .exit id,Q,fr,s=>Q (.exit id) fr s
 | .ret,Q,fr,s=>Q .ret fr s
 | .rng n f ps x y,Q,fr,s=>qT P rd n f ps x y Q fr s
 | .trim keep c,Q,fr,s=>bR P rd c Q (dV keep fr) s
theorem Cg{P:Program}: ∀{l:List CO} {K f:Fr→List aa→List Nat→Prop} (_: ∀fr s g,K fr s g→f fr s g) {a:List Nat} {fr:Fr} {s:List aa},bH P l K a fr s→bH P l f a fr s
 |[],K,f,hk,a,fr,s,h=>hk _ _ _ h
 |o::l,K,f,hk,a,fr,s,h=>by
  unfold bH at h⊢;split at h
  ·exact h
  ·rename_i b hb;refine⟨fun e=>Cg hk (h.1 e),fun e=> ?_⟩;have c:=h.2 e;split at c
   ·split at c
    ·exact c.mono fun _ _ _ h=>Cg hk h
    ·exact c
   ·split at c
    ·rename_i d j i;exact Cg hk c
    ·exact c
theorem kG{P:Program}{rd:Option Nat}: ∀{c:CC} {Q d:Exit→Fr→List aa→Prop} {fr:Fr} {s:List aa},bR P rd c Q fr s→(∀e fr s,Q e fr s→d e fr s)→bR P rd c d fr s
 | .skip,Q,d,fr,s,h,hq=>hq _ _ _ h
 | .ops dr bf l,Q,d,fr,s,h,hq=>Cg (fun _ _ _ h=>⟨h.1,hq _ _ _ h.2⟩) h
 | .seq a b,Q,d,fr,s,h,hq=>kG (c:=a) h fun e fr s g=>by
   cases e with
   |normal=>exact kG (c:=b) g hq
   |_=>exact hq _ _ _ g
 | .cond c a b,Q,d,fr,s,h,hq=>by
  unfold bR at h⊢;split at h
  ·exact⟨fun e=>kG (h.1 e) hq,fun e=>kG (h.2 e) hq⟩
  ·exact h
 | .block id c,Q,d,fr,s,h,hq=>kG (c:=c) h fun e fr s g=>by
   rw[wR]at g⊢;exact hq _ _ _ g
 | .loop c,Q,d,fr,s,h,hq=>by
  obtain⟨i,k,g⟩:=h;refine⟨i,k,fun m fr s hi=>kG (g m fr s hi) fun e fr s j=> ?_⟩;cases e with
  |normal=>exact j
  |_=>exact hq _ _ _ j
 | .exit id,Q,d,fr,s,h,hq=>hq _ _ _ h
 | .ret,Q,d,fr,s,h,hq=>hq _ _ _ h
 | .rng n f ps x y,Q,d,fr,s,h,hq=>qT.mono h hq
 | .trim keep c,Q,d,fr,s,h,hq=>kG (c:=c) h hq
def aX(P:Program)(rd:Option Nat)(c:CC)(Q:Exit→Fr→List aa→Prop)(fr:Fr)(s:List aa):Prop:=FO (bR P rd c) Q fr s
def sL(P:Program)(l:List CO)(K:Fr→List aa→List Nat→Prop)(a:List Nat)(fr:Fr)(dst:Option Nat)(d:AV)(s:List aa)(b:Nat):Prop:=bH P l K (b::a) (cG fr dst d) s
section
variable (P:Program) (rd:Option Nat) (Q:Exit→Fr→List aa→Prop) (fr:Fr) (s:List aa)
theorem Zw:bR P rd .skip Q fr s=Q .normal fr s:=propext dj
theorem Zt(b:Bool)(a:List Nat)(l:List CO):bR P rd (.ops b a l) Q fr s=bH P l (pB b a Q) [] fr s:=propext dj
theorem Zv(a b:CC):bR P rd (.seq a b) Q fr s=bR P rd a (fp (bR P rd b Q) Q) fr s:=propext dj
theorem Zp(c:X)(a b:CC):bR P rd (.cond c a b) Q fr s=match(c.ev fr).bind AV.bool? with
 |some v=>lf v (bR P rd b Q fr s) (bR P rd a Q fr s)
 |none=>False:=propext dj
theorem Zo(id:Nat)(c:CC):bR P rd (.block id c) Q fr s=bR P rd c (la id Q) fr s:=propext dj
theorem Zs(c:CC):bR P rd (.loop c) Q fr s=aX P rd c Q fr s:=propext dj
theorem Zq(id:Nat):bR P rd (.exit id) Q fr s=Q (.exit id) fr s:=propext dj
theorem Zu:bR P rd .ret Q fr s=Q .ret fr s:=propext dj
theorem Ch(n:Nat)(f:X)(ps:List Nat)(x y:CC):bR P rd (.rng n f ps x y) Q fr s=qT P rd n f ps x y Q fr s:=propext dj
theorem Z8(K:Fr→List aa→List Nat→Prop)(a:List Nat):bH P [] K a fr s=K fr s a.reverse:=propext dj
theorem Z7(o:CO)(l:List CO)(K:Fr→List aa→List Nat→Prop)(a:List Nat):bH P (o::l) K a fr s=match lF fr o.g with
 |none=>False
 |some b=>lf b (bH P l K (0::a) (cG fr o.dst lQ) s) (match o.ci with
  | .call c xs=>match pO fr c,jb fr xs with
   |some cv,some vs=>aj P cv vs s (sL P l K a fr o.dst)
   |_,_=>False
  |ci=>match ci.sem fr s with
   |some (d,s')=>bH P l K (ci.mark fr::a) (cG fr o.dst d) s'
   |none=>False):=propext dj
end
theorem aX.intro{P:Program}{rd:Option Nat}{c:CC}{Q:Exit→Fr→List aa→Prop}{fr:Fr}{s:List aa}(a:Nat→Fr→List aa→Prop)(m:Nat)(fr0:Fr)(e:Sub fr0 fr)(h0:a m fr0 s)
 (h: ∀m fr s,a m fr s→bR P rd c (fp (fun fr' f=> ∃d b,d<m∧Sub b fr'∧a d b f) Q) fr s):aX P rd c Q fr s:=⟨a,⟨m,fr0,e,h0⟩,h⟩
def lr:Fr→Fr→Prop
 |[],_=>True
 |(t,x)::r,fr=>look fr t=some x∧lr r fr
theorem lr.sub: ∀{r fr:Fr},lr r fr→Sub r fr
 |[],fr,_=>Sub.nil fr
 |(_,_)::_,_,h=>Sub.cons h.1 (lr.sub h.2)
theorem aX.at{P:Program}{rd:Option Nat}{c:CC}{Q:Exit→Fr→List aa→Prop}{fr:Fr}{s:List aa}{β:Type}(F:β→Fr)(S:β→List aa)(I:Nat→β→Prop)(m:Nat)(b:β)(o:lr (F b) fr)(n:s=S b)(h0:I m b)
  (h: ∀m b,I m b→bR P rd c (fp (fun fr' g=> ∃d a,d<m∧lr (F a) fr'∧g=S a∧I d a) Q) (F b) (S b)):aX P rd c Q fr s:=by
 refine aX.intro (fun m fr s=> ∃b,fr=F b∧s=S b∧I m b) m (F b) o.sub ⟨b,rfl,n,h0⟩ ?_;rintro m _ _ ⟨b,rfl,rfl,hi⟩;refine kG (h m b hi) fun e fr' g f=> ?_;cases e with
 |normal=>obtain⟨d,a,i,j,k,l⟩:=f;exact⟨d,F a,i,j.sub,a,rfl,k,l⟩
 |_=>exact f
theorem bL{P:Program}{N:Nat}{rd:Option Nat}: ∀{cc:CC} {Q:Exit→Fr→List aa→Prop} {fr:Fr} {s:List aa},bR P rd cc Q fr s→AC P N rd cc Q fr s
 | .skip,Q,fr,s,hw=>AC.skip hw
 | .ops dr bf l,Q,fr,s,hw=>AC.ops hw
 | .seq a b,Q,fr,s,hw=>AC.seq ((bL (cc:=a) hw).mono fun e fr' j g=>by
   cases e with
   |normal=>exact bL (cc:=b) g
   |_=>exact g)
 | .cond c a b,Q,fr,s,hw=>by
  unfold bR at hw;split at hw
  ·rename_i v i;refine AC.cond i ?_;cases v with
   |true=>exact bL (hw.2 rfl)
   |false=>exact bL (hw.1 rfl)
  ·exact hw.elim
 | .block id c,Q,fr,s,hw=>AC.block (bL (cc:=c) hw)
 | .loop c,Q,fr,s,hw=>by
  obtain⟨d,⟨m,fr0,h,h0⟩,hround⟩:=hw;exact AC.loop d h h0 fun m fr s hi=>bL (hround m fr s hi)
 | .exit id,Q,fr,s,hw=>AC.exit hw
 | .ret,Q,fr,s,hw=>AC.ret hw
 | .rng n f ps x y,Q,fr,s,hw=>AC.rng hw
 | .trim keep c,Q,fr,s,hw=>AC.trim (bL (cc:=c) hw)
def putL:Fr→List (Nat×AV)→Fr
 |fr,[]=>fr
 |fr,(t,x)::l=>putL (cG fr (some t) x) l
def jW(id:Nat)(K:AV→List aa→Prop)(e:Exit)(s:List aa):Prop:=match s[id]? with
 |some (.loop l)=>match e with
  | .normal=>K (.d (.sc (.bool true))) (s.set id (.loop {l with st:= .ready,pend:=none}))
  | .ret=>K (.d (.sc (.bool false))) (s.set id (.loop {l with st:= .done,pend:=some .ret}))
  | .exit t=>K (.d (.sc (.bool false))) (s.set id (.loop {l with st:= .done,pend:=some (.exit t)}))
  |_=>False
 |_=>False
def jn(id:Nat)(K:List aa→Prop)(s:List aa):Prop:=match s[id]? with
 |some (.loop l)=>l.st= .ready∧K (s.set id (.loop {l with st:= .busy}))
 |_=>False
def gh(P:Program)(id:Nat)(xs:List AV)(s:List aa)(K:AV→List aa→Prop):Prop:=match s[id]? with
 |some (.loop l)=>xs.length=l.ps.length∧l.ps.all (fun t=>decide (t<l.N))=true∧
  bR P (some id) l.ca (fp (fun fr s=>jn id (bR P (some id) l.cb (fun e _ s=>jW id K e s) fr) s) fun _ _ _=>False) (putL l.fr (l.ps.zip xs)) s
 |_=>False
def xd(P:Program)(id:Nat)(xs:List AV)(s:List aa)(K:AV→List aa→Prop):Prop:=match s[id]? with
 |some (.loop l)=>xs.length=l.ps.length∧l.ps.all (fun t=>decide (t<l.N))=true∧
  AC P l.N (some id) l.ca (fp (fun fr s=>jn id (AC P l.N (some id) l.cb (fun e _ s=>jW id K e s) fr) s) fun _ _ _=>False) (putL l.fr (l.ps.zip xs)) s
 |_=>False
theorem jn.mono{id:Nat}{K a:List aa→Prop}{s:List aa}(h:jn id K s)(b: ∀s,K s→a s):jn id a s:=by
 unfold jn at h⊢;split at h
 ·exact⟨h.1,b _ h.2⟩
 ·exact h
theorem gh.toA{P:Program}{id:Nat}{xs:List AV}{s:List aa}{K:AV→List aa→Prop}(h:gh P id xs s K):xd P id xs s K:=by
 unfold gh at h;unfold xd;split at h
 ·refine⟨h.1,h.2.1,(bL h.2.2).mono fun e fr s a=> ?_⟩;cases e with
  |normal=>exact jn.mono a fun s h=>bL h
  |_=>exact a
 ·exact h
theorem FR.putL{k:aF}{w:World}{N:Nat}: ∀{ps:List Nat} {vs:List Value} {xs:List AV} {ts:Array Value} {fr:Fr},ts.size=N→(∀p∈ps,p<N)→(∀(i:Nat) (v:Value) (x:AV),vs[i]?=some v→xs[i]?=some x→RA k w v x)→vs.length=ps.length→xs.length=ps.length→
  (∀t x,look fr t=some x→RA k w (ts.getD t undef) x)→
  ((ps.zip vs).foldl (fun ts (t,v)=>ts.setIfInBounds t v) ts).size=N∧ ∀t x,look (Bb.putL fr (ps.zip xs)) t=some x→RA k w (((ps.zip vs).foldl (fun ts (t,v)=>ts.setIfInBounds t v) ts).getD t undef) x
 |[],vs,xs,ts,fr,hN,_,_,_,_,hf=>⟨hN,hf⟩
 |p::ps,v::vs,x::xs,ts,fr,hN,hp,hv,h1,h2,hf=>by
  refine FR.putL (ps:=ps) (vs:=vs) (xs:=xs) (ts:=ts.setIfInBounds p v) (fr:=cG fr (some p) x) (by simpa using hN) (fun q d=>hp q (by simp[d])) (fun i v x h c=>hv (i+1) v x (by simpa using h) (by simpa using c)) (by simpa using h1) (by simpa using h2) fun t y a=> ?_;have b:p<ts.size:=by rw[hN];exact hp p (by simp)
  rw[Ig]at a;rw[pj,Array.getElem?_setIfInBounds];by_cases e:p=t
  ·subst e;simp at a;subst a;simp[b];exact hv 0 v x rfl rfl
  ·rw[if_neg (fun h=>e (az h))]at a;rw[if_neg e,←pj];exact hf t y a
 |_::_,[],_,_,_,_,_,_,h1,_,_=>by simp at h1
 |_::_,_::_,[],_,_,_,_,_,_,h2,_=>by simp at h2
theorem xe.of{P:Program}{id:Nat}{xs:List AV}{s:List aa}{K:AV→List aa→Prop}(h:xd P id xs s K): ∃d s',xe (dx P) P id xs s d s'∧K d s':=by
 unfold xd at h;split at h
 ·rename_i l hl;obtain⟨g,F,hw⟩:=h;obtain⟨e,Q,s1,Z,T⟩:=hw;cases e with
  |normal=>
   have o:jn id (AC P l.N (some id) l.cb (fun e _ s=>jW id K e s) Q) s1:=Z;unfold jn at o;split at o
   ·rename_i l1 G;obtain⟨I,W⟩:=o;obtain⟨O,a3,s2,f,U⟩:=W;unfold jW at f;split at f
    ·rename_i X H;obtain⟨j,hj,hK⟩: ∃j:Option lZ,((O= .normal∧j=none)∨(O= .ret∧j=some .ret)∨ ∃t,O= .exit t∧j=some (.exit t))∧K (.d (.sc (.bool j.isNone))) (s2.set id (.loop {X with st:=if j.isNone then .ready else .done,pend:=j})):=by
      split at f
      ·exact⟨none,.inl ⟨rfl,rfl⟩,f⟩
      ·exact⟨some .ret,.inr (.inl ⟨rfl,rfl⟩),f⟩
      ·exact⟨some (.exit _),.inr (.inr ⟨_,rfl,rfl⟩),f⟩
      ·exact f.elim
     refine⟨_,_,?_,hK⟩;intro B k w vs b J y m;obtain⟨b',r,Y,g2,g3,gI⟩:=J.loop hl;rw[m]at Y;cases Y;obtain⟨q1,q2,q3,q4,q5,q6,q7⟩:=g3;have V:vs.toArray.size=r.params.size:=by
      have:r.params.toList.length=l.ps.length:=by rw[q5]
      simpa[y.1,g]using this.symm
     refine⟨_,_,_,_,run_yield g2 V,?_⟩;have M:(r.params.zip vs.toArray).foldl (fun tmps (t,a)=>tmps.setIfInBounds t a) r.tmps=(l.ps.zip vs).foldl (fun ts (t,v)=>ts.setIfInBounds t v) r.tmps:=by
      rw[←Array.foldl_toList];simp[q5]
     rw[M];obtain⟨f1,f2⟩:=FR.putL (k:=k) (w:=w) (N:=l.N) (ps:=l.ps) (vs:=vs) (xs:=xs) (ts:=r.tmps) (fr:=l.fr) q3 (fun p hp=>by simpa using iA.1 F p hp) y.2 (by rw[y.1,g]) g q4;refine roundIn_of_wpIn trivial (wpIn_mono (T r.assign q6 B k {tmps:=(l.ps.zip vs).foldl (fun ts (t,v)=>ts.setIfInBounds t v) r.tmps,defers:=[]} w (some b) m f1 f2 J) ?_)
     rintro e' a1 w1 ⟨rfl,k1,p1,p2,p3,p4,p5⟩;obtain⟨a0,r1,A,C,R,S⟩:=p5.loop G;have c:k1.own[id]?=some (.blk b):=de.blk' p3.mono m;rw[c]at A;cases A;obtain⟨t1,t2,t3,t4,t5,t6,t7⟩:=R;obtain⟨m1,m2,m3⟩:=DJ p5 (l':={l1 with st:= .busy}) (r':={r1 with state:= .busy}) G c C S fun hm=>⟨rfl,t2,t3,fun t z L=>(t4 t z L).mono hm,t5,t6,t7⟩
     refine⟨_,run_beginRound C (by rw[t1];exact I),?_⟩;refine wpIn_mono (U r.body q7 B k1 a1 _ (some b) c p1 (fun t z L=>(p4 t z L).mono m1) m3) ?_;rintro e3 a2 w2 ⟨rfl,k2,u1,u2,u3,u4,u5⟩;obtain⟨b3,r2,q,u,D,E⟩:=u5.loop H;have n:k2.own[id]?=some (.blk b):=de.blk' u3.mono c;rw[n]at q;cases q;obtain⟨y1,y2,y3,y4,y5,y6,y7⟩:=D
     have x: ∃v w',(Instr.endRound b (j.map lZ.code)).run P w2= .ok v w'∧ ∃v' k',Ending.returned v=Ending.returned v'∧RA k' w' v' (.d (.sc (.bool j.isNone)))∧Ext B k w k' w'∧St (dx P) B k' (s2.set id (.loop {X with st:=if j.isNone then .ready else .done,pend:=j})) w':=by
      have i:(j.map lZ.code).isNone=j.isNone:=by cases j<;>rfl
      obtain⟨z1,z2,z3⟩:=DJ u5 (l':={X with st:=if j.isNone then .ready else .done,pend:=j}) (r':={r2 with state:=if(j.map lZ.code).isNone then .ready else .done,pending:=j.map lZ.code}) H n u E fun hm=>⟨by rw[i],rfl,y3,fun t z L=>(y4 t z L).mono hm,y5,y6,y7⟩
      refine⟨_,_,run_endRound (j.map lZ.code) u,.bool (j.map lZ.code).isNone,k2,rfl,?_,((p3.trans m2).trans u3).trans z2,z3⟩;rw[i];exact .d (.sc _)
     rcases hj with⟨rfl,rfl⟩|⟨rfl,rfl⟩|⟨t,rfl,rfl⟩
     ·exact x
     ·exact x
     ·exact x
    ·exact f.elim
   ·exact o.elim
  |_=>exact Z.elim
 ·exact h.elim
inductive CR where
 |tmp (t:Nat)
 |cell (t:Nat) (n:Option Nat)
def cR(P:Program):ResultVar→Option CR
 | .tmp t=>some (.tmp t)
 | .cell t a=>(jk P a).map (.cell t)
def tv(P:Program):List ResultVar→Option (List CR)
 |[]=>some []
 |r::l=>match cR P r,tv P l with
  |some c,some cs=>some (c::cs)
  |_,_=>none
structure CF where
 n:Nat
 body:CC
 res:List CR
def CF.erase(F:CF):CF:=⟨F.n,F.body.erase,F.res⟩
def aG(P:Program)(a:List Nat)(f:FuncId):Option CF:=
 match P.funcs[f]? with
 |some fn=>match fn.body with
  |some c=>if fn.name== "runtime.NumGoroutine" then none else match comp P a fn.ntmps c,tv P fn.results.toList with
   |some cc,some rs=>some ⟨fn.ntmps,cc,rs⟩
   |_,_=>none
  |none=>none
 |none=>none
def wh(fr:Fr)(s:List aa):CR→Option AV
 | .tmp t=>look fr t
 | .cell t n=>(look fr t).bind fun v=>lL (fR s v) n v
def sv(fr:Fr)(s:List aa):List CR→Option (List AV)
 |[]=>some []
 |r::l=>(wh fr s r).bind fun x=>(sv fr s l).map (x:: ·)
def Fq:List AV→AV
 |[x]=>x
 |l=> .tup l
def wg(fr:Fr)(s:List aa)(rs:List CR):Option AV:=(sv fr s rs).map Fq
def pG(rs:List CR)(K:AV→List aa→Prop):Exit→Fr→List aa→Prop
 | .normal,fr,s=> ∃d,wg fr s rs=some d∧K d s
 | .ret,fr,s=> ∃d,wg fr s rs=some d∧K d s
 |_,_,_=>False
theorem PY{P:Program}{F:Nat→Code→CC→Prop}{B:Nat}{k:aF}{w:World}{s:List aa}{t:TypeId}{n:Option Nat}{u:Value}{v d:AV}(l:St F B k s w)(z:jk P t=some n)(A:RA k w u v)(c:lL (fR s v) n v=some d): ∃y,(Instr.loadAt t u).run P w= .ok y w∧RA k w y d:=by
 unfold lL at c;split at c
 ·have r:=A.d_inv;cases r with
  |ref b off us ds r I J K=>exact Ie (P:=P) (base:=off) (off:=0) (fun i u o=>(J i u o).2) ⟨r,I,K⟩ z c
 ·rename_i id off;obtain⟨cs,f,c⟩:=aH c;obtain⟨b,hb,g⟩:=A.ptr_inv;obtain⟨L,S,us,p,D,E,_⟩:=l.cells (ra f);rw[hb]at p;cases p;obtain⟨y,a,h⟩:=Bo (P:=P) (base:=0) (off:=off) (b:=b) (fun i u o=>by rw[au,tw D];exact o) E z c;rw[au]at a;exact⟨y,by rw[g];exact a,h⟩
 ·rename_i id m off;obtain⟨⟨sz,ds⟩,f,c⟩:=aH c;obtain⟨e,x,C,j⟩:=gU f;obtain⟨b,g,hb⟩:=A.vptr_inv;obtain⟨u,xs,cap,cur,p,D,rfl,E,M,N,O,Q,R,H,G,q⟩:=wI l x C j hb;obtain⟨y,a,h⟩:=Bo (P:=P) (base:=0) (off:=off) (b:=b) (fun i u o=>by rw[au];exact q i u o) H z c;rw[au]at a;exact⟨y,by rw[g];exact a,h⟩
 ·cases c
theorem XJ{P:Program}{m:ResultVar}{c:CR}(h:cR P m=some c){fr:Fr}{s:List aa}{d:AV}(f:wh fr s c=some d){r:Nat→Code→CC→Prop}{B:Nat}{k:aF}{a:Act}{w:World}(q:FR k w a fr)(A:St r B k s w):
  ∃v,(match m with
   | .tmp t=>pure (a.tmps.getD t undef)
   | .cell u t=>do loadVar t (←asAddr (a.tmps.getD u undef)):Sem Value).run P w= .ok v w∧RA k w v d:=by
 cases m with
 |tmp t=>
  simp[cR]at h;subst h;exact⟨_,rfl,q t _ f⟩
 |cell t D=>
  unfold cR at h;obtain⟨n,x,rfl⟩:=db.1 h;obtain⟨v,C,f⟩:=aH (show(look fr t).bind (fun v=>lL (fR s v) n v)=some d from f);have i:=q t v C;obtain⟨y,g,l⟩:=PY A x i f;refine⟨y,?_,l⟩;have j: ∃p,a.tmps.getD t undef= .pointer (some p):=by
   unfold lL at f;split at f
   ·have o:=i.d_inv;generalize a.tmps.getD t undef=z at o;cases o;exact⟨_,rfl⟩
   ·obtain⟨b,_,e⟩:=i.ptr_inv;exact⟨_,e⟩
   ·obtain⟨b,e,_⟩:=i.vptr_inv;exact⟨_,e⟩
   ·cases f
  obtain⟨p,j⟩:=j;show(do loadVar D (←asAddr (a.tmps.getD t undef)):Sem Value).run P w= .ok y w;rw[j]at g⊢;simp only[Instr.loadAt,Instr.sureAddr,bC,bX,bI]at g;simp only[asAddr,bC,bX,bI,g]
theorem KH{P:Program}{u:Nat→Code→CC→Prop}{fr:Fr}{s:List aa}{B:Nat}{k:aF}{a:Act}{w:World}(p:FR k w a fr)(q:St u B k s w): ∀{e:List ResultVar} {cs:List CR} {ds:List AV},tv P e=some cs→sv fr s cs=some ds→
  ∃vs:List Value,(e.mapM fun r=>(match r with
   | .tmp t=>pure (a.tmps.getD t undef)
   | .cell z t=>do loadVar t (←asAddr (a.tmps.getD z undef)):Sem Value)).run P w= .ok vs w∧eT k w vs ds
 |[],cs,ds,h,f=>by
  simp[tv]at h;subst h;simp[sv]at f;subst f;exact⟨[],rfl,rfl,by simp⟩
 |r::e,cs,ds,h,f=>by
  unfold tv at h;split at h
  ·rename_i c j C D;obtain rfl:=az h;obtain⟨d,E,f⟩:=aH (show(wh fr s c).bind (fun x=>(sv fr s j).map (x:: ·))=some ds from f);obtain⟨A,F,rfl⟩:=bz f;obtain⟨v,l,m⟩:=XJ C E p q;obtain⟨vs,g,b⟩:=KH p q D F;refine⟨v::vs,?_,by simp[b.1],fun i x y n o=> ?_⟩
   ·rw[List.mapM_cons];simp only[bC,l,bI,g,bX]
   ·cases i with
    |zero=>simp at n o;subst n;subst o;exact m
    |succ i=>exact b.2 i x y (by simpa using n) (by simpa using o)
  ·cases h
theorem BR{P:Program}{fn:Func}{rs:List CR}(l:tv P fn.results.toList=some rs){e:Nat→Code→CC→Prop}{fr:Fr}{s:List aa}{r:AV}(i:wg fr s rs=some r){B:Nat}{k:aF}{a:Act}{w:World}(j:FR k w a fr)(m:St e B k s w):
  ∃v,(results fn a.tmps).run P w= .ok v w∧RA k w v r:=by
 obtain⟨ds,c,rfl⟩:=bz i;obtain⟨vs,f,b⟩:=KH j m l c;have g:(results fn a.tmps).run P w= .ok (if h:vs.toArray.size=1 then vs.toArray[0]else .tuple vs.toArray) w:=by
  unfold results;rw[←Array.toArray_toList (xs:=fn.results),List.mapM_toArray];simp only[bC,Sem.run_map,bX];erw[f];rfl
 refine⟨_,g,?_⟩
 match ds,vs,b with
 |[d],[v],b=>exact b.2 0 v d rfl rfl
 |[],[],b=>exact .tup rfl b.2
 |d::d'::ds,v::v'::vs,b=>
  rw[dif_neg (by simp)];exact .tup b.1 b.2
 |[],_::_,b=>simp[eT]at b
 |_::_,[],b=>simp[eT]at b
 |[_],_::_::_,b=>simp[eT]at b
 |_::_::_,[_],b=>simp[eT]at b
def lu:Nat→List AV→Fr
 |_,[]=>[]
 |i,x::l=>(i,x)::lu (i+1) l
theorem DH: ∀(xs:List AV) (n t:Nat),look (lu n xs) t=if n≤t then xs[t-n]? else none
 |[],n,t=>by simp[lu,look]
 |x::l,n,t=>by
  unfold lu look;rw[DH l (n+1) t];by_cases e:n=t
  ·subst e;simp
  ·rw[if_neg e];by_cases h:n≤t
   ·rw[if_pos h,if_pos a8,show t-n=(t-(n+1))+1 by omega];rfl
   ·rw[if_neg h,if_neg a8]
def aT(P:Program)(f:FuncId)(xs:List AV)(s:List aa)(K:AV→List aa→Prop):Prop:= ∃d a,iy (dx P) P f xs s d a∧K d a
theorem aT.mono{P:Program}{f:FuncId}{xs:List AV}{s:List aa}{K a:AV→List aa→Prop}(h:aT P f xs s K)(e: ∀d s,K d s→a d s):aT P f xs s a:=let⟨d,g,b,c⟩:=h;⟨d,g,b,e _ _ c⟩
theorem aT.ofA{P:Program}{m:List Nat}{f:FuncId}{F:CF}(hc:aG P m f=some F.erase){xs:List AV}{s:List aa}{K:AV→List aa→Prop}(l:xs.length≤F.n)(h:AC P F.n none F.body (pG F.res K) (lu 0 xs) s):aT P f xs s K:=by
 unfold aG at hc;split at hc
 ·rename_i fn v;split at hc
  ·rename_i c b;split at hc
   ·cases hc
   ·rename_i g;split at hc
    ·rename_i cc rs A E;have C:=az hc;obtain⟨o,p,q⟩:fn.ntmps=F.n∧cc=F.body.erase∧rs=F.res:=by
      unfold CF.erase at C;injection C with o p q
      exact⟨o,p,q⟩
     rw[←o]at h l;rw[←q]at h;rw[p]at A;obtain⟨e,fr',z,y,L⟩:=h;have i: ∃d,(e= .normal∨e= .ret)∧wg fr' z rs=some d∧K d z:=by
      cases e with
      |normal=>obtain⟨d,r,u⟩:=y;exact⟨d,.inl rfl,r,u⟩
      |ret=>obtain⟨d,r,u⟩:=y;exact⟨d,.inr rfl,r,u⟩
      |_=>exact y.elim
     obtain⟨d,H,G,J⟩:=i;refine⟨d,z,iy.of v b (by simpa using g) H l (fun k w vs j t x i=> ?_) (L c ⟨m,A⟩) (fun B k a w I M=>BR E G I M),J⟩;rw[DH]at i;simp only[fM,if_true,nZ]at i;have O:=(aR.1 i).1;have N:=j.1;have D:vs[t]?=some vs[t]:=bV a8
     have hg:(vs.toArray++Array.replicate (fn.ntmps-vs.toArray.size) undef).getD t undef=vs[t]:=by
      rw[pj,Co (by simp;omega)];simp[D]
     show RA k w ((vs.toArray++Array.replicate (fn.ntmps-vs.toArray.size) undef).getD t undef) x;rw[hg];exact j.2 t _ x D i
    ·cases hc
  ·cases hc
 ·cases hc
theorem aT.of{P:Program}{b:List Nat}{f:FuncId}{F:CF}(hc:aG P b f=some F.erase){xs:List AV}{s:List aa}{K:AV→List aa→Prop}(a:xs.length≤F.n)(h:bR P none F.body (pG F.res K) (lu 0 xs) s):aT P f xs s K:=aT.ofA hc a (bL h)
theorem aj.fn{P:Program}{f:FuncId}{b cs vs:List AV}{s:List aa}{K:AV→List aa→Nat→Prop}(h:aT P f (b++vs++cs) s fun d a=>K d a 2):aj P (.clo f b cs) vs s K:=
 let⟨d,a,c,e⟩:=h;.inr (.inl ⟨d,a,c,e⟩)
theorem aj.yld{P:Program}{id:Nat}{vs:List AV}{s:List aa}{K:AV→List aa→Nat→Prop}(h:gh P id vs s fun d a=>K d a 2):aj P (.yld id) vs s K:=
 let⟨d,a,b,c⟩:=xe.of h.toA;.inr (.inl ⟨d,a,b,c⟩)
theorem jP.fn{P:Program}{f:FuncId}{a cs vs:List AV}{s:List aa}{K:AV→List aa→Prop}(h:aT P f (a++vs++cs) s K):jP (dx P) P (.clo f a cs) vs s K:=
 let⟨d,e,b,c⟩:=h;⟨d,e,b,c⟩
end Go.Bb
namespace Go.Bb
open Go Go.RowKit Go.Ab Go.Proofs.Lg
mutual
def AV.shift(n:Nat):AV→AV
 | .d x=> .d x
 | .tsl id sz rows=> .tsl (n+id) sz rows
 | .nil sz=> .nil sz
 | .emp sz=> .emp sz
 | .ptr id o=> .ptr (n+id) o
 | .vec id m sz=> .vec (n+id) m sz
 | .vptr id m o=> .vptr (n+id) m o
 | .win id o m sz=> .win (n+id) o m sz
 | .vwn id N o m sz=> .vwn (n+id) N o m sz
 | .mp id=> .mp (n+id)
 | .yld id=> .yld (n+id)
 | .clo f a cs=> .clo f (gF n a) (gF n cs)
 | .agg cs=> .agg (gF n cs)
 | .tup cs=> .tup (gF n cs)
def gF(n:Nat):List AV→List AV
 |[]=>[]
 |x::l=>x.shift n::gF n l
end
theorem p7(n:Nat): ∀l:List AV,gF n l=l.map (AV.shift n)
 |[]=>by simp[gF]
 |x::l=>by simp[gF,p7 n l]
theorem uq(n:Nat)(l:List AV):(gF n l).length=l.length:=by rw[p7,aL]
theorem wz(n:Nat){l:List AV}{i:Nat}{c:AV}(h:(gF n l)[i]?=some c): ∃x,l[i]?=some x∧c=x.shift n:=by
 rw[p7,cC]at h;obtain⟨x,a,rfl⟩:=db.1 h;exact⟨x,a,rfl⟩
def xc(n:Nat)(o1 O:List Own):Prop:= ∀(id:Nat) (o:Own),o1[id]?=some o→O[n+id]?=some o
theorem RA.shift{k:aF}{w:World}{v:Value}{x:AV}(h:RA k w v x){n:Nat}{O:List Own}(f:xc n k.own O):RA ⟨k.I,O⟩ w v (x.shift n):=by
 induction h with
 |d h=>rw[AV.shift];exact .d h
 |tsl a b=>rw[AV.shift];obtain⟨u,n,e,g⟩:=b;exact .tsl a ⟨u,n,f _ _ e,g⟩
 |nil=>rw[AV.shift];exact .nil
 |emp=>rw[AV.shift];exact .emp
 |ptr h=>rw[AV.shift];exact .ptr (f _ _ h)
 |vec a b=>rw[AV.shift];obtain⟨u,n,e,g⟩:=b;exact .vec a ⟨u,n,f _ _ e,g⟩
 |vptr h=>rw[AV.shift];obtain⟨u,n,e,g⟩:=h;exact .vptr ⟨u,n,f _ _ e,g⟩
 |win a b e=>rw[AV.shift];exact .win (f _ _ a) b e
 |vwn a b=>rw[AV.shift];obtain⟨u,n,e,g⟩:=b;exact .vwn a ⟨u,n,f _ _ e,g⟩
 |mp h=>rw[AV.shift];exact .mp (f _ _ h)
 |yld h=>rw[AV.shift];exact .yld (f _ _ h)
 |clo a b _ _ o i2=>
  rw[AV.shift];refine .clo (by rw[uq];exact a) (by rw[uq];exact b) (fun i u c j hc=> ?_) (fun i u c j hc=> ?_)
  ·obtain⟨x,l,rfl⟩:=wz _ hc;exact o i u x j l
  ·obtain⟨x,l,rfl⟩:=wz _ hc;exact i2 i u x j l
 |agg a b _ m=>
  rw[AV.shift];refine .agg (by rw[uq];exact a) b (fun i u c j hc=> ?_);obtain⟨x,l,rfl⟩:=wz _ hc;exact m i u x j l
 |tup a _ m=>
  rw[AV.shift];refine .tup (by rw[uq];exact a) (fun i u c j hc=> ?_);obtain⟨x,l,rfl⟩:=wz _ hc;exact m i u x j l
theorem bK.shift{k:aF}{w:World}{us:List Value}{ds:List AV}(h:bK k w us ds){n:Nat}{O:List Own}(a:xc n k.own O):bK ⟨k.I,O⟩ w us (gF n ds):=
 ⟨by rw[uq];exact h.1,h.2.1,fun i u c b hc=>by obtain⟨x,d,rfl⟩:=wz _ hc;exact(h.2.2 i u x b d).shift a⟩
def Fe(n:Nat)(fr:Fr):Fr:=fr.map fun p=>(p.1,p.2.shift n)
theorem Ih(n:Nat): ∀{fr:Fr} {t:Nat} {x:AV},look (Fe n fr) t=some x→ ∃y,look fr t=some y∧x=y.shift n
 |[],t,x,h=>by cases h
 |(u,y)::fr,t,x,h=>by
  have a:(if u=t then some (y.shift n)else look (Fe n fr) t)=some x:=h;unfold look;by_cases e:u=t
  ·rw[if_pos e]at a⊢;exact⟨y,rfl,(az a).symm⟩
  ·rw[if_neg e]at a⊢;exact Ih n a
def aa.shift(n:Nat):aa→aa
 | .cells ds=> .cells (gF n ds)
 | .tcells t ds=> .tcells t (gF n ds)
 | .row e sz m=> .row e sz m
 | .vec e sz ds=> .vec e sz (gF n ds)
 | .map ag es=> .map ag (es.map fun p=>(p.1,p.2.shift n))
 | .loop l=> .loop {l with fr:=Fe n l.fr}
 | .hole=> .hole
 | .junk=> .junk
theorem U0{w:World}{B a e sz n:Nat}{v:Value}{xs:List Value}(h:w.ownsRow a e sz v n xs)(hb:B≤a):w.ownsRow B e sz v n xs:=by
 refine⟨h.1,?_⟩;rcases h.2 with h2|⟨g,cap,cur,h1,h2,h3⟩
 ·exact .inl h2
 ·exact .inr ⟨g,cap,cur,h1,eS hb h2,h3⟩
theorem jx.shift{u:Nat→Code→CC→Prop}{B s:Nat}{k:aF}{w:World}(z:B≤s){n:Nat}{O:List Own}(g:xc n k.own O){x:aa}{o:Own}(h:jx u s k w x o):jx u B ⟨k.I,O⟩ w (x.shift n) o:=by
 cases x with
 |cells ds=>
  cases o with
  |blk b=>obtain⟨t,us,a,d,c⟩:=h;exact⟨t,us,a,d.shift g,c⟩
  |row v n=>exact h.elim
  |hole=>exact h.elim
 |tcells t ds=>
  cases o with
  |blk b=>obtain⟨us,a,d,c⟩:=h;exact⟨us,a,d.shift g,c⟩
  |row v n=>exact h.elim
  |hole=>exact h.elim
 |row e sz m=>
  cases o with
  |blk b=>exact h.elim
  |row v n=>obtain⟨a,⟨xs,d⟩,c⟩:=h;exact⟨a,⟨xs,TZ d z⟩,c⟩
  |hole=>exact h.elim
 |vec e sz ds=>
  cases o with
  |blk b=>exact h.elim
  |row v n=>obtain⟨xs,a,d,c,E⟩:=h;exact⟨xs,U0 a z,d,by rw[uq];exact c,E.shift g⟩
  |hole=>exact h.elim
 |map ag es=>
  cases o with
  |blk b=>
   obtain⟨f,p,a,⟨G,H,J⟩,c⟩:=h;refine⟨f,p,a,⟨by simpa using G,by simpa using H,fun i e x F j=> ?_⟩,c⟩;rw[cC]at j;obtain⟨y,q,rfl⟩:=db.1 j;obtain⟨A,C,D⟩:=J i e y F q;exact⟨A,C.shift g,D⟩
  |row v n=>exact h.elim
  |hole=>exact h.elim
 |loop l=>
  cases o with
  |blk b=>
   obtain⟨r,a,⟨K,L,M,N,P⟩,c⟩:=h;exact⟨r,a,⟨K,L,M,fun t x j=>by obtain⟨y,q,rfl⟩:=Ih _ j;exact(N t y q).shift g,P⟩,c⟩
  |row v n=>exact h.elim
  |hole=>exact h.elim
 |hole=>
  cases o with
  |blk b=>exact h.elim
  |row v n=>exact h.elim
  |hole=>trivial
 |junk=>cases o<;>trivial
mutual
def AV.free:AV→Option AV
 | .d x=>some (.d x)
 | .tsl _ sz rows=>some (.d (.sl sz rows))
 | .nil sz=>some (.nil sz)
 | .emp sz=>some (.emp sz)
 | .clo f c cs=>match ng c,ng cs with
  |some a,some b=>some (.clo f a b)
  |_,_=>none
 | .agg cs=>match ng cs with
  |some a=>some (.agg a)
  |none=>none
 | .tup cs=>match ng cs with
  |some a=>some (.tup a)
  |none=>none
 | .ptr _ _=>none
 | .vec _ _ _=>none
 | .vptr _ _ _=>none
 | .win _ _ _ _=>none
 | .vwn _ _ _ _ _=>none
 | .mp _=>none
 | .yld _=>none
def ng:List AV→Option (List AV)
 |[]=>some []
 |x::l=>match x.free,ng l with
  |some y,some l'=>some (y::l')
  |_,_=>none
end
theorem tI: ∀{l l':List AV},ng l=some l'→l'.length=l.length∧ ∀(i:Nat) (c:AV),l'[i]?=some c→ ∃x,l[i]?=some x∧x.free=some c
 |[],l',h=>by simp[ng]at h;subst h;simp
 |x::l,l',h=>by
  unfold ng at h;split at h
  ·rename_i y f a b;cases h;obtain⟨d,e⟩:=tI b;refine⟨by simp[d],fun i c hc=> ?_⟩;cases i with
   |zero=>simp at hc;subst hc;exact⟨x,rfl,a⟩
   |succ i=>exact e i c (by simpa using hc)
  ·cases h
theorem RA.free{k:aF}{w:World}{v:Value}{x:AV}(h:RA k w v x)(o1:List Own): ∀{y:AV},x.free=some y→RA ⟨k.I,o1⟩ w v y:=by
 induction h with
 |d h=>intro y e;rw[AV.free]at e;cases e;exact .d h
 |tsl f g=>intro y e;rw[AV.free]at e;cases e;exact .d f
 |nil=>intro y e;rw[AV.free]at e;cases e;exact .nil
 |emp=>intro y e;rw[AV.free]at e;cases e;exact .emp
 |ptr h=>intro y e;rw[AV.free]at e;cases e
 |vec f g=>intro y e;rw[AV.free]at e;cases e
 |vptr h=>intro y e;rw[AV.free]at e;cases e
 |win f g t=>intro y e;rw[AV.free]at e;cases e
 |vwn f g=>intro y e;rw[AV.free]at e;cases e
 |mp h=>intro y e;rw[AV.free]at e;cases e
 |yld h=>intro y e;rw[AV.free]at e;cases e
 |clo f g _ _ q i2=>
  intro y e;rw[AV.free]at e;split at e
  ·rename_i a b ha hb;cases e;obtain⟨n,o⟩:=tI ha;obtain⟨r,s⟩:=tI hb;refine .clo (f.trans n.symm) (g.trans r.symm) (fun i u c l hc=> ?_) (fun i u c l hc=> ?_)
   ·obtain⟨x,m,j⟩:=o i c hc;exact q i u x l m j
   ·obtain⟨x,m,j⟩:=s i c hc;exact i2 i u x l m j
  ·cases e
 |agg f g _ p=>
  intro y e;rw[AV.free]at e;split at e
  ·rename_i a ha;cases e;obtain⟨n,o⟩:=tI ha;refine .agg (f.trans n.symm) g (fun i u c l hc=> ?_);obtain⟨x,m,j⟩:=o i c hc;exact p i u x l m j
  ·cases e
 |tup f _ p=>
  intro y e;rw[AV.free]at e;split at e
  ·rename_i a ha;cases e;obtain⟨n,o⟩:=tI ha;refine .tup (f.trans n.symm) (fun i u c l hc=> ?_);obtain⟨x,m,j⟩:=o i c hc;exact p i u x l m j
  ·cases e
theorem iy.frameAt{C:Nat→Code→CC→Prop}{P:Program}{f:FuncId}{xs t:List AV}{d:AV}{m:List aa}(h:iy C P f t [] d m)(A:ng xs=some t){s:List aa}{n:Nat}(K:gr s n m.length):iy C P f xs s (d.shift n) (fill s n (m.map (aa.shift n))):=by
 refine⟨h.enters,fun B k w vs g r=> ?_⟩;obtain⟨R,S⟩:=tI A;have q:St C w.heap.size ⟨k.I,[]⟩ [] w:=⟨bh _,rfl,by simp,by simp,by simp,g.glob.mono g.base⟩
 refine nT (h.calls w.heap.size ⟨k.I,[]⟩ w vs q ⟨r.1.trans R.symm,fun i u c N hc=> ?_⟩) ?_
 ·obtain⟨x,G,H⟩:=S i c hc;exact(r.2 i u x N G).free [] H
 ·rintro e w' ⟨v,k',rfl,O,J,z⟩;have p:k'.own.length=(m.map (aa.shift n)).length:=by rw[aL];exact z.len
  have E:gr s n (m.map (aa.shift n)).length:=by rw[aL];exact K
  have a:xc n k'.own (fill k.own n k'.own):=fun id o l=>by
   rw[vh k'.own (by rw[g.len];exact K.le),if_neg a8,if_pos (by have:=(aR.1 l).1;omega),mR];exact l
  obtain⟨L,M⟩:=g.fill J.below (I':=k'.I) (fun b hb=>J.low b hb) k'.own (m.map (aa.shift n)) p E (fun i o b l hb=>z.lies i o b l hb) (fun i j o o' b D l F hb=>z.apart i j o o' b D l F hb)
   fun _ i o x l A=>by
    rw[cC]at A;obtain⟨y,Q,rfl⟩:=db.1 A;exact(z.obj i y o Q l).shift g.base a
  exact⟨v,_,rfl,O.shift a,L,M⟩
theorem iy.frame{c:Nat→Code→CC→Prop}{P:Program}{f:FuncId}{xs a:List AV}{d:AV}{b:List aa}(h:iy c P f a [] d b)(e:ng xs=some a)(s:List aa):iy c P f xs s (d.shift s.length) (s++b.map (aa.shift s.length)):=by
 have:=h.frameAt e (s:=s) (gr.end' s b.length);rw[tH]at this;exact this
def cU{α β:Type}(g:α→Option β):List α→Option (List β)
 |[]=>some []
 |x::l=>match g x,cU g l with
  |some y,some l'=>some (y::l')
  |_,_=>none
theorem s9{α β:Type}{g:α→Option β}: ∀{l:List α} {l':List β},cU g l=some l'→l'.length=l.length∧ ∀(i:Nat) (x:α),l[i]?=some x→ ∃y,l'[i]?=some y∧g x=some y
 |[],l',h=>by simp[cU]at h;subst h;simp
 |x::l,l',h=>by
  unfold cU at h;split at h
  ·rename_i y f b c;obtain rfl:=az h;obtain⟨d,e⟩:=s9 c;refine⟨by simp[d],fun i z a=> ?_⟩;cases i with
   |zero=>simp at a;subst a;exact⟨y,rfl,b⟩
   |succ i=>exact e i z (by simpa using a)
  ·cases h
def bu(s:List aa):Nat→AV→Option D
 |0,_=>none
 |f+1,.vec id n sz=>match s[id]? with
  |some (.vec _ sz2 ds)=>if sz2=sz∧0<sz∧ds.length=n*sz then(cU (bu s f) ds).map fun es=> .sl sz (chunk sz n es)else none
  |_=>none
 |f+1,.vwn id N off n sz=>match s[id]? with
  |some (.vec _ sz2 ds)=>if sz2=sz∧0<sz∧ds.length=N*sz∧off+n≤N then(cU (bu s f) ((ds.drop (off*sz)).take (n*sz))).map fun es=> .sl sz (chunk sz n es)else none
  |_=>none
 |f+1,.win id off n sz=>match s[id]? with
  |some (.cells ds)=>if off+n*sz≤ds.length then(cU (bu s f) ((ds.drop off).take (n*sz))).map fun es=> .sl sz (chunk sz n es)else none
  |_=>none
 |f+1,.ptr id off=>match s[id]? with
  |some (.cells ds)=>(cU (bu s f) (ds.drop off)).map .ref
  |_=>none
 |f+1,.agg cs=>(cU (bu s f) cs).map .agg
 |f+1,.tup cs=>(cU (bu s f) cs).map .tup
 |_+1,x=>x.toL
theorem xO{LL:Nat→Code→CC→Prop}{B:Nat}{k:aF}{s:List aa}{w:World}(K:St LL B k s w){I':Nat→Nat}(hk:gX k.I w I' w)(W: ∀b o u,B≤b→w.cell? ⟨b,o,none⟩=some u→o<I' b): ∀(f:Nat) (x:AV) (d:D) (v:Value),bu s f x=some d→RA k w v x→RD I' w v d
 |0,x,d,v,h,_=>by simp[bu]at h
 |f+1,x,d,v,h,hv=>by
  have L: ∀(us:List Value) (cs:List AV) (es:List D),eT k w us cs→cU (bu s f) cs=some es→us.length=es.length∧ ∀(i:Nat) (u:Value) (d:D),us[i]?=some u→es[i]?=some d→RD I' w u d:=fun us cs es M G=>by
   obtain⟨k1,k2⟩:=s9 G;refine⟨M.1.trans k1.symm,fun i u e F he=> ?_⟩;obtain⟨hi,_⟩:=aR.1 he;have hc:cs[i]?=some cs[i]:=bV a8;obtain⟨e',t,h4⟩:=k2 i _ hc;rw[he]at t;cases t;exact xO K hk W f _ _ u h4 (M.2 i u _ F hc)
  have j: ∀(us:List Value) (cs:List AV) (es:List D),bK k w us cs→cU (bu s f) cs=some es→cD I' w us es:=fun us cs es M G=>
   let⟨r,T⟩:=L us cs es M.rvs G;⟨r,M.2.1,T⟩
  have m: ∀y,x=y→x.toL=some d→RA k w v x→RD I' w v d:=fun y _ M G=>(G.toL M).mono hk;cases x with
  |agg cs=>
   obtain⟨us,rfl,G⟩:=hv.agg_inv;obtain⟨es,a,rfl⟩:=bz (show(cU (bu s f) cs).map D.agg=some d from h);have t:=j us cs es G a;exact .agg us es t.1 t.2.1 t.2.2
  |tup cs=>
   obtain⟨us,rfl,G⟩:=hv.tup_inv;obtain⟨es,a,rfl⟩:=bz (show(cU (bu s f) cs).map D.tup=some d from h);have t:=L us cs es G a;exact .tup us es t.1 t.2
  |ptr id off=>
   simp only[bu]at h;split at h
   ·rename_i ds p;obtain⟨es,a,rfl⟩:=bz h;obtain⟨b,hb,rfl⟩:=hv.ptr_inv;obtain⟨b',t',us,r,T,g3,_⟩:=K.cells p;rw[hb]at r;cases r;have V:=j _ _ es (g3.drop off) a;refine .ref _ _ _ _ V.1 V.2.1 (fun i u F=> ?_) V.2.2;rw[fB]at F;have hc:w.cell? ⟨b,off+i,none⟩=some u:=by rw[tw T];exact F
    exact⟨W _ _ _ (K.lies id _ b hb rfl).1 hc,hc⟩
   ·cases h
  |win id off n sz=>
   simp only[bu]at h;split at h
   ·rename_i ds p;split at h
    ·rename_i X;obtain⟨es,a,rfl⟩:=bz h;obtain⟨b,c,hb,rfl,E,z⟩:=hv.win_inv;obtain⟨b',t',us,r,T,g3,_⟩:=K.cells p;rw[hb]at r;cases r;have V:=j _ _ es ((g3.drop off).take (n*sz)) a;have Z:=(s9 a).1;obtain⟨A,C⟩:=rf sz n es (by rw[Z];simp;omega);refine RD.sl_mk (pR sz n es) C E z (by rw[A];exact V) fun _=>⟨b,off,rfl,fun i u F=> ?_⟩
     rw[gb]at F;split at F
     ·rw[fB]at F;have hc:w.cell? ⟨b,off+i,none⟩=some u:=by rw[tw T];exact F
      exact⟨W _ _ _ (K.lies id _ b hb rfl).1 hc,hc⟩
     ·cases F
    ·cases h
   ·cases h
  |vec id n sz=>
   simp only[bu]at h;split at h
   ·rename_i e l ds p;split at h
    ·rename_i O;obtain⟨rfl,c0,c1⟩:=O;obtain⟨es,a,rfl⟩:=bz h;obtain⟨_,u,n',H,X,P⟩:=hv.vec_inv;obtain⟨v2,n2,xs,r,q,hI,U,S⟩:=K.vec p;rw[H]at r;cases r;have Q:n=n':=by
      rw[c1]at U;exact kK c0 U
     subst Q;rw[P rfl];have t:=j xs ds es S a;have Z:=(s9 a).1;obtain⟨A,C⟩:=rf l n es a8;rcases q.2 with⟨J,h0⟩|⟨g,cap,cur,J,hbg,hg,E,z,hcs,htake⟩
     ·subst J;subst h0;exact RD.sl_mk (us:=[]) rfl (by simp[chunk]) a8 a8 ⟨by simp[chunk],by simp,by simp⟩ (by simp[chunk])
     ·rw[J];refine RD.sl_mk (pR l n es) C E (by unfold maxLen at z;omega) (by rw[A];exact t) fun _=>⟨g,0,rfl,fun i x R=> ?_⟩
      have:=q.cells (g:=g) (by rw[J];rfl) i x R;rw[fJ]at this;exact⟨W _ _ _ hbg this,this⟩
    ·cases h
   ·cases h
  |vwn id N off n sz=>
   simp only[bu]at h;split at h
   ·rename_i e l ds p;split at h
    ·rename_i O;obtain⟨rfl,c0,c1,c2⟩:=O;obtain⟨es,a,rfl⟩:=bz h;obtain⟨_,u,n',H,X,P⟩:=hv.vwn_inv;obtain⟨v2,n2,xs,r,q,hI,U,S⟩:=K.vec p;rw[H]at r;cases r;have Q:N=n':=by
      rw[c1]at U;exact kK c0 U
     subst Q;obtain⟨b,c,a0,a1,E,z⟩:=P rfl;have Y:u.ownBlock=some b:=by rw[a0];rfl
     rw[a1];have t:=j _ _ es ((S.drop (off*l)).take (n*l)) a;have Z:=(s9 a).1;have a2:off*l+n*l≤N*l:=by rw[←eR];exact jU _ c2
     obtain⟨A,C⟩:=rf l n es (by rw[Z];simp;omega);refine RD.sl_mk (pR l n es) C E z (by rw[A];exact t) fun _=>⟨b,off*l,rfl,fun i x R=> ?_⟩
     rw[gb]at R;split at R
     ·rw[fB]at R;have hc:=q.cells Y _ x R;rw[fJ,au]at hc;exact⟨W _ _ _ (K.lies id _ b H Y).1 hc,hc⟩
     ·cases R
    ·cases h
   ·cases h
  |d y=>exact m _ rfl (by simpa[bu]using h) hv
  |tsl id sz rows=>exact m _ rfl (by simpa[bu]using h) hv
  |nil sz=>exact m _ rfl (by simpa[bu]using h) hv
  |emp sz=>exact m _ rfl (by simpa[bu]using h) hv
  |_=>exact m _ rfl (by simpa[bu]using h) hv
theorem aE.of_runs{P:Program}{l:Nat→Code→CC→Prop}{f:FuncId}{ds:List D}{x:AV}{n:List aa}{r:D}(h:iy l P f (ds.map .d) [] x n)(s:bu n 5 x=some r):aE P f ds r:=by
 refine⟨h.enters,fun I w vs p k g=> ?_⟩;have j:St l w.heap.size ⟨I,[]⟩ [] w:=⟨bh _,rfl,by simp,by simp,by simp,g⟩
 refine nT (h.calls w.heap.size ⟨I,[]⟩ w vs j ⟨by simp[p],fun i u c y hc=> ?_⟩) ?_
 ·rw[cC]at hc;obtain⟨d,o,rfl⟩:=db.1 hc;exact .d (k i u d y o)
 ·rintro e w' ⟨v,k',rfl,z,m,t⟩;refine⟨v,rfl,xO t (I':=ff I w.heap.size w') (fun b q u hb hc=>⟨?_,hc⟩) (fun b q u hb hc=> ?_) 5 x r v s z,m.below⟩
  ·by_cases a:b<w.heap.size
   ·rw[xm _ _ a];have:=m.low b a;rw[this]at hb;exact hb
   ·unfold ff;rw[if_neg a];exact qd hc
  ·unfold ff;rw[if_neg a8];exact qd hc
theorem aI{P:Program}{b:List Nat}{f:FuncId}{F:CF}(hc:aG P b f=some F.erase){args:List D}{r:D}(a:args.length≤F.n)(h:bR P none F.body (pG F.res fun x s=>bu s 5 x=some r) (lu 0 (args.map .d)) []):aE P f args r:=
 let⟨_,_,c,e⟩:=aT.of hc (by simpa using a) h;aE.of_runs c e
theorem Mc{P:Program}{f:FuncId}{args:List D}{r:D}(h:aT P f (args.map .d) [] fun x s=>bu s 5 x=some r):aE P f args r:=
 let⟨_,_,a,b⟩:=h;aE.of_runs a b
def Dy:D→Bool
 | .sc _=>true
 |_=>false
def vn:D→Bool
 | .sc _=>true
 | .agg cs=>cs.all Dy
 | .tup cs=>cs.all Dy
 |_=>false
theorem FQ{I I':Nat→Nat}{w w':World}{v:Value}{r:D}(h:RD I w v r)(a:Dy r=true):RD I' w' v r:=by
 cases h with
 |sc=>exact .sc _
 |_=>cases a
theorem MV{I I':Nat→Nat}{w w':World}{v:Value}{r:D}(h:RD I w v r)(e:vn r=true):RD I' w' v r:=by
 cases h with
 |sc=>exact .sc _
 |agg us ds b g c=>exact .agg us ds b g fun i u d f a=>FQ (c i u d f a) (iA.1 e d (bT a))
 |tup us ds b c=>exact .tup us ds b fun i u d f a=>FQ (c i u d f a) (iA.1 e d (bT a))
 |_=>cases e
theorem Im{α β:Type}{g:α→Option β}: ∀{l:List α} {l':List β},l'.length=l.length→(∀(i:Nat) (x:α),l[i]?=some x→ ∃y,l'[i]?=some y∧g x=some y)→cU g l=some l'
 |[],[],_,_=>rfl
 |[],_::_,h,_=>by simp at h
 |_::_,[],h,_=>by simp at h
 |x::l,y::l',h,hx=>by
  obtain⟨z,a,b⟩:=hx 0 x rfl;cases a;unfold cU;rw[b,Im (l:=l) (l':=l') (by simpa using h) fun i u c=>hx (i+1) u (by simpa using c)]
theorem H0{C:Nat→Code→CC→Prop}{B:Nat}{k:aF}{s s2:List aa}{w:World}(p:St C B k s2 w)(ha:fm s s2): ∀(f:Nat) (x:AV) (d:D) (v:Value),bu s f x=some d→RA k w v x→bu s2 f x=some d
 |0,x,d,v,h,_=>by simp[bu]at h
 |f+1,x,d,v,h,hv=>by
  have g: ∀(us:List Value) (cs:List AV) (es:List D),eT k w us cs→cU (bu s f) cs=some es→cU (bu s2 f) cs=some es:=fun us cs es z q=>by
   obtain⟨O,P⟩:=s9 q;refine Im O fun i c hc=> ?_;obtain⟨e,H,I⟩:=P i c hc;have hi:=(aR.1 hc).1;have A:=z.1;have M:us[i]?=some us[i]:=bV a8;exact⟨e,H,H0 p ha f _ _ _ I (z.2 i _ c M hc)⟩
  have same: ∀(id:Nat) (o:aa),x.hdl=some id→s[id]?=some o→s2[id]?=some o:=fun id o K L=>by
   exact xh p ha hv K L
  cases x with
  |agg cs=>
   obtain⟨us,rfl,q⟩:=hv.agg_inv;obtain⟨es,a,rfl⟩:=bz (show(cU (bu s f) cs).map D.agg=some d from h);show(cU (bu s2 f) cs).map D.agg=_;rw[g us cs es q.rvs a];rfl
  |tup cs=>
   obtain⟨us,rfl,q⟩:=hv.tup_inv;obtain⟨es,a,rfl⟩:=bz (show(cU (bu s f) cs).map D.tup=some d from h);show(cU (bu s2 f) cs).map D.tup=_;rw[g us cs es q a];rfl
  |ptr id off=>
   simp only[bu]at h⊢;split at h
   ·rename_i ds b;rw[same id _ rfl b];obtain⟨es,a,rfl⟩:=bz h;obtain⟨E,R,us,t,F,u,_⟩:=p.cells (same id _ rfl b);show(cU (bu s2 f) (ds.drop off)).map D.ref=_;rw[g _ _ es (u.drop off).rvs a];rfl
   ·cases h
  |win id off n sz=>
   simp only[bu]at h⊢;split at h
   ·rename_i ds b;split at h
    ·rename_i y;rw[same id _ rfl b];obtain⟨es,a,rfl⟩:=bz h;obtain⟨E,R,us,t,F,u,_⟩:=p.cells (same id _ rfl b);show(if off+n*sz≤ds.length then(cU (bu s2 f) ((ds.drop off).take (n*sz))).map (fun es=>D.sl sz (chunk sz n es))else none)=_;rw[if_pos y,g _ _ es ((u.drop off).take (n*sz)).rvs a];rfl
    ·cases h
   ·cases h
  |vec id n sz=>
   simp only[bu]at h⊢;split at h
   ·rename_i e m ds b;split at h
    ·rename_i j;rw[same id _ rfl b];obtain⟨es,a,rfl⟩:=bz h;obtain⟨v2,Q,xs,t,r,J,G,l⟩:=p.vec (same id _ rfl b);show(if m=sz∧0<sz∧ds.length=n*sz then(cU (bu s2 f) ds).map (fun es=>D.sl sz (chunk sz n es))else none)=_;rw[if_pos j,g _ _ es l.rvs a];rfl
    ·cases h
   ·cases h
  |vwn id N off n sz=>
   simp only[bu]at h⊢;split at h
   ·rename_i e m ds b;split at h
    ·rename_i j;rw[same id _ rfl b];obtain⟨es,a,rfl⟩:=bz h;obtain⟨v2,Q,xs,t,r,J,G,l⟩:=p.vec (same id _ rfl b);show(if m=sz∧0<sz∧ds.length=N*sz∧off+n≤N then(cU (bu s2 f) ((ds.drop (off*sz)).take (n*sz))).map (fun es=>D.sl sz (chunk sz n es))else none)=_;rw[if_pos j,g _ _ es ((l.drop (off*sz)).take (n*sz)).rvs a];rfl
    ·cases h
   ·cases h
  |_=>simpa[bu]using h
theorem aE.deepR{P:Program}{p:Nat→Code→CC→Prop}{f:FuncId}{ds:List D}{r:D}(h:aE P f ds r){xs:List AV}{s s2:List aa}(x:cU (bu s 5) xs=some ds)(ha:fm s s2)(t:vn r=true):iy p P f xs s2 (.d r) s2:=by
 refine⟨h.enters,fun B k w vs c j=> ?_⟩;obtain⟨y,z⟩:=s9 x;refine nT (h.calls (cellsIn w) w vs (by rw[j.1,y]) (fun i v d l n=> ?_) (c.glob.mono c.base)) ?_
 ·obtain⟨hi,_⟩:=aR.1 n;have hc:xs[i]?=some xs[i]:=bV a8;obtain⟨A,m,q⟩:=z i _ hc;rw[n]at m;cases m;have g:=j.2 i v _ l hc;exact xO c (I':=cellsIn w) (fun b o u _ a=>⟨qd a,a⟩) (fun b o u _ a=>qd a) 5 _ _ v (H0 c ha 5 _ _ v q g) g
 ·rintro e w' ⟨v,rfl,l,hb⟩;exact⟨v,⟨ff k.I w.heap.size w',k.own⟩,rfl,.d (MV l t),Ext.called c.base hb,c.called hb⟩
theorem aE.deep{P:Program}{a:Nat→Code→CC→Prop}{f:FuncId}{ds:List D}{r:D}(h:aE P f ds r){xs:List AV}{s:List aa}(c:cU (bu s 5) xs=some ds)(b:vn r=true):iy a P f xs s (.d r) s:=h.deepR c (fm.refl s) b
theorem aj.reads{P:Program}{f:FuncId}{a cs vs:List AV}{s:List aa}{K:AV→List aa→Nat→Prop}{ds:List D}{r:D}(h:aE P f ds r)(b:cU (bu s 5) (a++vs++cs)=some ds)(e:vn r=true)(c:K (.d r) s 1):aj P (.clo f a cs) vs s K:=
 .inr (.inr (.inl ⟨_,fun s2 ha=>h.deepR b ha e,c⟩))
theorem aj.deep{P:Program}{f:FuncId}{a cs vs:List AV}{s:List aa}{K:AV→List aa→Nat→Prop}{ds:List D}{r:D}(h:aE P f ds r)(b:cU (bu s 5) (a++vs++cs)=some ds)(e:vn r=true)(c:K (.d r) s 2):aj P (.clo f a cs) vs s K:=
 .inr (.inl ⟨_,_,aE.deep h b e,c⟩)
end Go.Bb
namespace Go.Ab
theorem Np(b:Bool):(b==true)=b:=by cases b<;>rfl
theorem No(b:Bool):(b==false)= !b:=by cases b<;>rfl
end Go.Ab
namespace Go.Proofs.Lg
theorem Pf{α:Type}(J K:List α):(J++K)[J.length]?=K[0]? :=by simp[gZ]
theorem Pg{α:Type}(J K:List α)(n:Nat):(J++K)[J.length+n]?=K[n]? :=by simp[gZ]
theorem Y3{α:Type}(J K:List α)(x:α):(J++K).set J.length x=J++K.set 0 x:=by simp[List.set_append_right]
theorem Y4{α:Type}(J K:List α)(n:Nat)(x:α):(J++K).set (J.length+n) x=J++K.set n x:=by simp[List.set_append_right]
theorem a0a(k:Nat):(((0:Nat):Int)≤(k:Int))=True:=eq_true a8
end Go.Proofs.Lg
namespace Go.Bb
open Go Go.Ab
def o0(d:Nat)(i:CI):CO:=⟨some d,none,i⟩
def om(d t:Nat):CO:=⟨some d,none,.mov (.t t)⟩
def og(d t:Nat)(b:Bool)(i:CI):CO:=⟨some d,some (some t,b),i⟩
def oh(d t:Nat)(b:Bool)(n:Nat):CO:=⟨some d,some (some t,b),.mov (.t n)⟩
def oN(i:CI):CO:=⟨none,none,i⟩
def xi(n:Int):X:= .c (.d (.sc (.int .i64 n)))
def fo(l:List CO):CC:= .ops false [] l
end Go.Bb
namespace Go.Bb
open Go Go.Ab Go.Proofs.Lg
end Go.Bb
namespace Go.Bb
open Go Go.Ab Go.Proofs.Lg
theorem ai{a b:Prop}(h:a)(k:b):a∧b:=⟨h,k⟩
def LW:=PLift.up (ai (ai (ai @Pf @Pg) (ai @Y3 @Y4)) (ai (ai @bj.{0} @a0a) (ai @iL (ai @py.{0} @au))))
theorem wj:type_of% LW.down:=LW.down
end Go.Bb
