/- Lemmas. -/
import Derived.Test.YtikhfhjohjfamaaGreatDoorPAD
import Derived.TacticsIn
import Derived.RangeFuncNested
set_option linter.unusedVariables false
set_option linter.unusedSimpArgs false
set_option maxRecDepth 100000
namespace Go.Bb
open Go Go.RowKit Go.Ab Go.Proofs.Lg
section
variable {LL:Nat->Code->CC->Prop} {P:Program} {o:Oper} {fr:Fr} {s s':List aa} {d:AV}
theorem uD{ci:CI}(h:jq LL P o fr s d s'):bA LL P o fr s d s'/\(ci.touch fr=3->jq LL P o fr s d s'):=⟨h.op,λ_=>h⟩
theorem eP{ci:CI}(h:bA LL P o fr s d s')(a:ci.touch fr≠3):bA LL P o fr s d s'/\(ci.touch fr=3->jq LL P o fr s d s'):=⟨h,λe=>absurd e a⟩
theorem Km{e:List Nat}{ci:CI}{x:Operand}(a:o.op= .move x\/o.op= .assign x)(h:vW P e o x=some ci)(b:ci.sem fr s=some (d,s')):bA LL P o fr s d s'/\(ci.touch fr=3->jq LL P o fr s d s'):=by
 unfold vW at h;split at h
 .split at h
  .rename_i f;obtain rfl:=aJ h;exact uD (U4 a rfl f b)
  .obtain⟨y,c,rfl⟩:=bK h;exact eP (BQ a c b) (by simp only[CI.touch];first|decide|(split<;>decide))
 .obtain⟨y,c,rfl⟩:=bK h;exact eP (BQ a c b) (by simp only[CI.touch];first|decide|(split<;>decide))
theorem I1{N:List Nat}{ci:CI}(h:mz P N o=some ci)(r:ci.sem fr s=some (d,s')):bA LL P o fr s d s'/\(ci.touch fr=3->jq LL P o fr s d s'):=by
 unfold mz at h;split at h
 .rename_i x g;exact Km (.inl g) h r
 .rename_i x g;exact Km (.inr g) h r
 .rename_i c a b g;split at h
  .rename_i x y z q p u;obtain rfl:=aJ h;exact eP (U6 g q p u r) (by simp only[CI.touch];first|decide|(split<;>decide))
  .cases h
 .rename_i t x g;split at h
  .rename_i n x q p;obtain rfl:=aJ h;exact eP (TV g q p r) (by simp only[CI.touch];first|decide|(split<;>decide))
  .cases h
 .rename_i t x v g;split at h
  .rename_i i x y q p u;obtain rfl:=aJ h;exact eP (Ue g q p u r) (by simp only[CI.touch];first|decide|(split<;>decide))
  .cases h
 .rename_i t x f g;split at h
  .rename_i V x q p;split at h
   .rename_i U u;split at h
    .cases h
    .rename_i w;obtain rfl:=aJ h;exact eP (TN g q u w p r) (by simp only[CI.touch];first|decide|(split<;>decide))
   .cases h
  .cases h
 .rename_i t x i g;unfold AT at h;split at h
  .rename_i e x y q p u;split at h
   .rename_i j w;obtain rfl:=aJ h;exact eP (TP g q w p u r) (by simp only[CI.touch];first|decide|(split<;>decide))
   .cases h
  .rename_i n e x y q p u;split at h
   .rename_i j w;obtain rfl:=aJ h;exact eP (TQ g q w p u r) (by simp only[CI.touch];first|decide|(split<;>decide))
   .cases h
  .cases h
 .rename_i t x i g;unfold AU at h;split at h
  .rename_i n e x y q p u;split at h
   .rename_i m j w A;obtain rfl:=aJ h;exact eP (TR g q w A p u r) (by simp only[CI.touch];first|decide|(split<;>decide))
   .cases h
  .rename_i x y q p u;obtain rfl:=aJ h;exact eP (Ua g q p u r) (by simp only[CI.touch];first|decide|(split<;>decide))
  .cases h
 .rename_i t x f g;split at h
  .rename_i V x q p;split at h
   .rename_i U u;split at h
    .rename_i n w;obtain rfl:=aJ h;exact eP (TO g q u w p r) (by simp only[CI.touch];first|decide|(split<;>decide))
    .cases h
   .cases h
  .cases h
 .rename_i x i g;obtain⟨y,B,rfl⟩:=bK h;exact eP (TM g B r) (by simp only[CI.touch];first|decide|(split<;>decide))
 .rename_i Z t x y t' g;unfold AQ at h;split at h
  .rename_i O H;split at h
   .rename_i x q;obtain rfl:=aJ h;exact eP (TU g H q r) (by simp only[CI.touch];first|decide|(split<;>decide))
   .cases h
  split at h
  .rename_i x y q p;split at h
   .rename_i ag ks O F;obtain rfl:=aJ h;exact eP (TL g q p F r) (by simp only[CI.touch];first|decide|(split<;>decide))
   .obtain rfl:=aJ h;exact eP (TD g q p r) (by simp only[CI.touch];first|decide|(split<;>decide))
  .cases h
 .rename_i t x g;obtain⟨y,B,rfl⟩:=bK h;exact eP (U5 g B r) (by simp only[CI.touch];first|decide|(split<;>decide))
 .rename_i t x g;split at h
  .rename_i k D;obtain⟨y,B,rfl⟩:=bK h;exact eP (KH g B r) (by simp only[CI.touch];first|decide|(split<;>decide))
  .cases h
 .rename_i t x g;split at h
  .rename_i k D;obtain⟨y,B,rfl⟩:=bK h;exact eP (KH g B r) (by simp only[CI.touch];first|decide|(split<;>decide))
  .cases h
 .rename_i t x lo hi mx g;unfold yf at h;split at h
  .rename_i e R l p u w A C;split at h
   .rename_i j E;obtain rfl:=aJ h;exact eP (Ub g u E w A C r) (by simp only[CI.touch];first|decide|(split<;>decide))
   .rename_i j m E;split at h
    .rename_i W;obtain rfl:=aJ h;exact eP (Ud g W u E w r) (by simp only[CI.touch];first|decide|(split<;>decide))
    .cases h
   .cases h
  .rename_i T R l p u w A C;split at h
   .rename_i n e E;split at h
    .rename_i j K;split at h
     .rename_i H;obtain rfl:=aJ h;exact eP (KG g (.inr ⟨_,u,E⟩) K w A C H r) (by simp only[CI.touch];first|decide|(split<;>decide))
     .cases h
    .cases h
   .cases h
  .rename_i n e R l p u w A C;split at h
   .rename_i j K;split at h
    .rename_i H;obtain rfl:=aJ h;exact eP (KG g (.inl u) K w A C H r) (by simp only[CI.touch];first|decide|(split<;>decide))
    .cases h
   .cases h
  .rename_i R l p u w A C;split at h
   .rename_i H;have:mx=none:=by simpa using H
    subst this;obtain rfl:=aJ h;exact eP (Uc g u w A C r) (by simp only[CI.touch];first|decide|(split<;>decide))
   .cases h
  .cases h
 .rename_i t x g;obtain⟨y,B,F⟩:=bK h;split at F
  .subst F;exact eP (TG g B r) (by simp only[CI.touch];first|decide|(split<;>decide))
  .subst F;exact uD (TF g B r)
 .rename_i t g;split at h
  .rename_i i q;split at h
   .rename_i z p;obtain⟨c,hc,rfl⟩:=bK h;split at r
    .rename_i G;rw[if_pos G];exact uD (TA g q p hc r)
    .rename_i G;rw[if_neg G];exact uD (Tz g q p hc r)
   .cases h
  .cases h
 .rename_i t I g;have M: ∃z Q,ci= .bld z Q:=by
   unfold vV at h
   (repeat' split at h)<;>first|(cases h;done)|(obtain⟨Q,_,F⟩:=bK h;exact⟨_,_,F.symm⟩)
  obtain⟨z,Q,rfl⟩:=M;exact eP (TE g h r) (by simp only[CI.touch];first|decide|(split<;>decide))
 .rename_i t n I g;exact U7 g h r
 .rename_i t l c g;exact uD (U0 g h r)
 .rename_i X dst x g;unfold yc at h;split at h
  .rename_i k' k x q p u;obtain rfl:=aJ h;exact eP (TK g q p u r) (by simp only[CI.touch];first|decide|(split<;>decide))
  .rename_i e x q p u;split at h
   .rename_i w;obtain rfl:=aJ h;split at r
    .rename_i G;rw[if_pos G];exact uD (U9 g q p w u r)
    .rename_i G;rw[if_neg G];exact eP (U8 g q p w u r) (by simp only[CI.touch];first|decide|(split<;>decide))
   .cases h
  .rename_i e x q p u;split at h
   .rename_i w;obtain rfl:=aJ h;exact eP (TC g q p w u r) (by simp only[CI.touch];first|decide|(split<;>decide))
   .cases h
  .cases h
 .rename_i x g;obtain⟨y,B,rfl⟩:=bK h;exact eP (U3 g B r) (by simp only[CI.touch];first|decide|(split<;>decide))
 .rename_i f xs ys g;split at h
  .rename_i us vs q p;obtain rfl:=aJ h;exact eP (TY g q p r) (by simp only[CI.touch];first|decide|(split<;>decide))
  .cases h
 .rename_i t g;split at h
  .rename_i kt et D;obtain rfl:=aJ h;exact uD (TZ (t:=t) (et:=et) g r)
  .cases h
 .rename_i t m k ok g;unfold AY at h;split at h
  .rename_i kt et D;split at h
   .rename_i L k' ks z q p u w;obtain rfl:=aJ h;exact eP (TW g D q p u w r) (by simp only[CI.touch];first|decide|(split<;>decide))
   .cases h
  .cases h
 .rename_i t m k v g;unfold vY at h;split at h
  .rename_i kt et D;split at h
   .rename_i L k' S ks q p u w;obtain rfl:=aJ h;exact eP (U2 g D q p u w r) (by simp only[CI.touch];first|decide|(split<;>decide))
   .cases h
  .cases h
 .rename_i t m k v g;unfold vY at h;split at h
  .rename_i kt et D;split at h
   .rename_i L k' S ks q p u w;obtain rfl:=aJ h;exact eP (TT g D q p u w r) (by simp only[CI.touch];first|decide|(split<;>decide))
   .cases h
  .cases h
 .rename_i t m k g;unfold AZ at h;split at h
  .rename_i kt et D;split at h
   .rename_i L k' ks z q p u w;obtain rfl:=aJ h;exact eP (TX g D q p u w r) (by simp only[CI.touch];first|decide|(split<;>decide))
   .cases h
  .cases h
 .rename_i t m i v g;unfold B0 at h;split at h
  .rename_i kt et D;split at h
   .rename_i L Y S q p u;obtain rfl:=aJ h;exact eP (U1 g D q p u r) (by simp only[CI.touch];first|decide|(split<;>decide))
   .cases h
  .cases h
 .rename_i c g;obtain⟨callee,args,J⟩:=c;obtain⟨args⟩:=args;obtain⟨J⟩:=J;unfold AR at h;dsimp only at h;split at h
  .unfold AX at h;split at h
   .split at h
    .rename_i e x q p;obtain rfl:=aJ h;exact eP (EU (kd:=0) g ⟨e,q⟩ p r) (by simp only[CI.touch];first|decide|(split<;>decide))
    .rename_i x q p;obtain rfl:=aJ h;exact eP (EU (kd:=1) g q p r) (by simp only[CI.touch];first|decide|(split<;>decide))
    .rename_i k e x q p;obtain rfl:=aJ h;exact eP (EU (kd:=2) g ⟨k,e,q⟩ p r) (by simp only[CI.touch];first|decide|(split<;>decide))
    .cases h
   .cases h
  .unfold AP at h;split at h
   .split at h
    .rename_i e x y q p u;split at h
     .rename_i j w;split at h
      .rename_i z A;split at h
       .rename_i C;obtain⟨rfl,E,K⟩:=C;obtain rfl:=aJ h;exact⟨TB g q w A E p u r,KE g q w A E p u r⟩
       .cases h
      .cases h
     .cases h
    .cases h
   .cases h
  .unfold AS at h;split at h
   .split at h
    .rename_i e x q p;split at h
     .rename_i j w;split at h
      .rename_i z A;split at h
       .rename_i C;obtain rfl:=aJ h;exact eP (TJ g q w A C.1 C.2 p r) (by simp[CI.touch])
       .cases h
      .cases h
     .cases h
    .cases h
   .cases h
  .unfold sA at h;split at h
   .split at h
    .rename_i x y q p;obtain rfl:=aJ h;exact eP (KF (mx:=true) g q p r) (by simp only[CI.touch];first|decide|(split<;>decide))
    .cases h
   .cases h
  .unfold sA at h;split at h
   .split at h
    .rename_i x y q p;obtain rfl:=aJ h;exact eP (KF (mx:=false) g q p r) (by simp only[CI.touch];first|decide|(split<;>decide))
    .cases h
   .cases h
  .obtain⟨y,B,rfl⟩:=bK h;cases r
  .split at h
   .obtain rfl:=aJ h;cases r
   .cases h
  .cases h
 .cases h
theorem B1{a:List Nat}{ci:CI}(h:mz P a o=some ci)(b:ci.sem fr s=some (d,s')):bA LL P o fr s d s':=(I1 h b).1
theorem Qx{a:List Nat}{ci:CI}(h:mz P a o=some ci)(b:ci.sem fr s=some (d,s'))(c:ci.touch fr=3):jq LL P o fr s d s':=(I1 h b).2 c
theorem MH{ci:CI}(h:ci.sem fr s=some (d,s'))(a:ci.touch fr<2):s'=s:=by
 cases ci with
 |st n x v=>simp[CI.touch]at a
 |app mu e sz b x y=>exact absurd a (Nat.not_lt.2 (Dr (x.ev fr)))
 |mup ag ks m k v=>simp[CI.touch]at a
 |men ag ks z m k=>simp[CI.touch]at a
 |mst m i v=>simp[CI.touch]at a
 |box x=>simp[CI.touch]at a
 |s2o e x=>simp[CI.touch]at a
 |bxt t x=>simp[CI.touch]at a
 |clr sz z x=>simp[CI.touch]at a
 |bsl mu e sz n z ps=>simp[CI.touch]at a
 |mks mu e b z l c=>simp[CI.touch]at a
 |mkm ag=>simp[CI.touch]at a
 |nlr e sz=>simp[CI.touch]at a
 |call c xs=>cases h
 |bad=>cases h
 |_=>exact(eh h).2
theorem sX{s s2:List aa}{v:AV}(h: ∀id,v.hdl=some id->s2[id]?=s[id]?):ir s2 v=ir s v:=by
 unfold ir;cases a:v.hdl with
 |none=>rfl
 |some id=>exact h id a
theorem MG{ci:CI}(h:ci.sem fr s=some (d,s))(p:ci.touch fr<2){s2:List aa}(r: ∀id,ci.use fr=some id->s2[id]?=s[id]?):ci.sem fr s2=some (d,s2):=by
 have u: ∀{s2:List aa} {x:Option AV},x=some d->ret s2 x=some (d,s2):=λh=>by rw[h];rfl
 cases ci with
 |st n x v=>simp[CI.touch]at p
 |app mu e sz b x y=>exact absurd p (Nat.not_lt.2 (Dr (x.ev fr)))
 |mup ag ks m k v=>simp[CI.touch]at p
 |men ag ks z m k=>simp[CI.touch]at p
 |mst m i v=>simp[CI.touch]at p
 |box x=>simp[CI.touch]at p
 |s2o e x=>simp[CI.touch]at p
 |bxt t x=>simp[CI.touch]at p
 |clr sz z x=>simp[CI.touch]at p
 |bsl mu e sz n z ps=>simp[CI.touch]at p
 |mks mu e b z l c=>simp[CI.touch]at p
 |mkm ag=>simp[CI.touch]at p
 |nlr e sz=>simp[CI.touch]at p
 |call c xs=>cases h
 |bad=>cases h
 |ld n x=>
  obtain⟨hc,_⟩:=eh h;obtain⟨v,f,g⟩:=aT hc;refine u ?_;rw[f,eE,sX λid a=>r id (by simp only[CI.use,f,eE,a])];exact g
 |iad sz x i=>
  obtain⟨hc,_⟩:=eh h;obtain⟨j,C,q⟩:=aT hc;obtain⟨v,f,g⟩:=aT q;refine u ?_;rw[C,eE,f,eE];cases v with
  |vec id m w=>
   rw[sX λid a=>r id (by simp only[CI.use,f,eE];exact a)];exact g
  |vwn id N m n w=>
   rw[sX λid a=>r id (by simp only[CI.use,f,eE];exact a)];exact g
  |_=>exact g
 |slc sz x lo hi=>
  obtain⟨hc,_⟩:=eh h;obtain⟨v,f,q⟩:=aT hc;obtain⟨l,D,B⟩:=aT q;obtain⟨m,hm,g⟩:=aT B;refine u ?_;rw[f,eE,D,eE,hm,eE];cases v with
  |vec id m w=>
   rw[sX λid a=>r id (by simp only[CI.use,f,eE];exact a)];exact g
  |vwn id N m n w=>
   rw[sX λid a=>r id (by simp only[CI.use,f,eE];exact a)];exact g
  |_=>exact g
 |len kd x=>
  obtain⟨hc,_⟩:=eh h;obtain⟨v,f,g⟩:=aT hc;refine u ?_;rw[f,eE];by_cases hk:kd=2
  .rw[sX λid a=>r id (by simp only[CI.use,hk,if_true,f,eE,a])];exact g
  .have: ∀o o',gr o kd v=gr o' kd v:=λo o'=>by
    unfold gr;split<;>first|rfl|exact absurd rfl hk
   rw[this _ (ir s v)];exact g
 |b2s x=>
  obtain⟨hc,_⟩:=eh h;obtain⟨v,f,g⟩:=aT hc;refine u ?_;rw[f,eE,sX λid a=>r id (by simp only[CI.use,f,eE,a])];exact g
 |lkp ag ks z ok m k=>
  obtain⟨hc,_⟩:=eh h;obtain⟨key,A,q⟩:=aT hc;obtain⟨v,f,g⟩:=aT q;refine u ?_;rw[A,eE,f,eE,sX λid a=>r id (by simp only[CI.use,f,eE,a])];exact g
 |_=>exact u (eh h).1
theorem Nk{ci:CI}(a:ci.touch fr<2):ci.touch fr=if(ci.use fr).isSome then 1 else 0:=by
 cases ci with
 |st n x v=>simp[CI.touch]at a
 |app mu e sz b x y=>exact absurd a (Nat.not_lt.2 (Dr (x.ev fr)))
 |mup ag ks m k v=>simp[CI.touch]at a
 |men ag ks z m k=>simp[CI.touch]at a
 |mst m i v=>simp[CI.touch]at a
 |box x=>simp[CI.touch]at a
 |s2o e x=>simp[CI.touch]at a
 |bxt t x=>simp[CI.touch]at a
 |clr sz z x=>simp[CI.touch]at a
 |bsl mu e sz n z ps=>simp[CI.touch]at a
 |mks mu e b z l c=>simp[CI.touch]at a
 |mkm ag=>simp[CI.touch]at a
 |nlr e sz=>simp[CI.touch]at a
 |_=>rfl
theorem ZK{ci:CI}(h:ci.sem fr s=some (d,s)){id:Nat}(f:ci.use fr=some id):id<s.length:=by
 have lt: ∀{x:aa},s[id]?=some x->id<s.length:=λh=>(aV.1 h).1;cases ci with
 |ld n x=>
  obtain⟨hc,_⟩:=eh h;obtain⟨v,p,c⟩:=aT hc;simp only[CI.use,p,eE]at f;have t:ir s v=s[id]? :=by unfold ir;rw[f];rfl
  rw[t]at c;unfold kU at c;split at c
  .cases f
  .obtain⟨cs,a,_⟩:=aT c;exact lt (uf a)
  .obtain⟨⟨sz,ds⟩,a,_⟩:=aT c;obtain⟨e,o,_⟩:=jo a;exact lt o
  .cases c
 |iad sz x i=>
  obtain⟨hc,_⟩:=eh h;obtain⟨j,D,g⟩:=aT hc;obtain⟨v,p,c⟩:=aT g;simp only[CI.use,p,eE]at f;cases v with
  |vec q m u=>
   cases f;obtain⟨⟨w,ds⟩,a,_⟩:=aT c;obtain⟨e,o,_⟩:=jo a;exact lt o
  |vwn q N m n u=>
   cases f;obtain⟨⟨w,ds⟩,a,_⟩:=aT c;obtain⟨e,o,_⟩:=jo a;exact lt o
  |_=>cases f
 |slc sz x lo hi=>
  obtain⟨hc,_⟩:=eh h;obtain⟨v,p,g⟩:=aT hc;obtain⟨l,E,y⟩:=aT g;obtain⟨m,hm,c⟩:=aT y;simp only[CI.use,p,eE]at f;cases v with
  |vec q m u=>
   cases f;obtain⟨⟨w,ds⟩,a,_⟩:=aT c;obtain⟨e,o,_⟩:=jo a;exact lt o
  |vwn q N m n u=>
   cases f;obtain⟨⟨w,ds⟩,a,_⟩:=aT c;obtain⟨e,o,_⟩:=jo a;exact lt o
  |_=>cases f
 |len kd x=>
  obtain⟨hc,_⟩:=eh h;obtain⟨v,p,c⟩:=aT hc;by_cases hk:kd=2
  .subst hk;simp only[CI.use,p,eE,if_true]at f;have t:ir s v=s[id]? :=by unfold ir;rw[f];rfl
   obtain⟨n,A,_⟩:=bK c;rw[t]at A;cases v with
   |mp q=>obtain⟨ag,es,r,_⟩:=Kc (show sO s[id]?=some n from A);exact lt r
   |d x=>cases f
   |_=>simp[gr]at A
  .simp[CI.use,hk]at f
 |b2s x=>
  obtain⟨hc,_⟩:=eh h;obtain⟨v,p,c⟩:=aT hc;simp only[CI.use,p,eE]at f;have t:ir s v=s[id]? :=by unfold ir;rw[f];rfl
  obtain⟨b,hb,_⟩:=bK c;rw[t]at hb;unfold tz at hb;split at hb
  .split at hb
   .obtain⟨cs,a,_⟩:=aT hb;exact lt (uf a)
   .cases hb
  .split at hb
   .obtain⟨⟨sz,ds⟩,a,_⟩:=aT hb;obtain⟨e,o,_⟩:=jo a;exact lt o
   .cases hb
  .obtain⟨rows,C,_⟩:=aT hb;have:=MO C;cases v<;>simp[AV.hdl]at f<;>simp[AV.toL]at this
 |lkp ag ks z ok m k=>
  obtain⟨hc,_⟩:=eh h;obtain⟨key,B,g⟩:=aT hc;obtain⟨v,p,c⟩:=aT g;simp only[CI.use,p,eE]at f;have t:ir s v=s[id]? :=by unfold ir;rw[f];rfl
  rw[t]at c;unfold rH at c;split at c
  .obtain⟨es,r,_⟩:=aT c;exact lt (yN r)
  .cases f
  .cases c
 |_=>cases f
theorem qz(id:Nat)(s:List aa)(x:aa):tZ id s (s.set id x):=⟨by simp,λj a=>by rw[bC (Ne.symm a)]⟩
theorem YC{ci:CI}(h:ci.sem fr s=some (d,s')){id:Nat}(f:ci.wr fr=some id):tZ id s s':=by
 cases ci with
 |clr sz z x=>
  obtain⟨p,hp,l⟩:=aT (show(x.ev fr).bind (uT s sz z)=some (d,s')from h);simp only[CI.wr,hp,eE]at f;unfold uT at l;split at l
  .cases f;obtain⟨_,_,c⟩:=aT l;split at c
   .cases c;exact qz ..
   .cases c
  .cases l
 |st n x v=>
  obtain⟨p,hp,l⟩:=aT (show((x.ev fr).bind λp=>((v.ev fr).bind AV.cells).bind λvs=>pr s n vs p)=some (d,s')from h);obtain⟨vs,_,c⟩:=aT l;simp only[CI.wr,hp,eE]at f;unfold pr at c;split at c
  .cases f;obtain⟨cs,_,a⟩:=aT c;unfold putCells at a;split at a
   .cases a;exact qz ..
   .cases a
  .cases f;obtain⟨cs,_,a⟩:=aT c;unfold z6 at a;split at a
   .cases a;exact qz ..
   .cases a
  .cases c
 |app mu e sz b x y=>
  obtain⟨p,hp,l⟩:=aT (show((x.ev fr).bind λv=>(y.ev fr).bind λu=>jD s mu e sz b u v)=some (d,s')from h);obtain⟨u,_,c⟩:=aT l;simp only[CI.wr,hp,eE]at f;unfold jD at c;split at c
  .cases f;obtain⟨us,_,a⟩:=aT c;obtain⟨p,_,g⟩:=aT a;split at g
   .cases g;exact qz ..
   .cases g
  .cases f
  .cases f
  .cases f;obtain⟨news,_,a⟩:=aT c;split at a
   .cases a;exact qz ..
   .cases a
  .cases f;obtain⟨us,_,a⟩:=aT c;obtain⟨p,_,g⟩:=aT a;split at g
   .have t:=aJ g;split at t
    .cases t;exact qz ..
    .cases t;exact qz ..
   .cases g
  .cases c
 |mup ag ks m k v=>
  obtain⟨key,_,l⟩:=aT (show(((k.ev fr).bind (AV.keyK ag ks)).bind λkey=>(v.ev fr).bind λu=>(m.ev fr).bind λp=>pq ag ks s key u p)=some (d,s')from h);obtain⟨u,_,c⟩:=aT l;obtain⟨p,hp,a⟩:=aT c;simp only[CI.wr,hp,eE]at f;unfold pq at a;split at a
  .cases f;obtain⟨es,_,g⟩:=aT a;obtain⟨r,_,o⟩:=bK g;cases o;exact qz ..
  .cases a
 |men ag ks z m k=>
  obtain⟨key,_,l⟩:=aT (show(((k.ev fr).bind (AV.keyK ag ks)).bind λkey=>(m.ev fr).bind λp=>uU ag ks s key z p)=some (d,s')from h);obtain⟨p,hp,a⟩:=aT l;simp only[CI.wr,hp,eE]at f;unfold uU at a;split at a
  .cases f;obtain⟨es,_,g⟩:=aT a;obtain⟨r,_,o⟩:=bK g;split at o<;>(cases o;exact qz ..)
  .cases a
 |mst m i v=>
  obtain⟨j,_,l⟩:=aT (show(((i.ev fr).bind AV.int?).bind λj=>(v.ev fr).bind λu=>(m.ev fr).bind λp=>uV s j u p)=some (d,s')from h);obtain⟨u,_,c⟩:=aT l;obtain⟨p,hp,a⟩:=aT c;simp only[CI.wr,hp,eE]at f;unfold uV at a;split at a
  .cases f;obtain⟨q,_,g⟩:=aT a;split at g
   .obtain⟨r,_,o⟩:=bK g;cases o;exact qz ..
   .cases g
  .cases a
 |_=>cases f
end
end Go.Bb
namespace Go.Bb
open Go Go.RowKit Go.Ab Go.Proofs.Lg
def mE(fr:Fr):Option (Option Nat×Bool)->Option Bool
 |none=>some true
 |some (none,_)=>some false
 |some (some t,want)=>match look fr t with
  |some (.d (.sc (.bool b)))=>some (b==want)
  |some (.d (.sc (.tuple _)))=>some false
  |_=>none
def HV(P:Program)(a:List Nat)(o:Oper):Option CI:=match mz P a o with
 |some ci=>some ci
 |none=>if fj o then some .bad else none
def vZ(P:Program)(a:List Nat)(ops:Array Oper)(o:Oper):Option CO:=
 match HV P a o with
 |some ci=>some ⟨o.dst,match o.guard with
  |none=>none
  |some (j,want)=>some ((ops[j]?).bind (·.dst),want),ci⟩
 |none=>none
def kK(P:Program)(a:List Nat)(ops:Array Oper):List Oper->Option (List CO)
 |[]=>some []
 |o::l=>match vZ P a ops o,kK P a ops l with
  |some c,some cs=>some (c::cs)
  |_,_=>none
def comp(P:Program)(e:List Nat)(N:Nat):Code->Option CC
 | .skip=>some .skip
 | .label _=>some .skip
 | .region _ ops g=>if ops.all (λo=>match o.dst with|some d=>decide (d<N)|none=>true)&&(!g||(P.follows .mixedOrders&&uG ops []))then
   (kK P e ops ops.toList).map λl=> .ops g (if g then(Region.before ops).toList else[]) l else none
 | .seq a b=>match comp P e N a,comp P e N b with
  |some a,some b=>some (.seq a b)
  |_,_=>none
 | .cond c a b=>match cX P 0 c,comp P e N a,comp P e N b with
  |some c,some a,some b=>some (.cond c a b)
  |_,_,_=>none
 | .block id c=>(comp P e N c).map (.block id)
 | .loop c=>(comp P e N c).map .loop
 | .exit id=>some (.exit id)
 | .ret=>some .ret
 | .rangeFunc f ps a b=>match cX P 0 f,comp P e N a,comp P e N b with
  |some f,some a,some b=>if ps.all (λt=>decide (t<N))then some (.rng N f ps.toList a b)else none
  |_,_,_=>none
 |_=>none
def CC.erase:CC->CC
 | .trim _ c=>c.erase
 | .seq a b=> .seq a.erase b.erase
 | .cond x a b=> .cond x a.erase b.erase
 | .block id c=> .block id c.erase
 | .loop c=> .loop c.erase
 | .rng n f ps a b=> .rng n f ps a.erase b.erase
 | .skip=> .skip
 | .ops e d l=> .ops e d l
 | .exit id=> .exit id
 | .ret=> .ret
def dH(P:Program):Nat->Code->CC->Prop:=λN c cc=> ∃a,comp P a N c=some cc.erase
section
variable {P:Program} {N:Nat} {rd:Option Nat}
def Dj(P:Program)(N:Nat)(rd:Option Nat)(cc:CC)(fr:Fr)(s:List aa)(e:Exit)(fr':Fr)(a:List aa):Prop:=
 ∀c,dH P N c cc->jZ (dH P) P N rd c fr s e fr' a
def AC(P:Program)(N:Nat)(rd:Option Nat)(cc:CC)(Q:Exit->Fr->List aa->Prop)(fr:Fr)(s:List aa):Prop:=
 ∃e fr' a,Q e fr' a/\Dj P N rd cc fr s e fr' a
structure aI(P:Program)(f:FuncId)(args:List D)(r:D):Prop where
 enters:Enters P f
 calls: ∀(I:Nat->Nat) (w:World) (vs:List Value),vs.length=args.length->(∀(i:Nat) (v:Value) (d:D),vs[i]?=some v->args[i]?=some d->RD I w v d)->GW w.heap.size w->
  Calls P f vs.toArray w λe w'=> ∃v,e= .returned v/\RD (gA I w.heap.size w') w' v r/\Below w.heap.size w w'
def nI:List AV->Option (List D)
 |[]=>some []
 |x::l=>x.toD.bind λd=>(nI l).map (d:: ·)
theorem Ng: ∀{xs:List AV} {ds:List D},nI xs=some ds->ds.length=xs.length/\ ∀(i:Nat) (d:D),ds[i]?=some d-> ∃x,xs[i]?=some x/\x.toD=some d
 |[],ds,h=>by simp[nI]at h;subst h;simp
 |x::xs,ds,h=>by
  obtain⟨d,f,c⟩:=aT (show(x.toD.bind λd=>(nI xs).map (d:: ·))=some ds from h);obtain⟨b,e,rfl⟩:=bK c;obtain⟨g,j⟩:=Ng e;refine⟨by simp[g],λi y a=> ?_⟩;cases i with
  |zero=>simp at a;subst a;exact⟨x,rfl,f⟩
  |succ i=>exact j i y (by simpa using a)
theorem aI.runs{g:Nat->Code->CC->Prop}{f:FuncId}{ds:List D}{r:D}(h:aI P f ds r){xs:List AV}(n:nI xs=some ds)(s:List aa):iK g P f xs s (.d r) s:=by
 refine⟨h.enters,λB k w vs a b=> ?_⟩;obtain⟨o,p⟩:=Ng n;refine qJ (h.calls k.I w vs (by rw[b.1,o]) (λi v d c m=> ?_) (a.glob.mono a.base)) ?_
 .obtain⟨x,j,l⟩:=p i d m;exact(b.2 i v x c j).toD l
 .rintro e w' ⟨v,rfl,c,hb⟩;exact⟨v,⟨gA k.I w.heap.size w',k.own⟩,rfl,.d c,Ext.called a.base hb,a.called hb⟩
def pS(fr:Fr):A5->Option AV
 | .fn f=>some (.clo f [] [])
 | .val x=>x.ev fr
def a0R:AV->List AV->Option (FuncId×List D)
 | .clo f fs cs,vs=>(nI (fs++vs++cs)).map λds=>(f,ds)
 |_,_=>none
def af(P:Program)(b:AV)(vs:List AV)(s:List aa)(K:AV->List aa->Nat->Prop):Prop:=
 (∃d,(∀s2,qI (dH P) P b vs s2 d s2)/\K d s 0)\/(∃d a,qI (dH P) P b vs s d a/\K d a 2)\/(∃d,(∀s2,gx s s2->qI (dH P) P b vs s2 d s2)/\K d s 1)\/(∃d xs,(∀s2,gx s s2->iy s2 s.length xs.length->qI (dH P) P b vs s2 d (fill s2 s.length xs))/\K d (s++xs) 3)\/(∃d a id,qI (dH P) P b vs s d a/\tZ id s a/\K d a (5+2*id))
theorem af.mono{e:AV}{vs:List AV}{s:List aa}{K c:AV->List aa->Nat->Prop}(h:af P e vs s K)(hk: ∀d s f,K d s f->c d s f):af P e vs s c:=by
 rcases h with⟨d,a,b⟩|⟨d,s',a,b⟩|⟨d,a,b⟩|⟨d,xs,a,b⟩|⟨d,s',id,a,b,h3⟩
 .exact .inl ⟨d,a,hk _ _ _ b⟩
 .exact .inr (.inl ⟨d,s',a,hk _ _ _ b⟩)
 .exact .inr (.inr (.inl ⟨d,a,hk _ _ _ b⟩))
 .exact .inr (.inr (.inr (.inl ⟨d,xs,a,hk _ _ _ b⟩)))
 .exact .inr (.inr (.inr (.inr ⟨d,s',id,a,b,hk _ _ _ h3⟩)))
theorem af.data{f:FuncId}{a cs vs:List AV}{s:List aa}{K:AV->List aa->Nat->Prop}{ds:List D}{r:D}(h:aI P f ds r)(b:nI (a++vs++cs)=some ds)(hk:K (.d r) s 0):af P (.clo f a cs) vs s K:=
 .inl ⟨_,λs2=>h.runs b s2,hk⟩
theorem af.run{b:AV}{vs:List AV}{s:List aa}{K:AV->List aa->Nat->Prop}{d:AV}{a:List aa}(h:qI (dH P) P b vs s d a)(hk:K d a 2):af P b vs s K:= .inr (.inl ⟨d,a,h,hk⟩)
theorem Qd{fr:Fr}{c:A5}{d:AV}(hc:pS fr c=some d){o:Oper}{p:Operand}(hp:(∃f,c= .fn f/\p= .func f)\/(∃x,c= .val x/\cX P 0 p=some x/\p∈o.op.operands)){k:aP}{w:World}{a:Act}(b:jX k w a o fr):RA k w (a.eval p) d:=by
 rcases hp with⟨f,rfl,rfl⟩|⟨x,rfl,hx,hmem⟩
 .obtain rfl:=aJ hc;exact .clo (us:=[]) (vs:=[]) rfl rfl (by simp) (by simp)
 .exact bU b hmem hx hc
theorem I2{fz mu:Bool}{t:TypeId}{n:Nat}{g:List (Nat×Operand)}{ci:CI}(h:ye P fz mu t n g=some ci):(∃a b c d,ci= .bsf a b c d)\/(∃a b c d e f,ci= .bsl a b c d e f):=by
 unfold ye at h;split at h
 .split at h
  .split at h
   .split at h
    .obtain⟨j,_,i⟩:=dy.1 h;cases fz with
     |true=>exact .inl ⟨_,_,_,_,i.symm⟩
     |false=>exact .inr ⟨_,_,_,_,_,_,i.symm⟩
    .cases h
   .cases h
  .cases h
 .cases h
theorem Qw{i:List Nat}{o:Oper}{c:A5}{xs:List X}(h:mz P i o=some (.call c xs)):
  ∃p ps ts,o.op= .call {callee:= .value p,args:=ps,argTypes:=ts}/\je P ts.toList ps.toList=some xs/\((∃f,c= .fn f/\p= .func f)\/(∃x,c= .val x/\cX P 0 p=some x/\p∈o.op.operands)):=by
 unfold mz at h;split at h
 all_goals first
  |(
   rename_i j d;obtain⟨callee,args,b⟩:=j;unfold AR at h;dsimp only at h;split at h
   .unfold AX at h
    (repeat' split at h)<;>first|(cases h;done)|(injection h with h;cases h)
   .unfold AP at h
    (repeat' split at h)<;>first|(cases h;done)|(injection h with h;cases h)
   .unfold AS at h
    (repeat' split at h)<;>first|(cases h;done)|(injection h with h;cases h)
   .unfold sA at h
    (repeat' split at h)<;>first|(cases h;done)|(injection h with h;cases h)
   .unfold sA at h
    (repeat' split at h)<;>first|(cases h;done)|(injection h with h;cases h)
   .rename_i g;obtain⟨y,e,a⟩:=dy.1 h;injection a with e1 e2
    subst e1;subst e2;exact⟨.func g,args,b,d,e,.inl ⟨g,rfl,rfl⟩⟩
   .rename_i p _;split at h
    .rename_i x q k l;injection h with h
     injection h with e1 e2
     subst e1;subst e2;exact⟨p,args,b,d,l,.inr ⟨x,rfl,k,by rw[d];simp[Op.operands,Call.operands]⟩⟩
    .cases h
   .cases h)
  |(exfalso;obtain⟨y,e,a⟩:=dy.1 h;first|(cases a;done)|(split at a<;>(cases a;done)))
  |(exfalso;unfold vW at h;(repeat' split at h)<;>first|(cases h;done)|(injection h with h;cases h;done)|(obtain⟨y,e,a⟩:=dy.1 h;cases a;done))
  |(exfalso;unfold vV at h;(repeat' split at h)<;>first|(cases h;done)|(obtain⟨n,_,a⟩:=dy.1 h;cases a;done))
  |(exfalso;have m:=I2 h;rcases m with⟨_,_,_,_,a⟩|⟨_,_,_,_,_,_,a⟩<;>(cases a;done))
  |(exfalso;unfold yd at h;(repeat' split at h)<;>first|(cases h;done)|(injection h with h;cases h;done))
  |(exfalso;unfold AQ at h;(repeat' split at h)<;>first|(cases h;done)|(injection h with h;cases h;done))
  |(exfalso;unfold AT at h;(repeat' split at h)<;>first|(cases h;done)|(injection h with h;cases h;done))
  |(exfalso;unfold AU at h;(repeat' split at h)<;>first|(cases h;done)|(injection h with h;cases h;done))
  |(exfalso;unfold yf at h;(repeat' split at h)<;>first|(cases h;done)|(injection h with h;cases h;done))
  |(exfalso;unfold yc at h;(repeat' split at h)<;>first|(cases h;done)|(injection h with h;cases h;done)|(injection h with h;split at h<;>(cases h;done)))
  |(exfalso;unfold AY at h;(repeat' split at h)<;>first|(cases h;done)|(injection h with h;cases h;done))
  |(exfalso;unfold vY at h;(repeat' split at h)<;>first|(cases h;done)|(injection h with h;cases h;done))
  |(exfalso;unfold AZ at h;(repeat' split at h)<;>first|(cases h;done)|(injection h with h;cases h;done))
  |(exfalso;unfold B0 at h;(repeat' split at h)<;>first|(cases h;done)|(injection h with h;cases h;done))
  |(exfalso;(repeat' split at h)<;>first|(cases h;done)|(obtain⟨n,_,a⟩:=dy.1 h;first|(cases a;done)|(split at a<;>(cases a;done)))|(injection h with h;cases h))
theorem TH{E:Nat->Code->CC->Prop}{o:Oper}{fr:Fr}{s G:List aa}{d:AV}{p:Operand}{ps:Array Operand}{ts:Array TypeId}{xs:List X}{t:AV}{vs:List AV}(y:o.op= .call {callee:= .value p,args:=ps,argTypes:=ts})
  (hc: ∀(k:aP) (w:World) (a:Act),jX k w a o fr->RA k w (a.eval p) t) (K:je P ts.toList ps.toList=some xs) (J:jN fr xs=some vs) (h:qI E P t vs s d G):bA E P o fr s d G:=by
 intro B k a w l n x r M;refine⟨λf _=>tQ r f,?_⟩;rw[xy,Cw x];have c:fU k w (ps.toList.map a.eval) vs:=Bg l K (λq F=>by rw[y];simp only[Op.operands,Call.operands];simp at F⊢;exact .inr F) J;have m:=hc k w a l;have i:ps.map a.eval=(ps.toList.map a.eval).toArray:=by apply Array.ext';simp
 have j:(FW r).depth.isSome=true->1<=0:=λh=>by rw[Db]at h;cases h
 cases t with
 |clo f N cs=>
  obtain⟨us,D,u,H,I⟩:=m.clo_inv;have g:(execOp a.eval o).run P w= .ok (.enter f (us++ps.toList.map a.eval++D).toArray) w:=by
   unfold execOp;rw[y];simp only[resolve,u,Deferred.ofValue,bP,cJ,bV,invoke];have:us.toArray++Array.map a.eval ps++D.toArray=(us++ps.toList.map a.eval++D).toArray:=by rw[i];simp
   rw[this];exact h.enters _ w
  rw[g,Oper.uponIn_enter];refine⟨j,DH (qJ (h.calls B k w _ n ((H.append c).append I)) ?_)⟩;rintro e w' ⟨v,k',rfl,z,A,C⟩;exact⟨v,rfl,k',z,A,C⟩
 |yld id=>
  obtain⟨b,hb,u⟩:=m.yld_inv;obtain⟨fn,tmps,assign,body,L,hround⟩:=h B k w _ b n c hb;have g:(execOp a.eval o).run P w= .ok (.round b fn tmps assign body) w:=by
   unfold execOp;rw[y];simp only[resolve,u,Deferred.ofValue,bP,cJ,bV,invoke,Array.empty_append];rw[i];exact L
  rw[g,Oper.uponIn_round];refine⟨j,Yr (RoundIn.mono hround ?_)⟩;rintro e w' ⟨v,k',rfl,z,A,C⟩;exact⟨v,rfl,k',z,A,C⟩
 |_=>exact h.elim
def nM(b:Bool)(x y:Prop):Prop:=(b=false->x)/\(b=true->y)
theorem GF(x y:Prop):nM true x y=y:=by simp[nM]
theorem GD(x y:Prop):nM false x y=x:=by simp[nM]
@[congr] theorem a0D (b a:Bool) (x y:Prop) (h:b=a):nM b x y=nM a x y:=by rw[h]
def cW(P:Program):List CO->(Fr->List aa->List Nat->Prop)->List Nat->Fr->List aa->Prop
 |[],K,acc,fr,s=>K fr s acc.reverse
 |o::l,K,acc,fr,s=>match mE fr o.g with
  |none=>False
  |some b=>nM b (cW P l K (0::acc) (dt fr o.dst nJ) s) (match o.ci with
   | .call c xs=>match pS fr c,jN fr xs with
    |some cv,some vs=>af P cv vs s λd a e=>cW P l K (e::acc) (dt fr o.dst d) a
    |_,_=>False
   |ci=>match ci.sem fr s with
    |some (d,a)=>cW P l K (ci.mark fr::acc) (dt fr o.dst d) a
    |none=>False)
theorem uu{a:List Nat}{ops:Array Oper}{o:Oper}{c:CO}(h:vZ P a ops o=some c)(fr:Fr):mE fr c.g=gd ops fr o:=by
 unfold vZ at h;split at h
 .obtain rfl:=aJ h;unfold gd mE;cases hg:o.guard with
  |none=>rfl
  |some d=>
   obtain⟨j,b⟩:=d;dsimp only;cases e:(ops[j]?).bind (·.dst)with
   |none=>rfl
   |some t=>rfl
 .cases h
theorem sB{a:List Nat}{ops:Array Oper}{o:Oper}{c:CO}(h:vZ P a ops o=some c):(mz P a o=some c.ci\/(c.ci= .bad/\fj o=true))/\c.dst=o.dst:=by
 unfold vZ at h;split at h
 .rename_i ci hc;obtain rfl:=aJ h;refine⟨?_,rfl⟩;unfold HV at hc;split at hc
  .rename_i d b;obtain rfl:=aJ hc;exact .inl b
  .split at hc
   .rename_i e;obtain rfl:=aJ hc;exact .inr ⟨rfl,e⟩
   .cases hc
 .cases h
theorem ui{a:List Nat}{ops:Array Oper}{l:List Oper}{c:CO}{cs:List CO}(h:kK P a ops l=some (c::cs)): ∃o l',l=o::l'/\vZ P a ops o=some c/\kK P a ops l'=some cs:=by
 cases l with
 |nil=>simp[kK]at h
 |cons o l'=>
  unfold kK at h;split at h
  .rename_i f b d e;cases h;exact⟨o,l',rfl,d,e⟩
  .cases h
theorem Qv{a:List Nat}{ops:Array Oper}{l:List Oper}(h:kK P a ops l=some []):l=[]:=by
 cases l with
 |nil=>rfl
 |cons o l'=>
  unfold kK at h;split at h
  .cases h
  .cases h
theorem Nz{v:AV}{id:Nat}(h:v.vecId=some id):v.hdl=some id:=by
 cases v<;>first|exact h|cases h
theorem ZJ{B:List Nat}{o:Oper}{ci:CI}(h:mz P B o=some ci){fr:Fr}{id:Nat}(q:ci.use fr=some id): ∃p t x v,p∈o.op.operands/\cX P t p=some x/\x.ev fr=some v/\v.hdl=some id:=by
 have a: ∀{s:CI},s=ci->s.use fr=none->False:=λe E=>by rw[e,q]at E;cases E
 unfold mz at h;split at h
 case h_4=>
  rename_i t x g;split at h
  .rename_i n f u r;obtain rfl:=aJ h;obtain⟨v,j,b⟩:=aT (show(f.ev fr).bind AV.hdl=some id from q);exact⟨x,0,f,v,by rw[g];simp[Op.operands],r,j,b⟩
  .cases h
 case h_7=>
  rename_i t x i g;unfold AT at h;split at h
  .rename_i e f y u r A;split at h
   · obtain rfl:=aJ h;obtain⟨v,j,b⟩:=aT (show(f.ev fr).bind AV.vecId=some id from q);exact⟨x,0,f,v,by rw[g];simp[Op.operands],r,j,Nz b⟩
   · cases h
  .split at h
   · obtain rfl:=aJ h;cases q
   · cases h
  .cases h
 all_goals first
  |(
    rename_i t x lo hi mx g;unfold yf at h;split at h
    · rename_i e f l r A D L M;split at h
      .obtain rfl:=aJ h;obtain⟨v,j,b⟩:=aT (show(f.ev fr).bind AV.vecId=some id from q);exact⟨x,0,f,v,by rw[g];simp[Op.operands],D,j,Nz b⟩
      .exfalso;split at h
       .injection h with h;exact a h rfl
       .cases h
      .cases h
    all_goals(exfalso;(repeat' split at h)<;>first|(cases h;done)|(injection h with h;exact a h rfl)))
  |(
    rename_i t m k ok g;unfold AY at h;split at h
    · split at h
      .rename_i G k' ks z u r A D;obtain rfl:=aJ h;obtain⟨v,j,b⟩:=aT (show(G.ev fr).bind AV.hdl=some id from q);exact⟨m,t,G,v,by rw[g];simp[Op.operands],u,j,b⟩
      .cases h
    · cases h)
  |(
    rename_i c g;obtain⟨callee,args,w⟩:=c;obtain⟨args⟩:=args;obtain⟨w⟩:=w;unfold AR at h;dsimp only at h;split at h
    · unfold AX at h;split at h
      .split at h
       .obtain rfl:=aJ h;simp[CI.use]at q
       .obtain rfl:=aJ h;simp[CI.use]at q
       .rename_i p t I J k e f u r;obtain rfl:=aJ h;obtain⟨v,j,b⟩:=aT (show(f.ev fr).bind AV.hdl=some id from q);exact⟨p,t,f,v,by rw[g];simp[Op.operands,Call.operands],r,j,b⟩
       .cases h
      .cases h
    · exfalso;unfold AP at h
      (repeat' split at h)<;>first|(cases h;done)|(injection h with h;exact a h rfl)
    · exfalso;unfold AS at h
      (repeat' split at h)<;>first|(cases h;done)|(injection h with h;exact a h rfl)
    · exfalso;unfold sA at h
      (repeat' split at h)<;>first|(cases h;done)|(injection h with h;exact a h rfl)
    · exfalso;unfold sA at h
      (repeat' split at h)<;>first|(cases h;done)|(injection h with h;exact a h rfl)
    · exfalso;obtain⟨y,F,d⟩:=dy.1 h;exact a d rfl
    · exfalso;split at h
      .injection h with h;exact a h rfl
      .cases h
    · cases h)
  |(
    rename_i C dst x g;unfold yc at h;split at h
    · exfalso;injection h with h;exact a h rfl
    · exfalso;split at h
      .injection h with h
       split at h<;>exact a h rfl
      .cases h
    · rename_i e f u r A;split at h
      .obtain rfl:=aJ h;obtain⟨v,j,b⟩:=aT (show(f.ev fr).bind AV.hdl=some id from q);exact⟨x,C,f,v,by rw[g];simp[Op.operands],A,j,b⟩
      .cases h
    · cases h)
  |(exfalso;obtain⟨y,F,d⟩:=dy.1 h;first|exact a d rfl|(split at d<;>exact a d rfl))
  |(exfalso;unfold vW at h;(repeat' split at h)<;>first|(exact a (aJ h) rfl)|(obtain⟨y,F,d⟩:=dy.1 h;exact a d rfl))
  |(exfalso;unfold vV at h;(repeat' split at h)<;>first|(cases h;done)|(obtain⟨K,_,d⟩:=dy.1 h;exact a d rfl))
  |(exfalso;have H:=I2 h;rcases H with⟨_,_,_,_,d⟩|⟨_,_,_,_,_,_,d⟩<;>exact a d.symm rfl)
  |(exfalso;unfold yd at h;(repeat' split at h)<;>first|(cases h;done)|(injection h with h;exact a h rfl))
  |(exfalso;unfold AQ at h;(repeat' split at h)<;>first|(cases h;done)|(injection h with h;exact a h rfl))
  |(exfalso;unfold AU at h;(repeat' split at h)<;>first|(cases h;done)|(injection h with h;exact a h rfl))
  |(exfalso;unfold yf at h;(repeat' split at h)<;>first|(cases h;done)|(injection h with h;exact a h rfl))
  |(exfalso;unfold yc at h;(repeat' split at h)<;>first|(cases h;done)|(injection h with h;exact a h rfl))
  |(exfalso;unfold vY at h;(repeat' split at h)<;>first|(cases h;done)|(injection h with h;exact a h rfl))
  |(exfalso;unfold AZ at h;(repeat' split at h)<;>first|(cases h;done)|(injection h with h;exact a h rfl))
  |(exfalso;unfold B0 at h;(repeat' split at h)<;>first|(cases h;done)|(injection h with h;exact a h rfl))
  |(exfalso;(repeat' split at h)<;>first|(cases h;done)|(obtain⟨K,_,d⟩:=dy.1 h;exact a d rfl)|(injection h with h;exact a h rfl))
theorem Uf{l:Nat->Code->CC->Prop}{j:List Nat}{o:Oper}{ci:CI}(hc:mz P j o=some ci){fr:Fr}{s:List aa}{d:AV}(h:ci.sem fr s=some (d,s))(A:ci.touch fr=1){id:Nat}(f:ci.use fr=some id)(s2:List aa)(ha:pC id s s2):bA l P o fr s2 d s2:=by
 have i:=ZK h f;intro B k a w c g;obtain⟨p,t,x,v,m,n,q,r⟩:=ZJ hc f;obtain⟨y,z⟩:=(bU c m n q).no_hole g r;rcases ha i y with e|e
 .exact B1 hc (MG h a8 λu b=>by rw[f]at b;cases b;exact e) B k a w c g
 .exact absurd e z
end
end Go.Bb
namespace Go.Bb
open Go Go.RowKit Go.Ab Go.Proofs.Lg
section
variable {P:Program} {N:Nat} {rd:Option Nat}
theorem rS: ∀{cs:List CO} {fr:Fr} {s:List aa} {K:Fr->List aa->List Nat->Prop} {C:List Nat},cW P cs K C fr s->
  ∃q fr' n,K fr' n (C.reverse++q)/\ ∀(i:List Nat) (ops:Array Oper) (l:List Oper),kK P i ops l=some cs->iJ (dH P) P ops l fr s q fr' n
 |[],fr,s,K,C,hw=>⟨[],fr,s,by simpa[cW]using hw,λi ops l v=>by obtain rfl:=Qv v;exact .nil fr s⟩
 |c::cs,fr,s,K,C,hw=>by
  unfold cW at hw;cases hg:mE fr c.g with
  |none=>rw[hg]at hw;exact hw.elim
  |some b=>
   rw[hg]at hw;obtain⟨V,W⟩:=hw;cases b with
   |false=>
    obtain⟨q,fr',n,hk,ha⟩:=rS (V rfl);refine⟨0::q,fr',n,by simpa using hk,λi ops l v=> ?_⟩;obtain⟨o,l',rfl,t,z⟩:=ui v;obtain⟨e,j⟩:=sB t;have f:=ha i ops l' z;rw[j]at f;exact .skip o l' fr s q fr' n (by rw[<-uu t];exact hg) f
   |true=>
    have G:=W rfl;split at G
    .rename_i X xs r;split at G
     .rename_i Q vs M O;have L: ∀(i:List Nat) (o:Oper),mz P i o=some c.ci-> ∀{s n:List aa} {d:AV},qI (dH P) P Q vs s d n->bA (dH P) P o fr s d n:=λi o e s n d B=>by
       rw[r]at e;obtain⟨p,ps,ts,T,U,hp⟩:=Qw e;exact TH T (λk w a I=>Qd M hp I) U O B
      rcases G with⟨d,B,hk⟩|⟨d,H,B,hk⟩|⟨d,B,hk⟩|⟨d,xs',B,hk⟩|⟨d,H,id,B,hset,hk⟩
      .obtain⟨q,fr',n,u,ha⟩:=rS hk;refine⟨0::q,fr',n,by simpa using u,λi ops l v=> ?_⟩;obtain⟨o,l',rfl,t,z⟩:=ui v;obtain⟨e,j⟩:=sB t;replace e:=e.resolve_right λh=>by rw[r]at h;cases h.1
       have f:=ha i ops l' z;rw[j]at f;exact .free o l' fr s _ q fr' n (by rw[<-uu t];exact hg) (λs2=>L i o e (B s2)) f
      .obtain⟨q,fr',n,u,ha⟩:=rS hk;refine⟨2::q,fr',n,by simpa using u,λi ops l v=> ?_⟩;obtain⟨o,l',rfl,t,z⟩:=ui v;obtain⟨e,j⟩:=sB t;replace e:=e.resolve_right λh=>by rw[r]at h;cases h.1
       have f:=ha i ops l' z;rw[j]at f;exact .eff o l' fr s d H q fr' n (by rw[<-uu t];exact hg) (L i o e B) f
      .obtain⟨q,fr',n,u,ha⟩:=rS hk;refine⟨1::q,fr',n,by simpa using u,λi ops l v=> ?_⟩;obtain⟨o,l',rfl,t,z⟩:=ui v;obtain⟨e,j⟩:=sB t;replace e:=e.resolve_right λh=>by rw[r]at h;cases h.1
       have f:=ha i ops l' z;rw[j]at f;exact .reads o l' fr s d q fr' n (by rw[<-uu t];exact hg) (λs2 D=>L i o e (B s2 D)) f
      .obtain⟨q,fr',n,u,ha⟩:=rS hk;refine⟨3::q,fr',n,by simpa using u,λi ops l v=> ?_⟩;obtain⟨o,l',rfl,t,z⟩:=ui v;obtain⟨e,j⟩:=sB t;replace e:=e.resolve_right λh=>by rw[r]at h;cases h.1
       have f:=ha i ops l' z;rw[j]at f;exact .make o l' fr s d xs' q fr' n (by rw[<-uu t];exact hg) (λs2 D S=>L i o e (B s2 D S)) f
      .obtain⟨q,fr',n,u,ha⟩:=rS hk;refine⟨(5+2*id)::q,fr',n,by simpa using u,λi ops l v=> ?_⟩;obtain⟨o,l',rfl,t,z⟩:=ui v;obtain⟨e,j⟩:=sB t;replace e:=e.resolve_right λh=>by rw[r]at h;cases h.1
       have f:=ha i ops l' z;rw[j]at f;exact .effAt id o l' fr s d H q fr' n (by rw[<-uu t];exact hg) (L i o e B) hset f
     .exact G.elim
    .split at G
     .rename_i d H m;obtain⟨q,fr',n,hk,ha⟩:=rS G;have y:c.ci.touch fr=0\/c.ci.touch fr=1\/c.ci.touch fr=2\/c.ci.touch fr=3:=by
       rcases Nat.lt_or_ge (c.ci.touch fr) 2 with h|h
       .omega
       .have:c.ci.touch fr<=3:=by
         generalize c.ci=ci;cases ci<;>simp only[CI.touch]<;>first|exact Pp _|(split<;>omega)|omega
        omega
      refine⟨c.ci.mark fr::q,fr',n,by simpa using hk,λi ops l v=> ?_⟩;obtain⟨o,l',rfl,t,z⟩:=ui v;obtain⟨e,j⟩:=sB t;replace e:=e.resolve_right λh=>by rw[h.1]at m;cases m
      have f:=ha i ops l' z;rw[j]at f;have A:gd ops fr o=some true:=by rw[<-uu t];exact hg
      rcases y with y|y|y|y
      .have:=MH m a8;subst this;have hm:c.ci.mark fr=0:=by unfold CI.mark sP;rw[y];rfl
       rw[hm];refine .free o l' fr _ d q fr' n A (λs2=>B1 e (MG m a8 λid N=> ?_)) f;have J:=Nk (fr:=fr) (ci:=c.ci) a8;rw[N,y]at J;cases J
      .have:=MH m a8;subst this;have J:=Nk (fr:=fr) (ci:=c.ci) a8;cases E:c.ci.use fr with
       |none=>rw[E,y]at J;cases J
       |some id=>
        have hm:c.ci.mark fr=4+2*id:=by unfold CI.mark sP;rw[y,E];rfl
        rw[hm];exact .readsAt id o l' fr _ d q fr' n A (Uf e m y E) f
      .cases F:c.ci.wr fr with
       |none=>
        have hm:c.ci.mark fr=2:=by unfold CI.mark sP;rw[y,F];rfl
        rw[hm];exact .eff o l' fr s d H q fr' n A (B1 e m) f
       |some id=>
        have hm:c.ci.mark fr=5+2*id:=by unfold CI.mark sP;rw[y,F];rfl
        rw[hm];exact .effAt id o l' fr s d H q fr' n A (B1 e m) (YC m F) f
      .obtain⟨x,rfl,R⟩:=Qx e m y;have hm:c.ci.mark fr=3:=by unfold CI.mark sP;rw[y];rfl
       rw[hm];exact .make o l' fr s d x q fr' n A R f
     .exact G.elim
def uH(b:List Nat)(a:List Nat):Bool:=
 (List.range a.length).all λj=>a.getD j 0==0||(List.range j).all λi=> !fc (a.getD i 0) (a.getD j 0)||(b.getD j 0).testBit i
theorem Uj{ops:Array Oper}{b:List Nat}(h0:uG ops []=true)(k:b.length=ops.size)(h:uH (Region.before ops).toList b=true):lu ops (vI (Region.before ops)) (λi=>b.getD i 0):=by
 have e:=Ui h0;refine⟨e.back,e.up,e.names,λi j f l g=> ?_⟩;unfold uH at h;simp only[js,lp]at h;have c:=h j a8;simp only[jF,js,lp,beq_iff_eq]at c;rcases c with c|c
 .exfalso;have a:fc (b.getD i 0) (b.getD j 0)=true:=g;rw[c]at a;simp[fc,e8,fN,ny]at a
 .rcases c i f with d|d
  .have a:fc (b.getD i 0) (b.getD j 0)=true:=g;rw[a]at d;cases d
  .unfold vI;have:(Region.before ops).toList.getD j 0=(Region.before ops).getD j 0:=by simp[List.getD_eq_getElem?_getD,rX]
   rw[<-this];exact d
def coarse(x:Nat):Nat:=if x<4 then x else if x % 2=0 then 1 else 2
theorem sw(b:Nat):coarse (4+2*b)=1:=by unfold coarse;rw[if_neg a8,if_pos a8]
theorem pU(b:Nat):coarse (5+2*b)=2:=by unfold coarse;rw[if_neg a8,if_neg a8]
theorem QD{a b:Nat}(h:fc a b=true):fc (coarse a) (coarse b)=true:=by
 have cs: ∀x,(x<4/\coarse x=x)\/(∃c,x=4+2*c)\/ ∃c,x=5+2*c:=λx=>by
  by_cases h:x<4
  .exact .inl ⟨h,if_pos h⟩
  .by_cases i:x % 2=0
   .exact .inr (.inl ⟨(x-4)/2,by omega⟩)
   .exact .inr (.inr ⟨(x-5)/2,by omega⟩)
 have d: ∀x,x<4->x=0\/x=1\/x=2\/x=3:=λx h=>by omega
 rcases cs a with⟨ha,f⟩|⟨c,f⟩|⟨c,f⟩<;>rcases cs b with⟨hb,g⟩|⟨e,g⟩|⟨e,g⟩
 .rw[f,g];exact h
 .subst g;rw[f,sw];rcases d a ha with rfl|rfl|rfl|rfl<;>simp[fc,e8,fN,ny]at h⊢ <;>omega
 .subst g;rw[f,pU];rcases d a ha with rfl|rfl|rfl|rfl<;>simp[fc,e8,fN,ny]at h⊢ <;>omega
 .subst f;rw[g,sw];rcases d b hb with rfl|rfl|rfl|rfl<;>simp[fc,e8,fN,ny]at h⊢ <;>omega
 .subst f;subst g;exfalso;unfold fc e8 fN ny at h;simp at h;omega
 .subst f;subst g;rw[sw,pU];rfl
 .subst f;rw[g,pU];rcases d b hb with rfl|rfl|rfl|rfl<;>simp[fc,e8,fN,ny]at h⊢ <;>omega
 .subst f;subst g;rw[sw,pU];rfl
 .subst f;subst g;rw[pU,pU];rfl
theorem BT{c a:List Nat}(h:uH c (a.map coarse)=true):uH c a=true:=by
 unfold uH at h⊢;rw[aM]at h;have e: ∀i,(a.map coarse).getD i 0=coarse (a.getD i 0):=λi=>by
  simp only[List.getD_eq_getElem?_getD,dj];cases a[i]? <;>rfl
 simp only[js,lp,jF,beq_iff_eq,rY,e]at h⊢;intro j d;rcases h j d with b|b
 .left;unfold coarse at b;split at b
  .exact b
  .split at b<;>cases b
 .refine .inr λi hi=> ?_;rcases b i hi with h2|h2
  .left;cases hc:fc (a.getD i 0) (a.getD j 0)with
   |false=>rfl
   |true=>have:=QD hc;rw[h2]at this;cases this
  .exact .inr h2
theorem GB{u:Nat->Code->CC->Prop}{ops:Array Oper}{B:Nat}{D:List Deferred}{r:Option Nat}{l:List Oper}{fr:Fr}{s:List aa}{y:List Nat}{fr':Fr}{q:List aa}(h:iJ u P ops l fr s y fr' q){Q:Exit->Fr->List aa->Prop}(z:Q .normal fr' q)
  (n: ∀o∈l,∀d,o.dst=some d->d<N) (e: ∀o∈l,fj o=true) {A:aP} {C:World}: ∀(k:aP) (a:Act) (w:World),a.tmps.size=N->a.defers=D->FR k w a fr->St u B k s w->Ext B A C k w->
  wpListIn (FW r) 0 P ops (se u B N D A C Q) l a w:=by
 have step: ∀{o:Oper} {rest:List Oper} {fr:Fr} {s:List aa} {d:AV} {F:List aa} {k:aP} {a:Act} {w:World},gd ops fr o=some true->bA u P o fr s d F->fj o=true->(∀d,o.dst=some d->d<N)->
   (∀(k:aP) (a:Act) (w:World),a.tmps.size=N->a.defers=D->FR k w a (dt fr o.dst d)->St u B k F w->Ext B A C k w->wpListIn (FW r) 0 P ops (se u B N D A C Q) rest a w)->
   a.tmps.size=N->a.defers=D->FR k w a fr->St u B k s w->Ext B A C k w->wpListIn (FW r) 0 P ops (se u B N D A C Q) (o::rest) a w:=λhg c e n p ha i g m j=>by
  refine wpListIn_step λK G=> ?_;rw[if_pos (Bn hg λt x _ I=>g t x I)];refine Oper.wpIn_mono ?_ (c B _ _ _ (g.ops _) m e r _);rintro _ w' ⟨v,rfl,k',J,E,H⟩;exact G _ _ (p k' _ w' (by rw[ov,ha]) (by rw[rE,i]) ((g.mono E.mono).put J (by rw[ha];exact n)) H (j.trans E))
 induction h with
 |nil fr s=>exact λk a w ha i g m j=>⟨fr,s,k,z,ha,i,j,g,m⟩
 |skip o rest fr s y fr' q hg _ p=>
  intro k a w ha i g m j;refine wpListIn_step λK G=> ?_;rw[if_neg (by rw[Bn hg λt x _ I=>g t x I];simp)];exact⟨λf _=>tQ r f,G _ _ (p z (λo c=>n o (by simp[c])) (λo c=>e o (by simp[c])) k _ w (by rw[ov,ha]) (by rw[rE,i]) (g.put RA.undf (by rw[ha];exact n o (by simp))) m j)⟩
 |free o rest fr s d y fr' q hg c _ p=>
  intro k a w ha i g m j;exact step hg (c s) (e o (by simp)) (n o (by simp)) (p z (λo c=>n o (by simp[c])) (λo c=>e o (by simp[c]))) ha i g m j
 |reads o rest fr s d y fr' q hg c _ p=>
  intro k a w ha i g m j;exact step hg (c s (gx.refl s)) (e o (by simp)) (n o (by simp)) (p z (λo c=>n o (by simp[c])) (λo c=>e o (by simp[c]))) ha i g m j
 |readsAt b o rest fr s d y fr' q hg c _ p=>
  intro k a w ha i g m j;exact step hg (c s (pC.refl b s)) (e o (by simp)) (n o (by simp)) (p z (λo c=>n o (by simp[c])) (λo c=>e o (by simp[c]))) ha i g m j
 |effAt b o rest fr s d F y fr' q hg c _ _ p=>
  intro k a w ha i g m j;exact step hg c (e o (by simp)) (n o (by simp)) (p z (λo c=>n o (by simp[c])) (λo c=>e o (by simp[c]))) ha i g m j
 |make o rest fr s d x y fr' q hg c _ p=>
  intro k a w ha i g m j;exact step hg (by have:=c s (gx.refl s) (iy.end' s _);rw[um]at this;exact this) (e o (by simp)) (n o (by simp)) (p z (λo c=>n o (by simp[c])) (λo c=>e o (by simp[c]))) ha i g m j
 |eff o rest fr s d F y fr' q hg c _ p=>
  intro k a w ha i g m j;exact step hg c (e o (by simp)) (n o (by simp)) (p z (λo c=>n o (by simp[c])) (λo c=>e o (by simp[c]))) ha i g m j
def qQ(b:Bool)(a:List Nat)(Q:Exit->Fr->List aa->Prop)(fr:Fr)(s:List aa)(c:List Nat):Prop:=(b=true->uH a c=true)/\Q .normal fr s
theorem Qy{a:List Nat}{o:Oper}{ci:CI}(h:mz P a o=some ci):fj o=true:=by
 unfold fj;split
 .rename_i c b;unfold mz at h;rw[b]at h;cases h
 .rfl
theorem I0{b:List Nat}{ops:Array Oper}: ∀{l:List Oper} {cs:List CO},kK P b ops l=some cs-> ∀o∈l,fj o=true
 |[],_,_,o,a=>by cases a
 |o'::l,cs,h,o,a=>by
  unfold kK at h;split at h
  .rename_i c d e f;rcases bF.1 a with rfl|a
   .rcases(sB e).1 with h3|h3
    .exact Qy h3
    .exact h3.2
   .exact I0 f o a
  .cases h
theorem AC.ops{J:Bool}{I:List Nat}{cs:List CO}{Q:Exit->Fr->List aa->Prop}{fr:Fr}{s:List aa}(h:cW P cs (qQ J I Q) [] fr s):AC P N rd (.ops J I cs) Q fr s:=by
 obtain⟨V,fr',G,hk,ha⟩:=rS h;rw[List.reverse_nil,bt]at hk;obtain⟨O,W⟩:=hk;refine⟨.normal,fr',G,W,?_⟩;rintro c ⟨F,hc⟩;replace hc:comp P F N c=some (.ops J I cs):=hc;cases c with
 |region id ops K=>
  unfold comp at hc;split at hc
  .rename_i n;obtain⟨l,U,C⟩:=bK hc;injection C with e1 e2 e3
   subst e1;subst e3;have S:=ha F ops ops.toList U;have E: ∀o∈ops,fj o=true:=λo m=>I0 U o (by simpa using m);simp only[dW,jF,rY]at n;have z: ∀o∈ops,∀d,o.dst=some d->d<N:=λo m d A=>by
    have:=rW.1 n.1 o m;simpa[A]using this
   intro B k a w r h0 L M R;have v: ∀(e:Exit) (H:Act) (w':World),se (dH P) B N a.defers k w (λe fr s=>e= .normal/\fr=fr'/\s=G) e H w'->Ends (dH P) N B k a.defers w .normal fr' G e H w':=by
    rintro e H w' ⟨_,_,k',⟨rfl,rfl,rfl⟩,q1,q2,q3,q4,q5⟩;exact⟨rfl,k',q1,Marks.same q2,q3,q4,q5⟩
   cases K with
   |false=>exact wpIn_mono (wpIn_region_list (GB (Q:=λe fr s=>e= .normal/\fr=fr'/\s=G) S ⟨rfl,rfl,rfl⟩ (λo m=>z o (by simpa using m)) (λo m=>E o (by simpa using m)) k a w L rfl M R (Ext.refl B k w))) v
   |true=>
    obtain⟨hm,m⟩:=n.2.resolve_left (by simp);simp only[if_true]at e2;subst e2;refine wpIn_mono (wpIn_region_any hm ?_) v;obtain⟨y,ss,ds,wt,t1,t2,t3,t4,t5,p,t7⟩:=Zs S;have g: ∀(i:Nat) (o:Oper),ops[i]?=some o->ops.toList[i]?=some o:=λi o m=>by simpa using m
    have X:oP (dH P) P ops y ss ds wt (λi=>V.getD i 0):=by
     have u: ∀(i:Nat) (hi:i<ops.size),ops.toList[i]?=some ops[i]:=λi hi=>g i _ (lZ hi);exact{
      guard:=λi o m=>(p i o (g i o m)).1
      next:=λi o m=>(p i o (g i o m)).2.1
      skip:=λi o m=>(p i o (g i o m)).2.2.1
      free:=λi o m=>(p i o (g i o m)).2.2.2.1
      step:=λi o m=>(p i o (g i o m)).2.2.2.2.1
      reads:=λi o m=>(p i o (g i o m)).2.2.2.2.2.2.1
      readsAt:=λb i o m=>(p i o (g i o m)).2.2.2.2.2.2.2.2.1 b
      make:=λi o m D=>(p i o (g i o m)).2.2.2.2.2.2.2.1 D
      setAt:=λb i hi D=>(p i _ (u i hi)).2.2.2.2.2.2.2.2.2 b D
      still:=λi hi D=>(p i _ (u i hi)).2.2.2.2.2.1 D
      off:=t7}
    subst t1;subst t2;subst t3;subst t4;have Z:(Array.replicate ops.size false).size=ops.size:=by simp
    have q: ∀i,(Array.replicate ops.size false).getD i false=false:=λi=>by
     rw[rX,Array.getElem?_replicate];split<;>rfl
    refine Yj X (Uj m (by simpa using t5) (O rfl)) z E (Q:=λe fr s=>e= .normal/\fr=_/\s=_) ⟨rfl,by simp,by simp⟩ ops.size (Array.replicate ops.size false) (List.range ops.size) k a _ (by simp) (λi hi _=>by simpa using hi) ?_
    refine⟨Z,λj T=>(by rw[q]at T;cases T),L,rfl,Ext.drew B k w,λt x Y=> ?_,0,0,_,bg _,by omega,λi hi=>by omega,λi _ _ _=>q i,λi L M=>by omega,nO.refl ..,R.drew⟩;refine(FR.mono (Ext.drew B k w).mono M) t x ?_;rw[<-Y,Gv (ops:=ops) ds (y 0) _ t 0 ops.size a8 λi _ _ _=>q i];rfl
  .cases hc
 |seq a b=>unfold comp at hc;split at hc<;>cases hc
 |cond c a b=>unfold comp at hc;split at hc<;>cases hc
 |block id c=>unfold comp at hc;obtain⟨_,_,C⟩:=bK hc;cases C
 |loop c=>unfold comp at hc;obtain⟨_,_,C⟩:=bK hc;cases C
 |rangeFunc f ps a b=>
  unfold comp at hc;split at hc
  .split at hc<;>cases hc
  .cases hc
 |_=>cases hc
end
end Go.Bb
namespace Go.Bb
open Go Go.RowKit Go.Ab Go.Proofs.Lg
section
variable {P:Program} {N:Nat} {rd:Option Nat} {Q:Exit->Fr->List aa->Prop} {fr:Fr} {s:List aa}
theorem AC.mono{cc:CC}{a:Exit->Fr->List aa->Prop}(h:AC P N rd cc Q fr s)(b: ∀e fr s,Q e fr s->a e fr s):AC P N rd cc a fr s:=
 let⟨e,fr',d,q,c⟩:=h;⟨e,fr',d,b _ _ _ q,c⟩
theorem AC.frame{cc:CC}{fr0:Fr}(h:AC P N rd cc Q fr0 s)(a: ∀t x,look fr0 t=some x->look fr t=some x):AC P N rd cc Q fr s:=
 let⟨e,fr',d,q,b⟩:=h;⟨e,fr',d,q,λc hc=>(b c hc).frame a⟩
theorem r9{d:List Nat}{c:Code}{cc:CC}(h:comp P d N c=some cc):match cc with
  | .skip=>c= .skip\/ ∃l,c= .label l
  | .seq x y=> ∃a b,c= .seq a b/\comp P d N a=some x/\comp P d N b=some y
  | .cond p x y=> ∃q a b,c= .cond q a b/\cX P 0 q=some p/\comp P d N a=some x/\comp P d N b=some y
  | .block id x=> ∃a,c= .block id a/\comp P d N a=some x
  | .loop x=> ∃a,c= .loop a/\comp P d N a=some x
  | .exit id=>c= .exit id
  | .ret=>c= .ret
  | .rng n f ps x y=>n=N/\ ∃g m a b,c= .rangeFunc g m a b/\cX P 0 g=some f/\m.toList=ps/\comp P d N a=some x/\comp P d N b=some y/\m.all (λt=>decide (t<N))=true
  | .ops _ _ _=>True
  | .trim _ _=>True:=by
 cases c with
 |skip=>simp[comp]at h;subst h;exact .inl rfl
 |label l=>simp[comp]at h;subst h;exact .inr ⟨l,rfl⟩
 |region id ops r=>
  unfold comp at h;split at h
  .obtain⟨l,_,rfl⟩:=bK h;trivial
  .cases h
 |seq a b=>
  unfold comp at h;split at h
  .rename_i x y e i;obtain rfl:=aJ h;exact⟨a,b,rfl,e,i⟩
  .cases h
 |cond p a b=>
  unfold comp at h;split at h
  .rename_i u x y e i j;obtain rfl:=aJ h;exact⟨p,a,b,rfl,e,i,j⟩
  .cases h
 |block id a=>unfold comp at h;obtain⟨x,k,rfl⟩:=bK h;exact⟨a,rfl,k⟩
 |loop a=>unfold comp at h;obtain⟨x,k,rfl⟩:=bK h;exact⟨a,rfl,k⟩
 |exit id=>simp[comp]at h;subst h;rfl
 |ret=>simp[comp]at h;subst h;rfl
 |rangeFunc f ps a b=>
  unfold comp at h;split at h
  .rename_i s x y e i j;split at h
   .rename_i o;obtain rfl:=aJ h;exact⟨rfl,f,ps,a,b,rfl,e,rfl,i,j,o⟩
   .cases h
  .cases h
 |scope a=>simp[comp]at h
 |goto l=>simp[comp]at h
 |refuse w=>simp[comp]at h
theorem AC.skip(h:Q .normal fr s):AC P N rd .skip Q fr s:=⟨_,_,_,h,λc ⟨e,hc⟩=>by
 rcases r9 hc with rfl|⟨l,rfl⟩
 .exact λ_ _ _ _ _ _ a b d=>wpIn_skip (Ends.now a b d)
 .exact λ_ _ _ _ _ _ a b d=>wpIn_label (Ends.now a b d)⟩
theorem AC.exit{id:Nat}(h:Q (.exit id) fr s):AC P N rd (.exit id) Q fr s:=⟨_,_,_,h,λc ⟨e,hc⟩=>by
 obtain rfl:c= .exit id:=r9 hc;exact λ_ _ _ _ _ _ a b d=>wpIn_exit (Ends.now a b d)⟩
theorem AC.ret(h:Q .ret fr s):AC P N rd .ret Q fr s:=⟨_,_,_,h,λc ⟨e,hc⟩=>by
 obtain rfl:c= .ret:=r9 hc;exact λ_ _ _ _ _ _ a b d=>wpIn_ret (Ends.now a b d)⟩
theorem AC.seq{x y:CC}(h:AC P N rd x (gg (AC P N rd y Q) Q) fr s):AC P N rd (.seq x y) Q fr s:=by
 obtain⟨e,f,n,j,k⟩:=h;by_cases i:e= .normal
 .subst i;obtain⟨l,g,s2,m,r2⟩:=j;refine⟨l,g,s2,m,λc ⟨d,hc⟩=> ?_⟩;obtain⟨a,b,rfl,ha,hb⟩:=r9 hc;exact(k a ⟨d,ha⟩).seq (r2 b ⟨d,hb⟩)
 .refine⟨e,f,n,?_,λc ⟨d,hc⟩=> ?_⟩
  .cases e with
   |normal=>exact absurd rfl i
   |_=>exact j
  .obtain⟨a,b,rfl,ha,hb⟩:=r9 hc;exact(k a ⟨d,ha⟩).seqX i
theorem AC.cond{p:X}{x y:CC}{v:Bool}(hp:(p.ev fr).bind AV.bool? =some v)(h:AC P N rd (if v then x else y) Q fr s):AC P N rd (.cond p x y) Q fr s:=by
 obtain⟨e,g,E,D,z⟩:=h;refine⟨e,g,E,D,λc ⟨d,hc⟩=> ?_⟩;obtain⟨q,a,b,rfl,l,ha,hb⟩:=r9 hc;intro B k f w r h0 n i o;obtain⟨F,m,j⟩:=aT hp;have A:f.eval q= .bool v:=(DG l m λu y e C=>i u y C).sc_eq (AV.bool_sc j);refine wpIn_cond (t:=v) A ?_;cases v with
 |true=>exact z a ⟨d,ha⟩ B k f w r h0 n i o
 |false=>exact z b ⟨d,hb⟩ B k f w r h0 n i o
theorem AC.block{id:Nat}{x:CC}(h:AC P N rd x (ma id Q) fr s):AC P N rd (.block id x) Q fr s:=by
 obtain⟨e,d,t,j,q⟩:=h;rw[A4]at j;refine⟨_,d,t,j,λc ⟨i,hc⟩=> ?_⟩;obtain⟨a,rfl,ha⟩:=r9 hc;intro B k l w r h0 n o p;refine wpIn_block (wpIn_mono (q a ⟨i,ha⟩ B k l w r h0 n o p) ?_);rintro m u w' ⟨rfl,g⟩;cases m with
 |exit b=>
  show if b=id then _ else _;by_cases e:b=id
  .have f:u9 id (.exit b)= .normal:=if_pos e;rw[if_pos e,f];exact⟨rfl,g⟩
  .have f:u9 id (.exit b)= .exit b:=if_neg e;rw[if_neg e,f];exact⟨rfl,g⟩
 |_=>exact⟨rfl,g⟩
inductive vA(P:Program)(N:Nat)(rd:Option Nat)(x:CC)(e:Exit)(fr':Fr)(s':List aa):Fr->List aa->Prop
 |last {fr fr0:Fr} {s:List aa}:(∀t y,look fr0 t=some y->look fr t=some y)->e≠ .normal->Dj P N rd x fr0 s e fr' s'->vA P N rd x e fr' s' fr s
 |more {fr fr0 fr1:Fr} {s s1:List aa}:(∀t y,look fr0 t=some y->look fr t=some y)->Dj P N rd x fr0 s .normal fr1 s1->vA P N rd x e fr' s' fr1 s1->vA P N rd x e fr' s' fr s
theorem vA.tr{x:CC}{e:Exit}{fr':Fr}{d:List aa}(h:vA P N rd x e fr' d fr s){c:Code}(hc:dH P N c x): ∃n,sb (dH P) P N rd c e fr' d n fr s:=by
 induction h with
 |last a f b=>exact⟨0,.last f ((b c hc).frame a)⟩
 |more a b _ i=>obtain⟨n,g⟩:=i;exact⟨n+1,.more ((b c hc).frame a) g⟩
def Sub(fr' fr:Fr):Prop:= ∀t x,look fr' t=some x->look fr t=some x
theorem Sub.refl(fr:Fr):Sub fr fr:=λ_ _ h=>h
theorem Sub.nil(fr:Fr):Sub [] fr:=λ_ _ h=>by cases h
theorem Sub.cons{fr' fr:Fr}{t:Nat}{x:AV}(h:look fr t=some x)(b:Sub fr' fr):Sub ((t,x)::fr') fr:=λu y a=>by
 unfold look at a;split at a
 .rename_i e;subst e;obtain rfl:=aJ a;exact h
 .exact b u y a
def eQ(keep:List Nat)(fr:Fr):Fr:=keep.filterMap λt=>(look fr t).map λx=>(t,x)
theorem Cn(keep:List Nat)(fr:Fr):Sub (eQ keep fr) fr:=by
 induction keep with
 |nil=>exact Sub.nil fr
 |cons t l a=>
  unfold eQ;rw[List.filterMap_cons];cases h:look fr t with
  |none=>exact a
  |some x=>exact Sub.cons h a
theorem AC.trim{keep:List Nat}{x:CC}(h:AC P N rd x Q (eQ keep fr) s):AC P N rd (.trim keep x) Q fr s:=
 let⟨e,fr',b,q,a⟩:=h;⟨e,fr',b,q,λc hc=>(a c hc).frame (Cn keep fr)⟩
def GO(body:(Exit->Fr->List aa->Prop)->Fr->List aa->Prop)(Q:Exit->Fr->List aa->Prop)(fr:Fr)(s:List aa):Prop:=
 ∃(b:Nat->Fr->List aa->Prop),(∃m fr0,Sub fr0 fr/\b m fr0 s)/\ ∀m fr s,b m fr s->body (gg (λfr' d=> ∃c a,c<m/\Sub a fr'/\b c a d) Q) fr s
theorem AC.loop{x:CC}(d:Nat->Fr->List aa->Prop){m:Nat}{fr0:Fr}(z:Sub fr0 fr)(h0:d m fr0 s)(h: ∀m fr s,d m fr s->AC P N rd x (gg (λfr' i=> ∃l b,l<m/\Sub b fr'/\d l b i) Q) fr s):AC P N rd (.loop x) Q fr s:=by
 have key: ∀m fr0 fr s,Sub fr0 fr->d m fr0 s-> ∃e fr' i,Q e fr' i/\vA P N rd x e fr' i fr s:=by
  intro m
  induction m using Nat.strongRecOn with
  |_ m B=>
   intro fr0 fr s f hi;obtain⟨e,j,v,k,u⟩:=h m fr0 s hi;by_cases p:e= .normal
   .subst p;obtain⟨l,b,r,g,q⟩:=k;obtain⟨w,o,s2,C,t2⟩:=B l r b j v g q;exact⟨w,o,s2,C,.more f u t2⟩
   .refine⟨e,j,v,?_,.last f p u⟩;cases e with
    |normal=>exact absurd rfl p
    |_=>exact k
 obtain⟨e,fr',i,k,A⟩:=key m fr0 fr s z h0;refine⟨e,fr',i,k,λc ⟨t,hc⟩=> ?_⟩;obtain⟨a,rfl,ha⟩:=r9 hc;obtain⟨n,y⟩:=A.tr ⟨t,ha⟩;exact y.runs
theorem EG{B:Nat}{k:aP}{w:World}{d:Nat->Code->CC->Prop}(c:St d B k s w){id b:Nat}{l l':ku}{r r':Loop}(p:s[id]?=some (.loop l))(hb:k.own[id]?=some (.blk b))(i:w.heap[b]?=some (.loop r))(o:k.I b=0)
  (hm:Mono k w k (w.putObj b (.loop r'))->vz d k (w.putObj b (.loop r')) l' r'):Mono k w k (w.putObj b (.loop r'))/\Ext B k w k (w.putObj b (.loop r'))/\St d B k (s.set id (.loop l')) (w.putObj b (.loop r')):=by
 have h:=kP i;have a:=c.lies id _ b hb rfl;have hk:jr k.I w k.I (w.putObj b (.loop r')):=λm q u t hc=>⟨t,by
  have hne:m≠b:=by rintro rfl;unfold World.cell? at hc;rw[i]at hc;cases hc
  exact(vG (w:=w) (World.putObj_heap_other hne)).trans hc⟩
 have g:Below B w (w.putObj b (.loop r')):=⟨rfl,rfl,rfl,by simp,λj v=>World.putObj_heap_other a8⟩
 refine⟨sS hk,c.upd (k':=k) hb (.loop l') (rz hb) (dM.refl _) hk g (λn f=>by cases f;exact⟨.inl rfl,by simpa using a.2,a.1⟩)
  (λn _ hne=>⟨World.putObj_heap_other (λe=>hne (by rw[e];rfl)),rfl⟩) ⟨r',World.putObj_heap_same h,hm (sS hk),o⟩⟩
def mZ(Q:Exit->Fr->List aa->Prop)(fr:Fr)(i:Nat)(a:List aa):Prop:=match a[i]? with
 |some (.loop l)=>l.st≠ .busy/\(match l.pend with
  |none=>Q .normal fr (a.set i (.loop {l with st:= .exhausted}))
  |some .ret=>Q .ret fr (a.set i (.loop {l with st:= .exhausted}))
  |some (.exit id)=>Q (.exit id) fr (a.set i (.loop {l with st:= .exhausted})))
 |_=>False
def P4(s:List aa):Option Nat->Prop
 |none=>True
 |some id=> ∃l,s[id]?=some (.loop l)
def tY(P:Program)(rd:Option Nat)(n:Nat)(f:X)(ps:List Nat)(x y:CC)(Q:Exit->Fr->List aa->Prop)(fr:Fr)(s:List aa):Prop:=
 P4 s rd/\ ∃g a cs,f.ev fr=some (.clo g a cs)/\mc (dH P) P (.clo g a cs) [.yld s.length] (s++[.loop ⟨.ready,none,fr,ps,n,x,y⟩]) λ_ b=>mZ Q fr s.length b
theorem AC.rng{n:Nat}{f:X}{ps:List Nat}{x y:CC}(h:tY P rd n f ps x y Q fr s):AC P N rd (.rng n f ps x y) Q fr s:=by
 obtain⟨b7,g,fs,cs,hf,d,s',L,j⟩:=h;unfold mZ at j;split at j
 .rename_i l hl;obtain⟨M,j⟩:=j;obtain⟨e,hq,he⟩: ∃e,Q e fr (s'.set s.length (.loop {l with st:= .exhausted}))/\((l.pend=none/\e= .normal)\/(l.pend=some .ret/\e= .ret)\/ ∃id,l.pend=some (.exit id)/\e= .exit id):=by
   split at j
   .rename_i hp;exact⟨_,j,.inl ⟨hp,rfl⟩⟩
   .rename_i hp;exact⟨_,j,.inr (.inl ⟨hp,rfl⟩)⟩
   .rename_i id hp;exact⟨_,j,.inr (.inr ⟨id,hp,rfl⟩)⟩
  refine⟨e,fr,_,hq,?_⟩;rintro c ⟨b0,hc⟩;obtain⟨rfl,T,qs,ca,cb,rfl,hg,b6,ha,hb,c2⟩:=r9 hc;intro B k a w r h0 h1 h2 U;refine wpIn_rangeFunc λH _=> ?_;rw[xy]
  have a9: ∃(p:Nat) (G:List Nat) (C:World) (A:Loop),(Instr.enterLoop H a.tmps qs ca cb r).run P w= .ok (p,G.map mark) C/\Below w.heap.size w C/\C.heap[p]?=some (.loop A)/\w.heap.size<=p/\A.state= .ready/\A.pending=none/\A.tmps=a.tmps/\A.params=qs/\A.assign=ca/\A.body=cb/\
    G.Nodup/\ ∀m∈G,w.heap.size<=m/\m≠p/\C.heap[m]?=some (.deferred (some [])):=by
   cases r with
   |none=>
    have hr:=run_enterLoop_outer (P:=P) (w:=w) H a.tmps qs ca cb
    refine⟨w.heap.size+1,[w.heap.size],_,_,hr,((Below.refl _ _).alloc (bg _) _).alloc (by simp) _,by have:=World.alloc_heap_new (w.alloc (.deferred (some []))) (.loop {state:= .ready,pending:=none,fn:=H,tmps:=a.tmps,params:=qs,assign:=ca,body:=cb,defers:=w.heap.size});simpa using this,by omega,rfl,rfl,rfl,rfl,rfl,rfl,by simp,λm hm=> ?_⟩;obtain rfl:m=w.heap.size:=by simpa using hm
    refine⟨bg _,by omega,?_⟩;rw[Below.heap_alloc _ _ _ (by simp)];exact World.alloc_heap_new w _
   |some l0=>
    cases rd with
    |none=>exact h0.elim
    |some id=>
     obtain⟨al,b1⟩:=b7;obtain⟨b,r0,S,g2,_⟩:=U.loop b1;have:k.own[id]?=some (.blk l0):=h0;rw[this]at S;cases S;exact⟨w.heap.size,[],_,_,run_enterLoop_inner g2 H a.tmps qs ca cb,(Below.refl _ _).alloc (bg _) _,World.alloc_heap_new w _,bg _,rfl,rfl,rfl,rfl,rfl,rfl,List.nodup_nil,λm hm=>by cases hm⟩
  obtain⟨p,G,C,A,Y,V,a2,a0,r1,r2,r3,r4,r5,r6,b5,b4⟩:=a9;have a3:=kP a2;have hI: ∀b,b<w.heap.size->dE k.I p 0 b=k.I b:=λb hb=>ix _ _ a8;have Z:Ext B k w ⟨dE k.I p 0,k.own++[.blk p]⟩ C:=Ext.new U.base V hI _ λb hb=>by cases hb;exact a0
  obtain⟨J,b8⟩:=U.new V hI (.blk p) (.loop ⟨.ready,none,fr,ps,n,x,y⟩) (λb hb=>by cases hb;exact⟨a0,a3⟩)
   ⟨A,a2,⟨r1,by rw[r2];rfl,by rw[r3];exact h1,λt z hz=>by rw[r3];exact(h2 t z hz).mono Z.mono,by rw[r4];exact b6,by rw[r5];exact⟨b0,ha⟩,by rw[r6];exact⟨b0,hb⟩⟩,gE ..⟩
  have b3:RA k w (a.eval T) (.clo g fs cs):=DG hg hf λu y e hl=>h2 u y hl;obtain⟨us,vs,R,b9,c0⟩:=b3.clo_inv;have F:(k.own++[.blk p])[s.length]?=some (.blk p):=by rw[<-U.len];simp
  have c1:fU ⟨dE k.I p 0,k.own++[.blk p]⟩ C [Value.func (.yield p) #[] #[]] [.yld s.length]:=⟨rfl,λi u c hu hc=>by
   match i with
   |0=>simp at hu hc;subst hu;subst hc;exact .yld F
   |i+1=>simp at hu⟩
  have hcalls:=L.calls B _ C (us++[Value.func (.yield p) #[] #[]]++vs) b8 (((b9.mono J.mono).append c1).append (c0.mono J.mono));have W:(FW r).depth.isSome=true->1<=0:=λhh=>by rw[Db]at hh;cases hh
  have a5:(resolve a.eval (rangeCall T p) 0).run P C= .ok {target:= .fn (.func g) vs.toArray,args:=us.toArray++ #[Value.func (.yield p) #[] #[]]} C:=by
   simp only[resolve,rangeCall];rw[R];simp[Deferred.ofValue,Act.eval,cJ,bP,bV]
  have a1:(invoke (.fn (.func g) vs.toArray) (us.toArray++ #[Value.func (.yield p) #[] #[]])).run P C= .ok (.enter g (us++[Value.func (.yield p) #[] #[]]++vs).toArray) C:=by
   have:us.toArray++ #[Value.func (.yield p) #[] #[]]++vs.toArray=(us++[Value.func (.yield p) #[] #[]]++vs).toArray:=by simp
   simp only[invoke];rw[this];exact L.enters _ C
  refine⟨p,G.map mark,C,{target:= .fn (.func g) vs.toArray,args:=us.toArray++ #[Value.func (.yield p) #[] #[]]},C,g,(us++[Value.func (.yield p) #[] #[]]++vs).toArray,C,Y,a5,λf' _=>tQ r f',a1,W,DH (qJ hcalls ?_)⟩
  .rintro e' w3 ⟨v,k2,rfl,hv,E,a6⟩;obtain⟨b,D,S,g2,g3,gI⟩:=a6.loop hl;have b2:b=p:=by
    have:=dM.blk' E.mono F;rw[this]at S;cases S;rfl
   subst b2;obtain⟨q1,q2,q3,q4,q5,q6,q7⟩:=g3;obtain⟨m1,m2,m3⟩:=EG a6 (l':={l with st:= .exhausted}) (r':={D with state:= .exhausted}) hl S g2 gI λhm=>⟨rfl,q2,q3,λt z hz=>(q4 t z hz).mono hm,q5,q6,q7⟩
   have O:=run_endLoop (P:=P) g2 (by rw[q1];exact M);have hmarks:Marks w (w3.putObj b (.loop {D with state:= .exhausted})) k2 a.defers (G.map mark++a.defers):=by
    refine⟨G,rfl,b5,λm hm=> ?_⟩;obtain⟨p1,p2,p3⟩:=b4 m hm;have a7:lA ⟨dE k.I b 0,k.own++[.blk b]⟩ m:=λid o ho a4=>by
     rcases rj ho with ho2|⟨_,rfl⟩
     .have:=(U.lies id o m ho2 a4).2;omega
     .cases a4;exact p2 rfl
    have K:=kP p3;refine⟨p1,?_,E.unowned K a7⟩;rw[World.putObj_heap_other p2,E.rest m K a7];exact p3
   have q: ∃k',({a with defers:=G.map mark++a.defers}:Act).tmps.size=n/\Marks w (w3.putObj b (.loop {D with state:= .exhausted})) k' a.defers (G.map mark++a.defers)/\Ext B k w k' (w3.putObj b (.loop {D with state:= .exhausted}))/\FR k' (w3.putObj b (.loop {D with state:= .exhausted})) {a with defers:=G.map mark++a.defers} fr/\St (dH P) B k' (s'.set s.length (.loop {l with st:= .exhausted})) (w3.putObj b (.loop {D with state:= .exhausted})):=
    ⟨k2,h1,hmarks,(J.trans E).trans m2,λt z hz=>(((h2 t z hz).mono J.mono).mono E.mono).mono m1,m3⟩
   refine⟨D.pending,_,O,?_⟩;rcases he with⟨hp,rfl⟩|⟨hp,rfl⟩|⟨id,hp,rfl⟩
   .rw[q2,hp]at q⊢;exact⟨rfl,q⟩
   .rw[q2,hp]at q⊢;exact wpIn_ret ⟨rfl,q⟩
   .rw[q2,hp]at q⊢;exact wpIn_exit ⟨rfl,q⟩
 .exact j.elim
end
end Go.Bb
namespace Go.Bb
open Go Go.RowKit Go.Ab Go.Proofs.Lg
theorem mZ.mono{Q c:Exit->Fr->List aa->Prop}{fr:Fr}{i:Nat}{s:List aa}(h:mZ Q fr i s)(b: ∀e fr s,Q e fr s->c e fr s):mZ c fr i s:=by
 unfold mZ at h⊢;split at h
 .refine⟨h.1,?_⟩;have a:=h.2;split at a
  .exact b _ _ _ a
  .exact b _ _ _ a
  .exact b _ _ _ a
 .exact h
theorem tY.mono{P:Program}{rd:Option Nat}{n:Nat}{f:X}{ps:List Nat}{x y:CC}{Q a:Exit->Fr->List aa->Prop}{fr:Fr}{s:List aa}(h:tY P rd n f ps x y Q fr s)(j: ∀e fr s,Q e fr s->a e fr s):tY P rd n f ps x y a fr s:=
 let⟨c,g,b,cs,d,i⟩:=h;⟨c,g,b,cs,d,i.mono λ_ _ h=>h.mono j⟩
def cy(P:Program)(rd:Option Nat):CC->(Exit->Fr->List aa->Prop)->Fr->List aa->Prop
 | .skip,Q,fr,s=>Q .normal fr s
 | .ops dr bf l,Q,fr,s=>cW P l (qQ dr bf Q) [] fr s
 | .seq a b,Q,fr,s=>cy P rd a (gg (cy P rd b Q) Q) fr s
 | .cond c a b,Q,fr,s=>match(c.ev fr).bind AV.bool? with
  |some v=>nM v (cy P rd b Q fr s) (cy P rd a Q fr s)
  |none=>False
 | .block id c,Q,fr,s=>cy P rd c (ma id Q) fr s
 | .loop c,Q,fr,s=>GO (cy P rd c) Q fr s
 | .exit id,Q,fr,s=>Q (.exit id) fr s
 | .ret,Q,fr,s=>Q .ret fr s
 | .rng n f ps x y,Q,fr,s=>tY P rd n f ps x y Q fr s
 | .trim keep c,Q,fr,s=>cy P rd c Q (eQ keep fr) s
theorem CV{P:Program}: ∀{l:List CO} {K f:Fr->List aa->List Nat->Prop} (_: ∀fr s g,K fr s g->f fr s g) {a:List Nat} {fr:Fr} {s:List aa},cW P l K a fr s->cW P l f a fr s
 |[],K,f,hk,a,fr,s,h=>hk _ _ _ h
 |o::l,K,f,hk,a,fr,s,h=>by
  unfold cW at h⊢;split at h
  .exact h
  .rename_i b hb;refine⟨λe=>CV hk (h.1 e),λe=> ?_⟩;have c:=h.2 e;split at c
   .split at c
    .exact c.mono λ_ _ _ h=>CV hk h
    .exact c
   .split at c
    .rename_i d j i;exact CV hk c
    .exact c
theorem mY{P:Program}{rd:Option Nat}: ∀{c:CC} {Q d:Exit->Fr->List aa->Prop} {fr:Fr} {s:List aa},cy P rd c Q fr s->(∀e fr s,Q e fr s->d e fr s)->cy P rd c d fr s
 | .skip,Q,d,fr,s,h,hq=>hq _ _ _ h
 | .ops dr bf l,Q,d,fr,s,h,hq=>CV (λ_ _ _ h=>⟨h.1,hq _ _ _ h.2⟩) h
 | .seq a b,Q,d,fr,s,h,hq=>mY (c:=a) h λe fr s g=>by
   cases e with
   |normal=>exact mY (c:=b) g hq
   |_=>exact hq _ _ _ g
 | .cond c a b,Q,d,fr,s,h,hq=>by
  unfold cy at h⊢;split at h
  .exact⟨λe=>mY (h.1 e) hq,λe=>mY (h.2 e) hq⟩
  .exact h
 | .block id c,Q,d,fr,s,h,hq=>mY (c:=c) h λe fr s g=>by
   rw[A4]at g⊢;exact hq _ _ _ g
 | .loop c,Q,d,fr,s,h,hq=>by
  obtain⟨i,k,g⟩:=h;refine⟨i,k,λm fr s hi=>mY (g m fr s hi) λe fr s j=> ?_⟩;cases e with
  |normal=>exact j
  |_=>exact hq _ _ _ j
 | .exit id,Q,d,fr,s,h,hq=>hq _ _ _ h
 | .ret,Q,d,fr,s,h,hq=>hq _ _ _ h
 | .rng n f ps x y,Q,d,fr,s,h,hq=>tY.mono h hq
 | .trim keep c,Q,d,fr,s,h,hq=>mY (c:=c) h hq
def aZ(P:Program)(rd:Option Nat)(c:CC)(Q:Exit->Fr->List aa->Prop)(fr:Fr)(s:List aa):Prop:=GO (cy P rd c) Q fr s
def tO(P:Program)(l:List CO)(K:Fr->List aa->List Nat->Prop)(a:List Nat)(fr:Fr)(dst:Option Nat)(d:AV)(s:List aa)(b:Nat):Prop:=cW P l K (b::a) (dt fr dst d) s
section
variable (P:Program) (rd:Option Nat) (Q:Exit->Fr->List aa->Prop) (fr:Fr) (s:List aa)
theorem NR:cy P rd .skip Q fr s=Q .normal fr s:=propext dK
theorem NO(b:Bool)(a:List Nat)(l:List CO):cy P rd (.ops b a l) Q fr s=cW P l (qQ b a Q) [] fr s:=propext dK
theorem NQ(a b:CC):cy P rd (.seq a b) Q fr s=cy P rd a (gg (cy P rd b Q) Q) fr s:=propext dK
theorem NL(c:X)(a b:CC):cy P rd (.cond c a b) Q fr s=match(c.ev fr).bind AV.bool? with
 |some v=>nM v (cy P rd b Q fr s) (cy P rd a Q fr s)
 |none=>False:=propext dK
theorem NK(id:Nat)(c:CC):cy P rd (.block id c) Q fr s=cy P rd c (ma id Q) fr s:=propext dK
theorem NN(c:CC):cy P rd (.loop c) Q fr s=aZ P rd c Q fr s:=propext dK
theorem NM(id:Nat):cy P rd (.exit id) Q fr s=Q (.exit id) fr s:=propext dK
theorem NP:cy P rd .ret Q fr s=Q .ret fr s:=propext dK
theorem CW(n:Nat)(f:X)(ps:List Nat)(x y:CC):cy P rd (.rng n f ps x y) Q fr s=tY P rd n f ps x y Q fr s:=propext dK
theorem NI(K:Fr->List aa->List Nat->Prop)(a:List Nat):cW P [] K a fr s=K fr s a.reverse:=propext dK
theorem Of(l:List CO)(K:Fr->List aa->List Nat->Prop)(a:List Nat)(dst:Option Nat)(d:AV)(b:Nat):tO P l K a fr dst d s b=cW P l K (b::a) (dt fr dst d) s:=propext dK
theorem NH(o:CO)(l:List CO)(K:Fr->List aa->List Nat->Prop)(a:List Nat):cW P (o::l) K a fr s=match mE fr o.g with
 |none=>False
 |some b=>nM b (cW P l K (0::a) (dt fr o.dst nJ) s) (match o.ci with
  | .call c xs=>match pS fr c,jN fr xs with
   |some cv,some vs=>af P cv vs s (tO P l K a fr o.dst)
   |_,_=>False
  |ci=>match ci.sem fr s with
   |some (d,s')=>cW P l K (ci.mark fr::a) (dt fr o.dst d) s'
   |none=>False):=propext dK
end
theorem aZ.intro{P:Program}{rd:Option Nat}{c:CC}{Q:Exit->Fr->List aa->Prop}{fr:Fr}{s:List aa}(a:Nat->Fr->List aa->Prop)(m:Nat)(fr0:Fr)(e:Sub fr0 fr)(h0:a m fr0 s)
 (h: ∀m fr s,a m fr s->cy P rd c (gg (λfr' f=> ∃d b,d<m/\Sub b fr'/\a d b f) Q) fr s):aZ P rd c Q fr s:=⟨a,⟨m,fr0,e,h0⟩,h⟩
def lz:Fr->Fr->Prop
 |[],_=>True
 |(t,x)::r,fr=>look fr t=some x/\lz r fr
theorem lz.sub: ∀{r fr:Fr},lz r fr->Sub r fr
 |[],fr,_=>Sub.nil fr
 |(_,_)::_,_,h=>Sub.cons h.1 (lz.sub h.2)
theorem aZ.at{P:Program}{rd:Option Nat}{c:CC}{Q:Exit->Fr->List aa->Prop}{fr:Fr}{s:List aa}{β:Type}(F:β->Fr)(S:β->List aa)(I:Nat->β->Prop)(m:Nat)(b:β)(o:lz (F b) fr)(n:s=S b)(h0:I m b)
  (h: ∀m b,I m b->cy P rd c (gg (λfr' g=> ∃d a,d<m/\lz (F a) fr'/\g=S a/\I d a) Q) (F b) (S b)):aZ P rd c Q fr s:=by
 refine aZ.intro (λm fr s=> ∃b,fr=F b/\s=S b/\I m b) m (F b) o.sub ⟨b,rfl,n,h0⟩ ?_;rintro m _ _ ⟨b,rfl,rfl,hi⟩;refine mY (h m b hi) λe fr' g f=> ?_;cases e with
 |normal=>obtain⟨d,a,i,j,k,l⟩:=f;exact⟨d,F a,i,j.sub,a,rfl,k,l⟩
 |_=>exact f
theorem bG{P:Program}{N:Nat}{rd:Option Nat}: ∀{cc:CC} {Q:Exit->Fr->List aa->Prop} {fr:Fr} {s:List aa},cy P rd cc Q fr s->AC P N rd cc Q fr s
 | .skip,Q,fr,s,hw=>AC.skip hw
 | .ops dr bf l,Q,fr,s,hw=>AC.ops hw
 | .seq a b,Q,fr,s,hw=>AC.seq ((bG (cc:=a) hw).mono λe fr' j g=>by
   cases e with
   |normal=>exact bG (cc:=b) g
   |_=>exact g)
 | .cond c a b,Q,fr,s,hw=>by
  unfold cy at hw;split at hw
  .rename_i v i;refine AC.cond i ?_;cases v with
   |true=>exact bG (hw.2 rfl)
   |false=>exact bG (hw.1 rfl)
  .exact hw.elim
 | .block id c,Q,fr,s,hw=>AC.block (bG (cc:=c) hw)
 | .loop c,Q,fr,s,hw=>by
  obtain⟨d,⟨m,fr0,h,h0⟩,hround⟩:=hw;exact AC.loop d h h0 λm fr s hi=>bG (hround m fr s hi)
 | .exit id,Q,fr,s,hw=>AC.exit hw
 | .ret,Q,fr,s,hw=>AC.ret hw
 | .rng n f ps x y,Q,fr,s,hw=>AC.rng hw
 | .trim keep c,Q,fr,s,hw=>AC.trim (bG (cc:=c) hw)
def putL:Fr->List (Nat×AV)->Fr
 |fr,[]=>fr
 |fr,(t,x)::l=>putL (dt fr (some t) x) l
def mh(id:Nat)(K:AV->List aa->Prop)(e:Exit)(s:List aa):Prop:=match s[id]? with
 |some (.loop l)=>match e with
  | .normal=>K (.d (.sc (.bool true))) (s.set id (.loop {l with st:= .ready,pend:=none}))
  | .ret=>K (.d (.sc (.bool false))) (s.set id (.loop {l with st:= .done,pend:=some .ret}))
  | .exit t=>K (.d (.sc (.bool false))) (s.set id (.loop {l with st:= .done,pend:=some (.exit t)}))
  |_=>False
 |_=>False
def kZ(id:Nat)(K:List aa->Prop)(s:List aa):Prop:=match s[id]? with
 |some (.loop l)=>l.st= .ready/\K (s.set id (.loop {l with st:= .busy}))
 |_=>False
def iQ(P:Program)(id:Nat)(xs:List AV)(s:List aa)(K:AV->List aa->Prop):Prop:=match s[id]? with
 |some (.loop l)=>xs.length=l.ps.length/\l.ps.all (λt=>decide (t<l.N))=true/\
  cy P (some id) l.ca (gg (λfr s=>kZ id (cy P (some id) l.cb (λe _ s=>mh id K e s) fr) s) λ_ _ _=>False) (putL l.fr (l.ps.zip xs)) s
 |_=>False
def Al(P:Program)(id:Nat)(xs:List AV)(s:List aa)(K:AV->List aa->Prop):Prop:=match s[id]? with
 |some (.loop l)=>xs.length=l.ps.length/\l.ps.all (λt=>decide (t<l.N))=true/\
  AC P l.N (some id) l.ca (gg (λfr s=>kZ id (AC P l.N (some id) l.cb (λe _ s=>mh id K e s) fr) s) λ_ _ _=>False) (putL l.fr (l.ps.zip xs)) s
 |_=>False
theorem kZ.mono{id:Nat}{K a:List aa->Prop}{s:List aa}(h:kZ id K s)(hk: ∀s,K s->a s):kZ id a s:=by
 unfold kZ at h⊢;split at h
 .exact⟨h.1,hk _ h.2⟩
 .exact h
theorem iQ.toA{P:Program}{id:Nat}{xs:List AV}{s:List aa}{K:AV->List aa->Prop}(h:iQ P id xs s K):Al P id xs s K:=by
 unfold iQ at h;unfold Al;split at h
 .refine⟨h.1,h.2.1,(bG h.2.2).mono λe fr s a=> ?_⟩;cases e with
  |normal=>exact kZ.mono a λs h=>bG h
  |_=>exact a
 .exact h
theorem FR.putL{k:aP}{w:World}{N:Nat}: ∀{ps:List Nat} {vs:List Value} {xs:List AV} {ts:Array Value} {fr:Fr},ts.size=N->(∀p∈ps,p<N)->(∀(i:Nat) (v:Value) (x:AV),vs[i]?=some v->xs[i]?=some x->RA k w v x)->vs.length=ps.length->xs.length=ps.length->
  (∀t x,look fr t=some x->RA k w (ts.getD t undef) x)->
  ((ps.zip vs).foldl (λts (t,v)=>ts.setIfInBounds t v) ts).size=N/\ ∀t x,look (Bb.putL fr (ps.zip xs)) t=some x->RA k w (((ps.zip vs).foldl (λts (t,v)=>ts.setIfInBounds t v) ts).getD t undef) x
 |[],vs,xs,ts,fr,hN,_,_,_,_,hf=>⟨hN,hf⟩
 |p::ps,v::vs,x::xs,ts,fr,hN,hp,hv,h1,h2,hf=>by
  refine FR.putL (ps:=ps) (vs:=vs) (xs:=xs) (ts:=ts.setIfInBounds p v) (fr:=dt fr (some p) x) (by simpa using hN) (λq d=>hp q (by simp[d])) (λi v x h c=>hv (i+1) v x (by simpa using h) (by simpa using c)) (by simpa using h1) (by simpa using h2) λt y a=> ?_;have b:p<ts.size:=by rw[hN];exact hp p (by simp)
  rw[K7]at a;rw[rX,Array.getElem?_setIfInBounds];by_cases e:p=t
  .subst e;simp at a;subst a;simp[b];exact hv 0 v x rfl rfl
  .rw[if_neg (λh=>e (aJ h))]at a;rw[if_neg e,<-rX];exact hf t y a
 |_::_,[],_,_,_,_,_,_,h1,_,_=>by simp at h1
 |_::_,_::_,[],_,_,_,_,_,_,h2,_=>by simp at h2
theorem Am.of{P:Program}{id:Nat}{xs:List AV}{s:List aa}{K:AV->List aa->Prop}(h:Al P id xs s K): ∃d s',Am (dH P) P id xs s d s'/\K d s':=by
 unfold Al at h;split at h
 .rename_i l hl;obtain⟨g,F,hw⟩:=h;obtain⟨e,Q,s1,Z,T⟩:=hw;cases e with
  |normal=>
   have o:kZ id (AC P l.N (some id) l.cb (λe _ s=>mh id K e s) Q) s1:=Z;unfold kZ at o;split at o
   .rename_i l1 G;obtain⟨I,W⟩:=o;obtain⟨O,a3,s2,f,U⟩:=W;unfold mh at f;split at f
    .rename_i X H;obtain⟨j,hj,hK⟩: ∃j:Option oH,((O= .normal/\j=none)\/(O= .ret/\j=some .ret)\/ ∃t,O= .exit t/\j=some (.exit t))/\K (.d (.sc (.bool j.isNone))) (s2.set id (.loop {X with st:=if j.isNone then .ready else .done,pend:=j})):=by
      split at f
      .exact⟨none,.inl ⟨rfl,rfl⟩,f⟩
      .exact⟨some .ret,.inr (.inl ⟨rfl,rfl⟩),f⟩
      .exact⟨some (.exit _),.inr (.inr ⟨_,rfl,rfl⟩),f⟩
      .exact f.elim
     refine⟨_,_,?_,hK⟩;intro B k w vs b J y m;obtain⟨b',r,Y,g2,g3,gI⟩:=J.loop hl;rw[m]at Y;cases Y;obtain⟨q1,q2,q3,q4,q5,q6,q7⟩:=g3;have V:vs.toArray.size=r.params.size:=by
      have:r.params.toList.length=l.ps.length:=by rw[q5]
      simpa[y.1,g]using this.symm
     refine⟨_,_,_,_,run_yield g2 V,?_⟩;have M:(r.params.zip vs.toArray).foldl (λtmps (t,a)=>tmps.setIfInBounds t a) r.tmps=(l.ps.zip vs).foldl (λts (t,v)=>ts.setIfInBounds t v) r.tmps:=by
      rw[<-Array.foldl_toList];simp[q5]
     rw[M];obtain⟨f1,f2⟩:=FR.putL (k:=k) (w:=w) (N:=l.N) (ps:=l.ps) (vs:=vs) (xs:=xs) (ts:=r.tmps) (fr:=l.fr) q3 (λp hp=>by simpa using js.1 F p hp) y.2 (by rw[y.1,g]) g q4;refine roundIn_of_wpIn trivial (wpIn_mono (T r.assign q6 B k {tmps:=(l.ps.zip vs).foldl (λts (t,v)=>ts.setIfInBounds t v) r.tmps,defers:=[]} w (some b) m f1 f2 J) ?_)
     rintro e' a1 w1 ⟨rfl,k1,p1,p2,p3,p4,p5⟩;obtain⟨a0,r1,A,C,R,S⟩:=p5.loop G;have c:k1.own[id]?=some (.blk b):=dM.blk' p3.mono m;rw[c]at A;cases A;obtain⟨t1,t2,t3,t4,t5,t6,t7⟩:=R;obtain⟨m1,m2,m3⟩:=EG p5 (l':={l1 with st:= .busy}) (r':={r1 with state:= .busy}) G c C S λhm=>⟨rfl,t2,t3,λt z L=>(t4 t z L).mono hm,t5,t6,t7⟩
     refine⟨_,run_beginRound C (by rw[t1];exact I),?_⟩;refine wpIn_mono (U r.body q7 B k1 a1 _ (some b) c p1 (λt z L=>(p4 t z L).mono m1) m3) ?_;rintro e3 a2 w2 ⟨rfl,k2,u1,u2,u3,u4,u5⟩;obtain⟨b3,r2,q,u,D,E⟩:=u5.loop H;have n:k2.own[id]?=some (.blk b):=dM.blk' u3.mono c;rw[n]at q;cases q;obtain⟨y1,y2,y3,y4,y5,y6,y7⟩:=D
     have x: ∃v w',(Instr.endRound b (j.map oH.code)).run P w2= .ok v w'/\ ∃v' k',Ending.returned v=Ending.returned v'/\RA k' w' v' (.d (.sc (.bool j.isNone)))/\Ext B k w k' w'/\St (dH P) B k' (s2.set id (.loop {X with st:=if j.isNone then .ready else .done,pend:=j})) w':=by
      have i:(j.map oH.code).isNone=j.isNone:=by cases j<;>rfl
      obtain⟨z1,z2,z3⟩:=EG u5 (l':={X with st:=if j.isNone then .ready else .done,pend:=j}) (r':={r2 with state:=if(j.map oH.code).isNone then .ready else .done,pending:=j.map oH.code}) H n u E λhm=>⟨by rw[i],rfl,y3,λt z L=>(y4 t z L).mono hm,y5,y6,y7⟩
      refine⟨_,_,run_endRound (j.map oH.code) u,.bool (j.map oH.code).isNone,k2,rfl,?_,((p3.trans m2).trans u3).trans z2,z3⟩;rw[i];exact .d (.sc _)
     rcases hj with⟨rfl,rfl⟩|⟨rfl,rfl⟩|⟨t,rfl,rfl⟩
     .exact x
     .exact x
     .exact x
    .exact f.elim
   .exact o.elim
  |_=>exact Z.elim
 .exact h.elim
inductive CR where
 |tmp (t:Nat)
 |cell (t:Nat) (n:Option Nat)
def cR(P:Program):ResultVar->Option CR
 | .tmp t=>some (.tmp t)
 | .cell t a=>(kW P a).map (.cell t)
def ue(P:Program):List ResultVar->Option (List CR)
 |[]=>some []
 |r::l=>match cR P r,ue P l with
  |some c,some cs=>some (c::cs)
  |_,_=>none
structure CF where
 n:Nat
 body:CC
 res:List CR
def CF.erase(F:CF):CF:=⟨F.n,F.body.erase,F.res⟩
def oV(P:Program)(a:List Nat)(f:FuncId):Option CF:=
 match P.funcs[f]? with
 |some fn=>match fn.body with
  |some c=>if fn.name== "runtime.NumGoroutine" then none else match comp P a fn.ntmps c,ue P fn.results.toList with
   |some cc,some rs=>some ⟨fn.ntmps,cc,rs⟩
   |_,_=>none
  |none=>none
 |none=>none
def uO(fr:Fr)(s:List aa):CR->Option AV
 | .tmp t=>look fr t
 | .cell t n=>(look fr t).bind λv=>kU (ir s v) n v
def rL(fr:Fr)(s:List aa):List CR->Option (List AV)
 |[]=>some []
 |r::l=>(uO fr s r).bind λx=>(rL fr s l).map (x:: ·)
def zJ:List AV->AV
 |[x]=>x
 |l=> .tup l
def wW(fr:Fr)(s:List aa)(rs:List CR):Option AV:=(rL fr s rs).map zJ
def lv(rs:List CR)(K:AV->List aa->Prop):Exit->Fr->List aa->Prop
 | .normal,fr,s=> ∃d,wW fr s rs=some d/\K d s
 | .ret,fr,s=> ∃d,wW fr s rs=some d/\K d s
 |_,_,_=>False
theorem SN{P:Program}{F:Nat->Code->CC->Prop}{B:Nat}{k:aP}{w:World}{s:List aa}{t:TypeId}{n:Option Nat}{u:Value}{v d:AV}(l:St F B k s w)(z:kW P t=some n)(A:RA k w u v)(c:kU (ir s v) n v=some d): ∃y,(Instr.loadAt t u).run P w= .ok y w/\RA k w y d:=by
 unfold kU at c;split at c
 .have r:=A.d_inv;cases r with
  |ref b off us ds r I J K=>exact K5 (P:=P) (base:=off) (off:=0) (λi u o=>(J i u o).2) ⟨r,I,K⟩ z c
 .rename_i id off;obtain⟨cs,f,c⟩:=aT c;obtain⟨b,hb,g⟩:=A.ptr_inv;obtain⟨L,S,us,p,D,E,_⟩:=l.cells (uf f);rw[hb]at p;cases p;obtain⟨y,a,h⟩:=BJ (P:=P) (base:=0) (off:=off) (b:=b) (λi u o=>by rw[aw,vP D];exact o) E z c;rw[aw]at a;exact⟨y,by rw[g];exact a,h⟩
 .rename_i id m off;obtain⟨⟨sz,ds⟩,f,c⟩:=aT c;obtain⟨e,x,C,j⟩:=jo f;obtain⟨b,g,hb⟩:=A.vptr_inv;obtain⟨u,xs,cap,cur,p,D,rfl,E,M,N,O,Q,R,H,G,q⟩:=zQ l x C j hb;obtain⟨y,a,h⟩:=BJ (P:=P) (base:=0) (off:=off) (b:=b) (λi u o=>by rw[aw];exact q i u o) H z c;rw[aw]at a;exact⟨y,by rw[g];exact a,h⟩
 .cases c
theorem Yn{P:Program}{l:ResultVar}{c:CR}(h:cR P l=some c){fr:Fr}{s:List aa}{d:AV}(f:uO fr s c=some d){q:Nat->Code->CC->Prop}{B:Nat}{k:aP}{a:Act}{w:World}(o:FR k w a fr)(x:St q B k s w):
  ∃v,(match l with
   | .tmp t=>pure (a.tmps.getD t undef)
   | .cell r t=>do loadVar t (<-asAddr (a.tmps.getD r undef)):Sem Value).run P w= .ok v w/\RA k w v d:=by
 cases l with
 |tmp t=>
  simp[cR]at h;subst h;exact⟨_,rfl,o t _ f⟩
 |cell t C=>
  unfold cR at h;obtain⟨n,u,rfl⟩:=dy.1 h;obtain⟨v,A,f⟩:=aT (show(look fr t).bind (λv=>kU (ir s v) n v)=some d from f);have i:=o t v A;obtain⟨y,g,j⟩:=SN x u i f;refine⟨y,?_,j⟩;have hp: ∃p,a.tmps.getD t undef= .pointer (some p):=by
   unfold kU at f;split at f
   .have m:=i.d_inv;generalize a.tmps.getD t undef=z at m;cases m;exact⟨_,rfl⟩
   .obtain⟨b,_,e⟩:=i.ptr_inv;exact⟨_,e⟩
   .obtain⟨b,e,_⟩:=i.vptr_inv;exact⟨_,e⟩
   .cases f
  obtain⟨p,hp⟩:=hp;show(do loadVar C (<-asAddr (a.tmps.getD t undef)):Sem Value).run P w= .ok y w;rw[hp]at g⊢;simp only[Instr.loadAt,Instr.sureAddr,bP,cJ,bV]at g;simp only[asAddr,bP,cJ,bV,g]
theorem Mg{P:Program}{u:Nat->Code->CC->Prop}{fr:Fr}{s:List aa}{B:Nat}{k:aP}{a:Act}{w:World}(p:FR k w a fr)(q:St u B k s w): ∀{e:List ResultVar} {cs:List CR} {ds:List AV},ue P e=some cs->rL fr s cs=some ds->
  ∃vs:List Value,(e.mapM λr=>(match r with
   | .tmp t=>pure (a.tmps.getD t undef)
   | .cell z t=>do loadVar t (<-asAddr (a.tmps.getD z undef)):Sem Value)).run P w= .ok vs w/\fU k w vs ds
 |[],cs,ds,h,f=>by
  simp[ue]at h;subst h;simp[rL]at f;subst f;exact⟨[],rfl,rfl,by simp⟩
 |r::e,cs,ds,h,f=>by
  unfold ue at h;split at h
  .rename_i c j C D;obtain rfl:=aJ h;obtain⟨d,E,f⟩:=aT (show(uO fr s c).bind (λx=>(rL fr s j).map (x:: ·))=some ds from f);obtain⟨A,F,rfl⟩:=bK f;obtain⟨v,l,m⟩:=Yn C E p q;obtain⟨vs,g,b⟩:=Mg p q D F;refine⟨v::vs,?_,by simp[b.1],λi x y n o=> ?_⟩
   .rw[List.mapM_cons];simp only[bP,l,bV,g,cJ]
   .cases i with
    |zero=>simp at n o;subst n;subst o;exact m
    |succ i=>exact b.2 i x y (by simpa using n) (by simpa using o)
  .cases h
theorem Co{P:Program}{fn:Func}{rs:List CR}(l:ue P fn.results.toList=some rs){e:Nat->Code->CC->Prop}{fr:Fr}{s:List aa}{r:AV}(i:wW fr s rs=some r){B:Nat}{k:aP}{a:Act}{w:World}(j:FR k w a fr)(m:St e B k s w):
  ∃v,(results fn a.tmps).run P w= .ok v w/\RA k w v r:=by
 obtain⟨ds,c,rfl⟩:=bK i;obtain⟨vs,f,b⟩:=Mg j m l c;have g:(results fn a.tmps).run P w= .ok (if h:vs.toArray.size=1 then vs.toArray[0]else .tuple vs.toArray) w:=by
  unfold results;rw[<-Array.toArray_toList (xs:=fn.results),List.mapM_toArray];simp only[bP,Sem.run_map,cJ];erw[f];rfl
 refine⟨_,g,?_⟩
 match ds,vs,b with
 |[d],[v],b=>exact b.2 0 v d rfl rfl
 |[],[],b=>exact .tup rfl b.2
 |d::d'::ds,v::v'::vs,b=>
  rw[dif_neg (by simp)];exact .tup b.1 b.2
 |[],_::_,b=>simp[fU]at b
 |_::_,[],b=>simp[fU]at b
 |[_],_::_::_,b=>simp[fU]at b
 |_::_::_,[_],b=>simp[fU]at b
def jK:Nat->List AV->Fr
 |_,[]=>[]
 |i,x::l=>(i,x)::jK (i+1) l
theorem EE: ∀(xs:List AV) (n t:Nat),look (jK n xs) t=if n<=t then xs[t-n]? else none
 |[],n,t=>by simp[jK,look]
 |x::l,n,t=>by
  unfold jK look;rw[EE l (n+1) t];by_cases e:n=t
  .subst e;simp
  .rw[if_neg e];by_cases h:n<=t
   .rw[if_pos h,if_pos a8,show t-n=(t-(n+1))+1 by omega];rfl
   .rw[if_neg h,if_neg a8]
def bs(P:Program)(f:FuncId)(xs:List AV)(s:List aa)(K:AV->List aa->Prop):Prop:= ∃d a,iK (dH P) P f xs s d a/\K d a
theorem bs.mono{P:Program}{f:FuncId}{xs:List AV}{s:List aa}{K a:AV->List aa->Prop}(h:bs P f xs s K)(hk: ∀d s,K d s->a d s):bs P f xs s a:=let⟨d,e,b,c⟩:=h;⟨d,e,b,hk _ _ c⟩
theorem bs.ofA{P:Program}{m:List Nat}{f:FuncId}{F:CF}(hc:oV P m f=some F.erase){xs:List AV}{s:List aa}{K:AV->List aa->Prop}(l:xs.length<=F.n)(h:AC P F.n none F.body (lv F.res K) (jK 0 xs) s):bs P f xs s K:=by
 unfold oV at hc;split at hc
 .rename_i fn v;split at hc
  .rename_i c b;split at hc
   .cases hc
   .rename_i g;split at hc
    .rename_i cc rs A E;have C:=aJ hc;obtain⟨o,p,q⟩:fn.ntmps=F.n/\cc=F.body.erase/\rs=F.res:=by
      unfold CF.erase at C;injection C with o p q
      exact⟨o,p,q⟩
     rw[<-o]at h l;rw[<-q]at h;rw[p]at A;obtain⟨e,fr',z,y,J⟩:=h;have i: ∃d,(e= .normal\/e= .ret)/\wW fr' z rs=some d/\K d z:=by
      cases e with
      |normal=>obtain⟨d,r,u⟩:=y;exact⟨d,.inl rfl,r,u⟩
      |ret=>obtain⟨d,r,u⟩:=y;exact⟨d,.inr rfl,r,u⟩
      |_=>exact y.elim
     obtain⟨d,H,G,hk⟩:=i;refine⟨d,z,iK.of v b (by simpa using g) H l (λk w vs j t x i=> ?_) (J c ⟨m,A⟩) (λB k a w I L=>Co E G I L),hk⟩;rw[EE]at i;simp only[fG,if_true,pI]at i;have N:=(aV.1 i).1;have M:=j.1;have D:vs[t]?=some vs[t]:=bQ a8
     have hg:(vs.toArray++Array.replicate (fn.ntmps-vs.toArray.size) undef).getD t undef=vs[t]:=by
      rw[rX,D6 (by simp;omega)];simp[D]
     show RA k w ((vs.toArray++Array.replicate (fn.ntmps-vs.toArray.size) undef).getD t undef) x;rw[hg];exact j.2 t _ x D i
    .cases hc
  .cases hc
 .cases hc
theorem bs.of{P:Program}{b:List Nat}{f:FuncId}{F:CF}(hc:oV P b f=some F.erase){xs:List AV}{s:List aa}{K:AV->List aa->Prop}(a:xs.length<=F.n)(h:cy P none F.body (lv F.res K) (jK 0 xs) s):bs P f xs s K:=bs.ofA hc a (bG h)
theorem af.fn{P:Program}{f:FuncId}{b cs vs:List AV}{s:List aa}{K:AV->List aa->Nat->Prop}(h:bs P f (b++vs++cs) s λd a=>K d a 2):af P (.clo f b cs) vs s K:=
 let⟨d,a,c,e⟩:=h;.inr (.inl ⟨d,a,c,e⟩)
theorem af.yld{P:Program}{id:Nat}{vs:List AV}{s:List aa}{K:AV->List aa->Nat->Prop}(h:iQ P id vs s λd a=>K d a 2):af P (.yld id) vs s K:=
 let⟨d,a,b,c⟩:=Am.of h.toA;.inr (.inl ⟨d,a,b,c⟩)
theorem mc.fn{P:Program}{f:FuncId}{a cs vs:List AV}{s:List aa}{K:AV->List aa->Prop}(h:bs P f (a++vs++cs) s K):mc (dH P) P (.clo f a cs) vs s K:=
 let⟨d,e,b,c⟩:=h;⟨d,e,b,c⟩
end Go.Bb
namespace Go.Bb
open Go Go.RowKit Go.Ab Go.Proofs.Lg
mutual
def AV.shift(n:Nat):AV->AV
 | .d x=> .d x
 | .tsl id sz rows=> .tsl (n+id) sz rows
 | .nil sz=> .nil sz
 | .emp sz=> .emp sz
 | .ptr id o=> .ptr (n+id) o
 | .vec id m sz=> .vec (n+id) m sz
 | .vptr id m o=> .vptr (n+id) m o
 | .win id o m sz=> .win (n+id) o m sz
 | .vwn id N o m sz=> .vwn (n+id) N o m sz
 | .mp id=> .mp (n+id)
 | .yld id=> .yld (n+id)
 | .clo f a cs=> .clo f (gu n a) (gu n cs)
 | .agg cs=> .agg (gu n cs)
 | .tup cs=> .tup (gu n cs)
def gu(n:Nat):List AV->List AV
 |[]=>[]
 |x::l=>x.shift n::gu n l
end
theorem mR(n:Nat): ∀l:List AV,gu n l=l.map (AV.shift n)
 |[]=>by simp[gu]
 |x::l=>by simp[gu,mR n l]
theorem xd(n:Nat)(l:List AV):(gu n l).length=l.length:=by rw[mR,aM]
theorem zE(n:Nat){l:List AV}{i:Nat}{c:AV}(h:(gu n l)[i]?=some c): ∃x,l[i]?=some x/\c=x.shift n:=by
 rw[mR,dj]at h;obtain⟨x,a,rfl⟩:=dy.1 h;exact⟨x,a,rfl⟩
def Ai(n:Nat)(a O:List Own):Prop:= ∀(id:Nat) (o:Own),a[id]?=some o->O[n+id]?=some o
theorem RA.shift{k:aP}{w:World}{v:Value}{x:AV}(h:RA k w v x){n:Nat}{O:List Own}(f:Ai n k.own O):RA ⟨k.I,O⟩ w v (x.shift n):=by
 induction h with
 |d h=>rw[AV.shift];exact .d h
 |tsl a b=>rw[AV.shift];obtain⟨u,n,e,g⟩:=b;exact .tsl a ⟨u,n,f _ _ e,g⟩
 |nil=>rw[AV.shift];exact .nil
 |emp=>rw[AV.shift];exact .emp
 |ptr h=>rw[AV.shift];exact .ptr (f _ _ h)
 |vec a b=>rw[AV.shift];obtain⟨u,n,e,g⟩:=b;exact .vec a ⟨u,n,f _ _ e,g⟩
 |vptr h=>rw[AV.shift];obtain⟨u,n,e,g⟩:=h;exact .vptr ⟨u,n,f _ _ e,g⟩
 |win a b e=>rw[AV.shift];exact .win (f _ _ a) b e
 |vwn a b=>rw[AV.shift];obtain⟨u,n,e,g⟩:=b;exact .vwn a ⟨u,n,f _ _ e,g⟩
 |mp h=>rw[AV.shift];exact .mp (f _ _ h)
 |yld h=>rw[AV.shift];exact .yld (f _ _ h)
 |clo a b _ _ o i2=>
  rw[AV.shift];refine .clo (by rw[xd];exact a) (by rw[xd];exact b) (λi u c j hc=> ?_) (λi u c j hc=> ?_)
  .obtain⟨x,l,rfl⟩:=zE _ hc;exact o i u x j l
  .obtain⟨x,l,rfl⟩:=zE _ hc;exact i2 i u x j l
 |agg a b _ m=>
  rw[AV.shift];refine .agg (by rw[xd];exact a) b (λi u c j hc=> ?_);obtain⟨x,l,rfl⟩:=zE _ hc;exact m i u x j l
 |tup a _ m=>
  rw[AV.shift];refine .tup (by rw[xd];exact a) (λi u c j hc=> ?_);obtain⟨x,l,rfl⟩:=zE _ hc;exact m i u x j l
theorem bZ.shift{k:aP}{w:World}{us:List Value}{ds:List AV}(h:bZ k w us ds){n:Nat}{O:List Own}(a:Ai n k.own O):bZ ⟨k.I,O⟩ w us (gu n ds):=
 ⟨by rw[xd];exact h.1,h.2.1,λi u c b hc=>by obtain⟨x,d,rfl⟩:=zE _ hc;exact(h.2.2 i u x b d).shift a⟩
def G8(n:Nat)(fr:Fr):Fr:=fr.map λp=>(p.1,p.2.shift n)
theorem K8(n:Nat): ∀{fr:Fr} {t:Nat} {x:AV},look (G8 n fr) t=some x-> ∃y,look fr t=some y/\x=y.shift n
 |[],t,x,h=>by cases h
 |(u,y)::fr,t,x,h=>by
  have a:(if u=t then some (y.shift n)else look (G8 n fr) t)=some x:=h;unfold look;by_cases e:u=t
  .rw[if_pos e]at a⊢;exact⟨y,rfl,(aJ a).symm⟩
  .rw[if_neg e]at a⊢;exact K8 n a
def aa.shift(n:Nat):aa->aa
 | .cells ds=> .cells (gu n ds)
 | .tcells t ds=> .tcells t (gu n ds)
 | .row e sz m=> .row e sz m
 | .vec e sz ds=> .vec e sz (gu n ds)
 | .map ag es=> .map ag (es.map λp=>(p.1,p.2.shift n))
 | .loop l=> .loop {l with fr:=G8 n l.fr}
 | .hole=> .hole
 | .junk=> .junk
theorem Um{w:World}{B a e sz n:Nat}{v:Value}{xs:List Value}(h:w.ownsRow a e sz v n xs)(hb:B<=a):w.ownsRow B e sz v n xs:=by
 refine⟨h.1,?_⟩;rcases h.2 with h2|⟨g,cap,cur,h1,h2,h3⟩
 .exact .inl h2
 .exact .inr ⟨g,cap,cur,h1,ez hb h2,h3⟩
theorem lr.shift{u:Nat->Code->CC->Prop}{B s:Nat}{k:aP}{w:World}(z:B<=s){n:Nat}{O:List Own}(g:Ai n k.own O){x:aa}{o:Own}(h:lr u s k w x o):lr u B ⟨k.I,O⟩ w (x.shift n) o:=by
 cases x with
 |cells ds=>
  cases o with
  |blk b=>obtain⟨t,us,a,d,c⟩:=h;exact⟨t,us,a,d.shift g,c⟩
  |row v n=>exact h.elim
  |hole=>exact h.elim
 |tcells t ds=>
  cases o with
  |blk b=>obtain⟨us,a,d,c⟩:=h;exact⟨us,a,d.shift g,c⟩
  |row v n=>exact h.elim
  |hole=>exact h.elim
 |row e sz m=>
  cases o with
  |blk b=>exact h.elim
  |row v n=>obtain⟨a,⟨xs,d⟩,c⟩:=h;exact⟨a,⟨xs,Ul d z⟩,c⟩
  |hole=>exact h.elim
 |vec e sz ds=>
  cases o with
  |blk b=>exact h.elim
  |row v n=>obtain⟨xs,a,d,c,E⟩:=h;exact⟨xs,Um a z,d,by rw[xd];exact c,E.shift g⟩
  |hole=>exact h.elim
 |map ag es=>
  cases o with
  |blk b=>
   obtain⟨f,p,a,⟨G,H,J⟩,c⟩:=h;refine⟨f,p,a,⟨by simpa using G,by simpa using H,λi e x F j=> ?_⟩,c⟩;rw[dj]at j;obtain⟨y,q,rfl⟩:=dy.1 j;obtain⟨A,C,D⟩:=J i e y F q;exact⟨A,C.shift g,D⟩
  |row v n=>exact h.elim
  |hole=>exact h.elim
 |loop l=>
  cases o with
  |blk b=>
   obtain⟨r,a,⟨K,L,M,N,P⟩,c⟩:=h;exact⟨r,a,⟨K,L,M,λt x j=>by obtain⟨y,q,rfl⟩:=K8 _ j;exact(N t y q).shift g,P⟩,c⟩
  |row v n=>exact h.elim
  |hole=>exact h.elim
 |hole=>
  cases o with
  |blk b=>exact h.elim
  |row v n=>exact h.elim
  |hole=>trivial
 |junk=>cases o<;>trivial
mutual
def AV.free:AV->Option AV
 | .d x=>some (.d x)
 | .tsl _ sz rows=>some (.d (.sl sz rows))
 | .nil sz=>some (.nil sz)
 | .emp sz=>some (.emp sz)
 | .clo f c cs=>match oZ c,oZ cs with
  |some a,some b=>some (.clo f a b)
  |_,_=>none
 | .agg cs=>match oZ cs with
  |some a=>some (.agg a)
  |none=>none
 | .tup cs=>match oZ cs with
  |some a=>some (.tup a)
  |none=>none
 | .ptr _ _=>none
 | .vec _ _ _=>none
 | .vptr _ _ _=>none
 | .win _ _ _ _=>none
 | .vwn _ _ _ _ _=>none
 | .mp _=>none
 | .yld _=>none
def oZ:List AV->Option (List AV)
 |[]=>some []
 |x::l=>match x.free,oZ l with
  |some y,some l'=>some (y::l')
  |_,_=>none
end
theorem wh: ∀{l l':List AV},oZ l=some l'->l'.length=l.length/\ ∀(i:Nat) (c:AV),l'[i]?=some c-> ∃x,l[i]?=some x/\x.free=some c
 |[],l',h=>by simp[oZ]at h;subst h;simp
 |x::l,l',h=>by
  unfold oZ at h;split at h
  .rename_i y f a b;cases h;obtain⟨d,e⟩:=wh b;refine⟨by simp[d],λi c hc=> ?_⟩;cases i with
   |zero=>simp at hc;subst hc;exact⟨x,rfl,a⟩
   |succ i=>exact e i c (by simpa using hc)
  .cases h
theorem RA.free{k:aP}{w:World}{v:Value}{x:AV}(h:RA k w v x)(t:List Own): ∀{y:AV},x.free=some y->RA ⟨k.I,t⟩ w v y:=by
 induction h with
 |d h=>intro y e;rw[AV.free]at e;cases e;exact .d h
 |tsl f g=>intro y e;rw[AV.free]at e;cases e;exact .d f
 |nil=>intro y e;rw[AV.free]at e;cases e;exact .nil
 |emp=>intro y e;rw[AV.free]at e;cases e;exact .emp
 |ptr h=>intro y e;rw[AV.free]at e;cases e
 |vec f g=>intro y e;rw[AV.free]at e;cases e
 |vptr h=>intro y e;rw[AV.free]at e;cases e
 |win f g z=>intro y e;rw[AV.free]at e;cases e
 |vwn f g=>intro y e;rw[AV.free]at e;cases e
 |mp h=>intro y e;rw[AV.free]at e;cases e
 |yld h=>intro y e;rw[AV.free]at e;cases e
 |clo f g _ _ q i2=>
  intro y e;rw[AV.free]at e;split at e
  .rename_i a b ha hb;cases e;obtain⟨n,o⟩:=wh ha;obtain⟨r,s⟩:=wh hb;refine .clo (f.trans n.symm) (g.trans r.symm) (λi u c l hc=> ?_) (λi u c l hc=> ?_)
   .obtain⟨x,m,j⟩:=o i c hc;exact q i u x l m j
   .obtain⟨x,m,j⟩:=s i c hc;exact i2 i u x l m j
  .cases e
 |agg f g _ p=>
  intro y e;rw[AV.free]at e;split at e
  .rename_i a ha;cases e;obtain⟨n,o⟩:=wh ha;refine .agg (f.trans n.symm) g (λi u c l hc=> ?_);obtain⟨x,m,j⟩:=o i c hc;exact p i u x l m j
  .cases e
 |tup f _ p=>
  intro y e;rw[AV.free]at e;split at e
  .rename_i a ha;cases e;obtain⟨n,o⟩:=wh ha;refine .tup (f.trans n.symm) (λi u c l hc=> ?_);obtain⟨x,m,j⟩:=o i c hc;exact p i u x l m j
  .cases e
theorem iK.frameAt{C:Nat->Code->CC->Prop}{P:Program}{f:FuncId}{xs t:List AV}{d:AV}{m:List aa}(h:iK C P f t [] d m)(A:oZ xs=some t){s:List aa}{n:Nat}(K:iy s n m.length):iK C P f xs s (d.shift n) (fill s n (m.map (aa.shift n))):=by
 refine⟨h.enters,λB k w vs g r=> ?_⟩;obtain⟨R,S⟩:=wh A;have q:St C w.heap.size ⟨k.I,[]⟩ [] w:=⟨bg _,rfl,by simp,by simp,by simp,g.glob.mono g.base⟩
 refine qJ (h.calls w.heap.size ⟨k.I,[]⟩ w vs q ⟨r.1.trans R.symm,λi u c N hc=> ?_⟩) ?_
 .obtain⟨x,G,H⟩:=S i c hc;exact(r.2 i u x N G).free [] H
 .rintro e w' ⟨v,k',rfl,O,J,z⟩;have p:k'.own.length=(m.map (aa.shift n)).length:=by rw[aM];exact z.len
  have E:iy s n (m.map (aa.shift n)).length:=by rw[aM];exact K
  have a:Ai n k'.own (fill k.own n k'.own):=λid o l=>by
   rw[yq k'.own (by rw[g.len];exact K.le),if_neg a8,if_pos (by have:=(aV.1 l).1;omega),nQ];exact l
  obtain⟨L,M⟩:=g.fill J.below (I':=k'.I) (λb hb=>J.low b hb) k'.own (m.map (aa.shift n)) p E (λi o b l hb=>z.lies i o b l hb) (λi j o o' b D l F hb=>z.apart i j o o' b D l F hb)
   λ_ i o x l A=>by
    rw[dj]at A;obtain⟨y,Q,rfl⟩:=dy.1 A;exact(z.obj i y o Q l).shift g.base a
  exact⟨v,_,rfl,O.shift a,L,M⟩
theorem iK.frame{c:Nat->Code->CC->Prop}{P:Program}{f:FuncId}{xs a:List AV}{d:AV}{b:List aa}(h:iK c P f a [] d b)(e:oZ xs=some a)(s:List aa):iK c P f xs s (d.shift s.length) (s++b.map (aa.shift s.length)):=by
 have:=h.frameAt e (s:=s) (iy.end' s b.length);rw[um]at this;exact this
def dw{α β:Type}(g:α->Option β):List α->Option (List β)
 |[]=>some []
 |x::l=>match g x,dw g l with
  |some y,some l'=>some (y::l')
  |_,_=>none
theorem uA{α β:Type}{g:α->Option β}: ∀{l:List α} {l':List β},dw g l=some l'->l'.length=l.length/\ ∀(i:Nat) (x:α),l[i]?=some x-> ∃y,l'[i]?=some y/\g x=some y
 |[],l',h=>by simp[dw]at h;subst h;simp
 |x::l,l',h=>by
  unfold dw at h;split at h
  .rename_i y f b c;obtain rfl:=aJ h;obtain⟨d,e⟩:=uA c;refine⟨by simp[d],λi z a=> ?_⟩;cases i with
   |zero=>simp at a;subst a;exact⟨y,rfl,b⟩
   |succ i=>exact e i z (by simpa using a)
  .cases h
def bE(s:List aa):Nat->AV->Option D
 |0,_=>none
 |f+1,.vec id n sz=>match s[id]? with
  |some (.vec _ sz2 ds)=>if sz2=sz/\0<sz/\ds.length=n*sz then(dw (bE s f) ds).map λes=> .sl sz (chunk sz n es)else none
  |_=>none
 |f+1,.vwn id N off n sz=>match s[id]? with
  |some (.vec _ sz2 ds)=>if sz2=sz/\0<sz/\ds.length=N*sz/\off+n<=N then(dw (bE s f) ((ds.drop (off*sz)).take (n*sz))).map λes=> .sl sz (chunk sz n es)else none
  |_=>none
 |f+1,.win id off n sz=>match s[id]? with
  |some (.cells ds)=>if off+n*sz<=ds.length then(dw (bE s f) ((ds.drop off).take (n*sz))).map λes=> .sl sz (chunk sz n es)else none
  |_=>none
 |f+1,.ptr id off=>match s[id]? with
  |some (.cells ds)=>(dw (bE s f) (ds.drop off)).map .ref
  |_=>none
 |f+1,.agg cs=>(dw (bE s f) cs).map .agg
 |f+1,.tup cs=>(dw (bE s f) cs).map .tup
 |_+1,x=>x.toL
theorem B7{LL:Nat->Code->CC->Prop}{B:Nat}{k:aP}{s:List aa}{w:World}(K:St LL B k s w){I':Nat->Nat}(hk:jr k.I w I' w)(W: ∀b o u,B<=b->w.cell? ⟨b,o,none⟩=some u->o<I' b): ∀(f:Nat) (x:AV) (d:D) (v:Value),bE s f x=some d->RA k w v x->RD I' w v d
 |0,x,d,v,h,_=>by simp[bE]at h
 |f+1,x,d,v,h,hv=>by
  have L: ∀(us:List Value) (cs:List AV) (es:List D),fU k w us cs->dw (bE s f) cs=some es->us.length=es.length/\ ∀(i:Nat) (u:Value) (d:D),us[i]?=some u->es[i]?=some d->RD I' w u d:=λus cs es M G=>by
   obtain⟨k1,k2⟩:=uA G;refine⟨M.1.trans k1.symm,λi u e F he=> ?_⟩;obtain⟨hi,_⟩:=aV.1 he;have hc:cs[i]?=some cs[i]:=bQ a8;obtain⟨e',t,h4⟩:=k2 i _ hc;rw[he]at t;cases t;exact B7 K hk W f _ _ u h4 (M.2 i u _ F hc)
  have j: ∀(us:List Value) (cs:List AV) (es:List D),bZ k w us cs->dw (bE s f) cs=some es->dA I' w us es:=λus cs es M G=>
   let⟨r,T⟩:=L us cs es M.rvs G;⟨r,M.2.1,T⟩
  have m: ∀y,x=y->x.toL=some d->RA k w v x->RD I' w v d:=λy _ M G=>(G.toL M).mono hk;cases x with
  |agg cs=>
   obtain⟨us,rfl,G⟩:=hv.agg_inv;obtain⟨es,a,rfl⟩:=bK (show(dw (bE s f) cs).map D.agg=some d from h);have t:=j us cs es G a;exact .agg us es t.1 t.2.1 t.2.2
  |tup cs=>
   obtain⟨us,rfl,G⟩:=hv.tup_inv;obtain⟨es,a,rfl⟩:=bK (show(dw (bE s f) cs).map D.tup=some d from h);have t:=L us cs es G a;exact .tup us es t.1 t.2
  |ptr id off=>
   simp only[bE]at h;split at h
   .rename_i ds p;obtain⟨es,a,rfl⟩:=bK h;obtain⟨b,hb,rfl⟩:=hv.ptr_inv;obtain⟨b',t',us,r,T,g3,_⟩:=K.cells p;rw[hb]at r;cases r;have V:=j _ _ es (g3.drop off) a;refine .ref _ _ _ _ V.1 V.2.1 (λi u F=> ?_) V.2.2;rw[gf]at F;have hc:w.cell? ⟨b,off+i,none⟩=some u:=by rw[vP T];exact F
    exact⟨W _ _ _ (K.lies id _ b hb rfl).1 hc,hc⟩
   .cases h
  |win id off n sz=>
   simp only[bE]at h;split at h
   .rename_i ds p;split at h
    .rename_i X;obtain⟨es,a,rfl⟩:=bK h;obtain⟨b,c,hb,rfl,E,z⟩:=hv.win_inv;obtain⟨b',t',us,r,T,g3,_⟩:=K.cells p;rw[hb]at r;cases r;have V:=j _ _ es ((g3.drop off).take (n*sz)) a;have Z:=(uA a).1;obtain⟨A,C⟩:=uh sz n es (by rw[Z];simp;omega);refine RD.sl_mk (sv sz n es) C E z (by rw[A];exact V) λ_=>⟨b,off,rfl,λi u F=> ?_⟩
     rw[fL]at F;split at F
     .rw[gf]at F;have hc:w.cell? ⟨b,off+i,none⟩=some u:=by rw[vP T];exact F
      exact⟨W _ _ _ (K.lies id _ b hb rfl).1 hc,hc⟩
     .cases F
    .cases h
   .cases h
  |vec id n sz=>
   simp only[bE]at h;split at h
   .rename_i e l ds p;split at h
    .rename_i O;obtain⟨rfl,c0,c1⟩:=O;obtain⟨es,a,rfl⟩:=bK h;obtain⟨_,u,n',H,X,P⟩:=hv.vec_inv;obtain⟨v2,n2,xs,r,q,hI,U,S⟩:=K.vec p;rw[H]at r;cases r;have Q:n=n':=by
      rw[c1]at U;exact mf c0 U
     subst Q;rw[P rfl];have t:=j xs ds es S a;have Z:=(uA a).1;obtain⟨A,C⟩:=uh l n es a8;rcases q.2 with⟨J,h0⟩|⟨g,cap,cur,J,hbg,hg,E,z,hcs,htake⟩
     .subst J;subst h0;exact RD.sl_mk (us:=[]) rfl (by simp[chunk]) a8 a8 ⟨by simp[chunk],by simp,by simp⟩ (by simp[chunk])
     .rw[J];refine RD.sl_mk (sv l n es) C E (by unfold maxLen at z;omega) (by rw[A];exact t) λ_=>⟨g,0,rfl,λi x R=> ?_⟩
      have:=q.cells (g:=g) (by rw[J];rfl) i x R;rw[fW]at this;exact⟨W _ _ _ hbg this,this⟩
    .cases h
   .cases h
  |vwn id N off n sz=>
   simp only[bE]at h;split at h
   .rename_i e l ds p;split at h
    .rename_i O;obtain⟨rfl,c0,c1,c2⟩:=O;obtain⟨es,a,rfl⟩:=bK h;obtain⟨_,u,n',H,X,P⟩:=hv.vwn_inv;obtain⟨v2,n2,xs,r,q,hI,U,S⟩:=K.vec p;rw[H]at r;cases r;have Q:N=n':=by
      rw[c1]at U;exact mf c0 U
     subst Q;obtain⟨b,c,a0,a1,E,z⟩:=P rfl;have Y:u.ownBlock=some b:=by rw[a0];rfl
     rw[a1];have t:=j _ _ es ((S.drop (off*l)).take (n*l)) a;have Z:=(uA a).1;have a2:off*l+n*l<=N*l:=by rw[<-fQ];exact jI _ c2
     obtain⟨A,C⟩:=uh l n es (by rw[Z];simp;omega);refine RD.sl_mk (sv l n es) C E z (by rw[A];exact t) λ_=>⟨b,off*l,rfl,λi x R=> ?_⟩
     rw[fL]at R;split at R
     .rw[gf]at R;have hc:=q.cells Y _ x R;rw[fW,aw]at hc;exact⟨W _ _ _ (K.lies id _ b H Y).1 hc,hc⟩
     .cases R
    .cases h
   .cases h
  |d y=>exact m _ rfl (by simpa[bE]using h) hv
  |tsl id sz rows=>exact m _ rfl (by simpa[bE]using h) hv
  |nil sz=>exact m _ rfl (by simpa[bE]using h) hv
  |emp sz=>exact m _ rfl (by simpa[bE]using h) hv
  |_=>exact m _ rfl (by simpa[bE]using h) hv
theorem aI.of_runs{P:Program}{l:Nat->Code->CC->Prop}{f:FuncId}{ds:List D}{x:AV}{n:List aa}{r:D}(h:iK l P f (ds.map .d) [] x n)(s:bE n 5 x=some r):aI P f ds r:=by
 refine⟨h.enters,λI w vs p k g=> ?_⟩;have j:St l w.heap.size ⟨I,[]⟩ [] w:=⟨bg _,rfl,by simp,by simp,by simp,g⟩
 refine qJ (h.calls w.heap.size ⟨I,[]⟩ w vs j ⟨by simp[p],λi u c y hc=> ?_⟩) ?_
 .rw[dj]at hc;obtain⟨d,o,rfl⟩:=dy.1 hc;exact .d (k i u d y o)
 .rintro e w' ⟨v,k',rfl,z,m,t⟩;refine⟨v,rfl,B7 t (I':=gA I w.heap.size w') (λb q u hb hc=>⟨?_,hc⟩) (λb q u hb hc=> ?_) 5 x r v s z,m.below⟩
  .by_cases a:b<w.heap.size
   .rw[Ax _ _ a];have:=m.low b a;rw[this]at hb;exact hb
   .unfold gA;rw[if_neg a];exact sN hc
  .unfold gA;rw[if_neg a8];exact sN hc
theorem Ob{P:Program}{b:List Nat}{f:FuncId}{F:CF}(hc:oV P b f=some F.erase){args:List D}{r:D}(a:args.length<=F.n)(h:cy P none F.body (lv F.res λx s=>bE s 5 x=some r) (jK 0 (args.map .d)) []):aI P f args r:=
 let⟨_,_,c,e⟩:=bs.of hc (by simpa using a) h;aI.of_runs c e
theorem Oc{P:Program}{f:FuncId}{args:List D}{r:D}(h:bs P f (args.map .d) [] λx s=>bE s 5 x=some r):aI P f args r:=
 let⟨_,_,a,b⟩:=h;aI.of_runs a b
def Es:D->Bool
 | .sc _=>true
 |_=>false
def yu:D->Bool
 | .sc _=>true
 | .agg cs=>cs.all Es
 | .tup cs=>cs.all Es
 |_=>false
theorem GQ{I I':Nat->Nat}{w w':World}{v:Value}{r:D}(h:RD I w v r)(a:Es r=true):RD I' w' v r:=by
 cases h with
 |sc=>exact .sc _
 |_=>cases a
theorem P3{I I':Nat->Nat}{w w':World}{v:Value}{r:D}(h:RD I w v r)(e:yu r=true):RD I' w' v r:=by
 cases h with
 |sc=>exact .sc _
 |agg us ds b g c=>exact .agg us ds b g λi u d f a=>GQ (c i u d f a) (js.1 e d (bR a))
 |tup us ds b c=>exact .tup us ds b λi u d f a=>GQ (c i u d f a) (js.1 e d (bR a))
 |_=>cases e
theorem Kd{α β:Type}{g:α->Option β}: ∀{l:List α} {l':List β},l'.length=l.length->(∀(i:Nat) (x:α),l[i]?=some x-> ∃y,l'[i]?=some y/\g x=some y)->dw g l=some l'
 |[],[],_,_=>rfl
 |[],_::_,h,_=>by simp at h
 |_::_,[],h,_=>by simp at h
 |x::l,y::l',h,hx=>by
  obtain⟨z,a,b⟩:=hx 0 x rfl;cases a;unfold dw;rw[b,Kd (l:=l) (l':=l') (by simpa using h) λi u c=>hx (i+1) u (by simpa using c)]
theorem Ig{C:Nat->Code->CC->Prop}{B:Nat}{k:aP}{s s2:List aa}{w:World}(p:St C B k s2 w)(ha:gx s s2): ∀(f:Nat) (x:AV) (d:D) (v:Value),bE s f x=some d->RA k w v x->bE s2 f x=some d
 |0,x,d,v,h,_=>by simp[bE]at h
 |f+1,x,d,v,h,hv=>by
  have g: ∀(us:List Value) (cs:List AV) (es:List D),fU k w us cs->dw (bE s f) cs=some es->dw (bE s2 f) cs=some es:=λus cs es z q=>by
   obtain⟨O,P⟩:=uA q;refine Kd O λi c hc=> ?_;obtain⟨e,H,I⟩:=P i c hc;have hi:=(aV.1 hc).1;have A:=z.1;have M:us[i]?=some us[i]:=bQ a8;exact⟨e,H,Ig p ha f _ _ _ I (z.2 i _ c M hc)⟩
  have same: ∀(id:Nat) (o:aa),x.hdl=some id->s[id]?=some o->s2[id]?=some o:=λid o K L=>by
   exact xR p ha hv K L
  cases x with
  |agg cs=>
   obtain⟨us,rfl,q⟩:=hv.agg_inv;obtain⟨es,a,rfl⟩:=bK (show(dw (bE s f) cs).map D.agg=some d from h);show(dw (bE s2 f) cs).map D.agg=_;rw[g us cs es q.rvs a];rfl
  |tup cs=>
   obtain⟨us,rfl,q⟩:=hv.tup_inv;obtain⟨es,a,rfl⟩:=bK (show(dw (bE s f) cs).map D.tup=some d from h);show(dw (bE s2 f) cs).map D.tup=_;rw[g us cs es q a];rfl
  |ptr id off=>
   simp only[bE]at h⊢;split at h
   .rename_i ds b;rw[same id _ rfl b];obtain⟨es,a,rfl⟩:=bK h;obtain⟨E,R,us,t,F,u,_⟩:=p.cells (same id _ rfl b);show(dw (bE s2 f) (ds.drop off)).map D.ref=_;rw[g _ _ es (u.drop off).rvs a];rfl
   .cases h
  |win id off n sz=>
   simp only[bE]at h⊢;split at h
   .rename_i ds b;split at h
    .rename_i y;rw[same id _ rfl b];obtain⟨es,a,rfl⟩:=bK h;obtain⟨E,R,us,t,F,u,_⟩:=p.cells (same id _ rfl b);show(if off+n*sz<=ds.length then(dw (bE s2 f) ((ds.drop off).take (n*sz))).map (λes=>D.sl sz (chunk sz n es))else none)=_;rw[if_pos y,g _ _ es ((u.drop off).take (n*sz)).rvs a];rfl
    .cases h
   .cases h
  |vec id n sz=>
   simp only[bE]at h⊢;split at h
   .rename_i e m ds b;split at h
    .rename_i j;rw[same id _ rfl b];obtain⟨es,a,rfl⟩:=bK h;obtain⟨v2,Q,xs,t,r,J,G,l⟩:=p.vec (same id _ rfl b);show(if m=sz/\0<sz/\ds.length=n*sz then(dw (bE s2 f) ds).map (λes=>D.sl sz (chunk sz n es))else none)=_;rw[if_pos j,g _ _ es l.rvs a];rfl
    .cases h
   .cases h
  |vwn id N off n sz=>
   simp only[bE]at h⊢;split at h
   .rename_i e m ds b;split at h
    .rename_i j;rw[same id _ rfl b];obtain⟨es,a,rfl⟩:=bK h;obtain⟨v2,Q,xs,t,r,J,G,l⟩:=p.vec (same id _ rfl b);show(if m=sz/\0<sz/\ds.length=N*sz/\off+n<=N then(dw (bE s2 f) ((ds.drop (off*sz)).take (n*sz))).map (λes=>D.sl sz (chunk sz n es))else none)=_;rw[if_pos j,g _ _ es ((l.drop (off*sz)).take (n*sz)).rvs a];rfl
    .cases h
   .cases h
  |_=>simpa[bE]using h
theorem aI.deepR{P:Program}{p:Nat->Code->CC->Prop}{f:FuncId}{ds:List D}{r:D}(h:aI P f ds r){xs:List AV}{s s2:List aa}(x:dw (bE s 5) xs=some ds)(ha:gx s s2)(t:yu r=true):iK p P f xs s2 (.d r) s2:=by
 refine⟨h.enters,λB k w vs c j=> ?_⟩;obtain⟨y,z⟩:=uA x;refine qJ (h.calls (cellsIn w) w vs (by rw[j.1,y]) (λi v d l n=> ?_) (c.glob.mono c.base)) ?_
 .obtain⟨hi,_⟩:=aV.1 n;have hc:xs[i]?=some xs[i]:=bQ a8;obtain⟨A,m,q⟩:=z i _ hc;rw[n]at m;cases m;have g:=j.2 i v _ l hc;exact B7 c (I':=cellsIn w) (λb o u _ a=>⟨sN a,a⟩) (λb o u _ a=>sN a) 5 _ _ v (Ig c ha 5 _ _ v q g) g
 .rintro e w' ⟨v,rfl,l,hb⟩;exact⟨v,⟨gA k.I w.heap.size w',k.own⟩,rfl,.d (P3 l t),Ext.called c.base hb,c.called hb⟩
theorem aI.deep{P:Program}{a:Nat->Code->CC->Prop}{f:FuncId}{ds:List D}{r:D}(h:aI P f ds r){xs:List AV}{s:List aa}(c:dw (bE s 5) xs=some ds)(b:yu r=true):iK a P f xs s (.d r) s:=h.deepR c (gx.refl s) b
theorem af.reads{P:Program}{f:FuncId}{a cs vs:List AV}{s:List aa}{K:AV->List aa->Nat->Prop}{ds:List D}{r:D}(h:aI P f ds r)(b:dw (bE s 5) (a++vs++cs)=some ds)(c:yu r=true)(hk:K (.d r) s 1):af P (.clo f a cs) vs s K:=
 .inr (.inr (.inl ⟨_,λs2 ha=>h.deepR b ha c,hk⟩))
theorem af.deep{P:Program}{f:FuncId}{a cs vs:List AV}{s:List aa}{K:AV->List aa->Nat->Prop}{ds:List D}{r:D}(h:aI P f ds r)(b:dw (bE s 5) (a++vs++cs)=some ds)(c:yu r=true)(hk:K (.d r) s 2):af P (.clo f a cs) vs s K:=
 .inr (.inl ⟨_,_,aI.deep h b c,hk⟩)
end Go.Bb
namespace Go.Ab
theorem Hk(b:Bool):(b==true)=b:=by cases b<;>rfl
theorem Hj(b:Bool):(b==false)= !b:=by cases b<;>rfl
end Go.Ab
namespace Go.Proofs.Lg
theorem RY{α:Type}(J K:List α):(J++K)[J.length]?=K[0]? :=by simp[iY]
theorem RZ{α:Type}(J K:List α)(n:Nat):(J++K)[J.length+n]?=K[n]? :=by simp[iY]
theorem YG{α:Type}(J K:List α)(x:α):(J++K).set J.length x=J++K.set 0 x:=by simp[List.set_append_right]
theorem YH{α:Type}(J K:List α)(n:Nat)(x:α):(J++K).set (J.length+n) x=J++K.set n x:=by simp[List.set_append_right]
theorem a0B(k:Nat):(((0:Nat):Int)<=(k:Int))=True:=eq_true a8
end Go.Proofs.Lg
namespace Go.Bb
open Go Go.Ab
abbrev o0(d:Nat)(i:CI):CO:=⟨some d,none,i⟩
abbrev om(d t:Nat):CO:=⟨some d,none,.mov (.t t)⟩
abbrev og(d t:Nat)(b:Bool)(i:CI):CO:=⟨some d,some (some t,b),i⟩
abbrev oh(d t:Nat)(b:Bool)(n:Nat):CO:=⟨some d,some (some t,b),.mov (.t n)⟩
abbrev oN(i:CI):CO:=⟨none,none,i⟩
abbrev xi(n:Int):X:= .c (.d (.sc (.int .i64 n)))
abbrev fo(l:List CO):CC:= .ops false [] l
end Go.Bb
namespace Go.Bb
open Go Go.Ab Go.Proofs.Lg
end Go.Bb
