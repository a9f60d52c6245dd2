/- Lemmas. -/
import Derived.Test.YtellfinifjmloaaGreatDoorPAD
import Derived.TacticsIn
import Derived.RangeFuncNested
set_option linter.unusedVariables false
set_option linter.unusedSimpArgs false
namespace Go.Bb
open Go Go.RowKit Go.Ab Go.Proofs.Lg
section
variable {LL:Nat→Code→CC→Prop} {P:Program} {o:Oper} {fr:Fr} {s s':List aa} {d:AV}
theorem tE{ci:CI}(h:ix LL P o fr s d s'):bu LL P o fr s d s'∧(ci.touch fr=3→ix LL P o fr s d s'):=⟨h.op,fun _=>h⟩
theorem dU{ci:CI}(h:bu LL P o fr s d s')(a:ci.touch fr≠3):bu LL P o fr s d s'∧(ci.touch fr=3→ix LL P o fr s d s'):=⟨h,fun e=>absurd e a⟩
theorem LN{e:List Nat}{ci:CI}{x:Operand}(a:o.op= .move x∨o.op= .assign x)(h:uL P e o x=some ci)(b:ci.sem fr s=some (d,s')):bu LL P o fr s d s'∧(ci.touch fr=3→ix LL P o fr s d s'):=by
 unfold uL at h;split at h
 ·split at h
  ·rename_i f;obtain rfl:=aJ h;exact tE (VQ a rfl f b)
  ·obtain⟨y,c,rfl⟩:=bB h;exact dU (M1 a c b) (by simp only[CI.touch];first|decide|(split<;>decide))
 ·obtain⟨y,c,rfl⟩:=bB h;exact dU (M1 a c b) (by simp only[CI.touch];first|decide|(split<;>decide))
theorem Jm{N:List Nat}{ci:CI}(h:l7 P N o=some ci)(r:ci.sem fr s=some (d,s')):bu LL P o fr s d s'∧(ci.touch fr=3→ix LL P o fr s d s'):=by
 unfold l7 at h;split at h
 ·rename_i x g;exact LN (.inl g) h r
 ·rename_i x g;exact LN (.inr g) h r
 ·rename_i c a b g;split at h
  ·rename_i x y z q p u;obtain rfl:=aJ h;exact dU (VS g q p u r) (by simp only[CI.touch];first|decide|(split<;>decide))
  ·cases h
 ·rename_i t x g;split at h
  ·rename_i n x q p;obtain rfl:=aJ h;exact dU (VH g q p r) (by simp only[CI.touch];first|decide|(split<;>decide))
  ·cases h
 ·rename_i t x v g;split at h
  ·rename_i i x y q p u;obtain rfl:=aJ h;exact dU (W1 g q p u r) (by simp only[CI.touch];first|decide|(split<;>decide))
  ·cases h
 ·rename_i t x f g;split at h
  ·rename_i V x q p;split at h
   ·rename_i U u;split at h
    ·cases h
    ·rename_i w;obtain rfl:=aJ h;exact dU (VA g q u w p r) (by simp only[CI.touch];first|decide|(split<;>decide))
   ·cases h
  ·cases h
 ·rename_i t x i g;unfold zE at h;split at h
  ·rename_i e x y q p u;split at h
   ·rename_i j w;obtain rfl:=aJ h;exact dU (VC g q w p u r) (by simp only[CI.touch];first|decide|(split<;>decide))
   ·cases h
  ·rename_i n e x y q p u;split at h
   ·rename_i j w;obtain rfl:=aJ h;exact dU (VD g q w p u r) (by simp only[CI.touch];first|decide|(split<;>decide))
   ·cases h
  ·cases h
 ·rename_i t x i g;unfold zF at h;split at h
  ·rename_i n e x y q p u;split at h
   ·rename_i m j w A;obtain rfl:=aJ h;exact dU (VE g q w A p u r) (by simp only[CI.touch];first|decide|(split<;>decide))
   ·cases h
  ·rename_i x y q p u;obtain rfl:=aJ h;exact dU (VW g q p u r) (by simp only[CI.touch];first|decide|(split<;>decide))
  ·cases h
 ·rename_i t x f g;split at h
  ·rename_i V x q p;split at h
   ·rename_i U u;split at h
    ·rename_i n w;obtain rfl:=aJ h;exact dU (VB g q u w p r) (by simp only[CI.touch];first|decide|(split<;>decide))
    ·cases h
   ·cases h
  ·cases h
 ·rename_i x i g;obtain⟨y,B,rfl⟩:=bB h;exact dU (Vz g B r) (by simp only[CI.touch];first|decide|(split<;>decide))
 ·rename_i op t x y t' g;unfold zB at h;split at h
  ·rename_i O H;split at h
   ·rename_i x q;obtain rfl:=aJ h;exact dU (VG g H q r) (by simp only[CI.touch];first|decide|(split<;>decide))
   ·cases h
  split at h
  ·rename_i x y q p;split at h
   ·rename_i Y ks O F;obtain rfl:=aJ h;exact dU (Vy g q p F r) (by simp only[CI.touch];first|decide|(split<;>decide))
   ·obtain rfl:=aJ h;exact dU (Vr g q p r) (by simp only[CI.touch];first|decide|(split<;>decide))
  ·cases h
 ·rename_i t x g;obtain⟨y,B,rfl⟩:=bB h;exact dU (VR g B r) (by simp only[CI.touch];first|decide|(split<;>decide))
 ·rename_i t x g;split at h
  ·rename_i k D;obtain⟨y,B,rfl⟩:=bB h;exact dU (M4 g B r) (by simp only[CI.touch];first|decide|(split<;>decide))
  ·cases h
 ·rename_i t x g;split at h
  ·rename_i k D;obtain⟨y,B,rfl⟩:=bB h;exact dU (M4 g B r) (by simp only[CI.touch];first|decide|(split<;>decide))
  ·cases h
 ·rename_i t x lo hi mx g;unfold wP at h;split at h
  ·rename_i e R l p u w A C;split at h
   ·rename_i j E;obtain rfl:=aJ h;exact dU (VX g u E w A C r) (by simp only[CI.touch];first|decide|(split<;>decide))
   ·rename_i j m E;split at h
    ·rename_i W;obtain rfl:=aJ h;exact dU (VZ g W u E w r) (by simp only[CI.touch];first|decide|(split<;>decide))
    ·cases h
   ·cases h
  ·rename_i T R l p u w A C;split at h
   ·rename_i n e E;split at h
    ·rename_i j K;split at h
     ·rename_i H;obtain rfl:=aJ h;exact dU (M3 g (.inr ⟨_,u,E⟩) K w A C H r) (by simp only[CI.touch];first|decide|(split<;>decide))
     ·cases h
    ·cases h
   ·cases h
  ·rename_i n e R l p u w A C;split at h
   ·rename_i j K;split at h
    ·rename_i H;obtain rfl:=aJ h;exact dU (M3 g (.inl u) K w A C H r) (by simp only[CI.touch];first|decide|(split<;>decide))
    ·cases h
   ·cases h
  ·rename_i R l p u w A C;split at h
   ·rename_i H;have:mx=none:=by simpa using H
    subst this;obtain rfl:=aJ h;exact dU (VY g u w A C r) (by simp only[CI.touch];first|decide|(split<;>decide))
   ·cases h
  ·cases h
 ·rename_i t x g;obtain⟨y,B,F⟩:=bB h;split at F
  ·subst F;exact dU (Vu g B r) (by simp only[CI.touch];first|decide|(split<;>decide))
  ·subst F;exact tE (Vt g B r)
 ·rename_i t g;split at h
  ·rename_i i q;split at h
   ·rename_i z p;obtain⟨c,hc,rfl⟩:=bB h;split at r
    ·rename_i G;rw[if_pos G];exact tE (Vo g q p hc r)
    ·rename_i G;rw[if_neg G];exact tE (Vn g q p hc r)
   ·cases h
  ·cases h
 ·rename_i t I g;have M: ∃z Q,ci= .bld z Q:=by
   unfold uK at h
   (repeat' split at h)<;>first|(cases h;done)|(obtain⟨Q,_,F⟩:=bB h;exact⟨_,_,F.symm⟩)
  obtain⟨z,Q,rfl⟩:=M;exact dU (Vs g h r) (by simp only[CI.touch];first|decide|(split<;>decide))
 ·rename_i t n I g;exact VT g h r
 ·rename_i t l c g;exact tE (VM g h r)
 ·rename_i X dst x g;unfold wM at h;split at h
  ·rename_i k' k x q p u;obtain rfl:=aJ h;exact dU (Vx g q p u r) (by simp only[CI.touch];first|decide|(split<;>decide))
  ·rename_i e x q p u;split at h
   ·rename_i w;obtain rfl:=aJ h;split at r
    ·rename_i G;rw[if_pos G];exact tE (VV g q p w u r)
    ·rename_i G;rw[if_neg G];exact dU (VU g q p w u r) (by simp only[CI.touch];first|decide|(split<;>decide))
   ·cases h
  ·rename_i e x q p u;split at h
   ·rename_i w;obtain rfl:=aJ h;exact dU (Vq g q p w u r) (by simp only[CI.touch];first|decide|(split<;>decide))
   ·cases h
  ·cases h
 ·rename_i x g;obtain⟨y,B,rfl⟩:=bB h;exact dU (VP g B r) (by simp only[CI.touch];first|decide|(split<;>decide))
 ·rename_i f xs ys g;split at h
  ·rename_i us vs q p;obtain rfl:=aJ h;exact dU (VK g q p r) (by simp only[CI.touch];first|decide|(split<;>decide))
  ·cases h
 ·rename_i t g;split at h
  ·rename_i kt et D;obtain rfl:=aJ h;exact tE (VL (t:=t) (et:=et) g r)
  ·cases h
 ·rename_i t m k ok g;unfold zH at h;split at h
  ·rename_i kt et D;split at h
   ·rename_i L k' ks z q p u w;obtain rfl:=aJ h;exact dU (VI g D q p u w r) (by simp only[CI.touch];first|decide|(split<;>decide))
   ·cases h
  ·cases h
 ·rename_i t m k v g;unfold uM at h;split at h
  ·rename_i kt et D;split at h
   ·rename_i L k' S ks q p u w;obtain rfl:=aJ h;exact dU (VO g D q p u w r) (by simp only[CI.touch];first|decide|(split<;>decide))
   ·cases h
  ·cases h
 ·rename_i t m k v g;unfold uM at h;split at h
  ·rename_i kt et D;split at h
   ·rename_i L k' S ks q p u w;obtain rfl:=aJ h;exact dU (VF g D q p u w r) (by simp only[CI.touch];first|decide|(split<;>decide))
   ·cases h
  ·cases h
 ·rename_i t m k g;unfold zI at h;split at h
  ·rename_i kt et D;split at h
   ·rename_i L k' ks z q p u w;obtain rfl:=aJ h;exact dU (VJ g D q p u w r) (by simp only[CI.touch];first|decide|(split<;>decide))
   ·cases h
  ·cases h
 ·rename_i t m i v g;unfold zJ at h;split at h
  ·rename_i kt et D;split at h
   ·rename_i L Z S q p u;obtain rfl:=aJ h;exact dU (VN g D q p u r) (by simp only[CI.touch];first|decide|(split<;>decide))
   ·cases h
  ·cases h
 ·rename_i c g;obtain⟨callee,args,J⟩:=c;obtain⟨args⟩:=args;obtain⟨J⟩:=J;unfold zC at h;dsimp only at h;split at h
  ·unfold zG at h;split at h
   ·split at h
    ·rename_i e x q p;obtain rfl:=aJ h;exact dU (Gb (kd:=0) g ⟨e,q⟩ p r) (by simp only[CI.touch];first|decide|(split<;>decide))
    ·rename_i x q p;obtain rfl:=aJ h;exact dU (Gb (kd:=1) g q p r) (by simp only[CI.touch];first|decide|(split<;>decide))
    ·rename_i k e x q p;obtain rfl:=aJ h;exact dU (Gb (kd:=2) g ⟨k,e,q⟩ p r) (by simp only[CI.touch];first|decide|(split<;>decide))
    ·cases h
   ·cases h
  ·unfold zA at h;split at h
   ·split at h
    ·rename_i e x y q p u;split at h
     ·rename_i j w;split at h
      ·rename_i z A;split at h
       ·rename_i C;obtain⟨rfl,E,K⟩:=C;obtain rfl:=aJ h;exact⟨Vp g q w A E p u r,LY g q w A E p u r⟩
       ·cases h
      ·cases h
     ·cases h
    ·cases h
   ·cases h
  ·unfold zD at h;split at h
   ·split at h
    ·rename_i e x q p;split at h
     ·rename_i j w;split at h
      ·rename_i z A;split at h
       ·rename_i C;obtain rfl:=aJ h;exact dU (Vw g q w A C.1 C.2 p r) (by simp[CI.touch])
       ·cases h
      ·cases h
     ·cases h
    ·cases h
   ·cases h
  ·unfold qU at h;split at h
   ·split at h
    ·rename_i x y q p;obtain rfl:=aJ h;exact dU (LZ (mx:=true) g q p r) (by simp only[CI.touch];first|decide|(split<;>decide))
    ·cases h
   ·cases h
  ·unfold qU at h;split at h
   ·split at h
    ·rename_i x y q p;obtain rfl:=aJ h;exact dU (LZ (mx:=false) g q p r) (by simp only[CI.touch];first|decide|(split<;>decide))
    ·cases h
   ·cases h
  ·obtain⟨y,B,rfl⟩:=bB h;cases r
  ·split at h
   ·obtain rfl:=aJ h;cases r
   ·cases h
  ·cases h
 ·cases h
theorem zK{a:List Nat}{ci:CI}(h:l7 P a o=some ci)(b:ci.sem fr s=some (d,s')):bu LL P o fr s d s':=(Jm h b).1
theorem RZ{a:List Nat}{ci:CI}(h:l7 P a o=some ci)(b:ci.sem fr s=some (d,s'))(c:ci.touch fr=3):ix LL P o fr s d s':=(Jm h b).2 c
theorem OB{ci:CI}(h:ci.sem fr s=some (d,s'))(a:ci.touch fr<2):s'=s:=by
 cases ci with
 |st n x v=>simp[CI.touch]at a
 |app mu e sz b x y=>exact absurd a (Nat.not_lt.2 (EP (x.ev fr)))
 |mup f ks m k v=>simp[CI.touch]at a
 |men f ks z m k=>simp[CI.touch]at a
 |mst m i v=>simp[CI.touch]at a
 |box x=>simp[CI.touch]at a
 |s2o e x=>simp[CI.touch]at a
 |bxt t x=>simp[CI.touch]at a
 |clr sz z x=>simp[CI.touch]at a
 |bsl mu e sz n z ps=>simp[CI.touch]at a
 |mks mu e b z l c=>simp[CI.touch]at a
 |mkm f=>simp[CI.touch]at a
 |nlr e sz=>simp[CI.touch]at a
 |call c xs=>cases h
 |bad=>cases h
 |_=>exact(dK h).2
theorem rq{s s2:List aa}{v:AV}(h: ∀id,v.hdl=some id→s2[id]?=s[id]?):gb s2 v=gb s v:=by
 unfold gb;cases a:v.hdl with
 |none=>rfl
 |some id=>exact h id a
theorem OA{ci:CI}(h:ci.sem fr s=some (d,s))(p:ci.touch fr<2){s2:List aa}(r: ∀id,ci.use fr=some id→s2[id]?=s[id]?):ci.sem fr s2=some (d,s2):=by
 have u: ∀{s2:List aa} {x:Option AV},x=some d→ret s2 x=some (d,s2):=fun h=>by rw[h];rfl
 cases ci with
 |st n x v=>simp[CI.touch]at p
 |app mu e sz b x y=>exact absurd p (Nat.not_lt.2 (EP (x.ev fr)))
 |mup B ks m k v=>simp[CI.touch]at p
 |men B ks z m k=>simp[CI.touch]at p
 |mst m i v=>simp[CI.touch]at p
 |box x=>simp[CI.touch]at p
 |s2o e x=>simp[CI.touch]at p
 |bxt t x=>simp[CI.touch]at p
 |clr sz z x=>simp[CI.touch]at p
 |bsl mu e sz n z ps=>simp[CI.touch]at p
 |mks mu e b z l c=>simp[CI.touch]at p
 |mkm B=>simp[CI.touch]at p
 |nlr e sz=>simp[CI.touch]at p
 |call c xs=>cases h
 |bad=>cases h
 |ld n x=>
  obtain⟨hc,_⟩:=dK h;obtain⟨v,f,g⟩:=aT hc;refine u ?_;rw[f,dP,rq fun id a=>r id (by simp only[CI.use,f,dP,a])];exact g
 |iad sz x i=>
  obtain⟨hc,_⟩:=dK h;obtain⟨j,D,q⟩:=aT hc;obtain⟨v,f,g⟩:=aT q;refine u ?_;rw[D,dP,f,dP];cases v with
  |vec id m w=>
   rw[rq fun id a=>r id (by simp only[CI.use,f,dP];exact a)];exact g
  |vwn id N m n w=>
   rw[rq fun id a=>r id (by simp only[CI.use,f,dP];exact a)];exact g
  |_=>exact g
 |slc sz x lo hi=>
  obtain⟨hc,_⟩:=dK h;obtain⟨v,f,q⟩:=aT hc;obtain⟨l,E,C⟩:=aT q;obtain⟨m,hm,g⟩:=aT C;refine u ?_;rw[f,dP,E,dP,hm,dP];cases v with
  |vec id m w=>
   rw[rq fun id a=>r id (by simp only[CI.use,f,dP];exact a)];exact g
  |vwn id N m n w=>
   rw[rq fun id a=>r id (by simp only[CI.use,f,dP];exact a)];exact g
  |_=>exact g
 |len kd x=>
  obtain⟨hc,_⟩:=dK h;obtain⟨v,f,g⟩:=aT hc;refine u ?_;rw[f,dP];by_cases hk:kd=2
  ·rw[rq fun id a=>r id (by simp only[CI.use,hk,if_true,f,dP,a])];exact g
  ·have: ∀o o',fu o kd v=fu o' kd v:=fun o o'=>by
    unfold fu;split<;>first|rfl|exact absurd rfl hk
   rw[this _ (gb s v)];exact g
 |b2s x=>
  obtain⟨hc,_⟩:=dK h;obtain⟨v,f,g⟩:=aT hc;refine u ?_;rw[f,dP,rq fun id a=>r id (by simp only[CI.use,f,dP,a])];exact g
 |lkp B ks z ok m k=>
  obtain⟨hc,_⟩:=dK h;obtain⟨key,A,q⟩:=aT hc;obtain⟨v,f,g⟩:=aT q;refine u ?_;rw[A,dP,f,dP,rq fun id a=>r id (by simp only[CI.use,f,dP,a])];exact g
 |_=>exact u (dK h).1
theorem Pb{ci:CI}(a:ci.touch fr<2):ci.touch fr=if(ci.use fr).isSome then 1 else 0:=by
 cases ci with
 |st n x v=>simp[CI.touch]at a
 |app mu e sz b x y=>exact absurd a (Nat.not_lt.2 (EP (x.ev fr)))
 |mup d ks m k v=>simp[CI.touch]at a
 |men d ks z m k=>simp[CI.touch]at a
 |mst m i v=>simp[CI.touch]at a
 |box x=>simp[CI.touch]at a
 |s2o e x=>simp[CI.touch]at a
 |bxt t x=>simp[CI.touch]at a
 |clr sz z x=>simp[CI.touch]at a
 |bsl mu e sz n z ps=>simp[CI.touch]at a
 |mks mu e b z l c=>simp[CI.touch]at a
 |mkm d=>simp[CI.touch]at a
 |nlr e sz=>simp[CI.touch]at a
 |_=>rfl
theorem a3Q{ci:CI}(h:ci.sem fr s=some (d,s)){id:Nat}(f:ci.use fr=some id):id<s.length:=by
 have q: ∀{x:aa},s[id]?=some x→id<s.length:=fun h=>(b9.1 h).1;cases ci with
 |ld n x=>
  obtain⟨hc,_⟩:=dK h;obtain⟨v,p,c⟩:=aT hc;simp only[CI.use,p,dP]at f;have u:gb s v=s[id]? :=by unfold gb;rw[f];rfl
  rw[u]at c;unfold jQ at c;split at c
  ·cases f
  ·obtain⟨cs,a,_⟩:=aT c;exact q (sq a)
  ·obtain⟨⟨sz,ds⟩,a,_⟩:=aT c;obtain⟨e,o,_⟩:=iw a;exact q o
  ·cases c
 |iad sz x i=>
  obtain⟨hc,_⟩:=dK h;obtain⟨j,F,g⟩:=aT hc;obtain⟨v,p,c⟩:=aT g;simp only[CI.use,p,dP]at f;cases v with
  |vec r m w=>
   cases f;obtain⟨⟨y,ds⟩,a,_⟩:=aT c;obtain⟨e,o,_⟩:=iw a;exact q o
  |vwn r N m n w=>
   cases f;obtain⟨⟨y,ds⟩,a,_⟩:=aT c;obtain⟨e,o,_⟩:=iw a;exact q o
  |_=>cases f
 |slc sz x lo hi=>
  obtain⟨hc,_⟩:=dK h;obtain⟨v,p,g⟩:=aT hc;obtain⟨l,G,A⟩:=aT g;obtain⟨m,hm,c⟩:=aT A;simp only[CI.use,p,dP]at f;cases v with
  |vec r m w=>
   cases f;obtain⟨⟨y,ds⟩,a,_⟩:=aT c;obtain⟨e,o,_⟩:=iw a;exact q o
  |vwn r N m n w=>
   cases f;obtain⟨⟨y,ds⟩,a,_⟩:=aT c;obtain⟨e,o,_⟩:=iw a;exact q o
  |_=>cases f
 |len kd x=>
  obtain⟨hc,_⟩:=dK h;obtain⟨v,p,c⟩:=aT hc;by_cases hk:kd=2
  ·subst hk;simp only[CI.use,p,dP,if_true]at f;have u:gb s v=s[id]? :=by unfold gb;rw[f];rfl
   obtain⟨n,B,_⟩:=bB c;rw[u]at B;cases v with
   |mp r=>obtain⟨D,es,t,_⟩:=LF (show rl s[id]?=some n from B);exact q t
   |d x=>cases f
   |_=>simp[fu]at B
  ·simp[CI.use,hk]at f
 |b2s x=>
  obtain⟨hc,_⟩:=dK h;obtain⟨v,p,c⟩:=aT hc;simp only[CI.use,p,dP]at f;have u:gb s v=s[id]? :=by unfold gb;rw[f];rfl
  obtain⟨b,hb,_⟩:=bB c;rw[u]at hb;unfold rI at hb;split at hb
  ·split at hb
   ·obtain⟨cs,a,_⟩:=aT hb;exact q (sq a)
   ·cases hb
  ·split at hb
   ·obtain⟨⟨sz,ds⟩,a,_⟩:=aT hb;obtain⟨e,o,_⟩:=iw a;exact q o
   ·cases hb
  ·obtain⟨rows,E,_⟩:=aT hb;have:=OH E;cases v<;>simp[AV.hdl]at f<;>simp[AV.toL]at this
 |lkp D ks z ok m k=>
  obtain⟨hc,_⟩:=dK h;obtain⟨key,C,g⟩:=aT hc;obtain⟨v,p,c⟩:=aT g;simp only[CI.use,p,dP]at f;have u:gb s v=s[id]? :=by unfold gb;rw[f];rfl
  rw[u]at c;unfold qo at c;split at c
  ·obtain⟨es,t,_⟩:=aT c;exact q (xy t)
  ·cases f
  ·cases c
 |_=>cases f
theorem pL(id:Nat)(s:List aa)(x:aa):sk id s (s.set id x):=⟨by simp,fun j a=>by rw[bC (Ne.symm a)]⟩
theorem a2Z{ci:CI}(h:ci.sem fr s=some (d,s')){id:Nat}(f:ci.wr fr=some id):sk id s s':=by
 cases ci with
 |clr sz z x=>
  obtain⟨p,hp,l⟩:=aT (show(x.ev fr).bind (vO s sz z)=some (d,s')from h);simp only[CI.wr,hp,dP]at f;unfold vO at l;split at l
  ·cases f;obtain⟨_,_,c⟩:=aT l;split at c
   ·cases c;exact pL ..
   ·cases c
  ·cases l
 |st n x v=>
  obtain⟨p,hp,l⟩:=aT (show((x.ev fr).bind fun p=>((v.ev fr).bind AV.cells).bind fun vs=>oB s n vs p)=some (d,s')from h);obtain⟨vs,_,c⟩:=aT l;simp only[CI.wr,hp,dP]at f;unfold oB at c;split at c
  ·cases f;obtain⟨cs,_,a⟩:=aT c;unfold putCells at a;split at a
   ·cases a;exact pL ..
   ·cases a
  ·cases f;obtain⟨cs,_,a⟩:=aT c;unfold xR at a;split at a
   ·cases a;exact pL ..
   ·cases a
  ·cases c
 |app mu e sz b x y=>
  obtain⟨p,hp,l⟩:=aT (show((x.ev fr).bind fun v=>(y.ev fr).bind fun u=>iL s mu e sz b u v)=some (d,s')from h);obtain⟨u,_,c⟩:=aT l;simp only[CI.wr,hp,dP]at f;unfold iL at c;split at c
  ·cases f;obtain⟨us,_,a⟩:=aT c;obtain⟨p,_,g⟩:=aT a;split at g
   ·cases g;exact pL ..
   ·cases g
  ·cases f
  ·cases f
  ·cases f;obtain⟨news,_,a⟩:=aT c;split at a
   ·cases a;exact pL ..
   ·cases a
  ·cases f;obtain⟨us,_,a⟩:=aT c;obtain⟨p,_,g⟩:=aT a;split at g
   ·have w:=aJ g;split at w
    ·cases w;exact pL ..
    ·cases w;exact pL ..
   ·cases g
  ·cases c
 |mup t ks m k v=>
  obtain⟨key,_,l⟩:=aT (show(((k.ev fr).bind (AV.keyK t ks)).bind fun key=>(v.ev fr).bind fun u=>(m.ev fr).bind fun p=>oA t ks s key u p)=some (d,s')from h);obtain⟨u,_,c⟩:=aT l;obtain⟨p,hp,a⟩:=aT c;simp only[CI.wr,hp,dP]at f;unfold oA at a;split at a
  ·cases f;obtain⟨es,_,g⟩:=aT a;obtain⟨r,_,o⟩:=bB g;cases o;exact pL ..
  ·cases a
 |men t ks z m k=>
  obtain⟨key,_,l⟩:=aT (show(((k.ev fr).bind (AV.keyK t ks)).bind fun key=>(m.ev fr).bind fun p=>tU t ks s key z p)=some (d,s')from h);obtain⟨p,hp,a⟩:=aT l;simp only[CI.wr,hp,dP]at f;unfold tU at a;split at a
  ·cases f;obtain⟨es,_,g⟩:=aT a;obtain⟨r,_,o⟩:=bB g;split at o<;>(cases o;exact pL ..)
  ·cases a
 |mst m i v=>
  obtain⟨j,_,l⟩:=aT (show(((i.ev fr).bind AV.int?).bind fun j=>(v.ev fr).bind fun u=>(m.ev fr).bind fun p=>tV s j u p)=some (d,s')from h);obtain⟨u,_,c⟩:=aT l;obtain⟨p,hp,a⟩:=aT c;simp only[CI.wr,hp,dP]at f;unfold tV at a;split at a
  ·cases f;obtain⟨q,_,g⟩:=aT a;split at g
   ·obtain⟨r,_,o⟩:=bB g;cases o;exact pL ..
   ·cases g
  ·cases a
 |_=>cases f
end
end Go.Bb
namespace Go.Bb
open Go Go.RowKit Go.Ab Go.Proofs.Lg
def ki(fr:Fr):Option (Option Nat×Bool)→Option Bool
 |none=>some true
 |some (none,_)=>some false
 |some (some t,want)=>match look fr t with
  |some (.d (.sc (.bool b)))=>some (b==want)
  |some (.d (.sc (.tuple _)))=>some false
  |_=>none
def Jg(P:Program)(a:List Nat)(o:Oper):Option CI:=match l7 P a o with
 |some ci=>some ci
 |none=>if mn o then some .bad else none
def uN(P:Program)(a:List Nat)(ops:Array Oper)(o:Oper):Option CO:=
 match Jg P a o with
 |some ci=>some ⟨o.dst,match o.guard with
  |none=>none
  |some (j,want)=>some ((ops[j]?).bind (·.dst),want),ci⟩
 |none=>none
def nS(P:Program)(a:List Nat)(ops:Array Oper):List Oper→Option (List CO)
 |[]=>some []
 |o::l=>match uN P a ops o,nS P a ops l with
  |some c,some cs=>some (c::cs)
  |_,_=>none
def comp(P:Program)(e:List Nat)(N:Nat):Code→Option CC
 | .skip=>some .skip
 | .label _=>some .skip
 | .region _ ops g=>if ops.all (fun o=>match o.dst with|some d=>decide (d<N)|none=>true)&&(!g||(P.follows .mixedOrders&&tH ops []))then
   (nS P e ops ops.toList).map fun l=> .ops g (if g then(Region.before ops).toList else[]) l else none
 | .seq a b=>match comp P e N a,comp P e N b with
  |some a,some b=>some (.seq a b)
  |_,_=>none
 | .cond c a b=>match cX P 0 c,comp P e N a,comp P e N b with
  |some c,some a,some b=>some (.cond c a b)
  |_,_,_=>none
 | .block id c=>(comp P e N c).map (.block id)
 | .loop c=>(comp P e N c).map .loop
 | .exit id=>some (.exit id)
 | .ret=>some .ret
 | .rangeFunc f ps a b=>match cX P 0 f,comp P e N a,comp P e N b with
  |some f,some a,some b=>if ps.all (fun t=>decide (t<N))then some (.rng N f ps.toList a b)else none
  |_,_,_=>none
 |_=>none
def CC.erase:CC→CC
 | .trim _ c=>c.erase
 | .seq a b=> .seq a.erase b.erase
 | .cond x a b=> .cond x a.erase b.erase
 | .block id c=> .block id c.erase
 | .loop c=> .loop c.erase
 | .rng n f ps a b=> .rng n f ps a.erase b.erase
 | .skip=> .skip
 | .ops e d l=> .ops e d l
 | .exit id=> .exit id
 | .ret=> .ret
def eu(P:Program):Nat→Code→CC→Prop:=fun N c cc=> ∃a,comp P a N c=some cc.erase
section
variable {P:Program} {N:Nat} {rd:Option Nat}
def EM(P:Program)(N:Nat)(a:Option Nat)(cc:CC)(fr:Fr)(s:List aa)(e:Exit)(fr':Fr)(b:List aa):Prop:=
 ∀c,eu P N c cc→jo (eu P) P N a c fr s e fr' b
def AC(P:Program)(N:Nat)(b:Option Nat)(cc:CC)(Q:Exit→Fr→List aa→Prop)(fr:Fr)(s:List aa):Prop:=
 ∃e fr' a,Q e fr' a∧EM P N b cc fr s e fr' a
structure aG(P:Program)(f:FuncId)(args:List D)(r:D):Prop where
 enters:Enters P f
 calls: ∀(I:Nat→Nat) (w:World) (vs:List Value),vs.length=args.length→(∀(i:Nat) (v:Value) (d:D),vs[i]?=some v→args[i]?=some d→RD I w v d)→GW w.heap.size w→
  Calls P f vs.toArray w fun e w'=> ∃v,e= .returned v∧RD (fY I w.heap.size w') w' v r∧Below w.heap.size w w'
def ny:List AV→Option (List D)
 |[]=>some []
 |x::l=>x.toD.bind fun d=>(ny l).map (d:: ·)
theorem P7: ∀{xs:List AV} {ds:List D},ny xs=some ds→ds.length=xs.length∧ ∀(i:Nat) (d:D),ds[i]?=some d→ ∃x,xs[i]?=some x∧x.toD=some d
 |[],ds,h=>by simp[ny]at h;subst h;simp
 |x::xs,ds,h=>by
  obtain⟨d,f,c⟩:=aT (show(x.toD.bind fun d=>(ny xs).map (d:: ·))=some ds from h);obtain⟨b,e,rfl⟩:=bB c;obtain⟨g,j⟩:=P7 e;refine⟨by simp[g],fun i y a=> ?_⟩;cases i with
  |zero=>simp at a;subst a;exact⟨x,rfl,f⟩
  |succ i=>exact j i y (by simpa using a)
theorem aG.runs{g:Nat→Code→CC→Prop}{f:FuncId}{ds:List D}{r:D}(h:aG P f ds r){xs:List AV}(n:ny xs=some ds)(s:List aa):gA g P f xs s (.d r) s:=by
 refine⟨h.enters,fun B k w vs a b=> ?_⟩;obtain⟨o,p⟩:=P7 n;refine Calls.mono (h.calls k.I w vs (by rw[b.1,o]) (fun i v d c m=> ?_) (a.glob.mono a.base)) ?_
 ·obtain⟨x,j,l⟩:=p i d m;exact(b.2 i v x c j).toD l
 ·rintro e w' ⟨v,rfl,c,hb⟩;exact⟨v,⟨fY k.I w.heap.size w',k.own⟩,rfl,.d c,Ext.called a.base hb,a.called hb⟩
def oX(fr:Fr):yP→Option AV
 | .fn f=>some (.clo f [] [])
 | .val x=>x.ev fr
def aq(P:Program)(b:AV)(vs:List AV)(s:List aa)(K:AV→List aa→Nat→Prop):Prop:=
 (∃d,(∀s2,pP (eu P) P b vs s2 d s2)∧K d s 0)∨(∃d a,pP (eu P) P b vs s d a∧K d a 2)∨(∃d,(∀s2,fw s s2→pP (eu P) P b vs s2 d s2)∧K d s 1)∨(∃d xs,(∀s2,fw s s2→gi s2 s.length xs.length→pP (eu P) P b vs s2 d (fill s2 s.length xs))∧K d (s++xs) 3)∨(∃d a id,pP (eu P) P b vs s d a∧sk id s a∧K d a (5+2*id))
theorem aq.mono{e:AV}{vs:List AV}{s:List aa}{K c:AV→List aa→Nat→Prop}(h:aq P e vs s K)(hk: ∀d s f,K d s f→c d s f):aq P e vs s c:=by
 rcases h with⟨d,a,b⟩|⟨d,s',a,b⟩|⟨d,a,b⟩|⟨d,xs,a,b⟩|⟨d,s',id,a,b,h3⟩
 ·exact .inl ⟨d,a,hk _ _ _ b⟩
 ·exact .inr (.inl ⟨d,s',a,hk _ _ _ b⟩)
 ·exact .inr (.inr (.inl ⟨d,a,hk _ _ _ b⟩))
 ·exact .inr (.inr (.inr (.inl ⟨d,xs,a,hk _ _ _ b⟩)))
 ·exact .inr (.inr (.inr (.inr ⟨d,s',id,a,b,hk _ _ _ h3⟩)))
theorem aq.data{f:FuncId}{a cs vs:List AV}{s:List aa}{K:AV→List aa→Nat→Prop}{ds:List D}{r:D}(h:aG P f ds r)(b:ny (a++vs++cs)=some ds)(hk:K (.d r) s 0):aq P (.clo f a cs) vs s K:=
 .inl ⟨_,fun s2=>h.runs b s2,hk⟩
theorem aq.run{b:AV}{vs:List AV}{s:List aa}{K:AV→List aa→Nat→Prop}{d:AV}{a:List aa}(h:pP (eu P) P b vs s d a)(hk:K d a 2):aq P b vs s K:= .inr (.inl ⟨d,a,h,hk⟩)
theorem RC{fr:Fr}{c:yP}{d:AV}(hc:oX fr c=some d){o:Oper}{p:Operand}(hp:(∃f,c= .fn f∧p= .func f)∨(∃x,c= .val x∧cX P 0 p=some x∧p∈o.op.operands)){k:aU}{w:World}{a:Act}(b:jm k w a o fr):RA k w (a.eval p) d:=by
 rcases hp with⟨f,rfl,rfl⟩|⟨x,rfl,hx,hmem⟩
 ·obtain rfl:=aJ hc;exact .clo (us:=[]) (vs:=[]) rfl rfl (by simp) (by simp)
 ·exact bI b hmem hx hc
theorem Jn{fz mu:Bool}{t:TypeId}{n:Nat}{g:List (Nat×Operand)}{ci:CI}(h:wO P fz mu t n g=some ci):(∃a b c d,ci= .bsf a b c d)∨(∃a b c d e f,ci= .bsl a b c d e f):=by
 unfold wO at h;split at h
 ·split at h
  ·split at h
   ·split at h
    ·obtain⟨j,_,i⟩:=dt.1 h;cases fz with
     |true=>exact .inl ⟨_,_,_,_,i.symm⟩
     |false=>exact .inr ⟨_,_,_,_,_,_,i.symm⟩
    ·cases h
   ·cases h
  ·cases h
 ·cases h
theorem RY{i:List Nat}{o:Oper}{c:yP}{xs:List X}(h:l7 P i o=some (.call c xs)):
  ∃p ps ts,o.op= .call {callee:= .value p,args:=ps,argTypes:=ts}∧jx P ts.toList ps.toList=some xs∧((∃f,c= .fn f∧p= .func f)∨(∃x,c= .val x∧cX P 0 p=some x∧p∈o.op.operands)):=by
 unfold l7 at h;split at h
 all_goals first
  |(
   rename_i j d;obtain⟨callee,args,b⟩:=j;unfold zC at h;dsimp only at h;split at h
   ·unfold zG at h
    (repeat' split at h)<;>first|(cases h;done)|(injection h with h;cases h)
   ·unfold zA at h
    (repeat' split at h)<;>first|(cases h;done)|(injection h with h;cases h)
   ·unfold zD at h
    (repeat' split at h)<;>first|(cases h;done)|(injection h with h;cases h)
   ·unfold qU at h
    (repeat' split at h)<;>first|(cases h;done)|(injection h with h;cases h)
   ·unfold qU at h
    (repeat' split at h)<;>first|(cases h;done)|(injection h with h;cases h)
   ·rename_i g;obtain⟨y,e,a⟩:=dt.1 h;injection a with e1 e2
    subst e1;subst e2;exact⟨.func g,args,b,d,e,.inl ⟨g,rfl,rfl⟩⟩
   ·rename_i p _;split at h
    ·rename_i x q k l;injection h with h
     injection h with e1 e2
     subst e1;subst e2;exact⟨p,args,b,d,l,.inr ⟨x,rfl,k,by rw[d];simp[Op.operands,Call.operands]⟩⟩
    ·cases h
   ·cases h)
  |(exfalso;obtain⟨y,e,a⟩:=dt.1 h;first|(cases a;done)|(split at a<;>(cases a;done)))
  |(exfalso;unfold uL at h;(repeat' split at h)<;>first|(cases h;done)|(injection h with h;cases h;done)|(obtain⟨y,e,a⟩:=dt.1 h;cases a;done))
  |(exfalso;unfold uK at h;(repeat' split at h)<;>first|(cases h;done)|(obtain⟨n,_,a⟩:=dt.1 h;cases a;done))
  |(exfalso;have m:=Jn h;rcases m with⟨_,_,_,_,a⟩|⟨_,_,_,_,_,_,a⟩<;>(cases a;done))
  |(exfalso;unfold wN at h;(repeat' split at h)<;>first|(cases h;done)|(injection h with h;cases h;done))
  |(exfalso;unfold zB at h;(repeat' split at h)<;>first|(cases h;done)|(injection h with h;cases h;done))
  |(exfalso;unfold zE at h;(repeat' split at h)<;>first|(cases h;done)|(injection h with h;cases h;done))
  |(exfalso;unfold zF at h;(repeat' split at h)<;>first|(cases h;done)|(injection h with h;cases h;done))
  |(exfalso;unfold wP at h;(repeat' split at h)<;>first|(cases h;done)|(injection h with h;cases h;done))
  |(exfalso;unfold wM at h;(repeat' split at h)<;>first|(cases h;done)|(injection h with h;cases h;done)|(injection h with h;split at h<;>(cases h;done)))
  |(exfalso;unfold zH at h;(repeat' split at h)<;>first|(cases h;done)|(injection h with h;cases h;done))
  |(exfalso;unfold uM at h;(repeat' split at h)<;>first|(cases h;done)|(injection h with h;cases h;done))
  |(exfalso;unfold zI at h;(repeat' split at h)<;>first|(cases h;done)|(injection h with h;cases h;done))
  |(exfalso;unfold zJ at h;(repeat' split at h)<;>first|(cases h;done)|(injection h with h;cases h;done))
  |(exfalso;(repeat' split at h)<;>first|(cases h;done)|(obtain⟨n,_,a⟩:=dt.1 h;first|(cases a;done)|(split at a<;>(cases a;done)))|(injection h with h;cases h))
theorem Vv{E:Nat→Code→CC→Prop}{o:Oper}{fr:Fr}{s G:List aa}{d:AV}{p:Operand}{ps:Array Operand}{ts:Array TypeId}{xs:List X}{t:AV}{vs:List AV}(y:o.op= .call {callee:= .value p,args:=ps,argTypes:=ts})
  (hc: ∀(k:aU) (w:World) (a:Act),jm k w a o fr→RA k w (a.eval p) t) (K:jx P ts.toList ps.toList=some xs) (J:j4 fr xs=some vs) (h:pP E P t vs s d G):bu E P o fr s d G:=by
 intro B k a w l n x r M;refine⟨fun f _=>uc r f,?_⟩;rw[yS,Ho x];have c:fW k w (ps.toList.map a.eval) vs:=Fm l K (fun q F=>by rw[y];simp only[Op.operands,Call.operands];simp at F⊢;exact .inr F) J;have m:=hc k w a l;have i:ps.map a.eval=(ps.toList.map a.eval).toArray:=by apply Array.ext';simp
 have j:(FW r).depth.isSome=true→1≤0:=fun h=>by rw[HY]at h;cases h
 cases t with
 |clo f N cs=>
  obtain⟨us,D,u,H,I⟩:=m.clo_inv;have g:(execOp a.eval o).run P w= .ok (.enter f (us++ps.toList.map a.eval++D).toArray) w:=by
   unfold execOp;rw[y];simp only[resolve,u,Deferred.ofValue,bF,bZ,bL,invoke];have:us.toArray++Array.map a.eval ps++D.toArray=(us++ps.toList.map a.eval++D).toArray:=by rw[i];simp
   rw[this];exact h.enters _ w
  rw[g,Oper.uponIn_enter];refine⟨j,J1 (Calls.mono (h.calls B k w _ n ((H.append c).append I)) ?_)⟩;rintro e w' ⟨v,k',rfl,z,A,C⟩;exact⟨v,rfl,k',z,A,C⟩
 |yld id=>
  obtain⟨b,hb,u⟩:=m.yld_inv;obtain⟨fn,tmps,assign,body,L,hround⟩:=h B k w _ b n c hb;have g:(execOp a.eval o).run P w= .ok (.round b fn tmps assign body) w:=by
   unfold execOp;rw[y];simp only[resolve,u,Deferred.ofValue,bF,bZ,bL,invoke,Array.empty_append];rw[i];exact L
  rw[g,Oper.uponIn_round];refine⟨j,a2N (RoundIn.mono hround ?_)⟩;rintro e w' ⟨v,k',rfl,z,A,C⟩;exact⟨v,rfl,k',z,A,C⟩
 |_=>exact h.elim
def mK(b:Bool)(x y:Prop):Prop:=(b=false→x)∧(b=true→y)
theorem HU(x y:Prop):mK true x y=y:=by simp[mK]
theorem HT(x y:Prop):mK false x y=x:=by simp[mK]
@[congr] theorem a4P (b a:Bool) (x y:Prop) (h:b=a):mK b x y=mK a x y:=by rw[h]
def bK(P:Program):List CO→(Fr→List aa→List Nat→Prop)→List Nat→Fr→List aa→Prop
 |[],K,acc,fr,s=>K fr s acc.reverse
 |o::l,K,acc,fr,s=>match ki fr o.g with
  |none=>False
  |some b=>mK b (bK P l K (0::acc) (dC fr o.dst mC) s) (match o.ci with
   | .call c xs=>match oX fr c,j4 fr xs with
    |some cv,some vs=>aq P cv vs s fun d a e=>bK P l K (e::acc) (dC fr o.dst d) a
    |_,_=>False
   |ci=>match ci.sem fr s with
    |some (d,a)=>bK P l K (ci.mark fr::acc) (dC fr o.dst d) a
    |none=>False)
theorem sC{a:List Nat}{ops:Array Oper}{o:Oper}{c:CO}(h:uN P a ops o=some c)(fr:Fr):ki fr c.g=gd ops fr o:=by
 unfold uN at h;split at h
 ·obtain rfl:=aJ h;unfold gd ki;cases hg:o.guard with
  |none=>rfl
  |some d=>
   obtain⟨j,b⟩:=d;dsimp only;cases e:(ops[j]?).bind (·.dst)with
   |none=>rfl
   |some t=>rfl
 ·cases h
theorem qV{a:List Nat}{ops:Array Oper}{o:Oper}{c:CO}(h:uN P a ops o=some c):(l7 P a o=some c.ci∨(c.ci= .bad∧mn o=true))∧c.dst=o.dst:=by
 unfold uN at h;split at h
 ·rename_i ci hc;obtain rfl:=aJ h;refine⟨?_,rfl⟩;unfold Jg at hc;split at hc
  ·rename_i d b;obtain rfl:=aJ hc;exact .inl b
  ·split at hc
   ·rename_i e;obtain rfl:=aJ hc;exact .inr ⟨rfl,e⟩
   ·cases hc
 ·cases h
theorem sv{a:List Nat}{ops:Array Oper}{l:List Oper}{c:CO}{cs:List CO}(h:nS P a ops l=some (c::cs)): ∃o l',l=o::l'∧uN P a ops o=some c∧nS P a ops l'=some cs:=by
 cases l with
 |nil=>simp[nS]at h
 |cons o l'=>
  unfold nS at h;split at h
  ·rename_i f b d e;cases h;exact⟨o,l',rfl,d,e⟩
  ·cases h
theorem RX{a:List Nat}{ops:Array Oper}{l:List Oper}(h:nS P a ops l=some []):l=[]:=by
 cases l with
 |nil=>rfl
 |cons o l'=>
  unfold nS at h;split at h
  ·cases h
  ·cases h
theorem Pj{v:AV}{id:Nat}(h:v.vecId=some id):v.hdl=some id:=by
 cases v<;>first|exact h|cases h
theorem a3P{B:List Nat}{o:Oper}{ci:CI}(h:l7 P B o=some ci){fr:Fr}{id:Nat}(q:ci.use fr=some id): ∃p t x v,p∈o.op.operands∧cX P t p=some x∧x.ev fr=some v∧v.hdl=some id:=by
 have a: ∀{s:CI},s=ci→s.use fr=none→False:=fun e E=>by rw[e,q]at E;cases E
 unfold l7 at h;split at h
 case h_4=>
  rename_i t x g;split at h
  ·rename_i n f u r;obtain rfl:=aJ h;obtain⟨v,j,b⟩:=aT (show(f.ev fr).bind AV.hdl=some id from q);exact⟨x,0,f,v,by rw[g];simp[Op.operands],r,j,b⟩
  ·cases h
 case h_7=>
  rename_i t x i g;unfold zE at h;split at h
  ·rename_i e f y u r A;split at h
   · obtain rfl:=aJ h;obtain⟨v,j,b⟩:=aT (show(f.ev fr).bind AV.vecId=some id from q);exact⟨x,0,f,v,by rw[g];simp[Op.operands],r,j,Pj b⟩
   · cases h
  ·split at h
   · obtain rfl:=aJ h;cases q
   · cases h
  ·cases h
 all_goals first
  |(
    rename_i t x lo hi mx g;unfold wP at h;split at h
    · rename_i e f l r A D L M;split at h
      ·obtain rfl:=aJ h;obtain⟨v,j,b⟩:=aT (show(f.ev fr).bind AV.vecId=some id from q);exact⟨x,0,f,v,by rw[g];simp[Op.operands],D,j,Pj b⟩
      ·exfalso;split at h
       ·injection h with h;exact a h rfl
       ·cases h
      ·cases h
    all_goals(exfalso;(repeat' split at h)<;>first|(cases h;done)|(injection h with h;exact a h rfl)))
  |(
    rename_i t m k ok g;unfold zH at h;split at h
    · split at h
      ·rename_i G k' ks z u r A D;obtain rfl:=aJ h;obtain⟨v,j,b⟩:=aT (show(G.ev fr).bind AV.hdl=some id from q);exact⟨m,t,G,v,by rw[g];simp[Op.operands],u,j,b⟩
      ·cases h
    · cases h)
  |(
    rename_i c g;obtain⟨callee,args,w⟩:=c;obtain⟨args⟩:=args;obtain⟨w⟩:=w;unfold zC at h;dsimp only at h;split at h
    · unfold zG at h;split at h
      ·split at h
       ·obtain rfl:=aJ h;simp[CI.use]at q
       ·obtain rfl:=aJ h;simp[CI.use]at q
       ·rename_i p t I J k e f u r;obtain rfl:=aJ h;obtain⟨v,j,b⟩:=aT (show(f.ev fr).bind AV.hdl=some id from q);exact⟨p,t,f,v,by rw[g];simp[Op.operands,Call.operands],r,j,b⟩
       ·cases h
      ·cases h
    · exfalso;unfold zA at h
      (repeat' split at h)<;>first|(cases h;done)|(injection h with h;exact a h rfl)
    · exfalso;unfold zD at h
      (repeat' split at h)<;>first|(cases h;done)|(injection h with h;exact a h rfl)
    · exfalso;unfold qU at h
      (repeat' split at h)<;>first|(cases h;done)|(injection h with h;exact a h rfl)
    · exfalso;unfold qU at h
      (repeat' split at h)<;>first|(cases h;done)|(injection h with h;exact a h rfl)
    · exfalso;obtain⟨y,F,d⟩:=dt.1 h;exact a d rfl
    · exfalso;split at h
      ·injection h with h;exact a h rfl
      ·cases h
    · cases h)
  |(
    rename_i C dst x g;unfold wM at h;split at h
    · exfalso;injection h with h;exact a h rfl
    · exfalso;split at h
      ·injection h with h
       split at h<;>exact a h rfl
      ·cases h
    · rename_i e f u r A;split at h
      ·obtain rfl:=aJ h;obtain⟨v,j,b⟩:=aT (show(f.ev fr).bind AV.hdl=some id from q);exact⟨x,C,f,v,by rw[g];simp[Op.operands],A,j,b⟩
      ·cases h
    · cases h)
  |(exfalso;obtain⟨y,F,d⟩:=dt.1 h;first|exact a d rfl|(split at d<;>exact a d rfl))
  |(exfalso;unfold uL at h;(repeat' split at h)<;>first|(exact a (aJ h) rfl)|(obtain⟨y,F,d⟩:=dt.1 h;exact a d rfl))
  |(exfalso;unfold uK at h;(repeat' split at h)<;>first|(cases h;done)|(obtain⟨K,_,d⟩:=dt.1 h;exact a d rfl))
  |(exfalso;have H:=Jn h;rcases H with⟨_,_,_,_,d⟩|⟨_,_,_,_,_,_,d⟩<;>exact a d.symm rfl)
  |(exfalso;unfold wN at h;(repeat' split at h)<;>first|(cases h;done)|(injection h with h;exact a h rfl))
  |(exfalso;unfold zB at h;(repeat' split at h)<;>first|(cases h;done)|(injection h with h;exact a h rfl))
  |(exfalso;unfold zF at h;(repeat' split at h)<;>first|(cases h;done)|(injection h with h;exact a h rfl))
  |(exfalso;unfold wP at h;(repeat' split at h)<;>first|(cases h;done)|(injection h with h;exact a h rfl))
  |(exfalso;unfold wM at h;(repeat' split at h)<;>first|(cases h;done)|(injection h with h;exact a h rfl))
  |(exfalso;unfold uM at h;(repeat' split at h)<;>first|(cases h;done)|(injection h with h;exact a h rfl))
  |(exfalso;unfold zI at h;(repeat' split at h)<;>first|(cases h;done)|(injection h with h;exact a h rfl))
  |(exfalso;unfold zJ at h;(repeat' split at h)<;>first|(cases h;done)|(injection h with h;exact a h rfl))
  |(exfalso;(repeat' split at h)<;>first|(cases h;done)|(obtain⟨K,_,d⟩:=dt.1 h;exact a d rfl)|(injection h with h;exact a h rfl))
theorem YL{l:Nat→Code→CC→Prop}{j:List Nat}{o:Oper}{ci:CI}(hc:l7 P j o=some ci){fr:Fr}{s:List aa}{d:AV}(h:ci.sem fr s=some (d,s))(A:ci.touch fr=1){id:Nat}(f:ci.use fr=some id)(s2:List aa)(ha:oJ id s s2):bu l P o fr s2 d s2:=by
 have i:=a3Q h f;intro B k a w c g;obtain⟨p,t,x,v,m,n,q,r⟩:=a3P hc f;obtain⟨y,z⟩:=(bI c m n q).no_hole g r;rcases ha i y with e|e
 ·exact zK hc (OA h a8 fun u b=>by rw[f]at b;cases b;exact e) B k a w c g
 ·exact absurd e z
end
end Go.Bb
namespace Go.Bb
open Go Go.RowKit Go.Ab Go.Proofs.Lg
section
variable {P:Program} {N:Nat} {rd:Option Nat}
theorem rW: ∀{cs:List CO} {fr:Fr} {s:List aa} {K:Fr→List aa→List Nat→Prop} {C:List Nat},bK P cs K C fr s→
  ∃q fr' n,K fr' n (C.reverse++q)∧ ∀(i:List Nat) (ops:Array Oper) (l:List Oper),nS P i ops l=some cs→iM (eu P) P ops l fr s q fr' n
 |[],fr,s,K,C,hw=>⟨[],fr,s,by simpa[bK]using hw,fun i ops l v=>by obtain rfl:=RX v;exact .nil fr s⟩
 |c::cs,fr,s,K,C,hw=>by
  unfold bK at hw;cases hg:ki fr c.g with
  |none=>rw[hg]at hw;exact hw.elim
  |some b=>
   rw[hg]at hw;obtain⟨V,W⟩:=hw;cases b with
   |false=>
    obtain⟨q,fr',n,hk,ha⟩:=rW (V rfl);refine⟨0::q,fr',n,by simpa using hk,fun i ops l v=> ?_⟩;obtain⟨o,l',rfl,t,z⟩:=sv v;obtain⟨e,j⟩:=qV t;have f:=ha i ops l' z;rw[j]at f;exact .skip o l' fr s q fr' n (by rw[←sC t];exact hg) f
   |true=>
    have G:=W rfl;split at G
    ·rename_i X xs r;split at G
     ·rename_i Q vs M O;have L: ∀(i:List Nat) (o:Oper),l7 P i o=some c.ci→ ∀{s n:List aa} {d:AV},pP (eu P) P Q vs s d n→bu (eu P) P o fr s d n:=fun i o e s n d B=>by
       rw[r]at e;obtain⟨p,ps,ts,T,U,hp⟩:=RY e;exact Vv T (fun k w a I=>RC M hp I) U O B
      rcases G with⟨d,B,hk⟩|⟨d,H,B,hk⟩|⟨d,B,hk⟩|⟨d,xs',B,hk⟩|⟨d,H,id,B,hset,hk⟩
      ·obtain⟨q,fr',n,u,ha⟩:=rW hk;refine⟨0::q,fr',n,by simpa using u,fun i ops l v=> ?_⟩;obtain⟨o,l',rfl,t,z⟩:=sv v;obtain⟨e,j⟩:=qV t;replace e:=e.resolve_right fun h=>by rw[r]at h;cases h.1
       have f:=ha i ops l' z;rw[j]at f;exact .free o l' fr s _ q fr' n (by rw[←sC t];exact hg) (fun s2=>L i o e (B s2)) f
      ·obtain⟨q,fr',n,u,ha⟩:=rW hk;refine⟨2::q,fr',n,by simpa using u,fun i ops l v=> ?_⟩;obtain⟨o,l',rfl,t,z⟩:=sv v;obtain⟨e,j⟩:=qV t;replace e:=e.resolve_right fun h=>by rw[r]at h;cases h.1
       have f:=ha i ops l' z;rw[j]at f;exact .eff o l' fr s d H q fr' n (by rw[←sC t];exact hg) (L i o e B) f
      ·obtain⟨q,fr',n,u,ha⟩:=rW hk;refine⟨1::q,fr',n,by simpa using u,fun i ops l v=> ?_⟩;obtain⟨o,l',rfl,t,z⟩:=sv v;obtain⟨e,j⟩:=qV t;replace e:=e.resolve_right fun h=>by rw[r]at h;cases h.1
       have f:=ha i ops l' z;rw[j]at f;exact .reads o l' fr s d q fr' n (by rw[←sC t];exact hg) (fun s2 D=>L i o e (B s2 D)) f
      ·obtain⟨q,fr',n,u,ha⟩:=rW hk;refine⟨3::q,fr',n,by simpa using u,fun i ops l v=> ?_⟩;obtain⟨o,l',rfl,t,z⟩:=sv v;obtain⟨e,j⟩:=qV t;replace e:=e.resolve_right fun h=>by rw[r]at h;cases h.1
       have f:=ha i ops l' z;rw[j]at f;exact .make o l' fr s d xs' q fr' n (by rw[←sC t];exact hg) (fun s2 D S=>L i o e (B s2 D S)) f
      ·obtain⟨q,fr',n,u,ha⟩:=rW hk;refine⟨(5+2*id)::q,fr',n,by simpa using u,fun i ops l v=> ?_⟩;obtain⟨o,l',rfl,t,z⟩:=sv v;obtain⟨e,j⟩:=qV t;replace e:=e.resolve_right fun h=>by rw[r]at h;cases h.1
       have f:=ha i ops l' z;rw[j]at f;exact .effAt id o l' fr s d H q fr' n (by rw[←sC t];exact hg) (L i o e B) hset f
     ·exact G.elim
    ·split at G
     ·rename_i d H m;obtain⟨q,fr',n,hk,ha⟩:=rW G;have y:c.ci.touch fr=0∨c.ci.touch fr=1∨c.ci.touch fr=2∨c.ci.touch fr=3:=by
       rcases Nat.lt_or_ge (c.ci.touch fr) 2 with h|h
       ·omega
       ·have:c.ci.touch fr≤3:=by
         generalize c.ci=ci;cases ci<;>simp only[CI.touch]<;>first|exact QP _|(split<;>omega)|omega
        omega
      refine⟨c.ci.mark fr::q,fr',n,by simpa using hk,fun i ops l v=> ?_⟩;obtain⟨o,l',rfl,t,z⟩:=sv v;obtain⟨e,j⟩:=qV t;replace e:=e.resolve_right fun h=>by rw[h.1]at m;cases m
      have f:=ha i ops l' z;rw[j]at f;have A:gd ops fr o=some true:=by rw[←sC t];exact hg
      rcases y with y|y|y|y
      ·have:=OB m a8;subst this;have hm:c.ci.mark fr=0:=by unfold CI.mark rm;rw[y];rfl
       rw[hm];refine .free o l' fr _ d q fr' n A (fun s2=>zK e (OA m a8 fun id N=> ?_)) f;have J:=Pb (fr:=fr) (ci:=c.ci) a8;rw[N,y]at J;cases J
      ·have:=OB m a8;subst this;have J:=Pb (fr:=fr) (ci:=c.ci) a8;cases E:c.ci.use fr with
       |none=>rw[E,y]at J;cases J
       |some id=>
        have hm:c.ci.mark fr=4+2*id:=by unfold CI.mark rm;rw[y,E];rfl
        rw[hm];exact .readsAt id o l' fr _ d q fr' n A (YL e m y E) f
      ·cases F:c.ci.wr fr with
       |none=>
        have hm:c.ci.mark fr=2:=by unfold CI.mark rm;rw[y,F];rfl
        rw[hm];exact .eff o l' fr s d H q fr' n A (zK e m) f
       |some id=>
        have hm:c.ci.mark fr=5+2*id:=by unfold CI.mark rm;rw[y,F];rfl
        rw[hm];exact .effAt id o l' fr s d H q fr' n A (zK e m) (a2Z m F) f
      ·obtain⟨x,rfl,R⟩:=RZ e m y;have hm:c.ci.mark fr=3:=by unfold CI.mark rm;rw[y];rfl
       rw[hm];exact .make o l' fr s d x q fr' n A R f
     ·exact G.elim
def tI(b:List Nat)(a:List Nat):Bool:=
 (List.range a.length).all fun j=>a.getD j 0==0||(List.range j).all fun i=> !eg (a.getD i 0) (a.getD j 0)||(b.getD j 0).testBit i
theorem YO{ops:Array Oper}{b:List Nat}(l:tH ops []=true)(k:b.length=ops.size)(h:tI (Region.before ops).toList b=true):k8 ops (uB (Region.before ops)) (fun i=>b.getD i 0):=by
 have e:=YN l;refine⟨e.back,e.up,e.names,fun i j f m g=> ?_⟩;unfold tI at h;simp only[jX,mQ]at h;have c:=h j a8;simp only[jf,jX,mQ,beq_iff_eq]at c;rcases c with c|c
 ·exfalso;have a:eg (b.getD i 0) (b.getD j 0)=true:=g;rw[c]at a;simp[eg,dF,eU,mg]at a
 ·rcases c i f with d|d
  ·have a:eg (b.getD i 0) (b.getD j 0)=true:=g;rw[a]at d;cases d
  ·unfold uB;have:(Region.before ops).toList.getD j 0=(Region.before ops).getD j 0:=by simp[List.getD_eq_getElem?_getD,u9]
   rw[←this];exact d
def coarse(x:Nat):Nat:=if x<4 then x else if x % 2=0 then 1 else 2
theorem qT(b:Nat):coarse (4+2*b)=1:=by unfold coarse;rw[if_neg a8,if_pos a8]
theorem p6(b:Nat):coarse (5+2*b)=2:=by unfold coarse;rw[if_neg a8,if_neg a8]
theorem S4{a b:Nat}(h:eg a b=true):eg (coarse a) (coarse b)=true:=by
 have cs: ∀x,(x<4∧coarse x=x)∨(∃c,x=4+2*c)∨ ∃c,x=5+2*c:=fun x=>by
  by_cases h:x<4
  ·exact .inl ⟨h,if_pos h⟩
  ·by_cases i:x % 2=0
   ·exact .inr (.inl ⟨(x-4)/2,by omega⟩)
   ·exact .inr (.inr ⟨(x-5)/2,by omega⟩)
 have d: ∀x,x<4→x=0∨x=1∨x=2∨x=3:=fun x h=>by omega
 rcases cs a with⟨ha,f⟩|⟨c,f⟩|⟨c,f⟩<;>rcases cs b with⟨hb,g⟩|⟨e,g⟩|⟨e,g⟩
 ·rw[f,g];exact h
 ·subst g;rw[f,qT];rcases d a ha with rfl|rfl|rfl|rfl<;>simp[eg,dF,eU,mg]at h⊢ <;>omega
 ·subst g;rw[f,p6];rcases d a ha with rfl|rfl|rfl|rfl<;>simp[eg,dF,eU,mg]at h⊢ <;>omega
 ·subst f;rw[g,qT];rcases d b hb with rfl|rfl|rfl|rfl<;>simp[eg,dF,eU,mg]at h⊢ <;>omega
 ·subst f;subst g;exfalso;unfold eg dF eU mg at h;simp at h;omega
 ·subst f;subst g;rw[qT,p6];rfl
 ·subst f;rw[g,p6];rcases d b hb with rfl|rfl|rfl|rfl<;>simp[eg,dF,eU,mg]at h⊢ <;>omega
 ·subst f;subst g;rw[qT,p6];rfl
 ·subst f;subst g;rw[p6,p6];rfl
theorem DF{c a:List Nat}(h:tI c (a.map coarse)=true):tI c a=true:=by
 unfold tI at h⊢;rw[aQ]at h;have e: ∀i,(a.map coarse).getD i 0=coarse (a.getD i 0):=fun i=>by
  simp only[List.getD_eq_getElem?_getD,dL];cases a[i]? <;>rfl
 simp only[jX,mQ,jf,beq_iff_eq,rZ,e]at h⊢;intro j d;rcases h j d with b|b
 ·left;unfold coarse at b;split at b
  ·exact b
  ·split at b<;>cases b
 ·refine .inr fun i hi=> ?_;rcases b i hi with h2|h2
  ·left;cases hc:eg (a.getD i 0) (a.getD j 0)with
   |false=>rfl
   |true=>have:=S4 hc;rw[h2]at this;cases this
  ·exact .inr h2
theorem a4i{u:Nat→Code→CC→Prop}{ops:Array Oper}{B:Nat}{D:List Deferred}{r:Option Nat}{l:List Oper}{fr:Fr}{s:List aa}{y:List Nat}{fr':Fr}{q:List aa}(h:iM u P ops l fr s y fr' q){Q:Exit→Fr→List aa→Prop}(z:Q .normal fr' q)
  (n: ∀o∈l,∀d,o.dst=some d→d<N) (e: ∀o∈l,mn o=true) {A:aU} {C:World}: ∀(k:aU) (a:Act) (w:World),a.tmps.size=N→a.defers=D→FR k w a fr→St u B k s w→Ext B A C k w→
  wpListIn (FW r) 0 P ops (uu u B N D A C Q) l a w:=by
 have step: ∀{o:Oper} {rest:List Oper} {fr:Fr} {s:List aa} {d:AV} {F:List aa} {k:aU} {a:Act} {w:World},gd ops fr o=some true→bu u P o fr s d F→mn o=true→(∀d,o.dst=some d→d<N)→
   (∀(k:aU) (a:Act) (w:World),a.tmps.size=N→a.defers=D→FR k w a (dC fr o.dst d)→St u B k F w→Ext B A C k w→wpListIn (FW r) 0 P ops (uu u B N D A C Q) rest a w)→
   a.tmps.size=N→a.defers=D→FR k w a fr→St u B k s w→Ext B A C k w→wpListIn (FW r) 0 P ops (uu u B N D A C Q) (o::rest) a w:=fun hg c e n p ha i g m j=>by
  refine wpListIn_step fun K G=> ?_;rw[if_pos (FB hg fun t x _ I=>g t x I)];refine Oper.wpIn_mono ?_ (c B _ _ _ (g.ops _) m e r _);rintro _ w' ⟨v,rfl,k',J,E,H⟩;exact G _ _ (p k' _ w' (by rw[Gv,ha]) (by rw[Gu,i]) ((g.mono E.mono).put J (by rw[ha];exact n)) H (j.trans E))
 induction h with
 |nil fr s=>exact fun k a w ha i g m j=>⟨fr,s,k,z,ha,i,j,g,m⟩
 |skip o rest fr s y fr' q hg _ p=>
  intro k a w ha i g m j;refine wpListIn_step fun K G=> ?_;rw[if_neg (by rw[FB hg fun t x _ I=>g t x I];simp)];exact⟨fun f _=>uc r f,G _ _ (p z (fun o c=>n o (by simp[c])) (fun o c=>e o (by simp[c])) k _ w (by rw[Gv,ha]) (by rw[Gu,i]) (g.put RA.undf (by rw[ha];exact n o (by simp))) m j)⟩
 |free o rest fr s d y fr' q hg c _ p=>
  intro k a w ha i g m j;exact step hg (c s) (e o (by simp)) (n o (by simp)) (p z (fun o c=>n o (by simp[c])) (fun o c=>e o (by simp[c]))) ha i g m j
 |reads o rest fr s d y fr' q hg c _ p=>
  intro k a w ha i g m j;exact step hg (c s (fw.refl s)) (e o (by simp)) (n o (by simp)) (p z (fun o c=>n o (by simp[c])) (fun o c=>e o (by simp[c]))) ha i g m j
 |readsAt b o rest fr s d y fr' q hg c _ p=>
  intro k a w ha i g m j;exact step hg (c s (oJ.refl b s)) (e o (by simp)) (n o (by simp)) (p z (fun o c=>n o (by simp[c])) (fun o c=>e o (by simp[c]))) ha i g m j
 |effAt b o rest fr s d F y fr' q hg c _ _ p=>
  intro k a w ha i g m j;exact step hg c (e o (by simp)) (n o (by simp)) (p z (fun o c=>n o (by simp[c])) (fun o c=>e o (by simp[c]))) ha i g m j
 |make o rest fr s d x y fr' q hg c _ p=>
  intro k a w ha i g m j;exact step hg (by have:=c s (fw.refl s) (gi.end' s _);rw[sw]at this;exact this) (e o (by simp)) (n o (by simp)) (p z (fun o c=>n o (by simp[c])) (fun o c=>e o (by simp[c]))) ha i g m j
 |eff o rest fr s d F y fr' q hg c _ p=>
  intro k a w ha i g m j;exact step hg c (e o (by simp)) (n o (by simp)) (p z (fun o c=>n o (by simp[c])) (fun o c=>e o (by simp[c]))) ha i g m j
def qH(b:Bool)(a:List Nat)(Q:Exit→Fr→List aa→Prop)(fr:Fr)(s:List aa)(c:List Nat):Prop:=(b=true→tI a c=true)∧Q .normal fr s
theorem S0{a:List Nat}{o:Oper}{ci:CI}(h:l7 P a o=some ci):mn o=true:=by
 unfold mn;split
 ·rename_i c b;unfold l7 at h;rw[b]at h;cases h
 ·rfl
theorem Jl{b:List Nat}{ops:Array Oper}: ∀{l:List Oper} {cs:List CO},nS P b ops l=some cs→ ∀o∈l,mn o=true
 |[],_,_,o,a=>by cases a
 |o'::l,cs,h,o,a=>by
  unfold nS at h;split at h
  ·rename_i c d e f;rcases bM.1 a with rfl|a
   ·rcases(qV e).1 with h3|h3
    ·exact S0 h3
    ·exact h3.2
   ·exact Jl f o a
  ·cases h
theorem AC.ops{J:Bool}{I:List Nat}{cs:List CO}{Q:Exit→Fr→List aa→Prop}{fr:Fr}{s:List aa}(h:bK P cs (qH J I Q) [] fr s):AC P N rd (.ops J I cs) Q fr s:=by
 obtain⟨V,fr',G,hk,ha⟩:=rW h;rw[List.reverse_nil,bm]at hk;obtain⟨O,W⟩:=hk;refine⟨.normal,fr',G,W,?_⟩;rintro c ⟨F,hc⟩;replace hc:comp P F N c=some (.ops J I cs):=hc;cases c with
 |region id ops K=>
  unfold comp at hc;split at hc
  ·rename_i n;obtain⟨l,U,C⟩:=bB hc;injection C with e1 e2 e3
   subst e1;subst e3;have S:=ha F ops ops.toList U;have E: ∀o∈ops,mn o=true:=fun o m=>Jl U o (by simpa using m);simp only[er,jf,rZ]at n;have z: ∀o∈ops,∀d,o.dst=some d→d<N:=fun o m d A=>by
    have:=rX.1 n.1 o m;simpa[A]using this
   intro B k a w r h0 L M R;have v: ∀(e:Exit) (H:Act) (w':World),uu (eu P) B N a.defers k w (fun e fr s=>e= .normal∧fr=fr'∧s=G) e H w'→Ends (eu P) N B k a.defers w .normal fr' G e H w':=by
    rintro e H w' ⟨_,_,k',⟨rfl,rfl,rfl⟩,q1,q2,q3,q4,q5⟩;exact⟨rfl,k',q1,Marks.same q2,q3,q4,q5⟩
   cases K with
   |false=>exact wpIn_mono (wpIn_region_list (a4i (Q:=fun e fr s=>e= .normal∧fr=fr'∧s=G) S ⟨rfl,rfl,rfl⟩ (fun o m=>z o (by simpa using m)) (fun o m=>E o (by simpa using m)) k a w L rfl M R (Ext.refl B k w))) v
   |true=>
    obtain⟨hm,m⟩:=n.2.resolve_left (by simp);simp only[if_true]at e2;subst e2;refine wpIn_mono (wpIn_region_any hm ?_) v;obtain⟨y,ss,ds,wt,t1,t2,t3,t4,t5,p,t7⟩:=a3I S;have g: ∀(i:Nat) (o:Oper),ops[i]?=some o→ops.toList[i]?=some o:=fun i o m=>by simpa using m
    have X:nO (eu P) P ops y ss ds wt (fun i=>V.getD i 0):=by
     have u: ∀(i:Nat) (hi:i<ops.size),ops.toList[i]?=some ops[i]:=fun i hi=>g i _ (mI hi);exact{
      guard:=fun i o m=>(p i o (g i o m)).1
      next:=fun i o m=>(p i o (g i o m)).2.1
      skip:=fun i o m=>(p i o (g i o m)).2.2.1
      free:=fun i o m=>(p i o (g i o m)).2.2.2.1
      step:=fun i o m=>(p i o (g i o m)).2.2.2.2.1
      reads:=fun i o m=>(p i o (g i o m)).2.2.2.2.2.2.1
      readsAt:=fun b i o m=>(p i o (g i o m)).2.2.2.2.2.2.2.2.1 b
      make:=fun i o m D=>(p i o (g i o m)).2.2.2.2.2.2.2.1 D
      setAt:=fun b i hi D=>(p i _ (u i hi)).2.2.2.2.2.2.2.2.2 b D
      still:=fun i hi D=>(p i _ (u i hi)).2.2.2.2.2.1 D
      off:=t7}
    subst t1;subst t2;subst t3;subst t4;have Z:(Array.replicate ops.size false).size=ops.size:=by simp
    have q: ∀i,(Array.replicate ops.size false).getD i false=false:=fun i=>by
     rw[u9,Array.getElem?_replicate];split<;>rfl
    refine a2G X (YO m (by simpa using t5) (O rfl)) z E (Q:=fun e fr s=>e= .normal∧fr=_∧s=_) ⟨rfl,by simp,by simp⟩ ops.size (Array.replicate ops.size false) (List.range ops.size) k a _ (by simp) (fun i hi _=>by simpa using hi) ?_
    refine⟨Z,fun j T=>(by rw[q]at T;cases T),L,rfl,Ext.drew B k w,fun t x Y=> ?_,0,0,_,bk _,by omega,fun i hi=>by omega,fun i _ _ _=>q i,fun i L M=>by omega,mN.refl ..,R.drew⟩;refine(FR.mono (Ext.drew B k w).mono M) t x ?_;rw[←Y,HI (ops:=ops) ds (y 0) _ t 0 ops.size a8 fun i _ _ _=>q i];rfl
  ·cases hc
 |seq a b=>unfold comp at hc;split at hc<;>cases hc
 |cond c a b=>unfold comp at hc;split at hc<;>cases hc
 |block id c=>unfold comp at hc;obtain⟨_,_,C⟩:=bB hc;cases C
 |loop c=>unfold comp at hc;obtain⟨_,_,C⟩:=bB hc;cases C
 |rangeFunc f ps a b=>
  unfold comp at hc;split at hc
  ·split at hc<;>cases hc
  ·cases hc
 |_=>cases hc
end
end Go.Bb
namespace Go.Bb
open Go Go.RowKit Go.Ab Go.Proofs.Lg
section
variable {P:Program} {N:Nat} {rd:Option Nat} {Q:Exit→Fr→List aa→Prop} {fr:Fr} {s:List aa}
theorem AC.mono{cc:CC}{a:Exit→Fr→List aa→Prop}(h:AC P N rd cc Q fr s)(b: ∀e fr s,Q e fr s→a e fr s):AC P N rd cc a fr s:=
 let⟨e,fr',d,q,c⟩:=h;⟨e,fr',d,b _ _ _ q,c⟩
theorem AC.frame{cc:CC}{fr0:Fr}(h:AC P N rd cc Q fr0 s)(a: ∀t x,look fr0 t=some x→look fr t=some x):AC P N rd cc Q fr s:=
 let⟨e,fr',d,q,b⟩:=h;⟨e,fr',d,q,fun c hc=>(b c hc).frame a⟩
theorem pZ{d:List Nat}{c:Code}{cc:CC}(h:comp P d N c=some cc):match cc with
  | .skip=>c= .skip∨ ∃l,c= .label l
  | .seq x y=> ∃a b,c= .seq a b∧comp P d N a=some x∧comp P d N b=some y
  | .cond p x y=> ∃q a b,c= .cond q a b∧cX P 0 q=some p∧comp P d N a=some x∧comp P d N b=some y
  | .block id x=> ∃a,c= .block id a∧comp P d N a=some x
  | .loop x=> ∃a,c= .loop a∧comp P d N a=some x
  | .exit id=>c= .exit id
  | .ret=>c= .ret
  | .rng n f ps x y=>n=N∧ ∃g m a b,c= .rangeFunc g m a b∧cX P 0 g=some f∧m.toList=ps∧comp P d N a=some x∧comp P d N b=some y∧m.all (fun t=>decide (t<N))=true
  | .ops _ _ _=>True
  | .trim _ _=>True:=by
 cases c with
 |skip=>simp[comp]at h;subst h;exact .inl rfl
 |label l=>simp[comp]at h;subst h;exact .inr ⟨l,rfl⟩
 |region id ops r=>
  unfold comp at h;split at h
  ·obtain⟨l,_,rfl⟩:=bB h;trivial
  ·cases h
 |seq a b=>
  unfold comp at h;split at h
  ·rename_i x y e i;obtain rfl:=aJ h;exact⟨a,b,rfl,e,i⟩
  ·cases h
 |cond p a b=>
  unfold comp at h;split at h
  ·rename_i u x y e i j;obtain rfl:=aJ h;exact⟨p,a,b,rfl,e,i,j⟩
  ·cases h
 |block id a=>unfold comp at h;obtain⟨x,k,rfl⟩:=bB h;exact⟨a,rfl,k⟩
 |loop a=>unfold comp at h;obtain⟨x,k,rfl⟩:=bB h;exact⟨a,rfl,k⟩
 |exit id=>simp[comp]at h;subst h;rfl
 |ret=>simp[comp]at h;subst h;rfl
 |rangeFunc f ps a b=>
  unfold comp at h;split at h
  ·rename_i s x y e i j;split at h
   ·rename_i o;obtain rfl:=aJ h;exact⟨rfl,f,ps,a,b,rfl,e,rfl,i,j,o⟩
   ·cases h
  ·cases h
 |scope a=>simp[comp]at h
 |goto l=>simp[comp]at h
 |refuse w=>simp[comp]at h
theorem AC.skip(h:Q .normal fr s):AC P N rd .skip Q fr s:=⟨_,_,_,h,fun c ⟨e,hc⟩=>by
 rcases pZ hc with rfl|⟨l,rfl⟩
 ·exact fun _ _ _ _ _ _ a b d=>wpIn_skip (Ends.now a b d)
 ·exact fun _ _ _ _ _ _ a b d=>wpIn_label (Ends.now a b d)⟩
theorem AC.exit{id:Nat}(h:Q (.exit id) fr s):AC P N rd (.exit id) Q fr s:=⟨_,_,_,h,fun c ⟨e,hc⟩=>by
 obtain rfl:c= .exit id:=pZ hc;exact fun _ _ _ _ _ _ a b d=>wpIn_exit (Ends.now a b d)⟩
theorem AC.ret(h:Q .ret fr s):AC P N rd .ret Q fr s:=⟨_,_,_,h,fun c ⟨e,hc⟩=>by
 obtain rfl:c= .ret:=pZ hc;exact fun _ _ _ _ _ _ a b d=>wpIn_ret (Ends.now a b d)⟩
theorem AC.seq{x y:CC}(h:AC P N rd x (fO (AC P N rd y Q) Q) fr s):AC P N rd (.seq x y) Q fr s:=by
 obtain⟨e,f,n,j,k⟩:=h;by_cases i:e= .normal
 ·subst i;obtain⟨l,g,s2,m,r2⟩:=j;refine⟨l,g,s2,m,fun c ⟨d,hc⟩=> ?_⟩;obtain⟨a,b,rfl,ha,hb⟩:=pZ hc;exact(k a ⟨d,ha⟩).seq (r2 b ⟨d,hb⟩)
 ·refine⟨e,f,n,?_,fun c ⟨d,hc⟩=> ?_⟩
  ·cases e with
   |normal=>exact absurd rfl i
   |_=>exact j
  ·obtain⟨a,b,rfl,ha,hb⟩:=pZ hc;exact(k a ⟨d,ha⟩).seqX i
theorem AC.cond{p:X}{x y:CC}{v:Bool}(hp:(p.ev fr).bind AV.bool? =some v)(h:AC P N rd (if v then x else y) Q fr s):AC P N rd (.cond p x y) Q fr s:=by
 obtain⟨e,g,F,E,A⟩:=h;refine⟨e,g,F,E,fun c ⟨d,hc⟩=> ?_⟩;obtain⟨q,a,b,rfl,l,ha,hb⟩:=pZ hc;intro B k f w r n o i z;obtain⟨G,m,j⟩:=aT hp;have C:f.eval q= .bool v:=(F5 l m fun u y e D=>i u y D).sc_eq (AV.bool_sc j);refine wpIn_cond (t:=v) C ?_;cases v with
 |true=>exact A a ⟨d,ha⟩ B k f w r n o i z
 |false=>exact A b ⟨d,hb⟩ B k f w r n o i z
theorem AC.block{id:Nat}{x:CC}(h:AC P N rd x (lM id Q) fr s):AC P N rd (.block id x) Q fr s:=by
 obtain⟨e,d,u,j,t⟩:=h;rw[EG]at j;refine⟨_,d,u,j,fun c ⟨i,hc⟩=> ?_⟩;obtain⟨a,rfl,ha⟩:=pZ hc;intro B k l w r n o p q;refine wpIn_block (wpIn_mono (t a ⟨i,ha⟩ B k l w r n o p q) ?_);rintro m v w' ⟨rfl,g⟩;cases m with
 |exit b=>
  show if b=id then _ else _;by_cases e:b=id
  ·have f:wF id (.exit b)= .normal:=if_pos e;rw[if_pos e,f];exact⟨rfl,g⟩
  ·have f:wF id (.exit b)= .exit b:=if_neg e;rw[if_neg e,f];exact⟨rfl,g⟩
 |_=>exact⟨rfl,g⟩
inductive um(P:Program)(N:Nat)(rd:Option Nat)(x:CC)(e:Exit)(fr':Fr)(s':List aa):Fr→List aa→Prop
 |last {fr fr0:Fr} {s:List aa}:(∀t y,look fr0 t=some y→look fr t=some y)→e≠ .normal→EM P N rd x fr0 s e fr' s'→um P N rd x e fr' s' fr s
 |more {fr fr0 fr1:Fr} {s s1:List aa}:(∀t y,look fr0 t=some y→look fr t=some y)→EM P N rd x fr0 s .normal fr1 s1→um P N rd x e fr' s' fr1 s1→um P N rd x e fr' s' fr s
theorem um.tr{x:CC}{e:Exit}{fr':Fr}{d:List aa}(h:um P N rd x e fr' d fr s){c:Code}(hc:eu P N c x): ∃n,qF (eu P) P N rd c e fr' d n fr s:=by
 induction h with
 |last a f b=>exact⟨0,.last f ((b c hc).frame a)⟩
 |more a b _ i=>obtain⟨n,g⟩:=i;exact⟨n+1,.more ((b c hc).frame a) g⟩
def Sub(fr' fr:Fr):Prop:= ∀t x,look fr' t=some x→look fr t=some x
theorem Sub.refl(fr:Fr):Sub fr fr:=fun _ _ h=>h
theorem Sub.nil(fr:Fr):Sub [] fr:=fun _ _ h=>by cases h
theorem Sub.cons{fr' fr:Fr}{t:Nat}{x:AV}(h:look fr t=some x)(b:Sub fr' fr):Sub ((t,x)::fr') fr:=fun u y a=>by
 unfold look at a;split at a
 ·rename_i e;subst e;obtain rfl:=aJ a;exact h
 ·exact b u y a
def dY(keep:List Nat)(fr:Fr):Fr:=keep.filterMap fun t=>(look fr t).map fun x=>(t,x)
theorem E7(keep:List Nat)(fr:Fr):Sub (dY keep fr) fr:=by
 induction keep with
 |nil=>exact Sub.nil fr
 |cons t l a=>
  unfold dY;rw[List.filterMap_cons];cases h:look fr t with
  |none=>exact a
  |some x=>exact Sub.cons h a
theorem AC.trim{keep:List Nat}{x:CC}(h:AC P N rd x Q (dY keep fr) s):AC P N rd (.trim keep x) Q fr s:=
 let⟨e,fr',b,q,a⟩:=h;⟨e,fr',b,q,fun c hc=>(a c hc).frame (E7 keep fr)⟩
def I5(body:(Exit→Fr→List aa→Prop)→Fr→List aa→Prop)(Q:Exit→Fr→List aa→Prop)(fr:Fr)(s:List aa):Prop:=
 ∃(b:Nat→Fr→List aa→Prop),(∃m fr0,Sub fr0 fr∧b m fr0 s)∧ ∀m fr s,b m fr s→body (fO (fun fr' d=> ∃c a,c<m∧Sub a fr'∧b c a d) Q) fr s
theorem AC.loop{x:CC}(d:Nat→Fr→List aa→Prop){m:Nat}{fr0:Fr}(A:Sub fr0 fr)(y:d m fr0 s)(h: ∀m fr s,d m fr s→AC P N rd x (fO (fun fr' i=> ∃l b,l<m∧Sub b fr'∧d l b i) Q) fr s):AC P N rd (.loop x) Q fr s:=by
 have key: ∀m fr0 fr s,Sub fr0 fr→d m fr0 s→ ∃e fr' i,Q e fr' i∧um P N rd x e fr' i fr s:=by
  intro m
  induction m using Nat.strongRecOn with
  |_ m C=>
   intro fr0 fr s f hi;obtain⟨e,j,v,k,u⟩:=h m fr0 s hi;by_cases p:e= .normal
   ·subst p;obtain⟨l,b,r,g,q⟩:=k;obtain⟨w,o,s2,D,t2⟩:=C l r b j v g q;exact⟨w,o,s2,D,.more f u t2⟩
   ·refine⟨e,j,v,?_,.last f p u⟩;cases e with
    |normal=>exact absurd rfl p
    |_=>exact k
 obtain⟨e,fr',i,k,B⟩:=key m fr0 fr s A y;refine⟨e,fr',i,k,fun c ⟨t,hc⟩=> ?_⟩;obtain⟨a,rfl,ha⟩:=pZ hc;obtain⟨n,z⟩:=B.tr ⟨t,ha⟩;exact z.runs
theorem G2{B:Nat}{k:aU}{w:World}{d:Nat→Code→CC→Prop}(c:St d B k s w){id b:Nat}{l l':je}{r r':Loop}(p:s[id]?=some (.loop l))(hb:k.own[id]?=some (.blk b))(i:w.heap[b]?=some (.loop r))(o:k.I b=0)
  (hm:Mono k w k (w.putObj b (.loop r'))→uk d k (w.putObj b (.loop r')) l' r'):Mono k w k (w.putObj b (.loop r'))∧Ext B k w k (w.putObj b (.loop r'))∧St d B k (s.set id (.loop l')) (w.putObj b (.loop r')):=by
 have h:=sF i;have a:=c.lies id _ b hb rfl;have hk:iz k.I w k.I (w.putObj b (.loop r')):=fun m q u t hc=>⟨t,by
  have hne:m≠b:=by rintro rfl;unfold World.cell? at hc;rw[i]at hc;cases hc
  exact(uy (w:=w) (World.putObj_heap_other hne)).trans hc⟩
 have g:Below B w (w.putObj b (.loop r')):=⟨rfl,rfl,rfl,by simp,fun j v=>World.putObj_heap_other a8⟩
 refine⟨rn hk,c.upd (k':=k) hb (.loop l') (ql hb) (dJ.refl _) hk g (fun n f=>by cases f;exact⟨.inl rfl,by simpa using a.2,a.1⟩)
  (fun n _ hne=>⟨World.putObj_heap_other (fun e=>hne (by rw[e];rfl)),rfl⟩) ⟨r',World.putObj_heap_same h,hm (rn hk),o⟩⟩
def mL(Q:Exit→Fr→List aa→Prop)(fr:Fr)(i:Nat)(a:List aa):Prop:=match a[i]? with
 |some (.loop l)=>l.st≠ .busy∧(match l.pend with
  |none=>Q .normal fr (a.set i (.loop {l with st:= .exhausted}))
  |some .ret=>Q .ret fr (a.set i (.loop {l with st:= .exhausted}))
  |some (.exit id)=>Q (.exit id) fr (a.set i (.loop {l with st:= .exhausted})))
 |_=>False
def Qy(s:List aa):Option Nat→Prop
 |none=>True
 |some id=> ∃l,s[id]?=some (.loop l)
def sj(P:Program)(b:Option Nat)(n:Nat)(f:X)(ps:List Nat)(x y:CC)(Q:Exit→Fr→List aa→Prop)(fr:Fr)(s:List aa):Prop:=
 Qy s b∧ ∃g a cs,f.ev fr=some (.clo g a cs)∧lN (eu P) P (.clo g a cs) [.yld s.length] (s++[.loop ⟨.ready,none,fr,ps,n,x,y⟩]) fun _ c=>mL Q fr s.length c
theorem AC.rng{n:Nat}{f:X}{ps:List Nat}{x y:CC}(h:sj P rd n f ps x y Q fr s):AC P N rd (.rng n f ps x y) Q fr s:=by
 obtain⟨b7,g,fs,cs,hf,d,s',L,j⟩:=h;unfold mL at j;split at j
 ·rename_i l hl;obtain⟨M,j⟩:=j;obtain⟨e,hq,he⟩: ∃e,Q e fr (s'.set s.length (.loop {l with st:= .exhausted}))∧((l.pend=none∧e= .normal)∨(l.pend=some .ret∧e= .ret)∨ ∃id,l.pend=some (.exit id)∧e= .exit id):=by
   split at j
   ·rename_i hp;exact⟨_,j,.inl ⟨hp,rfl⟩⟩
   ·rename_i hp;exact⟨_,j,.inr (.inl ⟨hp,rfl⟩)⟩
   ·rename_i id hp;exact⟨_,j,.inr (.inr ⟨id,hp,rfl⟩)⟩
  refine⟨e,fr,_,hq,?_⟩;rintro c ⟨b0,hc⟩;obtain⟨rfl,T,qs,ca,cb,rfl,hg,b6,ha,hb,c2⟩:=pZ hc;intro B k a w r h0 h1 h2 U;refine wpIn_rangeFunc fun H _=> ?_;rw[yS]
  have a9: ∃(p:Nat) (G:List Nat) (C:World) (A:Loop),(Instr.enterLoop H a.tmps qs ca cb r).run P w= .ok (p,G.map mark) C∧Below w.heap.size w C∧C.heap[p]?=some (.loop A)∧w.heap.size≤p∧A.state= .ready∧A.pending=none∧A.tmps=a.tmps∧A.params=qs∧A.assign=ca∧A.body=cb∧
    G.Nodup∧ ∀m∈G,w.heap.size≤m∧m≠p∧C.heap[m]?=some (.deferred (some [])):=by
   cases r with
   |none=>
    have hr:=run_enterLoop_outer (P:=P) (w:=w) H a.tmps qs ca cb
    refine⟨w.heap.size+1,[w.heap.size],_,_,hr,((Below.refl _ _).alloc (bk _) _).alloc (by simp) _,by have:=World.alloc_heap_new (w.alloc (.deferred (some []))) (.loop {state:= .ready,pending:=none,fn:=H,tmps:=a.tmps,params:=qs,assign:=ca,body:=cb,defers:=w.heap.size});simpa using this,by omega,rfl,rfl,rfl,rfl,rfl,rfl,by simp,fun m hm=> ?_⟩;obtain rfl:m=w.heap.size:=by simpa using hm
    refine⟨bk _,by omega,?_⟩;rw[Below.heap_alloc _ _ _ (by simp)];exact World.alloc_heap_new w _
   |some l0=>
    cases rd with
    |none=>exact h0.elim
    |some id=>
     obtain⟨al,b1⟩:=b7;obtain⟨b,r0,S,g2,_⟩:=U.loop b1;have:k.own[id]?=some (.blk l0):=h0;rw[this]at S;cases S;exact⟨w.heap.size,[],_,_,run_enterLoop_inner g2 H a.tmps qs ca cb,(Below.refl _ _).alloc (bk _) _,World.alloc_heap_new w _,bk _,rfl,rfl,rfl,rfl,rfl,rfl,List.nodup_nil,fun m hm=>by cases hm⟩
  obtain⟨p,G,C,A,Y,V,a2,a0,r1,r2,r3,r4,r5,r6,b5,b4⟩:=a9;have a3:=sF a2;have hI: ∀b,b<w.heap.size→dG k.I p 0 b=k.I b:=fun b hb=>gW _ _ a8;have Z:Ext B k w ⟨dG k.I p 0,k.own++[.blk p]⟩ C:=Ext.new U.base V hI _ fun b hb=>by cases hb;exact a0
  obtain⟨J,b8⟩:=U.new V hI (.blk p) (.loop ⟨.ready,none,fr,ps,n,x,y⟩) (fun b hb=>by cases hb;exact⟨a0,a3⟩)
   ⟨A,a2,⟨r1,by rw[r2];rfl,by rw[r3];exact h1,fun t z hz=>by rw[r3];exact(h2 t z hz).mono Z.mono,by rw[r4];exact b6,by rw[r5];exact⟨b0,ha⟩,by rw[r6];exact⟨b0,hb⟩⟩,fI ..⟩
  have b3:RA k w (a.eval T) (.clo g fs cs):=F5 hg hf fun u y e hl=>h2 u y hl;obtain⟨us,vs,R,b9,c0⟩:=b3.clo_inv;have F:(k.own++[.blk p])[s.length]?=some (.blk p):=by rw[←U.len];simp
  have c1:fW ⟨dG k.I p 0,k.own++[.blk p]⟩ C [Value.func (.yield p) #[] #[]] [.yld s.length]:=⟨rfl,fun i u c hu hc=>by
   match i with
   |0=>simp at hu hc;subst hu;subst hc;exact .yld F
   |i+1=>simp at hu⟩
  have hcalls:=L.calls B _ C (us++[Value.func (.yield p) #[] #[]]++vs) b8 (((b9.mono J.mono).append c1).append (c0.mono J.mono));have W:(FW r).depth.isSome=true→1≤0:=fun hh=>by rw[HY]at hh;cases hh
  have a5:(resolve a.eval (rangeCall T p) 0).run P C= .ok {target:= .fn (.func g) vs.toArray,args:=us.toArray++ #[Value.func (.yield p) #[] #[]]} C:=by
   simp only[resolve,rangeCall];rw[R];simp[Deferred.ofValue,Act.eval,bZ,bF,bL]
  have a1:(invoke (.fn (.func g) vs.toArray) (us.toArray++ #[Value.func (.yield p) #[] #[]])).run P C= .ok (.enter g (us++[Value.func (.yield p) #[] #[]]++vs).toArray) C:=by
   have:us.toArray++ #[Value.func (.yield p) #[] #[]]++vs.toArray=(us++[Value.func (.yield p) #[] #[]]++vs).toArray:=by simp
   simp only[invoke];rw[this];exact L.enters _ C
  refine⟨p,G.map mark,C,{target:= .fn (.func g) vs.toArray,args:=us.toArray++ #[Value.func (.yield p) #[] #[]]},C,g,(us++[Value.func (.yield p) #[] #[]]++vs).toArray,C,Y,a5,fun f' _=>uc r f',a1,W,J1 (Calls.mono hcalls ?_)⟩
  ·rintro e' w3 ⟨v,k2,rfl,hv,E,a6⟩;obtain⟨b,D,S,g2,g3,gI⟩:=a6.loop hl;have b2:b=p:=by
    have:=dJ.blk' E.mono F;rw[this]at S;cases S;rfl
   subst b2;obtain⟨q1,q2,q3,q4,q5,q6,q7⟩:=g3;obtain⟨m1,m2,m3⟩:=G2 a6 (l':={l with st:= .exhausted}) (r':={D with state:= .exhausted}) hl S g2 gI fun hm=>⟨rfl,q2,q3,fun t z hz=>(q4 t z hz).mono hm,q5,q6,q7⟩
   have O:=run_endLoop (P:=P) g2 (by rw[q1];exact M);have hmarks:Marks w (w3.putObj b (.loop {D with state:= .exhausted})) k2 a.defers (G.map mark++a.defers):=by
    refine⟨G,rfl,b5,fun m hm=> ?_⟩;obtain⟨p1,p2,p3⟩:=b4 m hm;have a7:pV ⟨dG k.I b 0,k.own++[.blk b]⟩ m:=fun id o ho a4=>by
     rcases qd ho with ho2|⟨_,rfl⟩
     ·have:=(U.lies id o m ho2 a4).2;omega
     ·cases a4;exact p2 rfl
    have K:=sF p3;refine⟨p1,?_,E.unowned K a7⟩;rw[World.putObj_heap_other p2,E.rest m K a7];exact p3
   have q: ∃k',({a with defers:=G.map mark++a.defers}:Act).tmps.size=n∧Marks w (w3.putObj b (.loop {D with state:= .exhausted})) k' a.defers (G.map mark++a.defers)∧Ext B k w k' (w3.putObj b (.loop {D with state:= .exhausted}))∧FR k' (w3.putObj b (.loop {D with state:= .exhausted})) {a with defers:=G.map mark++a.defers} fr∧St (eu P) B k' (s'.set s.length (.loop {l with st:= .exhausted})) (w3.putObj b (.loop {D with state:= .exhausted})):=
    ⟨k2,h1,hmarks,(J.trans E).trans m2,fun t z hz=>(((h2 t z hz).mono J.mono).mono E.mono).mono m1,m3⟩
   refine⟨D.pending,_,O,?_⟩;rcases he with⟨hp,rfl⟩|⟨hp,rfl⟩|⟨id,hp,rfl⟩
   ·rw[q2,hp]at q⊢;exact⟨rfl,q⟩
   ·rw[q2,hp]at q⊢;exact wpIn_ret ⟨rfl,q⟩
   ·rw[q2,hp]at q⊢;exact wpIn_exit ⟨rfl,q⟩
 ·exact j.elim
end
end Go.Bb
namespace Go.Bb
open Go Go.RowKit Go.Ab Go.Proofs.Lg
theorem mL.mono{Q c:Exit→Fr→List aa→Prop}{fr:Fr}{i:Nat}{s:List aa}(h:mL Q fr i s)(b: ∀e fr s,Q e fr s→c e fr s):mL c fr i s:=by
 unfold mL at h⊢;split at h
 ·refine⟨h.1,?_⟩;have a:=h.2;split at a
  ·exact b _ _ _ a
  ·exact b _ _ _ a
  ·exact b _ _ _ a
 ·exact h
theorem sj.mono{P:Program}{b:Option Nat}{n:Nat}{f:X}{ps:List Nat}{x y:CC}{Q a:Exit→Fr→List aa→Prop}{fr:Fr}{s:List aa}(h:sj P b n f ps x y Q fr s)(k: ∀e fr s,Q e fr s→a e fr s):sj P b n f ps x y a fr s:=
 let⟨d,g,c,cs,i,j⟩:=h;⟨d,g,c,cs,i,j.mono fun _ _ h=>h.mono k⟩
def cF(P:Program)(d:Option Nat):CC→(Exit→Fr→List aa→Prop)→Fr→List aa→Prop
 | .skip,Q,fr,s=>Q .normal fr s
 | .ops dr bf l,Q,fr,s=>bK P l (qH dr bf Q) [] fr s
 | .seq a b,Q,fr,s=>cF P d a (fO (cF P d b Q) Q) fr s
 | .cond c a b,Q,fr,s=>match(c.ev fr).bind AV.bool? with
  |some v=>mK v (cF P d b Q fr s) (cF P d a Q fr s)
  |none=>False
 | .block id c,Q,fr,s=>cF P d c (lM id Q) fr s
 | .loop c,Q,fr,s=>I5 (cF P d c) Q fr s
 | .exit id,Q,fr,s=>Q (.exit id) fr s
 | .ret,Q,fr,s=>Q .ret fr s
 | .rng n f ps x y,Q,fr,s=>sj P d n f ps x y Q fr s
 | .trim keep c,Q,fr,s=>cF P d c Q (dY keep fr) s
theorem Ey{P:Program}: ∀{l:List CO} {K f:Fr→List aa→List Nat→Prop} (_: ∀fr s g,K fr s g→f fr s g) {a:List Nat} {fr:Fr} {s:List aa},bK P l K a fr s→bK P l f a fr s
 |[],K,f,hk,a,fr,s,h=>hk _ _ _ h
 |o::l,K,f,hk,a,fr,s,h=>by
  unfold bK at h⊢;split at h
  ·exact h
  ·rename_i b hb;refine⟨fun e=>Ey hk (h.1 e),fun e=> ?_⟩;have c:=h.2 e;split at c
   ·split at c
    ·exact c.mono fun _ _ _ h=>Ey hk h
    ·exact c
   ·split at c
    ·rename_i d j i;exact Ey hk c
    ·exact c
theorem mG{P:Program}{k:Option Nat}: ∀{c:CC} {Q d:Exit→Fr→List aa→Prop} {fr:Fr} {s:List aa},cF P k c Q fr s→(∀e fr s,Q e fr s→d e fr s)→cF P k c d fr s
 | .skip,Q,d,fr,s,h,hq=>hq _ _ _ h
 | .ops dr bf l,Q,d,fr,s,h,hq=>Ey (fun _ _ _ h=>⟨h.1,hq _ _ _ h.2⟩) h
 | .seq a b,Q,d,fr,s,h,hq=>mG (c:=a) h fun e fr s g=>by
   cases e with
   |normal=>exact mG (c:=b) g hq
   |_=>exact hq _ _ _ g
 | .cond c a b,Q,d,fr,s,h,hq=>by
  unfold cF at h⊢;split at h
  ·exact⟨fun e=>mG (h.1 e) hq,fun e=>mG (h.2 e) hq⟩
  ·exact h
 | .block id c,Q,d,fr,s,h,hq=>mG (c:=c) h fun e fr s g=>by
   rw[EG]at g⊢;exact hq _ _ _ g
 | .loop c,Q,d,fr,s,h,hq=>by
  obtain⟨i,o,g⟩:=h;refine⟨i,o,fun m fr s hi=>mG (g m fr s hi) fun e fr s j=> ?_⟩;cases e with
  |normal=>exact j
  |_=>exact hq _ _ _ j
 | .exit id,Q,d,fr,s,h,hq=>hq _ _ _ h
 | .ret,Q,d,fr,s,h,hq=>hq _ _ _ h
 | .rng n f ps x y,Q,d,fr,s,h,hq=>sj.mono h hq
 | .trim keep c,Q,d,fr,s,h,hq=>mG (c:=c) h hq
def aZ(P:Program)(a:Option Nat)(c:CC)(Q:Exit→Fr→List aa→Prop)(fr:Fr)(s:List aa):Prop:=I5 (cF P a c) Q fr s
def s6(P:Program)(l:List CO)(K:Fr→List aa→List Nat→Prop)(a:List Nat)(fr:Fr)(dst:Option Nat)(d:AV)(s:List aa)(b:Nat):Prop:=bK P l K (b::a) (dC fr dst d) s
section
variable (P:Program) (rd:Option Nat) (Q:Exit→Fr→List aa→Prop) (fr:Fr) (s:List aa)
theorem PB:cF P rd .skip Q fr s=Q .normal fr s:=propext dp
theorem Py(b:Bool)(a:List Nat)(l:List CO):cF P rd (.ops b a l) Q fr s=bK P l (qH b a Q) [] fr s:=propext dp
theorem PA(a b:CC):cF P rd (.seq a b) Q fr s=cF P rd a (fO (cF P rd b Q) Q) fr s:=propext dp
theorem Pv(c:X)(a b:CC):cF P rd (.cond c a b) Q fr s=match(c.ev fr).bind AV.bool? with
 |some v=>mK v (cF P rd b Q fr s) (cF P rd a Q fr s)
 |none=>False:=propext dp
theorem Pu(id:Nat)(c:CC):cF P rd (.block id c) Q fr s=cF P rd c (lM id Q) fr s:=propext dp
theorem Px(c:CC):cF P rd (.loop c) Q fr s=aZ P rd c Q fr s:=propext dp
theorem Pw(id:Nat):cF P rd (.exit id) Q fr s=Q (.exit id) fr s:=propext dp
theorem Pz:cF P rd .ret Q fr s=Q .ret fr s:=propext dp
theorem HO(n:Nat)(f:X)(ps:List Nat)(x y:CC):cF P rd (.rng n f ps x y) Q fr s=sj P rd n f ps x y Q fr s:=propext dp
theorem Ps(K:Fr→List aa→List Nat→Prop)(a:List Nat):bK P [] K a fr s=K fr s a.reverse:=propext dp
theorem PQ(l:List CO)(K:Fr→List aa→List Nat→Prop)(a:List Nat)(dst:Option Nat)(d:AV)(b:Nat):s6 P l K a fr dst d s b=bK P l K (b::a) (dC fr dst d) s:=propext dp
theorem Pr(o:CO)(l:List CO)(K:Fr→List aa→List Nat→Prop)(a:List Nat):bK P (o::l) K a fr s=match ki fr o.g with
 |none=>False
 |some b=>mK b (bK P l K (0::a) (dC fr o.dst mC) s) (match o.ci with
  | .call c xs=>match oX fr c,j4 fr xs with
   |some cv,some vs=>aq P cv vs s (s6 P l K a fr o.dst)
   |_,_=>False
  |ci=>match ci.sem fr s with
   |some (d,s')=>bK P l K (ci.mark fr::a) (dC fr o.dst d) s'
   |none=>False):=propext dp
end
theorem aZ.intro{P:Program}{e:Option Nat}{c:CC}{Q:Exit→Fr→List aa→Prop}{fr:Fr}{s:List aa}(a:Nat→Fr→List aa→Prop)(m:Nat)(fr0:Fr)(g:Sub fr0 fr)(f:a m fr0 s)
 (h: ∀m fr s,a m fr s→cF P e c (fO (fun fr' i=> ∃d b,d<m∧Sub b fr'∧a d b i) Q) fr s):aZ P e c Q fr s:=⟨a,⟨m,fr0,g,f⟩,h⟩
def lU:Fr→Fr→Prop
 |[],_=>True
 |(t,x)::r,fr=>look fr t=some x∧lU r fr
theorem lU.sub: ∀{r fr:Fr},lU r fr→Sub r fr
 |[],fr,_=>Sub.nil fr
 |(_,_)::_,_,h=>Sub.cons h.1 (lU.sub h.2)
theorem aZ.at{P:Program}{g:Option Nat}{c:CC}{Q:Exit→Fr→List aa→Prop}{fr:Fr}{s:List aa}{β:Type}(F:β→Fr)(S:β→List aa)(I:Nat→β→Prop)(m:Nat)(b:β)(q:lU (F b) fr)(p:s=S b)(j:I m b)
  (h: ∀m b,I m b→cF P g c (fO (fun fr' i=> ∃d a,d<m∧lU (F a) fr'∧i=S a∧I d a) Q) (F b) (S b)):aZ P g c Q fr s:=by
 refine aZ.intro (fun m fr s=> ∃b,fr=F b∧s=S b∧I m b) m (F b) q.sub ⟨b,rfl,p,j⟩ ?_;rintro m _ _ ⟨b,rfl,rfl,hi⟩;refine mG (h m b hi) fun e fr' i f=> ?_;cases e with
 |normal=>obtain⟨d,a,k,l,n,o⟩:=f;exact⟨d,F a,k,l.sub,a,rfl,n,o⟩
 |_=>exact f
theorem bD{P:Program}{N:Nat}{h:Option Nat}: ∀{cc:CC} {Q:Exit→Fr→List aa→Prop} {fr:Fr} {s:List aa},cF P h cc Q fr s→AC P N h cc Q fr s
 | .skip,Q,fr,s,hw=>AC.skip hw
 | .ops dr bf l,Q,fr,s,hw=>AC.ops hw
 | .seq a b,Q,fr,s,hw=>AC.seq ((bD (cc:=a) hw).mono fun e fr' o g=>by
   cases e with
   |normal=>exact bD (cc:=b) g
   |_=>exact g)
 | .cond c a b,Q,fr,s,hw=>by
  unfold cF at hw;split at hw
  ·rename_i v k;refine AC.cond k ?_;cases v with
   |true=>exact bD (hw.2 rfl)
   |false=>exact bD (hw.1 rfl)
  ·exact hw.elim
 | .block id c,Q,fr,s,hw=>AC.block (bD (cc:=c) hw)
 | .loop c,Q,fr,s,hw=>by
  obtain⟨d,⟨m,fr0,j,i⟩,hround⟩:=hw;exact AC.loop d j i fun m fr s hi=>bD (hround m fr s hi)
 | .exit id,Q,fr,s,hw=>AC.exit hw
 | .ret,Q,fr,s,hw=>AC.ret hw
 | .rng n f ps x y,Q,fr,s,hw=>AC.rng hw
 | .trim keep c,Q,fr,s,hw=>AC.trim (bD (cc:=c) hw)
def putL:Fr→List (Nat×AV)→Fr
 |fr,[]=>fr
 |fr,(t,x)::l=>putL (dC fr (some t) x) l
def mV(id:Nat)(K:AV→List aa→Prop)(e:Exit)(s:List aa):Prop:=match s[id]? with
 |some (.loop l)=>match e with
  | .normal=>K (.d (.sc (.bool true))) (s.set id (.loop {l with st:= .ready,pend:=none}))
  | .ret=>K (.d (.sc (.bool false))) (s.set id (.loop {l with st:= .done,pend:=some .ret}))
  | .exit t=>K (.d (.sc (.bool false))) (s.set id (.loop {l with st:= .done,pend:=some (.exit t)}))
  |_=>False
 |_=>False
def kN(id:Nat)(K:List aa→Prop)(s:List aa):Prop:=match s[id]? with
 |some (.loop l)=>l.st= .ready∧K (s.set id (.loop {l with st:= .busy}))
 |_=>False
def iD(P:Program)(id:Nat)(xs:List AV)(s:List aa)(K:AV→List aa→Prop):Prop:=match s[id]? with
 |some (.loop l)=>xs.length=l.ps.length∧l.ps.all (fun t=>decide (t<l.N))=true∧
  cF P (some id) l.ca (fO (fun fr s=>kN id (cF P (some id) l.cb (fun e _ s=>mV id K e s) fr) s) fun _ _ _=>False) (putL l.fr (l.ps.zip xs)) s
 |_=>False
def ze(P:Program)(id:Nat)(xs:List AV)(s:List aa)(K:AV→List aa→Prop):Prop:=match s[id]? with
 |some (.loop l)=>xs.length=l.ps.length∧l.ps.all (fun t=>decide (t<l.N))=true∧
  AC P l.N (some id) l.ca (fO (fun fr s=>kN id (AC P l.N (some id) l.cb (fun e _ s=>mV id K e s) fr) s) fun _ _ _=>False) (putL l.fr (l.ps.zip xs)) s
 |_=>False
theorem kN.mono{id:Nat}{K a:List aa→Prop}{s:List aa}(h:kN id K s)(hk: ∀s,K s→a s):kN id a s:=by
 unfold kN at h⊢;split at h
 ·exact⟨h.1,hk _ h.2⟩
 ·exact h
theorem iD.toA{P:Program}{id:Nat}{xs:List AV}{s:List aa}{K:AV→List aa→Prop}(h:iD P id xs s K):ze P id xs s K:=by
 unfold iD at h;unfold ze;split at h
 ·refine⟨h.1,h.2.1,(bD h.2.2).mono fun e fr s a=> ?_⟩;cases e with
  |normal=>exact kN.mono a fun s h=>bD h
  |_=>exact a
 ·exact h
theorem FR.putL{k:aU}{w:World}{N:Nat}: ∀{ps:List Nat} {vs:List Value} {xs:List AV} {ts:Array Value} {fr:Fr},ts.size=N→(∀p∈ps,p<N)→(∀(i:Nat) (v:Value) (x:AV),vs[i]?=some v→xs[i]?=some x→RA k w v x)→vs.length=ps.length→xs.length=ps.length→
  (∀t x,look fr t=some x→RA k w (ts.getD t undef) x)→
  ((ps.zip vs).foldl (fun ts (t,v)=>ts.setIfInBounds t v) ts).size=N∧ ∀t x,look (Bb.putL fr (ps.zip xs)) t=some x→RA k w (((ps.zip vs).foldl (fun ts (t,v)=>ts.setIfInBounds t v) ts).getD t undef) x
 |[],vs,xs,ts,fr,hN,_,_,_,_,hf=>⟨hN,hf⟩
 |p::ps,v::vs,x::xs,ts,fr,hN,hp,hv,h1,h2,hf=>by
  refine FR.putL (ps:=ps) (vs:=vs) (xs:=xs) (ts:=ts.setIfInBounds p v) (fr:=dC fr (some p) x) (by simpa using hN) (fun q d=>hp q (by simp[d])) (fun i v x h c=>hv (i+1) v x (by simpa using h) (by simpa using c)) (by simpa using h1) (by simpa using h2) fun t y a=> ?_;have b:p<ts.size:=by rw[hN];exact hp p (by simp)
  rw[Lk]at a;rw[u9,Array.getElem?_setIfInBounds];by_cases e:p=t
  ·subst e;simp at a;subst a;simp[b];exact hv 0 v x rfl rfl
  ·rw[if_neg (fun h=>e (aJ h))]at a;rw[if_neg e,←u9];exact hf t y a
 |_::_,[],_,_,_,_,_,_,h1,_,_=>by simp at h1
 |_::_,_::_,[],_,_,_,_,_,_,h2,_=>by simp at h2
theorem zf.of{P:Program}{id:Nat}{xs:List AV}{s:List aa}{K:AV→List aa→Prop}(h:ze P id xs s K): ∃d s',zf (eu P) P id xs s d s'∧K d s':=by
 unfold ze at h;split at h
 ·rename_i l hl;obtain⟨g,F,hw⟩:=h;obtain⟨e,Q,s1,Z,T⟩:=hw;cases e with
  |normal=>
   have o:kN id (AC P l.N (some id) l.cb (fun e _ s=>mV id K e s) Q) s1:=Z;unfold kN at o;split at o
   ·rename_i l1 G;obtain⟨I,W⟩:=o;obtain⟨O,a3,s2,f,U⟩:=W;unfold mV at f;split at f
    ·rename_i X H;obtain⟨j,hj,hK⟩: ∃j:Option nH,((O= .normal∧j=none)∨(O= .ret∧j=some .ret)∨ ∃t,O= .exit t∧j=some (.exit t))∧K (.d (.sc (.bool j.isNone))) (s2.set id (.loop {X with st:=if j.isNone then .ready else .done,pend:=j})):=by
      split at f
      ·exact⟨none,.inl ⟨rfl,rfl⟩,f⟩
      ·exact⟨some .ret,.inr (.inl ⟨rfl,rfl⟩),f⟩
      ·exact⟨some (.exit _),.inr (.inr ⟨_,rfl,rfl⟩),f⟩
      ·exact f.elim
     refine⟨_,_,?_,hK⟩;intro B k w vs b J y m;obtain⟨b',r,Y,g2,g3,gI⟩:=J.loop hl;rw[m]at Y;cases Y;obtain⟨q1,q2,q3,q4,q5,q6,q7⟩:=g3;have V:vs.toArray.size=r.params.size:=by
      have:r.params.toList.length=l.ps.length:=by rw[q5]
      simpa[y.1,g]using this.symm
     refine⟨_,_,_,_,run_yield g2 V,?_⟩;have M:(r.params.zip vs.toArray).foldl (fun tmps (t,a)=>tmps.setIfInBounds t a) r.tmps=(l.ps.zip vs).foldl (fun ts (t,v)=>ts.setIfInBounds t v) r.tmps:=by
      rw[←Array.foldl_toList];simp[q5]
     rw[M];obtain⟨f1,f2⟩:=FR.putL (k:=k) (w:=w) (N:=l.N) (ps:=l.ps) (vs:=vs) (xs:=xs) (ts:=r.tmps) (fr:=l.fr) q3 (fun p hp=>by simpa using jX.1 F p hp) y.2 (by rw[y.1,g]) g q4;refine roundIn_of_wpIn trivial (wpIn_mono (T r.assign q6 B k {tmps:=(l.ps.zip vs).foldl (fun ts (t,v)=>ts.setIfInBounds t v) r.tmps,defers:=[]} w (some b) m f1 f2 J) ?_)
     rintro e' a1 w1 ⟨rfl,k1,p1,p2,p3,p4,p5⟩;obtain⟨a0,r1,A,C,R,S⟩:=p5.loop G;have c:k1.own[id]?=some (.blk b):=dJ.blk' p3.mono m;rw[c]at A;cases A;obtain⟨t1,t2,t3,t4,t5,t6,t7⟩:=R;obtain⟨m1,m2,m3⟩:=G2 p5 (l':={l1 with st:= .busy}) (r':={r1 with state:= .busy}) G c C S fun hm=>⟨rfl,t2,t3,fun t z L=>(t4 t z L).mono hm,t5,t6,t7⟩
     refine⟨_,run_beginRound C (by rw[t1];exact I),?_⟩;refine wpIn_mono (U r.body q7 B k1 a1 _ (some b) c p1 (fun t z L=>(p4 t z L).mono m1) m3) ?_;rintro e3 a2 w2 ⟨rfl,k2,u1,u2,u3,u4,u5⟩;obtain⟨b3,r2,q,u,D,E⟩:=u5.loop H;have n:k2.own[id]?=some (.blk b):=dJ.blk' u3.mono c;rw[n]at q;cases q;obtain⟨y1,y2,y3,y4,y5,y6,y7⟩:=D
     have x: ∃v w',(Instr.endRound b (j.map nH.code)).run P w2= .ok v w'∧ ∃v' k',Ending.returned v=Ending.returned v'∧RA k' w' v' (.d (.sc (.bool j.isNone)))∧Ext B k w k' w'∧St (eu P) B k' (s2.set id (.loop {X with st:=if j.isNone then .ready else .done,pend:=j})) w':=by
      have i:(j.map nH.code).isNone=j.isNone:=by cases j<;>rfl
      obtain⟨z1,z2,z3⟩:=G2 u5 (l':={X with st:=if j.isNone then .ready else .done,pend:=j}) (r':={r2 with state:=if(j.map nH.code).isNone then .ready else .done,pending:=j.map nH.code}) H n u E fun hm=>⟨by rw[i],rfl,y3,fun t z L=>(y4 t z L).mono hm,y5,y6,y7⟩
      refine⟨_,_,run_endRound (j.map nH.code) u,.bool (j.map nH.code).isNone,k2,rfl,?_,((p3.trans m2).trans u3).trans z2,z3⟩;rw[i];exact .d (.sc _)
     rcases hj with⟨rfl,rfl⟩|⟨rfl,rfl⟩|⟨t,rfl,rfl⟩
     ·exact x
     ·exact x
     ·exact x
    ·exact f.elim
   ·exact o.elim
  |_=>exact Z.elim
 ·exact h.elim
inductive CR where
 |tmp (t:Nat)
 |cell (t:Nat) (n:Option Nat)
def cR(P:Program):ResultVar→Option CR
 | .tmp t=>some (.tmp t)
 | .cell t a=>(jS P a).map (.cell t)
def uE(P:Program):List ResultVar→Option (List CR)
 |[]=>some []
 |r::l=>match cR P r,uE P l with
  |some c,some cs=>some (c::cs)
  |_,_=>none
structure CF where
 n:Nat
 body:CC
 res:List CR
def CF.erase(F:CF):CF:=⟨F.n,F.body.erase,F.res⟩
def aN(P:Program)(a:List Nat)(f:FuncId):Option CF:=
 match P.funcs[f]? with
 |some fn=>match fn.body with
  |some c=>if fn.name== "runtime.NumGoroutine" then none else match comp P a fn.ntmps c,uE P fn.results.toList with
   |some cc,some rs=>some ⟨fn.ntmps,cc,rs⟩
   |_,_=>none
  |none=>none
 |none=>none
def tP(fr:Fr)(s:List aa):CR→Option AV
 | .tmp t=>look fr t
 | .cell t n=>(look fr t).bind fun v=>jQ (gb s v) n v
def qq(fr:Fr)(s:List aa):List CR→Option (List AV)
 |[]=>some []
 |r::l=>(tP fr s r).bind fun x=>(qq fr s l).map (x:: ·)
def yz:List AV→AV
 |[x]=>x
 |l=> .tup l
def vJ(fr:Fr)(s:List aa)(a:List CR):Option AV:=(qq fr s a).map yz
def nM(a:List CR)(K:AV→List aa→Prop):Exit→Fr→List aa→Prop
 | .normal,fr,s=> ∃d,vJ fr s a=some d∧K d s
 | .ret,fr,s=> ∃d,vJ fr s a=some d∧K d s
 |_,_,_=>False
theorem TS{P:Program}{F:Nat→Code→CC→Prop}{B:Nat}{k:aU}{w:World}{s:List aa}{t:TypeId}{n:Option Nat}{u:Value}{v d:AV}(l:St F B k s w)(z:jS P t=some n)(A:RA k w u v)(c:jQ (gb s v) n v=some d): ∃y,(Instr.loadAt t u).run P w= .ok y w∧RA k w y d:=by
 unfold jQ at c;split at c
 ·have r:=A.d_inv;cases r with
  |ref b off us ds r I J K=>exact Lf (P:=P) (base:=off) (off:=0) (fun i u o=>(J i u o).2) ⟨r,I,K⟩ z c
 ·rename_i id off;obtain⟨cs,f,c⟩:=aT c;obtain⟨b,hb,g⟩:=A.ptr_inv;obtain⟨L,S,us,p,D,E,_⟩:=l.cells (sq f);rw[hb]at p;cases p;obtain⟨y,a,h⟩:=Ds (P:=P) (base:=0) (off:=off) (b:=b) (fun i u o=>by rw[aw,uG D];exact o) E z c;rw[aw]at a;exact⟨y,by rw[g];exact a,h⟩
 ·rename_i id m off;obtain⟨⟨sz,ds⟩,f,c⟩:=aT c;obtain⟨e,x,C,j⟩:=iw f;obtain⟨b,g,hb⟩:=A.vptr_inv;obtain⟨u,xs,cap,cur,p,D,rfl,E,M,N,O,Q,R,H,G,q⟩:=yF l x C j hb;obtain⟨y,a,h⟩:=Ds (P:=P) (base:=0) (off:=off) (b:=b) (fun i u o=>by rw[aw];exact q i u o) H z c;rw[aw]at a;exact⟨y,by rw[g];exact a,h⟩
 ·cases c
theorem a2I{P:Program}{l:ResultVar}{c:CR}(h:cR P l=some c){fr:Fr}{s:List aa}{d:AV}(f:tP fr s c=some d){q:Nat→Code→CC→Prop}{B:Nat}{k:aU}{a:Act}{w:World}(o:FR k w a fr)(x:St q B k s w):
  ∃v,(match l with
   | .tmp t=>pure (a.tmps.getD t undef)
   | .cell r t=>do loadVar t (←asAddr (a.tmps.getD r undef)):Sem Value).run P w= .ok v w∧RA k w v d:=by
 cases l with
 |tmp t=>
  simp[cR]at h;subst h;exact⟨_,rfl,o t _ f⟩
 |cell t C=>
  unfold cR at h;obtain⟨n,u,rfl⟩:=dt.1 h;obtain⟨v,A,f⟩:=aT (show(look fr t).bind (fun v=>jQ (gb s v) n v)=some d from f);have i:=o t v A;obtain⟨y,g,j⟩:=TS x u i f;refine⟨y,?_,j⟩;have hp: ∃p,a.tmps.getD t undef= .pointer (some p):=by
   unfold jQ at f;split at f
   ·have m:=i.d_inv;generalize a.tmps.getD t undef=z at m;cases m;exact⟨_,rfl⟩
   ·obtain⟨b,_,e⟩:=i.ptr_inv;exact⟨_,e⟩
   ·obtain⟨b,e,_⟩:=i.vptr_inv;exact⟨_,e⟩
   ·cases f
  obtain⟨p,hp⟩:=hp;show(do loadVar C (←asAddr (a.tmps.getD t undef)):Sem Value).run P w= .ok y w;rw[hp]at g⊢;simp only[Instr.loadAt,Instr.sureAddr,bF,bZ,bL]at g;simp only[asAddr,bF,bZ,bL,g]
theorem Od{P:Program}{u:Nat→Code→CC→Prop}{fr:Fr}{s:List aa}{B:Nat}{k:aU}{a:Act}{w:World}(p:FR k w a fr)(q:St u B k s w): ∀{e:List ResultVar} {cs:List CR} {ds:List AV},uE P e=some cs→qq fr s cs=some ds→
  ∃vs:List Value,(e.mapM fun r=>(match r with
   | .tmp t=>pure (a.tmps.getD t undef)
   | .cell z t=>do loadVar t (←asAddr (a.tmps.getD z undef)):Sem Value)).run P w= .ok vs w∧fW k w vs ds
 |[],cs,ds,h,f=>by
  simp[uE]at h;subst h;simp[qq]at f;subst f;exact⟨[],rfl,rfl,by simp⟩
 |r::e,cs,ds,h,f=>by
  unfold uE at h;split at h
  ·rename_i c j C D;obtain rfl:=aJ h;obtain⟨d,E,f⟩:=aT (show(tP fr s c).bind (fun x=>(qq fr s j).map (x:: ·))=some ds from f);obtain⟨A,F,rfl⟩:=bB f;obtain⟨v,l,m⟩:=a2I C E p q;obtain⟨vs,g,b⟩:=Od p q D F;refine⟨v::vs,?_,by simp[b.1],fun i x y n o=> ?_⟩
   ·rw[List.mapM_cons];simp only[bF,l,bL,g,bZ]
   ·cases i with
    |zero=>simp at n o;subst n;subst o;exact m
    |succ i=>exact b.2 i x y (by simpa using n) (by simpa using o)
  ·cases h
theorem a2K{P:Program}{fn:Func}{e:List CR}(m:uE P fn.results.toList=some e){f:Nat→Code→CC→Prop}{fr:Fr}{s:List aa}{r:AV}(j:vJ fr s e=some r){B:Nat}{k:aU}{a:Act}{w:World}(l:FR k w a fr)(n:St f B k s w):
  ∃v,(results fn a.tmps).run P w= .ok v w∧RA k w v r:=by
 obtain⟨ds,c,rfl⟩:=bB j;obtain⟨vs,g,b⟩:=Od l n m c;have i:(results fn a.tmps).run P w= .ok (if h:vs.toArray.size=1 then vs.toArray[0]else .tuple vs.toArray) w:=by
  unfold results;rw[←Array.toArray_toList (xs:=fn.results),List.mapM_toArray];simp only[bF,Sem.run_map,bZ];erw[g];rfl
 refine⟨_,i,?_⟩
 match ds,vs,b with
 |[d],[v],b=>exact b.2 0 v d rfl rfl
 |[],[],b=>exact .tup rfl b.2
 |d::d'::ds,v::v'::vs,b=>
  rw[dif_neg (by simp)];exact .tup b.1 b.2
 |[],_::_,b=>simp[fW]at b
 |_::_,[],b=>simp[fW]at b
 |[_],_::_::_,b=>simp[fW]at b
 |_::_::_,[_],b=>simp[fW]at b
def mW:Nat→List AV→Fr
 |_,[]=>[]
 |i,x::l=>(i,x)::mW (i+1) l
theorem Li: ∀(xs:List AV) (n t:Nat),look (mW n xs) t=if n≤t then xs[t-n]? else none
 |[],n,t=>by simp[mW,look]
 |x::l,n,t=>by
  unfold mW look;rw[Li l (n+1) t];by_cases e:n=t
  ·subst e;simp
  ·rw[if_neg e];by_cases h:n≤t
   ·rw[if_pos h,if_pos a8,show t-n=(t-(n+1))+1 by omega];rfl
   ·rw[if_neg h,if_neg a8]
def b7(P:Program)(f:FuncId)(xs:List AV)(s:List aa)(K:AV→List aa→Prop):Prop:= ∃d a,gA (eu P) P f xs s d a∧K d a
theorem b7.mono{P:Program}{f:FuncId}{xs:List AV}{s:List aa}{K a:AV→List aa→Prop}(h:b7 P f xs s K)(hk: ∀d s,K d s→a d s):b7 P f xs s a:=let⟨d,e,b,c⟩:=h;⟨d,e,b,hk _ _ c⟩
theorem b7.ofA{P:Program}{m:List Nat}{f:FuncId}{F:CF}(hc:aN P m f=some F.erase){xs:List AV}{s:List aa}{K:AV→List aa→Prop}(l:xs.length≤F.n)(h:AC P F.n none F.body (nM F.res K) (mW 0 xs) s):b7 P f xs s K:=by
 unfold aN at hc;split at hc
 ·rename_i fn v;split at hc
  ·rename_i c b;split at hc
   ·cases hc
   ·rename_i g;split at hc
    ·rename_i cc E A G;have C:=aJ hc;obtain⟨o,p,q⟩:fn.ntmps=F.n∧cc=F.body.erase∧E=F.res:=by
      unfold CF.erase at C;injection C with o p q
      exact⟨o,p,q⟩
     rw[←o]at h l;rw[←q]at h;rw[p]at A;obtain⟨e,fr',z,y,L⟩:=h;have i: ∃d,(e= .normal∨e= .ret)∧vJ fr' z E=some d∧K d z:=by
      cases e with
      |normal=>obtain⟨d,r,u⟩:=y;exact⟨d,.inl rfl,r,u⟩
      |ret=>obtain⟨d,r,u⟩:=y;exact⟨d,.inr rfl,r,u⟩
      |_=>exact y.elim
     obtain⟨d,I,H,hk⟩:=i;refine⟨d,z,gA.of v b (by simpa using g) I l (fun k w vs j t x i=> ?_) (L c ⟨m,A⟩) (fun B k a w J M=>a2K G H J M),hk⟩;rw[Li]at i;simp only[fy,if_true,Nat.sub_zero]at i;have O:=(b9.1 i).1;have N:=j.1;have D:vs[t]?=some vs[t]:=bN a8
     have hg:(vs.toArray++Array.replicate (fn.ntmps-vs.toArray.size) undef).getD t undef=vs[t]:=by
      rw[u9,Array.getElem?_append_left (by simp;omega)];simp[D]
     show RA k w ((vs.toArray++Array.replicate (fn.ntmps-vs.toArray.size) undef).getD t undef) x;rw[hg];exact j.2 t _ x D i
    ·cases hc
  ·cases hc
 ·cases hc
theorem b7.of{P:Program}{b:List Nat}{f:FuncId}{F:CF}(hc:aN P b f=some F.erase){xs:List AV}{s:List aa}{K:AV→List aa→Prop}(a:xs.length≤F.n)(h:cF P none F.body (nM F.res K) (mW 0 xs) s):b7 P f xs s K:=b7.ofA hc a (bD h)
theorem aq.fn{P:Program}{f:FuncId}{b cs vs:List AV}{s:List aa}{K:AV→List aa→Nat→Prop}(h:b7 P f (b++vs++cs) s fun d a=>K d a 2):aq P (.clo f b cs) vs s K:=
 let⟨d,a,c,e⟩:=h;.inr (.inl ⟨d,a,c,e⟩)
theorem aq.yld{P:Program}{id:Nat}{vs:List AV}{s:List aa}{K:AV→List aa→Nat→Prop}(h:iD P id vs s fun d a=>K d a 2):aq P (.yld id) vs s K:=
 let⟨d,a,b,c⟩:=zf.of h.toA;.inr (.inl ⟨d,a,b,c⟩)
theorem lN.fn{P:Program}{f:FuncId}{a cs vs:List AV}{s:List aa}{K:AV→List aa→Prop}(h:b7 P f (a++vs++cs) s K):lN (eu P) P (.clo f a cs) vs s K:=
 let⟨d,e,b,c⟩:=h;⟨d,e,b,c⟩
end Go.Bb
namespace Go.Bb
open Go Go.RowKit Go.Ab Go.Proofs.Lg
mutual
def AV.shift(n:Nat):AV→AV
 | .d x=> .d x
 | .tsl id sz rows=> .tsl (n+id) sz rows
 | .nil sz=> .nil sz
 | .emp sz=> .emp sz
 | .ptr id o=> .ptr (n+id) o
 | .vec id m sz=> .vec (n+id) m sz
 | .vptr id m o=> .vptr (n+id) m o
 | .win id o m sz=> .win (n+id) o m sz
 | .vwn id N o m sz=> .vwn (n+id) N o m sz
 | .mp id=> .mp (n+id)
 | .yld id=> .yld (n+id)
 | .clo f a cs=> .clo f (fv n a) (fv n cs)
 | .agg cs=> .agg (fv n cs)
 | .tup cs=> .tup (fv n cs)
def fv(n:Nat):List AV→List AV
 |[]=>[]
 |x::l=>x.shift n::fv n l
end
theorem lC(n:Nat): ∀l:List AV,fv n l=l.map (AV.shift n)
 |[]=>by simp[fv]
 |x::l=>by simp[fv,lC n l]
theorem vP(n:Nat)(l:List AV):(fv n l).length=l.length:=by rw[lC,aQ]
theorem yt(n:Nat){l:List AV}{i:Nat}{c:AV}(h:(fv n l)[i]?=some c): ∃x,l[i]?=some x∧c=x.shift n:=by
 rw[lC,dL]at h;obtain⟨x,a,rfl⟩:=dt.1 h;exact⟨x,a,rfl⟩
def zc(n:Nat)(o1 O:List Own):Prop:= ∀(id:Nat) (o:Own),o1[id]?=some o→O[n+id]?=some o
theorem RA.shift{k:aU}{w:World}{v:Value}{x:AV}(h:RA k w v x){n:Nat}{O:List Own}(f:zc n k.own O):RA ⟨k.I,O⟩ w v (x.shift n):=by
 induction h with
 |d h=>rw[AV.shift];exact .d h
 |tsl a b=>rw[AV.shift];obtain⟨u,n,e,g⟩:=b;exact .tsl a ⟨u,n,f _ _ e,g⟩
 |nil=>rw[AV.shift];exact .nil
 |emp=>rw[AV.shift];exact .emp
 |ptr h=>rw[AV.shift];exact .ptr (f _ _ h)
 |vec a b=>rw[AV.shift];obtain⟨u,n,e,g⟩:=b;exact .vec a ⟨u,n,f _ _ e,g⟩
 |vptr h=>rw[AV.shift];obtain⟨u,n,e,g⟩:=h;exact .vptr ⟨u,n,f _ _ e,g⟩
 |win a b e=>rw[AV.shift];exact .win (f _ _ a) b e
 |vwn a b=>rw[AV.shift];obtain⟨u,n,e,g⟩:=b;exact .vwn a ⟨u,n,f _ _ e,g⟩
 |mp h=>rw[AV.shift];exact .mp (f _ _ h)
 |yld h=>rw[AV.shift];exact .yld (f _ _ h)
 |clo a b _ _ o i2=>
  rw[AV.shift];refine .clo (by rw[vP];exact a) (by rw[vP];exact b) (fun i u c j hc=> ?_) (fun i u c j hc=> ?_)
  ·obtain⟨x,l,rfl⟩:=yt _ hc;exact o i u x j l
  ·obtain⟨x,l,rfl⟩:=yt _ hc;exact i2 i u x j l
 |agg a b _ m=>
  rw[AV.shift];refine .agg (by rw[vP];exact a) b (fun i u c j hc=> ?_);obtain⟨x,l,rfl⟩:=yt _ hc;exact m i u x j l
 |tup a _ m=>
  rw[AV.shift];refine .tup (by rw[vP];exact a) (fun i u c j hc=> ?_);obtain⟨x,l,rfl⟩:=yt _ hc;exact m i u x j l
theorem bO.shift{k:aU}{w:World}{us:List Value}{ds:List AV}(h:bO k w us ds){n:Nat}{O:List Own}(a:zc n k.own O):bO ⟨k.I,O⟩ w us (fv n ds):=
 ⟨by rw[vP];exact h.1,h.2.1,fun i u c b hc=>by obtain⟨x,d,rfl⟩:=yt _ hc;exact(h.2.2 i u x b d).shift a⟩
def Hs(n:Nat)(fr:Fr):Fr:=fr.map fun p=>(p.1,p.2.shift n)
theorem Ll(n:Nat): ∀{fr:Fr} {t:Nat} {x:AV},look (Hs n fr) t=some x→ ∃y,look fr t=some y∧x=y.shift n
 |[],t,x,h=>by cases h
 |(u,y)::fr,t,x,h=>by
  have a:(if u=t then some (y.shift n)else look (Hs n fr) t)=some x:=h;unfold look;by_cases e:u=t
  ·rw[if_pos e]at a⊢;exact⟨y,rfl,(aJ a).symm⟩
  ·rw[if_neg e]at a⊢;exact Ll n a
def aa.shift(n:Nat):aa→aa
 | .cells ds=> .cells (fv n ds)
 | .tcells t ds=> .tcells t (fv n ds)
 | .row e sz m=> .row e sz m
 | .vec e sz ds=> .vec e sz (fv n ds)
 | .map a es=> .map a (es.map fun p=>(p.1,p.2.shift n))
 | .loop l=> .loop {l with fr:=Hs n l.fr}
 | .hole=> .hole
 | .junk=> .junk
theorem YT{w:World}{B a e sz n:Nat}{v:Value}{xs:List Value}(h:w.ownsRow a e sz v n xs)(hb:B≤a):w.ownsRow B e sz v n xs:=by
 refine⟨h.1,?_⟩;rcases h.2 with h2|⟨g,cap,cur,h1,h2,h3⟩
 ·exact .inl h2
 ·exact .inr ⟨g,cap,cur,h1,ef hb h2,h3⟩
theorem lT.shift{u:Nat→Code→CC→Prop}{B s:Nat}{k:aU}{w:World}(z:B≤s){n:Nat}{O:List Own}(g:zc n k.own O){x:aa}{o:Own}(h:lT u s k w x o):lT u B ⟨k.I,O⟩ w (x.shift n) o:=by
 cases x with
 |cells ds=>
  cases o with
  |blk b=>obtain⟨t,us,a,d,c⟩:=h;exact⟨t,us,a,d.shift g,c⟩
  |row v n=>exact h.elim
  |hole=>exact h.elim
 |tcells t ds=>
  cases o with
  |blk b=>obtain⟨us,a,d,c⟩:=h;exact⟨us,a,d.shift g,c⟩
  |row v n=>exact h.elim
  |hole=>exact h.elim
 |row e sz m=>
  cases o with
  |blk b=>exact h.elim
  |row v n=>obtain⟨a,⟨xs,d⟩,c⟩:=h;exact⟨a,⟨xs,YS d z⟩,c⟩
  |hole=>exact h.elim
 |vec e sz ds=>
  cases o with
  |blk b=>exact h.elim
  |row v n=>obtain⟨xs,a,d,c,E⟩:=h;exact⟨xs,YT a z,d,by rw[vP];exact c,E.shift g⟩
  |hole=>exact h.elim
 |map Q es=>
  cases o with
  |blk b=>
   obtain⟨f,p,a,⟨G,H,J⟩,c⟩:=h;refine⟨f,p,a,⟨by simpa using G,by simpa using H,fun i e x F j=> ?_⟩,c⟩;rw[dL]at j;obtain⟨y,q,rfl⟩:=dt.1 j;obtain⟨A,C,D⟩:=J i e y F q;exact⟨A,C.shift g,D⟩
  |row v n=>exact h.elim
  |hole=>exact h.elim
 |loop l=>
  cases o with
  |blk b=>
   obtain⟨r,a,⟨K,L,M,N,P⟩,c⟩:=h;exact⟨r,a,⟨K,L,M,fun t x j=>by obtain⟨y,q,rfl⟩:=Ll _ j;exact(N t y q).shift g,P⟩,c⟩
  |row v n=>exact h.elim
  |hole=>exact h.elim
 |hole=>
  cases o with
  |blk b=>exact h.elim
  |row v n=>exact h.elim
  |hole=>trivial
 |junk=>cases o<;>trivial
mutual
def AV.free:AV→Option AV
 | .d x=>some (.d x)
 | .tsl _ sz rows=>some (.d (.sl sz rows))
 | .nil sz=>some (.nil sz)
 | .emp sz=>some (.emp sz)
 | .clo f c cs=>match nU c,nU cs with
  |some a,some b=>some (.clo f a b)
  |_,_=>none
 | .agg cs=>match nU cs with
  |some a=>some (.agg a)
  |none=>none
 | .tup cs=>match nU cs with
  |some a=>some (.tup a)
  |none=>none
 | .ptr _ _=>none
 | .vec _ _ _=>none
 | .vptr _ _ _=>none
 | .win _ _ _ _=>none
 | .vwn _ _ _ _ _=>none
 | .mp _=>none
 | .yld _=>none
def nU:List AV→Option (List AV)
 |[]=>some []
 |x::l=>match x.free,nU l with
  |some y,some l'=>some (y::l')
  |_,_=>none
end
theorem uS: ∀{l l':List AV},nU l=some l'→l'.length=l.length∧ ∀(i:Nat) (c:AV),l'[i]?=some c→ ∃x,l[i]?=some x∧x.free=some c
 |[],l',h=>by simp[nU]at h;subst h;simp
 |x::l,l',h=>by
  unfold nU at h;split at h
  ·rename_i y f a b;cases h;obtain⟨d,e⟩:=uS b;refine⟨by simp[d],fun i c hc=> ?_⟩;cases i with
   |zero=>simp at hc;subst hc;exact⟨x,rfl,a⟩
   |succ i=>exact e i c (by simpa using hc)
  ·cases h
theorem RA.free{k:aU}{w:World}{v:Value}{x:AV}(h:RA k w v x)(o1:List Own): ∀{y:AV},x.free=some y→RA ⟨k.I,o1⟩ w v y:=by
 induction h with
 |d h=>intro y e;rw[AV.free]at e;cases e;exact .d h
 |tsl f g=>intro y e;rw[AV.free]at e;cases e;exact .d f
 |nil=>intro y e;rw[AV.free]at e;cases e;exact .nil
 |emp=>intro y e;rw[AV.free]at e;cases e;exact .emp
 |ptr h=>intro y e;rw[AV.free]at e;cases e
 |vec f g=>intro y e;rw[AV.free]at e;cases e
 |vptr h=>intro y e;rw[AV.free]at e;cases e
 |win f g t=>intro y e;rw[AV.free]at e;cases e
 |vwn f g=>intro y e;rw[AV.free]at e;cases e
 |mp h=>intro y e;rw[AV.free]at e;cases e
 |yld h=>intro y e;rw[AV.free]at e;cases e
 |clo f g _ _ q i2=>
  intro y e;rw[AV.free]at e;split at e
  ·rename_i a b ha hb;cases e;obtain⟨n,o⟩:=uS ha;obtain⟨r,s⟩:=uS hb;refine .clo (f.trans n.symm) (g.trans r.symm) (fun i u c l hc=> ?_) (fun i u c l hc=> ?_)
   ·obtain⟨x,m,j⟩:=o i c hc;exact q i u x l m j
   ·obtain⟨x,m,j⟩:=s i c hc;exact i2 i u x l m j
  ·cases e
 |agg f g _ p=>
  intro y e;rw[AV.free]at e;split at e
  ·rename_i a ha;cases e;obtain⟨n,o⟩:=uS ha;refine .agg (f.trans n.symm) g (fun i u c l hc=> ?_);obtain⟨x,m,j⟩:=o i c hc;exact p i u x l m j
  ·cases e
 |tup f _ p=>
  intro y e;rw[AV.free]at e;split at e
  ·rename_i a ha;cases e;obtain⟨n,o⟩:=uS ha;refine .tup (f.trans n.symm) (fun i u c l hc=> ?_);obtain⟨x,m,j⟩:=o i c hc;exact p i u x l m j
  ·cases e
theorem gA.frameAt{C:Nat→Code→CC→Prop}{P:Program}{f:FuncId}{xs t:List AV}{d:AV}{m:List aa}(h:gA C P f t [] d m)(A:nU xs=some t){s:List aa}{n:Nat}(K:gi s n m.length):gA C P f xs s (d.shift n) (fill s n (m.map (aa.shift n))):=by
 refine⟨h.enters,fun B k w vs g r=> ?_⟩;obtain⟨R,S⟩:=uS A;have q:St C w.heap.size ⟨k.I,[]⟩ [] w:=⟨bk _,rfl,by simp,by simp,by simp,g.glob.mono g.base⟩
 refine Calls.mono (h.calls w.heap.size ⟨k.I,[]⟩ w vs q ⟨r.1.trans R.symm,fun i u c N hc=> ?_⟩) ?_
 ·obtain⟨x,G,H⟩:=S i c hc;exact(r.2 i u x N G).free [] H
 ·rintro e w' ⟨v,k',rfl,O,J,z⟩;have p:k'.own.length=(m.map (aa.shift n)).length:=by rw[aQ];exact z.len
  have E:gi s n (m.map (aa.shift n)).length:=by rw[aQ];exact K
  have a:zc n k'.own (fill k.own n k'.own):=fun id o l=>by
   rw[xa k'.own (by rw[g.len];exact K.le),if_neg a8,if_pos (by have:=(b9.1 l).1;omega),mR];exact l
  obtain⟨L,M⟩:=g.fill J.below (I':=k'.I) (fun b hb=>J.low b hb) k'.own (m.map (aa.shift n)) p E (fun i o b l hb=>z.lies i o b l hb) (fun i j o o' b D l F hb=>z.apart i j o o' b D l F hb)
   fun _ i o x l A=>by
    rw[dL]at A;obtain⟨y,Q,rfl⟩:=dt.1 A;exact(z.obj i y o Q l).shift g.base a
  exact⟨v,_,rfl,O.shift a,L,M⟩
theorem gA.frame{c:Nat→Code→CC→Prop}{P:Program}{f:FuncId}{xs a:List AV}{d:AV}{b:List aa}(h:gA c P f a [] d b)(e:nU xs=some a)(s:List aa):gA c P f xs s (d.shift s.length) (s++b.map (aa.shift s.length)):=by
 have:=h.frameAt e (s:=s) (gi.end' s b.length);rw[sw]at this;exact this
def dA{α β:Type}(g:α→Option β):List α→Option (List β)
 |[]=>some []
 |x::l=>match g x,dA g l with
  |some y,some l'=>some (y::l')
  |_,_=>none
theorem tC{α β:Type}{g:α→Option β}: ∀{l:List α} {l':List β},dA g l=some l'→l'.length=l.length∧ ∀(i:Nat) (x:α),l[i]?=some x→ ∃y,l'[i]?=some y∧g x=some y
 |[],l',h=>by simp[dA]at h;subst h;simp
 |x::l,l',h=>by
  unfold dA at h;split at h
  ·rename_i y f b c;obtain rfl:=aJ h;obtain⟨d,e⟩:=tC c;refine⟨by simp[d],fun i z a=> ?_⟩;cases i with
   |zero=>simp at a;subst a;exact⟨y,rfl,b⟩
   |succ i=>exact e i z (by simpa using a)
  ·cases h
def bA(s:List aa):Nat→AV→Option D
 |0,_=>none
 |f+1,.vec id n sz=>match s[id]? with
  |some (.vec _ sz2 ds)=>if sz2=sz∧0<sz∧ds.length=n*sz then(dA (bA s f) ds).map fun es=> .sl sz (chunk sz n es)else none
  |_=>none
 |f+1,.vwn id N off n sz=>match s[id]? with
  |some (.vec _ sz2 ds)=>if sz2=sz∧0<sz∧ds.length=N*sz∧off+n≤N then(dA (bA s f) ((ds.drop (off*sz)).take (n*sz))).map fun es=> .sl sz (chunk sz n es)else none
  |_=>none
 |f+1,.win id off n sz=>match s[id]? with
  |some (.cells ds)=>if off+n*sz≤ds.length then(dA (bA s f) ((ds.drop off).take (n*sz))).map fun es=> .sl sz (chunk sz n es)else none
  |_=>none
 |f+1,.ptr id off=>match s[id]? with
  |some (.cells ds)=>(dA (bA s f) (ds.drop off)).map .ref
  |_=>none
 |f+1,.agg cs=>(dA (bA s f) cs).map .agg
 |f+1,.tup cs=>(dA (bA s f) cs).map .tup
 |_+1,x=>x.toL
theorem Fg{LL:Nat→Code→CC→Prop}{B:Nat}{k:aU}{s:List aa}{w:World}(K:St LL B k s w){I':Nat→Nat}(hk:iz k.I w I' w)(W: ∀b o u,B≤b→w.cell? ⟨b,o,none⟩=some u→o<I' b): ∀(f:Nat) (x:AV) (d:D) (v:Value),bA s f x=some d→RA k w v x→RD I' w v d
 |0,x,d,v,h,_=>by simp[bA]at h
 |f+1,x,d,v,h,hv=>by
  have L: ∀(us:List Value) (cs:List AV) (es:List D),fW k w us cs→dA (bA s f) cs=some es→us.length=es.length∧ ∀(i:Nat) (u:Value) (d:D),us[i]?=some u→es[i]?=some d→RD I' w u d:=fun us cs es M G=>by
   obtain⟨k1,k2⟩:=tC G;refine⟨M.1.trans k1.symm,fun i u e F he=> ?_⟩;obtain⟨hi,_⟩:=b9.1 he;have hc:cs[i]?=some cs[i]:=bN a8;obtain⟨e',t,h4⟩:=k2 i _ hc;rw[he]at t;cases t;exact Fg K hk W f _ _ u h4 (M.2 i u _ F hc)
  have j: ∀(us:List Value) (cs:List AV) (es:List D),bO k w us cs→dA (bA s f) cs=some es→db I' w us es:=fun us cs es M G=>
   let⟨r,T⟩:=L us cs es M.rvs G;⟨r,M.2.1,T⟩
  have m: ∀y,x=y→x.toL=some d→RA k w v x→RD I' w v d:=fun y _ M G=>(G.toL M).mono hk;cases x with
  |agg cs=>
   obtain⟨us,rfl,G⟩:=hv.agg_inv;obtain⟨es,a,rfl⟩:=bB (show(dA (bA s f) cs).map D.agg=some d from h);have t:=j us cs es G a;exact .agg us es t.1 t.2.1 t.2.2
  |tup cs=>
   obtain⟨us,rfl,G⟩:=hv.tup_inv;obtain⟨es,a,rfl⟩:=bB (show(dA (bA s f) cs).map D.tup=some d from h);have t:=L us cs es G a;exact .tup us es t.1 t.2
  |ptr id off=>
   simp only[bA]at h;split at h
   ·rename_i ds p;obtain⟨es,a,rfl⟩:=bB h;obtain⟨b,hb,rfl⟩:=hv.ptr_inv;obtain⟨b',t',us,r,T,g3,_⟩:=K.cells p;rw[hb]at r;cases r;have V:=j _ _ es (g3.drop off) a;refine .ref _ _ _ _ V.1 V.2.1 (fun i u F=> ?_) V.2.2;rw[fm]at F;have hc:w.cell? ⟨b,off+i,none⟩=some u:=by rw[uG T];exact F
    exact⟨W _ _ _ (K.lies id _ b hb rfl).1 hc,hc⟩
   ·cases h
  |win id off n sz=>
   simp only[bA]at h;split at h
   ·rename_i ds p;split at h
    ·rename_i X;obtain⟨es,a,rfl⟩:=bB h;obtain⟨b,c,hb,rfl,E,z⟩:=hv.win_inv;obtain⟨b',t',us,r,T,g3,_⟩:=K.cells p;rw[hb]at r;cases r;have V:=j _ _ es ((g3.drop off).take (n*sz)) a;have Z:=(tC a).1;obtain⟨A,C⟩:=su sz n es (by rw[Z];simp;omega);refine RD.sl_mk (qS sz n es) C E z (by rw[A];exact V) fun _=>⟨b,off,rfl,fun i u F=> ?_⟩
     rw[eY]at F;split at F
     ·rw[fm]at F;have hc:w.cell? ⟨b,off+i,none⟩=some u:=by rw[uG T];exact F
      exact⟨W _ _ _ (K.lies id _ b hb rfl).1 hc,hc⟩
     ·cases F
    ·cases h
   ·cases h
  |vec id n sz=>
   simp only[bA]at h;split at h
   ·rename_i e l ds p;split at h
    ·rename_i O;obtain⟨rfl,c0,c1⟩:=O;obtain⟨es,a,rfl⟩:=bB h;obtain⟨_,u,n',H,X,P⟩:=hv.vec_inv;obtain⟨v2,n2,xs,r,q,hI,U,S⟩:=K.vec p;rw[H]at r;cases r;have Q:n=n':=by
      rw[c1]at U;exact kX c0 U
     subst Q;rw[P rfl];have t:=j xs ds es S a;have Z:=(tC a).1;obtain⟨A,C⟩:=su l n es a8;rcases q.2 with⟨J,h0⟩|⟨g,cap,cur,J,hbg,hg,E,z,hcs,htake⟩
     ·subst J;subst h0;exact RD.sl_mk (us:=[]) rfl (by simp[chunk]) a8 a8 ⟨by simp[chunk],by simp,by simp⟩ (by simp[chunk])
     ·rw[J];refine RD.sl_mk (qS l n es) C E (by unfold maxLen at z;omega) (by rw[A];exact t) fun _=>⟨g,0,rfl,fun i x R=> ?_⟩
      have:=q.cells (g:=g) (by rw[J];rfl) i x R;rw[fi]at this;exact⟨W _ _ _ hbg this,this⟩
    ·cases h
   ·cases h
  |vwn id N off n sz=>
   simp only[bA]at h;split at h
   ·rename_i e l ds p;split at h
    ·rename_i O;obtain⟨rfl,c0,c1,c2⟩:=O;obtain⟨es,a,rfl⟩:=bB h;obtain⟨_,u,n',H,X,P⟩:=hv.vwn_inv;obtain⟨v2,n2,xs,r,q,hI,U,S⟩:=K.vec p;rw[H]at r;cases r;have Q:N=n':=by
      rw[c1]at U;exact kX c0 U
     subst Q;obtain⟨b,c,a0,a1,E,z⟩:=P rfl;have Y:u.ownBlock=some b:=by rw[a0];rfl
     rw[a1];have t:=j _ _ es ((S.drop (off*l)).take (n*l)) a;have Z:=(tC a).1;have a2:off*l+n*l≤N*l:=by rw[←fe];exact iP _ c2
     obtain⟨A,C⟩:=su l n es (by rw[Z];simp;omega);refine RD.sl_mk (qS l n es) C E z (by rw[A];exact t) fun _=>⟨b,off*l,rfl,fun i x R=> ?_⟩
     rw[eY]at R;split at R
     ·rw[fm]at R;have hc:=q.cells Y _ x R;rw[fi,aw]at hc;exact⟨W _ _ _ (K.lies id _ b H Y).1 hc,hc⟩
     ·cases R
    ·cases h
   ·cases h
  |d y=>exact m _ rfl (by simpa[bA]using h) hv
  |tsl id sz rows=>exact m _ rfl (by simpa[bA]using h) hv
  |nil sz=>exact m _ rfl (by simpa[bA]using h) hv
  |emp sz=>exact m _ rfl (by simpa[bA]using h) hv
  |_=>exact m _ rfl (by simpa[bA]using h) hv
theorem aG.of_runs{P:Program}{l:Nat→Code→CC→Prop}{f:FuncId}{ds:List D}{x:AV}{n:List aa}{r:D}(h:gA l P f (ds.map .d) [] x n)(s:bA n 5 x=some r):aG P f ds r:=by
 refine⟨h.enters,fun I w vs p k g=> ?_⟩;have j:St l w.heap.size ⟨I,[]⟩ [] w:=⟨bk _,rfl,by simp,by simp,by simp,g⟩
 refine Calls.mono (h.calls w.heap.size ⟨I,[]⟩ w vs j ⟨by simp[p],fun i u c y hc=> ?_⟩) ?_
 ·rw[dL]at hc;obtain⟨d,o,rfl⟩:=dt.1 hc;exact .d (k i u d y o)
 ·rintro e w' ⟨v,k',rfl,z,m,t⟩;refine⟨v,rfl,Fg t (I':=fY I w.heap.size w') (fun b q u hb hc=>⟨?_,hc⟩) (fun b q u hb hc=> ?_) 5 x r v s z,m.below⟩
  ·by_cases a:b<w.heap.size
   ·rw[EV _ _ a];have:=m.low b a;rw[this]at hb;exact hb
   ·unfold fY;rw[if_neg a];exact vi hc
  ·unfold fY;rw[if_neg a8];exact vi hc
theorem aM{P:Program}{b:List Nat}{f:FuncId}{F:CF}(hc:aN P b f=some F.erase){args:List D}{r:D}(a:args.length≤F.n)(h:cF P none F.body (nM F.res fun x s=>bA s 5 x=some r) (mW 0 (args.map .d)) []):aG P f args r:=
 let⟨_,_,c,e⟩:=b7.of hc (by simpa using a) h;aG.of_runs c e
theorem PN{P:Program}{f:FuncId}{args:List D}{r:D}(h:b7 P f (args.map .d) [] fun x s=>bA s 5 x=some r):aG P f args r:=
 let⟨_,_,a,b⟩:=h;aG.of_runs a b
def FM:D→Bool
 | .sc _=>true
 |_=>false
def xc:D→Bool
 | .sc _=>true
 | .agg cs=>cs.all FM
 | .tup cs=>cs.all FM
 |_=>false
theorem I7{I I':Nat→Nat}{w w':World}{v:Value}{r:D}(h:RD I w v r)(a:FM r=true):RD I' w' v r:=by
 cases h with
 |sc=>exact .sc _
 |_=>cases a
theorem Qx{I I':Nat→Nat}{w w':World}{v:Value}{r:D}(h:RD I w v r)(e:xc r=true):RD I' w' v r:=by
 cases h with
 |sc=>exact .sc _
 |agg us ds b g c=>exact .agg us ds b g fun i u d f a=>I7 (c i u d f a) (jX.1 e d (bX a))
 |tup us ds b c=>exact .tup us ds b fun i u d f a=>I7 (c i u d f a) (jX.1 e d (bX a))
 |_=>cases e
theorem LG{α β:Type}{g:α→Option β}: ∀{l:List α} {l':List β},l'.length=l.length→(∀(i:Nat) (x:α),l[i]?=some x→ ∃y,l'[i]?=some y∧g x=some y)→dA g l=some l'
 |[],[],_,_=>rfl
 |[],_::_,h,_=>by simp at h
 |_::_,[],h,_=>by simp at h
 |x::l,y::l',h,hx=>by
  obtain⟨z,a,b⟩:=hx 0 x rfl;cases a;unfold dA;rw[b,LG (l:=l) (l':=l') (by simpa using h) fun i u c=>hx (i+1) u (by simpa using c)]
theorem Jx{C:Nat→Code→CC→Prop}{B:Nat}{k:aU}{s s2:List aa}{w:World}(p:St C B k s2 w)(ha:fw s s2): ∀(f:Nat) (x:AV) (d:D) (v:Value),bA s f x=some d→RA k w v x→bA s2 f x=some d
 |0,x,d,v,h,_=>by simp[bA]at h
 |f+1,x,d,v,h,hv=>by
  have g: ∀(us:List Value) (cs:List AV) (es:List D),fW k w us cs→dA (bA s f) cs=some es→dA (bA s2 f) cs=some es:=fun us cs es z q=>by
   obtain⟨O,P⟩:=tC q;refine LG O fun i c hc=> ?_;obtain⟨e,H,I⟩:=P i c hc;have hi:=(b9.1 hc).1;have A:=z.1;have M:us[i]?=some us[i]:=bN a8;exact⟨e,H,Jx p ha f _ _ _ I (z.2 i _ c M hc)⟩
  have same: ∀(id:Nat) (o:aa),x.hdl=some id→s[id]?=some o→s2[id]?=some o:=fun id o K L=>by
   exact wB p ha hv K L
  cases x with
  |agg cs=>
   obtain⟨us,rfl,q⟩:=hv.agg_inv;obtain⟨es,a,rfl⟩:=bB (show(dA (bA s f) cs).map D.agg=some d from h);show(dA (bA s2 f) cs).map D.agg=_;rw[g us cs es q.rvs a];rfl
  |tup cs=>
   obtain⟨us,rfl,q⟩:=hv.tup_inv;obtain⟨es,a,rfl⟩:=bB (show(dA (bA s f) cs).map D.tup=some d from h);show(dA (bA s2 f) cs).map D.tup=_;rw[g us cs es q a];rfl
  |ptr id off=>
   simp only[bA]at h⊢;split at h
   ·rename_i ds b;rw[same id _ rfl b];obtain⟨es,a,rfl⟩:=bB h;obtain⟨E,R,us,t,F,u,_⟩:=p.cells (same id _ rfl b);show(dA (bA s2 f) (ds.drop off)).map D.ref=_;rw[g _ _ es (u.drop off).rvs a];rfl
   ·cases h
  |win id off n sz=>
   simp only[bA]at h⊢;split at h
   ·rename_i ds b;split at h
    ·rename_i y;rw[same id _ rfl b];obtain⟨es,a,rfl⟩:=bB h;obtain⟨E,R,us,t,F,u,_⟩:=p.cells (same id _ rfl b);show(if off+n*sz≤ds.length then(dA (bA s2 f) ((ds.drop off).take (n*sz))).map (fun es=>D.sl sz (chunk sz n es))else none)=_;rw[if_pos y,g _ _ es ((u.drop off).take (n*sz)).rvs a];rfl
    ·cases h
   ·cases h
  |vec id n sz=>
   simp only[bA]at h⊢;split at h
   ·rename_i e m ds b;split at h
    ·rename_i j;rw[same id _ rfl b];obtain⟨es,a,rfl⟩:=bB h;obtain⟨v2,Q,xs,t,r,J,G,l⟩:=p.vec (same id _ rfl b);show(if m=sz∧0<sz∧ds.length=n*sz then(dA (bA s2 f) ds).map (fun es=>D.sl sz (chunk sz n es))else none)=_;rw[if_pos j,g _ _ es l.rvs a];rfl
    ·cases h
   ·cases h
  |vwn id N off n sz=>
   simp only[bA]at h⊢;split at h
   ·rename_i e m ds b;split at h
    ·rename_i j;rw[same id _ rfl b];obtain⟨es,a,rfl⟩:=bB h;obtain⟨v2,Q,xs,t,r,J,G,l⟩:=p.vec (same id _ rfl b);show(if m=sz∧0<sz∧ds.length=N*sz∧off+n≤N then(dA (bA s2 f) ((ds.drop (off*sz)).take (n*sz))).map (fun es=>D.sl sz (chunk sz n es))else none)=_;rw[if_pos j,g _ _ es ((l.drop (off*sz)).take (n*sz)).rvs a];rfl
    ·cases h
   ·cases h
  |_=>simpa[bA]using h
theorem aG.deepR{P:Program}{p:Nat→Code→CC→Prop}{f:FuncId}{ds:List D}{r:D}(h:aG P f ds r){xs:List AV}{s s2:List aa}(x:dA (bA s 5) xs=some ds)(ha:fw s s2)(t:xc r=true):gA p P f xs s2 (.d r) s2:=by
 refine⟨h.enters,fun B k w vs c j=> ?_⟩;obtain⟨y,z⟩:=tC x;refine Calls.mono (h.calls (cellsIn w) w vs (by rw[j.1,y]) (fun i v d l n=> ?_) (c.glob.mono c.base)) ?_
 ·obtain⟨hi,_⟩:=b9.1 n;have hc:xs[i]?=some xs[i]:=bN a8;obtain⟨A,m,q⟩:=z i _ hc;rw[n]at m;cases m;have g:=j.2 i v _ l hc;exact Fg c (I':=cellsIn w) (fun b o u _ a=>⟨vi a,a⟩) (fun b o u _ a=>vi a) 5 _ _ v (Jx c ha 5 _ _ v q g) g
 ·rintro e w' ⟨v,rfl,l,hb⟩;exact⟨v,⟨fY k.I w.heap.size w',k.own⟩,rfl,.d (Qx l t),Ext.called c.base hb,c.called hb⟩
theorem aG.deep{P:Program}{a:Nat→Code→CC→Prop}{f:FuncId}{ds:List D}{r:D}(h:aG P f ds r){xs:List AV}{s:List aa}(c:dA (bA s 5) xs=some ds)(b:xc r=true):gA a P f xs s (.d r) s:=h.deepR c (fw.refl s) b
theorem aq.reads{P:Program}{f:FuncId}{a cs vs:List AV}{s:List aa}{K:AV→List aa→Nat→Prop}{ds:List D}{r:D}(h:aG P f ds r)(b:dA (bA s 5) (a++vs++cs)=some ds)(c:xc r=true)(hk:K (.d r) s 1):aq P (.clo f a cs) vs s K:=
 .inr (.inr (.inl ⟨_,fun s2 ha=>h.deepR b ha c,hk⟩))
theorem aq.deep{P:Program}{f:FuncId}{a cs vs:List AV}{s:List aa}{K:AV→List aa→Nat→Prop}{ds:List D}{r:D}(h:aG P f ds r)(b:dA (bA s 5) (a++vs++cs)=some ds)(c:xc r=true)(hk:K (.d r) s 2):aq P (.clo f a cs) vs s K:=
 .inr (.inl ⟨_,_,aG.deep h b c,hk⟩)
end Go.Bb
namespace Go.Ab
theorem ID(b:Bool):(b==true)=b:=by cases b<;>rfl
theorem IC(b:Bool):(b==false)= !b:=by cases b<;>rfl
end Go.Ab
namespace Go.Proofs.Lg
theorem SZ{α:Type}(J K:List α):(J++K)[J.length]?=K[0]? :=by simp[iO]
theorem T0{α:Type}(J K:List α)(n:Nat):(J++K)[J.length+n]?=K[n]? :=by simp[iO]
theorem a3b{α:Type}(J K:List α)(x:α):(J++K).set J.length x=J++K.set 0 x:=by simp[List.set_append_right]
theorem a3c{α:Type}(J K:List α)(n:Nat)(x:α):(J++K).set (J.length+n) x=J++K.set n x:=by simp[List.set_append_right]
theorem a4N(k:Nat):(((0:Nat):Int)≤(k:Int))=True:=eq_true a8
end Go.Proofs.Lg
namespace Go.Bb
open Go Go.Ab
def o0(d:Nat)(i:CI):CO:=⟨some d,none,i⟩
def om(d t:Nat):CO:=⟨some d,none,.mov (.t t)⟩
def og(d t:Nat)(b:Bool)(i:CI):CO:=⟨some d,some (some t,b),i⟩
def oh(d t:Nat)(b:Bool)(n:Nat):CO:=⟨some d,some (some t,b),.mov (.t n)⟩
def oN(i:CI):CO:=⟨none,none,i⟩
def xi(n:Int):X:= .c (.d (.sc (.int .i64 n)))
def fo(l:List CO):CC:= .ops false [] l
end Go.Bb
namespace Go.Bb
open Go Go.Ab Go.Proofs.Lg
end Go.Bb
