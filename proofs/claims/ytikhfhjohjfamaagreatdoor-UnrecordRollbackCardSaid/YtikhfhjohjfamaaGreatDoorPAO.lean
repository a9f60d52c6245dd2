/- Lemmas. -/
import Derived.Test.YtikhfhjohjfamaaGreatDoorPAM
import Derived.Ground.SlsfProg
import Derived.Shelf.SlSortCmp.NoneTotal
import Derived.Shelf.Strings.Builder1
import Derived.Shelf.Small.Bits
import Derived.Shelf.Small.Strs
import Derived.Shelf.Strconv.Itoa0
import Derived.Shelf.Strconv.Itoa1
import Derived.Shelf.LaysM
import Derived.Shelf.Strconv.Itoa2
import Derived.Shelf.Strconv.Itoa3
import Derived.Shelf.Strings.Search1
import Derived.Shelf.Slices.Turned
import Derived.Ground.Names2Prog
import Derived.Shelf.Slices.SearchI
set_option linter.unusedVariables false
set_option linter.unusedSimpArgs false
set_option maxRecDepth 100000
namespace Go.Proofs.Q
open Go Go.Bb Go.Proofs.Lg
open Go.Ab (D)
theorem Ge: ∀{a b:List Dg},bT a->bT b->(∀x,x∈a↔x∈b)->a=b
 |[],[],_,_,_=>rfl
 |[],y::b,_,_,h=>absurd ((h y).2 (by simp)) (by simp)
 |x::a,[],_,_,h=>absurd ((h x).1 (by simp)) (by simp)
 |x::a,y::b,ha,hb,h=>by
  obtain⟨f,i⟩:=gX.1 ha;obtain⟨g,j⟩:=gX.1 hb;have e:x=y:=by
   apply fX;intro hne;have k:x∈b:=by
    rcases bF.1 ((h x).1 (by simp))with e|e
    .exact absurd e hne
    .exact e
   have l:y∈a:=by
    rcases bF.1 ((h y).2 (by simp))with e|e
    .exact absurd e.symm hne
    .exact e
   exact oW _ (nk (f y l) (g x k))
  subst e;congr 1;refine Ge i j λz=> ?_;have d:=h z;simp only[bF]at d;constructor
  .intro c;rcases d.1 (.inr c)with e|e
   .subst e;exact absurd (f z c) (oW _)
   .exact e
  .intro c;rcases d.2 (.inr c)with e|e
   .subst e;exact absurd (g z c) (oW _)
   .exact e
def rq(s:ar)(d:Dg):List Dg:=bu ((bh s d).getD .zero)
def Path(s:ar):Nat->Dg->Dg->Prop
 |0,d,e=>d=e
 |n+1,d,e=> ∃c∈rq s d,Path s n c e
theorem Ki(s:ar): ∀(l a:List Dg),bT a->bT (oo s l a)/\ ∀x,x∈oo s l a↔x∈a\/ ∃d∈l,x∈rq s d
 |[],a,h=>⟨h,λx=>by simp[oo]⟩
 |d::l,a,h=>by
  rw[oo];obtain⟨b,c⟩:=rQ (bu ((bh s d).getD .zero)) a h;obtain⟨e,f⟩:=Ki s l _ b;refine⟨e,λx=> ?_⟩;rw[f,c];simp only[bF,exists_eq_or_imp,rq];constructor
  .rintro((h|h)|h)
   .exact .inr (.inl h)
   .exact .inl h
   .exact .inr (.inr h)
  .rintro(h|h|h)
   .exact .inl (.inr h)
   .exact .inl (.inl h)
   .exact .inr h
theorem Kg(s:ar): ∀(n:Nat) (out:List Dg),bT out->bT (nj s n out)/\ ∀x,x∈nj s n out↔ ∃d∈out,∃j,j<=n/\Path s j d x
 |0,out,h=>⟨h,λx=>by
  constructor
  .intro k;exact⟨x,k,0,bg _,rfl⟩
  .rintro⟨d,a,j,e,hp⟩;obtain rfl:j=0:=by omega
   obtain rfl:d=x:=hp;exact a⟩
 |n+1,out,h=>by
  rw[nj];obtain⟨f,b⟩:=Ki s out out h;obtain⟨g,i⟩:=Kg s n _ f;refine⟨g,λx=> ?_⟩;rw[i];constructor
  .rintro⟨d,a,j,e,hp⟩;rcases(b d).1 a with a|⟨c,hc,a⟩
   .exact⟨d,a,j,by omega,hp⟩
   .exact⟨c,hc,j+1,by omega,d,a,hp⟩
  .rintro⟨d,a,j,e,hp⟩;cases j with
   |zero=>exact⟨d,(b d).2 (.inl a),0,by omega,hp⟩
   |succ j=>
    obtain⟨c,hc,hp⟩:=hp;exact⟨c,(b c).2 (.inr ⟨d,a,hc⟩),j,by omega,hp⟩
theorem iT: ∀{s:ar},(b8 s).Nodup-> ∀x∈s,bh s x.id=some x.pat
 |[],_,x,a=>by cases a
 |y::s,h,x,a=>by
  rw[bh];split
  .rename_i e;rw[yC h y (by simp) x a e]
  .rename_i e;rcases bF.1 a with h1|h1
   .exact absurd (by rw[h1]) e
   .exact iT (nP.1 (show(y.id::b8 s).Nodup from h)).2 x h1
theorem oe: ∀{s:ar} {d:Dg},bh s d=none↔d∉b8 s
 |[],d=>by simp[bh,b8]
 |y::s,d=>by
  rw[bh];by_cases e:y.id=d
  .rw[if_pos e];simp[b8,e]
  .rw[if_neg e,oe];have: ¬d=y.id:=λh=>e h.symm;simp[b8,this]
theorem L7{H:bb->Dg}{s:ar}(h:dm H s): ∀(j:Nat) (d e:Dg) (i:Nat),(dD s)[i]?=some d->Path s j d e-> ∃k,(dD s)[k]?=some e/\k+j<=i
 |0,d,e,i,hi,hp=>by
  obtain rfl:d=e:=hp;exact⟨i,hi,bg _⟩
 |j+1,d,e,i,hi,hp=>by
  obtain⟨c,hc,hp⟩:=hp;obtain⟨b,p⟩:=qh h;obtain⟨x,o,a,q,f⟩:=b i d hi;have n:rq s d=bu x.pat:=by
   unfold rq;rw[<-a,iT h.sorted.nodup x o];rfl
  rw[n]at hc;obtain⟨k,hk⟩:=fE (f c hc);rw[fL]at hk;split at hk
  .rename_i l;obtain⟨m,hm,g⟩:=L7 h j c e k hk hp;exact⟨m,hm,by omega⟩
  .cases hk
theorem UQ{H:bb->Dg}{s:ar}(h:dm H s){j:Nat}{d e:Dg}(a:d∈b8 s)(hp:Path s j d e):j<=s.length/\e∈b8 s:=by
 obtain⟨g,b⟩:=qh h;obtain⟨i,hi⟩:=fE ((b d).2 a);obtain⟨k,hk,f⟩:=L7 h j d e i hi hp;have l:=(aV.1 hi).1;have c:=(yT (s:=s) s.length [] λi d a=>by simp at a).2;have m:(dD s).length<=s.length:=by unfold dD;simpa using c
 exact⟨by omega,(b e).1 (bR hk)⟩
theorem Kh{H:bb->Dg}{s:ar}(h:dm H s){ids:List Dg}(hi: ∀d∈ids,d∈b8 s):my s ids=(nj s s.length (gZ ids []),0)/\ ∀x,x∈(my s ids).1↔ ∃d∈ids,∃j,Path s j d x:=by
 have c:my s ids=(nj s s.length (gZ ids []),0):=by
  unfold my;rw[if_pos ((oS _ _).2 hi)]
 refine⟨c,λx=> ?_⟩;rw[c];obtain⟨e,b⟩:=rQ ids [] bT.nil;rw[(Kg s s.length _ e).2];constructor
 .rintro⟨d,a,j,_,hp⟩;exact⟨d,by simpa using(b d).1 a,j,hp⟩
 .rintro⟨d,a,j,hp⟩;exact⟨d,(b d).2 (.inl a),j,(UQ h (hi d a) hp).1,hp⟩
theorem EM(L:List Dg)(d:Dg): ∀(ids out:List Dg),bT out->bT (xj L d ids out)/\ ∀x,x∈xj L d ids out↔(x=d/\ ∃e∈ids,e∈L)\/x∈out
 |[],out,h=>⟨h,λx=>by simp[xj]⟩
 |e::ids,out,h=>by
  rw[xj];by_cases a:bI L e=true
  .rw[if_pos a];obtain⟨f,g⟩:=zS out d h;obtain⟨b,c⟩:=EM L d ids _ f;have hm:=(jA L e).1 a;refine⟨b,λx=> ?_⟩;rw[c,g];simp only[bF,exists_eq_or_imp,hm,true_or,and_true];constructor
   .rintro(⟨h,_⟩|h|h)
    .exact .inl h
    .exact .inl h
    .exact .inr h
   .rintro(h|h)
    .exact .inr (.inl h)
    .exact .inr (.inr h)
  .rw[if_neg a];obtain⟨b,c⟩:=EM L d ids _ h;have hm:e∉L:=λhm=>a ((jA L e).2 hm);refine⟨b,λx=> ?_⟩;rw[c];simp only[bF,exists_eq_or_imp,hm,false_or]
theorem Kk(s:ar)(ids:List Dg): ∀(r:ar) (out:List Dg),bT out->bT (vg s ids r out)/\ ∀x,x∈vg s ids r out↔(∃y∈r,y.id=x/\ ∃e∈ids,e∈(my s [y.id]).1)\/x∈out
 |[],out,h=>⟨h,λx=>by simp[vg]⟩
 |y::r,out,h=>by
  rw[vg];obtain⟨a,b⟩:=EM (my s [y.id]).1 y.id ids out h;obtain⟨c,d⟩:=Kk s ids r _ a;refine⟨c,λx=> ?_⟩;rw[d,b];simp only[bF,exists_eq_or_imp];constructor
  .rintro(h|⟨h,g⟩|h)
   .exact .inl (.inr h)
   .exact .inl (.inl ⟨h.symm,g⟩)
   .exact .inr h
  .rintro((⟨h,g⟩|h)|h)
   .exact .inr (.inl ⟨h.symm,g⟩)
   .exact .inl h
   .exact .inr (.inr h)
theorem Gt{H:bb->Dg}{s:ar}(h:dm H s){ids:List Dg}(hi: ∀d∈ids,d∈b8 s):(fS s ids).2=0/\bT (fS s ids).1/\ ∀x,x∈(fS s ids).1↔x∈b8 s/\ ∃e∈ids,∃j,Path s j x e:=by
 have a:fS s ids=(vg s ids s [],0):=by unfold fS;rw[if_pos ((oS _ _).2 hi)]
 obtain⟨i,k⟩:=Kk s ids s [] bT.nil;rw[a];refine⟨rfl,i,λx=> ?_⟩;rw[k];constructor
 .rintro(⟨y,c,rfl,e,a,hp⟩|h)
  .have b:y.id∈b8 s:=eR (f:=bD.id) c;obtain⟨d,l,j,hp⟩:=((Kh h (ids:=[y.id]) (by simpa using b)).2 e).1 hp;obtain rfl:d=y.id:=by simpa using l
   exact⟨b,e,a,j,hp⟩
  .cases h
 .rintro⟨g,e,a,j,hp⟩;obtain⟨y,c,rfl⟩:=bM.1 g;exact .inl ⟨y,c,rfl,e,a,((Kh h (ids:=[y.id]) (by simpa using g)).2 e).2 ⟨y.id,by simp,j,hp⟩⟩
theorem Vj{H:bb->Dg}{s:ar}(h:dm H s){ids:List Dg}(hi: ∀d∈ids,d∈b8 s):rD s ids=(kY (fS s ids).1 s,(fS s ids).1,0):=by
 unfold rD;rw[if_neg,if_neg]
 .rw[(Gt h hi).1];simp
 .intro a;rw[List.any_eq_true]at a;obtain⟨d,b,c⟩:=a;exact oe.1 (of_decide_eq_true c) (hi d b)
theorem Vi{s:ar}{ids:List Dg}{d:Dg}(a:d∈ids)(b:d∉b8 s):rD s ids=([],[],7):=by
 unfold rD;rw[if_pos];rw[List.any_eq_true];exact⟨d,a,decide_eq_true (oe.2 b)⟩
end Go.Proofs.Q
namespace Go.Proofs
open Go.Shelf
def Tryz.laysSortDgs_ren:Go.Shelf.Ren:=⟨fun|6=>264|15=>135|14=>336|28=>208|29=>209|20=>387|21=>388|22=>389|23=>390|24=>391|25=>392|26=>393|27=>394|46=>413|47=>279|48=>280|49=>414|50=>415|57=>421|n=>n,fun|22=>59|24=>30|25=>152|3=>3|39=>178|0=>0|53=>243|55=>245|4=>4|46=>237|45=>236|50=>159|5=>5|9=>9|66=>293|70=>297|76=>343|77=>344|n=>n,fun|n=>n⟩
theorem Tryz.laysSortDgs:Go.Proofs.SlLaysF0.n6 Tryz.prog Tryz.laysSortDgs_ren:={
 mixed:=by kernel_rfl
 f6:=⟨Tryz.f264.name,by decide,Tryz.func264.trans (congrArg some (by kernel_rfl))⟩
 f14:=⟨Tryz.f336.name,by decide,Tryz.func336.trans (congrArg some (by kernel_rfl))⟩
 f15:=Tryz.func135.trans (congrArg some (by kernel_rfl))
 f20:=⟨Tryz.f387.name,by decide,Tryz.func387.trans (congrArg some (by kernel_rfl))⟩
 f21:=⟨Tryz.f388.name,by decide,Tryz.func388.trans (congrArg some (by kernel_rfl))⟩
 f22:=⟨Tryz.f389.name,by decide,Tryz.func389.trans (congrArg some (by kernel_rfl))⟩
 f23:=⟨Tryz.f390.name,by decide,Tryz.func390.trans (congrArg some (by kernel_rfl))⟩
 f24:=⟨Tryz.f391.name,by decide,Tryz.func391.trans (congrArg some (by kernel_rfl))⟩
 f25:=⟨Tryz.f392.name,by decide,Tryz.func392.trans (congrArg some (by kernel_rfl))⟩
 f26:=⟨Tryz.f393.name,by decide,Tryz.func393.trans (congrArg some (by kernel_rfl))⟩
 f27:=⟨Tryz.f394.name,by decide,Tryz.func394.trans (congrArg some (by kernel_rfl))⟩
 f28:=Tryz.func208.trans (congrArg some (by kernel_rfl))
 f29:=Tryz.func209.trans (congrArg some (by kernel_rfl))
 f46:=⟨Tryz.f413.name,by decide,Tryz.func413.trans (congrArg some (by kernel_rfl))⟩
 f47:=Tryz.func279.trans (congrArg some (by kernel_rfl))
 f48:=Tryz.func280.trans (congrArg some (by kernel_rfl))
 f49:=⟨Tryz.f414.name,by decide,Tryz.func414.trans (congrArg some (by kernel_rfl))⟩
 f50:=⟨Tryz.f415.name,by decide,Tryz.func415.trans (congrArg some (by kernel_rfl))⟩
 f57:=⟨Tryz.f421.name,by decide,Tryz.func421.trans (congrArg some (by kernel_rfl))⟩
 t0:=Tryz.underlying0
 a0:=Tryz.isAgg0
 z0:=Tryz.sizeOf0
 v0:=Tryz.zeroValue0
 t3:=Tryz.underlying3
 a3:=Tryz.isAgg3
 z3:=Tryz.sizeOf3
 v3:=Tryz.zeroValue3
 t4:=Tryz.underlying4
 a4:=Tryz.isAgg4
 z4:=Tryz.sizeOf4
 v4:=Tryz.zeroValue4
 t5:=Tryz.underlying5
 a5:=Tryz.isAgg5
 z5:=Tryz.sizeOf5
 v5:=Tryz.zeroValue5
 t9:=Tryz.underlying9
 a9:=Tryz.isAgg9
 z9:=Tryz.sizeOf9
 v9:=Tryz.zeroValue9
 t22:=Tryz.underlying59
 a22:=Tryz.isAgg59
 z22:=Tryz.sizeOf59
 v22:=Tryz.zeroValue59
 t25:=Tryz.underlying152
 a25:=Tryz.isAgg152
 z25:=Tryz.sizeOf152
 v25:=Tryz.zeroValue152
 t39:=Tryz.underlying178
 a39:=Tryz.isAgg178
 z39:=Tryz.sizeOf178
 v39:=Tryz.zeroValue178
 t45:=Tryz.underlying236
 a45:=Tryz.isAgg236
 z45:=Tryz.sizeOf236
 v45:=Tryz.zeroValue236
 t46:=Tryz.underlying237
 a46:=Tryz.isAgg237
 z46:=Tryz.sizeOf237
 v46:=Tryz.zeroValue237
 t50:=Tryz.underlying159
 a50:=Tryz.isAgg159
 z50:=Tryz.sizeOf159
 v50:=Tryz.zeroValue159
 t53:=Tryz.underlying243
 a53:=Tryz.isAgg243
 z53:=Tryz.sizeOf243
 v53:=Tryz.zeroValue243
 t55:=Tryz.underlying245
 a55:=Tryz.isAgg245
 z55:=Tryz.sizeOf245
 v55:=Tryz.zeroValue245
 t66:=Tryz.underlying293
 a66:=Tryz.isAgg293
 z66:=Tryz.sizeOf293
 v66:=Tryz.zeroValue293
 t70:=Tryz.underlying297
 a70:=Tryz.isAgg297
 z70:=Tryz.sizeOf297
 v70:=Tryz.zeroValue297
 t76:=Tryz.underlying343
 a76:=Tryz.isAgg343
 z76:=Tryz.sizeOf343
 v76:=Tryz.zeroValue343
 t77:=Tryz.underlying344
 a77:=Tryz.isAgg344
 z77:=Tryz.sizeOf344
 v77:=Tryz.zeroValue344}
def Tryz.lays125_ren:Go.Shelf.Ren:=⟨fun|125=>135|128=>208|129=>209|n=>n,fun|46=>178|3=>3|51=>243|53=>245|4=>4|5=>5|9=>9|n=>n,fun|n=>n⟩
theorem Tryz.lays125:Go.Proofs.Lays.n125 Tryz.prog Tryz.lays125_ren:={
 mixed:=by kernel_rfl
 f125:=Tryz.func135.trans (congrArg some (by kernel_rfl))
 f128:=Tryz.func208.trans (congrArg some (by kernel_rfl))
 f129:=Tryz.func209.trans (congrArg some (by kernel_rfl))
 t3:=Tryz.underlying3
 a3:=Tryz.isAgg3
 z3:=Tryz.sizeOf3
 v3:=Tryz.zeroValue3
 t4:=Tryz.underlying4
 a4:=Tryz.isAgg4
 z4:=Tryz.sizeOf4
 v4:=Tryz.zeroValue4
 t5:=Tryz.underlying5
 a5:=Tryz.isAgg5
 z5:=Tryz.sizeOf5
 v5:=Tryz.zeroValue5
 t9:=Tryz.underlying9
 a9:=Tryz.isAgg9
 z9:=Tryz.sizeOf9
 v9:=Tryz.zeroValue9
 t46:=Tryz.underlying178
 a46:=Tryz.isAgg178
 z46:=Tryz.sizeOf178
 v46:=Tryz.zeroValue178
 t51:=Tryz.underlying243
 a51:=Tryz.isAgg243
 z51:=Tryz.sizeOf243
 v51:=Tryz.zeroValue243
 t53:=Tryz.underlying245
 a53:=Tryz.isAgg245
 z53:=Tryz.sizeOf245
 v53:=Tryz.zeroValue245}
theorem Tryz.bits_Len(x:Int)(w:World)(h0:0<=x)(a:x<=18446744073709551615):
 Calls Tryz.prog 135 #[.int .u64 x] w λe w'=>e= .returned (.int .i64 (Lib.bitLen x.toNat))/\w'=w:=Any.bits_Len Tryz.lays125 x w h0 a
def Tryz.lays137_ren:Go.Shelf.Ren:=⟨fun|137=>362|217=>254|266=>322|n=>n,fun|9=>9|5=>5|3=>3|n=>n,fun|n=>n⟩
theorem Tryz.lays137:Go.Proofs.Lays.n137 Tryz.prog Tryz.lays137_ren:={
 mixed:=by kernel_rfl
 f137:=Tryz.func362.trans (congrArg some (by kernel_rfl))
 f217:=Tryz.func254.trans (congrArg some (by kernel_rfl))
 f266:=Tryz.func322.trans (congrArg some (by kernel_rfl))
 t3:=Tryz.underlying3
 a3:=Tryz.isAgg3
 z3:=Tryz.sizeOf3
 v3:=Tryz.zeroValue3
 t5:=Tryz.underlying5
 a5:=Tryz.isAgg5
 z5:=Tryz.sizeOf5
 v5:=Tryz.zeroValue5
 t9:=Tryz.underlying9
 a9:=Tryz.isAgg9
 z9:=Tryz.sizeOf9
 v9:=Tryz.zeroValue9}
open Go.RowKit in
theorem Tryz.strings_IndexByte(s:ByteArray)(c:Int)(w:World):
 Calls Tryz.prog 362 #[.string s,.int .u8 c] w λe w'=>e= .returned (.int .i64 (Lib.indexByte s.data.toList c.toNat.toUInt8))/\w'=w:=Any.strings_IndexByte Tryz.lays137 s c w
def Tryz.laysM171_ren:Go.Shelf.Ren:=⟨fun|171=>131|243=>199|246=>277|283=>346|284=>347|285=>348|286=>349|129=>209|317=>398|318=>399|319=>400|320=>401|337=>417|338=>418|n=>n,fun|3=>3|9=>9|2=>2|4=>4|171=>339|0=>0|53=>245|37=>182|5=>5|173=>341|212=>375|51=>243|20=>20|213=>376|46=>178|232=>29|233=>397|n=>n,fun|17=>1|18=>2|19=>3|n=>n⟩
theorem Tryz.laysM171:Go.Proofs.LaysM.n171 Tryz.prog Tryz.laysM171_ren:={
 mixed:=by kernel_rfl
 f129:=Tryz.func209.trans (congrArg some (by kernel_rfl))
 f171:=Tryz.func131.trans (congrArg some (by kernel_rfl))
 f243:=Tryz.func199.trans (congrArg some (by kernel_rfl))
 f246:=Tryz.func277.trans (congrArg some (by kernel_rfl))
 f283:=Tryz.func346.trans (congrArg some (by kernel_rfl))
 f284:=Tryz.func347.trans (congrArg some (by kernel_rfl))
 f285:=Tryz.func348.trans (congrArg some (by kernel_rfl))
 f286:=Tryz.func349.trans (congrArg some (by kernel_rfl))
 f317:=Tryz.func398.trans (congrArg some (by kernel_rfl))
 f318:=Tryz.func399.trans (congrArg some (by kernel_rfl))
 f319:=Tryz.func400.trans (congrArg some (by kernel_rfl))
 f320:=Tryz.func401.trans (congrArg some (by kernel_rfl))
 f337:=Tryz.func417.trans (congrArg some (by kernel_rfl))
 f338:=Tryz.func418.trans (congrArg some (by kernel_rfl))
 t0:=Tryz.underlying0
 a0:=Tryz.isAgg0
 z0:=Tryz.sizeOf0
 v0:=Tryz.zeroValue0
 t2:=Tryz.underlying2
 a2:=Tryz.isAgg2
 z2:=Tryz.sizeOf2
 v2:=Tryz.zeroValue2
 t3:=Tryz.underlying3
 a3:=Tryz.isAgg3
 z3:=Tryz.sizeOf3
 v3:=Tryz.zeroValue3
 t4:=Tryz.underlying4
 a4:=Tryz.isAgg4
 z4:=Tryz.sizeOf4
 v4:=Tryz.zeroValue4
 t5:=Tryz.underlying5
 a5:=Tryz.isAgg5
 z5:=Tryz.sizeOf5
 v5:=Tryz.zeroValue5
 t9:=Tryz.underlying9
 a9:=Tryz.isAgg9
 z9:=Tryz.sizeOf9
 v9:=Tryz.zeroValue9
 t20:=Tryz.underlying20
 a20:=Tryz.isAgg20
 z20:=Tryz.sizeOf20
 v20:=Tryz.zeroValue20
 t37:=Tryz.underlying182
 a37:=Tryz.isAgg182
 z37:=Tryz.sizeOf182
 v37:=Tryz.zeroValue182
 t46:=Tryz.underlying178
 a46:=Tryz.isAgg178
 z46:=Tryz.sizeOf178
 v46:=Tryz.zeroValue178
 t51:=Tryz.underlying243
 a51:=Tryz.isAgg243
 z51:=Tryz.sizeOf243
 v51:=Tryz.zeroValue243
 t53:=Tryz.underlying245
 a53:=Tryz.isAgg245
 z53:=Tryz.sizeOf245
 v53:=Tryz.zeroValue245
 t171:=Tryz.underlying339
 a171:=Tryz.isAgg339
 z171:=Tryz.sizeOf339
 v171:=Tryz.zeroValue339
 t173:=Tryz.underlying341
 a173:=Tryz.isAgg341
 z173:=Tryz.sizeOf341
 v173:=Tryz.zeroValue341
 t212:=Tryz.underlying375
 a212:=Tryz.isAgg375
 z212:=Tryz.sizeOf375
 v212:=Tryz.zeroValue375
 t213:=Tryz.underlying376
 a213:=Tryz.isAgg376
 z213:=Tryz.sizeOf376
 t232:=Tryz.underlying29
 a232:=Tryz.isAgg29
 z232:=Tryz.sizeOf29
 v232:=Tryz.zeroValue29
 t233:=Tryz.underlying397
 a233:=Tryz.isAgg397
 z233:=Tryz.sizeOf397
 v233:=Tryz.zeroValue397
 g17:=by kernel_rfl
 g18:=by kernel_rfl
 g19:=by kernel_rfl
 i0:=by kernel_rfl
 i2:=by kernel_rfl
 i3:=by kernel_rfl
 i4:=by kernel_rfl
 i5:=by kernel_rfl
 i9:=by kernel_rfl
 i20:=by kernel_rfl
 i37:=by kernel_rfl
 i46:=by kernel_rfl
 i51:=by kernel_rfl
 i53:=by kernel_rfl
 i171:=by kernel_rfl
 i173:=by kernel_rfl
 i212:=by kernel_rfl
 i232:=by kernel_rfl
 i233:=by kernel_rfl
 m17:=by kernel_rfl
 m18:=by kernel_rfl
 m19:=by kernel_rfl}
open Go.RowKit Go.Sort Go.Lib in
theorem Tryz.strconv_Itoa(n:Int)(h0: -9223372036854775808<=n)(b:n<=9223372036854775807)(w:World)(a:Lib.TabIs Tryz.prog w "internal/strconv.uint64pow10" .u64 Lib.pow10Tab):
 Calls Tryz.prog 131 #[.int .i64 n] w λe w'=>e= .returned (.string ⟨(Lib.itoa n).toArray⟩)/\ ∃k c,w'=grow (w.drewN k) c:=Any.strconv_Itoa Tryz.laysM171 n h0 b w a
end Go.Proofs
namespace Go.Proofs.Q
open Go Go.Bb Go.RowKit Go.Proofs.Lg
open Go.Ab (D RD)
set_option maxRecDepth 10000 in
theorem YT:aI Tryz.prog 326 [] (.agg (bx .u32 gP)):=by
 have b:gP.length=64:=by decide
 have a:(bx .u32 gP).take 64=bx .u32 gP:=dL (by rw[ff,b];decide);refine aL Tryz.f326 ?_ [300001]
 repeat' first|refine ab (λ_=> ?_) λ_=> ?_|refine aH ?_|simp only[↓I4,NX,aM,ff,b,a,wy,qg,aE,reduceCtorEq,reduceIte,Nat.reduceAdd,Nat.reduceMul,Nat.reduceEqDiff,Nat.reduceLT,Nat.reduceLeDiff,Nat.reduceSub,ax,aD,aB,aw]
theorem YU:aI Tryz.prog 258 [] (.agg (bx .u32 jO)):=by
 have a:(bx .u32 jO).take 8=bx .u32 jO:=dL (by decide);have b: ∀vs:List AV,vs.length=8->ba ((bx .u32 (List.replicate 8 0)).map .d) 0 8 vs=some vs:=λvs h=>mL (k:= .u32) (by rfl) h
 have e:((((((((List.replicate 8 (0:Int)).set 0 1779033703).set 1 3144134277).set 2 1013904242).set 3 2773480762).set 4 1359893119).set 5 2600822924).set 6 528734635).set 7 1541459225=jO:=by rfl
 have c:jO.length=8:=rfl;refine aL Tryz.f258 ?_ [300001]
 repeat' first|refine ab (λ_=> ?_) λ_=> ?_|refine aH ?_|simp only[z8,ox,b,aM,ff,jU,gH,Nat.zero_lt_succ,e,c,a,Int.reduceLE,Int.reduceLT,Int.reduceGE,Int.reduceGT,Int.reduceEq,Int.reduceNe,Int.reduceBEq,Int.reduceBNe,decide_true,decide_false,wy,qg,aE,reduceCtorEq,reduceIte,Nat.reduceAdd,Nat.reduceMul,Nat.reduceEqDiff,Nat.reduceLT,Nat.reduceLeDiff,Nat.reduceSub,ax,aD,aB,aw]
abbrev vU(x:Int):AV:= .d (.sc (.int .u32 x))
theorem Nx{v:List Int}(h:v.length=8):v=[at_ v 0,at_ v 1,at_ v 2,at_ v 3,at_ v 4,at_ v 5,at_ v 6,at_ v 7]:=by
 obtain⟨a,b,c,d,e,f,g,i,rfl⟩:=JZ h;rfl
set_option maxRecDepth 20000 in
set_option maxHeartbeats 4000000 in
theorem YS(h:List Int)(s:bb)(B:h.length=8)(V:s.size=64):aI Tryz.prog 260 [.agg (bx .u32 h),dS s] (.agg (bx .u32 (jn h s))):=by
 have H:=YV s V;have u:(sched s).length=64:=by rw[sched,G3,G2];simp
 have t:gP.length=64:=by decide
 have G:(bx .u32 (sched s)).take 64=bx .u32 (sched s):=dL (by rw[ff,u];decide);have F:(bx .u32 gP).take 64=bx .u32 gP:=dL (by rw[ff,t];decide);have I:=im (w:=h) (i:=0) a8;have z:=im (w:=h) (i:=1) a8;have A:=im (w:=h) (i:=2) a8;have J:=im (w:=h) (i:=3) a8
 have K:=im (w:=h) (i:=4) a8;have L:=im (w:=h) (i:=5) a8;have M:=im (w:=h) (i:=6) a8;have N:=im (w:=h) (i:=7) a8;refine aL Tryz.f260 ?_ [300110] [[39,13,12,11,10,9,8,7,5,6,14,2,4],[111,2,110,4]]
 repeat' first|refine ab (λ_=> ?_) λ_=> ?_|refine aH ?_|refine af.data (H) rfl ?_|refine af.data (YT) rfl ?_|simp only[z64,z8,mL (gH ..),aM,ff,u,t,B,G,F,I,z,A,J,K,L,M,N,pk,Int.reduceToNat,Int.reduceLE,Int.reduceLT,Int.reduceGE,Int.reduceGT,Int.reduceEq,Int.reduceNe,Int.reduceBEq,Int.reduceBNe,decide_true,decide_false,wy,qg,aE,reduceCtorEq,reduceIte,Nat.reduceAdd,Nat.reduceMul,Nat.reduceEqDiff,Nat.reduceLT,Nat.reduceLeDiff,Nat.reduceSub,ax,aD,aB,aw]
 clear H G F I z A J K L M N;obtain⟨R,n⟩: ∃R,R=rounds (gP.zip (sched s)) h:=⟨_,rfl⟩
 have C:R.length=8:=by rw[n];exact FQ _ _ B
 have Q:jn h s=oQ R (List.range 8) h:=by rw[n];rfl
 rw[Q];clear Q
 refine aZ.overI (gP.zip (sched s)) (λk (v:List Int)=>[(39,iN k),(7,vU (at_ v 0)),(8,vU (at_ v 1)),(9,vU (at_ v 2)),(10,vU (at_ v 3)),(11,vU (at_ v 4)),(12,vU (at_ v 5)),(13,vU (at_ v 6)),(14,vU (at_ v 7))]) (λk v=>[.cells ((bx .u32 h).map .d),.cells ((bx .u32 (List.replicate 8 0)).map .d),.cells ((bx .u32 (sched s)).map .d),.cells ((bx .u32 gP).map .d)]) (λr v=>rounds r v) R (λk v=>v.length=8) h (by rw[xG,u,t];decide) aA aA rfl n B (λk v x hg hk p E m o=> ?_) (λv p m o=> ?_)
 .obtain⟨X,Y⟩:=x;obtain⟨O,P⟩:=tN hg;rw[xG,u,t]at hk;have q:((k:Int)<64)=True:=by simp;omega
  rw[rounds]at m;dsimp only at O P;clear n C p u t hg;rw[Nx o]at m;obtain⟨a,ha⟩: ∃a,a=at_ v 0:=⟨_,rfl⟩
  obtain⟨b,hb⟩: ∃a,a=at_ v 1:=⟨_,rfl⟩
  obtain⟨c,hc⟩: ∃a,a=at_ v 2:=⟨_,rfl⟩
  obtain⟨d,p⟩: ∃a,a=at_ v 3:=⟨_,rfl⟩
  obtain⟨e,S⟩: ∃a,a=at_ v 4:=⟨_,rfl⟩
  obtain⟨f,T⟩: ∃a,a=at_ v 5:=⟨_,rfl⟩
  obtain⟨g,hg⟩: ∃a,a=at_ v 6:=⟨_,rfl⟩
  obtain⟨i,hi⟩: ∃a,a=at_ v 7:=⟨_,rfl⟩
  rw[<-ha,<-hb,<-hc,<-p,<-S,<-T,<-hg,<-hi]at m⊢;clear ha hb hc p S T hg hi
  repeat' first|refine ab (λ_=> ?_) λ_=> ?_|refine aH ?_|refine af.data (qA _ 6 (by decide) (by decide)) rfl ?_|refine af.data (qA _ 11 (by decide) (by decide)) rfl ?_|refine af.data (qA _ 25 (by decide) (by decide)) rfl ?_|refine af.data (qA _ 2 (by decide) (by decide)) rfl ?_|refine af.data (qA _ 13 (by decide) (by decide)) rfl ?_|refine af.data (qA _ 22 (by decide) (by decide)) rfl ?_|simp only[q,E,O,P,pk,Int.reduceToNat,Int.reduceLE,Int.reduceLT,Int.reduceGE,Int.reduceGT,Int.reduceEq,Int.reduceNe,Int.reduceBEq,Int.reduceBNe,decide_true,decide_false,wy,qg,aE,reduceCtorEq,reduceIte,Nat.reduceAdd,Nat.reduceMul,Nat.reduceEqDiff,Nat.reduceLT,Nat.reduceLeDiff,Nat.reduceSub,ax,aD,aB,aw]
  exact⟨FP X Y [a,b,c,d,e,f,g,i],⟨rfl,rfl,rfl,rfl,rfl,rfl,rfl,rfl⟩,m,rfl⟩
 .have W:(gP.zip (sched s)).length=64:=by rw[xG,u,t];decide
  have D:R=v:=m;subst D;have j:((((((((List.replicate 8 (0:Int)).set 0 (at_ R 0)).set 1 (at_ R 1)).set 2 (at_ R 2)).set 3 (at_ R 3)).set 4 (at_ R 4)).set 5 (at_ R 5)).set 6 (at_ R 6)).set 7 (at_ R 7)=R:=by
   conv=>rhs;rw[Nx o]
   rfl
  repeat' first|refine ab (λ_=> ?_) λ_=> ?_|refine aH ?_|simp only[W,z8,ox,j,aM,ff,jU,gH,Nat.zero_lt_succ,Int.reduceLE,Int.reduceLT,Int.reduceGE,Int.reduceGT,Int.reduceEq,Int.reduceNe,Int.reduceBEq,Int.reduceBNe,decide_true,decide_false,wy,qg,aE,reduceCtorEq,reduceIte,Nat.reduceAdd,Nat.reduceMul,Nat.reduceEqDiff,Nat.reduceLT,Nat.reduceLeDiff,Nat.reduceSub,ax,aD,aB,aw]
  clear j
  refine aZ.overI (List.range 8) (λk (v:List Int)=>[(111,iN k)]) (λk v=>[.cells ((bx .u32 v).map .d),.cells ((bx .u32 (List.replicate 8 0)).map .d),.cells ((bx .u32 (sched s)).map .d),.cells ((bx .u32 gP).map .d)]) (λr v=>oQ R r v) (oQ R (List.range 8) h) (λk v=>v.length=8) h (by decide) aA aA rfl rfl B (λk v x hg hk p E m o=> ?_) (λv p m o=> ?_)
  .simp only[dX]at hk;obtain rfl:k=x:=by rw[qK a8]at hg;simpa using hg
   have q:((k:Int)<8)=True:=by simp;omega
   have z:=im (w:=v) (i:=k) a8;have A:=im (w:=R) (i:=k) a8;have y:=λx=>ox (k:= .u32) (l:=v) (i:=k) a8 x;clear p
   repeat' first|refine ab (λ_=> ?_) λ_=> ?_|refine aH ?_|simp only[q,E,z,A,pk,y,Int.reduceLE,Int.reduceLT,Int.reduceGE,Int.reduceGT,Int.reduceEq,Int.reduceNe,Int.reduceBEq,Int.reduceBNe,decide_true,decide_false,wy,qg,aE,reduceCtorEq,reduceIte,Nat.reduceAdd,Nat.reduceMul,Nat.reduceEqDiff,Nat.reduceLT,Nat.reduceLeDiff,Nat.reduceSub,ax,aD,aB,aw]
   exact⟨v.set k (aW (at_ v k) (at_ R k)),rfl,m,by simp[o]⟩
  .have D:oQ R (List.range 8) h=v:=m;have U:(bx .u32 v).take 8=bx .u32 v:=dL (by rw[ff,o];decide)
   repeat' first|refine ab (λ_=> ?_) λ_=> ?_|refine aH ?_|simp only[Int.reduceLE,Int.reduceLT,Int.reduceGE,Int.reduceGT,Int.reduceEq,Int.reduceNe,Int.reduceBEq,Int.reduceBNe,decide_true,decide_false,dX,U,mL (gH ..),aM,ff,o,wy,qg,aE,reduceCtorEq,reduceIte,Nat.reduceAdd,Nat.reduceMul,Nat.reduceEqDiff,Nat.reduceLT,Nat.reduceLeDiff,Nat.reduceSub,ax,aD,aB,aw]
   rw[D]
end Go.Proofs.Q
namespace Go.Proofs
open Go.Shelf
def Tryz.laysSortIds_ren:Go.Shelf.Ren:=⟨fun|6=>214|15=>135|14=>283|28=>208|29=>209|20=>351|21=>352|22=>353|23=>354|24=>355|25=>356|26=>357|27=>358|46=>402|47=>279|48=>280|49=>403|50=>404|57=>419|n=>n,fun|22=>44|24=>32|25=>100|3=>3|39=>178|0=>0|53=>243|55=>245|4=>4|46=>237|45=>236|50=>159|5=>5|9=>9|66=>293|70=>297|76=>343|77=>344|n=>n,fun|n=>n⟩
theorem Tryz.laysSortIds:Go.Proofs.SlLaysF0.n6 Tryz.prog Tryz.laysSortIds_ren:={
 mixed:=by kernel_rfl
 f6:=⟨Tryz.f214.name,by decide,Tryz.func214.trans (congrArg some (by kernel_rfl))⟩
 f14:=⟨Tryz.f283.name,by decide,Tryz.func283.trans (congrArg some (by kernel_rfl))⟩
 f15:=Tryz.func135.trans (congrArg some (by kernel_rfl))
 f20:=⟨Tryz.f351.name,by decide,Tryz.func351.trans (congrArg some (by kernel_rfl))⟩
 f21:=⟨Tryz.f352.name,by decide,Tryz.func352.trans (congrArg some (by kernel_rfl))⟩
 f22:=⟨Tryz.f353.name,by decide,Tryz.func353.trans (congrArg some (by kernel_rfl))⟩
 f23:=⟨Tryz.f354.name,by decide,Tryz.func354.trans (congrArg some (by kernel_rfl))⟩
 f24:=⟨Tryz.f355.name,by decide,Tryz.func355.trans (congrArg some (by kernel_rfl))⟩
 f25:=⟨Tryz.f356.name,by decide,Tryz.func356.trans (congrArg some (by kernel_rfl))⟩
 f26:=⟨Tryz.f357.name,by decide,Tryz.func357.trans (congrArg some (by kernel_rfl))⟩
 f27:=⟨Tryz.f358.name,by decide,Tryz.func358.trans (congrArg some (by kernel_rfl))⟩
 f28:=Tryz.func208.trans (congrArg some (by kernel_rfl))
 f29:=Tryz.func209.trans (congrArg some (by kernel_rfl))
 f46:=⟨Tryz.f402.name,by decide,Tryz.func402.trans (congrArg some (by kernel_rfl))⟩
 f47:=Tryz.func279.trans (congrArg some (by kernel_rfl))
 f48:=Tryz.func280.trans (congrArg some (by kernel_rfl))
 f49:=⟨Tryz.f403.name,by decide,Tryz.func403.trans (congrArg some (by kernel_rfl))⟩
 f50:=⟨Tryz.f404.name,by decide,Tryz.func404.trans (congrArg some (by kernel_rfl))⟩
 f57:=⟨Tryz.f419.name,by decide,Tryz.func419.trans (congrArg some (by kernel_rfl))⟩
 t0:=Tryz.underlying0
 a0:=Tryz.isAgg0
 z0:=Tryz.sizeOf0
 v0:=Tryz.zeroValue0
 t3:=Tryz.underlying3
 a3:=Tryz.isAgg3
 z3:=Tryz.sizeOf3
 v3:=Tryz.zeroValue3
 t4:=Tryz.underlying4
 a4:=Tryz.isAgg4
 z4:=Tryz.sizeOf4
 v4:=Tryz.zeroValue4
 t5:=Tryz.underlying5
 a5:=Tryz.isAgg5
 z5:=Tryz.sizeOf5
 v5:=Tryz.zeroValue5
 t9:=Tryz.underlying9
 a9:=Tryz.isAgg9
 z9:=Tryz.sizeOf9
 v9:=Tryz.zeroValue9
 t22:=Tryz.underlying44
 a22:=Tryz.isAgg44
 z22:=Tryz.sizeOf44
 v22:=Tryz.zeroValue44
 t25:=Tryz.underlying100
 a25:=Tryz.isAgg100
 z25:=Tryz.sizeOf100
 v25:=Tryz.zeroValue100
 t39:=Tryz.underlying178
 a39:=Tryz.isAgg178
 z39:=Tryz.sizeOf178
 v39:=Tryz.zeroValue178
 t45:=Tryz.underlying236
 a45:=Tryz.isAgg236
 z45:=Tryz.sizeOf236
 v45:=Tryz.zeroValue236
 t46:=Tryz.underlying237
 a46:=Tryz.isAgg237
 z46:=Tryz.sizeOf237
 v46:=Tryz.zeroValue237
 t50:=Tryz.underlying159
 a50:=Tryz.isAgg159
 z50:=Tryz.sizeOf159
 v50:=Tryz.zeroValue159
 t53:=Tryz.underlying243
 a53:=Tryz.isAgg243
 z53:=Tryz.sizeOf243
 v53:=Tryz.zeroValue243
 t55:=Tryz.underlying245
 a55:=Tryz.isAgg245
 z55:=Tryz.sizeOf245
 v55:=Tryz.zeroValue245
 t66:=Tryz.underlying293
 a66:=Tryz.isAgg293
 z66:=Tryz.sizeOf293
 v66:=Tryz.zeroValue293
 t70:=Tryz.underlying297
 a70:=Tryz.isAgg297
 z70:=Tryz.sizeOf297
 v70:=Tryz.zeroValue297
 t76:=Tryz.underlying343
 a76:=Tryz.isAgg343
 z76:=Tryz.sizeOf343
 v76:=Tryz.zeroValue343
 t77:=Tryz.underlying344
 a77:=Tryz.isAgg344
 z77:=Tryz.sizeOf344
 v77:=Tryz.zeroValue344}
end Go.Proofs
