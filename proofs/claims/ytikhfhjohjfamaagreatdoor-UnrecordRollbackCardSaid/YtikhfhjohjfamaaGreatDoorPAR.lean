/- Lemmas. -/
import Derived.Test.YtikhfhjohjfamaaGreatDoorPAP
import Derived.Test.YtikhfhjohjfamaaGreatDoorPAQ
import Derived.Lib.UnsafeStr
set_option linter.unusedVariables false
set_option linter.unusedSimpArgs false
set_option maxRecDepth 100000
namespace Go.Proofs.Q
open Go Go.Bb Go.RowKit Go.Proofs.Lg
open Go.Ab (D RD)
theorem L9(k:Int)(a:ay):aI Tryz.prog 268 [dI k,.agg (aO a)] (dB (gN k a)):=by
 unfold gN nG;refine aL Tryz.f268 ?_ [100003]
 repeat' first|refine ab (λ_=> ?_) λ_=> ?_|refine aG trivial trivial ?_|exact aF trivial trivial|fail
 all_goals simp_all
def mU(k:Int):Int:=if k=2 then 2 else if k=3 then 3 else if k=4 then 4 else if k=6 then 6 else 0
theorem Lb(k:Int):aI Tryz.prog 271 [dI k] (dI (mU k)):=by
 unfold mU;refine aL Tryz.f271 ?_
 repeat' first|refine ab (λ_=> ?_) λ_=> ?_|refine aG trivial trivial ?_|exact aF trivial trivial|fail
 all_goals simp_all
theorem Va(a:ay)(c:az):aI Tryz.prog 267 [.agg (aO a),.ref (aR c)] (dB (gN c.kind a)):=by
 refine aL Tryz.f267 ?_ [100002]
 repeat' first|refine ab (λ_=> ?_) λ_=> ?_|refine aG @wj @L9 ?_|exact aF @wj @L9|fail
 all_goals first|rfl|simp_all
theorem Vb(a:ay):aI Tryz.prog 269 [.agg (aO a)] (dB (np a)):=by
 unfold np;refine aL Tryz.f269 ?_ [100001]
 repeat' first|refine ab (λ_=> ?_) λ_=> ?_|refine aG trivial trivial ?_|exact aF trivial trivial|fail
 all_goals simp_all
theorem Vc(a:ay)(x:ak)(c:az)(f:ak):aI Tryz.prog 270 [.agg (aO a),.ref (ae x),.ref (aR c),.ref (ae f)] (dB (decide (x=c.file)||oY f a)):=by
 unfold oY;refine aL Tryz.f270 ?_ [100004]
 repeat' first|refine ab (λ_=> ?_) λ_=> ?_|refine aG trivial trivial ?_|exact aF trivial trivial|fail
 all_goals simp_all
theorem Vd(a:ay)(k:Int)(f:ak):aI Tryz.prog 272 [.agg (aO a),.ref [.sc (.int .i64 k)],.ref (ae f)] (dB (decide (k=0)||(decide (a.kind=k)&&decide (a.file=f)))):=by
 refine aL Tryz.f272 ?_ [100003]
 repeat' first|refine ab (λ_=> ?_) λ_=> ?_|refine aG trivial trivial ?_|exact aF trivial trivial|fail
 all_goals simp_all
abbrev vT:AV:= .tup []
theorem C1(a b v:AV):ba [a,b] 0 1 [v]=some [v,b]:=rfl
theorem cF{s:List aa}{id:Nat}{o:aa}(h:s[id]?=some o)(J:List aa):(s++J)[id]?=some o:=by
 rw[fP (aV.1 h).1];exact h
theorem I8: ∀(d:Nat) (x:Sx) (c n id:Nat) (s:List aa),eX d x->n+bW d x<=20000->c+d<=13->s[id]?=some (.cells [iN n,.d (dB false)])->
  bs Tryz.prog 406 [.ptr id 0,.d (.agg (aj x)),.d (dI c)] s λE z=>E=vT/\z[id]?=some (.cells [iN (n+bW d x),.d (dB false)])
 |0,_,_,_,_,_,h,_,_,_=>h.elim
 |d+1,.mk b a l,c,n,id,s,hg0,hn,hlev,hs=>by
  have hp:=sV hg0;have B:=I8 d;have w:=(aV.1 hs).1;have f: ∀X:aa,(s.set id X)[id]?=some X:=λX=>by rw[fB];simp[w]
  have A:IntKind.i64.wrap ((n:Int)+1)=((n+1:Nat):Int):=oC a8 a8;have t:decide (((n+1:Nat):Int)>20000)=false:=by simp;omega
  have u:decide ((c:Int)>12)=false:=by simp;omega
  refine cz Tryz.f406 ?_ [100004] [[0,2,33,31,32]];rw[lT]
  repeat' first|refine ab (λ_=> ?_) λ_=> ?_|refine aG (ga @hs (ga @f (ga @C1 (ga @A (ga @t (ga @u @wj)))))) trivial ?_|exact aF (ga @hs (ga @f (ga @C1 (ga @A (ga @t (ga @u @wj)))))) trivial|fail
  .rename_i hb;subst hb;have v:bW (d+1) (.mk true a l)=1+(l.map (bW d)).sum:=rfl;have j:l.length<=(l.map (bW d)).sum:=uY _ λx y=>by
    obtain⟨k,hk⟩:=fE y;exact sV (hg0.mem hk)
   rw[v]at hn;refine aZ.overI l (λk (b:Nat×List aa)=>[(33,iN k)]) (λ_ b=>b.2) (λr b=>b.1+(r.map (bW d)).sum) (n+1+(l.map (bW d)).sum) (λ_ b=>b.2[id]?=some (.cells [iN b.1,.d (dB false)])) (n+1,s.set id (.cells [iN (n+1),.d (dB false)])) a8 aA aA rfl rfl (f _) (λk b x hg hk q C p i=> ?_) (λb q p i=> ?_)
   .obtain⟨m,b⟩:=b;dsimp only at p i;have y:=hg0.mem hg;have o:((x::l.drop (k+1)).map (bW d)).sum=bW d x+((l.drop (k+1)).map (bW d)).sum:=by simp
    rw[o]at p;have D:IntKind.i64.wrap ((c:Int)+1)=((c+1:Nat):Int):=oC a8 a8;have g: ∀J,(b++J)[id]?=_:=cF i;have hc:=λJ=>B x (c+1) m id (b++J) y a8 a8 (g J);clear B v j hp t u f A
    repeat' first|refine ab (λ_=> ?_) λ_=> ?_|(refine af.fn ((hc _).mono ?_);rintro _ z ⟨rfl,F⟩)|refine aG (ga @q (ga @C (ga @hg (ga @D (ga @i (ga @g (ga @C1 (ga @ec (ga @dh @wj))))))))) trivial ?_|exact aF (ga @q (ga @C (ga @hg (ga @D (ga @i (ga @g (ga @C1 (ga @ec (ga @dh @wj))))))))) trivial|fail
    exact⟨(m+bW d x,z),rfl,by dsimp only;omega,F⟩
   .refine aC @q trivial ?_;simp at p;have e:n+bW (d+1) (.mk true a l)=b.1:=by rw[v];omega
    rw[e];exact i
  .rename_i hb;subst hb;rfl
theorem Ia: ∀(d:Nat) (x:Sx),eX d x->bW d x<=1000000000->aI Tryz.prog 407 [.agg (aj x)] (dI 0)
 |0,_,h,_=>h.elim
 |d+1,.mk b a l,hg0,hn=>by
  have g:=Ia d;rcases id hg0 with⟨rfl,rfl,ha⟩|⟨rfl,rfl,hl⟩
  .have m:decide ((a.size:Int)>65536)=false:=by simp;omega
   refine aL Tryz.f407 ?_ [100001] [[33,31,32]];rw[lT]
   repeat' first|refine ab (λ_=> ?_) λ_=> ?_|refine aH ?_|simp only[m,gt_iff_lt,n0,decide_false,wy,qg,aE,simprocAttr,ax,aD,aB,aw]
   refine aZ.overI ([]:List Sx) (λk (b:Unit)=>[(33,iN k)]) (λ_ _=>[]) (λ_ _=>()) () (λ_ _=>True) () (by simp) aA aA rfl rfl trivial (λk b x hg hk c j f e=>by cases hg) (λb c f e=> ?_);exact bL trivial trivial
  .have n:bW (d+1) (.mk true ⟨#[]⟩ l)=1+(l.map (bW d)).sum:=rfl;have i:l.length<=(l.map (bW d)).sum:=uY _ λx p=>sV (hl x p);rw[n]at hn;refine aL Tryz.f407 ?_ [100001] [[33,31,32]];rw[lT];have o:decide (((⟨#[]⟩:ByteArray).size:Int)>65536)=false:=rfl;refine aC (ga @mq @o) trivial ?_
   refine aZ.overI l (λk (b:List aa)=>[(33,iN k)]) (λ_ b=>b) (λ_ _=>()) () (λ_ _=>True) ([]:List aa) a8 aA aA rfl rfl trivial (λk b x hg hk c j f e=> ?_) (λb c f e=> ?_)
   .have hc:=g x (hl x (bR hg)) (by have:=zG (bW d) hg;omega);clear g;refine aC (ga @c (ga @j (ga @hg (ga @ec (ga @dh @wj))))) @hc ?_;exact⟨_,rfl⟩
   .repeat' first|refine ab (λ_=> ?_) λ_=> ?_|refine aG @c trivial ?_|exact aF @c trivial|fail
theorem QK{x:Sx}(hg:eX 6 x)(e:bW 6 x<=20000):aI Tryz.prog 374 [.agg (aj x)] (dI 0):=by
 have a:=Ia 6 x hg a8;have b:=I8 6 x 1 0 0 [.cells [iN 0,.d (dB false)]] hg a8 a8 rfl;refine aL Tryz.f374 ?_ [100001]
 repeat' first|refine ab (λ_=> ?_) λ_=> ?_|(refine af.fn (b.mono ?_);rintro _ f ⟨rfl,c⟩)|refine aG @wj @a ?_|exact aF @wj @a|fail
 exact bL (ga @c @wj) @a
end Go.Proofs.Q
namespace Go.Proofs.Lh
open Go Go.Ab Go.Bb Go.RowKit Go.Proofs.Lg
def self(b:Nat):Value:= .pointer (some ⟨b,0,none⟩)
set_option maxHeartbeats 1000000 in
set_option maxRecDepth 100000 in
theorem QH(b:Nat)(w:World)(h0:w.cell? ⟨b,0,none⟩=some (.pointer (some ⟨b,0,none⟩))):
  Calls Tryz.prog 420 #[.pointer (some ⟨b,0,none⟩)] w λe w'=>e= .returned (.tuple #[])/\w'=w:=by
 obtain⟨j,a⟩: ∃j,Tryz.prog.info? 361=some j:=vB.1 (show(Tryz.prog.info? 361).isSome=true by kernel_rfl)
 go_enter Tryz.func420,Tryz.ntmps420
 go_wp2
 rw[Go.Lib.run_neq_ptr_same w _ Tryz.underlying359 a]
 go_wp2
 go_end0
 exact⟨rfl,rfl⟩
set_option maxHeartbeats 1000000 in
set_option maxRecDepth 100000 in
theorem QG(b:Nat)(w:World)(h0:w.cell? ⟨b,0,none⟩=some (.pointer none))(c:w.shape? b=some (361,2))(g:w.frozen? ⟨b,0,none⟩=false):
  Calls Tryz.prog 420 #[.pointer (some ⟨b,0,none⟩)] w λe w'=>e= .returned (.tuple #[])/\w'=w.setCell ⟨b,0,none⟩ (.pointer (some ⟨b,0,none⟩)):=by
 obtain⟨j,f,d⟩: ∃j,Tryz.prog.info? 361=some j/\j.size=2:=dy.1 (show(Tryz.prog.info? 361).map (·.size)=some 2 by kernel_rfl);have a:liesAt Tryz.prog Tryz.prog.depth 361 (2/Tryz.prog.cellsOf 361) 0 361 1=true:=by kernel_rfl
 go_enter Tryz.func420,Tryz.ntmps420
 go_wp2
 rw[Go.Lib.run_to_unsafe w ⟨b,0,none⟩ Tryz.underlying359 Tryz.underlying398 f (by rw[d];decide) c (Nat.zero_lt_succ 1)];simp only[Result.andThen];rw[Oper.upon_value]
 go_wp2
 rw[run_callFunc_extern Tryz.func422 (by kernel_rfl) (by kernel_rfl) (by kernel_rfl) (e:=Extern.AbiNoEscape.same) (by kernel_rfl)];rw[Go.Lib.run_noEscape];simp only[Result.andThen];rw[Oper.upon_value]
 go_wp2
 rw[Go.Lib.run_from_unsafe w ⟨b,0,none⟩ Tryz.underlying398 Tryz.underlying359 f c a];simp only[Result.andThen];rw[Oper.upon_value]
 go_wp2
 go_end0
 exact⟨rfl,rfl⟩
theorem YD{w:World}{b:Nat}{p v:Value}{t:TypeId}(a:w.heap[b]?=some (.cells #[p,v] t (0,0))):w.setCell ⟨b,0,none⟩ p=w:=by
 rw[setCell_eq_setRow w b 0 _ t (0,0) p a];exact setRow_self w b _ t (0,0) a
theorem I6{b:Nat}{w:World}{p v:Value}(a:w.heap[b]?=some (.cells #[p,v] 361 (0,0)))(hp:p= .pointer none\/p=self b):
  Calls Tryz.prog 420 #[.pointer (some ⟨b,0,none⟩)] w λe w'=>e= .returned (.tuple #[])/\w'=w.setCell ⟨b,0,none⟩ (self b):=by
 have h0:w.cell? ⟨b,0,none⟩=some p:=by rw[Go.Lib.cell_of_heap a];rfl
 rcases hp with rfl|rfl
 .exact QG b w h0 (by simp[World.shape?,a]) (by simp[World.frozen?,a])
 .rw[YD a];exact QH b w h0
theorem G5{w:World}{b:Nat}{p v:Value}{t:TypeId}(a:w.heap[b]?=some (.cells #[p,v] t (0,0)))(u:Value):(w.setCell ⟨b,0,none⟩ u).heap[b]?=some (.cells #[u,v] t (0,0)):=by
 rw[setCell_eq_setRow w b 0 _ t (0,0) u a];exact setRow_heap w b _ _ t (0,0) a
theorem G6{w:World}{b i j:Nat}{u:Value}(h:j≠b):(w.setCell ⟨b,i,none⟩ u).heap[j]?=w.heap[j]? :=Below.heap_setCell _ _ _ _ h
def rZ(b c:World)(B n m:Nat)(v a:Value)(xs:List Value):Prop:=(m=0/\a=v/\c=b)\/(0<m/\D5 b c B 5 1 n m v a xs)
theorem rZ.kept{a c:World}{B n m b:Nat}{v d:Value}{xs:List Value}(h:rZ a c B n m v d xs)(hne:v.ownBlock≠some b)(hb:b<a.heap.size):c.heap[b]?=a.heap[b]? :=by
 rcases h with⟨_,_,rfl⟩|⟨_,_,_,⟨g,h1,h2,h3⟩|⟨h1,h2,h3⟩⟩
 .rfl
 .exact h3.block b hb (λe=>hne (by rw[h2];exact e.symm))
 .exact h3.block b hb (by simp)
theorem rZ.form{e f:World}{B n m:Nat}{v b:Value}{xs:List Value}(h:rZ e f B n m v b xs)(d: ∃a n c,v= .slice a n c): ∃a n c,b= .slice a n c:=by
 rcases h with⟨_,rfl,_⟩|⟨_,h1,_⟩
 .exact d
 .obtain⟨a,c,h⟩:=wL h1;exact⟨a,_,c,h⟩
theorem Sl: ∃i,Tryz.prog.info? 5=some i/\i.zero=some (.int .u8 0)/\i.size=1/\i.bytes=1:=by
 obtain⟨i,hi,h⟩:=dy.1 (show(Tryz.prog.info? 5).map (λi=>(i.zero,i.size,i.bytes))=some (some (.int .u8 0),1,1) by kernel_rfl);simp only[Prod.mk.injEq]at h;exact⟨i,hi,h⟩
theorem Hn(a:World)(B:Nat)(c:TypeId){n m:Nat}{v x:Value}{xs news:List Value}(d:eK a B 5 1 v n xs)(q:Src Tryz.prog 1 c x m news a)(k:n+m<=140737488355328)(o:B<=a.heap.size):
  ∃g h,(∀e,(Builtin.append_ #[182,c] e #[v,x]).run Tryz.prog a= .ok g h)/\rZ a h B n m v g (xs++news):=by
 obtain⟨i,hi,r,f,l⟩:=Sl;have b:eK a B 5 i.size v n xs:=by rw[f];exact d
 have j:Src Tryz.prog i.size c x m news a:=by rw[f];exact q
 obtain⟨g,h,p,hc,_⟩:=Mu (P:=Tryz.prog) a B 182 c 182 5 i (.int .u8 0) Tryz.underlying182 hi r (by rw[f];rfl) v n xs b x m news j a8 (by rw[l];omega) o;rw[f]at hc;refine⟨g,h,λe=> ?_,hc⟩;have: ∀e,Builtin.append_ #[182,c] e #[v,x]=Builtin.append_ #[182,c] 182 #[v,x]:=λe=>rfl;rw[this];exact p
def Written(w w':World)(B b n m:Nat)(v:Value)(xs:List Value):Prop:=
 ∃a c,rZ (w.setCell ⟨b,0,none⟩ (self b)) c B n m v a xs/\w'=c.setCell ⟨b,1,none⟩ a
set_option maxHeartbeats 1000000 in
set_option maxRecDepth 100000 in
theorem Pc{B b n:Nat}{w:World}{p v:Value}{xs:List Value}(s:ByteArray)(d:w.heap[b]?=some (.cells #[p,v] 361 (0,0)))(hp:p= .pointer none\/p=self b)(f:eK w B 5 1 v n xs)(hne:v.ownBlock≠some b)
  (o:n+s.size<=140737488355328) (D:B<=w.heap.size):
  Calls Tryz.prog 408 #[.pointer (some ⟨b,0,none⟩),.string s] w λe w'=>e= .returned (.tuple #[.int .i64 s.size,.nilIface])/\Written w w' B b n s.size v (xs++byteCells s):=by
 have l:=I6 d hp;have j:=G5 d (self b);have u:b<w.heap.size:=(gy.1 d).1;have x:(w.setCell ⟨b,0,none⟩ (self b)).heap.size=w.heap.size:=by rw[setCell_eq_setRow w b 0 _ _ (0,0) _ d,setRow_size]
 have i:eK (w.setCell ⟨b,0,none⟩ (self b)) B 5 1 v n xs:=yW f λg hg=>G6 (λe=>hne (by rw[hg,e]));obtain⟨t,q,r,hc⟩:=Hn (w.setCell ⟨b,0,none⟩ (self b)) B 9 i (Src.ofString (P:=Tryz.prog) _ Tryz.underlying9 s) o a8;have k:=(hc.kept hne a8).trans j;have m:=hc.form (by obtain⟨a,c,h⟩:=wL f;exact⟨a,_,c,h⟩)
 have W:Hid (Written w (q.setCell ⟨b,1,none⟩ t) B b n s.size v (xs++byteCells s)):=Go.Lib.hid ⟨t,q,hc,rfl⟩;generalize w.setCell ⟨b,0,none⟩ (self b)=w1 at l j r;have z:w1.cell? ⟨b,1,none⟩=some v:=by rw[Go.Lib.cell_of_heap j];rfl
 have A:q.cell? ⟨b,1,none⟩=some v:=by rw[Go.Lib.cell_of_heap k];rfl
 have C:q.frozen? ⟨b,1,none⟩=false:=Go.Lib.frozen_of_heap k 1;obtain⟨y,E,cap,rfl⟩:=m;have HCC:=Go.Lib.hid l;clear l hc i f hp d j k
 go_enter Tryz.func408,Tryz.ntmps408
 go_wp2_with (go_at_call 420;refine HCC.out.mono ?_)
 rintro e w' ⟨rfl,rfl⟩
 go_wp2_with (at_builtin;refine Go.Lib.wpList_append_run _ rfl _ _ _ _ rfl _ _ rfl rfl _ _ (r _) ?_)
 go_wp2
 go_ret2
 exact⟨rfl,W.out⟩
def GY(w w':World)(B b n:Nat)(c:Int)(v:Value)(xs:List Value):Prop:=
 ∃a d,rZ ((w.setCell ⟨b,0,none⟩ (self b)).alloc (.cells #[.int .u8 c] 5)) d B n 1 v a xs/\w'=d.setCell ⟨b,1,none⟩ a
set_option maxHeartbeats 1000000 in
set_option maxRecDepth 100000 in
theorem Pb{B b n:Nat}{w:World}{p v:Value}{xs:List Value}(c:Int)(f:w.heap[b]?=some (.cells #[p,v] 361 (0,0)))(hp:p= .pointer none\/p=self b)(i:eK w B 5 1 v n xs)(hne:v.ownBlock≠some b)(z: ∀g,v.ownBlock=some g->g<w.heap.size)
  (t:n+1<=140737488355328) (K:B<=w.heap.size):
  Calls Tryz.prog 409 #[.pointer (some ⟨b,0,none⟩),.int .u8 c] w λe w'=>e= .returned .nilIface/\GY w w' B b n c v (xs++[.int .u8 c]):=by
 have q:=I6 f hp;have k:=G5 f (self b);have F:b<w.heap.size:=(gy.1 f).1;have s:(w.setCell ⟨b,0,none⟩ (self b)).heap.size=w.heap.size:=by rw[setCell_eq_setRow w b 0 _ _ (0,0) _ f,setRow_size]
 have d:eK (w.setCell ⟨b,0,none⟩ (self b)) B 5 1 v n xs:=yW i λg hg=>G6 (λe=>hne (by rw[hg,e]));have d:eK ((w.setCell ⟨b,0,none⟩ (self b)).alloc (.cells #[.int .u8 c] 5)) B 5 1 v n xs:=yW d λg hg=>Go.Lib.alloc_old _ _ g (by rw[s];exact z g hg)
 have m:((w.setCell ⟨b,0,none⟩ (self b)).alloc (.cells #[.int .u8 c] 5)).heap[w.heap.size]?=some (.cells #[.int .u8 c] 5 (0,0)):=by
  have:=heap_alloc_new (w.setCell ⟨b,0,none⟩ (self b)) (.cells #[.int .u8 c] 5);rw[s]at this;exact this
 obtain⟨D,y,A,hc⟩:=Hn ((w.setCell ⟨b,0,none⟩ (self b)).alloc (.cells #[.int .u8 c] 5)) B 182 d (Src.ofSlice (P:=Tryz.prog) _ Tryz.underlying182 ⟨w.heap.size,0,none⟩ 1 1 [.int .u8 c] rfl (λj u x=>by
  match j,x with
  |0,x=>
   simp at x;subst x;have E:(⟨w.heap.size,0,none⟩:Addr).add 0=⟨w.heap.size,0,none⟩:=by simp[Addr.add]
   rw[E,cell_of_row _ w.heap.size 0 _ _ _ m];rfl) (λu C=>by simp at C;subst C;rfl)) t (by simp;omega)
 have l:((w.setCell ⟨b,0,none⟩ (self b)).alloc (.cells #[.int .u8 c] 5)).heap[b]?=some (.cells #[self b,v] 361 (0,0)):=(Go.Lib.alloc_old _ _ b a8).trans k;have o:=(hc.kept hne (by simp;omega)).trans l;have r:=hc.form (by obtain⟨a,c,h⟩:=wL i;exact⟨a,_,c,h⟩);have W:Hid (GY w (y.setCell ⟨b,1,none⟩ D) B b n c v (xs++[.int .u8 c])):=Go.Lib.hid ⟨D,y,hc,rfl⟩
 rw[<-s]at A;generalize w.setCell ⟨b,0,none⟩ (self b)=w1 at q k A;have H:w1.cell? ⟨b,1,none⟩=some v:=by rw[Go.Lib.cell_of_heap k];rfl
 have I:y.cell? ⟨b,1,none⟩=some v:=by rw[Go.Lib.cell_of_heap o];rfl
 have J:y.frozen? ⟨b,1,none⟩=false:=Go.Lib.frozen_of_heap o 1;obtain⟨G,L,cap,rfl⟩:=r;have HCC:=Go.Lib.hid q;clear q hc d i hp f k o l m
 go_enter Tryz.func409,Tryz.ntmps409
 go_wp2_with (go_at_call 420;refine HCC.out.mono ?_)
 rintro e w' ⟨rfl,rfl⟩
 go_wp2_with (at_builtin;refine Go.Lib.wpList_append_run _ rfl _ _ _ _ rfl _ _ rfl rfl _ _ (A _) ?_)
 go_wp2
 go_ret
 exact⟨rfl,W.out⟩
set_option maxHeartbeats 1000000 in
set_option maxRecDepth 100000 in
theorem Pa{b g cap:Nat}{w:World}{p:Value}{cur:Array Value}{fz:Nat×Nat}(l:List UInt8)(h0:l≠[])(c:w.heap[b]?=some (.cells #[p,.slice (some ⟨g,0,none⟩) l.length cap] 361 (0,0)))(hg:w.heap[g]?=some (.cells cur 5 fz))(n:l.length<=cap)(d:cap<=maxLen)(f:cur.size=cap*1)
  (hc: ∀j x,l[j]?=some x->w.cell? ⟨g,j,none⟩=some (.int .u8 x.toNat)):
  Calls Tryz.prog 376 #[.pointer (some ⟨b,0,none⟩)] w λe w'=>e= .returned (.string ⟨l.toArray⟩)/\w'=w.drew.freeze ⟨g,0,none⟩ l.length:=by
 have m:l.length≠0:=by simpa using h0
 have q:w.drew.cell? ⟨b,1,none⟩=some (.slice (some ⟨g,0,none⟩) l.length cap):=by
  have:w.drew.heap[b]?=some (.cells #[p,.slice (some ⟨g,0,none⟩) l.length cap] 361 (0,0)):=c;rw[Go.Lib.cell_of_heap this];rfl
 have i:(Builtin.unsafeSliceData_ #[182] 389 #[.slice (some ⟨g,0,none⟩) l.length cap]).run Tryz.prog w.drew= .ok (.pointer (some ⟨g,0,none⟩)) w.drew:=
  Go.Lib.run_unsafeSliceData_row _ _ _ _ _ _ a8
 have k:(Builtin.unsafeString_ #[389,3] 9 #[.pointer (some ⟨g,0,none⟩),.int .i64 l.length]).run Tryz.prog w.drew= .ok (.string ⟨l.toArray⟩) (w.drew.freeze ⟨g,0,none⟩ l.length):=by
  refine Go.Lib.run_unsafeString_row w.drew 389 3 9 5 Tryz.underlying389 (by kernel_rfl) g cur.size (by have h:w.drew.heap[g]?=some (.cells cur 5 fz):=hg;simp[World.shape?,h]) l h0 a8 (by unfold maxLen at d;omega) ?_;intro j x o;have a:(⟨g,0,none⟩:Addr).add j=⟨g,j,none⟩:=by unfold Addr.add;split<;>simp_all
  rw[a,World.cell?_drew];exact hc j x o
 clear hc f hg c;have mixed:Tryz.prog.follows Departure.mixedOrders=true:=by kernel_rfl
 go_enter Tryz.func376,Tryz.ntmps376
 go_wp2
 go_region_o
 all_goals(go_wp2;go_ret;exact⟨rfl,rfl⟩)
end Go.Proofs.Lh
namespace Go.Proofs.Q
open Go Go.Bb Go.RowKit Go.Proofs.Lg
open Go.Ab (D RD)
theorem uK(l:List Dg)(d:Dg):aI Tryz.prog 170 [.sl 32 (l.map au),.agg (au d)] (dB (bI l d)):=by
 refine aI.big (kM (by kernel_rfl)) 0 rfl λb=> ?_;rw[aM]at b;refine aL Tryz.f170 ?_ [100003] [[5,3,0]];refine aC trivial trivial ?_;refine aZ.over l (λk (_:Unit)=>[(5,iN k)]) (λ_ _=>[]) (λr _=>bI r d) (bI l d) () b aA aA rfl rfl (λk _ x hg hk a c e=> ?_) (λ_ a e=> ?_)
 .repeat' first|refine ab (λ_=> ?_) λ_=> ?_|refine aG (ga @a (ga @c @hg)) trivial ?_|exact aF (ga @a (ga @c @hg)) trivial|fail
  all_goals(simp_all[bI,cj];try exact ch)
 .refine aC @a trivial ?_
  all_goals(simp_all[bI,cj];try exact ch)
theorem rG(l m:List Dg):aI Tryz.prog 103 [.sl 32 (l.map au),.sl 32 (m.map au)] (dB (gz l m)):=by
 refine aI.big (kM (by kernel_rfl)) 1 rfl λb=> ?_;rw[aM]at b;refine aL Tryz.f103 ?_ [] [[5,1,0]];refine aC trivial trivial ?_;refine aZ.over m (λk (_:Unit)=>[(5,iN k)]) (λ_ _=>[]) (λr _=>gz l r) (gz l m) () b aA aA rfl rfl (λk _ x hg hk a c d=> ?_) (λ_ a d=> ?_)
 .repeat' first|refine ab (λ_=> ?_) λ_=> ?_|refine aG (ga @a (ga @c @hg)) @uK ?_|exact aF (ga @a (ga @c @hg)) @uK|fail
  all_goals(simp_all[gz,cj];try exact ch)
 .refine aC @a trivial ?_
  all_goals(simp_all[gz,cj];try exact ch)
theorem uJ(s:ar)(d:Dg):aI Tryz.prog 40 [.sl 37 (s.map aX),.agg (au d)] (.tup [.agg (br ((bh s d).getD .zero)),dB (bh s d).isSome]):=by
 refine aI.big (kM (by kernel_rfl)) 0 rfl λe=> ?_;rw[aM]at e;obtain⟨R,a⟩: ∃R,R=bh s d:=⟨_,rfl⟩
 rw[<-a];refine aL Tryz.f40 ?_ [100003,300025] [[4,6,0,3]];refine aC trivial trivial ?_;refine aZ.over s (λk (_:Unit)=>[(6,iN k)]) (λ_ _=>[.cells zV]) (λr _=>bh r d) R () e aA aA rfl a (λk _ x hg hk c f b=> ?_) (λ_ c b=> ?_)
 .rw[bh]at b;clear a
  repeat' first|refine ab (λ_=> ?_) λ_=> ?_|refine aG (ga @c (ga @f (ga @hg (ga @dG @bH)))) trivial ?_|exact aF (ga @c (ga @f (ga @hg (ga @dG @bH)))) trivial|fail
  .rename_i h;rw[b,if_pos h];rfl
  .rename_i h;rw[if_neg h]at b;exact⟨(),b⟩
 .repeat' first|refine ab (λ_=> ?_) λ_=> ?_|refine aH ?_|simp only[c,qD,dG,bH,aM,wy,qg,aE,simprocAttr,ax,aD,aB,aw]
  rw[b];rfl
theorem zb(s:ar)(g:s.length<=1000000000):aI Tryz.prog 46 [.sl 37 (s.map aX)] (.sl 32 ((b8 s).map au)):=by
 refine aL Tryz.f46 ?_ [100018] [[4,0,3]];refine aC trivial trivial ?_;refine aZ.overI s (λk (b:List Dg)=>[(4,iN k),(3,.tsl 0 32 (b.map au))]) (λk b=>[.row 30 32 b.length]) (λr b=>b++r.map (·.id)) (b8 s) (λk b=>b.length=k) [] a8 aA aA rfl rfl rfl (λk b x hg hk c f a d=> ?_) (λb c a d=> ?_)
 .have e:bw (b.length+1) 32=true:=by simp only[bw,decide_eq_true_eq];omega
  refine aC (ga @c (ga @f (ga @hg (ga @e (ga @fy @b9))))) trivial ?_;exact⟨b++[x.id],by simp,by simp,by simpa using a,by simp[d]⟩
 .simp at a;refine aC @c trivial ?_;rw[a]
theorem tk(x:ak):aI Tryz.prog 240 [.agg (ae x)] (dB (!isZero x.p)):=by
 refine aL Tryz.f240 ?_ [100001,300005]
 repeat' first|refine ab (λ_=> ?_) λ_=> ?_|refine aG trivial trivial ?_|exact aF trivial trivial|fail
 all_goals(simp_all[isZero,cj];try exact ch)
theorem LA(x:ay):aI Tryz.prog 243 [.agg (aO x)] (dB (np x)):=by
 refine aL Tryz.f243 ?_ [100001]
 repeat' first|refine ab (λ_=> ?_) λ_=> ?_|refine aG trivial trivial ?_|exact aF trivial trivial|fail
 all_goals(simp_all[np,cj];try exact ch)
theorem C9(x:ak)(d:Dg):aI Tryz.prog 246 [.agg (ae x),.agg (au d)] (.agg (ae (whole x d))):=by
 refine aL Tryz.f246 ?_ [100003,300011]
 repeat' first|refine ab (λ_=> ?_) λ_=> ?_|refine aG trivial trivial ?_|exact aF trivial trivial|fail
 all_goals(unfold whole isZero;first|(rw[if_pos (by simp_all)];done)|(rw[if_neg (by simp_all)];done))
structure gh(s:ar):Prop where
 len:s.length<=1000000
 pat: ∀x∈s,bS x.pat
theorem DL:(dN .zero).2=5:=by rfl
theorem bS.zero:bS .zero:=⟨⟨fG _,by simp[aU.zero]⟩,λh=>by rw[DL]at h;omega⟩
theorem yx{P:aU->Prop}(a:P .zero)(d:Dg): ∀{s:ar},(∀x∈s,P x.pat)->P ((bh s d).getD .zero)
 |[],_=>a
 |x::s,h=>by
  unfold bh;split
  .exact h x (by simp)
  .exact yx a d λy b=>h y (er _ b)
theorem gh.get{s:ar}(h:gh s)(d:Dg):bS ((bh s d).getD .zero):=yx bS.zero d h.pat
theorem C8(s:ar)(x:ak)(d:gh s):aI Tryz.prog 241 [.sl 37 (s.map aX),.agg (ae x)] (.tup [.agg (aO ((ng aq s x).getD .zero)),dB (ng aq s x).isSome]):=by
 have b:=uJ s x.p;have a:=Ls _ (d.get x.p);unfold ng;obtain⟨L,c⟩: ∃L,L=(ew aq ((bh s x.p).getD .zero)).1:=⟨_,rfl⟩
 rw[<-c]at a⊢;clear c d;by_cases h:x.n<0\/(L.length:Int)<=x.n
 .rw[if_pos h];refine aL Tryz.f241 ?_ [100003,300032]
  repeat' first|refine ab (λ_=> ?_) λ_=> ?_|refine aG (ga @dG (ga @cG (ga @bB @bH))) (ga @b @a) ?_|exact aF (ga @dG (ga @cG (ga @bB @bH))) (ga @b @a)|fail
  all_goals first|rfl|omega
 .rw[if_neg h];have e:decide (x.n<0)=false:=by simp;omega
  have f:decide (x.n>=(L.length:Int))=false:=by simp;omega
  have g:(0<=x.n)=True:=by simp;omega
  have hg:L[x.n.toNat]?=some L[x.n.toNat]:=bQ a8;rw[hg];refine aL Tryz.f241 ?_ [100003,300032];exact bL (ga @e (ga @f (ga @g (ga @hg (ga @dG (ga @cG (ga @bB @bH))))))) (ga @b @a)
  all_goals rfl
theorem Ce(s:ar)(x:ak)(f:ay->Bool):j7 aq s x f=if isZero x.p=true then 0 else if(ng aq s x).isSome=false then 7 else if f ((ng aq s x).getD .zero)=true then 0 else 8:=by
 unfold j7;cases ng aq s x<;>simp
theorem LB(s:ar)(x file:ak)(id:Dg)(b:gh s):aI Tryz.prog 244 [.sl 37 (s.map aX),.agg (ae x),.agg (ae file),.agg (au id)] (dI (nr aq s x file id)):=by
 have a:=C8 s x b;unfold nr;rw[Ce];clear b;refine aL Tryz.f244 ?_ [100005,100006,100007]
 repeat' first|refine ab (λ_=> ?_) λ_=> ?_|refine aG (ga @cG @bB) (ga @tk (ga @a (ga @C9 @C3))) ?_|exact aF (ga @cG @bB) (ga @tk (ga @a (ga @C9 @C3)))|fail
 all_goals(clear a;simp_all)
set_option maxHeartbeats 4000000 in
theorem VW(s:ar)(c:az)(id:Dg)(g:gh s)(n:c.over.length<=9223372036854775807):aI Tryz.prog 173 [.sl 37 (s.map aX),.agg (aR c),.agg (au id)] (dI (ni aq s c id)):=by
 refine pB Tryz.f173 ?_ [100004,100005] [[13,0,5,4]];refine AC.cut [0,5,4] [(0,.d (.sl 37 (s.map aX))),(5,.d (.ref (au id))),(4,.d (.ref (aR c)))] [] True ?_ λJ _=> ?_
 .refine aC trivial trivial ?_
  all_goals exact⟨_,rfl⟩
 refine AC.cut [0,5,4] [(0,.d (.sl 37 (s.map aX))),(5,.d (.ref (au id))),(4,.d (.ref (aR c)))] [] (j7 aq s c.file (gN c.kind)=0) ?_ λJ f=> ?_
 .have ca:=C8 s c.file g;have e:=Ce s c.file (gN c.kind)
  repeat' first|refine ab (λ_=> ?_) λ_=> ?_|refine aG (ga @cG (ga @bB @wj)) (ga @tk (ga @ca @C4)) ?_|exact aF (ga @cG (ga @bB @wj)) (ga @tk (ga @ca @C4))|fail
  all_goals first
   |(refine⟨⟨_,rfl⟩,?_⟩;rw[e];simp_all;done)
   |(rw[ni,c9];simp_all;done)
 refine AC.cut [0,5,4] [(0,.d (.sl 37 (s.map aX))),(5,.d (.ref (au id))),(4,.d (.ref (aR c)))] [] (j7 aq s c.parent np=0) ?_ λJ h=> ?_
 .have ca:=C8 s c.parent g;have e:=Ce s c.parent np
  repeat' first|refine ab (λ_=> ?_) λ_=> ?_|refine aG (ga @cG (ga @bB @wj)) (ga @tk (ga @ca @LA)) ?_|exact aF (ga @cG (ga @bB @wj)) (ga @tk (ga @ca @LA))|fail
  all_goals first
   |(refine⟨⟨_,rfl⟩,?_⟩;rw[e];simp_all;done)
   |(rw[ni,f];simp_all[c9];done)
 refine AC.cut [0,5,4] [(0,.d (.sl 37 (s.map aX))),(5,.d (.ref (au id))),(4,.d (.ref (aR c)))] [] (nr aq s c.after c.file id=0) ?_ λJ m=> ?_
 .have ca:=LB s c.after c.file id g
  repeat' first|refine ab (λ_=> ?_) λ_=> ?_|refine aG trivial @ca ?_|exact aF trivial @ca|fail
  all_goals first
   |(refine⟨⟨_,rfl⟩,?_⟩;simp_all;done)
   |(rw[ni,f,h];simp_all[c9];done)
 refine AC.cut [0,5,4] [(0,.d (.sl 37 (s.map aX))),(5,.d (.ref (au id))),(4,.d (.ref (aR c)))] [] (nr aq s c.before c.file id=0) ?_ λJ o=> ?_
 .have ca:=LB s c.before c.file id g
  repeat' first|refine ab (λ_=> ?_) λ_=> ?_|refine aG trivial @ca ?_|exact aF trivial @ca|fail
  all_goals first
   |(refine⟨⟨_,rfl⟩,?_⟩;simp_all;done)
   |(rw[ni,f,h,m];simp_all[c9];done)
 have e:ni aq s c id=mJ aq s c id c.over:=by simp[ni,c9,f,h,m,o]
 rw[e];clear e f h m o;refine bG ?_;refine aC trivial trivial ?_;obtain⟨R,a⟩: ∃R,R=mJ aq s c id c.over:=⟨_,rfl⟩
 rw[<-a];refine aZ.over c.over (λk (b:List aa)=>[(13,iN k)]) (λ_ b=>b) (λl _=>mJ aq s c id l) R ([]++J) n aA aA rfl a (λk b x hg hk j p i=> ?_) (λb j i=> ?_)
 .have ca:=C8 s x g;rw[mJ,Ce,c9]at i;clear a
  repeat' first|refine ab (λ_=> ?_) λ_=> ?_|refine aG (ga @j (ga @hg (ga @p (ga @cG (ga @bB @wj))))) (ga @tk (ga @ca (ga @C9 @C5))) ?_|exact aF (ga @j (ga @hg (ga @p (ga @cG (ga @bB @wj))))) (ga @tk (ga @ca (ga @C9 @C5)))|fail
  all_goals(clear ca;simp_all)
 .rw[mJ]at i;refine aC @j trivial ?_;rw[i]
structure oD(l:List az):Prop where
 len:l.length<=9223372036854775807
 over: ∀c∈l,c.over.length<=9223372036854775807
theorem LC(s:ar)(p:aU)(id:Dg)(e:gh s)(hp:oD p.changes):aI Tryz.prog 106 [.sl 37 (s.map aX),.agg (br p),.agg (au id)] (dI (iw aq s id p.changes)):=by
 refine aL Tryz.f106 ?_ [100004,100005] [[7,5,4,0]];refine aC trivial trivial ?_;refine aZ.over p.changes (λk (_:Unit)=>[(7,iN k)]) (λ_ _=>[]) (λl _=>iw aq s id l) (iw aq s id p.changes) () hp.len aA aA rfl rfl (λk b x hg hk c d a=> ?_) (λb c a=> ?_)
 .have ca:=VW s x id e (hp.over x (bR hg));rw[iw,c9]at a
  repeat' first|refine ab (λ_=> ?_) λ_=> ?_|refine aG (ga @c (ga @hg @d)) @ca ?_|exact aF (ga @c (ga @hg @d)) @ca|fail
  all_goals(clear ca;simp_all)
 .rw[iw]at a;refine aC @c trivial ?_;rw[a]
def yK(d:Dg):Option (Nat×Dg)->Bool
 |none=>true
 |some q=>decide (bY d q.2<0)
theorem Kv(out:List Dg)(x:bD)(s:ar)(i:Nat)(k:Option (Nat×Dg)):km out (x::s) i k=km out s (i+1) (if(!bI out x.id&&(gz out (bu x.pat)&&yK x.id k))=true then some (i,x.id)else k):=by
 cases k<;>rfl
theorem Ky(out:List Dg)(i:Nat)(k:Option (Nat×Dg)):km out [] i k=k:=by cases k<;>rfl
theorem Tt{out:List Dg}: ∀{s:ar} {i:Nat} {k:Option (Nat×Dg)} {j:Nat} {d:Dg},km out s i k=some (j,d)->k=some (j,d)\/(i<=j/\ ∃x,s[j-i]?=some x/\x.id=d)
 |[],i,k,j,d,h=> .inl (by rw[Ky]at h;exact h)
 |x::s,i,k,j,d,h=>by
  rw[Kv]at h;rcases Tt h with h1|⟨h1,y,h2,h3⟩
  .split at h1
   .simp at h1;obtain⟨rfl,rfl⟩:=h1;exact .inr ⟨bg _,x,by simp,rfl⟩
   .exact .inl h1
  .refine .inr ⟨by omega,y,?_,h3⟩;rw[show j-i=(j-(i+1))+1 by omega];exact h2
def p8:Option (Nat×Dg)->Int
 |none=> -1
 |some q=>q.1
set_option maxHeartbeats 2000000 in
theorem Lz(s:ar)(A:gh s):aI Tryz.prog 105 [.sl 37 (s.map aX)] (.sl 32 ((dD s).map au)):=by
 have w:=A.len;refine aL Tryz.f105 ?_ [100064] [[3,0],[5,4,0,3]];refine aC trivial trivial ?_;refine aZ.tr (λ(out:List Dg)=>[(3,.tsl 0 32 (out.map au))]) (λout=>[.row 30 32 out.length]) (λm out=>m+out.length=s.length/\dD s=lP s m out) s.length [] aA aA rfl ⟨rfl,rfl⟩ ?_;rintro m out ⟨hm,i⟩;by_cases F:out.length<s.length
 .obtain⟨f,rfl⟩: ∃f,m=f+1:=⟨m-1,by omega⟩
  have v:decide ((out.length:Int)<(s.length:Int))=true:=by simp;omega
  rw[lP]at i;refine aC @v trivial ?_
  refine aZ.overI s (λk (b:Option (Nat×Dg))=>[(5,iN k),(4,.d (.sc (.int .i64 (p8 b))))]) (λ_ _=>[.row 30 32 out.length]) (λr b=>km out r (s.length-r.length) b) (km out s 0 none) (λk b=> ∀j d,b=some (j,d)->j<k/\ ∃x,s[j]?=some x/\x.id=d) none a8 aA aA rfl (by simp) (by simp) (λk b x hg hk e t a l=> ?_) (λb e a l=> ?_)
  .have o:=za x.pat (A.pat x (bR hg));have B:s.length-(x::s.drop (k+1)).length=k:=by simp only[aY,ax];omega
   have E:s.length-(s.drop (k+1)).length=k+1:=by simp only[ax];omega
   have p:s.length-(s.length-(k+1))=k+1:=by omega
   rw[B,Kv]at a;cases b with
   |none=>
    have c:(p8 none<0)=True:=by simp[p8]
    clear i
    repeat' first|refine ab (λ_=> ?_) λ_=> ?_|refine aG (ga @e (ga @t (ga @hg @c))) (ga @uK (ga @o @rG)) ?_|exact aF (ga @e (ga @t (ga @hg @c))) (ga @uK (ga @o @rG))|fail
    all_goals first
     |(rw[if_pos (by simp_all[yK])]at a;exact⟨some (k,x.id),rfl,by rw[p];exact a,λj d h=>by cases h;exact⟨by omega,x,hg,rfl⟩⟩)
     |(rw[if_neg (by simp_all[yK])]at a;exact⟨none,rfl,by rw[p];exact a,λj d h=>let⟨C,u⟩:=l j d h;⟨by omega,u⟩⟩)
   |some q=>
    obtain⟨j,d⟩:=q;obtain⟨D,y,n,rfl⟩:=l j d rfl;have c:(p8 (some (j,y.id))<0)=False:=by simp[p8]
    have g:p8 (some (j,y.id))=(j:Int):=rfl;clear i
    repeat' first|refine ab (λ_=> ?_) λ_=> ?_|refine aG (ga @e (ga @t (ga @hg (ga @c (ga @g @n))))) (ga @uK (ga @o (ga @rG @ow))) ?_|exact aF (ga @e (ga @t (ga @hg (ga @c (ga @g @n))))) (ga @uK (ga @o (ga @rG @ow)))|fail
    all_goals first
     |(rw[if_pos (by simp_all[yK])]at a;exact⟨some (k,x.id),rfl,by rw[p];exact a,λj d h=>by cases h;exact⟨by omega,x,hg,rfl⟩⟩)
     |(rw[if_neg (by simp_all[yK])]at a;exact⟨some (j,y.id),rfl,by rw[p];exact a,λj d h=>let⟨C,u⟩:=l j d h;⟨by omega,u⟩⟩)
  .rw[Ky]at a;rw[a]at i;cases b with
   |none=>
    have c:(p8 none<0)=True:=by simp[p8]
    refine aC (ga @e @c) trivial ?_;rw[i]
   |some q=>
    obtain⟨j,d⟩:=q;obtain⟨D,y,n,rfl⟩:=l j d rfl;have c:(p8 (some (j,y.id))<0)=False:=by simp[p8]
    have g:p8 (some (j,y.id))=(j:Int):=rfl;have z:bw (out.length+1) 32=true:=room_le a8 a8;clear a l
    repeat' first|refine ab (λ_=> ?_) λ_=> ?_|refine aG (ga @e (ga @c (ga @g (ga @n (ga @z (ga @fy @b9)))))) trivial ?_|exact aF (ga @e (ga @c (ga @g (ga @n (ga @z (ga @fy @b9)))))) trivial|fail
    .omega
    .exact⟨f,out++[y.id],by omega,by simp,by simp,by simp;omega,i⟩
 .have v:decide ((out.length:Int)<(s.length:Int))=false:=by simp;omega
  obtain rfl:m=0:=by omega
  rw[lP]at i;refine aC @v trivial ?_;rw[i]
end Go.Proofs.Q
