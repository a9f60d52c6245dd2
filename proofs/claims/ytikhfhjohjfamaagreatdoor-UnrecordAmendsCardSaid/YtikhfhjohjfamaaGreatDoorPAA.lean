/- Lemmas. -/
import Derived.BigQuiet
import Derived.Deep.AppendLies
import Derived.Deep.DeepCutAuto
import Derived.Deep.LoopGhost
import Derived.Deep.MidRow
import Derived.Deep.OwnRows
import Derived.Deep.QuietTactic
import Derived.Lib.Hide
import Derived.OrdersHeld
import Derived.WalkKit
import Derived.WalkLawsBesides
import Derived.WalkSpells
import Derived.RangeFuncBound
set_option linter.unusedVariables false
set_option linter.unusedSimpArgs false
set_option maxRecDepth 100000
namespace Go
theorem aw:type_of% @Nat.zero_add:=@Nat.zero_add
theorem ax:type_of% @List.length_drop:=@List.length_drop
theorem aB:type_of% @Nat.add_zero:=@Nat.add_zero
theorem aD:type_of% @Nat.mul_one:=@Nat.mul_one
theorem aJ:type_of% @Option.some.inj:=@Option.some.inj
theorem aM:type_of% @List.length_map:=@List.length_map
theorem aQ:type_of% @List.length_append:=@List.length_append
theorem aV:type_of% @List.getElem?_eq_some_iff:=@List.getElem?_eq_some_iff
theorem aY:type_of% @List.length_cons:=@List.length_cons
theorem bc:type_of% @List.length_nil:=@List.length_nil
theorem bg:type_of% @Nat.le_refl:=@Nat.le_refl
theorem bk:type_of% @List.append_assoc:=@List.append_assoc
theorem bq:type_of% @List.append_nil:=@List.append_nil
theorem bt:type_of% @List.nil_append:=@List.nil_append
theorem bC:type_of% @List.getElem?_set_ne:=@List.getElem?_set_ne
theorem bF:type_of% @List.mem_cons:=@List.mem_cons
theorem bM:type_of% @List.mem_map:=@List.mem_map
theorem bP:type_of% @Sem.run_bind:=@Sem.run_bind
theorem bQ:type_of% @List.getElem?_eq_getElem:=@List.getElem?_eq_getElem
theorem bR:type_of% @List.mem_of_getElem?:=@List.mem_of_getElem?
theorem bV:type_of% @Result.andThen_ok:=@Result.andThen_ok
theorem bX:type_of% @List.map_cons:=@List.map_cons
theorem cj:type_of% @Int.natCast_inj:=@Int.natCast_inj
theorem cC:type_of% @List.length_take:=@List.length_take
theorem cJ:type_of% @Sem.run_pure:=@Sem.run_pure
theorem dj:type_of% @List.getElem?_map:=@List.getElem?_map
theorem dy:type_of% @Option.map_eq_some_iff:=@Option.map_eq_some_iff
theorem dK:type_of% @Iff.rfl:=@Iff.rfl
theorem dL:type_of% @List.take_of_length_le:=@List.take_of_length_le
theorem dW:type_of% @Bool.and_eq_true:=@Bool.and_eq_true
theorem dX:type_of% @List.length_range:=@List.length_range
theorem ej:type_of% @List.getElem?_set_self:=@List.getElem?_set_self
theorem er:type_of% @List.mem_cons_of_mem:=@List.mem_cons_of_mem
theorem ez:type_of% @Nat.le_trans:=@Nat.le_trans
theorem eE:type_of% @Option.bind_some:=@Option.bind_some
theorem eF:type_of% @Option.getD_some:=@Option.getD_some
theorem eR:type_of% @List.mem_map_of_mem:=@List.mem_map_of_mem
theorem eY:type_of% @Option.map_some:=@Option.map_some
theorem fi:type_of% @List.map_nil:=@List.map_nil
theorem fk:type_of% @List.mem_append:=@List.mem_append
theorem fB:type_of% @List.getElem?_set:=@List.getElem?_set
theorem fC:type_of% @Prod.mk.inj:=@Prod.mk.inj
theorem fE:type_of% @List.getElem?_of_mem:=@List.getElem?_of_mem
theorem fF:type_of% @List.map_append:=@List.map_append
theorem fG:type_of% @Nat.zero_le:=@Nat.zero_le
theorem fL:type_of% @List.getElem?_take:=@List.getElem?_take
theorem fP:type_of% @List.getElem?_append_left:=@List.getElem?_append_left
theorem fQ:type_of% @Nat.add_mul:=@Nat.add_mul
theorem fW:type_of% @Addr.add_mid:=@Addr.add_mid
theorem fX:type_of% @Classical.byContradiction:=@Classical.byContradiction
theorem fY:type_of% @Int.toNat_natCast:=@Int.toNat_natCast
theorem gb:type_of% @List.cons_append:=@List.cons_append
theorem gf:type_of% @List.getElem?_drop:=@List.getElem?_drop
theorem gy:type_of% @Array.getElem?_eq_some_iff:=@Array.getElem?_eq_some_iff
theorem gG:type_of% @List.flatten_cons:=@List.flatten_cons
theorem gH:type_of% @List.length_replicate:=@List.length_replicate
theorem gV:type_of% @List.eq_nil_of_length_eq_zero:=@List.eq_nil_of_length_eq_zero
theorem gW:type_of% @List.ext_getElem?:=@List.ext_getElem?
theorem gX:type_of% @List.pairwise_cons:=@List.pairwise_cons
theorem ic:type_of% @Array.length_toList:=@Array.length_toList
theorem ig:type_of% @List.foldl_cons:=@List.foldl_cons
theorem ij:type_of% @List.take_append_of_le_length:=@List.take_append_of_le_length
theorem iL:type_of% @List.drop_append:=@List.drop_append
theorem iM:type_of% @List.drop_of_length_le:=@List.drop_of_length_le
theorem iO:type_of% @List.getElem?_eq_none:=@List.getElem?_eq_none
theorem iY:type_of% @List.getElem?_append_right:=@List.getElem?_append_right
theorem jb:type_of% @List.getElem?_append:=@List.getElem?_append
theorem jc:type_of% @Nat.sub_self:=@Nat.sub_self
theorem js:type_of% @List.all_eq_true:=@List.all_eq_true
theorem jt:type_of% @List.flatMap_cons:=@List.flatMap_cons
theorem jF:type_of% @Bool.or_eq_true:=@Bool.or_eq_true
theorem jH:type_of% @List.mem_singleton:=@List.mem_singleton
theorem jI:type_of% @Nat.mul_le_mul_right:=@Nat.mul_le_mul_right
theorem jU:type_of% @List.length_set:=@List.length_set
theorem jV:type_of% @List.take_append_drop:=@List.take_append_drop
theorem jW:type_of% @List.take_succ_cons:=@List.take_succ_cons
theorem jY:type_of% @Option.getD_none:=@Option.getD_none
theorem ky:type_of% @List.drop_zero:=@List.drop_zero
theorem kA:type_of% @Option.isSome_none:=@Option.isSome_none
theorem l6:type_of% @Bool.eq_iff_iff:=@Bool.eq_iff_iff
theorem l7:type_of% @Bool.false_eq_true:=@Bool.false_eq_true
theorem l9:type_of% @Int.le_refl:=@Int.le_refl
theorem la:type_of% @Int.toNat_zero:=@Int.toNat_zero
theorem lh:type_of% @List.drop_eq_getElem_cons:=@List.drop_eq_getElem_cons
theorem lj:type_of% @List.length_mergeSort:=@List.length_mergeSort
theorem lk:type_of% @List.length_range':=@List.length_range'
theorem ll:type_of% @List.map_map:=@List.map_map
theorem lp:type_of% @List.mem_range:=@List.mem_range
theorem lq:type_of% @Nat.add_assoc:=@Nat.add_assoc
theorem lZ:type_of% @Array.getElem?_eq_getElem:=@Array.getElem?_eq_getElem
theorem mb:type_of% @ByteArray.size_append:=@ByteArray.size_append
theorem me:type_of% @List.size_toArray:=@List.size_toArray
theorem mf:type_of% @Nat.eq_of_mul_eq_mul_right:=@Nat.eq_of_mul_eq_mul_right
theorem n0:type_of% @Int.lt_irrefl:=@Int.lt_irrefl
theorem na:type_of% @List.mem_filter:=@List.mem_filter
theorem nP:type_of% @List.nodup_cons:=@List.nodup_cons
theorem nQ:type_of% @Nat.add_sub_cancel_left:=@Nat.add_sub_cancel_left
theorem nS:type_of% @Option.isSome_some:=@Option.isSome_some
theorem oI:type_of% @List.length_reverse:=@List.length_reverse
theorem oJ:type_of% @List.length_singleton:=@List.length_singleton
theorem oK:type_of% @List.zip_cons_cons:=@List.zip_cons_cons
theorem oL:type_of% @Nat.zero_mul:=@Nat.zero_mul
theorem pG:type_of% @List.getElem?_replicate:=@List.getElem?_replicate
theorem pH:type_of% @Nat.lt_of_lt_of_le:=@Nat.lt_of_lt_of_le
theorem pI:type_of% @Nat.sub_zero:=@Nat.sub_zero
theorem qG:type_of% @Array.getElem?_toList:=@Array.getElem?_toList
theorem qH:type_of% @Array.toList_append:=@Array.toList_append
theorem qJ:type_of% @Calls.mono:=@Calls.mono
theorem qK:type_of% @List.getElem?_range:=@List.getElem?_range
theorem qL:type_of% @List.take_length:=@List.take_length
theorem qM:type_of% @Nat.eq_zero_or_pos:=@Nat.eq_zero_or_pos
theorem qN:type_of% @Nat.le_of_eq:=@Nat.le_of_eq
theorem qO:type_of% @Nat.min_eq_left:=@Nat.min_eq_left
theorem qP:type_of% @Nat.one_mul:=@Nat.one_mul
theorem qR:type_of% @Option.map_none:=@Option.map_none
theorem rW:type_of% @Array.all_eq_true_iff_forall_mem:=@Array.all_eq_true_iff_forall_mem
theorem rX:type_of% @Array.getD_eq_getD_getElem?:=@Array.getD_eq_getD_getElem?
theorem rY:type_of% @Bool.not_eq_true':=@Bool.not_eq_true'
theorem s6:type_of% @List.getElem?_take_of_lt:=@List.getElem?_take_of_lt
theorem s7:type_of% @List.pairwise_iff_getElem:=@List.pairwise_iff_getElem
theorem s8:type_of% @List.replicate_succ:=@List.replicate_succ
theorem s9:type_of% @List.take_succ_eq_append_getElem:=@List.take_succ_eq_append_getElem
theorem sa:type_of% @List.take_take:=@List.take_take
theorem tS:type_of% @List.flatten_append:=@List.flatten_append
theorem tT:type_of% @List.foldl_nil:=@List.foldl_nil
theorem tU:type_of% @List.map_toArray:=@List.map_toArray
theorem tV:type_of% @List.sum_cons:=@List.sum_cons
theorem tW:type_of% @List.take_zero:=@List.take_zero
theorem vm:type_of% @Bool.and_comm:=@Bool.and_comm
theorem vo:type_of% @List.drop_drop:=@List.drop_drop
theorem vp:type_of% @List.drop_length:=@List.drop_length
theorem vq:type_of% @List.flatMap_nil:=@List.flatMap_nil
theorem vr:type_of% @List.getElem_mem:=@List.getElem_mem
theorem vt:type_of% @List.map_congr_left:=@List.map_congr_left
theorem vu:type_of% @List.mem_flatMap:=@List.mem_flatMap
theorem vv:type_of% @List.mem_of_mem_drop:=@List.mem_of_mem_drop
theorem vw:type_of% @List.mem_reverse:=@List.mem_reverse
theorem vx:type_of% @List.pairwise_append:=@List.pairwise_append
theorem vy:type_of% @List.reverse_cons:=@List.reverse_cons
theorem vB:type_of% @Option.isSome_iff_exists:=@Option.isSome_iff_exists
theorem vG:type_of% @World.cell?_of_block:=@World.cell?_of_block
theorem xu:type_of% @Array.getElem?_modify:=@Array.getElem?_modify
theorem xw:type_of% @ByteArray.data_append:=@ByteArray.data_append
theorem xC:type_of% @Int.tmod_eq_emod_of_nonneg:=@Int.tmod_eq_emod_of_nonneg
theorem xD:type_of% @List.length_eq_zero_iff:=@List.length_eq_zero_iff
theorem xE:type_of% @List.length_filter_le:=@List.length_filter_le
theorem xG:type_of% @List.length_zip:=@List.length_zip
theorem xH:type_of% @List.singleton_append:=@List.singleton_append
theorem xI:type_of% @List.take_left':=@List.take_left'
theorem xJ:type_of% @List.zip_nil_right:=@List.zip_nil_right
theorem xK:type_of% @Nat.mod_eq_of_lt:=@Nat.mod_eq_of_lt
theorem xM:type_of% @Option.some.injEq:=@Option.some.injEq
theorem A9:type_of% @List.drop_eq_nil_of_le:=@List.drop_eq_nil_of_le
theorem Aa:type_of% @List.mem_of_mem_take:=@List.mem_of_mem_take
theorem Ac:type_of% @List.set_getElem_self:=@List.set_getElem_self
theorem Ae:type_of% @Option.bind_eq_some_iff:=@Option.bind_eq_some_iff
theorem D6:type_of% @Array.getElem?_append_left:=@Array.getElem?_append_left
theorem Dd:type_of% @List.drop_append_of_le_length:=@List.drop_append_of_le_length
theorem De:type_of% @List.set_eq_take_append_cons_drop:=@List.set_eq_take_append_cons_drop
theorem a8{A:Prop}(h:A:=by omega):A:=h
end Go
namespace Go.Proofs.Lg
open Go Go.RowKit
def iP(w:World)(v:Value)(xs:List Value):Prop:=
 ∃a c,v= .slice a xs.length c/\xs.length<=c/\c<=9223372036854775807/\
  (xs≠[]-> ∃b off,a=some ⟨b,off,none⟩/\ ∀i u,xs[i]?=some u->w.cell? ⟨b,off+i,none⟩=some u)
theorem cell_lt{w:World}{p:Addr}{u:Value}(h:w.cell? p=some u):p.block<w.heap.size:=World.block_lt_of_cell? w p h
theorem Dv{w w':World}(h:Below w.heap.size w w'){p:Addr}{u:Value}(hc:w.cell? p=some u):w'.cell? p=some u:=
 (h.cell (cell_lt hc)).trans hc
theorem iP.below{w w':World}{v:Value}{xs:List Value}(h:iP w v xs)(hb:Below w.heap.size w w'):iP w' v xs:=by
 obtain⟨a,c,j,d,e,f⟩:=h;refine⟨a,c,j,d,e,λhne=> ?_⟩;obtain⟨b,off,ha,hc⟩:=f hne;exact⟨b,off,ha,λi u g=>Dv hb (hc i u g)⟩
theorem iP.nil(w:World):iP w (.slice none 0 0) []:=⟨none,0,rfl,bg _,by omega,λh=>absurd rfl h⟩
theorem iP.le{w:World}{v:Value}{xs:List Value}(h:iP w v xs):xs.length<=9223372036854775807:=by
 obtain⟨a,c,_,b,d,_⟩:=h;omega
theorem iP.mk{w:World}{b off n c:Nat}{xs:List Value}(e:xs.length=n)(a:n<=c)(d:c<=9223372036854775807)(h: ∀i u,xs[i]?=some u->w.cell? ⟨b,off+i,none⟩=some u):
  iP w (.slice (some ⟨b,off,none⟩) n c) xs:=by
 subst e;exact⟨_,c,rfl,a,d,λ_=>⟨b,off,rfl,h⟩⟩
theorem iP.drew{w:World}{v:Value}{xs:List Value}(h:iP w v xs):iP w.drew v xs:=by
 obtain⟨a,c,f,b,d,e⟩:=h;exact⟨a,c,f,b,d,e⟩
theorem iP.new(w:World)(xs:List Value)(t B:Nat)(a:w.heap.size=B)(n:Nat)(b:xs.length=n)(hm:n<=9223372036854775807):
  iP (w.alloc (.cells xs.toArray t)) (.slice (some ⟨B,0,none⟩) n n) xs:=by
 subst a;refine iP.mk b (bg _) hm λi u c=> ?_;simp[go_sem,c]
def jB:List Int->List Int->Int
 |[],[]=>0
 |[],_::_=> -1
 |_::_,[]=>1
 |a::s,b::t=>if a<b then-1 else if b<a then 1 else jB s t
def AO(a b:Int):Int:=if a<b then-1 else if b<a then 1 else 0
def AN(a:List Int)(n:Int)(b:List Int)(m:Int):Int:=if jB a b=0 then AO n m else jB a b
def p6(d:List Int)(n:Int):Array Value:=(d.map (Value.int .u8)++[Value.int .i64 n]).toArray
theorem Jz{d:List Int}(n:Int)(h:d.length=32):(p6 d n).size=33:=by simp[p6,h]
theorem Jy{d:List Int}(n:Int)(h:d.length=32):(p6 d n)[32]?=some (Value.int .i64 n):=by
 simp[p6,h]
theorem Bv{d:List Int}(n:Int)(i:Nat)(x:Int)(h:d[i]?=some x):(p6 d n)[i]?=some (Value.int .u8 x):=by
 obtain⟨hi,h⟩:=aV.1 h;simp[p6,jb,hi,h]
def Bytes(d:List Int):Prop:= ∀x∈d,0<=x/\x<256
def iH(d:List Int):ByteArray:=⟨(d.map λx=>x.toNat.toUInt8).toArray⟩
theorem run_loadBytes{P:Program}(w:World)(b:Nat): ∀(d:List Int) (off:Nat) (a:ByteArray),(∀i x,d[i]?=some x->w.cell? ⟨b,off+i,none⟩=some (Value.int .u8 x))->
  (Extern.Bytes.loadBytes ⟨b,off,none⟩ d.length a).run P w= .ok ⟨a.data++(iH d).data⟩ w:=by
 intro d
 induction d with
 |nil=>intro off a _;simp[Extern.Bytes.loadBytes,iH]
 |cons x d f=>
  intro off a h;have h0:w.cell? ⟨b,off,none⟩=some (Value.int .u8 x):=by simpa using h 0 x rfl
  have c:(⟨b,off,none⟩:Addr).add 1=⟨b,off+1,none⟩:=by unfold Addr.add;simp
  have:=f (off+1) (a.push x.toNat.toUInt8) (λi y e=>by have:=h (i+1) y (by simpa using e);rwa[show off+(i+1)=off+1+i by omega]at this);simp only[aY,Extern.Bytes.loadBytes];simp only[ByteArray.push,Nat.toUInt8_eq]at this;simp[go_sem,h0,c,ByteArray.push,this];simp[iH]
theorem JW: ∀(x y:List Int),x.length=y.length->(x=y/\jB x y=0)\/ ∃(k:Nat) (a b:Int),x[k]?=some a/\y[k]?=some b/\a≠b/\(∀i,i<k->x[i]?=y[i]?)/\jB x y=if a<b then-1 else 1
 |[],[],_=> .inl ⟨rfl,rfl⟩
 |a::s,b::t,h=>by
  by_cases f:a=b
  .subst f;rcases JW s t (by simpa using h)with⟨e,g⟩|⟨k,c,d,e,g,h3,h4,h5⟩
   .exact .inl ⟨by rw[e],by simp[jB,g]⟩
   .refine .inr ⟨k+1,c,d,by simpa using e,by simpa using g,h3,λi hi=> ?_,by simp[jB,h5]⟩;cases i with
    |zero=>rfl
    |succ i=>simpa using h4 i a8
  .refine .inr ⟨0,a,b,rfl,rfl,f,λi hi=>by omega,?_⟩;simp only[jB];by_cases e:a<b
   .simp[e]
   .simp[e,show b<a by omega]
 |[],_::_,h=>by simp at h
 |_::_,[],h=>by simp at h
theorem xg(d:List Int)(i:Nat)(x:Int)(h:d[i]?=some x):(iH d)[i]! =x.toNat.toUInt8:=by
 obtain⟨hi,h⟩:=aV.1 h;have:i<(iH d).size:=by simpa[iH,ByteArray.size]using hi
 rw[getElem!_pos (iH d) i this];simp[iH,ByteArray.getElem_eq_getElem_data,h]
theorem Zk(d:List Int):(iH d).size=d.length:=by simp[iH,ByteArray.size]
theorem Zt{a b:Int}(ha:0<=a/\a<256)(hb:0<=b/\b<256):a.toNat.toUInt8=b.toNat.toUInt8↔a=b:=by
 rw[<-UInt8.toNat_inj];simp;omega
theorem zK{a b:Int}(ha:0<=a/\a<256)(hb:0<=b/\b<256):a.toNat.toUInt8<b.toNat.toUInt8↔a<b:=by
 rw[UInt8.lt_iff_toNat_lt];simp;omega
theorem Qs(x y:List Int)(l:Bytes x)(m:Bytes y)(h:x.length=y.length):Extern.BytealgCompare.cmp (iH x) (iH y)=jB x y:=by
 unfold Extern.BytealgCompare.cmp;rcases JW x y h with⟨rfl,c⟩|⟨k,a,b,h1,c,h3,h4,h5⟩
 .rw[c];have:(List.range (min (iH x).size (iH x).size)).find? (λi=>(iH x)[i]! !=(iH x)[i]!)=none:=by simp
  rw[this];simp
 .have ha:=l a (bR h1);have hb:=m b (bR c);have hk:k<x.length:=(aV.1 h1).1;have:(List.range (min (iH x).size (iH y).size)).find? (λi=>(iH x)[i]! !=(iH y)[i]!)=some k:=by
   rw[List.find?_range_eq_some];refine⟨?_,?_,?_⟩
   .rw[xg _ _ _ h1,xg _ _ _ c];simp[Zt ha hb,h3]
   .simp[Zk];omega
   .intro j g;have d:j<x.length:=by omega
    have e:x[j]?=some x[j]:=bQ d;have f:=(h4 j g).symm.trans e;rw[xg _ _ _ e,xg _ _ _ f];simp
  rw[this,h5];simp only[xg _ _ _ h1,xg _ _ _ c];simp[zK ha hb]
def xO(w:World)(v:Value)(size:Nat)(xs:List (List Value)):Prop:=
 ∃a c,v= .slice a xs.length c/\xs.length<=c/\c<=9223372036854775807/\
  (xs≠[]-> ∃b off,a=some ⟨b,off,none⟩/\ ∀i u,xs[i]?=some u->w.rangeAt b (off+i*size) u)
theorem Y6{w w':World}(hb:Below w.heap.size w w'){b o:Nat}{u:List Value}(h:w.rangeAt b o u):w'.rangeAt b o u:=
 λj v a=>Dv hb (h j v a)
theorem xO.below{w w':World}{v:Value}{size:Nat}{xs:List (List Value)}(h:xO w v size xs)(hb:Below w.heap.size w w'):xO w' v size xs:=by
 obtain⟨a,c,j,d,e,f⟩:=h;refine⟨a,c,j,d,e,λhne=> ?_⟩;obtain⟨b,off,ha,hc⟩:=f hne;exact⟨b,off,ha,λi u g=>Y6 hb (hc i u g)⟩
structure vF where
 id:List Int
 n:Int
 text:ByteArray
 living:Bool
def vF.cells(v:vF):List Value:=v.id.map (Value.int .u8)++[Value.int .i64 v.n,Value.string v.text,Value.bool v.living]
def vF.ok(v:vF):Prop:=v.id.length=32/\Bytes v.id/\ -9223372036854775808<=v.n/\v.n<=9223372036854775807
def QZ(e:Int×Int):List Value:=[Value.int .i64 e.1,Value.int .i64 e.2]
def GK(n:Int):Prop:= -9223372036854775808<=n/\n<=9223372036854775807
structure Gr where
 lines:List vF
 edges:List (Int×Int)
structure Dc(w:World)(vl ve:Value)(g:Gr):Prop where
 lines:xO w vl 35 (g.lines.map vF.cells)
 edges:xO w ve 2 (g.edges.map QZ)
 okl: ∀x∈g.lines,x.ok
 oke: ∀e∈g.edges,GK e.1/\GK e.2
 few:g.lines.length<=1000000
 fewe:g.edges.length<=1000000
theorem Dc.below{w w':World}{b a:Value}{g:Gr}(h:Dc w b a g)(hb:Below w.heap.size w w'):Dc w' b a g:=
 ⟨h.lines.below hb,h.edges.below hb,h.okl,h.oke,h.few,h.fewe⟩
def s5(W w':World):Prop:=Below W.heap.size W w'
theorem s5.refl(W:World):s5 W W:=Below.refl _ _
theorem s5.drew(W:World):s5 W W.drew:=(Below.refl _ _).drew
theorem s5.trans{a b c:World}(h:s5 a b)(k:s5 b c):s5 a c:=Below.trans h (Below.mono k (Below.size h))
section
variable {P:Program} {ops:Array Oper} {Q:Exit->Act->World->Prop} {C:World->Prop}
def waits(ops:Array Oper)(a i:Nat):Bool:=
 match ops[a]? with
 |some o=>o.after.any λe=>Region.binds .any e&&e.on==i
 |none=>true
def uG(ops:Array Oper)(a:Nat):List (Nat×Bool)->Array Bool->Bool
 |[],listed=>(Region.ready .any ops listed).isEmpty
 |(i,true)::rest,listed=>(Region.ready .any ops listed).contains i&&Region.free .any ops listed i&&waits ops a i&&uG ops a rest (listed.setIfInBounds i true)
 |(i,false)::rest,listed=>decide (Region.ready .any ops listed=[i])&&(i !=a||rest.isEmpty)&&uG ops a rest (listed.setIfInBounds i true)
end
end Go.Proofs.Lg
namespace Go.Proofs.Lg
open Go Go.RowKit
def Dk(w:World)(v:Value)(rows:List (List Value)):Prop:=
 ∃vs:List Value,iP w v vs/\vs.length=rows.length/\ ∀(i:Nat) (u:Value) (r:List Value),vs[i]?=some u->rows[i]?=some r->iP w u r
theorem Dk.below{w w':World}{v:Value}{rows:List (List Value)}(h:Dk w v rows)(hb:Below w.heap.size w w'):Dk w' v rows:=by
 obtain⟨vs,a,b,c⟩:=h;exact⟨vs,a.below hb,b,λi u r e d=>(c i u r e d).below hb⟩
def pJ(w:World)(base O b c:Nat)(rows:List (List Value)):Prop:=
 ∃vs:List Value,vs.length=rows.length/\w.heap[O]?=some (.cells vs.toArray b (0,0))/\base<=O/\
  (∀(i:Nat) (u:Value) (r:List Value),vs[i]?=some u->rows[i]?=some r->w.ownsRow base c 1 u r.length r/\u.ownBlock≠some O)/\
  (∀(i j:Nat) (u a:Value),vs[i]?=some u->vs[j]?=some a->i≠j->u.ownBlock=none\/u.ownBlock≠a.ownBlock)
theorem Un{w w':World}{base e size n:Nat}{v:Value}{xs:List Value}(h:w.ownsRow base e size v n xs)(hb:Below w.heap.size w w'):w'.ownsRow base e size v n xs:=by
 obtain⟨b,a⟩:=h;refine⟨b,?_⟩;rcases a with a|⟨g,cap,cur,hv,hbg,hg,rest⟩
 .exact .inl a
 .exact .inr ⟨g,cap,cur,hv,hbg,by rw[hb.block g (gy.1 hg).1];exact hg,rest⟩
theorem S6{w w':World}(hb:Below w.heap.size w w'){O:Nat}{o:Obj}(h:w.heap[O]?=some o):w'.heap[O]?=some o:=by
 rw[hb.block O (gy.1 h).1];exact h
theorem pJ.below{w w':World}{base O d e:Nat}{rows:List (List Value)}(h:pJ w base O d e rows)(hb:Below w.heap.size w w'):pJ w' base O d e rows:=by
 obtain⟨vs,f,g,j,a,k⟩:=h;exact⟨vs,f,S6 hb g,j,λi u r c b=>⟨Un (a i u r c b).1 hb,(a i u r c b).2⟩,k⟩
theorem heap_setCell_same{w:World}{O k:Nat}{C:Array Value}{t:TypeId}{f:Nat×Nat}(h:w.heap[O]?=some (.cells C t f))(v:Value):
  (w.setCell ⟨O,k,none⟩ v).heap[O]?=some (.cells (C.setIfInBounds k v) t f):=by
 simp[World.setCell,xu,h]
theorem cell_of_heap{w:World}{O k:Nat}{C:Array Value}{t:TypeId}{f:Nat×Nat}(h:w.heap[O]?=some (.cells C t f)):w.cell? ⟨O,k,none⟩=C[k]? :=by
 simp[World.cell?,h]
theorem frozen_of_heap{w:World}{O k:Nat}{C:Array Value}{t:TypeId}(h:w.heap[O]?=some (.cells C t (0,0))):w.frozen? ⟨O,k,none⟩=false:=by
 simp[World.frozen?,h]
theorem pJ.made(w:World)(base d g n:Nat)(C:Array Value)(e:C=(List.replicate n (Value.slice none 0 0)).toArray)(hb:base<=w.heap.size):
  pJ (w.alloc (.cells C d)) base w.heap.size d g (List.replicate n []):=by
 subst e;refine⟨List.replicate n (Value.slice none 0 0),by simp,heap_alloc_new w _,hb,λi u r a c=> ?_,λi j u h a f _=> ?_⟩
 .rw[pG]at a c;by_cases b:i<n
  .simp only[b,if_true,xM]at a c;subst a;subst c;exact⟨World.ownsRow_nil _ _ _ _,by simp[Value.ownBlock]⟩
  .simp[b]at a
 .rw[pG]at a;split at a<;>simp at a;subst a;left;rfl
theorem pJ.row{w:World}{base O f c:Nat}{rows:List (List Value)}(h:pJ w base O f c rows){k:Nat}{r:List Value}(b:rows[k]?=some r):
  ∃u,w.cell? ⟨O,k,none⟩=some u/\w.frozen? ⟨O,k,none⟩=false/\w.ownsRow base c 1 u r.length r/\u.ownBlock≠some O:=by
 obtain⟨vs,g,a,i,d,j⟩:=h;have hk:k<vs.length:=by have:=(aV.1 b).1;omega
 have e:vs[k]?=some vs[k]:=bQ hk;exact⟨vs[k],by rw[cell_of_heap a];simp,frozen_of_heap a,d k _ r e b⟩
theorem pJ.step{w B:World}{base O I C:Nat}{rows:List (List Value)}(h:pJ w base O I C rows){k:Nat}{r r':List Value}(P:rows[k]?=some r)
  {u:Value} (Q:w.cell? ⟨O,k,none⟩=some u) {g c n:Nat} (X:r'.length=n) (z:B.ownsRow base C 1 (.slice (some ⟨g,0,none⟩) n c) n r') (m:w.grownBy B u.ownBlock)
  (x:u.ownBlock=some g\/g=w.heap.size):pJ (B.setCell ⟨O,k,none⟩ (.slice (some ⟨g,0,none⟩) n c)) base O I C (rows.set k r'):=by
 subst X;obtain⟨vs,T,D,U,L,M⟩:=h;have W:k<rows.length:=(aV.1 P).1;have A:vs[k]?=some u:=by rw[cell_of_heap D]at Q;simpa using Q
 have V:O<w.heap.size:=(gy.1 D).1;have hk:=L k u r A P;have E:B.heap[O]?=some (.cells vs.toArray I (0,0)):=by rw[m.block O V (λe=>hk.2 e.symm)];exact D
 have y:g≠O:=by
  rintro rfl;rcases x with e|e
  .exact hk.2 e
  .omega
 have keep: ∀(i:Nat) (f:Value) (q:List Value),i≠k->vs[i]?=some f->rows[i]?=some q->(B.setCell ⟨O,k,none⟩ (.slice (some ⟨g,0,none⟩) r'.length c)).ownsRow base C 1 f q.length q/\f.ownBlock≠some O/\(f.ownBlock=none\/f.ownBlock≠some g):=by
  intro i f s hi b a;have o:=L i f s b a;have hne:=M i k f u b A hi;have Y:=o.1.kept m hne;refine⟨?_,o.2,?_⟩
  .obtain⟨H,v⟩:=Y;refine⟨H,?_⟩;rcases v with v|⟨g',cap,cur,hv,hbg,hh,rest⟩
   .exact .inl v
   .refine .inr ⟨g',cap,cur,hv,hbg,?_,rest⟩;rw[Below.heap_setCell _ _ _ _ (by intro e;apply o.2;rw[hv];show some g'=some O;rw[e])];exact hh
  .rcases hne with e|e
   .exact .inl e
   .rcases x with e2|e2
    .right;rw[<-e2];exact e
    .subst e2;right;intro S;have:=(o.1.lt _ S).2;omega
 refine⟨vs.set k (.slice (some ⟨g,0,none⟩) r'.length c),by simp[T],?_,U,λi f s b a=> ?_,λi j J K l d p=> ?_⟩
 .rw[heap_setCell_same E];simp
 .by_cases hi:k=i
  .subst hi;rw[ej a8]at b a;obtain rfl:=aJ b;obtain rfl:=aJ a;refine⟨?_,by simp[Value.ownBlock,y]⟩;obtain⟨H,v⟩:=z;refine⟨H,?_⟩;rcases v with v|⟨g',cap,cur,hv,hbg,hh,rest⟩
   .exact .inl v
   .refine .inr ⟨g',cap,cur,hv,hbg,?_,rest⟩;have:g'=g:=by have:=congrArg Value.ownBlock hv;simp[Value.ownBlock]at this;exact this.symm
    subst this;rw[Below.heap_setCell _ _ _ _ y];exact hh
  .rw[bC hi]at b a;exact⟨(keep i f s (Ne.symm hi) b a).1,(keep i f s (Ne.symm hi) b a).2.1⟩
 .have t: ∀i f,vs[i]?=some f-> ∃r',rows[i]?=some r':=λi f h=>by
   have:=(aV.1 h).1;exact⟨_,bQ a8⟩
  by_cases hi:k=i
  .subst hi;rw[ej a8]at l;rw[bC p]at d;obtain rfl:=aJ l;obtain⟨r2,G⟩:=t j K d;have:=(keep j K r2 (Ne.symm p) d G).2.2;right;rcases this with e|e
   .rw[e];simp[Value.ownBlock]
   .exact λR=>e R.symm
  .rw[bC hi]at l;by_cases N:k=j
   .subst N;rw[ej a8]at d;obtain rfl:=aJ d;obtain⟨Z,F⟩:=t i J l;exact(keep i J Z p l F).2.2
   .rw[bC N]at d;exact M i j J K l d p
theorem iP.setCell{w:World}{v:Value}{xs:List Value}(h:iP w v xs){p:Addr}(hne:v.ownBlock≠some p.block)(u:Value):iP (w.setCell p u) v xs:=by
 obtain⟨a,c,d,f,g,j⟩:=h;refine⟨a,c,d,f,g,λk=> ?_⟩;obtain⟨b,off,ha,hc⟩:=j k;refine⟨b,off,ha,λi y l=> ?_⟩;have hb:b≠p.block:=by
  intro e;apply hne;rw[d,ha,e];rfl
 rw[vG (w:=w) (Below.heap_setCell w p u b hb)];exact hc i y l
def sg(ok:Nat->Prop)(w:World)(v:Value)(xs:List Value):Prop:=
 ∃a c,v= .slice a xs.length c/\xs.length<=c/\c<=9223372036854775807/\
  (xs≠[]-> ∃b off,a=some ⟨b,off,none⟩/\ok b/\ ∀i u,xs[i]?=some u->w.cell? ⟨b,off+i,none⟩=some u)
theorem sg.mono{ok d:Nat->Prop}{w:World}{v:Value}{xs:List Value}(h:sg ok w v xs)(hk: ∀b,ok b->d b):sg d w v xs:=by
 obtain⟨a,c,i,j,k,l⟩:=h;exact⟨a,c,i,j,k,λm=>let⟨b,off,e,g,f⟩:=l m;⟨b,off,e,hk b g,f⟩⟩
def vE(ok:Nat->Prop)(w:World)(v:Value)(rows:List (List Value)):Prop:=
 ∃vs:List Value,sg ok w v vs/\vs.length=rows.length/\ ∀(i:Nat) (u:Value) (r:List Value),vs[i]?=some u->rows[i]?=some r->sg ok w u r
theorem vE.mono{ok a:Nat->Prop}{w:World}{v:Value}{rows:List (List Value)}(h:vE ok w v rows)(hk: ∀b,ok b->a b):vE a w v rows:=
 let⟨vs,c,d,e⟩:=h;⟨vs,c.mono hk,d,λi u r g f=>(e i u r g f).mono hk⟩
theorem sg.lt{ok:Nat->Prop}{w:World}{v:Value}{xs:List Value}(h:sg ok w v xs):sg (λb=>ok b/\b<w.heap.size) w v xs:=by
 obtain⟨a,c,i,j,k,l⟩:=h;refine⟨a,c,i,j,k,λe=> ?_⟩;obtain⟨b,off,f,g,d⟩:=l e;refine⟨b,off,f,⟨g,?_⟩,d⟩;cases xs with
 |nil=>exact absurd rfl e
 |cons x xs=>exact cell_lt (d 0 x rfl)
theorem vE.lt{ok:Nat->Prop}{w:World}{v:Value}{rows:List (List Value)}(h:vE ok w v rows):vE (λb=>ok b/\b<w.heap.size) w v rows:=
 let⟨vs,a,c,d⟩:=h;⟨vs,a.lt,c,λi u r f e=>(d i u r f e).lt⟩
def pK(w:World)(x:Value)(m size:Nat)(news:List Value):Prop:=
 news.length=m*size/\((∃c,x= .slice none 0 c/\m=0)\/ ∃a c,x= .slice (some a) m c/\ ∀j u,news[j]?=some u->w.cell? (a.add j)=some u)
theorem iP.src{w:World}{x:Value}{xs:List Value}(h:iP w x xs):pK w x xs.length 1 xs:=by
 obtain⟨a,c,g,k,l,d⟩:=h;refine⟨by simp,?_⟩;cases a with
 |none=>
  left;have:xs=[]:=by
   cases xs with
   |nil=>rfl
   |cons y m=>obtain⟨b,off,h,_⟩:=d (by simp);cases h
  subst this;exact⟨c,by simpa using g,rfl⟩
 |some i=>
  right;refine⟨i,c,g,λj u f=> ?_⟩;obtain⟨b,off,h,hc⟩:=d (by intro e;subst e;simp at f);obtain rfl:=aJ h;rw[fW];exact hc j u f
theorem pK.below{w w':World}{x:Value}{m size:Nat}{news:List Value}(h:pK w x m size news)(hb:Below w.heap.size w w'):pK w' x m size news:=by
 obtain⟨a,d|⟨b,c,f,hc⟩⟩:=h
 .exact⟨a,.inl d⟩
 .exact⟨a,.inr ⟨b,c,f,λj u e=>Dv hb (hc j u e)⟩⟩
theorem pK.one(w:World)(B c:Nat)(cs:List Value)(h: ∀j u,cs[j]?=some u->w.cell? ⟨B,j,none⟩=some u):pK w (.slice (some ⟨B,0,none⟩) 1 c) 1 cs.length cs:=
 ⟨by simp,.inr ⟨_,c,rfl,λj u a=>by rw[fW,aw];exact h j u a⟩⟩
theorem yX{w:World}{base e size n:Nat}{v:Value}{xs:List Value}(h:w.ownsRow base e size v n xs): ∃a c,v= .slice a n c:=by
 rcases h.2 with⟨b,d⟩|⟨g,cap,cur,b,_⟩
 .exact⟨none,0,by rw[d];exact b⟩
 .exact⟨_,_,b⟩
end Go.Proofs.Lg
namespace Go.Ab
open Go Go.RowKit
inductive D where
 |sc (v:Value)
 |agg (cs:List D)
 |sl (sz:Nat) (rows:List (List D))
 |ref (cs:List D)
 |tup (vs:List D)
 deriving Inhabited
inductive RD(I:Nat->Nat)(w:World):Value->D->Prop
 |sc (v:Value):RD I w v (.sc v)
 |agg (us:List Value) (ds:List D):us.length=ds.length->(∀u∈us,u.oneCell'=true)->(∀(i:Nat) (u:Value) (d:D),us[i]?=some u->ds[i]?=some d->RD I w u d)->RD I w (.agg us.toArray) (.agg ds)
 |sl (a:Option Addr) (n c sz:Nat) (us:List Value) (rows:List (List D)):rows.length=n->(∀r∈rows,r.length=sz)->n<=c->c<=9223372036854775807->us.length=rows.flatten.length->
  (∀u∈us,u.oneCell'=true)->(rows≠[]-> ∃b off,a=some ⟨b,off,none⟩/\ ∀i u,us[i]?=some u->off+i<I b/\w.cell? ⟨b,off+i,none⟩=some u)->
  (∀(i:Nat) (u:Value) (d:D),us[i]?=some u->rows.flatten[i]?=some d->RD I w u d)->RD I w (.slice a n c) (.sl sz rows)
 |ref (b off:Nat) (us:List Value) (ds:List D):us.length=ds.length->(∀u∈us,u.oneCell'=true)->(∀i u,us[i]?=some u->off+i<I b/\w.cell? ⟨b,off+i,none⟩=some u)->
  (∀(i:Nat) (u:Value) (d:D),us[i]?=some u->ds[i]?=some d->RD I w u d)->RD I w (.pointer (some ⟨b,off,none⟩)) (.ref ds)
 |tup (us:List Value) (ds:List D):us.length=ds.length->(∀(i:Nat) (u:Value) (d:D),us[i]?=some u->ds[i]?=some d->RD I w u d)->RD I w (.tuple us.toArray) (.tup ds)
def jr(I:Nat->Nat)(w:World)(I':Nat->Nat)(w':World):Prop:=
 ∀b o u,o<I b->w.cell? ⟨b,o,none⟩=some u->o<I' b/\w'.cell? ⟨b,o,none⟩=some u
theorem jr.refl(I:Nat->Nat)(w:World):jr I w I w:=λ_ _ _ h hc=>⟨h,hc⟩
theorem jr.trans{I I' a:Nat->Nat}{w w' c:World}(h:jr I w I' w')(k:jr I' w' a c):jr I w a c:=
 λb o u f hc=>let⟨d,e⟩:=h b o u f hc;k b o u d e
theorem RD.mono{I I':Nat->Nat}{w w':World}{v:Value}{d:D}(h:RD I w v d)(hk:jr I w I' w'):RD I' w' v d:=by
 induction h with
 |sc v=>exact .sc v
 |agg us ds e g _ f=>exact .agg us ds e g f
 |sl a n c sz us rows e g j o p q r _ f=>
  refine .sl a n c sz us rows e g j o p q (λs=> ?_) f;obtain⟨b,off,ha,hc⟩:=r s;exact⟨b,off,ha,λi u k=>let⟨l,m⟩:=hc i u k;hk _ _ _ l m⟩
 |ref b off us ds e g j _ f=>exact .ref b off us ds e g (λi u k=>let⟨l,m⟩:=j i u k;hk _ _ _ l m) f
 |tup us ds e _ f=>exact .tup us ds e f
def D.leaf:D->Bool
 | .sc v=>v.oneCell'
 | .sl _ _| .ref _=>true
 | .agg _| .tup _=>false
theorem RD.leaf{I:Nat->Nat}{w:World}{v:Value}{d:D}(h:RD I w v d)(a:d.leaf=true):v.oneCell'=true:=by
 cases h<;>first|exact a|rfl|cases a
def dA(I:Nat->Nat)(w:World)(us:List Value)(ds:List D):Prop:=
 us.length=ds.length/\(∀u∈us,u.oneCell'=true)/\ ∀(i:Nat) (u:Value) (d:D),us[i]?=some u->ds[i]?=some d->RD I w u d
theorem dA.mono{I I':Nat->Nat}{w w':World}{us:List Value}{ds:List D}(h:dA I w us ds)(hk:jr I w I' w'):dA I' w' us ds:=
 ⟨h.1,h.2.1,λi u d b a=>(h.2.2 i u d b a).mono hk⟩
theorem dA.append{I:Nat->Nat}{w:World}{us us':List Value}{ds c:List D}(h:dA I w us ds)(k:dA I w us' c):dA I w (us++us') (ds++c):=by
 refine⟨by simp[h.1,k.1],λu a=> ?_,λi u d a e=> ?_⟩
 .rcases fk.1 a with a|a
  .exact h.2.1 u a
  .exact k.2.1 u a
 .rw[jb]at a e;rw[h.1]at a;split at a
  .rename_i b;rw[if_pos b]at e;exact h.2.2 i u d a e
  .rename_i b;rw[if_neg b]at e;exact k.2.2 _ u d a e
theorem dA.take{I:Nat->Nat}{w:World}{us:List Value}{ds:List D}(h:dA I w us ds)(n:Nat):dA I w (us.take n) (ds.take n):=by
 refine⟨by simp[h.1],λu a=>h.2.1 u (Aa a),λi u d a b=> ?_⟩;rw[fL]at a b;split at a
 .rename_i c;rw[if_pos c]at b;exact h.2.2 i u d a b
 .cases a
theorem dA.drop{I:Nat->Nat}{w:World}{us:List Value}{ds:List D}(h:dA I w us ds)(n:Nat):dA I w (us.drop n) (ds.drop n):=by
 refine⟨by simp[h.1],λu a=>h.2.1 u (vv a),λi u d a b=> ?_⟩;rw[gf]at a b;exact h.2.2 _ u d a b
theorem dA.get{I:Nat->Nat}{w:World}{us:List Value}{ds:List D}(h:dA I w us ds){i:Nat}{d:D}(a:ds[i]?=some d): ∃u,us[i]?=some u/\RD I w u d:=by
 have hi:=(aV.1 a).1;have:i<us.length:=by rw[h.1];exact hi
 exact⟨us[i],bQ this,h.2.2 i _ d (bQ this) a⟩
theorem dA.one{I:Nat->Nat}{w:World}{u:Value}{d:D}(h:RD I w u d)(c:d.leaf=true):dA I w [u] [d]:=by
 refine⟨rfl,λx a=> ?_,λi x y a b=> ?_⟩
 .obtain rfl:=jH.1 a;exact h.leaf c
 .cases i with
  |zero=>simp at a b;subst a;subst b;exact h
  |succ i=>simp at a
theorem dA.set{I:Nat->Nat}{w:World}{us:List Value}{ds:List D}(h:dA I w us ds){u:Value}{d:D}(k:RD I w u d)(c:u.oneCell'=true)(i:Nat):dA I w (us.set i u) (ds.set i d):=by
 refine⟨by simp[h.1],λx a=> ?_,λj x y a b=> ?_⟩
 .rcases List.mem_or_eq_of_mem_set a with a|a
  .exact h.2.1 x a
  .subst a;exact c
 .rw[fB]at a b;split at a
  .rename_i e;rw[if_pos e]at b;split at a
   .split at b
    .obtain rfl:=aJ a;obtain rfl:=aJ b;exact k
    .cases b
   .cases a
  .rename_i e;rw[if_neg e]at b;exact h.2.2 j x y a b
theorem flatten_row{α:Type}{sz:Nat}: ∀(rows:List (List α)),(∀r∈rows,r.length=sz)-> ∀(i:Nat) (r:List α),rows[i]?=some r->(rows.flatten.drop (i*sz)).take sz=r
 |[],_,i,r,h=>by simp at h
 |x::rows,hl,0,r,h=>by
  simp at h;subst h;have:=hl x (by simp);simp[<-this]
 |x::rows,hl,i+1,r,h=>by
  have b:=hl x (by simp);have:=flatten_row rows (λr a=>hl r (by simp[a])) i r (by simpa using h);rw[gG,fQ,qP,iL,A9 a8,bt];rw[show i*sz+sz-x.length=i*sz by omega];exact this
theorem flatten_len{α:Type}{sz:Nat}: ∀(rows:List (List α)),(∀r∈rows,r.length=sz)->rows.flatten.length=rows.length*sz
 |[],_=>by simp
 |x::rows,hl=>by
  have b:=hl x (by simp);have:=flatten_len rows λr a=>hl r (by simp[a]);simp[this,b,fQ];omega
theorem Je{α:Type}{sz:Nat}: ∀(rows:List (List α)),(∀r∈rows,r.length=sz)-> ∀k,(rows.take k).flatten=rows.flatten.take (k*sz)
 |[],_,k=>by simp
 |x::rows,hl,0=>by simp
 |x::rows,hl,k+1=>by
  have b:=hl x (by simp);have:=Je rows (λr a=>hl r (by simp[a])) k;rw[jW,gG,gG,this,fQ,qP,List.take_append,dL (l:=x) a8];rw[show k*sz+sz-x.length=k*sz by omega]
theorem Jc{α:Type}{sz:Nat}: ∀(rows:List (List α)),(∀r∈rows,r.length=sz)-> ∀k,(rows.drop k).flatten=rows.flatten.drop (k*sz)
 |[],_,k=>by simp
 |x::rows,hl,0=>by simp
 |x::rows,hl,k+1=>by
  have b:=hl x (by simp);have:=Jc rows (λr a=>hl r (by simp[a])) k;rw[List.drop_succ_cons,gG,this,fQ,qP,iL,@A9 _ x (k*sz+sz) a8,bt];rw[show k*sz+sz-x.length=k*sz by omega]
theorem RD.sl_inv{I:Nat->Nat}{w:World}{v:Value}{sz:Nat}{rows:List (List D)}(h:RD I w v (.sl sz rows)):
  ∃a c us,v= .slice a rows.length c/\(∀r∈rows,r.length=sz)/\rows.length<=c/\c<=9223372036854775807/\dA I w us rows.flatten/\
   (rows≠[]-> ∃b off,a=some ⟨b,off,none⟩/\ ∀i u,us[i]?=some u->off+i<I b/\w.cell? ⟨b,off+i,none⟩=some u):=by
 cases h with
 |sl a n c sz us rows d e f g j k l m=>subst d;exact⟨a,c,us,rfl,e,f,g,⟨j,k,m⟩,l⟩
theorem RD.sl_mk{I:Nat->Nat}{w:World}{a:Option Addr}{n c sz:Nat}{us:List Value}{rows:List (List D)}(e:rows.length=n)(f: ∀r∈rows,r.length=sz)(g:n<=c)(h:c<=9223372036854775807)(d:dA I w us rows.flatten)
  (j:rows≠[]-> ∃b off,a=some ⟨b,off,none⟩/\ ∀i u,us[i]?=some u->off+i<I b/\w.cell? ⟨b,off+i,none⟩=some u):RD I w (.slice a n c) (.sl sz rows):=
 .sl a n c sz us rows e f g h d.1 d.2.1 j d.2.2
theorem RD.sl_at{I:Nat->Nat}{w:World}{v:Value}{sz:Nat}{rows:List (List D)}(h:RD I w v (.sl sz rows)){i:Nat}{r:List D}(k:rows[i]?=some r):
  ∃b off c,v= .slice (some ⟨b,off,none⟩) rows.length c/\RD I w (.pointer (some ⟨b,off+i*sz,none⟩)) (.ref r):=by
 obtain⟨a,c,us,rfl,l,o,p,m,n⟩:=h.sl_inv;obtain⟨b,off,rfl,hc⟩:=n (by intro e;subst e;simp at k);refine⟨b,off,c,rfl,?_⟩;have d:=flatten_row rows l i r k;have g:=(m.drop (i*sz)).take sz;rw[d]at g;refine .ref _ _ _ _ g.1 g.2.1 (λj u f=> ?_) g.2.2;rw[fL]at f;split at f
 .rw[gf]at f;rw[lq];exact hc _ u f
 .cases f
theorem RD.sl_part{I:Nat->Nat}{w:World}{a:Option Addr}{n c sz:Nat}{rows:List (List D)}(h:RD I w (.slice a n c) (.sl sz rows)){lo hi:Nat}(x:lo<=hi)(l:hi<=rows.length):
  RD I w (.slice (if c=lo then a else a.map (·.add (lo*sz))) (hi-lo) (c-lo)) (.sl sz ((rows.take hi).drop lo)):=by
 obtain⟨t,v,us,p,k,y,z,q,s⟩:=h.sl_inv;cases p;have d: ∀r∈rows.take hi,r.length=sz:=λr g=>k r (Aa g);have m:((rows.take hi).drop lo).flatten=(rows.flatten.take (hi*sz)).drop (lo*sz):=by rw[Jc _ d,Je _ k]
 have j:=(q.take (hi*sz)).drop (lo*sz);rw[<-m]at j;refine RD.sl_mk (by simp;omega) (λr g=>d r (vv g)) a8 a8 j λhne=> ?_;have o:lo<hi:=by
  rcases Nat.lt_or_ge lo hi with h|h
  .exact h
  .exact absurd (by apply A9;simp;omega) hne
 obtain⟨b,off,rfl,hc⟩:=s (by intro e;subst e;simp at l;omega);rw[if_neg a8];refine⟨b,off+lo*sz,?_,λi u f=> ?_⟩
 .simp only[eY];unfold Addr.add;split<;>simp_all
 .rw[gf,fL]at f;split at f
  .rw[lq];exact hc _ u f
  .cases f
end Go.Ab
namespace Go.Bb
open Go Go.RowKit Go.Ab
inductive AV where
 |d (x:D)
 |tsl (id sz:Nat) (rows:List (List D))
 |nil (sz:Nat)
 |emp (sz:Nat)
 |ptr (id off:Nat)
 |vec (id n sz:Nat)
 |vptr (id n off:Nat)
 |win (id off n sz:Nat)
 |vwn (id N off n sz:Nat)
 |mp (id:Nat)
 |yld (id:Nat)
 |clo (f:FuncId) (fst cap:List AV)
 |agg (cs:List AV)
 |tup (cs:List AV)
 deriving Inhabited
abbrev Fr:=List (Nat×AV)
def look:Fr->Nat->Option AV
 |[],_=>none
 |(u,x)::r,t=>if u=t then some x else look r t
inductive X where
 |t (n:Nat)
 |c (x:AV)
 deriving Inhabited
inductive A5 where
 |fn (f:FuncId)
 |val (x:X)
 deriving Inhabited
inductive SK where
 |i
 |s
 |b
 deriving DecidableEq,Inhabited
inductive CI where
 |mov (x:X)
 |pick (c a b:X)
 |ld (n:Option Nat) (x:X)
 |st (n:Nat) (x v:X)
 |fad (off:Nat) (x:X)
 |iad (sz:Nat) (x i:X)
 |iap (n sz:Nat) (x i:X)
 |fld (off:Nat) (n:Option Nat) (x:X)
 |idx (len sz:Nat) (n:Option Nat) (x i:X)
 |ext (x:X) (i:Nat)
 |bin (op:BinOp) (x y:X)
 |eqa (ag:Bool) (ks:List SK) (neg:Bool) (x y:X)
 |isn (neg:Bool) (x:X)
 |not (x:X)
 |un (op:UnOp) (x:X)
 |mm (mx:Bool) (x y:X)
 |bad
 |len (kd:Nat) (x:X)
 |slc (sz:Nat) (x:X) (lo hi:Option X)
 |slz (sz:Nat) (x:X)
 |sla (n sz:Nat) (x:X) (lo hi:Option X)
 |sls (x:X) (lo hi:Option X)
 |six (x i:X)
 |app (mu:Bool) (e sz bytes:Nat) (x y:X)
 |bld (z:List AV) (ps:List (Nat×Nat×X))
 |bsl (mu:Bool) (e sz n:Nat) (z:List AV) (ps:List (Nat×Nat×X))
 |bsf (sz n:Nat) (z:List AV) (ps:List (Nat×Nat×X))
 |mks (mu:Bool) (e bytes:Nat) (z:AV) (l c:X)
 |cnv (k:IntKind) (x:X)
 |s2b (x:X)
 |s2o (e:Nat) (x:X)
 |b2s (x:X)
 |nck (x:X)
 |box (x:X)
 |bxf (x:X)
 |bxt (t:Nat) (x:X)
 |clr (sz:Nat) (z:List AV) (x:X)
 |mkf (f:FuncId) (fst cap:List X)
 |mkm (ag:Bool)
 |nlr (e sz:Nat)
 |lkp (ag:Bool) (ks:List SK) (z:AV) (ok:Bool) (m k:X)
 |mup (ag:Bool) (ks:List SK) (m k v:X)
 |men (ag:Bool) (ks:List SK) (z:AV) (m k:X)
 |mst (m i v:X)
 |call (c:A5) (xs:List X)
 deriving Inhabited
structure CO where
 dst:Option Nat
 g:Option (Option Nat×Bool)
 ci:CI
inductive CC where
 |skip
 |ops (dr:Bool) (bf:List Nat) (l:List CO)
 |seq (a b:CC)
 |cond (c:X) (a b:CC)
 |block (id:Nat) (c:CC)
 |loop (c:CC)
 |exit (id:Nat)
 |ret
 |rng (N:Nat) (f:X) (ps:List Nat) (ca cb:CC)
 |trim (keep:List Nat) (c:CC)
inductive oH where
 |ret
 |exit (id:Nat)
 deriving DecidableEq
def oH.code:oH->Code
 | .ret=> .ret
 | .exit id=> .exit id
structure ku where
 st:LoopState
 pend:Option oH
 fr:Fr
 ps:List Nat
 N:Nat
 ca:CC
 cb:CC
inductive aa where
 |cells (ds:List AV)
 |tcells (t:Nat) (ds:List AV)
 |row (e sz n:Nat)
 |vec (e sz:Nat) (ds:List AV)
 |map (ag:Bool) (es:List (List Value×AV))
 |loop (l:ku)
 |hole
 |junk
inductive Own where
 |blk (b:Nat)
 |row (v:Value) (n:Nat)
 |hole
def Own.block:Own->Option Nat
 | .blk b=>some b
 | .row v _=>v.ownBlock
 | .hole=>none
structure aP where
 I:Nat->Nat
 own:List Own
def dM:Own->Own->Prop
 | .blk b,o=>o= .blk b
 | .row v n,o=> ∃c a,o= .row c a/\((c=v/\a=n)\/n<a)
 | .hole,_=>True
theorem dM.refl(o:Own):dM o o:=by
 cases o with
 |blk b=>rfl
 |row v n=>exact⟨_,_,rfl,.inl ⟨rfl,rfl⟩⟩
 |hole=>trivial
theorem dM.trans{a b c:Own}(h:dM a b)(k:dM b c):dM a c:=by
 cases a with
 |blk x=>obtain rfl:b= .blk x:=h;exact k
 |row v n=>
  obtain⟨g,f,rfl,h⟩:=h;obtain⟨e,d,rfl,k⟩:=k;refine⟨_,_,rfl,?_⟩;rcases h with⟨rfl,rfl⟩|h
  .exact k
  .rcases k with⟨rfl,rfl⟩|k
   .exact .inr h
   .exact .inr a8
 |hole=>trivial
structure Mono(k:aP)(w:World)(k':aP)(w':World):Prop where
 keep:jr k.I w k'.I w'
 own: ∀(id:Nat) (o:Own),k.own[id]?=some o-> ∃o',k'.own[id]?=some o'/\dM o o'
def lA(k:aP)(b:Nat):Prop:= ∀(id:Nat) (o:Own),k.own[id]?=some o->o.block≠some b
structure Ext(B:Nat)(k:aP)(w:World)(k':aP)(w':World):Prop extends Mono k w k' w' where
 below:Below B w w'
 low: ∀b,b<B->k'.I b=k.I b
 rest: ∀b,b<w.heap.size->lA k b->w'.heap[b]?=w.heap[b]?
 fresh: ∀(id:Nat) (o:Own) (b:Nat),k'.own[id]?=some o->o.block=some b->b<w.heap.size-> ∃o',k.own[id]?=some o'/\o'.block=some b
theorem Ext.mono{B:Nat}{k k':aP}{w w':World}(h:Ext B k w k' w'):Mono k w k' w':=h.toMono
theorem Mono.refl(k:aP)(w:World):Mono k w k w:=⟨jr.refl _ _,λ_ o h=>⟨o,h,dM.refl o⟩⟩
theorem Mono.trans{k k' a:aP}{w w' b:World}(h:Mono k w k' w')(g:Mono k' w' a b):Mono k w a b:=
 ⟨h.keep.trans g.keep,λid o f=>by
  obtain⟨o',d,e⟩:=h.own id o f;obtain⟨c,i,j⟩:=g.own id o' d;exact⟨c,i,e.trans j⟩⟩
theorem Ext.refl(B:Nat)(k:aP)(w:World):Ext B k w k w:=⟨Mono.refl k w,Below.refl _ _,λ_ _=>rfl,λ_ _ _=>rfl,λ_ o _ a hb _=>⟨o,a,hb⟩⟩
theorem Ext.unowned{B:Nat}{k k':aP}{w w':World}(h:Ext B k w k' w'){b:Nat}(hb:b<w.heap.size)(f:lA k b):lA k' b:=λid o e a=>by
 obtain⟨o',c,d⟩:=h.fresh id o b e a hb;exact f id o' c d
theorem Ext.trans{B:Nat}{k k' a:aP}{w w' c:World}(h:Ext B k w k' w')(g:Ext B k' w' a c):Ext B k w a c:=
 ⟨h.mono.trans g.mono,h.below.trans g.below,λb hb=>(g.low b hb).trans (h.low b hb),
  λb hb e=>(g.rest b (pH hb h.below.size) (h.unowned hb e)).trans (h.rest b hb e),
  λid o b j d hb=>by
   obtain⟨l,f,i⟩:=g.fresh id o b j d (pH hb h.below.size);exact h.fresh id l b f i hb⟩
inductive RA(k:aP)(w:World):Value->AV->Prop
 |d {v:Value} {x:D}:RD k.I w v x->RA k w v (.d x)
 |tsl {v:Value} {id sz:Nat} {rows:List (List D)}:RD k.I w v (.sl sz rows)->(∃u n,k.own[id]?=some (.row u n)/\rows.length<=n/\(rows.length=n->v=u))->RA k w v (.tsl id sz rows)
 |nil {sz:Nat}:RA k w (.slice none 0 0) (.nil sz)
 |emp {a:Option Addr} {sz:Nat}:RA k w (.slice a 0 0) (.emp sz)
 |ptr {id off b:Nat}:k.own[id]?=some (.blk b)->RA k w (.pointer (some ⟨b,off,none⟩)) (.ptr id off)
 |vec {v:Value} {id n sz:Nat}:(∃a c,v= .slice a n c)->(∃u n',k.own[id]?=some (.row u n')/\n<=n'/\(n=n'->v=u))->RA k w v (.vec id n sz)
 |vptr {b id n off:Nat}:(∃u n',k.own[id]?=some (.row u n')/\n<=n'/\(n=n'->u.ownBlock=some b))->RA k w (.pointer (some ⟨b,off,none⟩)) (.vptr id n off)
 |win {b c id off n sz:Nat}:k.own[id]?=some (.blk b)->n<=c->c<=9223372036854775807->RA k w (.slice (some ⟨b,off,none⟩) n c) (.win id off n sz)
 |vwn {v:Value} {id N off n sz:Nat}:(∃a c,v= .slice a n c)->(∃u n',k.own[id]?=some (.row u n')/\N<=n'/\(N=n'-> ∃b c,u= .slice (some ⟨b,0,none⟩) N (off+c)/\v= .slice (some ⟨b,off*sz,none⟩) n c/\n<=c/\c<=9223372036854775807))->RA k w v (.vwn id N off n sz)
 |mp {id b:Nat}:k.own[id]?=some (.blk b)->RA k w (.map (some b)) (.mp id)
 |yld {id b:Nat}:k.own[id]?=some (.blk b)->RA k w (.func (.yield b) #[] #[]) (.yld id)
 |clo {f:FuncId} {us vs:List Value} {fs cs:List AV}:us.length=fs.length->vs.length=cs.length->(∀(i:Nat) (u:Value) (c:AV),us[i]?=some u->fs[i]?=some c->RA k w u c)->
  (∀(i:Nat) (u:Value) (c:AV),vs[i]?=some u->cs[i]?=some c->RA k w u c)->RA k w (.func (.func f) us.toArray vs.toArray) (.clo f fs cs)
 |agg {us:List Value} {cs:List AV}:us.length=cs.length->(∀u∈us,u.oneCell'=true)->(∀(i:Nat) (u:Value) (c:AV),us[i]?=some u->cs[i]?=some c->RA k w u c)->RA k w (.agg us.toArray) (.agg cs)
 |tup {us:List Value} {cs:List AV}:us.length=cs.length->(∀(i:Nat) (u:Value) (c:AV),us[i]?=some u->cs[i]?=some c->RA k w u c)->RA k w (.tuple us.toArray) (.tup cs)
theorem dM.row{k k':aP}{w w':World}(g:Mono k w k' w'){id m:Nat}{T:Value->Prop}(h: ∃u n,k.own[id]?=some (.row u n)/\m<=n/\(m=n->T u)): ∃u n,k'.own[id]?=some (.row u n)/\m<=n/\(m=n->T u):=by
 obtain⟨u,n,b,c,d⟩:=h;obtain⟨o',f,j,i,rfl,a⟩:=g.own id _ b;refine⟨j,i,f,?_⟩;rcases a with⟨rfl,rfl⟩|a
 .exact⟨c,d⟩
 .exact⟨by omega,λe=>by omega⟩
theorem dM.blk'{k k':aP}{w w':World}(d:Mono k w k' w'){id b:Nat}(h:k.own[id]?=some (.blk b)):k'.own[id]?=some (.blk b):=by
 obtain⟨o',a,c⟩:=d.own id _ h;obtain rfl:o'= .blk b:=c;exact a
theorem RA.mono{k k':aP}{w w':World}(f:Mono k w k' w'){v:Value}{x:AV}(h:RA k w v x):RA k' w' v x:=by
 induction h with
 |d h=>exact .d (RD.mono h f.keep)
 |tsl a e=>exact .tsl (a.mono f.keep) (dM.row f (T:=λu=>_=u) e)
 |nil=>exact .nil
 |emp=>exact .emp
 |ptr h=>exact .ptr (dM.blk' f h)
 |vec a e=>exact .vec a (dM.row f (T:=λu=>_=u) e)
 |vptr h=>exact .vptr (dM.row f (T:=λu=>u.ownBlock=some _) h)
 |win a e i=>exact .win (dM.blk' f a) e i
 |vwn a e=>exact .vwn a (dM.row f (T:=λu=> ∃b c,u=Value.slice (some ⟨b,0,none⟩) _ (_+c)/\_=Value.slice (some ⟨b,_,none⟩) _ c/\_<=c/\c<=9223372036854775807) e)
 |mp h=>exact .mp (dM.blk' f h)
 |yld h=>exact .yld (dM.blk' f h)
 |clo a e _ _ j i2=>exact .clo a e j i2
 |agg a e _ g=>exact .agg a e g
 |tup a _ g=>exact .tup a g
theorem RA.d_inv{k:aP}{w:World}{v:Value}{x:D}(h:RA k w v (.d x)):RD k.I w v x:=by cases h;assumption
theorem RA.ptr_inv{k:aP}{w:World}{v:Value}{id off:Nat}(h:RA k w v (.ptr id off)): ∃b,k.own[id]?=some (.blk b)/\v= .pointer (some ⟨b,off,none⟩):=by cases h;exact⟨_,by assumption,rfl⟩
theorem RA.vec_inv{k:aP}{w:World}{v:Value}{id n sz:Nat}(h:RA k w v (.vec id n sz)):(∃a c,v= .slice a n c)/\ ∃u b,k.own[id]?=some (.row u b)/\n<=b/\(n=b->v=u):=by
 cases h with|vec d e=>exact⟨d,e⟩
theorem RA.vptr_inv{k:aP}{w:World}{v:Value}{id n off:Nat}(h:RA k w v (.vptr id n off)): ∃b,v= .pointer (some ⟨b,off,none⟩)/\ ∃u a,k.own[id]?=some (.row u a)/\n<=a/\(n=a->u.ownBlock=some b):=by
 cases h with|vptr h=>exact⟨_,rfl,h⟩
theorem RA.tsl_inv{k:aP}{w:World}{v:Value}{id sz:Nat}{rows:List (List D)}(h:RA k w v (.tsl id sz rows)):RD k.I w v (.sl sz rows)/\ ∃u n,k.own[id]?=some (.row u n)/\rows.length<=n/\(rows.length=n->v=u):=by
 cases h with|tsl a b=>exact⟨a,b⟩
theorem RA.win_inv{k:aP}{w:World}{v:Value}{id off n sz:Nat}(h:RA k w v (.win id off n sz)): ∃b c,k.own[id]?=some (.blk b)/\v= .slice (some ⟨b,off,none⟩) n c/\n<=c/\c<=9223372036854775807:=by
 cases h with|win a d e=>exact⟨_,_,a,rfl,d,e⟩
theorem RA.vwn_inv{k:aP}{w:World}{v:Value}{id N off n sz:Nat}(h:RA k w v (.vwn id N off n sz)):(∃a c,v= .slice a n c)/\ ∃u d,k.own[id]?=some (.row u d)/\N<=d/\(N=d-> ∃b c,u= .slice (some ⟨b,0,none⟩) N (off+c)/\v= .slice (some ⟨b,off*sz,none⟩) n c/\n<=c/\c<=9223372036854775807):=by
 cases h with|vwn e f=>exact⟨e,f⟩
theorem RA.mp_inv{k:aP}{w:World}{v:Value}{id:Nat}(h:RA k w v (.mp id)): ∃b,k.own[id]?=some (.blk b)/\v= .map (some b):=by cases h;exact⟨_,by assumption,rfl⟩
theorem RA.yld_inv{k:aP}{w:World}{v:Value}{id:Nat}(h:RA k w v (.yld id)): ∃b,k.own[id]?=some (.blk b)/\v= .func (.yield b) #[] #[]:=by cases h;exact⟨_,by assumption,rfl⟩
theorem RA.nil_inv{k:aP}{w:World}{v:Value}{sz:Nat}(h:RA k w v (.nil sz)):v= .slice none 0 0:=by cases h;rfl
theorem RA.emp_inv{k:aP}{w:World}{v:Value}{sz:Nat}(h:RA k w v (.emp sz)): ∃a,v= .slice a 0 0:=by cases h;exact⟨_,rfl⟩
def bZ(k:aP)(w:World)(us:List Value)(ds:List AV):Prop:=
 us.length=ds.length/\(∀u∈us,u.oneCell'=true)/\ ∀(i:Nat) (u:Value) (d:AV),us[i]?=some u->ds[i]?=some d->RA k w u d
def fU(k:aP)(w:World)(us:List Value)(ds:List AV):Prop:=
 us.length=ds.length/\ ∀(i:Nat) (u:Value) (d:AV),us[i]?=some u->ds[i]?=some d->RA k w u d
theorem RA.agg_inv{k:aP}{w:World}{v:Value}{cs:List AV}(h:RA k w v (.agg cs)): ∃us,v= .agg us.toArray/\bZ k w us cs:=by
 cases h with|agg a b c=>exact⟨_,rfl,a,b,c⟩
theorem RA.tup_inv{k:aP}{w:World}{v:Value}{cs:List AV}(h:RA k w v (.tup cs)): ∃us,v= .tuple us.toArray/\fU k w us cs:=by
 cases h with|tup a b=>exact⟨_,rfl,a,b⟩
theorem RA.clo_inv{k:aP}{w:World}{v:Value}{f:FuncId}{a cs:List AV}(h:RA k w v (.clo f a cs)): ∃us vs,v= .func (.func f) us.toArray vs.toArray/\fU k w us a/\fU k w vs cs:=by
 cases h with|clo b c d e=>exact⟨_,_,rfl,⟨b,d⟩,⟨c,e⟩⟩
theorem bZ.mono{k k':aP}{w w':World}(b:Mono k w k' w'){us:List Value}{ds:List AV}(h:bZ k w us ds):bZ k' w' us ds:=
 ⟨h.1,h.2.1,λi u d c a=>(h.2.2 i u d c a).mono b⟩
theorem fU.mono{k k':aP}{w w':World}(b:Mono k w k' w'){us:List Value}{ds:List AV}(h:fU k w us ds):fU k' w' us ds:=
 ⟨h.1,λi u d c a=>(h.2 i u d c a).mono b⟩
theorem bZ.rvs{k:aP}{w:World}{us:List Value}{ds:List AV}(h:bZ k w us ds):fU k w us ds:=⟨h.1,h.2.2⟩
theorem fU.append{k:aP}{w:World}{us us':List Value}{ds b:List AV}(h:fU k w us ds)(f:fU k w us' b):fU k w (us++us') (ds++b):=by
 refine⟨by simp[h.1,f.1],λi u d e c=> ?_⟩;rw[jb]at e c;rw[h.1]at e;split at e
 .rename_i a;rw[if_pos a]at c;exact h.2 i u d e c
 .rename_i a;rw[if_neg a]at c;exact f.2 _ u d e c
theorem dA.toA{k:aP}{w:World}{us:List Value}{ds:List D}(h:dA k.I w us ds):bZ k w us (ds.map .d):=
 ⟨by simp[h.1],h.2.1,λi u d b a=>by
  rw[dj]at a;obtain⟨x,c,rfl⟩:=dy.1 a;exact .d (h.2.2 i u x b c)⟩
theorem bZ.take{k:aP}{w:World}{us:List Value}{ds:List AV}(h:bZ k w us ds)(n:Nat):bZ k w (us.take n) (ds.take n):=by
 refine⟨by simp[h.1],λu a=>h.2.1 u (Aa a),λi u d a b=> ?_⟩;rw[fL]at a b;split at a
 .rename_i c;rw[if_pos c]at b;exact h.2.2 i u d a b
 .cases a
theorem bZ.drop{k:aP}{w:World}{us:List Value}{ds:List AV}(h:bZ k w us ds)(n:Nat):bZ k w (us.drop n) (ds.drop n):=by
 refine⟨by simp[h.1],λu a=>h.2.1 u (vv a),λi u d a b=> ?_⟩;rw[gf]at a b;exact h.2.2 _ u d a b
theorem bZ.append{k:aP}{w:World}{us us':List Value}{ds c:List AV}(h:bZ k w us ds)(k':bZ k w us' c):bZ k w (us++us') (ds++c):=by
 refine⟨by simp[h.1,k'.1],λu a=> ?_,λi u d a e=> ?_⟩
 .rcases fk.1 a with a|a
  .exact h.2.1 u a
  .exact k'.2.1 u a
 .rw[jb]at a e;rw[h.1]at a;split at a
  .rename_i b;rw[if_pos b]at e;exact h.2.2 i u d a e
  .rename_i b;rw[if_neg b]at e;exact k'.2.2 _ u d a e
theorem bZ.get{k:aP}{w:World}{us:List Value}{ds:List AV}(h:bZ k w us ds){i:Nat}{d:AV}(a:ds[i]?=some d): ∃u,us[i]?=some u/\u.oneCell'=true/\RA k w u d:=by
 have hi:=(aV.1 a).1;have:i<us.length:=by rw[h.1];exact hi
 exact⟨us[i],bQ this,h.2.1 _ (vr _),h.2.2 i _ d (bQ this) a⟩
def AV.toL:AV->Option D
 | .d x=>some x
 | .tsl _ sz rows=>some (.sl sz rows)
 | .nil sz=>some (.sl sz [])
 | .emp sz=>some (.sl sz [])
 |_=>none
def toLs:List AV->Option (List D)
 |[]=>some []
 |x::l=>match x.toL,toLs l with
  |some d,some ds=>some (d::ds)
  |_,_=>none
def AV.toD:AV->Option D
 | .agg cs=>(toLs cs).map .agg
 |x=>x.toL
theorem RA.toL{k:aP}{w:World}{v:Value}{x:AV}{y:D}(h:RA k w v x)(a:x.toL=some y):RD k.I w v y:=by
 cases h with
 |d h=>simp[AV.toL]at a;subst a;exact h
 |tsl h _=>simp[AV.toL]at a;subst a;exact h
 |nil=>simp[AV.toL]at a;subst a;exact .sl none 0 0 _ [] [] rfl (by simp) a8 a8 rfl (by simp) (by simp) (by simp)
 |emp=>simp[AV.toL]at a;subst a;exact .sl _ 0 0 _ [] [] rfl (by simp) a8 a8 rfl (by simp) (by simp) (by simp)
 |_=>simp[AV.toL]at a
theorem CJ: ∀{ds:List AV} {es:List D},toLs ds=some es->es.length=ds.length/\ ∀(i:Nat) (d:AV),ds[i]?=some d-> ∃e,es[i]?=some e/\d.toL=some e
 |[],es,h=>by simp[toLs]at h;subst h;simp
 |x::l,es,h=>by
  unfold toLs at h;cases a:x.toL with
  |none=>simp[a]at h
  |some y=>
   cases c:toLs l with
   |none=>simp[a,c]at h
   |some l'=>
    simp[a,c]at h;subst h;obtain⟨f,g⟩:=CJ c;refine⟨by simp[f],λi d b=> ?_⟩;cases i with
    |zero=>simp at b;subst b;exact⟨y,rfl,a⟩
    |succ i=>exact g i d (by simpa using b)
theorem bZ.toLs{k:aP}{w:World}{us:List Value}{ds:List AV}{es:List D}(h:bZ k w us ds)(j:Bb.toLs ds=some es):dA k.I w us es:=by
 obtain⟨d,f⟩:=CJ j;refine⟨h.1.trans d.symm,h.2.1,λi u e l a=> ?_⟩;obtain⟨hi,_⟩:=aV.1 a;have c:ds[i]?=some ds[i]:=bQ a8;obtain⟨m,b,g⟩:=f i _ c;rw[a]at b;obtain rfl:=aJ b;exact(h.2.2 i u _ l c).toL g
theorem RA.toD{k:aP}{w:World}{v:Value}{x:AV}{y:D}(h:RA k w v x)(b:x.toD=some y):RD k.I w v y:=by
 by_cases ha: ∃cs,x= .agg cs
 .obtain⟨cs,rfl⟩:=ha;obtain⟨us,rfl,c⟩:=h.agg_inv;unfold AV.toD at b;obtain⟨es,hc,rfl⟩:=dy.1 b;have a:=c.toLs hc;exact .agg us es a.1 a.2.1 a.2.2
 .refine h.toL ?_;cases x with
  |agg cs=>exact absurd ⟨cs,rfl⟩ ha
  |_=>exact b
def lE:List AV->Option (List D)
 |[]=>some []
 | .d x::l=>(lE l).map (x:: ·)
 |_=>none
theorem DS: ∀{cs:List AV} {ds:List D},lE cs=some ds->toLs cs=some ds
 |[],ds,h=>h
 | .d x::l,ds,h=>by
  obtain⟨a,b,rfl⟩:=dy.1 (show(lE l).map (x:: ·)=some ds from h);unfold toLs;rw[DS b];rfl
def aggA(cs:List AV):AV:=match lE cs with
 |some ds=> .d (.agg ds)
 |none=> .agg cs
theorem RA.aggA{k:aP}{w:World}{v:Value}{cs:List AV}(h:RA k w v (.agg cs)):RA k w v (Bb.aggA cs):=by
 unfold Bb.aggA;split
 .rename_i ds a;exact .d (h.toD (by show(Bb.toLs cs).map D.agg=_;rw[DS a];rfl))
 .exact h
def datA:AV->AV
 | .nil sz=> .d (.sl sz [])
 |x=>x
theorem RA.datA{k:aP}{w:World}{v:Value}{x:AV}(h:RA k w v x):RA k w v (Bb.datA x):=by
 unfold Bb.datA;split
 .exact .d (h.toD rfl)
 .exact h
theorem bZ.datA{k:aP}{w:World}{us:List Value}{ds:List AV}(h:bZ k w us ds):bZ k w us (ds.map Bb.datA):=
 ⟨by rw[aM];exact h.1,h.2.1,λi u d b a=>by
  rw[dj]at a;obtain⟨x,c,rfl⟩:=dy.1 a;exact(h.2.2 i u x b c).datA⟩
def AV.leaf:AV->Bool
 | .d x=>x.leaf
 | .agg _| .tup _=>false
 |_=>true
theorem RA.leaf{k:aP}{w:World}{v:Value}{x:AV}(h:RA k w v x)(b:x.leaf=true):v.oneCell'=true:=by
 cases h with
 |d h=>exact RD.leaf h b
 |tsl h _=>exact RD.leaf h rfl
 |vec h _=>obtain⟨a,c,rfl⟩:=h;rfl
 |vwn h _=>obtain⟨a,c,rfl⟩:=h;rfl
 |agg=>cases b
 |tup=>cases b
 |_=>rfl
def AV.cells:AV->Option (List AV)
 | .agg cs=>some cs
 | .d (.agg ds)=>some (ds.map .d)
 |x=>if x.leaf then some [x]else none
theorem RA.cells{k:aP}{w:World}{v:Value}{x:AV}{cs:List AV}(h:RA k w v x)(c:x.cells=some cs):bZ k w v.cells.toList cs:=by
 have a: ∀y:AV,RA k w v y->(if y.leaf then some [y]else none)=some cs->bZ k w v.cells.toList cs:=by
  intro y j g;cases hb:y.leaf with
  |false=>simp[hb]at g
  |true=>
   simp[hb]at g;subst g;have b:=j.leaf hb;have:v.cells= #[v]:=by cases v<;>first|rfl|simp[Value.oneCell']at b
   rw[this];refine⟨rfl,λu e=> ?_,λi u d e f=> ?_⟩
   .simp at e;subst e;exact b
   .cases i with
    |zero=>simp at e f;subst e;subst f;exact j
    |succ i=>simp at f
 cases x with
 |agg l=>
  simp[AV.cells]at c;subst c;obtain⟨us,rfl,b⟩:=h.agg_inv;simpa[Value.cells]using b
 |d x=>
  cases x with
  |agg ds=>
   simp[AV.cells]at c;subst c;have m:=h.d_inv;cases m with
   |agg us ds n b o=>simpa[Value.cells]using dA.toA (k:=k) ⟨n,b,o⟩
  |_=>exact a _ h c
 |_=>exact a _ h c
def AV.row:AV->Option (List AV)
 | .agg cs=>some cs
 | .d (.agg ds)=>some (ds.map .d)
 |_=>none
theorem RA.row{k:aP}{w:World}{v:Value}{x:AV}{cs:List AV}(h:RA k w v x)(a:x.row=some cs): ∃us,v= .agg us.toArray/\bZ k w us cs:=by
 cases x with
 |agg b=>simp[AV.row]at a;subst a;exact h.agg_inv
 |d x=>
  cases x with
  |agg ds=>
   simp[AV.row]at a;subst a;have c:=h.d_inv;cases c with
   |agg us ds e f g=>exact⟨us,rfl,dA.toA (k:=k) ⟨e,f,g⟩⟩
  |_=>simp[AV.row]at a
 |_=>simp[AV.row]at a
end Go.Bb
namespace Go.Bb
open Go
def F5:List Int:=[1,10,100,1000,10000,100000,1000000,10000000,100000000,1000000000,10000000000,100000000000,1000000000000,10000000000000,100000000000000,1000000000000000,10000000000000000,100000000000000000,1000000000000000000,10000000000000000000]
def Jq:List (Nat×Array Value):=[(1,(F5.map λz=>Value.int .u64 z).toArray)]
end Go.Bb
namespace Go.Bb
open Go Go.RowKit Go.Ab
section
variable {LL:Nat->Code->CC->Prop} {B:Nat}
def gC(ag:Bool)(us:List Value):Value:=if ag then .agg us.toArray else us.headD undef
def kz(ag:Bool)(k:aP)(w:World)(es:List (List Value×AV))(a:Array MapEntry)(b:Nat):Prop:=
 a.size=es.length/\b=es.length/\ ∀(i:Nat) (e:MapEntry) (x:List Value×AV),a[i]?=some e->es[i]?=some x->e.key=gC ag x.1/\RA k w e.val x.2/\e.born=i
def vz(a:Nat->Code->CC->Prop)(k:aP)(w:World)(l:ku)(r:Loop):Prop:=
 r.state=l.st/\r.pending=l.pend.map oH.code/\r.tmps.size=l.N/\(∀t x,look l.fr t=some x->RA k w (r.tmps.getD t undef) x)/\r.params.toList=l.ps/\a l.N r.assign l.ca/\a l.N r.body l.cb
def eK(w:World)(base:Nat)(e:TypeId)(size:Nat)(v:Value)(n:Nat)(xs:List Value):Prop:=
 xs.length=n*size/\
 (
  (v= .slice none 0 0/\n=0)\/
  ∃g cap cur fz,v= .slice (some ⟨g,0,none⟩) n cap/\base<=g/\w.heap[g]?=some (.cells cur e fz)/\n<=cap/\cap<=maxLen/\cur.size=cap*size/\cur.toList.take (n*size)=xs/\(fz.2<=n*size\/cur.size<=fz.1))
theorem eK.of{w:World}{base size n:Nat}{e:TypeId}{v:Value}{xs:List Value}(h:w.ownsRow base e size v n xs):eK w base e size v n xs:=by
 refine⟨h.1,?_⟩;rcases h.2 with e1|⟨g,cap,cur,e1,e2,e3,e4,e5,e6,e7⟩
 .exact .inl e1
 .exact .inr ⟨g,cap,cur,(0,0),e1,e2,e3,e4,e5,e6,e7,.inl (fG _)⟩
theorem yW{w w':World}{base size n:Nat}{e:TypeId}{v:Value}{xs:List Value}(h:eK w base e size v n xs)(hb: ∀g,v.ownBlock=some g->w'.heap[g]?=w.heap[g]?):eK w' base e size v n xs:=by
 refine⟨h.1,?_⟩;rcases h.2 with e1|⟨g,cap,cur,fz,e1,e2,e3,e4⟩
 .exact .inl e1
 .exact .inr ⟨g,cap,cur,fz,e1,e2,by rw[hb g (by rw[e1];rfl)];exact e3,e4⟩
theorem Ul{w:World}{B a size n:Nat}{e:TypeId}{v:Value}{xs:List Value}(h:eK w a e size v n xs)(hb:B<=a):eK w B e size v n xs:=by
 refine⟨h.1,?_⟩;rcases h.2 with h2|⟨g,cap,cur,fz,h1,h2,h3⟩
 .exact .inl h2
 .exact .inr ⟨g,cap,cur,fz,h1,ez hb h2,h3⟩
theorem wL{w:World}{base size n:Nat}{e:TypeId}{v:Value}{xs:List Value}(h:eK w base e size v n xs): ∃a c,v= .slice a n c:=by
 rcases h.2 with⟨b,d⟩|⟨g,cap,cur,fz,b,_⟩
 .exact⟨none,0,by rw[d];exact b⟩
 .exact⟨_,_,b⟩
theorem KO{w:World}{base size n c:Nat}{e:TypeId}{a:Option Addr}{xs:List Value}(h:eK w base e size (.slice a n c) n xs):n<=c:=by
 rcases h.2 with⟨b,d⟩|⟨g,cap,cur,fz,b,_,_,hh,_⟩
 .omega
 .simp at b;omega
theorem eK.cells{w:World}{base size n:Nat}{e:TypeId}{v:Value}{xs:List Value}(h:eK w base e size v n xs){g:Nat}(hg:v.ownBlock=some g): ∀j u,xs[j]?=some u->w.cell? ((⟨g,0,none⟩:Addr).add j)=some u:=by
 intro j u b;rcases h.2 with⟨rfl,_⟩|⟨g',cap,cur,fz,rfl,_,hgg,_,_,_,htake,_⟩
 .simp[Value.ownBlock]at hg
 .simp[Value.ownBlock]at hg;subst hg;have a:(⟨g',0,none⟩:Addr).add j=⟨g',j,none⟩:=by unfold Addr.add;split<;>simp_all
  rw[a,cell_of_row w g' j cur e fz hgg];rw[<-htake,fL]at b;split at b
  .simpa using b
  .cases b
def lr(d:Nat->Code->CC->Prop)(B:Nat)(k:aP)(w:World):aa->Own->Prop
 | .cells ds,.blk b=> ∃t us,w.heap[b]?=some (.cells us.toArray t (0,0))/\bZ k w us ds/\k.I b=0
 | .tcells t ds,.blk b=> ∃us,w.heap[b]?=some (.cells us.toArray t (0,0))/\bZ k w us ds/\k.I b=0
 | .row e sz n,.row v m=>m=n/\(∃xs,eK w B e sz v n xs)/\ ∀g,v.ownBlock=some g->k.I g=n*sz
 | .vec e sz ds,.row v n=> ∃xs,w.ownsRow B e sz v n xs/\(∀g,v.ownBlock=some g->k.I g=0)/\ds.length=n*sz/\bZ k w xs ds
 | .map ag es,.blk b=> ∃a c,w.heap[b]?=some (.map a c)/\kz ag k w es a c/\k.I b=0
 | .loop l,.blk b=> ∃r,w.heap[b]?=some (.loop r)/\vz d k w l r/\k.I b=0
 | .hole,.hole=>True
 | .junk,_=>True
 |_,_=>False
def GW(B:Nat)(w:World):Prop:= ∀p∈Jq,p.1<B/\ ∃t fz,w.heap[p.1]?=some (.cells p.2 t fz)
theorem GW.low{B:Nat}{w w':World}(h:GW B w)(hb: ∀b,b<B->w'.heap[b]?=w.heap[b]?):GW B w':=λp hp=>
 let⟨a,t,fz,c⟩:=h p hp;⟨a,t,fz,(hb p.1 a).trans c⟩
theorem GW.below{B C:Nat}{w w':World}(h:GW B w)(hb:Below C w w')(hc:B<=C):GW B w':=h.low λb a=>hb.block b (pH a hc)
theorem GW.mono{B C:Nat}{w:World}(h:GW B w)(hc:B<=C):GW C w:=λp hp=>
 let⟨a,b⟩:=h p hp;⟨pH a hc,b⟩
structure St(LL:Nat->Code->CC->Prop)(B:Nat)(k:aP)(s:List aa)(w:World):Prop where
 base:B<=w.heap.size
 len:k.own.length=s.length
 obj: ∀(id:Nat) (x:aa) (o:Own),s[id]?=some x->k.own[id]?=some o->lr LL B k w x o
 lies: ∀(id:Nat) (o:Own) (b:Nat),k.own[id]?=some o->o.block=some b->B<=b/\b<w.heap.size
 apart: ∀(i j:Nat) (o o':Own) (b:Nat),i≠j->k.own[i]?=some o->k.own[j]?=some o'->o.block=some b->o'.block≠some b
 glob:GW B w
theorem St.get{k:aP}{s:List aa}{w:World}(h:St LL B k s w){id:Nat}{x:aa}(a:s[id]?=some x): ∃o,k.own[id]?=some o/\lr LL B k w x o:=by
 have hi:=(aV.1 a).1;have:id<k.own.length:=by rw[h.len];exact hi
 exact⟨k.own[id],bQ this,h.obj id x _ a (bQ this)⟩
theorem St.cells{k:aP}{s:List aa}{w:World}(h:St LL B k s w){id:Nat}{ds:List AV}(g:s[id]?=some (.cells ds)):
  ∃b t us,k.own[id]?=some (.blk b)/\w.heap[b]?=some (.cells us.toArray t (0,0))/\bZ k w us ds/\k.I b=0:=by
 obtain⟨o,c,a⟩:=h.get g;cases o with
 |blk b=>obtain⟨t,us,d,e,f⟩:=a;exact⟨b,t,us,c,d,e,f⟩
 |row v n=>exact a.elim
 |hole=>exact a.elim
theorem St.tcells{k:aP}{s:List aa}{w:World}(h:St LL B k s w){id t:Nat}{ds:List AV}(g:s[id]?=some (.tcells t ds)):
  ∃b us,k.own[id]?=some (.blk b)/\w.heap[b]?=some (.cells us.toArray t (0,0))/\bZ k w us ds/\k.I b=0:=by
 obtain⟨o,c,a⟩:=h.get g;cases o with
 |blk b=>obtain⟨us,d,e,f⟩:=a;exact⟨b,us,c,d,e,f⟩
 |row v n=>exact a.elim
 |hole=>exact a.elim
theorem St.row{k:aP}{s:List aa}{w:World}(h:St LL B k s w){id e sz n:Nat}(i:s[id]?=some (.row e sz n)):
  ∃v xs,k.own[id]?=some (.row v n)/\eK w B e sz v n xs/\ ∀g,v.ownBlock=some g->k.I g=n*sz:=by
 obtain⟨o,c,a⟩:=h.get i;cases o with
 |blk b=>exact a.elim
 |hole=>exact a.elim
 |row v m=>obtain⟨rfl,⟨xs,d⟩,f⟩:=a;exact⟨v,xs,c,d,f⟩
theorem St.vec{k:aP}{s:List aa}{w:World}(h:St LL B k s w){id e sz:Nat}{ds:List AV}(l:s[id]?=some (.vec e sz ds)):
  ∃v n xs,k.own[id]?=some (.row v n)/\w.ownsRow B e sz v n xs/\(∀g,v.ownBlock=some g->k.I g=0)/\ds.length=n*sz/\bZ k w xs ds:=by
 obtain⟨o,c,a⟩:=h.get l;cases o with
 |blk b=>exact a.elim
 |hole=>exact a.elim
 |row v m=>obtain⟨xs,d,f,i,j⟩:=a;exact⟨v,m,xs,c,d,f,i,j⟩
theorem St.map{k:aP}{s:List aa}{w:World}(h:St LL B k s w){id:Nat}{ag:Bool}{es:List (List Value×AV)}(j:s[id]?=some (.map ag es)):
  ∃b a c,k.own[id]?=some (.blk b)/\w.heap[b]?=some (.map a c)/\kz ag k w es a c/\k.I b=0:=by
 obtain⟨o,e,d⟩:=h.get j;cases o with
 |blk b=>obtain⟨t,us,f,g,i⟩:=d;exact⟨b,t,us,e,f,g,i⟩
 |row v n=>exact d.elim
 |hole=>exact d.elim
theorem St.loop{k:aP}{s:List aa}{w:World}(h:St LL B k s w){id:Nat}{l:ku}(g:s[id]?=some (.loop l)):
  ∃b r,k.own[id]?=some (.blk b)/\w.heap[b]?=some (.loop r)/\vz LL k w l r/\k.I b=0:=by
 obtain⟨o,c,a⟩:=h.get g;cases o with
 |blk b=>obtain⟨r,d,e,f⟩:=a;exact⟨b,r,c,d,e,f⟩
 |row v n=>exact a.elim
 |hole=>exact a.elim
theorem kz.mono{ag:Bool}{k k':aP}{w w':World}(hm:Mono k w k' w'){es:List (List Value×AV)}{a:Array MapEntry}{b:Nat}(h:kz ag k w es a b):kz ag k' w' es a b:=
 ⟨h.1,h.2.1,λi e x g j=>let⟨c,d,f⟩:=h.2.2 i e x g j;⟨c,d.mono hm,f⟩⟩
theorem vz.mono{k k':aP}{w w':World}(hm:Mono k w k' w'){l:ku}{r:Loop}(h:vz LL k w l r):vz LL k' w' l r:=
 ⟨h.1,h.2.1,h.2.2.1,λt x a=>(h.2.2.2.1 t x a).mono hm,h.2.2.2.2⟩
theorem Uo{w w':World}{e sz n:Nat}{v:Value}{xs:List Value}(h:w.ownsRow B e sz v n xs)(hb: ∀g,v.ownBlock=some g->w'.heap[g]?=w.heap[g]?):w'.ownsRow B e sz v n xs:=by
 refine⟨h.1,?_⟩;rcases h.2 with e1|⟨g,cap,cur,e1,e2,e3,e4⟩
 .exact .inl e1
 .exact .inr ⟨g,cap,cur,e1,e2,by rw[hb g (by rw[e1];rfl)];exact e3,e4⟩
theorem lr.same{k k':aP}{w w':World}{x:aa}{o:Own}(h:lr LL B k w x o)(hm:Mono k w k' w')(hb: ∀b,o.block=some b->w'.heap[b]?=w.heap[b]? /\k'.I b=k.I b):lr LL B k' w' x o:=by
 cases x with
 |cells ds=>
  cases o with
  |blk b=>
   obtain⟨t,us,a,c,d⟩:=h;obtain⟨f,i⟩:=hb b rfl;exact⟨t,us,by rw[f];exact a,c.mono hm,by rw[i];exact d⟩
  |row v n=>exact h.elim
  |hole=>exact h.elim
 |tcells t ds=>
  cases o with
  |blk b=>
   obtain⟨us,a,c,d⟩:=h;obtain⟨f,i⟩:=hb b rfl;exact⟨us,by rw[f];exact a,c.mono hm,by rw[i];exact d⟩
  |row v n=>exact h.elim
  |hole=>exact h.elim
 |row e sz n=>
  cases o with
  |blk b=>exact h.elim
  |hole=>exact h.elim
  |row v m=>
   obtain⟨p,⟨xs,j⟩,a⟩:=h;exact⟨p,⟨xs,yW j λg hg=>(hb g hg).1⟩,λg hg=>by rw[(hb g hg).2];exact a g hg⟩
 |vec e sz ds=>
  cases o with
  |blk b=>exact h.elim
  |hole=>exact h.elim
  |row v m=>
   obtain⟨xs,j,a,c,d⟩:=h;exact⟨xs,Uo j λg hg=>(hb g hg).1,λg hg=>by rw[(hb g hg).2];exact a g hg,c,d.mono hm⟩
 |map ag es=>
  cases o with
  |blk b=>
   obtain⟨t,us,a,c,d⟩:=h;obtain⟨f,i⟩:=hb b rfl;exact⟨t,us,by rw[f];exact a,c.mono hm,by rw[i];exact d⟩
  |row v n=>exact h.elim
  |hole=>exact h.elim
 |loop l=>
  cases o with
  |blk b=>
   obtain⟨r,a,c,d⟩:=h;obtain⟨f,i⟩:=hb b rfl;exact⟨r,by rw[f];exact a,c.mono hm,by rw[i];exact d⟩
  |row v n=>exact h.elim
  |hole=>exact h.elim
 |hole=>
  cases o with
  |blk b=>exact h.elim
  |row v n=>exact h.elim
  |hole=>trivial
 |junk=>cases o<;>trivial
theorem St.same{k k':aP}{s:List aa}{w w':World}(h:St LL B k s w)(hm:Mono k w k' w')(m:w.heap.size<=w'.heap.size)(a:k'.own=k.own)
  (hb: ∀b,¬lA k b->w'.heap[b]?=w.heap[b]? /\k'.I b=k.I b) (f: ∀b,b<B->w'.heap[b]?=w.heap[b]?):St LL B k' s w':=by
 have e: ∀(id:Nat) (o:Own) (b:Nat),k.own[id]?=some o->o.block=some b-> ¬lA k b:=λid o b c d p=>p id o c d;refine⟨ez h.base m,by rw[a];exact h.len,λid x o n c=> ?_,λid o b c d=> ?_,λi j o o' b l c g=> ?_,h.glob.low f⟩
 .rw[a]at c;exact(h.obj id x o n c).same hm λb d=>hb b (e id o b c d)
 .rw[a]at c;obtain⟨q,r⟩:=h.lies id o b c d;exact⟨q,by omega⟩
 .rw[a]at c g;exact h.apart i j o o' b l c g
theorem St.owned{k:aP}{s:List aa}{w:World}(h:St LL B k s w){b:Nat}(e: ¬lA k b):B<=b/\b<w.heap.size:=by
 apply fX;intro c;exact e λid o d a=>c (h.lies id o b d a)
theorem Ext.drew(B:Nat)(k:aP)(w:World):Ext B k w k w.drew:=⟨⟨λ_ _ _ h hc=>⟨h,hc⟩,λ_ o h=>⟨o,h,dM.refl o⟩⟩,(Below.refl _ _).drew,λ_ _=>rfl,λ_ _ _=>rfl,λ_ o _ a hb _=>⟨o,a,hb⟩⟩
theorem St.drew{k:aP}{s:List aa}{w:World}(h:St LL B k s w):St LL B k s w.drew:=h.same (Ext.drew B k w).mono (bg _) rfl (λ_ _=>⟨rfl,rfl⟩) λ_ _=>rfl
def dE(I:Nat->Nat)(n x:Nat):Nat->Nat:=λb=>if b=n then x else I b
theorem gE(I:Nat->Nat)(n x:Nat):dE I n x n=x:=by simp[dE]
theorem ix(I:Nat->Nat){n b:Nat}(x:Nat)(h:b≠n):dE I n x b=I b:=by simp[dE,h]
theorem HH{w:World}{b o:Nat}{u:Value}(h:w.cell? ⟨b,o,none⟩=some u):b<w.heap.size:=World.block_lt_of_cell? w _ h
theorem Ext.fresh'{k:aP}{w w':World}(d:B<=w.heap.size)(hb:Below w.heap.size w w'){I':Nat->Nat}(e: ∀b,b<w.heap.size->I' b=k.I b)(a:List Own)(g: ∀(id:Nat) (o:Own),k.own[id]?=some o-> ∃o',a[id]?=some o'/\dM o o')
  (f: ∀(id:Nat) (o:Own) (b:Nat),a[id]?=some o->o.block=some b->b<w.heap.size-> ∃o',k.own[id]?=some o'/\o'.block=some b):Ext B k w ⟨I',a⟩ w':=
 ⟨⟨λb o u h hc=>by
  have c:=HH hc;exact⟨by show o<I' b;rw[e b c];exact h,(hb.cell (p:=⟨b,o,none⟩) c).trans hc⟩,g⟩,hb.mono d,λb h=>e b a8,λb c _=>hb.block b c,f⟩
def cellsIn(w:World)(b:Nat):Nat:=match w.heap[b]? with
 |some (.cells c _ _)=>c.size
 |_=>0
theorem sN{w:World}{b o:Nat}{u:Value}(h:w.cell? ⟨b,o,none⟩=some u):o<cellsIn w b:=by
 unfold World.cell? at h;unfold cellsIn;dsimp only at h;split at h
 .rename_i c _ _ hc;rw[hc];simp at h;exact(gy.1 h).1
 .cases h
def gA(I:Nat->Nat)(n:Nat)(w':World):Nat->Nat:=λb=>if b<n then I b else cellsIn w' b
theorem Ax(I:Nat->Nat){n b:Nat}(w':World)(h:b<n):gA I n w' b=I b:=by simp[gA,h]
theorem Ext.called{k:aP}{w w':World}(a:B<=w.heap.size)(hb:Below w.heap.size w w'):Ext B k w ⟨gA k.I w.heap.size w',k.own⟩ w':=
 Ext.fresh' a hb (λ_ h=>Ax _ _ h) _ (λ_ o h=>⟨o,h,dM.refl o⟩) λ_ o _ b hb _=>⟨o,b,hb⟩
theorem St.called{k:aP}{s:List aa}{w w':World}(h:St LL B k s w)(hb:Below w.heap.size w w'):St LL B ⟨gA k.I w.heap.size w',k.own⟩ s w':=
 h.same (Ext.called h.base hb).mono hb.size rfl (λb c=>let a:=(h.owned c).2;⟨hb.block b a,Ax _ _ a⟩) λb a=>hb.block b (pH a h.base)
theorem rj{α:Type}{l:List α}{x:α}{i:Nat}{y:α}(h:(l++[x])[i]?=some y):l[i]?=some y\/(i=l.length/\y=x):=by
 rw[jb]at h;split at h
 .exact .inl h
 .rename_i a;right;have:i-l.length=0:=by
   rcases qM (i-l.length)with e|e
   .exact e
   .rw[iO (by simp;omega)]at h;cases h
  rw[this]at h;simp at h;exact⟨by omega,h.symm⟩
theorem RX{α:Type}{l:List α}(x:α){i:Nat}{y:α}(h:l[i]?=some y):(l++[x])[i]?=some y:=by
 rw[fP (aV.1 h).1];exact h
theorem Ext.new{k:aP}{w w':World}(c:B<=w.heap.size)(hb:Below w.heap.size w w'){I':Nat->Nat}(f: ∀b,b<w.heap.size->I' b=k.I b)(o:Own)(e: ∀b,o.block=some b->w.heap.size<=b):Ext B k w ⟨I',k.own++[o]⟩ w':=
 Ext.fresh' c hb f _ (λid o' d=>⟨o',RX _ d,dM.refl _⟩) λid o' b d a g=>by
  rcases rj d with ho2|⟨_,rfl⟩
  .exact⟨o',ho2,a⟩
  .have:=e b a;omega
theorem St.new{k:aP}{s:List aa}{w w':World}(h:St LL B k s w)(hb:Below w.heap.size w w'){I':Nat->Nat}(t: ∀b,b<w.heap.size->I' b=k.I b)(o:Own)(x:aa)(d: ∀b,o.block=some b->w.heap.size<=b/\b<w'.heap.size)
  (C:lr LL B ⟨I',k.own++[o]⟩ w' x o):Ext B k w ⟨I',k.own++[o]⟩ w'/\St LL B ⟨I',k.own++[o]⟩ (s++[x]) w':=by
 have u:Ext B k w ⟨I',k.own++[o]⟩ w':=Ext.new h.base hb t o λb hb=>(d b hb).1;refine⟨u,ez h.base hb.size,by simp[h.len],λid y o' A n=> ?_,λid o' b n c=> ?_,λi j v z b m p a f g=> ?_,h.glob.below hb h.base⟩
 .rcases rj A with hs2|⟨rfl,rfl⟩
  .have l:id<s.length:=(aV.1 hs2).1;have a:k.own[id]?=some o':=by
    rcases rj n with a|⟨e,_⟩
    .exact a
    .rw[h.len]at e;omega
   exact(h.obj id y o' hs2 a).same u.mono λb c=>let l:=(h.lies id o' b a c).2;⟨hb.block b l,t b l⟩
  .rcases rj n with a|⟨_,rfl⟩
   .have:=(aV.1 a).1;rw[h.len]at this;omega
   .exact C
 .rcases rj n with a|⟨_,rfl⟩
  .obtain⟨q,r⟩:=h.lies id o' b a c;exact⟨q,pH r hb.size⟩
  .obtain⟨q,r⟩:=d b c;exact⟨ez h.base q,r⟩
 .rcases rj p with ho3|⟨rfl,rfl⟩<;>rcases rj a with ho4|⟨rfl,rfl⟩
  .exact h.apart i j v z b m ho3 ho4 f g
  .have:=(h.lies i v b ho3 f).2;have:=(d b g).1;omega
  .have:=(h.lies j z b ho4 g).2;have:=(d b f).1;omega
  .exact m rfl
def fill{α:Type}(l:List α)(n:Nat)(xs:List α):List α:=l.take n++xs++l.drop (n+xs.length)
theorem um{α:Type}(l xs:List α):fill l l.length xs=l++xs:=by
 unfold fill;rw[qL,A9 a8,bq]
theorem yq{α:Type}{l:List α}{n:Nat}(xs:List α)(h:n<=l.length)(i:Nat):(fill l n xs)[i]?=if i<n then l[i]? else if i<n+xs.length then xs[i-n]? else l[i]? :=by
 unfold fill;rw[bk,jb,cC,qO h];by_cases a:i<n
 .rw[if_pos a,if_pos a,fL,if_pos a]
 .rw[if_neg a,if_neg a,jb];by_cases b:i<n+xs.length
  .rw[if_pos a8,if_pos b]
  .rw[if_neg a8,if_neg b,gf];congr 1;omega
theorem Rx{α:Type}{l:List α}{n:Nat}{xs:List α}(h:n+xs.length<=l.length):(fill l n xs).length=l.length:=by
 unfold fill;simp only[aQ,cC,ax];omega
def iy(s:List aa)(n m:Nat):Prop:=(n+m<=s.length/\ ∀i:Nat,n<=i->i<n+m->s[i]?=some .hole)\/n=s.length
theorem iy.end'(s:List aa)(m:Nat):iy s s.length m:= .inr rfl
theorem iy.le{s:List aa}{n m:Nat}(h:iy s n m):n<=s.length:=by
 rcases h with⟨h,_⟩|h<;>omega
theorem St.hole_own{k:aP}{s:List aa}{w:World}(h:St LL B k s w){i:Nat}(d:s[i]?=some .hole):k.own[i]?=some .hole:=by
 obtain⟨o,c,a⟩:=h.get d;cases o with
 |blk b=>exact a.elim
 |row v n=>exact a.elim
 |hole=>exact c
theorem St.fill{k:aP}{s:List aa}{w w':World}(h:St LL B k s w)(hb:Below w.heap.size w w'){I':Nat->Nat}(T: ∀b,b<w.heap.size->I' b=k.I b){n:Nat}(d:List Own)(xs:List aa)(A:d.length=xs.length)(U:iy s n xs.length)
  (q: ∀(i:Nat) (o:Own) (b:Nat),d[i]?=some o->o.block=some b->w.heap.size<=b/\b<w'.heap.size) (H: ∀(i j:Nat) (o o':Own) (b:Nat),i≠j->d[i]?=some o->d[j]?=some o'->o.block=some b->o'.block≠some b)
  (V:Mono k w ⟨I',Bb.fill k.own n d⟩ w'-> ∀(i:Nat) (o:Own) (x:aa),d[i]?=some o->xs[i]?=some x->lr LL B ⟨I',Bb.fill k.own n d⟩ w' x o):
  Ext B k w ⟨I',Bb.fill k.own n d⟩ w'/\St LL B ⟨I',Bb.fill k.own n d⟩ (Bb.fill s n xs) w':=by
 have z:=U.le;have L:n<=k.own.length:=by rw[h.len];exact z
 have r:=yq d L;have v:=yq xs z;have C: ∀i o,n<=i->i<n+d.length->k.own[i]?=some o->o= .hole:=λi o a f l=>by
  rcases U with⟨_,S⟩|S
  .have:=h.hole_own (S i a a8);rw[l]at this;exact aJ this
  .have:=(aV.1 l).1;rw[h.len]at this;omega
 have g: ∀(i:Nat) (o:Own),(Bb.fill k.own n d)[i]?=some o->(k.own[i]?=some o/\ ¬(n<=i/\i<n+d.length))\/(n<=i/\i<n+d.length/\d[i-n]?=some o):=λi o e=>by
  rw[r]at e;by_cases a:i<n
  .rw[if_pos a]at e;exact .inl ⟨e,by omega⟩
  .rw[if_neg a]at e;by_cases f:i<n+d.length
   .rw[if_pos f]at e;exact .inr ⟨by omega,f,e⟩
   .rw[if_neg f]at e;exact .inl ⟨e,by omega⟩
 have J:Ext B k w ⟨I',Bb.fill k.own n d⟩ w':=by
  refine Ext.fresh' h.base hb T _ (λid o e=> ?_) λid o b e c t=> ?_
  .by_cases a:n<=id/\id<n+d.length
   .have:=C id o a.1 a.2 e;subst this;have l:id-n<d.length:=by omega
    exact⟨d[id-n],by rw[r,if_neg a8,if_pos a.2];exact bQ l,trivial⟩
   .refine⟨o,?_,dM.refl o⟩;rw[r];by_cases f:id<n
    .rw[if_pos f];exact e
    .rw[if_neg f,if_neg a8];exact e
  .rcases g id o e with⟨a,_⟩|⟨_,_,a⟩
   .exact⟨o,a,c⟩
   .have:=(q _ o b a c).1;omega
 refine⟨J,ez h.base hb.size,?_,λid y o u e=> ?_,λid o b e c=> ?_,λi j D E b K N O m p=> ?_,h.glob.below hb h.base⟩
 .have hk:=h.len;show(Bb.fill k.own n d).length=(Bb.fill s n xs).length;unfold Bb.fill;simp only[aQ,cC,ax,A,hk]
 .have M:(Bb.fill k.own n d)[id]?=some o:=e;rcases g id o M with⟨a,f⟩|⟨a,f,l⟩
  .rw[v]at u;have P:s[id]?=some y:=by
    by_cases l:id<n
    .rw[if_pos l]at u;exact u
    .rw[if_neg l,if_neg a8]at u;exact u
   exact(h.obj id y o P a).same J.mono λb c=>let t:=(h.lies id o b a c).2;⟨hb.block b t,T b t⟩
  .rw[v,if_neg a8,if_pos a8]at u;exact V J.mono _ o y l u
 .rcases g id o e with⟨a,_⟩|⟨_,_,a⟩
  .obtain⟨Q,R⟩:=h.lies id o b a c;exact⟨Q,pH R hb.size⟩
  .obtain⟨Q,R⟩:=q _ o b a c;exact⟨ez h.base Q,R⟩
 .rcases g i D N with⟨a,F⟩|⟨a,F,h1''⟩<;>rcases g j E O with⟨f,G⟩|⟨f,G,h2''⟩
  .exact h.apart i j D E b K a f m p
  .have:=(h.lies i D b a m).2;have:=(q _ E b h2'' p).1;omega
  .have:=(h.lies j E b f p).2;have:=(q _ D b h1'' m).1;omega
  .exact H (i-n) (j-n) D E b a8 h1'' h2'' m p
theorem St.newAt{k:aP}{s:List aa}{w w':World}(h:St LL B k s w)(hb:Below w.heap.size w w'){I':Nat->Nat}(m: ∀b,b<w.heap.size->I' b=k.I b){n:Nat}(p:iy s n 1)(o:Own)(x:aa)(e: ∀b,o.block=some b->w.heap.size<=b/\b<w'.heap.size)
  (q:Mono k w ⟨I',Bb.fill k.own n [o]⟩ w'->lr LL B ⟨I',Bb.fill k.own n [o]⟩ w' x o):Ext B k w ⟨I',Bb.fill k.own n [o]⟩ w'/\St LL B ⟨I',Bb.fill k.own n [o]⟩ (Bb.fill s n [x]) w':=
 h.fill hb m [o] [x] rfl p (λi o' b a c=>by cases i with
  |zero=>cases a;exact e b c
  |succ i=>cases a) (λi j r t b d g l=>by cases i with
  |zero=>cases j with
   |zero=>exact absurd rfl d
   |succ j=>cases l
  |succ i=>cases g) λhm i o' u a f=>by cases i with
  |zero=>cases a;cases f;exact q hm
  |succ i=>cases a
theorem pZ{k:aP}{s:List aa}{w:World}(h:St LL B k s w){n:Nat}(a:iy s n 1)(o:Own):(Bb.fill k.own n [o])[n]?=some o:=by
 rw[yq [o] (by rw[h.len];exact a.le),if_neg (Nat.lt_irrefl _),if_pos (by simp)];simp
theorem St.holes{k:aP}{s:List aa}{w:World}(h:St LL B k s w)(m:Nat):Ext B k w ⟨k.I,k.own++List.replicate m .hole⟩ w/\St LL B ⟨k.I,k.own++List.replicate m .hole⟩ (s++List.replicate m .hole) w:=by
 have:=h.fill (Below.refl _ _) (I':=k.I) (λ_ _=>rfl) (n:=s.length) (List.replicate m .hole) (List.replicate m .hole) (by simp) (.inr rfl) (λi o b a hb=>by
  rw[pG]at a;split at a
  .cases a;cases hb
  .cases a) (λi j o o' b _ a _ hb=>by
  rw[pG]at a;split at a
  .cases a;cases hb
  .cases a) λ_ i o x a d=>by
  rw[pG]at a d;split at a
  .rename_i c;rw[if_pos c]at d;cases a;cases d;trivial
  .cases a
 rw[um,<-h.len,um]at this;exact this
theorem St.upd{k k':aP}{s:List aa}{w w':World}(h:St LL B k s w){id:Nat}{o o':Own}(u:k.own[id]?=some o)(N:aa)(p:k'.own=k.own.set id o')(H:dM o o')(t:jr k.I w k'.I w')(hbelow:Below B w w')
  (m: ∀b,o'.block=some b->(o.block=some b\/w.heap.size<=b)/\b<w'.heap.size/\B<=b) (n: ∀b,b<w.heap.size->o.block≠some b->w'.heap[b]?=w.heap[b]? /\k'.I b=k.I b)
  (P:lr LL B k' w' N o'):Ext B k w k' w'/\St LL B k' (s.set id N) w':=by
 have C:=(aV.1 u).1;have c: ∀j,k'.own[j]?=if id=j then some o' else k.own[j]? :=λj=>by
  rw[p,fB];by_cases e:id=j
  .subst e;simp[C]
  .simp[e]
 have hm:Mono k w k' w':=⟨t,λj f a=>by
  by_cases e:id=j
  .subst e;rw[u]at a;obtain rfl:=aJ a;exact⟨o',by rw[c,if_pos rfl],H⟩
  .exact⟨f,by rw[c,if_neg e];exact a,dM.refl _⟩⟩
 have E: ∀b,b<B->o.block≠some b:=λb g e=>by have:=(h.lies id o b u e).1;omega
 refine⟨⟨hm,hbelow,λb g=>(n b (pH g h.base) (E b g)).2,λb g O=>(n b g (O id o u)).1,λj f b a d g=> ?_⟩,ez h.base hbelow.size,by rw[p];simp[h.len],λj y f F a=> ?_,λj f b a d=> ?_,λi j L M b D x z q r=> ?_,h.glob.below hbelow (bg _)⟩
 .rw[c]at a;split at a
  .rename_i e;subst e;obtain rfl:=aJ a;rcases(m b d).1 with l|l
   .exact⟨o,u,l⟩
   .omega
  .exact⟨f,a,d⟩
 .rw[c]at a;split at a
  .rename_i e;subst e;obtain rfl:=aJ a;rw[fB,if_pos rfl,if_pos (by rw[<-h.len];exact C)]at F;obtain rfl:=aJ F;exact P
  .rename_i e;rw[fB,if_neg e]at F;exact(h.obj j y f F a).same hm λb d=>n b (h.lies j f b a d).2 (h.apart j id f o b (Ne.symm e) a u d)
 .rw[c]at a;split at a
  .rename_i e;subst e;obtain rfl:=aJ a;obtain⟨_,J,K⟩:=m b d;exact⟨K,J⟩
  .obtain⟨J,K⟩:=h.lies j f b a d;exact⟨J,pH K hbelow.size⟩
 .rw[c]at x z;have key: ∀(j:Nat) (f:Own),j≠id->k.own[j]?=some f->f.block=some b->o'.block≠some b:=λj f hne a A G=>by
   rcases(m b G).1 with l|l
   .exact h.apart j id f o b hne a u A l
   .have:=(h.lies j f b a A).2;omega
  split at x<;>split at z
  .rename_i l v;exact D (l.symm.trans v)
  .rename_i l v;subst l;obtain rfl:=aJ x;exact key j M (Ne.symm v) z r q
  .rename_i l v;subst v;obtain rfl:=aJ z;exact key i L (Ne.symm l) x q r
  .exact h.apart i j L M b D x z q r
end
end Go.Bb
