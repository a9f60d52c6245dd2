/- Part of a proof. -/
import Derived.Test.YtfoljakejdgfcaaGreatDoorPAO
import Derived.Lib.UnsafeStr
import Derived.Test.YtfoljakejdgfcaaGreatDoorPAW
set_option linter.unusedVariables false
set_option linter.unusedSimpArgs false
namespace Go.Proofs.Lh
open Go Go.Ab Go.Bb Go.RowKit Go.Proofs.Lg
def self(b:Nat):Value:= .pointer (some ⟨b,0,none⟩)
set_option maxHeartbeats 1000000 in
set_option maxRecDepth 100000 in
theorem Od(b:Nat)(w:World)(h0:w.cell? ⟨b,0,none⟩=some (.pointer (some ⟨b,0,none⟩))):
  Calls Tryz.prog 289 #[.pointer (some ⟨b,0,none⟩)] w fun e w'=>e= .returned (.tuple #[])∧w'=w:=by
 obtain⟨j,a⟩: ∃j,Tryz.prog.info? 260=some j:=uL.1 (show(Tryz.prog.info? 260).isSome=true by kernel_rfl)
 go_enter Tryz.func289,Tryz.ntmps289
 go_wp2
 rw[Go.Lib.run_neq_ptr_same w _ Tryz.underlying258 a]
 go_wp2
 go_end0
 exact⟨rfl,rfl⟩
set_option maxHeartbeats 1000000 in
set_option maxRecDepth 100000 in
theorem Oc(b:Nat)(w:World)(h0:w.cell? ⟨b,0,none⟩=some (.pointer none))(c:w.shape? b=some (260,2))(g:w.frozen? ⟨b,0,none⟩=false):
  Calls Tryz.prog 289 #[.pointer (some ⟨b,0,none⟩)] w fun e w'=>e= .returned (.tuple #[])∧w'=w.setCell ⟨b,0,none⟩ (.pointer (some ⟨b,0,none⟩)):=by
 obtain⟨j,f,d⟩: ∃j,Tryz.prog.info? 260=some j∧j.size=2:=db.1 (show(Tryz.prog.info? 260).map (·.size)=some 2 by kernel_rfl);have a:liesAt Tryz.prog Tryz.prog.depth 260 (2/Tryz.prog.cellsOf 260) 0 260 1=true:=by kernel_rfl
 go_enter Tryz.func289,Tryz.ntmps289
 go_wp2
 rw[Go.Lib.run_to_unsafe w ⟨b,0,none⟩ Tryz.underlying258 Tryz.underlying297 f (by rw[d];decide) c (Nat.zero_lt_succ 1)];simp only[Result.andThen];rw[Oper.upon_value]
 go_wp2
 rw[run_callFunc_extern Tryz.func294 (by kernel_rfl) (by kernel_rfl) (by kernel_rfl) (e:=Extern.AbiNoEscape.same) (by kernel_rfl)];rw[Go.Lib.run_noEscape];simp only[Result.andThen];rw[Oper.upon_value]
 go_wp2
 rw[Go.Lib.run_from_unsafe w ⟨b,0,none⟩ Tryz.underlying297 Tryz.underlying258 f c a];simp only[Result.andThen];rw[Oper.upon_value]
 go_wp2
 go_end0
 exact⟨rfl,rfl⟩
theorem Y0{w:World}{b:Nat}{p v:Value}{t:TypeId}(a:w.heap[b]?=some (.cells #[p,v] t (0,0))):w.setCell ⟨b,0,none⟩ p=w:=by
 rw[setCell_eq_setRow w b 0 _ t (0,0) p a];exact setRow_self w b _ t (0,0) a
theorem GS{b:Nat}{w:World}{p v:Value}(a:w.heap[b]?=some (.cells #[p,v] 260 (0,0)))(c:p= .pointer none∨p=self b):
  Calls Tryz.prog 289 #[.pointer (some ⟨b,0,none⟩)] w fun e w'=>e= .returned (.tuple #[])∧w'=w.setCell ⟨b,0,none⟩ (self b):=by
 have h0:w.cell? ⟨b,0,none⟩=some p:=by rw[Go.Lib.cell_of_heap a];rfl
 rcases c with rfl|rfl
 ·exact Oc b w h0 (by simp[World.shape?,a]) (by simp[World.frozen?,a])
 ·rw[Y0 a];exact Od b w h0
theorem F8{w:World}{b:Nat}{p v:Value}{t:TypeId}(a:w.heap[b]?=some (.cells #[p,v] t (0,0)))(u:Value):(w.setCell ⟨b,0,none⟩ u).heap[b]?=some (.cells #[u,v] t (0,0)):=by
 rw[setCell_eq_setRow w b 0 _ t (0,0) u a];exact setRow_heap w b _ _ t (0,0) a
theorem F9{w:World}{b i j:Nat}{u:Value}(h:j≠b):(w.setCell ⟨b,i,none⟩ u).heap[j]?=w.heap[j]? :=Below.heap_setCell _ _ _ _ h
def pk(b c:World)(B n m:Nat)(v a:Value)(xs:List Value):Prop:=(m=0∧a=v∧c=b)∨(0<m∧Cn b c B 5 1 n m v a xs)
theorem pk.kept{a c:World}{B n m b:Nat}{v d:Value}{xs:List Value}(h:pk a c B n m v d xs)(hne:v.ownBlock≠some b)(hb:b<a.heap.size):c.heap[b]?=a.heap[b]? :=by
 rcases h with⟨_,_,rfl⟩|⟨_,_,_,⟨g,h1,h2,h3⟩|⟨h1,h2,h3⟩⟩
 ·rfl
 ·exact h3.block b hb (fun e=>hne (by rw[h2];exact e.symm))
 ·exact h3.block b hb (by simp)
theorem pk.form{e f:World}{B n m:Nat}{v b:Value}{xs:List Value}(h:pk e f B n m v b xs)(d: ∃a n c,v= .slice a n c): ∃a n c,b= .slice a n c:=by
 rcases h with⟨_,rfl,_⟩|⟨_,h1,_⟩
 ·exact d
 ·obtain⟨a,c,h⟩:=tY h1;exact⟨a,_,c,h⟩
theorem PB: ∃i,Tryz.prog.info? 5=some i∧i.zero=some (.int .u8 0)∧i.size=1∧i.bytes=1:=by
 obtain⟨i,hi,h⟩:=db.1 (show(Tryz.prog.info? 5).map (fun i=>(i.zero,i.size,i.bytes))=some (some (.int .u8 0),1,1) by kernel_rfl);simp only[Prod.mk.injEq]at h;exact⟨i,hi,h⟩
theorem Gb(a:World)(B:Nat)(c:TypeId){n m:Nat}{v x:Value}{xs news:List Value}(d:dO a B 5 1 v n xs)(q:Src Tryz.prog 1 c x m news a)(k:n+m≤140737488355328)(o:B≤a.heap.size):
  ∃g h,(∀e,(Builtin.append_ #[177,c] e #[v,x]).run Tryz.prog a= .ok g h)∧pk a h B n m v g (xs++news):=by
 obtain⟨i,hi,r,f,l⟩:=PB;have b:dO a B 5 i.size v n xs:=by rw[f];exact d
 have j:Src Tryz.prog i.size c x m news a:=by rw[f];exact q
 obtain⟨g,h,p,hc,_⟩:=XP (P:=Tryz.prog) a B 177 c 177 5 i (.int .u8 0) Tryz.underlying177 hi r (by rw[f];rfl) v n xs b x m news j a8 (by rw[l];omega) o;rw[f]at hc;refine⟨g,h,fun e=> ?_,hc⟩;have: ∀e,Builtin.append_ #[177,c] e #[v,x]=Builtin.append_ #[177,c] 177 #[v,x]:=fun e=>rfl;rw[this];exact p
def Written(w w':World)(B b n m:Nat)(v:Value)(xs:List Value):Prop:=
 ∃a c,pk (w.setCell ⟨b,0,none⟩ (self b)) c B n m v a xs∧w'=c.setCell ⟨b,1,none⟩ a
set_option maxHeartbeats 1000000 in
set_option maxRecDepth 100000 in
theorem N2{B b n:Nat}{w:World}{p v:Value}{xs:List Value}(s:ByteArray)(d:w.heap[b]?=some (.cells #[p,v] 260 (0,0)))(r:p= .pointer none∨p=self b)(f:dO w B 5 1 v n xs)(hne:v.ownBlock≠some b)
  (o:n+s.size≤140737488355328) (E:B≤w.heap.size):
  Calls Tryz.prog 273 #[.pointer (some ⟨b,0,none⟩),.string s] w fun e w'=>e= .returned (.tuple #[.int .i64 s.size,.nilIface])∧Written w w' B b n s.size v (xs++byteCells s):=by
 have l:=GS d r;have j:=F8 d (self b);have x:b<w.heap.size:=(fK.1 d).1;have y:(w.setCell ⟨b,0,none⟩ (self b)).heap.size=w.heap.size:=by rw[setCell_eq_setRow w b 0 _ _ (0,0) _ d,setRow_size]
 have i:dO (w.setCell ⟨b,0,none⟩ (self b)) B 5 1 v n xs:=vL f fun g hg=>F9 (fun e=>hne (by rw[hg,e]));obtain⟨u,q,t,hc⟩:=Gb (w.setCell ⟨b,0,none⟩ (self b)) B 9 i (Src.ofString (P:=Tryz.prog) _ Tryz.underlying9 s) o a8;have k:=(hc.kept hne a8).trans j;have m:=hc.form (by obtain⟨a,c,h⟩:=tY f;exact⟨a,_,c,h⟩)
 have W:Hid (Written w (q.setCell ⟨b,1,none⟩ u) B b n s.size v (xs++byteCells s)):=Go.Lib.hid ⟨u,q,hc,rfl⟩;generalize w.setCell ⟨b,0,none⟩ (self b)=w1 at l j t;have A:w1.cell? ⟨b,1,none⟩=some v:=by rw[Go.Lib.cell_of_heap j];rfl
 have C:q.cell? ⟨b,1,none⟩=some v:=by rw[Go.Lib.cell_of_heap k];rfl
 have D:q.frozen? ⟨b,1,none⟩=false:=Go.Lib.frozen_of_heap k 1;obtain⟨z,F,cap,rfl⟩:=m;have HCC:=Go.Lib.hid l;clear l hc i f r d j k
 go_enter Tryz.func273,Tryz.ntmps273
 go_wp2_with (go_at_call 289;refine HCC.out.mono ?_)
 rintro e w' ⟨rfl,rfl⟩
 go_wp2_with (at_builtin;refine Go.Lib.wpList_append_run _ rfl _ _ _ _ rfl _ _ rfl rfl _ _ (t _) ?_)
 go_wp2
 go_ret2
 exact⟨rfl,W.out⟩
def FZ(w w':World)(B b n:Nat)(c:Int)(v:Value)(xs:List Value):Prop:=
 ∃a d,pk ((w.setCell ⟨b,0,none⟩ (self b)).alloc (.cells #[.int .u8 c] 5)) d B n 1 v a xs∧w'=d.setCell ⟨b,1,none⟩ a
set_option maxHeartbeats 1000000 in
set_option maxRecDepth 100000 in
theorem N1{B b n:Nat}{w:World}{p v:Value}{xs:List Value}(c:Int)(f:w.heap[b]?=some (.cells #[p,v] 260 (0,0)))(C:p= .pointer none∨p=self b)(i:dO w B 5 1 v n xs)(hne:v.ownBlock≠some b)(z: ∀g,v.ownBlock=some g→g<w.heap.size)
  (t:n+1≤140737488355328) (L:B≤w.heap.size):
  Calls Tryz.prog 274 #[.pointer (some ⟨b,0,none⟩),.int .u8 c] w fun e w'=>e= .returned .nilIface∧FZ w w' B b n c v (xs++[.int .u8 c]):=by
 have q:=GS f C;have k:=F8 f (self b);have G:b<w.heap.size:=(fK.1 f).1;have s:(w.setCell ⟨b,0,none⟩ (self b)).heap.size=w.heap.size:=by rw[setCell_eq_setRow w b 0 _ _ (0,0) _ f,setRow_size]
 have d:dO (w.setCell ⟨b,0,none⟩ (self b)) B 5 1 v n xs:=vL i fun g hg=>F9 (fun e=>hne (by rw[hg,e]));have d:dO ((w.setCell ⟨b,0,none⟩ (self b)).alloc (.cells #[.int .u8 c] 5)) B 5 1 v n xs:=vL d fun g hg=>Go.Lib.alloc_old _ _ g (by rw[s];exact z g hg)
 have m:((w.setCell ⟨b,0,none⟩ (self b)).alloc (.cells #[.int .u8 c] 5)).heap[w.heap.size]?=some (.cells #[.int .u8 c] 5 (0,0)):=by
  have:=heap_alloc_new (w.setCell ⟨b,0,none⟩ (self b)) (.cells #[.int .u8 c] 5);rw[s]at this;exact this
 obtain⟨E,y,A,hc⟩:=Gb ((w.setCell ⟨b,0,none⟩ (self b)).alloc (.cells #[.int .u8 c] 5)) B 177 d (Src.ofSlice (P:=Tryz.prog) _ Tryz.underlying177 ⟨w.heap.size,0,none⟩ 1 1 [.int .u8 c] rfl (fun j u x=>by
  match j,x with
  |0,x=>
   simp at x;subst x;have F:(⟨w.heap.size,0,none⟩:Addr).add 0=⟨w.heap.size,0,none⟩:=by simp[Addr.add]
   rw[F,cell_of_row _ w.heap.size 0 _ _ _ m];rfl) (fun u D=>by simp at D;subst D;rfl)) t (by simp;omega)
 have l:((w.setCell ⟨b,0,none⟩ (self b)).alloc (.cells #[.int .u8 c] 5)).heap[b]?=some (.cells #[self b,v] 260 (0,0)):=(Go.Lib.alloc_old _ _ b a8).trans k;have o:=(hc.kept hne (by simp;omega)).trans l;have r:=hc.form (by obtain⟨a,c,h⟩:=tY i;exact⟨a,_,c,h⟩);have W:Hid (FZ w (y.setCell ⟨b,1,none⟩ E) B b n c v (xs++[.int .u8 c])):=Go.Lib.hid ⟨E,y,hc,rfl⟩
 rw[←s]at A;generalize w.setCell ⟨b,0,none⟩ (self b)=w1 at q k A;have I:w1.cell? ⟨b,1,none⟩=some v:=by rw[Go.Lib.cell_of_heap k];rfl
 have J:y.cell? ⟨b,1,none⟩=some v:=by rw[Go.Lib.cell_of_heap o];rfl
 have K:y.frozen? ⟨b,1,none⟩=false:=Go.Lib.frozen_of_heap o 1;obtain⟨H,M,cap,rfl⟩:=r;have HCC:=Go.Lib.hid q;clear q hc d i C f k o l m
 go_enter Tryz.func274,Tryz.ntmps274
 go_wp2_with (go_at_call 289;refine HCC.out.mono ?_)
 rintro e w' ⟨rfl,rfl⟩
 go_wp2_with (at_builtin;refine Go.Lib.wpList_append_run _ rfl _ _ _ _ rfl _ _ rfl rfl _ _ (A _) ?_)
 go_wp2
 go_ret
 exact⟨rfl,W.out⟩
set_option maxHeartbeats 1000000 in
set_option maxRecDepth 100000 in
theorem N0{b g cap:Nat}{w:World}{p:Value}{cur:Array Value}{fz:Nat×Nat}(l:List UInt8)(h0:l≠[])(c:w.heap[b]?=some (.cells #[p,.slice (some ⟨g,0,none⟩) l.length cap] 260 (0,0)))(hg:w.heap[g]?=some (.cells cur 5 fz))(n:l.length≤cap)(d:cap≤maxLen)(f:cur.size=cap*1)
  (hc: ∀j x,l[j]?=some x→w.cell? ⟨g,j,none⟩=some (.int .u8 x.toNat)):
  Calls Tryz.prog 249 #[.pointer (some ⟨b,0,none⟩)] w fun e w'=>e= .returned (.string ⟨l.toArray⟩)∧w'=w.drew.freeze ⟨g,0,none⟩ l.length:=by
 have m:l.length≠0:=by simpa using h0
 have q:w.drew.cell? ⟨b,1,none⟩=some (.slice (some ⟨g,0,none⟩) l.length cap):=by
  have:w.drew.heap[b]?=some (.cells #[p,.slice (some ⟨g,0,none⟩) l.length cap] 260 (0,0)):=c;rw[Go.Lib.cell_of_heap this];rfl
 have i:(Builtin.unsafeSliceData_ #[177] 284 #[.slice (some ⟨g,0,none⟩) l.length cap]).run Tryz.prog w.drew= .ok (.pointer (some ⟨g,0,none⟩)) w.drew:=
  Go.Lib.run_unsafeSliceData_row _ _ _ _ _ _ a8
 have k:(Builtin.unsafeString_ #[284,3] 9 #[.pointer (some ⟨g,0,none⟩),.int .i64 l.length]).run Tryz.prog w.drew= .ok (.string ⟨l.toArray⟩) (w.drew.freeze ⟨g,0,none⟩ l.length):=by
  refine Go.Lib.run_unsafeString_row w.drew 284 3 9 5 Tryz.underlying284 (by kernel_rfl) g cur.size (by have h:w.drew.heap[g]?=some (.cells cur 5 fz):=hg;simp[World.shape?,h]) l h0 a8 (by unfold maxLen at d;omega) ?_;intro j x o;have a:(⟨g,0,none⟩:Addr).add j=⟨g,j,none⟩:=by unfold Addr.add;split<;>simp_all
  rw[a,World.cell?_drew];exact hc j x o
 clear hc f hg c;have mixed:Tryz.prog.follows Departure.mixedOrders=true:=by kernel_rfl
 go_enter Tryz.func249,Tryz.ntmps249
 go_wp2
 go_region_o
 all_goals(go_wp2;go_ret;exact⟨rfl,rfl⟩)
end Go.Proofs.Lh
namespace Go.Proofs.Q
open Go Go.Ab Go.Bb
def yE:CF:=⟨19, (.seq (fo [o7 4 0]) (.seq (.seq (fo [om 6 0,o9 7 0 6,o7 8 0]) (.block 0 (.loop (.trim [8,0,1,7] (.seq (fo [o4 9 .lss 8 7]) (.seq (.cond (.t 9) .skip (.exit 0)) (.seq (.block 1 (.seq (fo [om 10 8,om 5 10]) (.seq (fo [om 11 1,om 12 0,om 13 5,oi 14 1 12 13,o3 15 14,o4 16 .eql 11 15]) (.cond (.t 16) (.seq (fo [om 17 5,om 4 17]) .ret) .skip)))) (fo [o5 18 .add 8 1,om 8 18])))))))) (.seq (fo [o0 4 (.mov (xi (-1)))]) .ret))),[.tmp 4]⟩
theorem IM:aG Tryz.prog [] 268=some yE.erase:=by kernel_rfl
def yA:CF:=⟨9, (.seq (fo [o0 4 (.mov xF)]) (.seq (fo [om 5 0,om 6 1,o6 7 268 [.t 5,.t 6],o5 8 .geq 7 0,om 4 8]) .ret)),[.tmp 4]⟩
theorem Rt:aG Tryz.prog [] 234=some yA.erase:=by kernel_rfl
end Go.Proofs.Q
namespace Go.Proofs.Q
open Go Go.Bb Go.RowKit Go.Proofs.Lg
open Go.Ab (D RD)
theorem PH(s:aZ):isName s=(mC s.data.toList&& !decide (s=⟨#[]⟩)&&decide ((s.size:Int)≤40)&& !decide (s=⟨#[46]⟩)&& !decide (s=⟨#[46,46]⟩)):=by
 have h:decide (1≤(s.size:Int))= !decide (s=⟨#[]⟩):=by
  by_cases e:s=⟨#[]⟩
  ·subst e;rfl
  ·have a:s.size≠0:=fun h0=>e (by
    apply ByteArray.ext;exact Array.eq_empty_of_size_eq_zero h0)
   rw[decide_eq_false e];simp;omega
 unfold isName;rw[h]
set_option maxHeartbeats 4000000 in
theorem JK(s:aZ)(c:s.size≤9223372036854775807):aE Tryz.prog 179 [dS s] (dB (isName s)):=by
 refine aI (F:=zn) Sa (by simp[zn]) ?_;simp only[zn];refine aw trivial trivial ?_;refine aX.over s.data.toList (fun k (_:Unit)=>[(7,iN k)]) (fun _ _=>[]) (fun l _=>mC l) (mC s.data.toList) () (by rw[fi];exact c) aA aA rfl rfl (fun k _ x hg e b d a=> ?_) (fun _ b a=> ?_)
 ·rw[fi]at b;rw[mC]at a
  repeat' first|refine ak (fun _=> ?_) fun _=> ?_|refine bb (ga @b (ga @d (ga @pI @hg))) trivial ?_|exact ba (ga @b (ga @d (ga @pI @hg))) trivial|fail
  all_goals first
   |(
    have hb:tR x=true:=by(clear a b d hg c;simp_all[tR];try omega)
    rw[if_pos hb]at a;exact⟨(),a⟩)
   |(
    have hb:tR x=false:=by(clear a b d hg c;simp_all[tR];try omega)
    rw[if_neg (by simp[hb])]at a;simp[isName,a])
 ·rw[fi]at b;rw[mC]at a
  repeat' first|refine ak (fun _=> ?_) fun _=> ?_|refine bb (ga @b (ga @fi @jY)) trivial ?_|exact ba (ga @b (ga @fi @jY)) trivial|fail
  all_goals(rw[PH,a];clear b c;first|(simp_all;done)|(simp_all;intros;omega))
theorem Ui(x:ar)(d:Dg):aE Tryz.prog 193 [.agg (ab x),.ref (aq d)] (.agg (ab (whole x d))):=by
 have a:=Bv x;unfold whole;by_cases h:isZero x.p=true
 ·by_cases b:0≤x.n
  ·have c:decide (x.n≥0)=true:=by simpa using b
   rw[if_pos ⟨h,b⟩];rw[h]at a;refine aI (F:=nr) DZ (by simp[nr]) ?_;simp only[nr];exact bx (ga @c (ga @bc (ga @aM @wj))) @a
   all_goals first|rfl|trace_state
  ·have c:decide (x.n≥0)=false:=by simpa using b
   rw[if_neg (fun h=>b h.2)];rw[h]at a;refine aI (F:=nr) DZ (by simp[nr]) ?_;simp only[nr];exact bx (ga @c (ga @bc (ga @aM @wj))) @a
   all_goals first|rfl|trace_state
 ·rw[if_neg (fun e=>h e.1)];have f:isZero x.p=false:=by simpa using h
  rw[f]at a;refine aI (F:=nr) DZ (by simp[nr]) ?_;simp only[nr];exact bx (ga @bc (ga @aM @wj)) @a
  all_goals first|rfl|trace_state
end Go.Proofs.Q
