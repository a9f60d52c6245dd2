/- Lemmas. -/
import Derived.Test.YtellfinifjmloaaGreatDoorPAT
set_option linter.unusedVariables false
set_option linter.unusedSimpArgs false
namespace Go.Proofs.Q
open Go Go.Bb Go.RowKit Go.Proofs.Lg
open Go.Ab (D RD)
theorem Zg(a:au):aG Tryz.prog 244 [.agg (aI a)] (dB (decide (a.kind=1))):=by
 refine aM (F:=Br) X7 (by simp[Br]) ?_;simp only[Br]
 repeat' first|refine ae (fun _=> ?_) fun _=> ?_|refine ay ab ab ?_|exact ax ab ab|fail
 all_goals simp_all
theorem Zh(a:au):aG Tryz.prog 245 [.agg (aI a)] (dB (decide (a.kind=1)&&(decide (a.type=2)||decide (a.type=3)))):=by
 refine aM (F:=Bs) X8 (by simp[Bs]) ?_;simp only[Bs]
 repeat' first|refine ae (fun _=> ?_) fun _=> ?_|refine ay ab ab ?_|exact ax ab ab|fail
 all_goals simp_all
theorem Zi(a:au):aG Tryz.prog 246 [.agg (aI a)] (dB (decide (a.kind=1)&&decide (a.type=1))):=by
 refine aM (F:=Bt) X9 (by simp[Bt]) ?_;simp only[Bt]
 repeat' first|refine ae (fun _=> ?_) fun _=> ?_|refine ay ab ab ?_|exact ax ab ab|fail
 all_goals simp_all
theorem Zj(a:au):aG Tryz.prog 247 [.agg (aI a)] (dB (decide (a.kind=1)&&decide (a.type=4))):=by
 refine aM (F:=Bu) Xa (by simp[Bu]) ?_;simp only[Bu]
 repeat' first|refine ae (fun _=> ?_) fun _=> ?_|refine ay ab ab ?_|exact ax ab ab|fail
 all_goals simp_all
theorem Zk(a:au)(c:aC):aG Tryz.prog 248 [.agg (aI a),.ref (aV c)] (dB (decide (a.id=c.file)||(decide (a.kind=5)&&decide (a.file=c.file)))):=by
 refine aM (F:=Bv) Xb (by simp[Bv]) ?_;simp only[Bv]
 repeat' first|refine ae (fun _=> ?_) fun _=> ?_|refine ay ab ab ?_|exact ax ab ab|fail
 all_goals simp_all
theorem N7(k:Int):aG Tryz.prog 250 [dI k] (dI (xM k)):=by
 unfold xM;obtain h|h|h|h|⟨n2,n3,n4,n6⟩:k=2∨k=3∨k=4∨k=6∨(k≠2∧k≠3∧k≠4∧k≠6):=by omega
 iterate 4
  ·subst h;refine aM (F:=sV) Mi (by simp[sV]) ?_;simp only[sV]
   repeat' first|refine ae (fun _=> ?_) fun _=> ?_|refine aL ?_|simp only[AV.key,AV.keyK,e9,bx,oC,Int.reduceBEq,Int.reduceEq,wy,qg,aH,simprocAttr,aA,aF,aE,aw]
 ·have a:(k==2)=false:=by simpa using n2
  have b:(k==3)=false:=by simpa using n3
  have c:(k==4)=false:=by simpa using n4
  have d:(k==6)=false:=by simpa using n6
  rw[if_neg n2,if_neg n3,if_neg n4,if_neg n6];refine aM (F:=sV) Mi (by simp[sV]) ?_;simp only[sV]
  repeat' first|refine ae (fun _=> ?_) fun _=> ?_|refine aL ?_|simp only[AV.key,AV.keyK,e9,bx,oC,Int.reduceBEq,Int.reduceEq,a,b,c,d,wy,qg,aH,simprocAttr,aA,aF,aE,aw]
theorem Jv(f:FuncId)(a cs:List AV): ∀ds:List D,kg (ds.map .d++[.clo f a cs])=none
 |[]=>rfl
 |d::ds=>by
  show(kg (ds.map .d++[.clo f a cs])).map (d:: ·)=none;rw[Jv f a cs ds];rfl
theorem P9(f:FuncId)(a cs:List AV): ∀ds:List D,toLs (ds.map .d++[.clo f a cs])=none
 |[]=>rfl
 |d::ds=>by
  simp only[bV,mO,toLs,P9 f a cs ds,AV.toL]
theorem nn(x:af)(f:FuncId)(a cs:List AV):kg (cy x (.clo f a cs))=none:=Jv f a cs _
theorem pG(x:af)(f:FuncId)(a cs:List AV):toLs (cy x (.clo f a cs))=none:=P9 f a cs _
theorem iq(x:af)(a:AV):b8 nD 0 34 (cy x a)=some (cy x a):=gN yK (ey x a)
theorem Hb:bw 1 48=true:=by decide
theorem a2D(x:af)(f:FuncId)(cs:List AV)(J:List aa):b7 Tryz.prog 243 [.d (.agg (aj x)),.clo f [] cs,.ptr 0 0] (.cells [.nil 34]::J) fun d a=>d= .tup []∧a= .cells [.vec (J.length+1+1) 1 34]::(J++[.vec 213 34 (cy x (.clo f [] cs)),.vec 213 34 (cy x (.clo f [] cs))]):=by
 refine b7.of (F:=sW) Mj (by simp[sW]) ?_;simp only[sW];exact bU (ga @EC (ga @E5 (ga @ey (ga @yK (ga @nn (ga @pG (ga @iq (ga @Hb @wj)))))))) ab
 all_goals first|exact⟨_,rfl,rfl⟩|exact⟨rfl,rfl⟩|rfl
theorem a2E(x:af)(f:FuncId)(cs:List AV)(J:List aa)(r n:Nat)(a:List AV)(e:J[r]?=some (.vec 213 34 a))(i:a.length=n*34)(k:n≤1000000):b7 Tryz.prog 243 [.d (.agg (aj x)),.clo f [] cs,.ptr 0 0] (.cells [.vec (r+1) n 34]::J) fun d j=>d= .tup []∧j= .cells [.vec (r+1) (n+1) 34]::(J.set r (.vec 213 34 (a++cy x (.clo f [] cs)))++[.vec 213 34 (cy x (.clo f [] cs))]):=by
 have h:bw (n+1) 48=true:=room_le a8 a8;have b:=(b9.1 e).1;have g:(J++[aa.vec 213 34 (cy x (.clo f [] cs))])[r]?=some (.vec 213 34 a):=by rw[fM b,e]
 have c: ∀X:aa,(J++[aa.vec 213 34 (cy x (.clo f [] cs))]).set r X=J.set r X++[aa.vec 213 34 (cy x (.clo f [] cs))]:=fun X=>by rw[List.set_append_left _ _ b]
 refine b7.of (F:=sW) Mj (by simp[sW]) ?_;simp only[sW];exact bU (ga @EC (ga @E5 (ga @ey (ga @yK (ga @nn (ga @pG (ga @iq (ga @e (ga @g (ga @c (ga @i (ga @h @wj)))))))))))) ab
 all_goals first|exact⟨_,rfl,rfl⟩|exact⟨rfl,rfl⟩|rfl
theorem Zl(a:au)(c:aC):aG Tryz.prog 249 [.agg (aI a),.ref (aV c)] (dB (decide (c.kind=7)||(decide (a.kind=xM c.kind)&&decide (a.file=c.file)))):=by
 refine aM (F:=Bw) Xc (by simp[Bw]) ?_;simp only[Bw]
 repeat' first|refine ae (fun _=> ?_) fun _=> ?_|refine ay ab @N7 ?_|exact ax ab @N7|fail
 all_goals simp_all
def pU(v:AV)(J:List aa)(rows:List (af×FuncId×List AV)):Prop:=(v= .nil 34∧rows=[])∨ ∃r,v= .vec (r+1) rows.length 34∧J[r]?=some (.vec 213 34 (rows.flatMap fun p=>cy p.1 (.clo p.2.1 [] p.2.2)))
theorem Ea: ∀rows:List (af×FuncId×List AV),(rows.flatMap fun p=>cy p.1 (.clo p.2.1 [] p.2.2)).length=rows.length*34
 |[]=>rfl
 |p::l=>by rw[lR,aR,ey,Ea l,aY];omega
theorem pU.more{v:AV}{J:List aa}{rows:List (af×FuncId×List AV)}(h:pU v J rows)(o:aa):pU v (J++[o]) rows:=by
 rcases h with⟨b,a⟩|⟨r,b,a⟩
 ·exact .inl ⟨b,a⟩
 ·exact .inr ⟨r,b,by rw[fM (b9.1 a).1];exact a⟩
theorem a2C{v:AV}{J:List aa}{rows:List (af×FuncId×List AV)}(h:pU v J rows)(x:af)(f:FuncId)(cs:List AV)(g:rows.length≤1000000):b7 Tryz.prog 243 [.d (.agg (aj x)),.clo f [] cs,.ptr 0 0] (.cells [v]::J) fun d b=>d= .tup []∧ ∃e c,b= .cells [e]::c∧pU e c (rows++[(x,f,cs)]):=by
 rcases h with⟨rfl,rfl⟩|⟨r,rfl,h2⟩
 ·refine(a2D x f cs J).mono ?_;rintro d b ⟨rfl,rfl⟩;refine⟨rfl,_,_,rfl,.inr ⟨J.length+1,rfl,?_⟩⟩;rw[iO a8,mR];simp
 ·refine(a2E x f cs J r rows.length _ h2 (Ea rows) g).mono ?_;rintro d b ⟨rfl,rfl⟩;have a:=(b9.1 h2).1;refine⟨rfl,_,_,rfl,.inr ⟨r,by simp,?_⟩⟩;rw[fM (by simpa using a),eP,if_pos rfl,if_pos a];simp[List.flatMap_append]
end Go.Proofs.Q
namespace Go.Proofs.Lh
open Go Go.Ab Go.Bb Go.RowKit Go.Proofs.Lg
theorem a27{w:World}{b:Nat}{p v:Value}{t:TypeId}(a:w.heap[b]?=some (.cells #[p,v] t (0,0))):w.setCell ⟨b,0,none⟩ p=w:=by
 rw[setCell_eq_setRow w b 0 _ t (0,0) p a];exact setRow_self w b _ t (0,0) a
theorem Jr{b:Nat}{w:World}{p v:Value}(a:w.heap[b]?=some (.cells #[p,v] 270 (0,0)))(hp:p= .pointer none∨p=self b):
  Calls Tryz.prog 304 #[.pointer (some ⟨b,0,none⟩)] w fun e w'=>e= .returned (.tuple #[])∧w'=w.setCell ⟨b,0,none⟩ (self b):=by
 have c:w.cell? ⟨b,0,none⟩=some p:=by rw[Go.Lib.cell_of_heap a];rfl
 rcases hp with rfl|rfl
 ·exact S6 b w c (by simp[World.shape?,a]) (by simp[World.frozen?,a])
 ·rw[a27 a];exact S7 b w c
theorem Hp{w:World}{b:Nat}{p v:Value}{t:TypeId}(a:w.heap[b]?=some (.cells #[p,v] t (0,0)))(u:Value):(w.setCell ⟨b,0,none⟩ u).heap[b]?=some (.cells #[u,v] t (0,0)):=by
 rw[setCell_eq_setRow w b 0 _ t (0,0) u a];exact setRow_heap w b _ _ t (0,0) a
theorem Hq{w:World}{b i j:Nat}{u:Value}(h:j≠b):(w.setCell ⟨b,i,none⟩ u).heap[j]?=w.heap[j]? :=Below.heap_setCell _ _ _ _ h
def qy(b c:World)(B n m:Nat)(v a:Value)(xs:List Value):Prop:=(m=0∧a=v∧c=b)∨(0<m∧EF b c B 5 1 n m v a xs)
theorem qy.kept{a c:World}{B n m b:Nat}{v d:Value}{xs:List Value}(h:qy a c B n m v d xs)(hne:v.ownBlock≠some b)(hb:b<a.heap.size):c.heap[b]?=a.heap[b]? :=by
 rcases h with⟨_,_,rfl⟩|⟨_,_,_,⟨g,h1,h2,h3⟩|⟨h1,h2,h3⟩⟩
 ·rfl
 ·exact h3.block b hb (fun e=>hne (by rw[h2];exact e.symm))
 ·exact h3.block b hb (by simp)
theorem qy.form{e f:World}{B n m:Nat}{v b:Value}{xs:List Value}(h:qy e f B n m v b xs)(d: ∃a n c,v= .slice a n c): ∃a n c,b= .slice a n c:=by
 rcases h with⟨_,rfl,_⟩|⟨_,h1,_⟩
 ·exact d
 ·obtain⟨a,c,h⟩:=vt h1;exact⟨a,_,c,h⟩
theorem Ti: ∃i,Tryz.prog.info? 5=some i∧i.zero=some (.int .u8 0)∧i.size=1∧i.bytes=1:=by
 obtain⟨i,hi,h⟩:=dt.1 (show(Tryz.prog.info? 5).map (fun i=>(i.zero,i.size,i.bytes))=some (some (.int .u8 0),1,1) by kernel_rfl);simp only[Prod.mk.injEq]at h;exact⟨i,hi,h⟩
theorem IG(a:World)(B:Nat)(c:TypeId){n m:Nat}{v x:Value}{xs news:List Value}(d:dO a B 5 1 v n xs)(q:Src Tryz.prog 1 c x m news a)(k:n+m≤140737488355328)(o:B≤a.heap.size):
  ∃g h,(∀e,(Builtin.append_ #[126,c] e #[v,x]).run Tryz.prog a= .ok g h)∧qy a h B n m v g (xs++news):=by
 obtain⟨i,hi,r,f,l⟩:=Ti;have b:dO a B 5 i.size v n xs:=by rw[f];exact d
 have j:Src Tryz.prog i.size c x m news a:=by rw[f];exact q
 obtain⟨g,h,p,hc,_⟩:=Oj (P:=Tryz.prog) a B 126 c 126 5 i (.int .u8 0) Tryz.underlying126 hi r (by rw[f];rfl) v n xs b x m news j a8 (by rw[l];omega) o;rw[f]at hc;refine⟨g,h,fun e=> ?_,hc⟩;have: ∀e,Builtin.append_ #[126,c] e #[v,x]=Builtin.append_ #[126,c] 126 #[v,x]:=fun e=>rfl;rw[this];exact p
def Written(w w':World)(B b n m:Nat)(v:Value)(xs:List Value):Prop:=
 ∃a c,qy (w.setCell ⟨b,0,none⟩ (self b)) c B n m v a xs∧w'=c.setCell ⟨b,1,none⟩ a
set_option maxHeartbeats 1000000 in
set_option maxRecDepth 100000 in
theorem QH{B b n:Nat}{w:World}{p v:Value}{xs:List Value}(s:ByteArray)(d:w.heap[b]?=some (.cells #[p,v] 270 (0,0)))(hp:p= .pointer none∨p=self b)(f:dO w B 5 1 v n xs)(hne:v.ownBlock≠some b)
  (o:n+s.size≤140737488355328) (D:B≤w.heap.size):
  Calls Tryz.prog 287 #[.pointer (some ⟨b,0,none⟩),.string s] w fun e w'=>e= .returned (.tuple #[.int .i64 s.size,.nilIface])∧Written w w' B b n s.size v (xs++byteCells s):=by
 have l:=Jr d hp;have j:=Hp d (self b);have u:b<w.heap.size:=(fB.1 d).1;have x:(w.setCell ⟨b,0,none⟩ (self b)).heap.size=w.heap.size:=by rw[setCell_eq_setRow w b 0 _ _ (0,0) _ d,setRow_size]
 have i:dO (w.setCell ⟨b,0,none⟩ (self b)) B 5 1 v n xs:=xO f fun g hg=>Hq (fun e=>hne (by rw[hg,e]));obtain⟨t,q,r,hc⟩:=IG (w.setCell ⟨b,0,none⟩ (self b)) B 9 i (Src.ofString (P:=Tryz.prog) _ Tryz.underlying9 s) o a8;have k:=(hc.kept hne a8).trans j;have m:=hc.form (by obtain⟨a,c,h⟩:=vt f;exact⟨a,_,c,h⟩)
 have W:Hid (Written w (q.setCell ⟨b,1,none⟩ t) B b n s.size v (xs++byteCells s)):=Go.Lib.hid ⟨t,q,hc,rfl⟩;generalize w.setCell ⟨b,0,none⟩ (self b)=w1 at l j r;have z:w1.cell? ⟨b,1,none⟩=some v:=by rw[Go.Lib.cell_of_heap j];rfl
 have A:q.cell? ⟨b,1,none⟩=some v:=by rw[Go.Lib.cell_of_heap k];rfl
 have C:q.frozen? ⟨b,1,none⟩=false:=Go.Lib.frozen_of_heap k 1;obtain⟨y,E,cap,rfl⟩:=m;have HCC:=Go.Lib.hid l;clear l hc i f hp d j k
 go_enter Tryz.func287,Tryz.ntmps287
 go_wp2_with (go_at_call 304;refine HCC.out.mono ?_)
 rintro e w' ⟨rfl,rfl⟩
 go_wp2_with (at_builtin;refine Go.Lib.wpList_append_run _ rfl _ _ _ _ rfl _ _ rfl rfl _ _ (r _) ?_)
 go_wp2
 go_ret2
 exact⟨rfl,W.out⟩
def Ie(w w':World)(B b n:Nat)(c:Int)(v:Value)(xs:List Value):Prop:=
 ∃a d,qy ((w.setCell ⟨b,0,none⟩ (self b)).alloc (.cells #[.int .u8 c] 5)) d B n 1 v a xs∧w'=d.setCell ⟨b,1,none⟩ a
set_option maxHeartbeats 1000000 in
set_option maxRecDepth 100000 in
theorem QG{B b n:Nat}{w:World}{p v:Value}{xs:List Value}(c:Int)(f:w.heap[b]?=some (.cells #[p,v] 270 (0,0)))(hp:p= .pointer none∨p=self b)(i:dO w B 5 1 v n xs)(hne:v.ownBlock≠some b)(z: ∀g,v.ownBlock=some g→g<w.heap.size)
  (t:n+1≤140737488355328) (K:B≤w.heap.size):
  Calls Tryz.prog 288 #[.pointer (some ⟨b,0,none⟩),.int .u8 c] w fun e w'=>e= .returned .nilIface∧Ie w w' B b n c v (xs++[.int .u8 c]):=by
 have q:=Jr f hp;have k:=Hp f (self b);have F:b<w.heap.size:=(fB.1 f).1;have s:(w.setCell ⟨b,0,none⟩ (self b)).heap.size=w.heap.size:=by rw[setCell_eq_setRow w b 0 _ _ (0,0) _ f,setRow_size]
 have d:dO (w.setCell ⟨b,0,none⟩ (self b)) B 5 1 v n xs:=xO i fun g hg=>Hq (fun e=>hne (by rw[hg,e]));have d:dO ((w.setCell ⟨b,0,none⟩ (self b)).alloc (.cells #[.int .u8 c] 5)) B 5 1 v n xs:=xO d fun g hg=>Go.Lib.alloc_old _ _ g (by rw[s];exact z g hg)
 have m:((w.setCell ⟨b,0,none⟩ (self b)).alloc (.cells #[.int .u8 c] 5)).heap[w.heap.size]?=some (.cells #[.int .u8 c] 5 (0,0)):=by
  have:=heap_alloc_new (w.setCell ⟨b,0,none⟩ (self b)) (.cells #[.int .u8 c] 5);rw[s]at this;exact this
 obtain⟨D,y,A,hc⟩:=IG ((w.setCell ⟨b,0,none⟩ (self b)).alloc (.cells #[.int .u8 c] 5)) B 126 d (Src.ofSlice (P:=Tryz.prog) _ Tryz.underlying126 ⟨w.heap.size,0,none⟩ 1 1 [.int .u8 c] rfl (fun j u x=>by
  match j,x with
  |0,x=>
   simp at x;subst x;have E:(⟨w.heap.size,0,none⟩:Addr).add 0=⟨w.heap.size,0,none⟩:=by simp[Addr.add]
   rw[E,cell_of_row _ w.heap.size 0 _ _ _ m];rfl) (fun u C=>by simp at C;subst C;rfl)) t (by simp;omega)
 have l:((w.setCell ⟨b,0,none⟩ (self b)).alloc (.cells #[.int .u8 c] 5)).heap[b]?=some (.cells #[self b,v] 270 (0,0)):=(Go.Lib.alloc_old _ _ b a8).trans k;have o:=(hc.kept hne (by simp;omega)).trans l;have r:=hc.form (by obtain⟨a,c,h⟩:=vt i;exact⟨a,_,c,h⟩);have W:Hid (Ie w (y.setCell ⟨b,1,none⟩ D) B b n c v (xs++[.int .u8 c])):=Go.Lib.hid ⟨D,y,hc,rfl⟩
 rw[←s]at A;generalize w.setCell ⟨b,0,none⟩ (self b)=w1 at q k A;have H:w1.cell? ⟨b,1,none⟩=some v:=by rw[Go.Lib.cell_of_heap k];rfl
 have I:y.cell? ⟨b,1,none⟩=some v:=by rw[Go.Lib.cell_of_heap o];rfl
 have J:y.frozen? ⟨b,1,none⟩=false:=Go.Lib.frozen_of_heap o 1;obtain⟨G,L,cap,rfl⟩:=r;have HCC:=Go.Lib.hid q;clear q hc d i hp f k o l m
 go_enter Tryz.func288,Tryz.ntmps288
 go_wp2_with (go_at_call 304;refine HCC.out.mono ?_)
 rintro e w' ⟨rfl,rfl⟩
 go_wp2_with (at_builtin;refine Go.Lib.wpList_append_run _ rfl _ _ _ _ rfl _ _ rfl rfl _ _ (A _) ?_)
 go_wp2
 go_ret
 exact⟨rfl,W.out⟩
set_option maxHeartbeats 1000000 in
set_option maxRecDepth 100000 in
theorem QF{b g cap:Nat}{w:World}{p:Value}{cur:Array Value}{fz:Nat×Nat}(l:List UInt8)(i:l≠[])(c:w.heap[b]?=some (.cells #[p,.slice (some ⟨g,0,none⟩) l.length cap] 270 (0,0)))(hg:w.heap[g]?=some (.cells cur 5 fz))(o:l.length≤cap)(d:cap≤maxLen)(f:cur.size=cap*1)
  (hc: ∀j x,l[j]?=some x→w.cell? ⟨g,j,none⟩=some (.int .u8 x.toNat)):
  Calls Tryz.prog 264 #[.pointer (some ⟨b,0,none⟩)] w fun e w'=>e= .returned (.string ⟨l.toArray⟩)∧w'=w.drew.freeze ⟨g,0,none⟩ l.length:=by
 have n:l.length≠0:=by simpa using i
 have r:w.drew.cell? ⟨b,1,none⟩=some (.slice (some ⟨g,0,none⟩) l.length cap):=by
  have:w.drew.heap[b]?=some (.cells #[p,.slice (some ⟨g,0,none⟩) l.length cap] 270 (0,0)):=c;rw[Go.Lib.cell_of_heap this];rfl
 have k:(Builtin.unsafeSliceData_ #[126] 293 #[.slice (some ⟨g,0,none⟩) l.length cap]).run Tryz.prog w.drew= .ok (.pointer (some ⟨g,0,none⟩)) w.drew:=
  Go.Lib.run_unsafeSliceData_row _ _ _ _ _ _ a8
 have m:(Builtin.unsafeString_ #[293,3] 9 #[.pointer (some ⟨g,0,none⟩),.int .i64 l.length]).run Tryz.prog w.drew= .ok (.string ⟨l.toArray⟩) (w.drew.freeze ⟨g,0,none⟩ l.length):=by
  refine Go.Lib.run_unsafeString_row w.drew 293 3 9 5 Tryz.underlying293 (by kernel_rfl) g cur.size (by have h:w.drew.heap[g]?=some (.cells cur 5 fz):=hg;simp[World.shape?,h]) l i a8 (by unfold maxLen at d;omega) ?_;intro j x q;have a:(⟨g,0,none⟩:Addr).add j=⟨g,j,none⟩:=by unfold Addr.add;split<;>simp_all
  rw[a,World.cell?_drew];exact hc j x q
 clear hc f hg c;have mixed:Tryz.prog.follows Departure.mixedOrders=true:=by kernel_rfl
 go_enter Tryz.func264,Tryz.ntmps264
 go_wp2
 go_region_o
 all_goals(go_wp2;go_ret;exact⟨rfl,rfl⟩)
end Go.Proofs.Lh
namespace Go.Proofs.Q
open Go Go.Bb Go.RowKit Go.Proofs.Lg
open Go.Ab (D RD)
def qc(v:Int):List Int→Nat→Int
 |[],_=> -1
 |y::l,k=>if v=y then(k:Int)else qc v l (k+1)
def tL(l:List Int):D:= .sl 1 (l.map fun n=>[dI n])
theorem JZ(v:Int): ∀(l:List Int) (k:Nat),decide (qc v l k≥0)=decide (v∈l)
 |[],k=>by simp[qc]
 |y::l,k=>by
  rw[qc];by_cases h:v=y
  ·rw[if_pos h];simp[h]
  ·rw[if_neg h,JZ v l (k+1)];simp[h]
theorem Th(l:List Int)(v:Int):aG Tryz.prog 282 [tL l,dI v] (dI (qc v l 0)):=by
 unfold tL;refine aG.big (enters_of M6) 0 rfl fun c=> ?_;rw[aQ]at c;refine aM (F:=Au) M6 (by simp[Au]) ?_;simp only[Au];refine aO ab ab ?_
 refine aZ.over l (fun k (_:Unit)=>[(8,iN k)]) (fun _ _=>[]) (fun r _=>qc v r (l.length-r.length)) (qc v l 0) () c aB aB rfl (by rw[jl]) (fun k _ x hg hk b d a=> ?_) (fun _ b a=> ?_)
 ·have e:l.length-(x::l.drop (k+1)).length=k:=by rw[aY,aA];omega
  have f:l.length-(l.length-(k+1))=k+1:=by omega
  rw[e,qc]at a
  repeat' first|refine ae (fun _=> ?_) fun _=> ?_|refine ay (ga @b (ga @d @hg)) ab ?_|exact ax (ga @b (ga @d @hg)) ab|fail
  ·rename_i h;rw[if_pos (by simpa using h)]at a;exact a.symm
  ·rename_i h;rw[if_neg (by simpa using h)]at a;exact⟨(),by rw[f];exact a⟩
 ·rw[qc]at a;refine aO @b ab ?_;exact a.symm
theorem S5(l:List Int)(v:Int):aG Tryz.prog 241 [tL l,dI v] (dB (decide (v∈l))):=by
 have c:=Th l v;have e:=JZ v l 0;unfold tL at c⊢;refine aM (F:=Ap) Wa (by simp[Ap]) ?_;simp only[Ap]
 repeat' first|refine ae (fun _=> ?_) fun _=> ?_|refine ay @e @c ?_|exact ax @e @c|fail
 all_goals simp_all
theorem rz(l:List Int)(k:Int)(i:Nat)(s:List aa)(a:s[i]?=some (.cells [.d (dI k)])):b7 Tryz.prog 240 [.d (tL l),.ptr i 0] s fun d b=>d= .d (dB (decide (k∈l)))∧b=s:=by
 have c:=S5 l k;unfold tL at c⊢;refine b7.of (F:=By) Xe (by simp[By]) ?_;simp only[By]
 repeat' first|refine ae (fun _=> ?_) fun _=> ?_|refine ay (ga @a @wj) @c ?_|exact ax (ga @a @wj) @c|fail
 all_goals simp_all
theorem Tp(n:Int):aG Tryz.prog 148 [dI n] (dB false):=by
 refine aM (F:=AI) Wq (by simp[AI]) ?_;simp only[AI];exact bU ab ab
theorem RT(a b:Int):aG Tryz.prog 93 [dI a,dI b] (dI (if a<b then-1 else if b<a then 1 else 0)):=by
 refine aM (F:=AA) Wj (by simp[AA]) ?_;simp only[AA]
 repeat' first|refine ae (fun _=> ?_) fun _=> ?_|refine aL ?_|refine aq.data (Tp _) rfl ?_|simp only[gt_iff_lt,wy,qg,aH,reduceCtorEq,reduceIte,Nat.reduceAdd,Nat.reduceMul,Nat.reduceEqDiff,Nat.reduceLT,Nat.reduceLeDiff,Nat.reduceSub,aA,aF,aE,aw]
 all_goals first|(simp_all;done)|(rw[if_neg a8,if_neg a8])
theorem JH(x:af):List.drop 0 (aj x)=aj x:=rfl
theorem OJ(x:af):chunk 1 (Int.toNat 32-Int.toNat 0) (List.take (Int.toNat 32-Int.toNat 0) (List.drop (Int.toNat 0) (aj x)))=(aP x.p).map fun y=>[y]:=by
 have h:List.take (Int.toNat 32-Int.toNat 0) (List.drop (Int.toNat 0) (aj x))=(aP x.p).take 32:=by
  show(aj x).take 32=_;unfold aj;rw[rF]
  first|exact NS _ _|(rw[gj (by rw[ba];exact bk _)];exact rF _)
 rw[h,rF];show chunk 1 32 _=_;rw[F9 32 _ (ba _)]
theorem Gm(a b:af):aG Tryz.prog 52 [.agg (aj a),.agg (aj b)] (dI (cY a b)):=by
 refine aM (F:=B0) WH (by simp[B0]) ?_;simp only[B0]
 repeat' first|refine ae (fun _=> ?_) fun _=> ?_|refine aL ?_|refine aq.data (IN _ _) rfl ?_|refine aq.data (RT _ _) rfl ?_|simp only[Eg,OJ,JH,az,bne_iff_ne,wy,qg,aH,reduceCtorEq,reduceIte,Nat.reduceAdd,Nat.reduceMul,Nat.reduceEqDiff,Nat.reduceLT,Nat.reduceLeDiff,Nat.reduceSub,aA,aF,aE,aw]
 all_goals simp_all[cY]
end Go.Proofs.Q
namespace Go.Proofs.Q
open Go Go.Ab Go.Bb
def B7:CF:=⟨77, (kq [ox 1 0,kM 2 (.c (.d (.sc (.string ⟨#[]⟩)))),o7 3 0] (kq [o6 12 190 [(.c (.nil 3))],o6 13 190 [(.c (.nil 3))],kB 4 ep,kB 5 ep,o8 3 4 12,o8 3 5 13] (.seq (kq [o1 14 3 1,o3 15 14,o9 16 0 15,o7 17 0] (.block 0 (.loop (.trim [17,4,15,5,1,16] (kq [o4 18 .lss 17 16] (.seq (kd 18 .skip (.exit 0)) (.seq (.block 1 (kq [oi 19 32 15 17,o2 20 32 19,kB 7 ej,o8 32 7 20] (.ops true [0,1,0,4,12,28,63,127,255] [o1 21 2 4,o3 22 21,o0 23 (.sla 32 1 (.t 7) none none),o0 24 (.b2s (.t 23)),o6 25 191 [.t 24],o0 26 (.bsf 3 1 fR [(0,3,(.t 25))]),o0 27 (.app false 217 3 48 (.t 22) (.t 26)),o1 28 2 4,o8 1 28 27]))) (fo [o5 29 .add 17 1,om 17 29])))))))) (kq [o6 30 192 [],om 8 30] (.seq (kq [o1 31 4 1,o3 32 31,o9 33 0 32,o7 34 0] (.block 2 (.loop (.trim [34,5,8,32,1,4,33] (kq [o4 35 .lss 34 33] (.seq (kd 35 .skip (.exit 2))
 (.seq (.block 3 (kq [oi 36 139 32 34,o2 37 139 36,kB 10 oH,o8 139 10 37] (kq [o1 38 0 10,o3 39 38,o6 40 193 [.t 39],o0 41 (.bsl false 217 3 1 ep [(0,3,(.t 40))]),o6 42 190 [.t 41],kB 11 ep,o8 3 11 42] (.seq (.ops true [0,1,0,0,8,28,0,124,255,511,1023] [o1 43 2 11,o3 44 43,om 45 8,o1 46 0 10,o3 47 46,o0 48 (.lkp false [.i] (.d (.sc .nilFunc)) false (.t 45) (.t 47)),o2 49 139 10,o0 50 (.call (.val (.t 48)) [.t 49]),o0 51 (.app false 217 3 48 (.t 44) (.t 50)),o1 52 2 11,o8 1 52 51]) (fo [o1 53 2 5,o3 54 53,o2 55 3 11,o0 56 (.bsf 3 1 fR [(0,3,(.t 55))]),o0 57 (.app false 217 3 48 (.t 54) (.t 56)),o1 58 2 5,o8 1 58 57]))))) (fo [o5 59 .add 34 1,om 34 59])))))))) (.seq (.ops true [0,0,2,7,0,16,63,0,128,511,0,0,4095,8191,16383,32767,32767,131071,262143] [o0 60 (.call (.fn 191) [(.c (.d (.sc (.string ⟨#[113,117,105,108,116,49]⟩))))]),o1 61 0 1,o3 62 61,o6 63 191 [.t 62],o1 64 1 1,o3 65 64,o6 66 191 [.t 65],o1 67 2 1,o3 68 67,o6 69 193 [.t 68],o2 70 3 4,o2 71 3 5,o0 72 (.bsf 3 6 HS [(0,3,(.t 60)),(3,3,(.t 63)),(6,3,(.t 66)),(9,3,(.t 69)),(12,3,(.t 70)),(15,3,(.t 71))]),o6 73 190 [.t 72],o6 74 194 [.t 73],oe 75 74 0,oe 76 74 1,om 2 75,om 3 76]) .ret)))))),[.tmp 2,.tmp 3]⟩
theorem WN:aN Tryz.prog [100001,100026,100056,100072] 130=some B7.erase:=by kernel_rfl
def Bc:CF:=⟨3, (kq [kM 0 (.c (.d (.sc (.map none))))] (kq [o0 1 (.mkm false),oN (.mup false [.i] (.t 1) (xi 1) (.c (.clo 251 [] []))),oN (.mup false [.i] (.t 1) (xi 2) (.c (.clo 252 [] []))),oN (.mup false [.i] (.t 1) (xi 3) (.c (.clo 255 [] []))),oN (.mup false [.i] (.t 1) (xi 4) (.c (.clo 256 [] []))),oN (.mup false [.i] (.t 1) (xi 5) (.c (.clo 257 [] []))),oN (.mup false [.i] (.t 1) (xi 6) (.c (.clo 259 [] []))),oN (.mup false [.i] (.t 1) (xi 7) (.c (.clo 260 [] []))),om 2 1,om 0 2] .ret)),[.tmp 0]⟩
theorem WS:aN Tryz.prog [] 192=some Bc.erase:=by kernel_rfl
def Bd:CF:=⟨7, (kq [ox 1 0,kM 2 (.c (.nil 3))] (kq [o1 3 34 1,o3 4 3,o6 5 193 [.t 4],o0 6 (.bsf 3 1 fR [(0,3,(.t 5))]),om 2 6] .ret)),[.tmp 2]⟩
theorem WT:aN Tryz.prog [100001,100006] 251=some Bd.erase:=by kernel_rfl
def Be:CF:=⟨16, (kq [ox 1 0,kM 2 (.c (.nil 3))] (.seq (.ops true [0,1,3,0,8,31,0,64,255,0,512,2047,4095,8191] [o1 3 1 1,o2 4 33 3,o6 5 253 [.t 4],o1 6 35 1,o2 7 33 6,o6 8 253 [.t 7],o1 9 68 1,o3 10 9,o6 11 191 [.t 10],o1 12 138 1,o3 13 12,o6 14 254 [.t 13],o0 15 (.bsf 3 4 ED [(0,3,(.t 5)),(3,3,(.t 8)),(6,3,(.t 11)),(9,3,(.t 14))]),om 2 15]) .ret)),[.tmp 2]⟩
theorem WU:aN Tryz.prog [100001,100015] 252=some Be.erase:=by kernel_rfl
def Bf:CF:=⟨13, (kq [ox 1 0,kM 2 (.c (.nil 3))] (.seq (.ops true [0,1,3,0,8,31,0,64,255,511,1023] [o1 3 1 1,o2 4 33 3,o6 5 253 [.t 4],o1 6 69 1,o3 7 6,o6 8 193 [.t 7],o1 9 138 1,o3 10 9,o6 11 254 [.t 10],o0 12 (.bsf 3 3 HR [(0,3,(.t 5)),(3,3,(.t 8)),(6,3,(.t 11))]),om 2 12]) .ret)),[.tmp 2]⟩
theorem WV:aN Tryz.prog [100001,100012] 255=some Bf.erase:=by kernel_rfl
def Bg:CF:=⟨13, (kq [ox 1 0,kM 2 (.c (.nil 3))] (.seq (.ops true [0,1,3,0,8,31,0,64,255,511,1023] [o1 3 1 1,o2 4 33 3,o6 5 253 [.t 4],o1 6 70 1,o3 7 6,o6 8 191 [.t 7],o1 9 138 1,o3 10 9,o6 11 254 [.t 10],o0 12 (.bsf 3 3 HR [(0,3,(.t 5)),(3,3,(.t 8)),(6,3,(.t 11))]),om 2 12]) .ret)),[.tmp 2]⟩
theorem WW:aN Tryz.prog [100001,100012] 256=some Bg.erase:=by kernel_rfl
def Bh:CF:=⟨16, (kq [ox 1 0,kM 2 (.c (.nil 3))] (.seq (.ops true [0,1,3,0,8,31,0,64,255,0,512,2047,4095,8191] [o1 3 1 1,o2 4 33 3,o6 5 253 [.t 4],o1 6 71 1,o2 7 33 6,o6 8 253 [.t 7],o1 9 104 1,o2 10 33 9,o6 11 253 [.t 10],o1 12 137 1,o3 13 12,o6 14 258 [.t 13],o0 15 (.bsf 3 4 ED [(0,3,(.t 5)),(3,3,(.t 8)),(6,3,(.t 11)),(9,3,(.t 14))]),om 2 15]) .ret)),[.tmp 2]⟩
theorem WX:aN Tryz.prog [100001,100015] 257=some Bh.erase:=by kernel_rfl
def Bi:CF:=⟨16, (kq [ox 1 0,kM 2 (.c (.nil 3))] (.seq (.ops true [0,1,3,0,8,31,0,64,255,0,512,2047,4095,8191] [o1 3 1 1,o2 4 33 3,o6 5 253 [.t 4],o1 6 71 1,o2 7 33 6,o6 8 253 [.t 7],o1 9 104 1,o2 10 33 9,o6 11 253 [.t 10],o1 12 138 1,o3 13 12,o6 14 254 [.t 13],o0 15 (.bsf 3 4 ED [(0,3,(.t 5)),(3,3,(.t 8)),(6,3,(.t 11)),(9,3,(.t 14))]),om 2 15]) .ret)),[.tmp 2]⟩
theorem WY:aN Tryz.prog [100001,100015] 259=some Bi.erase:=by kernel_rfl
def Bj:CF:=⟨7, (kq [ox 1 0,kM 2 (.c (.nil 3))] (kq [o1 3 138 1,o3 4 3,o6 5 254 [.t 4],o0 6 (.bsf 3 1 fR [(0,3,(.t 5))]),om 2 6] .ret)),[.tmp 2]⟩
theorem WZ:aN Tryz.prog [100001,100006] 260=some Bj.erase:=by kernel_rfl
def Bl:CF:=⟨6, (kq [ox 2 0,ox 3 1,kM 4 (.c (.d (.sc .nilFunc)))] (kq [o0 5 (.mkf 188 [] [.t 3,.t 2]),om 4 5] .ret)),[.tmp 4]⟩
theorem X1:aN Tryz.prog [100002,100003] 129=some Bl.erase:=by kernel_rfl
def sU:CF:=⟨144, (kq [o0 11 (.mkf 189 [] [.t 1]),om 4 11] (kq [o1 12 0 2,o3 13 12] (.block 0 (kq [o5 15 .eql 13 1,om 14 15] (kd 14 (.ops true [0,0,2,0,14,0,32,126,255] [om 16 0,om 17 4,o0 18 (.call (.val (.t 17)) [(xi 0)]),om 19 4,o0 20 (.call (.val (.t 19)) [(xi 0)]),o1 21 34 2,o3 22 21,o0 23 (.bld ee [(0,33,(.t 18)),(33,1,(xi 1)),(34,33,(.t 20)),(67,1,(.t 22))]),o0 24 (.call (.val (.t 16)) [.t 23])]) (kq [o5 26 .eql 13 2,om 25 26] (kd 25 (.ops true [0,0,2,0,8,0,32,0,128,0,512,2046,4095] [om 27 0,om 28 4,o0 29 (.call (.val (.t 28)) [(xi 0)]),o1 30 1 2,o2 31 33 30,o1 32 35 2,o2 33 33 32,o1 34 68 2,o3 35 34,o1 36 138 2,o3 37 36,o0 38 (.bld ee [(0,33,(.t 29)),(33,1,(xi 2)),(34,33,(.t 31)),(68,33,(.t 33)),(101,1,(.t 35)),(171,1,(.t 37))]),o0 39 (.call (.val (.t 27)) [.t 38])]) (kq [o5 41 .eql 13 3,om 40 41] (kd 40 (.ops true [0,0,2,0,8,0,32,0,128,510,1023] [om 42 0,om 43 4,o0 44 (.call (.val (.t 43)) [(xi 0)]),o1 45 1 2,o2 46 33 45,o1 47 69 2,o3 48 47,o1 49 138 2,o3 50 49,o0 51 (.bld ee [(0,33,(.t 44)),(33,1,(xi 3)),(34,33,(.t 46)),(102,1,(.t 48)),(171,1,(.t 50))]),o0 52 (.call (.val (.t 42)) [.t 51])]) (kq [o5 54 .eql 13 4,om 53 54] (kd 53 (.ops true [0,0,2,0,8,0,32,0,128,510,1023] [om 55 0,om 56 4,o0 57 (.call (.val (.t 56)) [(xi 0)]),o1 58 1 2,o2 59 33 58,o1 60 70 2,o3 61 60,o1 62 138 2,o3 63 62,o0 64 (.bld ee [(0,33,(.t 57)),(33,1,(xi 4)),(34,33,(.t 59)),(103,1,(.t 61)),(171,1,(.t 63))]),o0 65 (.call (.val (.t 55)) [.t 64])])
 (kq [o5 67 .eql 13 6,om 66 67] (kd 66 (.ops true [0,0,2,0,8,0,32,0,128,0,512,2046,4095] [om 68 0,om 69 4,o0 70 (.call (.val (.t 69)) [(xi 0)]),o1 71 1 2,o2 72 33 71,o1 73 71 2,o2 74 33 73,o1 75 104 2,o2 76 33 75,o1 77 138 2,o3 78 77,o0 79 (.bld ee [(0,33,(.t 70)),(33,1,(xi 6)),(34,33,(.t 72)),(105,33,(.t 74)),(138,33,(.t 76)),(171,1,(.t 78))]),o0 80 (.call (.val (.t 68)) [.t 79])]) (kq [o5 82 .eql 13 7,om 81 82] (kd 81 (.ops true [0,0,2,0,8,30,63] [om 83 0,om 84 4,o0 85 (.call (.val (.t 84)) [(xi 0)]),o1 86 138 2,o3 87 86,o0 88 (.bld ee [(0,33,(.t 85)),(33,1,(xi 7)),(171,1,(.t 87))]),o0 89 (.call (.val (.t 83)) [.t 88])]) (kq [o5 91 .eql 13 5,om 90 91] (kd 90 (.seq (kq [o1 92 137 2,o3 93 92,o9 94 0 93,o7 95 0] (.block 1 (.loop (.trim [95,2,4,0,93,94] (kq [o4 96 .lss 95 94] (.seq (kd 96 .skip (.exit 1)) (.seq (.block 2 (kq [om 97 95,oi 98 1 93 95,o3 99 98,om 5 97,om 6 99] (.seq (.ops true [0,0,0,6,0,16,0,126,255,511] [om 100 0,om 101 4,om 102 5,o0 103 (.call (.val (.t 101)) [.t 102]),o1 104 1 2,o2 105 33 104,om 106 6,o0 107 (.bld ee [(0,33,(.t 103)),(33,1,(xi 5)),(34,33,(.t 105)),(104,1,(.t 106))]),o0 108 (.call (.val (.t 100)) [.t 107]),o0 109 (.not (.t 108))]) (kd 109 .ret .skip)))) (fo [o5 110 .add 95 1,om 95 110])))))))) (kq [o1 111 137 2,o3 112 111,o9 113 0 112,om 7 113] (kq [o1 114 71 2,o2 115 33 114,kB 8 cQ,o8 33 8 115] (kq [om 116 7,o5 117 .add 116 1,o7 118 0] (.block 3 (.loop (.trim [8,118,2,7,4,0,117] (kq [o4 119 .lss 118 117] (.seq (kd 119 .skip (.exit 3))
 (.seq (.block 4 (kq [om 120 118,om 9 120] (kq [o1 121 104 2,o2 122 33 121,kB 10 cQ,o8 33 10 122] (.seq (kq [om 123 9,om 124 7,o4 125 .lss 123 124] (kd 125 (fo [om 126 4,om 127 9,o0 128 (.call (.val (.t 126)) [.t 127]),o8 33 10 128]) .skip)) (.seq (.seq (.ops true [0,0,0,0,12,30,0,64,0,0,1022,2047,4095] [om 129 0,om 130 4,om 131 7,om 132 9,o4 133 .add 131 132,o0 134 (.call (.val (.t 130)) [.t 133]),o1 135 1 2,o2 136 33 135,o2 137 33 8,o2 138 33 10,o0 139 (.bld ee [(0,33,(.t 134)),(33,1,(xi 6)),(34,33,(.t 136)),(105,33,(.t 137)),(138,33,(.t 138))]),o0 140 (.call (.val (.t 129)) [.t 139]),o0 141 (.not (.t 140))]) (kd 141 .ret .skip)) (fo [o2 142 33 10,o8 33 8 142])))))) (fo [o5 143 .add 118 1,om 118 143]))))))))))) .skip))))))))))))))))),[]⟩
theorem Mh:aN Tryz.prog [300023,300038,300051,300064,300079,300088,300107,300139] 188=some sU.erase:=by kernel_rfl
def Bm:CF:=⟨8, (kq [kB 3 cQ] (kq [o3 4 1,om 5 0,o4 6 .add 4 5,o0 7 (.bld cQ [(32,1,(.t 6))]),o8 33 3 7] .ret)),[.cell 3 (some 33)]⟩
theorem X2:aN Tryz.prog [300007] 189=some Bm.erase:=by kernel_rfl
def AZ:CF:=⟨13, (kq [ox 1 0,o7 2 0] (kq [o2 7 5 1,o6 8 82 [.t 7],om 6 8,oe 9 6 0,oe 10 6 1,oe 11 6 2,om 3 9,om 4 10,om 5 11] (kq [om 12 5,om 2 12] .ret))),[.tmp 2]⟩
theorem WG:aN Tryz.prog [100001] 61=some AZ.erase:=by kernel_rfl
def B3:CF:=⟨15, (kq [ox 1 0,kM 2 (.c (.d (.sc (.string ⟨#[]⟩)))),o7 3 0] (kq [o2 8 5 1,o6 9 82 [.t 8],om 7 9,oe 10 7 0,oe 11 7 1,oe 12 7 2,om 4 10,om 5 11,om 6 12] (kq [om 13 5,om 14 6,om 2 13,om 3 14] .ret))),[.tmp 2,.tmp 3]⟩
theorem WJ:aN Tryz.prog [100001] 159=some B3.erase:=by kernel_rfl
def sR:CF:=⟨17, (kq [ox 1 0,kB 2 ej,o7 3 0] (kq [o2 7 5 1,o6 8 159 [.t 7],om 6 8,oe 9 6 0,oe 10 6 1,om 4 9,om 5 10] (.seq (kq [om 11 5,o5 12 .neq 11 0] (kd 12 (kq [o0 13 (.bld ej []),om 14 5,o8 32 2 13,om 3 14] .ret) .skip)) (kq [om 15 4,o6 16 160 [.t 15],o8 32 2 16,o7 3 0] .ret)))),[.cell 2 (some 32),.tmp 3]⟩
theorem Mf:aN Tryz.prog [100001,300013] 105=some sR.erase:=by kernel_rfl
def B1:CF:=⟨14, (kq [ox 1 0,o7 2 0] (kq [o2 7 5 1,o6 8 82 [.t 7],om 6 8,oe 9 6 0,oe 10 6 1,oe 11 6 2,om 3 9,om 4 10,om 5 11] (kq [om 12 3,o9 13 0 12,om 2 13] .ret))),[.tmp 2]⟩
theorem WI:aN Tryz.prog [100001] 38=some B1.erase:=by kernel_rfl
end Go.Proofs.Q
