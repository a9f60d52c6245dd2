/- Part of a proof. -/
import Derived.Test.YtfoljakejdgfcaaGreatDoorPBF
import Derived.Test.YtfoljakejdgfcaaGreatDoorPBD
import Derived.Lib.SliceRun
set_option linter.unusedVariables false
set_option linter.unusedSimpArgs false
namespace Go.Proofs.Lh
open Go Go.Ab Go.Bb Go.RowKit Go.Proofs.Lg
def nL(s:List aa)(id:Nat):Option (AV×AV):=match s[id]? with
 |some (.tcells 260 [a,b])=>some (a,b)
 |_=>none
theorem Fi{s:List aa}{id:Nat}{p:AV×AV}(h:nL s id=some p):s[id]?=some (.tcells 260 [p.1,p.2]):=by
 unfold nL at h;split at h
 ·rename_i a b c;obtain rfl:=az h;exact c
 ·cases h
theorem FY{s o:List aa}{id:Nat}{p:AV×AV}{b:ByteArray}(hg:nL s id=some p)(h:qG s id p.1 b.data.toList p.2=some o):
  iy (dx Tryz.prog) Tryz.prog 273 [.ptr id 0,.d (.sc (.string b))] s (.d (.tup [.sc (.int .i64 b.size),.sc .nilIface])) o:=by
 refine⟨enters_fn' Tryz.func273 rfl (by rfl),fun B k w vs g a=> ?_⟩
 match vs,a with
 |[u,v],a=>
  obtain⟨E,hb,rfl⟩:=(a.2 0 u _ rfl rfl).ptr_inv;have C:=(a.2 1 v _ rfl rfl).d_inv;cases C;obtain⟨G,H,n,xs,q,r,t,x,F,y,z⟩:=Gc g (Fi hg) h hb;have m:b.data.toList.length=b.size:=by rw[jM];rfl
  refine(N2 (B:=B) b q r t x (by rw[←m];exact y) g.base).mono ?_;rintro e w' ⟨rfl,v2,D,c,rfl⟩;rw[←m]at c;obtain⟨k',A,l⟩:=z _ D v2 (Below.refl _ _) c;refine⟨_,k',rfl,.d ?_,A,l⟩;refine .tup [.int .i64 b.size,.nilIface] _ rfl fun i u d j f=> ?_
  match i,j,f with
  |0,j,f=>cases j;cases f;exact .sc _
  |1,j,f=>cases j;cases f;exact .sc _
theorem FX{s j:List aa}{id:Nat}{p:AV×AV}{c:Int}(hc:0≤c∧c<256)(hg:nL s id=some p)(h:qG s id p.1 [UInt8.ofNat c.toNat] p.2=some j):
  iy (dx Tryz.prog) Tryz.prog 274 [.ptr id 0,.d (.sc (.int .u8 c))] s (.d (.sc .nilIface)) j:=by
 refine⟨enters_fn' Tryz.func274 rfl (by rfl),fun B k w vs b a=> ?_⟩
 match vs,a with
 |[u,v],a=>
  obtain⟨C,hb,rfl⟩:=(a.2 0 u _ rfl rfl).ptr_inv;have z:=(a.2 1 v _ rfl rfl).d_inv;cases z;obtain⟨D,E,n,xs,l,m,o,q,r,t,x⟩:=Gc b (Fi hg) h hb;have g:(((UInt8.ofNat c.toNat).toNat:Nat):Int)=c:=by rw[UInt8.toNat_ofNat'];omega
  refine(N1 (B:=B) c l m o q r t b.base).mono ?_;rintro e w' ⟨rfl,v2,A,f,rfl⟩;obtain⟨k',y,i⟩:=x _ A v2 ((Below.refl _ _).alloc (bh _) (.cells #[.int .u8 c] 5)) (by rw[bO,eg,g];exact f);exact⟨_,k',rfl,.d (.sc _),y,i⟩
theorem P6(w:World)(a q:Addr)(n:Nat):(w.freeze a n).cell? q=w.cell? q:=by
 unfold World.freeze;split
 ·rfl
 ·unfold World.cell?;simp only[uC];by_cases e:a.block=q.block
  ·rw[if_pos e];cases h:w.heap[q.block]? with
   |none=>rfl
   |some o=>cases o<;>rfl
  ·rw[if_neg e]
theorem P7(w:World)(a:Addr)(n j:Nat)(h:j≠a.block):(w.freeze a n).heap[j]?=w.heap[j]? :=by
 unfold World.freeze;split
 ·rfl
 ·simp only[uC];rw[if_neg (Ne.symm h)]
theorem P8(w:World)(a:Addr)(n:Nat):(w.freeze a n).heap.size=w.heap.size:=by
 unfold World.freeze;split
 ·rfl
 ·simp
def C3(s:List aa)(id:Nat):Option (ByteArray×List aa):=(nL s id).bind fun p=>match p.2 with
 | .tsl cq 1 rows=>if fc 5 1 rows.length s[cq]?=true∧0<rows.length then(gl (rows.flatten.map .d)).map fun l=>(⟨l.toArray⟩,s.set cq .junk)else none
 |_=>none
theorem FV{s:List aa}{id:Nat}{p:ByteArray×List aa}(h:C3 s id=some p):iy (dx Tryz.prog) Tryz.prog 249 [.ptr id 0] s (.d (.sc (.string p.1))) p.2:=by
 obtain⟨q,hg,G⟩:=Nq h;obtain⟨a,X⟩:=q;dsimp only at G;split at G
 ·rename_i cq rows;obtain⟨⟨C,U⟩,Z⟩:=Dz G;obtain⟨l,hl,rfl⟩:=Qi Z;have t:=EX C;have L:=Fi hg;refine⟨enters_fn' Tryz.func249 rfl (by rfl),fun B k w vs m o=> ?_⟩
  match vs,o with
  |[u],o=>
   obtain⟨b,hb,rfl⟩:=(o.2 0 u _ rfl rfl).ptr_inv;obtain⟨V,us,Q,Y,R,g4⟩:=m.tcells L;rw[hb]at Q;cases Q;obtain⟨p,v,rfl⟩: ∃p v,us=[p,v]:=by
    have:=R.1
    match us,this with
    |[p,v],_=>exact⟨p,v,rfl⟩
   have hv:=R.2.2 1 v _ rfl rfl;have D:w.heap[b]?=some (.cells #[p,v] 260 (0,0)):=Y;obtain⟨A,u2,n',i,a0,J⟩:=hv.tsl_inv;obtain⟨v2,xs,y,c,hI⟩:=m.row t;rw[i]at y;cases y;have P:=J rfl;subst P;have F:=wm A c;have E:=CN (cD.toA (k:=k) F) hl;have O:=wo A;have K:rows.flatten.length=rows.length:=by
    have:=flatten_len rows O;rw[aB]at this;exact this
   have f:l.length=rows.length:=by
    have S:=F.1;rw[E,aL,K]at S;exact S
   rcases c.2 with⟨_,h0⟩|⟨g,cap,cur,fz,hvv,hgB,hgh,hnc,hcm,hcs,htake,hfz⟩
   ·omega
   ·have z:l≠[]:=fun e=>by rw[e]at f;simp at f;omega
    rw[hvv,←f]at D;have M:g<w.heap.size:=(fK.1 hgh).1;refine(N0 (fz:=fz) l z D hgh (by rw[f];exact hnc) hcm hcs fun j x hj=> ?_).mono ?_
    ·have:=c.cells (g:=g) (by rw[hvv];rfl) j (.int .u8 x.toNat) (by rw[E,cC,hj];rfl);rw[fJ,au]at this;exact this
    ·rintro e w' ⟨rfl,rfl⟩;have hk:gX k.I w k.I (w.drew.freeze ⟨g,0,none⟩ l.length):=fun V q u hq hc=>⟨hq,by rw[P6,World.cell?_drew];exact hc⟩
     have H:Below B w (w.drew.freeze ⟨g,0,none⟩ l.length):=Go.Lib.below_freeze (Below.drew (Below.refl B w)) (p:=⟨g,0,none⟩) hgB _;have n:(Own.row v rows.length).block=some g:=by rw[hvv];rfl
     obtain⟨he,N⟩:=m.upd (k':=k) i .junk (oS i) (de.refl _) hk H (fun W r=>by rw[n]at r;cases r;exact⟨.inl n,by rw[P8];exact M,hgB⟩)
      (fun W T hne=>⟨by rw[P7 _ _ _ _ (fun e=>hne (by rw[n,e]))];rfl,rfl⟩) trivial
     exact⟨_,k,rfl,.d (.sc _),he,N⟩
 ·cases G
end Go.Proofs.Lh
namespace Go.Proofs.Q
open Go Go.Bb Go.RowKit Go.Proofs.Lg
open Go.Ab (D RD)
set_option maxHeartbeats 400000 in
set_option maxRecDepth 100000 in
theorem Mg(a:Addr)(c:Nat)(w:World):Calls Tryz.prog 113 #[.slice (some a) 0 c] w fun e w'=> ∃i,e= .returned i∧(∃k,i= .slice k 0 0)∧Below w.heap.size w w':=by
 have q: ∀(w:World) (a:Option Addr) (n c g f:Nat),(binOp .eql 26 (.slice a n c) (.slice none g f)).run Tryz.prog w= .ok (.bool a.isNone) w:=fun w a n c g f=>Go.Lib.run_eql_slice_nil w _ _ a n c g f Tryz.underlying26;obtain⟨j,l⟩: ∃j,Tryz.prog.info? 25=some j:=uL.1 (show(Tryz.prog.info? 25).isSome=true by kernel_rfl)
 have d: ∀(h:TypeId) (b:Addr) (W:World),(Builtin.append_ #[26,26] h #[.slice (some b) 0 0,.slice (some a) 0 c]).run Tryz.prog W= .ok (.slice (some b) 0 0) W:=fun h b W=>by
  simp[Builtin.append_,run_underlying Tryz.underlying26,sizeOf,typeInfo,l,Builtin.lenOf,Builtin.firstCells,loadCells,loadCellsFrom,storeCells]
 go_enter Tryz.func113,Tryz.ntmps113
 go_wp2_with (at_builtin;refine Go.Lib.wpList_append_run _ rfl _ _ _ _ rfl _ _ rfl rfl _ _ (d _ _ _) ?_)
 go_ret
 exact⟨_,rfl,⟨_,rfl⟩,(Below.refl _ _).alloc (bh _) _⟩
set_option maxHeartbeats 400000 in
set_option maxRecDepth 100000 in
theorem Mf(m c:Nat)(w:World):Calls Tryz.prog 113 #[.slice none m c] w fun e w'=>e= .returned (.slice none 0 0)∧w'=w:=by
 have q: ∀(w:World) (a:Option Addr) (n c d b:Nat),(binOp .eql 26 (.slice a n c) (.slice none d b)).run Tryz.prog w= .ok (.bool a.isNone) w:=fun w a n c d b=>Go.Lib.run_eql_slice_nil w _ _ a n c d b Tryz.underlying26
 go_enter Tryz.func113,Tryz.ntmps113
 go_wp2
 go_ret
 exact⟨rfl,rfl⟩
theorem NR(n:Nat)(s:List aa):aT Tryz.prog 113 [.d (.sl n [])] s fun d h=>d= .emp n∧h=s:=by
 refine⟨.emp n,s,⟨enters_fn' Tryz.func113 rfl (by rfl),fun B k w vs b f=> ?_⟩,rfl,rfl⟩
 match vs,f with
 |[v],f=>
  have g:=(f.2 0 v _ rfl rfl).d_inv;obtain⟨a,c,us,rfl,_⟩:=g.sl_inv;cases a with
  |none=>
   refine(Mf 0 c w).mono ?_;rintro e w' ⟨rfl,rfl⟩;exact⟨_,k,rfl,.emp,Ext.refl B k _,b⟩
  |some a=>
   refine(Mg a c w).mono ?_;rintro e w' ⟨j,rfl,⟨i,rfl⟩,hb⟩;exact⟨_,⟨ff k.I w.heap.size w',k.own⟩,rfl,.emp,Ext.called b.base hb,b.called hb⟩
theorem Hz(l:List Dg):((l.map aq).flatten).length=l.length*32:=by
 rw[Go.Ab.flatten_len (sz:=32) _ fun r a=>by obtain⟨x,_,rfl⟩:=cy.1 a;exact bc x,aL]
theorem NS(x:Dg)(l:List Dg)(e:l.length≤1000000)(s:List aa):aT Tryz.prog 113 [.d (.sl 32 ((x::l).map aq))] s fun d c=>d= .vec s.length (l.length+1) 32∧c=s++[.vec 25 32 (cz (x::l))]:=by
 have b:br (l.length+1) 32=true:=room_le a8 a8;have a:((aq x++(l.map aq).flatten)).length=(l.length+1)*32:=by have:=Hz (x::l);simpa using this
 rw[bO];rw[r9];refine aT.of (F:=yt) Rn (by simp[yt]) ?_;simp only[yt]
 repeat' first|refine ak (fun _=> ?_) fun _=> ?_|refine aD ?_|simp only[b,a,aL,fA,wj,wy,qg,aC,reduceCtorEq,reduceIte,Nat.reduceAdd,Nat.reduceMul,Nat.reduceEqDiff,Nat.reduceLT,Nat.reduceLeDiff,Nat.reduceSub,ax,aB,ay,au]
 all_goals first|rfl|exact⟨rfl,rfl⟩
theorem tk:aE Tryz.prog 165 [.sc (.int .u64 0)] (dI 0):=by
 refine⟨enters_fn' Tryz.func165 rfl (by rfl),fun I w vs a c _=> ?_⟩
 match vs,a with
 |[u],_=>
  have b:=c 0 u _ rfl rfl;cases b;refine(Tryz.bits_Len 0 w a8 a8).mono ?_;rintro e w' ⟨rfl,rfl⟩;exact⟨_,rfl,.sc _,Below.refl _ _⟩
theorem PC(f:AV)(s:List aa):aT Tryz.prog 217 [.emp 32,.d (dI 0),.d (dI 0),f] s fun d c=>d= .tup []∧c=s:=by
 have b:IntKind.i64.wrap (0+1)=1:=by rfl
 have a:decide ((1:Int)<0)=false:=by decide
 refine aT.of (F:=rC) IT (by simp[rC]) ?_;simp only[rC];refine aw (ga @b @wj) trivial ?_;refine aX.tr (fun(_:Unit)=>[(8,.d (dI 1))]) (fun _=>s) (fun _ _=>True) 0 () aA aA rfl trivial ?_;intro m _ _;exact bx (ga @a @wj) trivial
 all_goals first|rfl|exact⟨rfl,rfl⟩
theorem Uy(f:FuncId)(s:List aa):aT Tryz.prog 164 [.emp 32,.d (dI 0),.d (dI 0),.d (dI 0),.clo f [] []] s fun d e=>d= .tup []∧e=s:=by
 have a:=PC (.clo f [] []) s;have c:IntKind.i64.wrap (0-0)=0:=by rfl
 have b:decide ((0:Int)≤12)=true:=by decide
 refine aT.of (F:=rJ) J0 (by simp[rJ]) ?_;simp only[rJ];refine aw @wj trivial ?_;refine aX.tr (fun(_:Unit)=>[]) (fun _=>s) (fun _ _=>True) 0 () aA aA rfl trivial ?_;intro m _ _;exact vr (ga @c (ga @b @wj)) @a
 all_goals first|rfl|exact⟨rfl,rfl⟩
theorem Yp(f:FuncId)(s:List aa):aT Tryz.prog 116 [.emp 32,.clo f [] []] s fun d c=>d= .tup []∧c=s:=by
 have a:=Uy f s;refine aT.of (F:=ru) IN (by simp[ru]) ?_;simp only[ru];have b:IntKind.u64.wrap 0=0:=by rfl
 repeat' first|refine ak (fun _=> ?_) fun _=> ?_|refine bb (ga @b @wj) (ga @tk @a) ?_|exact ba (ga @b @wj) (ga @tk @a)|fail
 all_goals first|rfl|exact⟨rfl,rfl⟩
theorem k8(L:List Dg):(cz L).length=L.length*32:=by rw[r9,aL,Hz]
theorem tn(A B:List Dg):cz (A++B)=cz A++cz B:=by simp only[r9,eX,sP]
theorem tq(d:Dg):cz [d]=(aq d).map .d:=by simp[r9]
theorem CS(L:List Dg)(n:Nat)(h:n≤L.length):(cz L).take (n*32)=cz (L.take n):=by
 conv=>lhs;rw[←ll n L,tn]
 rw[gf (by rw[k8,du];omega),dm (by rw[k8,du];omega)]
theorem Gn(L:List Dg)(n:Nat)(h:n≤L.length):(cz L).drop (n*32)=cz (L.drop n):=by
 conv=>lhs;rw[←ll n L,tn]
 rw[gx,gy (by rw[k8,du];omega),bn,k8,du,nY h,ia,jQ]
theorem uS{L:List Dg}{k:Nat}{d:Dg}(h:L[k]?=some d):((cz L).drop (k*32)).take 32=(aq d).map .d:=by
 obtain⟨a,rfl⟩:=aR.1 h;rw[Gn L k a8,js a];have:=CS (L[k]::L.drop (k+1)) 1 (by rw[aU];omega);rw[pA]at this;rw[this,jT,List.take_zero,tq]
theorem NH{L:List Dg}{k:Nat}(a:k<L.length)(d:Dg):aV (cz L) (k*32) 32 ((aq d).map .d)=some (cz (L.set k d)):=by
 unfold aV;rw[if_pos ⟨by rw[aL,bc],by rw[k8];omega⟩,CS L k a8,show k*32+32=(k+1)*32 by omega,Gn L (k+1) a8,←tq,←tn,←tn];congr 2;rw[Cv,if_pos a];simp
theorem D2{α:Type}{sz:Nat}: ∀(rows:List (List α)),(∀r∈rows,r.length=sz)→chunk sz rows.length rows.flatten=rows
 |[],_=>rfl
 |r::rows,h=>by
  have a:=h r (by simp);show(r::rows).flatten.take sz::chunk sz rows.length ((r::rows).flatten.drop sz)=_;rw[fA,gf a8,dm a8,gx,gy a8,bn,a,ia,jQ,D2 rows fun x b=>h x (by simp[b])]
theorem uU(L:List Dg):chunk 32 L.length ((L.map aq).flatten)=L.map aq:=by
 have:=D2 (L.map aq) fun r a=>by obtain⟨x,_,rfl⟩:=cy.1 a;exact bc x
 rw[aL]at this;exact this
theorem DM(s:List aa)(L:List Dg):cU (bu s 4) (cz L)=some ((L.map aq).flatten):=by
 rw[r9];exact tE s 3 _
def cW:List Dg→List Dg
 |x::y::r=>if x=y then cW (y::r)else x::cW (y::r)
 |l=>l
theorem D3: ∀{l:List Dg},(∀j,j+1<l.length→l[j]? ≠l[j+1]?)→cW l=l
 |[],_=>rfl
 |[x],_=>rfl
 |x::y::r,h=>by
  rw[cW,if_neg (by have:=h 0 (by simp);simpa using this),D3 fun j a=>by have:=h (j+1) (by simpa using a);simpa using this]
theorem GK: ∀(A:List Dg) (y x:Dg),cW (A++[y]++[x])=if x=y then cW (A++[y])else cW (A++[y])++[x]
 |[],y,x=>by
  show cW [y,x]=_;by_cases h:x=y
  ·subst h;simp[cW]
  ·rw[if_neg h,cW,if_neg (Ne.symm h)];rfl
 |a::A,y,x=>by
  have d:=GK A y x;cases A with
  |nil=>
   have c:cW (y::[x])=if x=y then cW [y]else cW [y]++[x]:=d;show(if a=y then cW (y::[x])else a::cW (y::[x]))=if x=y then(if a=y then cW [y]else a::cW [y])else(if a=y then cW [y]else a::cW [y])++[x];rw[c];split<;>split<;>rfl
  |cons b A=>
   have c:cW (b::(A++[y]++[x]))=if x=y then cW (b::(A++[y]))else cW (b::(A++[y]))++[x]:=d;show(if a=b then cW (b::(A++[y]++[x]))else a::cW (b::(A++[y]++[x])))=if x=y then(if a=b then cW (b::(A++[y]))else a::cW (b::(A++[y])))else(if a=b then cW (b::(A++[y]))else a::cW (b::(A++[y])))++[x];rw[c];split<;>split<;>rfl
theorem GM{l:List Dg}{p:Nat}{y x:Dg}(c:l[p]?=some y)(b:l[p+1]?=some x):cW (l.take (p+2))=if x=y then cW (l.take (p+1))else cW (l.take (p+1))++[x]:=by
 have a:l.take (p+1)=l.take p++[y]:=by rw[qS (aR.1 c).1];congr 2;exact(aR.1 c).2
 have d:l.take (p+2)=l.take p++[y]++[x]:=by rw[qS (aR.1 b).1,a];congr 2;exact(aR.1 b).2
 rw[a,d,GK]
set_option maxHeartbeats 2000000 in
theorem O6{s:List aa}{i:Nat}{l:List Dg}(E:s[i]?=some (.vec 25 32 (cz l)))(hn:l.length≤1000000):aT Tryz.prog 118 [.vec i l.length 32] s fun d s'=>bu s' 5 d=some (.sl 32 ((cW l).map aq)):=by
 have A:=k8 l;have hi:=(aR.1 E).1;refine aT.of (F:=rp) IJ (by simp[rp]) ?_;simp only[rp];by_cases h2:l.length<2
 ·have W:decide ((l.length:Int)<2)=true:=by simp;omega
  have hc:cW l=l:=by
   match l,h2 with
   |[],_=>rfl
   |[x],_=>rfl
  rw[hc];exact bx (ga @W (ga @E (ga @A (ga @DM (ga @uU @wj))))) trivial
 have W:decide ((l.length:Int)<2)=false:=by simp;omega
 refine aw (ga @W @wj) trivial ?_;refine aX.tr (fun(k:Nat)=>[(3,iN (k+1))]) (fun _=>s) (fun m k=>m+(k+1)=l.length∧ ∀j,j<k→l[j]? ≠l[j+1]?) (l.length-1) 0 aA aA rfl ⟨by omega,fun j v=>by omega⟩ ?_;rintro m k ⟨hm,hne⟩;by_cases hk:k+1<l.length
 ·have G:l[k]?=some l[k]:=bV a8;have H:l[k+1]?=some l[k+1]:=bV hk;have g:decide (((k+1:Nat):Int)<(l.length:Int))=true:=by simp;omega
  have Q:IntKind.i64.wrap (((k+1:Nat):Int)+1)=((k+1+1:Nat):Int):=ck a8 a8;have y:IntKind.i64.wrap (((k+1:Nat):Int)-1)=(k:Int):=ck a8 a8;have a0:=uS G;have O:=uS H;have R:k*32+32≤l.length*32:=by omega
  have S:(k+1)*32+32≤l.length*32:=by omega
  have p0:k<l.length:=by omega
  have r0:((k+1:Nat):Int)<(l.length:Int):=by omega
  have r1:((k+1:Nat):Int)≤(l.length:Int):=by omega
  repeat' first|refine ak (fun _=> ?_) fun _=> ?_|refine aD ?_|simp only[g,Q,y,E,A,hk,p0,a0,O,R,S,r0,r1,gW,wj,wy,qg,aC,reduceCtorEq,reduceIte,Nat.reduceAdd,Nat.reduceMul,Nat.reduceEqDiff,Nat.reduceLT,Nat.reduceLeDiff,Nat.reduceSub,ax,aB,ay,au]
  ·rename_i o;have C:l.take (k+1)=cW (l.take (k+2)):=by
    rw[GM G H,if_pos (by simpa using o),D3];intro j v;rw[du]at v;rw[pq a8,pq a8];exact hne j a8
   have a2:s=s.set i (.vec 25 32 (cz l)):=by
    apply fy;intro j;rw[ey];split
    ·rename_i e;subst e;first|exact E|(rw[if_pos hi,E])
    ·rfl
   clear a0 O R S Q y g
   refine aX.tr (fun(b:Nat×Nat×List Dg)=>[(5,iN (b.1+1)),(3,iN b.2.1)]) (fun b=>s.set i (.vec 25 32 (cz b.2.2))) (fun m b=>m+(k+1+b.1+1)=l.length∧b.2.2.length=l.length∧b.2.1≤k+1+b.1∧b.2.2.take b.2.1=cW (l.take (k+1+b.1+1))∧ ∀j,k+1+b.1≤j→b.2.2[j]?=l[j]?) (l.length-(k+2)) (0,k+1,l) aA aA a2 ⟨by dsimp only;omega,rfl,by dsimp only;omega,C,fun _ _=>rfl⟩ ?_
   rintro m2 ⟨c,a,L⟩ ⟨Y,n,X,u,f⟩;dsimp only at Y n X u f⊢;have w:(s.set i (.vec 25 32 (cz L)))[i]?=some (.vec 25 32 (cz L)):=by rw[ey];simp[hi]
   have z:(cz L).length=l.length*32:=by rw[k8,n]
   by_cases M:k+1+c+1<l.length
   ·have G:L[k+1+c]?=some l[k+1+c]:=by rw[f _ a8];exact bV a8
    have H:L[k+1+c+1]?=some l[k+1+c+1]:=by rw[f _ a8];exact bV M
    have f0:l[k+1+c]?=some l[k+1+c]:=bV a8;have f1:l[k+1+c+1]?=some l[k+1+c+1]:=bV M;have J:=GM f0 f1;have a0:=uS G;have O:((cz L).drop ((k+1+(c+1))*32)).take 32=(aq l[k+1+c+1]).map .d:=uS H;have R:(k+1+c)*32+32≤l.length*32:=by omega
    have S:(k+1+(c+1))*32+32≤l.length*32:=by omega
    have g:decide (((c+1:Nat):Int)<((l.length-(k+1):Nat):Int))=true:=by simp;omega
    have Q:IntKind.i64.wrap (((c+1:Nat):Int)+1)=((c+1+1:Nat):Int):=ck a8 a8;have y:IntKind.i64.wrap (((c+1:Nat):Int)-1)=(c:Int):=ck a8 a8;have a5:IntKind.i64.wrap ((a:Int)+1)=((a+1:Nat):Int):=ck a8 a8;have p0:c<l.length-(k+1):=by omega
    have p1:c+1<l.length-(k+1):=by omega
    have p2:k+1+(l.length-(k+1))≤l.length:=by omega
    have p3:a<l.length:=by omega
    have t:=NH (L:=L) (k:=a) a8 l[k+1+c+1];have q3:a*32+32≤l.length*32:=by omega
    unfold aV at t;rw[if_pos ⟨by rw[aL,bc],by omega⟩,bj]at t;have D:=az t
    repeat' first|refine ak (fun _=> ?_) fun _=> ?_|refine aD ?_|simp only[g,Q,y,a5,w,z,p0,p1,p2,p3,a0,O,R,S,q3,D,List.set_set,gW,wj,wy,qg,aC,reduceCtorEq,reduceIte,Nat.reduceAdd,Nat.reduceMul,Nat.reduceEqDiff,Nat.reduceLT,Nat.reduceLeDiff,Nat.reduceSub,ax,aB,ay,au]
    ·rename_i q;have q: ¬l[k+1+c+1]=l[k+1+c]:=by simpa using q
     refine⟨m2-1,(c+1,a+1,L.set a l[k+1+c+1]),by omega,⟨rfl,rfl⟩,rfl,by dsimp only;omega,by simpa using n,by dsimp only;omega,?_,fun j v=> ?_⟩
     ·show(L.set a l[k+1+c+1]).take (a+1)=cW (l.take (k+1+c+2));rw[J,if_neg q,←u,qS (by simp;omega),List.getElem_set_self,List.take_set_of_le (bh _)]
     ·dsimp only at v⊢;rw[bs a8];exact f j a8
    ·rename_i B;have B:l[k+1+c+1]=l[k+1+c]:=by simpa using B
     refine⟨m2-1,(c+1,a,L),by omega,⟨rfl,rfl⟩,rfl,by dsimp only;omega,n,by dsimp only;omega,?_,fun j v=>f j (by dsimp only at v;omega)⟩;show L.take a=cW (l.take (k+1+c+2));rw[J,if_pos B];exact u
   ·have g:decide (((c+1:Nat):Int)<((l.length-(k+1):Nat):Int))=false:=by simp;omega
    have r0:(a:Int)<(l.length:Int):=by omega
    have r1:(a:Int)≤(l.length:Int):=by omega
    have K:l.take (k+1+c+1)=l:=dm a8;rw[K]at u;have N:a≤L.length:=by omega
    obtain⟨Z,P⟩: ∃Z,Z=(cz L).take (a*32)++(List.replicate (l.length-a) ((aq .zero).map AV.d)).flatten++(cz L).drop (a*32+(l.length-a)*32):=⟨_,rfl⟩
    have I:sC (s.set i (.vec 25 32 (cz L))) 32 ((aq .zero).map AV.d) (.vwn i l.length a (l.length-a) 32)=some (.d (.sc (.tuple #[])),s.set i (.vec 25 32 Z)):=by
     show((fX l.length (s.set i (.vec 25 32 (cz L)))[i]?).bind fun p=>if(32=32∧p.1=32∧((aq .zero).map AV.d).length=32)∧0<l.length-a∧a+(l.length-a)≤l.length then some (AV.d (.sc (.tuple #[])),(s.set i (.vec 25 32 (cz L))).set i (.vec (lB (s.set i (.vec 25 32 (cz L)))[i]?) 32 (p.2.take (a*32)++(List.replicate (l.length-a) ((aq .zero).map AV.d)).flatten++p.2.drop (a*32+(l.length-a)*32))))else none)=_
     have a3:fX l.length (s.set i (.vec 25 32 (cz L)))[i]?=some (32,cz L):=by
      rw[w];show(if _ then _ else _)=_;rw[if_pos ⟨by omega,z⟩]
     rw[a3,dF,if_pos ⟨⟨rfl,rfl,by simp[bc]⟩,by omega,by omega⟩,List.set_set,P,w];rfl
    have U:Z.take (a*32)=cz (L.take a):=by
     rw[P,bj,gf (by rw[du,k8];omega),sS,Nat.min_self,CS L a N]
    have T:Z.length=l.length*32:=by
     rw[P,aN,aN,du,ax,k8,Go.Ab.flatten_len (sz:=32) _ (fun r hr=>by obtain⟨_,rfl⟩:=List.mem_replicate.1 hr;simp[bc]),fh,n];omega
    have a4:(s.set i (.vec 25 32 Z))[i]?=some (.vec 25 32 Z):=by rw[ey];simp[hi]
    clear P;have r2:a≤l.length:=by omega
    have V:chunk 32 a (((L.take a).map aq).flatten)=(L.take a).map aq:=by
     have:=uU (L.take a);rw[du,nY N]at this;exact this
    rw[←u];have r3:(0:Int)<(l.length:Int):=by omega
    repeat' first|refine ak (fun _=> ?_) fun _=> ?_|refine aD ?_|simp only[g,w,z,r0,r1,r2,r3,I,a4,T,U,V,DM,gW,iz,nZ,od,jQ,wj,wy,qg,aC,reduceCtorEq,reduceIte,Nat.reduceAdd,Nat.reduceMul,Nat.reduceEqDiff,Nat.reduceLT,Nat.reduceLeDiff,Nat.reduceSub,ax,aB,ay,au]
  ·rename_i o;exact⟨m-1,k+1,by omega,rfl,by omega,fun j v=>by
    rcases Nat.lt_succ_iff_lt_or_eq.1 v with h|rfl
    ·exact hne j h
    ·rw[G,H];intro e;exact absurd (az e).symm (by simpa using o)⟩
 ·have g:decide (((k+1:Nat):Int)<(l.length:Int))=false:=by simp;omega
  have hc:cW l=l:=D3 fun j v=>hne j a8;rw[hc];exact bx (ga @g (ga @E (ga @A (ga @DM (ga @uU @wj))))) trivial
end Go.Proofs.Q
