/- Lemmas. -/
import Derived.Test.YtellfinifjmloaaGreatDoorPBH
set_option linter.unusedVariables false
set_option linter.unusedSimpArgs false
namespace Go.Proofs.Q
open Go Go.Bb Go.RowKit Go.Proofs.Lg
open Go.Ab (D RD)
theorem TU{a b c:af}(f:eN a b=true)(g:eN b c=true):eN a c=true:=by
 unfold eN at*;simp only[decide_eq_true_eq]at*;by_cases d:cY a b=0
 ·rw[(va a b).1 d];exact g
 ·by_cases e:cY b c=0
  ·rw[←(va b c).1 e];exact f
  ·have:=sG (a:=a) (b:=b) (c:=c) a8 a8;omega
end Go.Proofs.Q
namespace Go.Proofs.Q
open Go Go.Ab Go.Bb
def BN:CF:=⟨81, (kq [ox 2 0,ox 3 1,kM 4 (.c (.nil 34))] (kq [o1 13 1 3,o2 14 33 13,kB 5 cQ,o8 33 5 14] (.seq (kq [o1 15 0 5,o2 16 32 15,o0 17 (.bld ej []),o0 18 (.eqa true eV false (.t 16) (.t 17))] (kd 18 (fo [o2 19 32 2,o1 20 0 5,o8 32 20 19]) .skip)) (kq [o0 6 (.box (.c (.nil 34)))] (kq [o0 21 (.mkf 218 [] [.t 6]),om 7 21] (.seq (kq [o1 22 0 3,o3 23 22,o5 24 .neq 23 1,om 25 24,kF 26 25 true 0 3,kL 27 25 true 26,kG 28 25 true .neq (.t 27) (xi 7),kP 29 25 28] (kd 29 (fo [om 30 7,o1 31 1 3,o2 32 33 31,o0 33 (.mkf 219 [] [.t 3]),o0 34 (.call (.val (.t 30)) [.t 32,.t 33])]) .skip)) (.seq (kq [o1 35 0 3,o3 36 35,o5 37 .eql 36 2] (kd 37 (fo [om 38 7,o1 39 35 3,o2 40 33 39,o0 41 (.call (.val (.t 38)) [.t 40,(.c (.clo 221 [] []))])]) .skip)) (.seq (kq [o1 42 0 3,o3 43 42,o5 44 .eql 43 5,om 45 44,kF 46 45 false 0 3,kL 47 45 false 46,kG 48 45 false .eql (.t 47) (xi 6),kR 49 45 48] (kd 49 (kq [o1 50 71 3,o2 51 33 50,o1 52 104 3,o2 53 33 52,o0 54 (.bsf 33 2 HP [(0,33,(.t 51)),(33,33,(.t 53))]),o9 55 0 54,o7 56 0] (.block 0 (.loop (.trim [56,3,5,7,54,6,55] (kq [o4 57 .lss 56 55] (.seq (kd 57 .skip (.exit 0)) (.seq (.block 1 (kq [oi 58 33 54 56,o2 59 33 58,kB 9 cQ,o8 33 9 59] (fo [om 60 7,o2 61 33 9,o0 62 (.mkf 222 [] [.t 9,.t 3,.t 5]),o0 63 (.call (.val (.t 60)) [.t 61,.t 62])]))) (fo [o5 64 .add 56 1,om 56 64])))))))) .skip))
 (kq [o1 65 0 3,o3 66 65,o6 67 223 [.t 66],o0 10 (.box (xi 0)),o8 1 10 67] (.seq (kq [o1 68 138 3,o3 69 68,o9 70 0 69,o7 71 0] (.block 2 (.loop (.trim [71,10,5,7,69,6,70] (kq [o4 72 .lss 71 70] (.seq (kd 72 .skip (.exit 2)) (.seq (.block 3 (kq [oi 73 33 69 71,o2 74 33 73,kB 12 cQ,o8 33 12 74] (fo [om 75 7,o2 76 33 12,o0 77 (.mkf 224 [] [.t 10,.t 5]),o0 78 (.call (.val (.t 75)) [.t 76,.t 77])]))) (fo [o5 79 .add 71 1,om 71 79])))))))) (kq [o3 80 6,om 4 80] .ret))))))))))),[.tmp 4]⟩
theorem Xt:aN Tryz.prog [100002,100003,100054,5,10,9] 166=some BN.erase:=by kernel_rfl
def pq:CF:=⟨15, (kq [ox 3 0] (kq [o1 5 0 3,o2 6 32 5,o0 7 (.bld ej []),o0 8 (.eqa true eV true (.t 6) (.t 7))] (kd 8 (fo [o3 9 2,o2 10 33 3,om 11 1,o0 12 (.bld nD [(0,33,(.t 10)),(33,1,(.t 11))]),o0 13 (.bsl false 196 34 1 nD [(0,34,(.t 12))]),o0 14 (.app false 196 34 48 (.t 9) (.t 13)),o8 1 2 14]) .skip))),[]⟩
theorem Gg:aN Tryz.prog [100003,300007,300012] 218=some pq.erase:=by kernel_rfl
def BO:CF:=⟨8, (kq [ox 2 0,kM 3 xF] (kq [o1 4 0 1,o3 5 4,o2 6 172 2,o6 7 220 [.t 5,.t 6],om 3 7] .ret)),[.tmp 3]⟩
theorem Xu:aN Tryz.prog [100002] 219=some BO.erase:=by kernel_rfl
def BP:CF:=⟨11, (kq [ox 1 0,kM 2 xF] (kq [o1 3 33 1,o3 4 3,o5 5 .eql 4 1,om 6 5,kF 7 6 true 67 1,kL 8 6 true 7,kG 9 6 true .eql (.t 8) (xi 4),kP 10 6 9,om 2 10] .ret)),[.tmp 2]⟩
theorem Xv:aN Tryz.prog [100001] 221=some BP.erase:=by kernel_rfl
def BQ:CF:=⟨21, (kq [ox 4 0,kM 5 xF] (kq [o2 6 33 1,o1 7 1 2,o2 8 33 7,o0 9 (.eqa true cJ false (.t 6) (.t 8)),om 10 9,kF 11 10 false 33 4,kL 12 10 false 11,kG 13 10 false .eql (.t 12) (xi 5),oh 14 10 false 13,kF 15 14 true 34 4,og 16 14 true (.ld (some 33) (.t 15)),og 17 14 true (.ld (some 33) (.t 3)),og 18 14 true (.eqa true cJ false (.t 16) (.t 17)),og 19 10 false (.pick (.t 14) (.t 18) xF),kR 20 10 19,om 5 20] .ret)),[.tmp 5]⟩
theorem Xw:aN Tryz.prog [100004] 222=some BQ.erase:=by kernel_rfl
def BR:CF:=⟨19, (kq [ox 3 0,kM 4 xF] (kq [o3 5 1,o5 6 .eql 5 0,om 7 6,kF 8 7 false 33 3,kL 9 7 false 8,kL 10 7 false 1,kG 11 7 false .eql (.t 9) (.t 10),oh 12 7 false 11,kF 13 12 true 34 3,og 14 12 true (.ld (some 33) (.t 13)),og 15 12 true (.ld (some 33) (.t 2)),og 16 12 true (.eqa true cJ false (.t 14) (.t 15)),og 17 7 false (.pick (.t 12) (.t 16) xF),kR 18 7 17,om 4 18] .ret)),[.tmp 4]⟩
theorem Xx:aN Tryz.prog [100003] 224=some BR.erase:=by kernel_rfl
def BI:CF:=⟨25, (kq [ox 3 1,kM 4 xF] (.seq (kq [o1 5 33 3,o3 6 5,o5 7 .neq 6 1] (kd 7 (kq [kM 4 xF] .ret) .skip)) (.seq (kq [om 8 0] (.block 0 (.seq (kq [o5 10 .eql 8 5,om 9 10] (kd 9 .skip (fo [o5 11 .eql 8 6,om 9 11]))) (kd 9 (kq [o1 12 67 3,o3 13 12,o5 14 .eql 13 1,om 4 14] .ret) (kq [o5 16 .eql 8 4,om 15 16] (kd 15 (kq [o1 17 67 3,o3 18 17,o5 19 .eql 18 2,om 20 19,kF 21 20 false 67 3,kL 22 20 false 21,kG 23 20 false .eql (.t 22) (xi 3),kR 24 20 23,om 4 24] .ret) .skip)))))) (kq [kM 4 xT] .ret)))),[.tmp 4]⟩
theorem Xo:aN Tryz.prog [100003] 220=some BI.erase:=by kernel_rfl
def BU:CF:=⟨12, (kq [o7 2 0] (.seq (kq [om 3 0] (.block 0 (kq [o5 5 .eql 3 2,om 4 5] (kd 4 (kz 2 2) (kq [o5 7 .eql 3 3,om 6 7] (kd 6 (kz 2 3) (kq [o5 9 .eql 3 4,om 8 9] (kd 8 (kz 2 4) (kq [o5 11 .eql 3 6,om 10 11] (kd 10 (kz 2 6) .skip)))))))))) (kz 2 0))),[.tmp 2]⟩
theorem XA:aN Tryz.prog [] 223=some BU.erase:=by kernel_rfl
end Go.Proofs.Q
namespace Go.Proofs.Q
open Go Go.Bb Go.RowKit Go.Proofs.Lg
open Go.Ab (D RD)
theorem N9(k:Int)(a:au):aG Tryz.prog 220 [dI k,.agg (aI a)] (dB (fE k a)):=by
 unfold fE nw;refine aM (F:=BI) Xo (by simp[BI]) ?_;simp only[BI]
 repeat' first|refine ae (fun _=> ?_) fun _=> ?_|refine ay ab ab ?_|exact ax ab ab|fail
 all_goals simp_all
def lG(k:Int):Int:=if k=2 then 2 else if k=3 then 3 else if k=4 then 4 else if k=6 then 6 else 0
theorem Nb(k:Int):aG Tryz.prog 223 [dI k] (dI (lG k)):=by
 unfold lG;refine aM (F:=BU) XA (by simp[BU]) ?_;simp only[BU]
 repeat' first|refine ae (fun _=> ?_) fun _=> ?_|refine ay ab ab ?_|exact ax ab ab|fail
 all_goals simp_all
theorem ZB(a:au)(c:aC):aG Tryz.prog 219 [.agg (aI a),.ref (aV c)] (dB (fE c.kind a)):=by
 refine aM (F:=BO) Xu (by simp[BO]) ?_;simp only[BO]
 repeat' first|refine ae (fun _=> ?_) fun _=> ?_|refine ay @wj @N9 ?_|exact ax @wj @N9|fail
 all_goals first|rfl|simp_all
theorem ZC(a:au):aG Tryz.prog 221 [.agg (aI a)] (dB (lX a)):=by
 unfold lX;refine aM (F:=BP) Xv (by simp[BP]) ?_;simp only[BP]
 repeat' first|refine ae (fun _=> ?_) fun _=> ?_|refine ay ab ab ?_|exact ax ab ab|fail
 all_goals simp_all
theorem ZD(a:au)(x:af)(c:aC)(f:af):aG Tryz.prog 222 [.agg (aI a),.ref (aj x),.ref (aV c),.ref (aj f)] (dB (decide (x=c.file)||nT f a)):=by
 unfold nT;refine aM (F:=BQ) Xw (by simp[BQ]) ?_;simp only[BQ]
 repeat' first|refine ae (fun _=> ?_) fun _=> ?_|refine ay ab ab ?_|exact ax ab ab|fail
 all_goals simp_all
theorem ZE(a:au)(k:Int)(f:af):aG Tryz.prog 224 [.agg (aI a),.ref [.sc (.int .i64 k)],.ref (aj f)] (dB (decide (k=0)||(decide (a.kind=k)&&decide (a.file=f)))):=by
 refine aM (F:=BR) Xx (by simp[BR]) ?_;simp only[BR]
 repeat' first|refine ae (fun _=> ?_) fun _=> ?_|refine ay ab ab ?_|exact ax ab ab|fail
 all_goals simp_all
def mT(o:Nat)(s:List aa)(rows:List (af×FuncId×List AV)):Prop:= ∃v,s[o]?=some (.cells [v])∧((v= .nil 34∧rows=[])∨ ∃r,v= .vec r rows.length 34∧s[r]?=some (.vec 196 34 (rows.flatMap fun p=>cy p.1 (.clo p.2.1 [] p.2.2))))
theorem A5{s:List aa}{i:Nat}{o:aa}(h:s[i]?=some o)(l:List aa):(s++l)[i]?=some o:=by
 rw[fM (b9.1 h).1];exact h
theorem FE{s:List aa}{i:Nat}{o o':aa}(h:s[i]?=some o):(s.set i o')[i]?=some o':=by
 rw[fx (b9.1 h).1]
theorem mT.app{o:Nat}{s:List aa}{rows:List (af×FuncId×List AV)}(h:mT o s rows)(l:List aa):mT o (s++l) rows:=by
 obtain⟨v,a,b⟩:=h;exact⟨v,A5 a l,b.imp id fun⟨r,c,d⟩=>⟨r,c,A5 d l⟩⟩
set_option maxHeartbeats 1000000 in
theorem DL{o:Nat}{s:List aa}{rows:List (af×FuncId×List AV)}(h:mT o s rows)(B:rows.length≤1000000)(x:af)(f:FuncId)(cs:List AV):
  b7 Tryz.prog 218 [.d (.agg (aj x)),.clo f [] cs,.ptr o 0] s fun d A=>d= .tup []∧mT o A (if isZero x.p=true then rows else rows++[(x,f,cs)]):=by
 obtain⟨v,g,t⟩:=h;have z:=(b9.1 g).1;have n:=fun l=>A5 g l;by_cases i:isZero x.p=true
 ·rw[if_pos i];have b:x.p= .zero:=by simpa[isZero]using i
  refine b7.of (F:=pq) Gg (by simp[pq]) ?_;simp only[pq]
  repeat' first|refine ae (fun _=> ?_) fun _=> ?_|refine ay (ga @i (ga @b @wj)) ab ?_|exact ax (ga @i (ga @b @wj)) ab|fail
  all_goals first|exact⟨rfl,v,g,t⟩|exact⟨v,g,t⟩|trace_state
 ·rw[if_neg i];have m:isZero x.p=false:=by simpa using i
  have b:x.p≠ .zero:=by simpa[isZero]using i
  rcases t with⟨rfl,rfl⟩|⟨r,rfl,j⟩
  ·refine b7.of (F:=pq) Gg (by simp[pq]) ?_;simp only[pq]
   repeat' first|simp only[m,b,g,n,EC,E5,ey,yK,nn,pG,iq,Hb]|refine ae (fun _=> ?_) fun _=> ?_|refine ay @wj ab ?_|exact ax @wj ab|fail
   ·refine⟨_,FE (n _),.inr ⟨s.length+1,rfl,?_⟩⟩;rw[bC a8,iO a8,mR];simp
   ·rename_i h;exact h.elim
  ·have y:=Ea rows;have u:bw (rows.length+1) 48=true:=room_le a8 a8;have q:=fun l=>A5 j l;have k:r≠o:=fun e=>by rw[e,g]at j;cases j
   have w: ∀(l:List aa) (c:aa),((s++l).set r c)[o]?=some (.cells [.vec r rows.length 34]):=fun l c=>by rw[bC k];exact n l
   have a:(rows++[(x,f,cs)]).flatMap (fun p=>cy p.1 (.clo p.2.1 [] p.2.2))=(rows.flatMap fun p=>cy p.1 (.clo p.2.1 [] p.2.2))++cy x (.clo f [] cs):=by rw[List.flatMap_append];simp
   generalize(rows.flatMap fun p=>cy p.1 (.clo p.2.1 [] p.2.2))=cells at j q y a;refine b7.of (F:=pq) Gg (by simp[pq]) ?_;simp only[pq]
   repeat' first|simp only[m,b,g,n,j,q,w,y,u,EC,E5,ey,yK,nn,pG,iq,Hb]|refine ae (fun _=> ?_) fun _=> ?_|refine ay @wj ab ?_|exact ax @wj ab|fail
   ·refine⟨_,FE (w _ _),.inr ⟨r,by simp,?_⟩⟩;rw[bC (Ne.symm k),FE (q _),a]
   ·rename_i h;exact h.elim
end Go.Proofs.Q
namespace Go.Bb
open Go Go.Ab
theorem AC.cutA{P:Program}{N:Nat}{d:Option Nat}{a b:CC}{Q:Exit→Fr→List aa→Prop}{fr:Fr}{s:List aa}(keep:List Nat)(fr0:Fr)(p:List aa→Prop)
  (ha:AC P N d a (fO (fun fr' c=>iQ keep fr0 fr'∧p c) Q) fr s) (hb: ∀c,p c→AC P N d b Q (dY keep fr0) c):AC P N d (.seq a b) Q fr s:=by
 refine AC.seq (ha.mono fun e fr' c h=> ?_);cases e with
 |normal=>
  obtain⟨f,g⟩:=h;exact(hb _ g).frame f.sub
 |_=>exact h
end Go.Bb
namespace Go.Proofs.Q
open Go Go.Bb Go.RowKit Go.Proofs.Lg
open Go.Ab (D RD)
theorem AC.freeze0{P:Program}{N:Nat}{cc:CC}{Q:Exit→Fr→List aa→Prop}{fr fr':Fr}{s:List aa}{i:Nat}{ds:List D}(K:s[i]?=some (.cells (ds.map .d)))
  (E: ∀t x,Bb.look fr' t=some x→Bb.look fr t=some x∨(Bb.look fr t=some (.ptr i 0)∧x= .d (.ref ds))) (h:AC P N none cc Q fr' (s.set i .junk)):AC P N none cc Q fr s:=by
 obtain⟨e,z,s1,V,W⟩:=h;refine⟨e,z,s1,V,fun c hc B k a w r L M J f=> ?_⟩;obtain⟨b,t,us,hb,Y,p,O⟩:=f.cells K;have hm:Mono k w ⟨dG k.I b us.length,k.own⟩ w:=⟨fun q o u g C=>by
  refine⟨?_,C⟩;show o<dG k.I b us.length q;by_cases e:q=b
  ·subst e;rw[O]at g;omega
  ·rw[gW _ _ e];exact g,fun id o g=>⟨o,g,dJ.refl o⟩⟩
 have R:=(f.lies i _ b hb rfl).1;have Z:Ext B k w ⟨dG k.I b us.length,k.own⟩ w:=⟨hm,Below.refl _ _,fun q n=>gW _ _ a8,fun _ _ _=>rfl,fun id o q g l _=>⟨o,g,l⟩⟩
 have F:St (eu P) B ⟨dG k.I b us.length,k.own⟩ (s.set i .junk) w:=by
  refine⟨f.base,by simp[f.len],fun id x o m g=> ?_,f.lies,f.apart,f.glob⟩;by_cases e:id=i
  ·subst e;rw[fx (b9.1 K).1]at m;obtain rfl:=aJ m;cases o<;>trivial
  ·rw[bC (Ne.symm e)]at m;refine(f.obj id x o m g).same hm fun q l=>⟨rfl,gW _ _ ?_⟩
   intro H;rw[H]at l;exact f.apart id i o _ b e g hb l rfl
 have T:FR ⟨dG k.I b us.length,k.own⟩ w a fr':=fun t x G=>by
  rcases E t x G with h4|⟨h4,rfl⟩
  ·exact(J t x h4).mono hm
  ·obtain⟨q,n,X⟩:=(J t _ h4).ptr_inv;rw[hb]at n;cases n;rw[X];have v:=p.mono hm;refine .d (.ref b 0 us ds (by simpa using p.1) p.2.1 (fun j u y=>⟨?_,?_⟩) fun j u d y S=> ?_)
   ·show 0+j<dG k.I b us.length b;rw[fI];have:=(b9.1 y).1;omega
   ·rw[aw];simp[World.cell?,Y,y]
   ·exact(v.2.2 j u (.d d) y (by rw[dL,S];rfl)).d_inv
 have A:si ⟨dG k.I b us.length,k.own⟩ none r:=by cases r<;>exact L
 exact wpIn_mono (W c hc B _ a w r A M T F) fun H a2 w2 U=>U.trans (Marks.refl _ _ _ _) Z
theorem AC.freeze1{P:Program}{N:Nat}{cc:CC}{Q:Exit→Fr→List aa→Prop}{fr:Fr}{s:List aa}{i:Nat}(ds:List D)(n:Nat)(rest:Fr)(c:s[i]?=some (.cells (ds.map .d)))(f:Bb.look fr n=some (.ptr i 0))(b:lU rest fr)(h:AC P N none cc Q ((n,.d (.ref ds))::rest) (s.set i .junk)):AC P N none cc Q fr s:=
 AC.freeze0 (fr':=(n,.d (.ref ds))::rest) c (fun t x a=>by
  unfold Bb.look at a;split at a
  ·rename_i e;subst e;cases a;exact .inr ⟨f,rfl⟩
  ·exact .inl (b.sub t x a)) h
abbrev Rw:=af×FuncId×List AV
def jr(rows:List Rw)(r:Rw):List Rw:=if isZero r.1.p=true then rows else rows++[r]
theorem uz(rows:List Rw)(r:Rw):(jr rows r).length≤rows.length+1:=by unfold jr;split<;>simp
def mc(c:aC)(id:Dg):af:=if isZero c.file.p=true then{c.file with p:=id}else c.file
def lz(c:aC):List Rw:=if c.kind≠1∧c.kind≠7 then jr [] (c.file,219,[.d (.ref (aV c))])else[]
def pI(c:aC)(r:List Rw):List Rw:=if c.kind=2 then jr r (c.parent,221,[])else r
def pJ(c:aC)(id:Dg)(x:af):Rw:=(x,222,[.d (.ref (aj x)),.d (.ref (aV c)),.d (.ref (aj (mc c id)))])
def my(c:aC)(id:Dg)(r:List Rw):List Rw:=if c.kind=5∨c.kind=6 then jr (jr r (pJ c id c.after)) (pJ c id c.before)else r
def Ed(c:aC)(id:Dg)(x:af):Rw:=(x,224,[.d (.ref [.sc (.int .i64 (lG c.kind))]),.d (.ref (aj (mc c id)))])
def qt(c:aC)(id:Dg):List af→List Rw→List Rw
 |[],r=>r
 |x::l,r=>qt c id l (jr r (Ed c id x))
def oz(c:aC)(id:Dg):List Rw:=qt c id c.over (my c id (pI c (lz c)))
def Qz(d:AV)(s:List aa)(rows:List Rw):Prop:=(d= .nil 34∧rows=[])∨ ∃r,d= .vec r rows.length 34∧s[r]?=some (.vec 196 34 (rows.flatMap fun p=>cy p.1 (.clo p.2.1 [] p.2.2)))
set_option maxHeartbeats 4000000 in
theorem ZA(id:Dg)(c:aC)(X:c.over.length≤100000):b7 Tryz.prog 166 [.d (.agg (aP id)),.d (.agg (aV c))] [] fun d u=>Qz d u (oz c id):=by
 refine b7.ofA (F:=BN) Xt (by simp[BN]) ?_;simp only[BN];refine AC.cutJ [2,3] [(2,.d (.ref (aP id))),(3,.d (.ref (aV c)))] (fun s=>s=[]) ?_ fun s e=> ?_
 ·repeat' first|refine ae (fun _=> ?_) fun _=> ?_|refine ay @wj ab ?_|exact ax @wj ab|fail
 subst e;refine AC.cutJ [2,3,5] [(2,.d (.ref (aP id))),(3,.d (.ref (aV c))),(5,.ptr 0 0)] (fun s=>s=[.cells ((aj c.file).map .d)]) ?_ fun s e=> ?_
 ·repeat' first|refine ae (fun _=> ?_) fun _=> ?_|refine ay (ga @az (ga @da @wj)) ab ?_|exact ax (ga @az (ga @da @wj)) ab|fail
 subst e;refine AC.cutJ [3,5] [(3,.d (.ref (aV c))),(5,.ptr 0 0)] (fun s=>s=[.cells ((aj (mc c id)).map .d)]) ?_ fun s e=> ?_
 ·unfold mc isZero
  repeat' first|refine ae (fun _=> ?_) fun _=> ?_|refine ay (ga @az (ga @da (ga @ba @wj))) ab ?_|exact ax (ga @az (ga @da (ga @ba @wj))) ab|fail
  all_goals simp_all
 subst e;refine AC.freeze1 (i:=0) (aj (mc c id)) 5 [(3,.d (.ref (aV c)))] rfl rfl ⟨rfl,trivial⟩ ?_;obtain⟨F,I⟩: ∃F,F=mc c id:=⟨_,rfl⟩
 rw[←I];refine AC.cutJ [3,5,6] [(3,.d (.ref (aV c))),(5,.d (.ref (aj F))),(6,.ptr 1 0)] (fun s=>s=[.junk,.cells [.nil 34]]) ?_ fun s e=> ?_
 ·repeat' first|refine ae (fun _=> ?_) fun _=> ?_|refine ay @wj ab ?_|exact ax @wj ab|fail
 subst e;refine AC.cutJ [3,5,6,7] [(3,.d (.ref (aV c))),(5,.d (.ref (aj F))),(6,.ptr 1 0),(7,.clo 218 [] [.ptr 1 0])] (fun s=>s=[.junk,.cells [.nil 34]]) ?_ fun s e=> ?_
 ·repeat' first|refine ae (fun _=> ?_) fun _=> ?_|refine ay @wj ab ?_|exact ax @wj ab|fail
 subst e;have H:mT 1 [.junk,.cells [.nil 34]] []:=⟨_,rfl,.inl ⟨rfl,rfl⟩⟩
 generalize[aa.junk,aa.cells [.nil 34]]=s0 at H⊢;refine AC.cutJ [3,5,6,7] [(3,.d (.ref (aV c))),(5,.d (.ref (aj F))),(6,.ptr 1 0),(7,.clo 218 [] [.ptr 1 0])] (fun s=>mT 1 s (lz c)) ?_ fun s e=> ?_
 ·have a2:=DL H (by simp) c.file 219 [.d (.ref (aV c))];unfold lz
  repeat' first|refine ae (fun _=> ?_) fun _=> ?_|(refine aq.fn (a2.mono ?_);rintro _ u ⟨rfl,w⟩)|refine ay @wj ab ?_|exact ax @wj ab|fail
  all_goals(clear a2;unfold jr;simp_all)
 have U:(lz c).length≤1:=by unfold lz;split;exact uz _ _;simp
 clear H;refine AC.cutJ [3,5,6,7] [(3,.d (.ref (aV c))),(5,.d (.ref (aj F))),(6,.ptr 1 0),(7,.clo 218 [] [.ptr 1 0])] (fun s=>mT 1 s (pI c (lz c))) ?_ fun W m=> ?_
 ·have a3:=DL e a8 c.parent 221 [];unfold pI
  repeat' first|refine ae (fun _=> ?_) fun _=> ?_|(refine aq.fn (a3.mono ?_);rintro _ u ⟨rfl,w⟩)|refine ay @wj ab ?_|exact ax @wj ab|fail
  all_goals(clear a3;unfold jr;simp_all)
 have J:(pI c (lz c)).length≤2:=by unfold pI;split;have:=uz (lz c) (c.parent,221,[]);omega;omega
 clear e;have y:oz c id=qt c id c.over (my c id (pI c (lz c))):=rfl;rw[y];clear y;generalize pI c (lz c)=j at m J⊢;have O: ∀x,pJ c id x=(x,222,[.d (.ref (aj x)),.d (.ref (aV c)),.d (.ref (aj F))]):=fun x=>by unfold pJ;rw[I]
 refine AC.cutA [3,5,6,7] [(3,.d (.ref (aV c))),(5,.d (.ref (aj F))),(6,.ptr 1 0),(7,.clo 218 [] [.ptr 1 0])] (fun s=>mT 1 s (my c id j)) ?_ fun s2 t=> ?_
 ·by_cases hk:c.kind=5∨c.kind=6
  ·obtain⟨L,E⟩: ∃L,L=[c.after,c.before]:=⟨_,rfl⟩
   have G:my c id j=L.foldl (fun l x=>jr l (pJ c id x)) j:=by unfold my;rw[if_pos hk,E];rfl
   have n:L.length=2:=by rw[E];rfl
   have p:[aj c.after,aj c.before]=L.map aj:=by rw[E];rfl
   refine AC.cutA [49,3,5,6,7] [(49,.d (dB true)),(3,.d (.ref (aV c))),(5,.d (.ref (aj F))),(6,.ptr 1 0),(7,.clo 218 [] [.ptr 1 0])] (fun s=>s=W) (bD ?_) fun s e=> ?_
   ·rcases hk with hk|hk
    ·repeat' first|refine ae (fun _=> ?_) fun _=> ?_|refine ay (ga @hk @wj) ab ?_|exact ax (ga @hk @wj) ab|fail
    ·repeat' first|refine ae (fun _=> ?_) fun _=> ?_|refine ay (ga @hk @wj) ab ?_|exact ax (ga @hk @wj) ab|fail
   subst e;refine AC.cond (v:=true) rfl ?_;rw[if_pos rfl];refine AC.seq (bD ?_)
   repeat' first|refine ae (fun _=> ?_) fun _=> ?_|refine ay (ga @az @wj) ab ?_|exact ax (ga @az @wj) ab|fail
   rw[p];clear E p hk;refine AC.block ?_;refine AC.overI L (fun k (b:List Rw×List aa)=>[(56,iN k)]) (fun _ b=>b.2) (fun r b=>r.foldl (fun l x=>jr l (pJ c id x)) b.1) (my c id j) (fun k b=>mT 1 b.2 b.1∧b.1.length≤2+k) (j,s) a8 aB aB rfl G ⟨m,by omega⟩ (fun k b x hg R g C f a=> ?_) (fun b g f a=> ?_)
   ·obtain⟨l,s⟩:=b;obtain⟨a,q⟩:=a;dsimp only at f a q;rw[n]at g;have g:decide ((k:Int)<2)=true:=g;rw[gD,O]at f;refine AC.seq (bD ?_)
    repeat' first|refine ae (fun _=> ?_) fun _=> ?_|refine ay (ga @g @wj) ab ?_|exact ax (ga @g @wj) ab|fail
    refine AC.seq (bD ?_)
    repeat' first|refine ae (fun _=> ?_) fun _=> ?_|refine ay (ga @g @wj) ab ?_|exact ax (ga @g @wj) ab|fail
    refine AC.seq (AC.block ?_);refine AC.seq (bD ?_)
    repeat' first|refine ae (fun _=> ?_) fun _=> ?_|refine ay (ga @hg (ga @az (ga @da @wj))) ab ?_|exact ax (ga @hg (ga @az (ga @da @wj))) ab|fail
    refine AC.freeze1 (i:=s.length) (aj x) 9 [(56,iN k),(3,.d (.ref (aV c))),(5,.d (.ref (aj F))),(7,.clo 218 [] [.ptr 1 0]),(54,.d (.sl 33 (L.map aj))),(6,.ptr 1 0),(55,.d (dI 2))] (by simp) rfl ⟨rfl,rfl,rfl,rfl,rfl,rfl,rfl,trivial⟩ (bD ?_);rw[show(s++[aa.cells ((aj x).map .d)]).set s.length .junk=s++[.junk] by simp]
    have a4:=DL (a.app [.junk]) (show l.length≤1000000 by omega) x 222 [.d (.ref (aj x)),.d (.ref (aV c)),.d (.ref (aj F))];have S:=uz l (x,222,[.d (.ref (aj x)),.d (.ref (aV c)),.d (.ref (aj F))])
    repeat' first|refine ae (fun _=> ?_) fun _=> ?_|(refine aq.fn (a4.mono ?_);rintro _ u ⟨rfl,w⟩)|refine ay @wj ab ?_|exact ax @wj ab|fail
    refine bD ?_
    repeat' first|refine ae (fun _=> ?_) fun _=> ?_|refine ay (ga @C @wj) ab ?_|exact ax (ga @C @wj) ab|fail
    exact⟨(jr l (x,222,[.d (.ref (aj x)),.d (.ref (aV c)),.d (.ref (aj F))]),u),rfl,f,w,by dsimp only;omega⟩
   ·obtain⟨l,s⟩:=b;obtain⟨a,q⟩:=a;dsimp only at f a q;rw[uf]at f;have z:decide ((L.length:Int)<2)=false:=by rw[n];rfl
    refine bD ?_
    repeat' first|refine ae (fun _=> ?_) fun _=> ?_|refine ay (ga @z @wj) ab ?_|exact ax (ga @z @wj) ab|fail
    all_goals(rw[f];exact a)
  ·have M:(c.kind==5)=false:=by simpa using fun h=>hk (.inl h)
   have N:(c.kind==6)=false:=by simpa using fun h=>hk (.inr h)
   have G:my c id j=j:=by unfold my;rw[if_neg hk]
   refine bD ?_
   repeat' first|refine ae (fun _=> ?_) fun _=> ?_|refine ay (ga @M (ga @N @wj)) ab ?_|exact ax (ga @M (ga @N @wj)) ab|fail
   all_goals(rw[G];exact m)
 have A:(my c id j).length≤4:=by
  unfold my;split
  ·have:=uz j (pJ c id c.after);have:=uz (jr j (pJ c id c.after)) (pJ c id c.before);omega
  ·omega
 clear m O;generalize my c id j=L2 at t A⊢;refine AC.cutA [3,5,6,7,10] [(3,.d (.ref (aV c))),(5,.d (.ref (aj F))),(6,.ptr 1 0),(7,.clo 218 [] [.ptr 1 0]),(10,.ptr s2.length 0)] (fun s=>s=s2++[.cells [.d (dI (lG c.kind))]]) (bD ?_) fun s e=> ?_
 ·repeat' first|refine ae (fun _=> ?_) fun _=> ?_|refine ay @wj @Nb ?_|exact ax @wj @Nb|fail
 subst e;refine AC.freeze1 (i:=s2.length) [.sc (.int .i64 (lG c.kind))] 10 [(3,.d (.ref (aV c))),(5,.d (.ref (aj F))),(6,.ptr 1 0),(7,.clo 218 [] [.ptr 1 0])] (by simp) rfl ⟨rfl,rfl,rfl,rfl,trivial⟩ ?_;rw[show(s2++[aa.cells [.d (dI (lG c.kind))]]).set s2.length .junk=s2++[.junk] by simp];have B:=t.app [.junk];generalize s2++[aa.junk]=s3 at B⊢;clear t
 have Q: ∀x,Ed c id x=(x,224,[.d (.ref [.sc (.int .i64 (lG c.kind))]),.d (.ref (aj F))]):=fun x=>by unfold Ed;rw[I]
 refine AC.cutJ [6] [(6,.ptr 1 0)] (fun s=>mT 1 s (qt c id c.over L2)) ?_ fun Y K=> ?_
 ·repeat' first|refine ae (fun _=> ?_) fun _=> ?_|refine ay @wj ab ?_|exact ax @wj ab|fail
  refine aZ.overI c.over (fun k (b:List Rw×List aa)=>[(71,iN k)]) (fun _ b=>b.2) (fun r b=>qt c id r b.1) (qt c id c.over L2) (fun k b=>mT 1 b.2 b.1∧b.1.length≤4+k) (L2,s3) a8 aB aB rfl rfl ⟨B,by simpa using A⟩ (fun k b x hg hk g C f a=> ?_) (fun b g f a=> ?_)
  ·obtain⟨l,s⟩:=b;obtain⟨a,q⟩:=a;dsimp only at f a q;rw[qt,Q]at f;have a5:=fun o=>DL (a.app [o]) (show l.length≤1000000 by omega) x 224 [.d (.ref [.sc (.int .i64 (lG c.kind))]),.d (.ref (aj F))];have T:=uz l (x,224,[.d (.ref [.sc (.int .i64 (lG c.kind))]),.d (.ref (aj F))])
   repeat' first|refine ae (fun _=> ?_) fun _=> ?_|(refine aq.fn ((a5 _).mono ?_);rintro _ u ⟨rfl,w⟩)|refine ay (ga @g (ga @C (ga @hg (ga @az (ga @da @wj))))) ab ?_|exact ax (ga @g (ga @C (ga @hg (ga @az (ga @da @wj))))) ab|fail
   exact⟨(jr l (x,224,[.d (.ref [.sc (.int .i64 (lG c.kind))]),.d (.ref (aj F))]),u),rfl,f,w,by dsimp only;omega⟩
  ·obtain⟨l,s⟩:=b;obtain⟨a,q⟩:=a;dsimp only at f a q;rw[qt]at f;rw[f]
   repeat' first|refine ae (fun _=> ?_) fun _=> ?_|refine ay (ga @g @wj) ab ?_|exact ax (ga @g @wj) ab|fail
   all_goals exact a
 ·obtain⟨v,D,P⟩:=K;refine bD ?_;rcases P with⟨rfl,V⟩|⟨r,rfl,hr⟩
  ·repeat' first|refine ae (fun _=> ?_) fun _=> ?_|refine ay (ga @D @wj) ab ?_|exact ax (ga @D @wj) ab|fail
   exact .inl ⟨rfl,V⟩
  ·repeat' first|refine ae (fun _=> ?_) fun _=> ?_|refine ay (ga @D @wj) ab ?_|exact ax (ga @D @wj) ab|fail
   exact .inr ⟨r,rfl,hr⟩
end Go.Proofs.Q
namespace Go.Proofs.Q
open Go Go.Bb Go.RowKit Go.Proofs.Lg
open Go.Ab (D RD)
def fg(L:aD):List AV:=((L.map b5).flatten).map .d
theorem wK(L:aD):(fg L).length=L.length*37:=by
 unfold fg;rw[aQ,Go.Ab.flatten_len (sz:=37) _ fun r a=>by obtain⟨x,_,rfl⟩:=bR.1 a;exact fH x,aQ]
theorem zt(A B:aD):fg (A++B)=fg A++fg B:=by simp only[fg,fp,s8]
theorem IX(d:bT):fg [d]=(b5 d).map .d:=by simp[fg]
theorem RB(L:aD)(n:Nat)(h:n≤L.length):(fg L).take (n*37)=fg (L.take n):=by
 conv=>lhs;rw[←ji n L,zt]
 rw[gj (by rw[wK,ck];omega),dq (by rw[wK,ck];omega)]
theorem Rz(L:aD)(n:Nat)(h:n≤L.length):(fg L).drop (n*37)=fg (L.drop n):=by
 conv=>lhs;rw[←ji n L,zt]
 rw[gB,gC (by rw[wK,ck];omega),bm,wK,ck,qG h,jl,jY]
set_option maxHeartbeats 400000 in
set_option maxRecDepth 100000 in
theorem PV(a:Addr)(c:Nat)(w:World):Calls Tryz.prog 112 #[.slice (some a) 0 c] w fun e w'=> ∃i,e= .returned i∧(∃k,i= .slice k 0 0)∧Below w.heap.size w w':=by
 have q: ∀(w:World) (a:Option Addr) (n c g f:Nat),(binOp .eql 23 (.slice a n c) (.slice none g f)).run Tryz.prog w= .ok (.bool a.isNone) w:=fun w a n c g f=>Go.Lib.run_eql_slice_nil w _ _ a n c g f Tryz.underlying23;obtain⟨j,l⟩: ∃j,Tryz.prog.info? 54=some j:=wq.1 (show(Tryz.prog.info? 54).isSome=true by kernel_rfl)
 have d: ∀(h:TypeId) (b:Addr) (W:World),(Builtin.append_ #[23,23] h #[.slice (some b) 0 0,.slice (some a) 0 c]).run Tryz.prog W= .ok (.slice (some b) 0 0) W:=fun h b W=>by
  simp[Builtin.append_,run_underlying Tryz.underlying23,sizeOf,typeInfo,l,Builtin.lenOf,Builtin.firstCells,loadCells,loadCellsFrom,storeCells]
 go_enter Tryz.func112,Tryz.ntmps112
 go_wp2_with (at_builtin;refine Go.Lib.wpList_append_run _ rfl _ _ _ _ rfl _ _ rfl rfl _ _ (d _ _ _) ?_)
 go_ret
 exact⟨_,rfl,⟨_,rfl⟩,(Below.refl _ _).alloc (bk _) _⟩
set_option maxHeartbeats 400000 in
set_option maxRecDepth 100000 in
theorem PU(m c:Nat)(w:World):Calls Tryz.prog 112 #[.slice none m c] w fun e w'=>e= .returned (.slice none 0 0)∧w'=w:=by
 have q: ∀(w:World) (a:Option Addr) (n c d b:Nat),(binOp .eql 23 (.slice a n c) (.slice none d b)).run Tryz.prog w= .ok (.bool a.isNone) w:=fun w a n c d b=>Go.Lib.run_eql_slice_nil w _ _ a n c d b Tryz.underlying23
 go_enter Tryz.func112,Tryz.ntmps112
 go_wp2
 go_ret
 exact⟨rfl,rfl⟩
theorem RM(n:Nat)(s:List aa):b7 Tryz.prog 112 [.d (.sl n [])] s fun d h=>d= .emp n∧h=s:=by
 refine⟨.emp n,s,⟨enters_fn' Tryz.func112 rfl (by rfl),fun B k w vs b f=> ?_⟩,rfl,rfl⟩
 match vs,f with
 |[v],f=>
  have g:=(f.2 0 v _ rfl rfl).d_inv;obtain⟨a,c,us,rfl,_⟩:=g.sl_inv;cases a with
  |none=>
   refine(PU 0 c w).mono ?_;rintro e w' ⟨rfl,rfl⟩;exact⟨_,k,rfl,.emp,Ext.refl B k _,b⟩
  |some a=>
   refine(PV a c w).mono ?_;rintro e w' ⟨j,rfl,⟨i,rfl⟩,hb⟩;exact⟨_,⟨fY k.I w.heap.size w',k.own⟩,rfl,.emp,Ext.called b.base hb,b.called hb⟩
theorem RN(x:bT)(l:aD)(f:l.length≤1000000)(s:List aa):b7 Tryz.prog 112 [.d (.sl 37 ((x::l).map b5))] s fun d e=>d= .vec s.length (l.length+1) 37∧e=s++[.vec 54 37 (fg (x::l))]:=by
 have b:bw (l.length+1) 120=true:=room_le a8 a8;have a:((b5 x++(l.map b5).flatten)).length=(l.length+1)*37:=by
  have h:=Go.Ab.flatten_len (sz:=37) ((x::l).map b5) fun r c=>by obtain⟨y,_,rfl⟩:=bR.1 c;exact fH y
  simpa using h
 rw[bV];unfold fg;refine b7.of (F:=An) W8 (by simp[An]) ?_;simp only[An]
 repeat' first|refine ae (fun _=> ?_) fun _=> ?_|refine aL ?_|simp only[b,a,aQ,fL,wj,wy,qg,aH,simprocAttr,aA,aF,aE,aw]
 all_goals first|rfl|exact⟨rfl,rfl⟩|trace_state
end Go.Proofs.Q
namespace Go.Proofs.Q
open Go Go.Bb Go.Proofs.Lg
open Go.Ab (D)
def mX(l:List aC):List AV:=((l.map aV).flatten).map .d
def PI:List AV:=mX [.zero,.zero]
theorem Rs(l:List aC):(mX l).length=l.length*139:=by
 unfold mX;rw[aQ,Go.Ab.flatten_len (sz:=139) _ fun r a=>by obtain⟨x,_,rfl⟩:=bR.1 a;exact de x,aQ]
end Go.Proofs.Q
namespace Go.Proofs.Q
open Go Go.Bb Go.RowKit Go.Proofs.Lg
open Go.Ab (D RD)
theorem Nd(A B:List aC)(x y:aC)(o:Nat)(a:o=A.length*139):b8 (mX (A++x::B)) o 139 ((aV y).map .d)=some (mX (A++y::B)):=by
 unfold mX;refine cj (A:=(A.map aV).flatten) (B:=aV x) (C:=(B.map aV).flatten) (by simp) ?_ (de x) (de y) (by simp);rw[a,Go.Ab.flatten_len (sz:=139) _ fun r b=>by obtain⟨x,_,rfl⟩:=bR.1 b;exact de x,aQ]
theorem Rl(l:List aC)(b:l.length≤1000):nk 139 l.length (mX l)=some (.d (.sl 139 (l.map aV))):=by
 unfold nk;rw[if_pos ⟨Rs l,by omega⟩];unfold mX;rw[HE,eZ];have:=uI 139 (l.map aV) fun r a=>by obtain⟨x,_,rfl⟩:=bR.1 a;exact de x
 rw[aQ]at this;rw[this]
end Go.Proofs.Q
namespace Go.Proofs.Q
open Go Go.Ab Go.Bb
def CP:CF:=⟨5, (kq [kM 2 xF] (kq [om 3 0,o6 4 85 [.t 3,(xi 8)],om 2 4] .ret)),[.tmp 2]⟩
theorem Yj:aN Tryz.prog [] 43=some CP.erase:=by kernel_rfl
def CS:CF:=⟨70, (kq [kM 4 xF] (kq [o7 5 0] (.seq (kq [o7 6 0] (.block 0 (.loop (.trim [6,0,5,1] (.seq (kq [om 8 6,om 9 0,o9 10 0 9,o4 11 .lss 8 10,om 12 11,oh 13 12 true 6,oh 14 12 true 1,kG 15 12 true .leq (.t 13) (.t 14),kP 16 12 15] (kd 16 .skip (.exit 0))) (.seq (.block 1 (.seq (kq [om 19 0,om 20 6,oi 21 37 19 20,o1 22 32 21,o2 23 5 22,o6 24 31 [.t 23]] (kd 24 (kq [kM 4 xT] .ret) .skip)) (kq [o7 7 0] (.block 2 (.loop (.trim [7,6,0,5,1] (.seq (kq [om 25 7,om 26 0,om 27 6,oi 28 37 26 27,o1 29 32 28,o1 30 4 29,o3 31 30,o9 32 0 31,o4 33 .lss 25 32] (kd 33 .skip (.exit 2))) (.seq (.block 3 (.ops true [0,1,0,0,12,28,60,124,0,508,1020,2044,4092,8191,0,0,49152,114688,245760,507904,0,2080768,4177920,8372224,16760832,33554431,67108863] [om 36 5,o5 37 .add 36 1,om 38 0,om 39 6,oi 40 37 38 39,o1 41 32 40,o1 42 4 41,o3 43 42,om 44 7,oi 45 139 43 44,o1 46 137 45,o3 47 46,o9 48 0 47,o4 49 .add 37 48,om 50 0,om 51 6,oi 52 37 50 51,o1 53 32 52,o1 54 4 53,o3 55 54,om 56 7,oi 57 139 55 56,o1 58 138 57,o3 59 58,o9 60 0 59,o4 61 .add 49 60,om 5 61])) (fo [om 34 7,o5 35 .add 34 1,om 7 35]))))))))) (fo [om 17 6,o5 18 .add 17 1,om 6 18]))))))) (kq [om 62 0,o9 63 0 62,om 64 1,o4 65 .gtr 63 64,om 66 65,oh 67 66 false 5,kG 68 66 false .gtr (.t 67) (xi 300),kR 69 66 68,om 4 69] .ret)))),[.tmp 4]⟩
theorem MG:aN Tryz.prog [] 85=some CS.erase:=by kernel_rfl
def tw:CF:=⟨11, (kq [kM 2 xF] (kq [om 3 0,o6 4 43 [.t 3],o0 5 (.not (.t 4)),om 6 5,oh 7 6 true 0,og 8 6 true (.call (.fn 29) [.t 7]),kG 9 6 true .eql (.t 8) (xi 0),kP 10 6 9,om 2 10] .ret)),[.tmp 2]⟩
theorem MC:aN Tryz.prog [] 11=some tw.erase:=by kernel_rfl
end Go.Proofs.Q
namespace Go.Proofs.Q
open Go Go.Bb Go.RowKit Go.Proofs.Lg
open Go.Ab (D RD)
theorem bT.eq_iff(a b:bT):a=b↔a.id=b.id∧a.pat=b.pat:=by
 cases a;cases b;simp only[bT.mk.injEq]
set_option maxHeartbeats 2000000 in
theorem a0n(s:aD)(a:Nat)(hm:a≤1000)(w: ∀x∈s,x.pat.changes.length≤9223372036854775807):aG Tryz.prog 85 [.sl 37 (s.map b5),dI a] (dB (uZ s a)):=by
 refine aG.big (enters_of MG) 0 rfl fun v=> ?_;rw[aQ]at v;refine aM (F:=CS) MG (by simp[CS]) ?_;simp only[CS];refine aO ab ab ?_
 refine aZ.overI s (fun k (n:Int)=>[(6,iN k),(5,.d (.sc (.int .i64 n)))]) (fun _ _=>[]) (fun r n=>rb a r (s.length-r.length) n) (rb a s 0 0) (fun _ _=>True) 0 v aB aB rfl (by simp) trivial (fun k n x hg hk g z b _=> ?_) (fun n g b _=> ?_)
 ·have u:s.length-(x::s.drop (k+1)).length=k:=by simp only[aY,aA];omega
  have o:s.length-(s.drop (k+1)).length=k+1:=by simp only[aA];omega
  have m:=DR x.pat (w x (bX hg));have t:=w x (bX hg);rw[u,rb]at b;by_cases l:k≤a
  ·have i:decide ((k:Int)≤(a:Int))=true:=by simp;omega
   rw[if_pos l]at b
   repeat' first|refine ae (fun _=> ?_) fun _=> ?_|refine ay (ga @g (ga @hg @i)) @m ?_|exact ax (ga @g (ga @hg @i)) @m|fail
   ·rename_i h;rw[if_pos h]at b;simp[uZ,b]
   ·rename_i h;rw[if_neg (by simp[h])]at b;clear m h u o i;refine aZ.over x.pat.changes (fun j (n:Int)=>[(7,iN j),(5,.d (.sc (.int .i64 n)))]) (fun _ _=>[]) (fun r n=>uY r n) (uY x.pat.changes n) n t aB aB rfl rfl (fun j n c p A f q e=> ?_) (fun n f e=> ?_)
    ·rw[uY]at e;clear b;refine aO (ga @f (ga @q (ga @p @hg))) ab ?_;exact e
    ·rw[uY]at e;rw[e]at b;refine aO (ga @f (ga @z @hg)) ab ?_;have o:s.length-(s.length-(k+1))=k+1:=by omega
     rw[o];exact b
  ·have i:decide ((k:Int)≤(a:Int))=false:=by simp;omega
   have y:decide ((s.length:Int)>(a:Int))=true:=by simp;omega
   rw[if_neg l]at b;refine aO (ga @g (ga @hg (ga @i @y))) ab ?_
   all_goals(simp only[uZ,b];simp;omega)
 ·rw[rb]at b
  repeat' first|refine ae (fun _=> ?_) fun _=> ?_|refine ay @g ab ?_|exact ax @g ab|fail
  all_goals(simp only[uZ,b];simp_all;try omega)
theorem a0m(s:aD)(b: ∀x∈s,x.pat.changes.length≤9223372036854775807):aG Tryz.prog 43 [.sl 37 (s.map b5)] (dB (pg s)):=by
 have a:=a0n s 8 (by decide) b;refine aM (F:=CP) Yj (by simp[CP]) ?_;simp only[CP]
 repeat' first|refine ae (fun _=> ?_) fun _=> ?_|refine ay ab @a ?_|exact ax ab @a|fail
 all_goals(rename_i h;rw[pg,h])
theorem a0l(s:aD)(f: ∀x∈s,x.pat.changes.length≤9223372036854775807)(h:pg s=false→gE s∧ ∀x∈s,ub x.pat.changes):aG Tryz.prog 11 [.sl 37 (s.map b5)] (dB (ia ar s)):=by
 have a:=a0m s f;unfold ia;by_cases hg:pg s=true
 ·rw[hg]at a⊢;refine aM (F:=tw) MC (by simp[tw]) ?_;simp only[tw];exact bU ab @a
  all_goals rfl
 ·have b:pg s=false:=by simpa using hg
  obtain⟨d,e⟩:=h b;have c:=a0k s d e;rw[b]at a⊢;refine aM (F:=tw) MC (by simp[tw]) ?_;simp only[tw]
  repeat' first|refine ae (fun _=> ?_) fun _=> ?_|refine ay ab (ga @a @c) ?_|exact ax ab (ga @a @c)|fail
  all_goals(simp_all)
end Go.Proofs.Q
