/- Lemmas. -/
import Derived.Test.YtellfinifjmloaaGreatDoorPAX
import Derived.Test.YtellfinifjmloaaGreatDoorPAU
import Derived.Lib.SliceRun
set_option linter.unusedVariables false
set_option linter.unusedSimpArgs false
namespace Go.Bb
open Go Go.RowKit Go.Ab Go.Proofs.Lg
theorem AC.freezeV{P:Program}{N:Nat}{cc:CC}{Q:Exit→Fr→List aa→Prop}{fr fr':Fr}{s:List aa}{i e sz n:Nat}{rows:List (List D)}(Z:s[i]?=some (.vec e sz (rows.flatten.map .d)))(T:0<sz)(Y:rows.length=n)(a3:0<n)(G: ∀r∈rows,r.length=sz)
  (R: ∀t x,Bb.look fr' t=some x→Bb.look fr t=some x∨(Bb.look fr t=some (.vec i n sz)∧x= .d (.sl sz rows))) (h:AC P N none cc Q fr' (s.set i .junk)):AC P N none cc Q fr s:=by
 obtain⟨e',H,s1,hq,hr⟩:=h;refine⟨e',H,s1,hq,fun c hc B k a w r h0 h1 W m=> ?_⟩;obtain⟨v,n2,xs,hb,b,hI,X,z⟩:=m.vec Z;have O:rows.flatten.length=n*sz:=by rw[Go.Ab.flatten_len rows G,Y]
 rw[aQ,O]at X;obtain rfl:n=n2:=kX T X;rcases b.2 with⟨_,hz⟩|⟨g,cap,cur,hv,hbg,hg,hnc,hcm,hcs,htake⟩
 ·omega
 have K:k.I g=0:=hI g (by rw[hv];rfl);have hm:Mono k w ⟨dG k.I g (n*sz),k.own⟩ w:=⟨fun C o u f L=>by
  refine⟨?_,L⟩;show o<dG k.I g (n*sz) C;by_cases e:C=g
  ·subst e;rw[K]at f;omega
  ·rw[gW _ _ e];exact f,fun id o f=>⟨o,f,dJ.refl o⟩⟩
 have y:(Own.row v n).block=some g:=by rw[hv];rfl
 have hx:Ext B k w ⟨dG k.I g (n*sz),k.own⟩ w:=⟨hm,Below.refl _ _,fun C a0=>gW _ _ a8,fun _ _ _=>rfl,fun id o C f y _=>⟨o,f,y⟩⟩
 have S:St (eu P) B ⟨dG k.I g (n*sz),k.own⟩ (s.set i .junk) w:=by
  refine⟨m.base,by simp[m.len],fun id x o l f=> ?_,m.lies,m.apart,m.glob⟩;by_cases e:id=i
  ·subst e;rw[fx (b9.1 Z).1]at l;obtain rfl:=aJ l;cases o<;>trivial
  ·rw[bC (Ne.symm e)]at l;refine(m.obj id x o l f).same hm fun C p=>⟨rfl,gW _ _ ?_⟩
   intro V;rw[V]at p;exact m.apart id i o _ g e f hb p y
 have q: ∀(j:Nat) (u:Value),xs[j]?=some u→w.cell? ⟨g,j,none⟩=some u:=fun j u A=>by
  have:=b.cells (g:=g) (by rw[hv];rfl) j u A;rw[fi]at this;simpa using this
 have a4:xs.length=n*sz:=b.1;have hf:FR ⟨dG k.I g (n*sz),k.own⟩ w a fr':=fun t x U=>by
  rcases R t x U with h4|⟨h4,rfl⟩
  ·exact(W t x h4).mono hm
  ·obtain⟨_,u,n',E,a1,M⟩:=(W t _ h4).vec_inv;rw[hb]at E;cases E;rw[M rfl,hv];have F:=z.mono hm;refine .d (RD.sl_mk Y G hnc (by unfold maxLen at hcm;omega) ⟨z.1.trans (aQ ..),z.2.1,fun j u d A hd=>(F.2.2 j u (.d d) A (by rw[dL,hd];rfl)).d_inv⟩ fun _=>⟨g,0,rfl,fun j u A=>⟨?_,?_⟩⟩)
   ·show 0+j<dG k.I g (n*sz) g;rw[fI];have:=(b9.1 A).1;omega
   ·rw[aw];exact q j u A
 have J:si ⟨dG k.I g (n*sz),k.own⟩ none r:=by cases r<;>exact h0
 exact wpIn_mono (hr c hc B _ a w r J h1 hf S) fun V a2 w2 hh=>hh.trans (Marks.refl _ _ _ _) hx
theorem AC.toD{P:Program}{N:Nat}{cc:CC}{Q:Exit→Fr→List aa→Prop}{fr fr':Fr}{s:List aa}
  (e: ∀t x,Bb.look fr' t=some x→Bb.look fr t=some x∨ ∃y d,Bb.look fr t=some y∧y.toD=some d∧x= .d d) (h:AC P N none cc Q fr' s):AC P N none cc Q fr s:=by
 obtain⟨i,b,q,o,p⟩:=h;refine⟨i,b,q,o,fun c hc B k a w r j l g m=> ?_⟩;have n:FR k w a fr':=fun t x f=>by
  rcases e t x f with h4|⟨y,d,h4,h5,rfl⟩
  ·exact g t x h4
  ·exact .d ((g t y h4).toD h5)
 exact p c hc B k a w r j l n m
end Go.Bb
namespace Go.Proofs.Q
open Go Go.Bb Go.RowKit Go.Proofs.Lg
open Go.Ab (D RD)
theorem AC.overI{P:Program}{N:Nat}{i:Option Nat}{keep:List Nat}{c:CC}{Q:Exit→Fr→List aa→Prop}{fr fr0:Fr}{s:List aa}{α β γ:Type}(l:List α)(F:Nat→β→Fr)(S:Nat→β→List aa)(g:List α→β→γ)(R:γ)(J:Nat→β→Prop)(b:β)(z:l.length≤9223372036854775807)
  (x:dY keep fr=fr0) (o:iQ keep (F 0 b++fr0) fr0) (w:s=S 0 b) (v:R=g l b) (u:J 0 b)
  (h: ∀k b y,l[k]?=some y→k<l.length→decide ((k:Int)<(l.length:Int))=true→IntKind.i64.wrap ((k:Int)+1)=((k+1:Nat):Int)→R=g (y::l.drop (k+1)) b→J k b→
   AC P N i c (fO (fun fr' j=> ∃d,iQ keep (F (k+1) d++fr0) fr'∧j=S (k+1) d∧R=g (l.drop (k+1)) d∧J (k+1) d) Q) (dY keep (F k b++fr0)) (S k b))
  (a: ∀b,decide ((l.length:Int)<(l.length:Int))=false→R=g [] b→J l.length b→AC P N i c (fO (fun _ _=>False) Q) (dY keep (F l.length b++fr0)) (S l.length b)):AC P N i (.loop (.trim keep c)) Q fr s:=by
 refine AC.loop (fun m fr s=> ∃k b,fr=dY keep (F k b++fr0)∧s=S k b∧m+k=l.length∧R=g (l.drop k) b∧J k b) (m:=l.length) (fr0:=dY keep (F 0 b++fr0)) (o.sub.trans (by rw[←x];exact E7 keep fr)) ⟨0,b,rfl,w,rfl,v,u⟩ ?_;rintro m _ _ ⟨k,b,rfl,rfl,hm,hi,n⟩;refine AC.trim ?_;rw[Of];by_cases hk:k<l.length
 ·have hg:l[k]?=some l[k]:=bN hk;rw[kT hk]at hi;refine(h k b _ hg hk (by simpa using hk) (bE a8 a8) hi n).mono fun e fr' j f=> ?_;cases e with
  |normal=>obtain⟨d,p,q,r,t⟩:=f;exact⟨m-1,_,by omega,p.sub,k+1,d,rfl,q,by omega,r,t⟩
  |_=>exact f
 ·obtain rfl:k=l.length:=by omega
  rw[wc]at hi;refine(a b (by simp) hi n).mono fun e fr' j f=> ?_;cases e with
  |normal=>exact f.elim
  |_=>exact f
end Go.Proofs.Q
namespace Go.Proofs.Q
open Go Go.Bb Go.RowKit Go.Proofs.Lg
open Go.Ab (D RD)
theorem AC.freeze{P:Program}{N:Nat}{cc:CC}{Q:Exit→Fr→List aa→Prop}{fr fr':Fr}{s:List aa}{i:Nat}{ds:List D}(K:s[i]?=some (.cells (ds.map .d)))
  (E: ∀t x,Bb.look fr' t=some x→Bb.look fr t=some x∨(Bb.look fr t=some (.ptr i 0)∧x= .d (.ref ds))) (h:AC P N none cc Q fr' (s.set i .junk)):AC P N none cc Q fr s:=by
 obtain⟨e,z,s1,V,W⟩:=h;refine⟨e,z,s1,V,fun c hc B k a w r L M J f=> ?_⟩;obtain⟨b,t,us,hb,Y,p,O⟩:=f.cells K;have hm:Mono k w ⟨dG k.I b us.length,k.own⟩ w:=⟨fun q o u g C=>by
  refine⟨?_,C⟩;show o<dG k.I b us.length q;by_cases e:q=b
  ·subst e;rw[O]at g;omega
  ·rw[gW _ _ e];exact g,fun id o g=>⟨o,g,dJ.refl o⟩⟩
 have R:=(f.lies i _ b hb rfl).1;have Z:Ext B k w ⟨dG k.I b us.length,k.own⟩ w:=⟨hm,Below.refl _ _,fun q n=>gW _ _ a8,fun _ _ _=>rfl,fun id o q g l _=>⟨o,g,l⟩⟩
 have F:St (eu P) B ⟨dG k.I b us.length,k.own⟩ (s.set i .junk) w:=by
  refine⟨f.base,by simp[f.len],fun id x o m g=> ?_,f.lies,f.apart,f.glob⟩;by_cases e:id=i
  ·subst e;rw[fx (b9.1 K).1]at m;obtain rfl:=aJ m;cases o<;>trivial
  ·rw[bC (Ne.symm e)]at m;refine(f.obj id x o m g).same hm fun q l=>⟨rfl,gW _ _ ?_⟩
   intro H;rw[H]at l;exact f.apart id i o _ b e g hb l rfl
 have T:FR ⟨dG k.I b us.length,k.own⟩ w a fr':=fun t x G=>by
  rcases E t x G with h4|⟨h4,rfl⟩
  ·exact(J t x h4).mono hm
  ·obtain⟨q,n,X⟩:=(J t _ h4).ptr_inv;rw[hb]at n;cases n;rw[X];have v:=p.mono hm;refine .d (.ref b 0 us ds (by simpa using p.1) p.2.1 (fun j u y=>⟨?_,?_⟩) fun j u d y S=> ?_)
   ·show 0+j<dG k.I b us.length b;rw[fI];have:=(b9.1 y).1;omega
   ·rw[aw];simp[World.cell?,Y,y]
   ·exact(v.2.2 j u (.d d) y (by rw[dL,S];rfl)).d_inv
 have A:si ⟨dG k.I b us.length,k.own⟩ none r:=by cases r<;>exact L
 exact wpIn_mono (W c hc B _ a w r A M T F) fun H a2 w2 U=>U.trans (Marks.refl _ _ _ _) Z
theorem b7.toD1{P:Program}{f:FuncId}{x:AV}{d:D}{xs:List AV}{s:List aa}{K:AV→List aa→Prop}(l:x.toD=some d)(h:b7 P f (.d d::xs) s K):b7 P f (x::xs) s K:=by
 obtain⟨r,m,g,hk⟩:=h;refine⟨r,m,⟨g.enters,fun B k w vs b a=>g.calls B k w vs b ⟨by simpa using a.1,fun i u e j c=> ?_⟩⟩,hk⟩;cases i with
 |zero=>cases c;exact .d ((a.2 0 u x j rfl).toD l)
 |succ i=>exact a.2 (i+1) u e j c
theorem UE{t u:Nat}{x y:AV}(h:Bb.look [(u,x)] t=some y):t=u∧y=x:=by
 unfold Bb.look at h;split at h
 ·rename_i e;exact⟨e.symm,(aJ h).symm⟩
 ·cases h
end Go.Proofs.Q
namespace Go.Bb
open Go Go.RowKit Go.Ab
theorem Qv{k:aU}{w:World}{us vs:List Value}(h:bO k w us (vs.map fun v=> .d (.sc v))):us=vs:=by
 apply iX;intro i;have e:=h.1;rw[aQ]at e;by_cases hi:i<us.length
 ·have b:us[i]?=some us[i]:=bN hi;have c:vs[i]?=some vs[i]:=bN a8;have:=h.2.2 i _ (.d (.sc vs[i])) b (by rw[dL,c];rfl);have a:=this.d_inv;rw[b,c];generalize us[i]=u at a;cases a;rfl
 ·rw[iA a8,iA a8]
theorem a2W{k:aU}{w:World}{vs:List Value}(b: ∀u∈vs,u.oneCell'=true):bO k w vs (vs.map fun v=> .d (.sc v)):=
 ⟨by simp,b,fun i u d c a=>by
  rw[dL,c]at a;cases a;exact .d (.sc u)⟩
theorem St.vecSc{o:Nat→Code→CC→Prop}{B:Nat}{k:aU}{s:List aa}{w:World}(h:St o B k s w){id e sz n:Nat}{vs:List Value}(x:s[id]?=some (.vec e sz (vs.map fun v=> .d (.sc v))))(r:vs.length=n*sz)(i:0<sz){v:Value}(t:RA k w v (.vec id n sz)):
  k.own[id]?=some (.row v n)∧w.ownsRow B e sz v n vs∧ ∀g,v.ownBlock=some g→k.I g=0:=by
 obtain⟨_,u,y,a,q,c⟩:=t.vec_inv;obtain⟨v2,z,xs,l,b,p,m,j⟩:=h.vec x;rw[a]at l;cases l;have f:n=y:=by
  rw[aQ,r]at m;exact kX i m
 subst f;obtain rfl:=Qv j;rw[c rfl];exact⟨a,b,p⟩
theorem St.vecPut{j:Nat→Code→CC→Prop}{B:Nat}{k:aU}{s:List aa}{w w':World}(c:St j B k s w){id e sz n g:Nat}{v:Value}{vs:List Value}(hk:k.own[id]?=some (.row v n))(l: ∀g,v.ownBlock=some g→k.I g=0)(hg:v.ownBlock=some g)(r:vs.length=n*sz)(p: ∀u∈vs,u.oneCell'=true)
  (i:w'.ownsRow B e sz v n vs) (a:w.grownBy w' (some g)):Ext B k w k w'∧St j B k (s.set id (.vec e sz (vs.map fun v=> .d (.sc v)))) w':=by
 have h:(Own.row v n).block=some g:=hg;obtain⟨t,q⟩:=c.lies id _ g hk h;have f:iz k.I w k.I w':=fun b o u m hc=>by
  have hne:b≠g:=by rintro rfl;rw[l _ hg]at m;omega
  refine⟨m,?_⟩;have hb:b<w.heap.size:=Go.Proofs.Lg.cell_lt hc;exact(uy (w:=w) (a.block b hb (by simpa using hne))).trans hc
 exact c.upd (k':=k) hk _ (ql hk) (dJ.refl _) f ⟨a.os,a.tape,a.output,a.size,fun b hb=>a.block b (by have:=c.base;omega) (by simp;omega)⟩
  (fun b hb=>⟨.inl hb,by have:=(c.lies id _ b hk hb).2;have:=a.size;omega,(c.lies id _ b hk hb).1⟩)
  (fun b hb hne=>⟨a.block b hb (fun e=>hne (by cases e;exact h)),rfl⟩)
  ⟨vs,i,l,by rw[aQ];exact r,a2W p⟩
end Go.Bb
namespace Go.Proofs.Q
open Go Go.Bb Go.RowKit Go.Proofs.Lg
open Go.Ab (D RD)
def dV(l:List Dg):List AV:=(l.map eh).flatten.map fun v=> .d (.sc v)
theorem wH(l:List Dg):dV l=((l.map aP).flatten).map .d:=by
 unfold dV
 induction l with
 |nil=>rfl
 |cons x l a=>
  simp only[bV,fL,fp];rw[a,GP,nJ];rfl
theorem a3s{s:List aa}{i:Nat}{l:List Dg}(C:s[i]?=some (.vec 25 32 (dV l)))(p:l≠[])(z:l.length≤1000000):
  b7 Tryz.prog 205 [.vec i l.length 32,.clo 163 [] []] s fun d D=>d= .tup []∧D=s.set i (.vec 25 32 (dV (l.mergeSort j9))):=by
 refine⟨.tup [],_,⟨enters_fn' Tryz.func205 rfl (by rfl),fun B k w vs n a=> ?_⟩,rfl,rfl⟩
 match vs,a with
 |[v,f],a=>
  obtain⟨hk,b,t⟩:=n.vecSc C (Eu l) a8 (a.2 0 v _ rfl rfl);obtain⟨us,vs,rfl,q,r⟩:=(a.2 1 f _ rfl rfl).clo_inv;obtain rfl:us=[]:=fK q.1;obtain rfl:vs=[]:=fK r.1;rcases b.2 with⟨_,h⟩|⟨g,c,cur,hvv,_⟩
  ·exact absurd (fK h) p
  ·subst hvv;refine(QC l g c B w z p b).mono ?_;rintro e w' ⟨rfl,m,o⟩;have y:(l.mergeSort j9).length=l.length:=mP _;obtain⟨x,A⟩:=n.vecPut hk t rfl (by rw[Eu,y]) (a3R _) m o;exact⟨_,k,rfl,.tup (us:=[]) rfl (fun j u c h=>by simp at h),x,A⟩
end Go.Proofs.Q
namespace Go.Proofs.Q
open Go Go.Bb Go.RowKit Go.Proofs.Lg
open Go.Ab (D RD)
set_option maxHeartbeats 400000 in
set_option maxRecDepth 100000 in
theorem PT(a:Addr)(c:Nat)(w:World):Calls Tryz.prog 204 #[.slice (some a) 0 c] w fun e w'=> ∃i,e= .returned i∧(∃k,i= .slice k 0 0)∧Below w.heap.size w w':=by
 have q: ∀(w:World) (a:Option Addr) (n c g f:Nat),(binOp .eql 41 (.slice a n c) (.slice none g f)).run Tryz.prog w= .ok (.bool a.isNone) w:=fun w a n c g f=>Go.Lib.run_eql_slice_nil w _ _ a n c g f Tryz.underlying41;obtain⟨j,l⟩: ∃j,Tryz.prog.info? 25=some j:=wq.1 (show(Tryz.prog.info? 25).isSome=true by kernel_rfl)
 have d: ∀(h:TypeId) (b:Addr) (W:World),(Builtin.append_ #[41,41] h #[.slice (some b) 0 0,.slice (some a) 0 c]).run Tryz.prog W= .ok (.slice (some b) 0 0) W:=fun h b W=>by
  simp[Builtin.append_,run_underlying Tryz.underlying41,sizeOf,typeInfo,l,Builtin.lenOf,Builtin.firstCells,loadCells,loadCellsFrom,storeCells]
 go_enter Tryz.func204,Tryz.ntmps204
 go_wp2_with (at_builtin;refine Go.Lib.wpList_append_run _ rfl _ _ _ _ rfl _ _ rfl rfl _ _ (d _ _ _) ?_)
 go_ret
 exact⟨_,rfl,⟨_,rfl⟩,(Below.refl _ _).alloc (bk _) _⟩
set_option maxHeartbeats 400000 in
set_option maxRecDepth 100000 in
theorem PS(m c:Nat)(w:World):Calls Tryz.prog 204 #[.slice none m c] w fun e w'=>e= .returned (.slice none 0 0)∧w'=w:=by
 have q: ∀(w:World) (a:Option Addr) (n c d b:Nat),(binOp .eql 41 (.slice a n c) (.slice none d b)).run Tryz.prog w= .ok (.bool a.isNone) w:=fun w a n c d b=>Go.Lib.run_eql_slice_nil w _ _ a n c d b Tryz.underlying41
 go_enter Tryz.func204,Tryz.ntmps204
 go_wp2
 go_ret
 exact⟨rfl,rfl⟩
theorem RJ(n:Nat)(s:List aa):b7 Tryz.prog 204 [.d (.sl n [])] s fun d h=>d= .emp n∧h=s:=by
 refine⟨.emp n,s,⟨enters_fn' Tryz.func204 rfl (by rfl),fun B k w vs b f=> ?_⟩,rfl,rfl⟩
 match vs,f with
 |[v],f=>
  have g:=(f.2 0 v _ rfl rfl).d_inv;obtain⟨a,c,us,rfl,_⟩:=g.sl_inv;cases a with
  |none=>
   refine(PS 0 c w).mono ?_;rintro e w' ⟨rfl,rfl⟩;exact⟨_,k,rfl,.emp,Ext.refl B k _,b⟩
  |some a=>
   refine(PT a c w).mono ?_;rintro e w' ⟨j,rfl,⟨i,rfl⟩,hb⟩;exact⟨_,⟨fY k.I w.heap.size w',k.own⟩,rfl,.emp,Ext.called b.base hb,b.called hb⟩
theorem Ke(l:List Dg):((l.map aP).flatten).length=l.length*32:=by
 rw[Go.Ab.flatten_len (sz:=32) _ fun r a=>by obtain⟨x,_,rfl⟩:=bR.1 a;exact ba x,aQ]
theorem RL(x:Dg)(l:List Dg)(e:l.length≤1000000)(s:List aa):b7 Tryz.prog 204 [.d (.sl 32 ((x::l).map aP))] s fun d c=>d= .vec s.length (l.length+1) 32∧c=s++[.vec 25 32 (dV (x::l))]:=by
 have b:bw (l.length+1) 32=true:=room_le a8 a8;have a:((aP x++(l.map aP).flatten)).length=(l.length+1)*32:=by have:=Ke (x::l);simpa using this
 rw[bV];rw[wH];refine b7.of (F:=Am) W7 (by simp[Am]) ?_;simp only[Am]
 repeat' first|refine ae (fun _=> ?_) fun _=> ?_|refine aL ?_|simp only[b,a,aQ,fL,wj,wy,qg,aH,simprocAttr,aA,aF,aE,aw]
 all_goals first|rfl|exact⟨rfl,rfl⟩
theorem zj:aG Tryz.prog 91 [.sc (.int .u64 0)] (dI 0):=by
 refine⟨enters_fn' Tryz.func91 rfl (by rfl),fun I w vs a c _=> ?_⟩
 match vs,a with
 |[u],_=>
  have b:=c 0 u _ rfl rfl;cases b;refine(Tryz.bits_Len 0 w a8 a8).mono ?_;rintro e w' ⟨rfl,rfl⟩;exact⟨_,rfl,.sc _,Below.refl _ _⟩
theorem Tk(f:AV)(s:List aa):b7 Tryz.prog 289 [.emp 32,.d (dI 0),.d (dI 0),f] s fun d c=>d= .tup []∧c=s:=by
 have b:IntKind.i64.wrap (0+1)=1:=by rfl
 have a:decide ((1:Int)<0)=false:=by decide
 refine b7.of (F:=AG) Wo (by simp[AG]) ?_;simp only[AG];refine aO (ga @b @wj) ab ?_;refine aZ.tr (fun(_:Unit)=>[(8,.d (dI 1))]) (fun _=>s) (fun _ _=>True) 0 () aB aB rfl trivial ?_;intro m _ _;exact bU (ga @a @wj) ab
 all_goals first|rfl|exact⟨rfl,rfl⟩
theorem Zn(f:FuncId)(s:List aa):b7 Tryz.prog 266 [.emp 32,.d (dI 0),.d (dI 0),.d (dI 0),.clo f [] []] s fun d e=>d= .tup []∧e=s:=by
 have a:=Tk (.clo f [] []) s;have c:IntKind.i64.wrap (0-0)=0:=by rfl
 have b:decide ((0:Int)≤12)=true:=by decide
 refine b7.of (F:=Bz) Xf (by simp[Bz]) ?_;simp only[Bz];refine aO @wj ab ?_;refine aZ.tr (fun(_:Unit)=>[]) (fun _=>s) (fun _ _=>True) 0 () aB aB rfl trivial ?_;intro m _ _;exact FF (ga @c (ga @b @wj)) @a
 all_goals first|rfl|exact⟨rfl,rfl⟩
theorem a3r(f:FuncId)(s:List aa):b7 Tryz.prog 205 [.emp 32,.clo f [] []] s fun d c=>d= .tup []∧c=s:=by
 have a:=Zn f s;refine b7.of (F:=Aw) Wf (by simp[Aw]) ?_;simp only[Aw];have b:IntKind.u64.wrap 0=0:=by rfl
 repeat' first|refine ae (fun _=> ?_) fun _=> ?_|refine ay (ga @b @wj) (ga @zj @a) ?_|exact ax (ga @b @wj) (ga @zj @a)|fail
 all_goals first|rfl|exact⟨rfl,rfl⟩
end Go.Proofs.Q
namespace Go.Proofs.Lh
open Go Go.Ab Go.Bb Go.RowKit Go.Proofs.Lg
def pN(s:List aa)(id:Nat):Option (AV×AV):=match s[id]? with
 |some (.tcells 270 [a,b])=>some (a,b)
 |_=>none
theorem Hx{s:List aa}{id:Nat}{p:AV×AV}(h:pN s id=some p):s[id]?=some (.tcells 270 [p.1,p.2]):=by
 unfold pN at h;split at h
 ·rename_i a b c;obtain rfl:=aJ h;exact c
 ·cases h
theorem Ic{s o:List aa}{id:Nat}{p:AV×AV}{b:ByteArray}(hg:pN s id=some p)(h:rR s id p.1 b.data.toList p.2=some o):
  gA (eu Tryz.prog) Tryz.prog 287 [.ptr id 0,.d (.sc (.string b))] s (.d (.tup [.sc (.int .i64 b.size),.sc .nilIface])) o:=by
 refine⟨enters_fn' Tryz.func287 rfl (by rfl),fun B k w vs g a=> ?_⟩
 match vs,a with
 |[u,v],a=>
  obtain⟨E,hb,rfl⟩:=(a.2 0 u _ rfl rfl).ptr_inv;have C:=(a.2 1 v _ rfl rfl).d_inv;cases C;obtain⟨G,H,n,xs,q,r,t,x,F,y,z⟩:=II g (Hx hg) h hb;have m:b.data.toList.length=b.size:=by rw[gz];rfl
  refine(QH (B:=B) b q r t x (by rw[←m];exact y) g.base).mono ?_;rintro e w' ⟨rfl,v2,D,c,rfl⟩;rw[←m]at c;obtain⟨k',A,l⟩:=z _ D v2 (Below.refl _ _) c;refine⟨_,k',rfl,.d ?_,A,l⟩;refine .tup [.int .i64 b.size,.nilIface] _ rfl fun i u d j f=> ?_
  match i,j,f with
  |0,j,f=>cases j;cases f;exact .sc _
  |1,j,f=>cases j;cases f;exact .sc _
theorem Ib{s j:List aa}{id:Nat}{p:AV×AV}{c:Int}(hc:0≤c∧c<256)(hg:pN s id=some p)(h:rR s id p.1 [UInt8.ofNat c.toNat] p.2=some j):
  gA (eu Tryz.prog) Tryz.prog 288 [.ptr id 0,.d (.sc (.int .u8 c))] s (.d (.sc .nilIface)) j:=by
 refine⟨enters_fn' Tryz.func288 rfl (by rfl),fun B k w vs b a=> ?_⟩
 match vs,a with
 |[u,v],a=>
  obtain⟨C,hb,rfl⟩:=(a.2 0 u _ rfl rfl).ptr_inv;have z:=(a.2 1 v _ rfl rfl).d_inv;cases z;obtain⟨D,E,n,xs,l,m,o,q,r,t,x⟩:=II b (Hx hg) h hb;have g:(((UInt8.ofNat c.toNat).toNat:Nat):Int)=c:=by rw[UInt8.toNat_ofNat'];omega
  refine(QG (B:=B) c l m o q r t b.base).mono ?_;rintro e w' ⟨rfl,v2,A,f,rfl⟩;obtain⟨k',y,i⟩:=x _ A v2 ((Below.refl _ _).alloc (bk _) (.cells #[.int .u8 c] 5)) (by rw[bV,e8,g];exact f);exact⟨_,k',rfl,.d (.sc _),y,i⟩
theorem SP(w:World)(a q:Addr)(n:Nat):(w.freeze a n).cell? q=w.cell? q:=by
 unfold World.freeze;split
 ·rfl
 ·unfold World.cell?;simp only[w8];by_cases e:a.block=q.block
  ·rw[if_pos e];cases h:w.heap[q.block]? with
   |none=>rfl
   |some o=>cases o<;>rfl
  ·rw[if_neg e]
theorem SQ(w:World)(a:Addr)(n j:Nat)(h:j≠a.block):(w.freeze a n).heap[j]?=w.heap[j]? :=by
 unfold World.freeze;split
 ·rfl
 ·simp only[w8];rw[if_neg (Ne.symm h)]
theorem SR(w:World)(a:Addr)(n:Nat):(w.freeze a n).heap.size=w.heap.size:=by
 unfold World.freeze;split
 ·rfl
 ·simp
def Eh(s:List aa)(id:Nat):Option (ByteArray×List aa):=(pN s id).bind fun p=>match p.2 with
 | .tsl id2 1 rows=>if ir 5 1 rows.length s[id2]?=true∧0<rows.length then(gH (rows.flatten.map .d)).map fun l=>(⟨l.toArray⟩,s.set id2 .junk)else none
 |_=>none
theorem Ia{s:List aa}{id:Nat}{p:ByteArray×List aa}(h:Eh s id=some p):gA (eu Tryz.prog) Tryz.prog 264 [.ptr id 0] s (.d (.sc (.string p.1))) p.2:=by
 obtain⟨q,hg,G⟩:=Rc h;obtain⟨a,X⟩:=q;dsimp only at G;split at G
 ·rename_i id2 rows;obtain⟨⟨C,U⟩,Z⟩:=Ag G;obtain⟨l,hl,rfl⟩:=V5 Z;have t:=He C;have L:=Hx hg;refine⟨enters_fn' Tryz.func264 rfl (by rfl),fun B k w vs m o=> ?_⟩
  match vs,o with
  |[u],o=>
   obtain⟨b,hb,rfl⟩:=(o.2 0 u _ rfl rfl).ptr_inv;obtain⟨V,us,Q,Y,R,g4⟩:=m.tcells L;rw[hb]at Q;cases Q;obtain⟨p,v,rfl⟩: ∃p v,us=[p,v]:=by
    have:=R.1
    match us,this with
    |[p,v],_=>exact⟨p,v,rfl⟩
   have hv:=R.2.2 1 v _ rfl rfl;have D:w.heap[b]?=some (.cells #[p,v] 270 (0,0)):=Y;obtain⟨A,u2,n',i,a0,J⟩:=hv.tsl_inv;obtain⟨v2,xs,y,c,hI⟩:=m.row t;rw[i]at y;cases y;have P:=J rfl;subst P;have F:=yj A c;have E:=EZ (db.toA (k:=k) F) hl;have O:=yk A;have K:rows.flatten.length=rows.length:=by
    have:=flatten_len rows O;rw[aF]at this;exact this
   have f:l.length=rows.length:=by
    have S:=F.1;rw[E,aQ,K]at S;exact S
   rcases c.2 with⟨_,h0⟩|⟨g,cap,cur,fz,hvv,hgB,hgh,hnc,hcm,hcs,htake,hfz⟩
   ·omega
   ·have z:l≠[]:=fun e=>by rw[e]at f;simp at f;omega
    rw[hvv,←f]at D;have M:g<w.heap.size:=(fB.1 hgh).1;refine(QF (fz:=fz) l z D hgh (by rw[f];exact hnc) hcm hcs fun j x hj=> ?_).mono ?_
    ·have:=c.cells (g:=g) (by rw[hvv];rfl) j (.int .u8 x.toNat) (by rw[E,dL,hj];rfl);rw[fi,aw]at this;exact this
    ·rintro e w' ⟨rfl,rfl⟩;have hk:iz k.I w k.I (w.drew.freeze ⟨g,0,none⟩ l.length):=fun V q u hq hc=>⟨hq,by rw[SP,World.cell?_drew];exact hc⟩
     have H:Below B w (w.drew.freeze ⟨g,0,none⟩ l.length):=Go.Lib.below_freeze (Below.drew (Below.refl B w)) (p:=⟨g,0,none⟩) hgB _;have n:(Own.row v rows.length).block=some g:=by rw[hvv];rfl
     obtain⟨he,N⟩:=m.upd (k':=k) i .junk (ql i) (dJ.refl _) hk H (fun W r=>by rw[n]at r;cases r;exact⟨.inl n,by rw[SR];exact M,hgB⟩)
      (fun W T hne=>⟨by rw[SQ _ _ _ _ (fun e=>hne (by rw[n,e]))];rfl,rfl⟩) trivial
     exact⟨_,k,rfl,.d (.sc _),he,N⟩
 ·cases G
end Go.Proofs.Lh
namespace Go.Proofs.Q
open Go Go.Bb Go.RowKit Go.Proofs.Lg
open Go.Ab (D RD)
open Go.Proofs.Lh (eK pN rR Eh vo Ic Ib Ia)
def jV(s:List aa)(id:Nat)(l:List UInt8):Prop:=(l=[]∧s[id]?=some (.tcells 270 [.d (.sc (.pointer none)),.nil 1]))∨ ∃id2,s[id]?=some (.tcells 270 [.ptr id 0,.tsl id2 1 (eK l)])∧s[id2]?=some (.row 5 1 l.length)∧id≠id2∧l≠[]
theorem jV.more{s:List aa}{id:Nat}{l:List UInt8}(h:jV s id l)(J:List aa):jV (s++J) id l:=by
 rcases h with⟨a,b⟩|⟨id2,a,b,h3,h4⟩
 ·exact .inl ⟨a,bW b J⟩
 ·exact .inr ⟨id2,bW a J,bW b J,h3,h4⟩
theorem zk(l:List UInt8):(eK l).length=l.length:=by simp[eK]
theorem Ro(a b:List UInt8):eK a++eK b=eK (a++b):=by simp[eK]
theorem Og{s:List aa}{id2 e sz n:Nat}(h:s[id2]?=some (.row e sz n)):ir e sz n s[id2]?=true:=by rw[h];simp[ir]
theorem IJ{s:List aa}{id:Nat}{l b:List UInt8}(h:jV s id l)(hb:l=[]→b≠[])(j:l.length+b.length≤140737488355328): ∃p i,pN s id=some p∧rR s id p.1 b p.2=some i∧jV i id (l++b):=by
 rcases h with⟨rfl,a⟩|⟨id2,h1,a,h3,h4⟩
 ·have f:=(b9.1 a).1;have c:=hb rfl;have e:rR s id (.d (.sc (.pointer none))) b (.nil 1)=some (((s.set id (.tcells 270 [.ptr id 0,.nil 1]))++[aa.row 5 1 b.length]).set id (.tcells 270 [.ptr id 0,.tsl s.length 1 (eK b)])):=
   if_pos ⟨rfl,List.length_pos_iff.2 c,by simpa using j⟩
  refine⟨(.d (.sc (.pointer none)),.nil 1),_,by simp[pN,a],e,.inr ⟨s.length,?_,?_,by omega,by simpa using c⟩⟩
  ·rw[eP,if_pos rfl,if_pos (by simp;omega)];simp
  ·rw[eP,if_neg a8,iO (by simp)];simp
 ·have f:=(b9.1 h1).1;have g:=(b9.1 a).1;have e:rR s id (.ptr id 0) b (.tsl id2 1 (eK l))=some (((s.set id (.tcells 270 [.ptr id 0,.tsl id2 1 (eK l)])).set id2 (.row 5 1 ((eK l).length+b.length))).set id (.tcells 270 [.ptr id 0,.tsl id2 1 (eK l++eK b)])):=
   if_pos ⟨by simp[vo],by rw[zk];exact Og a,by rw[zk];omega⟩
  refine⟨(.ptr id 0,.tsl id2 1 (eK l)),_,by simp[pN,h1],e,.inr ⟨id2,?_,?_,h3,by simp[h4]⟩⟩
  ·rw[eP,if_pos rfl,if_pos (by simp;omega),Ro]
  ·rw[eP,if_neg h3,eP,if_pos rfl,if_pos (by simp;omega),aR,zk]
theorem Oy{s:List aa}{id:Nat}{l:List UInt8}(h:jV s id l)(b:bh)(hb:l≠[])(i:l.length+b.size≤140737488355328):b7 Tryz.prog 287 [.ptr id 0,.d (dS b)] s fun d a=>d= .d (.tup [.sc (.int .i64 b.size),.sc .nilIface])∧jV a id (l++b.data.toList):=by
 obtain⟨p,a,c,f,g⟩:=IJ h (b:=b.data.toList) (fun e=>absurd e hb) (by rw[fD];exact i);exact⟨_,a,Ic c f,rfl,g⟩
theorem Hk{s:List aa}{id:Nat}{l:List UInt8}(h:jV s id l)(c:Nat)(hc:c<256)(i:l.length+1≤140737488355328):b7 Tryz.prog 288 [.ptr id 0,.d (.sc (.int .u8 c))] s fun d a=>d= .d (.sc .nilIface)∧jV a id (l++[UInt8.ofNat c]):=by
 obtain⟨p,a,e,f,g⟩:=IJ h (b:=[UInt8.ofNat c]) (fun _=>by simp) (by simpa using i);exact⟨_,a,Ib (c:=(c:Int)) a8 e (by simpa using f),rfl,g⟩
theorem a2V{s:List aa}{id:Nat}{l:List UInt8}(h:jV s id l)(b:l≠[]):b7 Tryz.prog 264 [.ptr id 0] s fun d g=>d= .d (dS (str l)):=by
 rcases h with⟨a,_⟩|⟨id2,a,h2,h3,h4⟩
 ·exact absurd a b
 ·have c:Eh s id=some (str l,s.set id2 .junk):=by
   unfold Eh pN;rw[a];show(if _ then _ else none)=_;rw[zk,if_pos ⟨Og h2,List.length_pos_iff.2 b⟩];have hb:gH ((eK l).flatten.map .d)=some l:=by
    rw[Go.Proofs.Lh.byteRows_flat,nJ];clear a h2 h3 h4 b
    induction l with
    |nil=>rfl
    |cons x l f=>
     rw[bV,gH];have e:qO ((AV.d∘fun x:UInt8=>D.sc (.int .u8 x.toNat)) x)=some x:=by
      show(if(0:Int)≤(x.toNat:Int)∧(x.toNat:Int)<256 then some (UInt8.ofNat (x.toNat:Int).toNat)else none)=_;have:=x.toNat_lt;rw[if_pos a8];simp
     rw[e,f];rfl
   rw[hb];rfl
  exact⟨_,_,Ia c,rfl⟩
theorem zh(a b:bh):(a++b).data.toList=a.data.toList++b.data.toList:=by rw[w9];simp
theorem HB(l:List UInt8):(str l).data.toList=l:=by simp[str]
def na(d:Nat)(x:Sx):List UInt8:=(fZ d x).data.toList
theorem JN(d:Nat): ∀(l:List Sx) (s:bh),(l.foldl (fun s x=>s++fZ d x) s).data.toList=s.data.toList++l.flatMap (na d)
 |[],s=>by simp
 |x::l,s=>by rw[gD,JN d l,zh,lR,bj];rfl
theorem JM(d:Nat)(l:List Sx):na (d+1) (.mk true ⟨#[]⟩ l)=40::(l.flatMap (na d)++[41]):=by
 show(fZ (d+1) (.mk true ⟨#[]⟩ l)).data.toList=_;rw[fZ,if_pos rfl,zh,JN,HB,HB];simp
theorem Sl(d:Nat)(a:bh):na (d+1) (.mk false a [])=(dec a.size).data.toList++(58::a.data.toList):=by
 show(fZ (d+1) (.mk false a [])).data.toList=_;rw[fZ,if_neg (by simp),zh,zh,HB,bj];rfl
def jW:Prop:= ∀n:Int,-1099511627776≤n→n≤1099511627776→aG Tryz.prog 284 [dI n] (dS (dec n))
theorem za(P:Program)(l:List CO)(K:Fr→List aa→List Nat→Prop)(a:List Nat)(fr:Fr)(s:List aa)(m t:Nat):dv P l K a fr (some t) m s (.d (.sc .nilIface))=bK P l K (m::a) ((t,.d (.sc .nilIface))::fr) s:=propext dp
set_option maxRecDepth 20000 in
theorem Jt(A:jW): ∀(d:Nat) (x:Sx) (i:Nat) (s:List aa) (l:List UInt8),fj d x→bJ d x≤1000000000→jV s i l→(l≠[]∨x.isL=true)→l.length+(na d x).length≤1000000000000→
  b7 Tryz.prog 263 [.ptr i 0,.d (.agg (ak x))] s fun E n=>E=vT∧jV n i (l++na d x)
 |0,_,_,_,_,h,_,_,_,_=>h.elim
 |d+1,.mk b a l,i,s,l0,hg0,hn,hs,hl0,hsz=>by
  have y:=Jt A d;rcases id hg0 with⟨rfl,rfl,ha⟩|⟨rfl,rfl,hl⟩
  ·have w:l0≠[]:=by rcases hl0 with h|h;exact h;cases h
   rw[Sl]at hsz⊢;simp only[aR,aY,fD]at hsz;have z:=A a.size a8 a8;have t:=Oy hs (dec a.size) w a8;refine b7.of (F:=sK) M8 (by simp[sK]) ?_;simp only[sK];rw[jP]
   repeat' first|refine ae (fun _=> ?_) fun _=> ?_|(refine aq.fn (t.mono ?_);rintro _ D ⟨rfl,e⟩)|refine ay @wj @z ?_|exact ax @wj @z|fail
   have v:=Hk e 58 a8 (by simp only[aR,fD];omega)
   repeat' first|refine ae (fun _=> ?_) fun _=> ?_|(refine aq.fn (v.mono ?_);rintro _ s2 ⟨rfl,f⟩)|refine ay @wj ab ?_|exact ax @wj ab|fail
   have H:=Oy f a (by simp) (by simp only[aR,fD,qC];omega)
   repeat' first|refine ae (fun _=> ?_) fun _=> ?_|(refine aq.fn (H.mono ?_);rintro _ L ⟨rfl,o⟩)|refine ay (ga @wj @za) ab ?_|exact ax (ga @wj @za) ab|fail
   simp only[bj,yX]at o;exact o
  ·have B:bJ (d+1) (.mk true ⟨#[]⟩ l)=1+(l.map (bJ d)).sum:=rfl;have q:l.length≤(l.map (bJ d)).sum:=tW _ fun x K=>rp (hl x K);rw[B]at hn;rw[JM]at hsz⊢;simp only[aR,aY,b6]at hsz
   have t:b7 Tryz.prog 288 [.ptr i 0,.d (.sc (.int .u8 40))] s fun d n=>d= .d (.sc .nilIface)∧jV n i (l0++[40]):=Hk hs 40 a8 a8;refine b7.of (F:=sK) M8 (by simp[sK]) ?_;simp only[sK];rw[jP]
   repeat' first|refine ae (fun _=> ?_) fun _=> ?_|(refine aq.fn (t.mono ?_);rintro _ D ⟨rfl,e⟩)|refine ay @wj ab ?_|exact ax @wj ab|fail
   refine aO (ga @wj @za) ab ?_;refine aZ.overI l (fun k (b:List UInt8×List aa)=>[(26,iN k)]) (fun _ b=>b.2) (fun r b=>b.1++r.flatMap (na d)) (l0++[40]++l.flatMap (na d)) (fun _ b=>jV b.2 i b.1∧b.1≠[]) (l0++[40],D) a8 aB aB rfl rfl ⟨e,by simp⟩ (fun k b x hg hk p C j g=> ?_) (fun b p j g=> ?_)
   ·obtain⟨u,b⟩:=b;obtain⟨g,c⟩:=g;dsimp only at j g c;rw[lR,←bj]at j;have m:=congrArg List.length j;simp only[aR,aY,b6]at m;have I:=yu (bJ d) hg;have hc:=fun J=>y x i (b++J) u (hl x (bX hg)) a8 (g.more J) (.inl c) a8;clear y B q t e hs hg0 hl0
    repeat' first|refine ae (fun _=> ?_) fun _=> ?_|(refine aq.fn ((hc _).mono ?_);rintro _ n ⟨rfl,G⟩)|refine ay (ga @p (ga @C (ga @hg (ga @dH (ga @cq @wj))))) ab ?_|exact ax (ga @p (ga @C (ga @hg (ga @dH (ga @cq @wj))))) ab|fail
    exact⟨(u++na d x,n),rfl,by simpa using j,G,by simp[c]⟩
   ·obtain⟨u,b⟩:=b;obtain⟨g,c⟩:=g;dsimp only at j g c;rw[List.flatMap_nil,bg]at j;have m:=congrArg List.length j;simp only[aR,aY,b6]at m;have v:b7 Tryz.prog 288 [.ptr i 0,.d (.sc (.int .u8 41))] b fun d n=>d= .d (.sc .nilIface)∧jV n i (u++[41]):=Hk g 41 a8 a8
    repeat' first|refine ae (fun _=> ?_) fun _=> ?_|(refine aq.fn (v.mono ?_);rintro _ s2 ⟨rfl,f⟩)|refine ay (ga @p @wj) ab ?_|exact ax (ga @p @wj) ab|fail
    refine aO (ga @wj @za) ab ?_;rw[←j]at f;simpa using f
theorem S9(h:jW){l:List Sx}(hg:fj 6 (cP l))(j:bJ 6 (cP l)≤20000)(b:(lZ (cP l)).size≤1000000000000):aG Tryz.prog 194 [.agg (ak (cP l))] (.tup [dS (lZ (cP l)),dI 0]):=by
 have c:=S8 hg j;have i:(na 6 (cP l)).length=(lZ (cP l)).size:=fD _;have f:=Jt h 6 (cP l) 0 [.tcells 270 [.d (.sc (.pointer none)),.nil 1]] [] hg a8 (.inl ⟨rfl,rfl⟩) (.inr rfl) (by rw[i];simpa using b);refine aM (F:=AD) Wl (by simp[AD]) ?_;simp only[AD]
 repeat' first|refine ae (fun _=> ?_) fun _=> ?_|(refine aq.fn (f.mono ?_);rintro _ k ⟨rfl,a⟩)|refine ay @wj @c ?_|exact ax @wj @c|fail
 have g:=a2V a (by rw[bm];unfold cP;rw[JM];simp)
 repeat' first|refine ae (fun _=> ?_) fun _=> ?_|(refine aq.fn (g.mono ?_);rintro _ s2 rfl)|refine ay @wj ab ?_|exact ax @wj ab|fail
 have e:str ([]++na 6 (cP l))=lZ (cP l):=by
  rw[bm];unfold na lZ str;simp
 rw[bm]at e;rw[e]
end Go.Proofs.Q
namespace Go.Proofs.Q
open Go Go.Bb Go.RowKit Go.Proofs.Lg
open Go.Ab (D RD)
def xq(d:Dg):Option (Nat×Dg)→Bool
 |none=>true
 |some q=>decide (bS d q.2<0)
theorem Vg(out:List Dg)(x:bT)(s:aD)(i:Nat)(k:Option (Nat×Dg)):jK out (x::s) i k=jK out s (i+1) (if(!cW out x.id&&(gZ out (cD x.pat)&&xq x.id k))=true then some (i,x.id)else k):=by
 cases k<;>rfl
theorem Vh(out:List Dg)(i:Nat)(k:Option (Nat×Dg)):jK out [] i k=k:=by cases k<;>rfl
def nY:Option (Nat×Dg)→Int
 |none=> -1
 |some q=>q.1
set_option maxHeartbeats 2000000 in
theorem NC(s:aD)(A:gE s):aG Tryz.prog 74 [.sl 37 (s.map b5)] (.sl 32 ((dN s).map aP)):=by
 have w:=A.len;refine aM (F:=CU) Yl (by simp[CU]) ?_;simp only[CU];refine aO ab ab ?_;refine aZ.tr (fun(out:List Dg)=>[(3,.tsl 0 32 (out.map aP))]) (fun out=>[.row 25 32 out.length]) (fun m out=>m+out.length=s.length∧dN s=kC s m out) s.length [] aB aB rfl ⟨rfl,rfl⟩ ?_;rintro m out ⟨hm,i⟩;by_cases G:out.length<s.length
 ·obtain⟨f,rfl⟩: ∃f,m=f+1:=⟨m-1,by omega⟩
  have v:decide ((out.length:Int)<(s.length:Int))=true:=by simp;omega
  rw[kC]at i;refine aO @v ab ?_
  refine aZ.overI s (fun k (b:Option (Nat×Dg))=>[(5,iN k),(4,.d (.sc (.int .i64 (nY b))))]) (fun _ _=>[.row 25 32 out.length]) (fun r b=>jK out r (s.length-r.length) b) (jK out s 0 none) (fun k b=> ∀j d,b=some (j,d)→j<k∧ ∃x,s[j]?=some x∧x.id=d) none a8 aB aB rfl (by simp) (by simp) (fun k b x hg hk e t a l=> ?_) (fun b e a l=> ?_)
  ·have o:=Nt x.pat (A.pat x (bX hg));have B:s.length-(x::s.drop (k+1)).length=k:=by simp only[aY,aA];omega
   have E:s.length-(s.drop (k+1)).length=k+1:=by simp only[aA];omega
   have p:s.length-(s.length-(k+1))=k+1:=by omega
   rw[B,Vg]at a;cases b with
   |none=>
    have c:(nY none<0)=True:=by simp[nY]
    clear i
    repeat' first|refine ae (fun _=> ?_) fun _=> ?_|refine ay (ga @e (ga @t (ga @hg @c))) (ga @vz (ga @o @vA)) ?_|exact ax (ga @e (ga @t (ga @hg @c))) (ga @vz (ga @o @vA))|fail
    all_goals first
     |(rw[if_pos (by simp_all[xq])]at a;exact⟨some (k,x.id),rfl,by rw[p];exact a,fun j d h=>by cases h;exact⟨by omega,x,hg,rfl⟩⟩)
     |(rw[if_neg (by simp_all[xq])]at a;exact⟨none,rfl,by rw[p];exact a,fun j d h=>let⟨C,u⟩:=l j d h;⟨by omega,u⟩⟩)
   |some q=>
    obtain⟨j,d⟩:=q;obtain⟨D,y,n,rfl⟩:=l j d rfl;have c:(nY (some (j,y.id))<0)=False:=by simp[nY]
    have g:nY (some (j,y.id))=(j:Int):=rfl;clear i
    repeat' first|refine ae (fun _=> ?_) fun _=> ?_|refine ay (ga @e (ga @t (ga @hg (ga @c (ga @g @n))))) (ga @vz (ga @o (ga @vA @ot))) ?_|exact ax (ga @e (ga @t (ga @hg (ga @c (ga @g @n))))) (ga @vz (ga @o (ga @vA @ot)))|fail
    all_goals first
     |(rw[if_pos (by simp_all[xq])]at a;exact⟨some (k,x.id),rfl,by rw[p];exact a,fun j d h=>by cases h;exact⟨by omega,x,hg,rfl⟩⟩)
     |(rw[if_neg (by simp_all[xq])]at a;exact⟨some (j,y.id),rfl,by rw[p];exact a,fun j d h=>let⟨C,u⟩:=l j d h;⟨by omega,u⟩⟩)
  ·rw[Vh]at a;rw[a]at i;cases b with
   |none=>
    have c:(nY none<0)=True:=by simp[nY]
    refine aO (ga @e @c) ab ?_;rw[i]
   |some q=>
    obtain⟨j,d⟩:=q;obtain⟨D,y,n,rfl⟩:=l j d rfl;have c:(nY (some (j,y.id))<0)=False:=by simp[nY]
    have g:nY (some (j,y.id))=(j:Int):=rfl;have z:bw (out.length+1) 32=true:=room_le a8 a8;clear a l
    repeat' first|refine ae (fun _=> ?_) fun _=> ?_|refine ay (ga @e (ga @c (ga @g (ga @n (ga @z (ga @eo @ba)))))) ab ?_|exact ax (ga @e (ga @c (ga @g (ga @n (ga @z (ga @eo @ba)))))) ab|fail
    ·omega
    ·exact⟨f,out++[y.id],by omega,by simp,by simp,by simp;omega,i⟩
 ·have v:decide ((out.length:Int)<(s.length:Int))=false:=by simp;omega
  obtain rfl:m=0:=by omega
  rw[kC]at i;refine aO @v ab ?_;rw[i]
end Go.Proofs.Q
namespace Go.Proofs.Q
open Go Go.Bb Go.Proofs.Lg
def vh:bh:=⟨#[97,110,110]⟩
def lh:aX:={aX.zero with author:=vh,changes:=[{aC.zero with kind:=1,type:=1},{aC.zero with kind:=2,parent:=⟨.zero,-1⟩,name:=⟨#[97]⟩}]}
def gL:Dg:=⟨[19,235,188,69,230,25,248,132,171,121,21,110,152,136,153,172,90,217,247,149,185,142,44,70,166,161,104,214,98,3,76,47],by decide,by unfold Bytes;decide⟩
def gr:Dg:=⟨[189,17,240,53,165,91,195,90,247,74,137,247,252,206,255,98,13,244,100,220,23,197,54,10,197,168,190,57,203,178,206,22],by decide,by unfold Bytes;decide⟩
def nh:Dg:=⟨[35,227,4,80,104,218,74,254,236,47,202,117,4,248,153,128,74,110,42,13,190,65,85,54,213,41,242,102,43,7,119,29],by decide,by unfold Bytes;decide⟩
def G3:Dg:=⟨[148,238,175,252,61,202,3,3,221,153,61,240,35,10,97,255,104,225,225,142,180,26,217,172,63,78,106,151,1,51,199,241],by decide,by unfold Bytes;decide⟩
def Ls(n:UInt8)(o:af):aX:={aX.zero with author:=vh,changes:=[{aC.zero with kind:=2,file:=⟨gL,0⟩,parent:=⟨.zero,-1⟩,name:=⟨#[n]⟩,over:=[o]}]}
def ri:aX:=Ls 98 ⟨gL,1⟩
def tB:aX:=Ls 99 ⟨gr,0⟩
def vj:aX:={aX.zero with author:=vh,changes:=[{aC.zero with kind:=7,over:=[⟨gr,0⟩]}]}
def rj:aD:=[⟨gL,lh⟩]
def rk:aD:=[⟨gL,lh⟩,⟨gr,ri⟩]
def lj:aD:=[⟨gL,lh⟩,⟨nh,tB⟩,⟨gr,ri⟩]
def ic:aD:=[⟨gL,lh⟩,⟨nh,tB⟩,⟨G3,vj⟩,⟨gr,ri⟩]
set_option maxRecDepth 100000 in
theorem Lm:bP ar [] lh=(rj,gL,0):=by kernel_rfl
set_option maxRecDepth 100000 in
theorem Ln:bP ar rj ri=(rk,gr,0):=by kernel_rfl
set_option maxRecDepth 100000 in
theorem Lo:bP ar rk tB=(lj,nh,0):=by kernel_rfl
set_option maxRecDepth 100000 in
theorem Lp:bP ar lj vj=(ic,G3,0):=by kernel_rfl
set_option maxRecDepth 100000 in
theorem UT:oZ ar []=0:=by kernel_rfl
set_option maxRecDepth 100000 in
theorem UN:eR ar lj ⟨nh,0⟩=true:=by kernel_rfl
set_option maxRecDepth 100000 in
theorem UO:eR ar lj ⟨gr,0⟩=false:=by kernel_rfl
set_option maxRecDepth 100000 in
theorem UP:eR ar lj ⟨gL,1⟩=false:=by kernel_rfl
set_option maxRecDepth 100000 in
theorem UQ:eR ar ic ⟨gL,1⟩=true:=by kernel_rfl
set_option maxRecDepth 100000 in
theorem UR:eR ar ic ⟨gr,0⟩=false:=by kernel_rfl
set_option maxRecDepth 100000 in
theorem US:eR ar ic ⟨nh,0⟩=true:=by kernel_rfl
set_option maxRecDepth 100000 in
theorem UZ:(rf ar ic ⟨gr,0⟩).length=2:=by kernel_rfl
end Go.Proofs.Q
