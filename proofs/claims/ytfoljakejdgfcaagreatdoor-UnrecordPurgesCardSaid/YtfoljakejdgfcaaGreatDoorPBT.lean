/- Part of a proof. -/
import Derived.Test.YtfoljakejdgfcaaGreatDoorNF
set_option linter.unusedVariables false
set_option linter.unusedSimpArgs false
namespace Go.Proofs.Q
open Go Go.Bb Go.RowKit Go.Proofs.Lg
open Go.Ab (D RD)
def gM(G:dy):MD:=G.map fun e=>(e.1,.d (.sl 32 (e.2.map aq)))
def sI(G:dy)(i:Nat)(V:dy):dy:=match G[i]? with
 |some (id,needs)=>kN (fC V id []) id needs
 |none=>V
def fW(G:dy):List Nat→dy→dy
 |[],V=>V
 |i::idx,V=>fW G idx (sI G i V)
theorem LG(G:dy)(i:Nat): ∀(a:List Nat) (V:dy),fW G (a++[i]) V=sI G i (fW G a V)
 |[],V=>rfl
 |j::a,V=>LG G i a _
theorem CE(id:Dg): ∀(needs:List Dg) (V:dy) (c:Nat),(∀e∈V,e.2.length≤c)→ ∀e∈kN V id needs,e.2.length≤c+needs.length
 |[],V,c,h=>fun e a=>h e a
 |d::l,V,c,h=>fun e a=>by
  have:=CE id l (fC V d [id]) (c+1) (fun e a=>by have:=xf (news:=[id]) h e a;simpa using this) e a;rw[aU];omega
theorem Xu(I:Nat→Nat)(w:World)(d:Dg):RD I w (.agg (cj d).toArray) (.agg ((cj d).map .sc)):=
 .agg _ _ (by simp) (fun u a=>by obtain⟨b,_,rfl⟩:=cy.1 a;rfl) fun i u e a c=>by
  rw[cC,a]at c;cases c;exact .sc u
theorem P5{k:aF}{w:World}{x:AV}(n:Nat): ∀{vs:List Value},eT k w vs [x]→FR k w {tmps:=vs.toArray++Array.replicate (n-vs.toArray.size) undef,defers:=[]} [(0,x)]
 |[v],hvs=>fun t y a=>by
  unfold Bb.look at a;split at a
  ·rename_i e;subst e;obtain rfl:=az a;have hg:((#[v]:Array Value)++Array.replicate (n-1) undef).getD 0 undef=v:=by rw[pj,Co (by simp)];rfl
   show RA k w (((#[v]:Array Value)++Array.replicate (n-1) undef).getD 0 undef) x;rw[hg];exact hvs.2 0 v _ rfl rfl
  ·cases a
theorem Dk{G:dy}{i:Nat}{x:List Value×AV}(h:(cM (gM G))[i]?=some x): ∃id needs,G[i]?=some (id,needs)∧x=(cj id,.d (.sl 32 (needs.map aq))):=by
 unfold cM gM at h;rw[cC,cC]at h;cases a:G[i]? with
 |none=>rw[a]at h;cases h
 |some e=>rw[a]at h;cases h;exact⟨e.1,e.2,rfl,rfl⟩
theorem tO{t u:Nat}{x y:AV}(h:Bb.look [(u,x)] t=some y):t=u∧y=x:=by
 unfold Bb.look at h;split at h
 ·rename_i e;exact⟨e.symm,(az h).symm⟩
 ·cases h
set_option maxHeartbeats 1000000 in
theorem YK(G:dy)(c0:G.length≤100000)(Q: ∀e∈G,e.2.length≤100000)(s:List aa)(g:Nat)(hg:s[g]?=some (.map true (cM (gM G)))):
  j2 (dx Tryz.prog) Tryz.prog 83 [.mp g] s fun d s'=> ∃c M,c.Nodup∧c.length=G.length∧(∀i∈c,i<G.length)∧d= .mp s.length∧TS s.length M (fW G c []) s':=by
 obtain⟨cX,cY,cZ,rest,a9,b0,b8,oa,oc,o1,o2,o3,l4,A,⟨k1,k2,k3,k4,k5⟩,⟨a1,a2,a3,a4,a5,a6,a7⟩,⟨b1,b2,b3,b4,b5,b6,b7⟩,⟨c1,c2,c3,c4⟩,u⟩:=YI;have p:=(aR.1 hg).1;refine j2.of (fr:=[(0,.mp g)]) Tryz.func83 A (by rfl) (by show 1≤39;decide) (fun k w vs Y=>P5 _ Y) ?_;show dG (dx Tryz.prog) Tryz.prog 39 none _ _ _ _
 refine dG.seq (dG.ofAC (bL (cc:=Fs) ?_) ⟨_,k1⟩);unfold Fs;refine aw @wj trivial ?_;refine dG.seq (dG.ofAC (bL (cc:=Ft) ?_) ⟨_,k2⟩);unfold Ft;refine aw @wj trivial ?_;refine dG.seq ?_
 refine dG.map (t0:=0) (t9:=9) (t10:=10) (t11:=11) (t12:=12) (t13:=13) (fr0:=[(3,.mp s.length)]) (g:=g) (ag:=true) (es:=cM (gM G)) (keyA:=fun us=> .d (.agg (us.map .sc))) (J:=fun c D=>D[g]?=some .hole∧(∃M,TS s.length M (fW G c []) D)∧ ∀e∈fW G c [],e.2.length≤c.length*100000)
  (s2:=(s.map fun _=>aa.junk).set g .hole++[.map true []]) a1 a2 a3 a4 a5 a6 a7 Tryz.underlying116 b1 b2 b3 b4 b5 b6 b7 c1 c2 c3 c4 (by decide) (by decide) (by decide) (by decide) (by decide) ?n4 ?nd4 (by decide) ?hfr ?hfr' ?hkey ?hval ?hround ?hf0 ?hg ?hl2 ?hh2 ?hfree ?hrg ?hfr0 ?hJ0 ?hJh ?hQ
 case n4=>
  intro o X d hd;have:=iA.1 u o X;rw[hd]at this;simp at this;exact this.1
 case nd4=>
  intro o X;have:=iA.1 u o X;rw[eI]at this;exact this.2
 case hfr=>intro t y h;obtain⟨rfl,_⟩:=tO h;decide
 case hfr'=>intro t y h;obtain⟨rfl,_⟩:=tO h;decide
 case hkey=>
  intro k w x f;obtain⟨i,hi⟩:=jR f;obtain⟨id,needs,_,rfl⟩:=Dk hi;exact .d (Xu _ _ id)
 case hval=>
  intro x f;obtain⟨i,hi⟩:=jR f;obtain⟨id,needs,_,rfl⟩:=Dk hi;exact⟨_,rfl⟩
 case hf0=>rfl
 case hg=>exact bt hg _
 case hl2=>simp
 case hh2=>rw[eQ (by simpa using p),dJ (by simpa using p)]
 case hrg=>intro h;cases h
 case hfree=>
  intro id x W f;rw[gY]at f;split at f
  ·rw[bs (Ne.symm W),cC]at f;obtain⟨y,_,rfl⟩:=db.1 f;exact .inl rfl
  ·rename_i m;have hl:((s.map fun _=>aa.junk).set g .hole).length=s.length:=by simp
   rw[hl]at m f;have h0:id-s.length=0:=by
    rcases nW (id-s.length)with h0|h0
    ·exact h0
    ·rw[fZ (by simp;omega)]at f;cases f
   rw[h0]at f;obtain rfl:=az f;refine .inr ⟨?_,uG.mapNil g true⟩;rw[gZ a8,h0];rfl
 case hfr0=>
  intro k w a U t y h;obtain⟨rfl,rfl⟩:=tO h;obtain⟨b,hb,hv⟩:=(U 3 (.mp s.length) rfl).mp_inv;rw[hv];exact .mp (by show(k.own.set g .hole)[s.length]?=_;rw[bs a8];exact hb)
 case hJ0=>
  refine⟨?_,⟨[],?_,rfl,List.nodup_nil,fun j k v h=>by simp at h,fun i j e e' r _ h=>by simp at h⟩,fun e n=>by cases n⟩
  ·rw[eQ (by simpa using p),dJ (by simpa using p)]
  ·rw[gZ (by simp)];simp[cM]
 case hJh=>exact fun c D h=>h.1
 case hround=>
  rintro K c i x D C c5 m f ⟨H,⟨M,q⟩,hb⟩;obtain⟨id,needs,E,rfl⟩:=Dk f;have z:c.length≤100000:=by
   have h1:c.length≤(List.range (cM (gM G)).length).length:=tT C fun y hy=>ju.2 (m y hy);have L:(cM (gM G)).length=G.length:=by simp[cM,gM]
   rw[dX,L]at h1;omega
  have I:=Q (id,needs) (bT E);have F:=xf (key:=id) (news:=[]) hb;refine KK (N:=39) ?_ k5 ⟨_,k4⟩;show bR Tryz.prog none (.seq (.ops false [] Ca) (.seq _ Cb)) _ _ _;rw[←BJ];refine YJ s.length g id needs K M (fW G c []) (c.length*100000) a8 hb D q H _ Cb fun P s2 M2 O f3 f5 f4 T V R=> ?_
  refine kG (YL s.length g D.length id needs I K _ (c.length*100000) a8 (fun e n=>by have:=F e n;simpa using this) P s2 M2 O f3 f5 f4 T V R) ?_;rintro e b9 s3 ⟨n,Z,l3,lg,M3,S⟩;have ht:fW G (c++[i]) []=kN (fC (fW G c []) id []) id needs:=by rw[LG];unfold sI;rw[E]
  refine⟨n,fun t y h=> ?_,lg,⟨M3,by rw[ht];exact S⟩,fun e n=> ?_⟩
  ·unfold Bb.look at h;split at h
   ·rename_i e2;subst e2;rw[←h];exact Z
   ·obtain⟨rfl,rfl⟩:=tO h;exact l3
  ·rw[ht]at n;have:=CE id needs _ (c.length*100000) (fun e n=>by have:=F e n;simpa using this) e n;rw[aN,qP];have a0:needs.length≤100000:=I;omega
 case hQ=>
  rintro c D C z m ⟨H,⟨M,q⟩,hb⟩;have L:(cM (gM G)).length=G.length:=by simp[cM,gM]
  show dG (dx Tryz.prog) Tryz.prog 39 none cZ _ _ _;refine dG.ofAC (bL (cc:=Fu) ?_) ⟨_,k3⟩;unfold Fu;refine aw @wj trivial ?_;refine⟨.inr trivial,_,⟨c,M,C,by rw[z,L],fun i hi=>by have:=m i hi;rwa[L]at this,rfl,?_⟩,fun B k a w U hs=>BR (fn:=Tryz.f83) (rs:=[.tmp 2]) (by rfl) (by rfl) U hs⟩
  refine⟨getSet q.map (fun e=>by rw[e,q.map]at H;cases H),q.keys,q.nd,fun j k v hj=> ?_,q.apart⟩;obtain⟨l,l1,l2⟩:=q.row j k v hj;exact⟨l,l1,l2.imp (fun h=>h) fun⟨r,r1,r2⟩=>⟨r,r1,getSet r2 fun e=>by subst e;rw[H]at r2;cases r2⟩⟩
def Fv:CC:=(fo [o0 4 (.mov (.c (.nil 32))),o0 5 (.mov (xi 0))])
def wF:CC:=(.seq (.seq
 (fo [om 16 7,o0 17 (.not (.t 16))])
 (.cond (.t 17)
 (.seq
 (fo [o0 4 (.mov (.c (.nil 32))),o0 5 (.mov (xi 7))])
 .ret)
 .skip))
 (.seq
 (fo [om 18 6,om 4 18,o0 5 (.mov (xi 0))])
 .ret))
theorem Z1: ∃(cX b:Code) (ops:Array Oper) (o1 o2 o3 o4 o5:Oper) (a:List Oper) (c e f:Array Operand) (g t2 t3:Array TypeId),
  Tryz.f44.body=some (.seq cX (.seq (.region 1 ops false) b))∧
  (comp Tryz.prog [] 19 cX=some Fv.erase∧comp Tryz.prog [] 19 b=some wF.erase)∧
  ops.toList=o1::o2::o3::o4::o5::a∧
  (o1.guard=none∧o1.dst=some 9∧o1.op= .move (.tmp 0))∧
  (o2.guard=none∧o2.dst=some 10∧o2.op= .call {callee:= .value (.func 82),args:=c,argTypes:=g}∧gL Tryz.prog g.toList c.toList=some [.t 9])∧
  (o3.guard=none∧o3.dst=some 11∧o3.op= .call {callee:= .value (.func 83),args:=e,argTypes:=t2}∧gL Tryz.prog t2.toList e.toList=some [.t 10])∧
  (o4.guard=none∧o4.dst=some 12∧o4.op= .move (.tmp 1))∧
  (o5.guard=none∧o5.dst=some 13∧o5.op= .call {callee:= .value (.func 84),args:=f,argTypes:=t3}∧gL Tryz.prog t3.toList f.toList=some [.t 11,.t 12])∧
  jz Tryz.prog [] ops a=some [om 8 13,o0 14 (.ext (.t 8) 0),o0 15 (.ext (.t 8) 1),om 6 14,om 7 15]∧(a.all fun o=>(o.dst.all fun d=>decide (d<19))&&eh o)=true:=
 ⟨_,_,_,_,_,_,_,_,_,_,_,_,_,_,_,rfl,⟨by kernel_rfl,by kernel_rfl⟩,rfl,⟨rfl,rfl,rfl⟩,⟨rfl,rfl,rfl,by kernel_rfl⟩,⟨rfl,rfl,rfl,by kernel_rfl⟩,⟨rfl,rfl,rfl⟩,⟨rfl,rfl,rfl,by kernel_rfl⟩,by kernel_rfl,by kernel_rfl⟩
def eH:dy→Dg→List Dg
 |[],_=>[]
 |e::V,d=>if e.1=d then e.2 else eH V d
theorem KQ: ∀{V:dy} {d:Dg},d∉V.map (·.1)→eH V d=[]
 |[],_,_=>rfl
 |e::V,d,h=>by
  rw[eH,if_neg fun a=>h (by simp[a]),KQ fun b=>h (by rw[bO,bY];exact .inr b)]
theorem KN: ∀(V:dy) (key d:Dg) (news:List Dg),key∉V.map (·.1)→eH (V++[(key,news)]) d=if d=key then news else eH V d
 |[],key,d,news,_=>by
  show(if key=d then news else[])=_;by_cases h:d=key
  ·subst h;simp
  ·rw[if_neg h,if_neg (Ne.symm h)];rfl
 |e::V,key,d,news,hk=>by
  rw[ma,eH,eH,KN V key d news fun h=>hk (by rw[bO,bY];exact .inr h)];by_cases h:e.1=d
  ·rw[if_pos h,if_pos h,if_neg fun a=>hk (by rw[←a,←h];simp)]
  ·rw[if_neg h,if_neg h]
theorem KP(key:Dg)(news:List Dg): ∀(V:dy) (d:Dg),eH (V.map fun e=>if e.1=key then(e.1,e.2++news)else e) d=if d=key∧key∈V.map (·.1)then eH V d++news else eH V d
 |[],d=>by simp[eH]
 |e::V,d=>by
  rw[bO,eH,eH,KP key news V d];by_cases h:e.1=key
  ·rw[if_pos h];by_cases a:e.1=d
   ·have:d=key:=by rw[←a,h]
    simp[a,this,h]
   ·have: ¬d=key:=fun b=>a (by rw[b,h]);simp[a,this]
  ·rw[if_neg h];by_cases a:e.1=d
   ·have: ¬d=key:=fun b=>h (by rw[a,b]);simp[a,this]
   ·by_cases c:d=key
    ·subst c;simp only[if_neg a,true_and,bO,bY];have:(d=e.1∨d∈V.map (·.1))↔d∈V.map (·.1):=⟨fun h=>by rcases h with h|h;exact absurd h.symm a;exact h,.inr⟩
     simp only[this]
    ·simp[a,c]
theorem KM(V:dy)(key d:Dg)(news:List Dg):eH (fC V key news) d=if d=key then eH V d++news else eH V d:=by
 unfold fC;by_cases h:key∈V.map (·.1)
 ·rw[if_pos h,KP];simp[h]
 ·rw[if_neg h,KN V key d news h];by_cases a:d=key
  ·subst a;rw[if_pos rfl,if_pos rfl,KQ h];rfl
  ·rw[if_neg a,if_neg a]
theorem I5(V:dy)(key d:Dg)(news:List Dg):d∈(fC V key news).map (·.1)↔d=key∨d∈V.map (·.1):=by
 unfold fC;by_cases h:key∈V.map (·.1)
 ·rw[if_pos h];have a:(V.map fun e=>if e.1=key then(e.1,e.2++news)else e).map (·.1)=V.map (·.1):=by
   rw[lk];apply List.map_congr_left;intro e _;show(if e.1=key then(e.1,e.2++news)else e).1=e.1;split<;>rfl
  rw[a];exact⟨.inr,fun b=>by rcases b with rfl|b;exact h;exact b⟩
 ·rw[if_neg h];simp only[eX,fL,bO,eg,pw];exact or_comm
theorem KR(id d x:Dg): ∀(needs:List Dg) (V:dy),(x∈eH (kN V id needs) d↔x∈eH V d∨(x=id∧d∈needs))∧(d∈(kN V id needs).map (·.1)↔d∈V.map (·.1)∨d∈needs)
 |[],V=>by simp[kN]
 |e::l,V=>by
  obtain⟨b,c⟩:=KR id d x l (fC V e [id]);rw[kN,b,c,KM,I5];constructor
  ·by_cases a:d=e
   ·subst a;simp only[if_true,fL,bY,List.not_mem_nil,or_false,true_or,and_true];constructor
    ·rintro((h|h)|⟨h,_⟩)
     ·exact .inl h
     ·exact .inr h
     ·exact .inr h
    ·rintro(h|h)
     ·exact .inl (.inl h)
     ·exact .inl (.inr h)
   ·simp only[a,if_false,bY,false_or]
  ·rw[bY];constructor
   ·rintro((h|h)|h)
    ·exact .inr (.inl h)
    ·exact .inl h
    ·exact .inr (.inr h)
   ·rintro(h|h|h)
    ·exact .inl (.inr h)
    ·exact .inl (.inl h)
    ·exact .inr h
theorem uk(G:dy)(d x:Dg): ∀(a:List Nat) (V:dy),(x∈eH (fW G a V) d↔x∈eH V d∨ ∃i∈a,∃needs,G[i]?=some (x,needs)∧d∈needs)∧(d∈(fW G a V).map (·.1)↔d∈V.map (·.1)∨ ∃i∈a,∃id needs,G[i]?=some (id,needs)∧(d=id∨d∈needs))
 |[],V=>by simp[fW]
 |i::a,V=>by
  obtain⟨f,g⟩:=uk G d x a (sI G i V);rw[fW,f,g];unfold sI;cases b:G[i]? with
  |none=>
   simp only[bY,exists_eq_or_imp,b,reduceCtorEq,false_and,exists_false,false_or,exists_const];exact⟨trivial,trivial⟩
  |some e=>
   obtain⟨id,needs⟩:=e;obtain⟨j,k⟩:=KR id d x needs (fC V id []);simp only[bY,exists_eq_or_imp,b,Option.some.injEq,Prod.mk.injEq];rw[j,k,KM,I5];constructor
   ·have c:(if d=id then eH V d++[]else eH V d)=eH V d:=by split<;>simp
    rw[c,or_assoc];apply or_congr dj;apply or_congr _ dj;constructor
    ·rintro⟨rfl,h⟩;exact⟨needs,⟨rfl,rfl⟩,h⟩
    ·rintro⟨_,⟨rfl,rfl⟩,h⟩;exact⟨rfl,h⟩
   ·constructor
    ·rintro(((h|h)|h)|h)
     ·exact .inr (.inl ⟨id,needs,⟨rfl,rfl⟩,.inl h⟩)
     ·exact .inl h
     ·exact .inr (.inl ⟨id,needs,⟨rfl,rfl⟩,.inr h⟩)
     ·exact .inr (.inr h)
    ·rintro(h|⟨_,_,⟨rfl,rfl⟩,h|h⟩|h)
     ·exact .inl (.inl (.inr h))
     ·exact .inl (.inl (.inl h))
     ·exact .inl (.inr h)
     ·exact .inr h
theorem P4{k:aF}{w:World}(n:Nat){vs:List Value}{xs:List AV}(a:eT k w vs xs)(d:xs.length≤n):FR k w {tmps:=vs.toArray++Array.replicate (n-vs.toArray.size) undef,defers:=[]} (lu 0 xs):=fun t x b=>by
 rw[DH]at b;simp only[fM,if_true,nZ]at b;have e:=(aR.1 b).1;have d:=a.1;have c:vs[t]?=some vs[t]:=bV a8;have hg:(vs.toArray++Array.replicate (n-vs.toArray.size) undef).getD t undef=vs[t]:=by
  rw[pj,Co (by simp;omega)];simp[c]
 show RA k w ((vs.toArray++Array.replicate (n-vs.toArray.size) undef).getD t undef) x;rw[hg];exact a.2 t _ x c b
def gR(l:aP):dy:=l.map fun x=>(x.id,bB x.pat)
theorem Pc(l:aP):gM (gR l)=gS l:=by unfold gM gR gS;rw[lk];rfl
theorem TS.toD{n:Nat}{M:MD}{V:dy}{s:List aa}(h:TS n M V s): ∀e∈M,e.2.toD=some (.sl 32 ((eH V e.1).map aq))∧e.1∈V.map (·.1):=fun e g=>by
 obtain⟨j,i⟩:=jR g;obtain⟨l,d,a⟩:=h.row j e.1 e.2 i;have k:eH V e.1=l:=by
  have: ∀(V:dy) (j:Nat),(V.map (·.1)).Nodup→V[j]?=some (e.1,l)→eH V e.1=l:=by
   intro V
   induction V with
   |nil=>intro j _ h;simp at h
   |cons y V m=>
    intro j c h;rw[eH];rw[bO,mb]at c;cases j with
    |zero=>simp at h;rw[h];simp
    |succ j=>
     have hm:e.1∈V.map (·.1):=j3 (f:=Prod.fst) (bT (show V[j]?=some (e.1,l) by simpa using h));rw[if_neg fun a=>c.1 (by rw[a];exact hm)];exact m j c.2 (by simpa using h)
  exact this V j h.nd d
 refine⟨?_,j3 (f:=Prod.fst) (bT d)⟩;rw[k];rcases a with⟨b,rfl⟩|⟨r,b,_⟩
 ·rw[b];rfl
 ·rw[b];rfl
theorem gA.of{c:Nat→Code→CC→Prop}{P:Program}{N:Nat}{ops:Array Oper}{l:List Oper}{fr fr':Fr}{s e:List aa}{f:List Nat}{Q:Exit→Fr→List aa→Prop}(h:fY c P ops l fr s f fr' e)(i:Q .normal fr' e)(g: ∀o∈l,∀d,o.dst=some d→d<N)(b: ∀o∈l,eh o=true):gA c P N ops l fr s Q:=fun B D r q t k a w ha j n p m=>FC h i g b k a w ha j n p m
theorem gA.round{P:Program}{N:Nat}{cs:List CO}{tail:CC}{Q:Exit→Fr→List aa→Prop}{fr:Fr}{s:List aa}{f:List Nat}{ops:Array Oper}{l:List Oper}{c:Code}(m:jz P f ops l=some cs)(hc:dx P N c tail)(j: ∀o∈l,∀d,o.dst=some d→d<N)(b: ∀o∈l,eh o=true)
  (h:bR P none (.seq (.ops false [] cs) tail) Q fr s):gA (dx P) P N ops l fr s fun e fr s=>e= .normal∧fp (fun a n=>dG (dx P) P N none c a n Q) Q .normal fr s:=
 let⟨p,g,s2,i,k⟩:=KK (N:=N) h m hc;gA.of i ⟨rfl,k⟩ j b
theorem KO{c:Nat}: ∀{V:dy} (d:Dg),(∀e∈V,e.2.length≤c)→(eH V d).length≤c
 |[],_,_=>fM _
 |e::V,d,h=>by
  rw[eH];split
  ·exact h e (by simp)
  ·exact KO d fun e a=>h e (by simp[a])
theorem LF{G:dy}(d: ∀e∈G,e.2.length≤100000): ∀(b:List Nat) (V:dy) (c:Nat),(∀e∈V,e.2.length≤c)→ ∀e∈fW G b V,e.2.length≤c+b.length*100000
 |[],V,c,h=>fun e a=>by have:=h e a;simp;exact this
 |i::b,V,c,h=>fun e a=>by
  have f: ∀e∈sI G i V,e.2.length≤c+100000:=fun e a=>by
   unfold sI at a;split at a
   ·rename_i id needs hg;have g:=d _ (bT hg);have j:=CE id needs _ c (fun e a=>by have:=xf (news:=[]) h e a;simpa using this) e a;have k:needs.length≤100000:=g;omega
   ·have:=h e a;omega
  have:=LF d b _ (c+100000) f e a;rw[aU];omega
theorem Dl{l:aP}{i:Nat}{id:Dg}{needs:List Dg}(h:(gR l)[i]?=some (id,needs)): ∃x∈l,id=x.id∧needs=bB x.pat:=by
 unfold gR at h;rw[cC]at h;obtain⟨x,b,a⟩:=db.1 h;cases a;exact⟨x,bT b,rfl,rfl⟩
def CD(l:aP)(ids:List Dg)(d:AV)(b:List aa):Prop:=
 ∃a:List Nat,a.Nodup∧a.length=(gR l).length∧(∀i∈a,i<(gR l).length)∧
 (
  ((∀x∈ids,x∈(fW (gR l) a []).map (·.1))∧ ∃(O:List Dg),O.Nodup∧(∀x,x∈O↔pE (eH (fW (gR l) a [])) ids x)∧bu b 5 d=some (.tup [.sl 32 ((O.mergeSort eo).map aq),dI 0]))∨
  ((¬ ∀x∈ids,x∈(fW (gR l) a []).map (·.1))∧bu b 5 d=some (.tup [.sl 32 [],dI 7])))
set_option maxHeartbeats 2000000 in
theorem Z2(l:aP)(hl:l.length≤100000)(J: ∀x∈l,cV x.pat∧e8 x.pat)(V:(bA l).Nodup)(H: ∀x∈l,(bB x.pat).length≤100000)(R: ∀x∈l,∀d∈bB x.pat,d∈bA l)(ids:List Dg)(T:ids.length≤1000000):
  j2 (dx Tryz.prog) Tryz.prog 44 [.d (.sl 37 (l.map b8)),.d (.sl 32 (ids.map aq))] [] (CD l ids):=by
 obtain⟨cX,cZ,ops,o1,o2,o3,o4,o5,l5,p1,p2,p3,t1,t2,t3,q,⟨k1,k2⟩,I,⟨a1,a2,a3⟩,⟨b1,b2,b3,b4⟩,⟨c1,c2,c3,c4⟩,⟨d1,d2,d3⟩,⟨e1,e2,e3,e4⟩,k5,m⟩:=Z1;refine j2.of (fr:=lu 0 [.d (.sl 37 (l.map b8)),.d (.sl 32 (ids.map aq))]) Tryz.func44 q (by rfl) (by show 2≤19;decide) (fun k w vs Y=>P4 _ Y (by show 2≤19;decide)) ?_
 show dG (dx Tryz.prog) Tryz.prog 19 none _ _ _ _;refine dG.seq (dG.ofAC (bL (cc:=Fv) ?_) ⟨_,k1⟩);unfold Fv;refine aw @wj trivial ?_;refine dG.seq (dG.region ?_);rw[I];have j: ∀(o:Oper) (fr:Fr),o.guard=none→gd ops fr o=some true:=fun o fr h=>by unfold gd;rw[h]
 have z: ∀(o:Oper) (f:FuncId) (ps:Array Operand) (ts:Array TypeId),o.op= .call {callee:= .value (.func f),args:=ps,argTypes:=ts}→eh o=true:=fun o f ps ts h=>by unfold eh;rw[h]
 have L: ∀(o:Oper) (x:Operand),o.op= .move x→eh o=true:=fun o x h=>by unfold eh;rw[h]
 refine gA.step (j _ _ a1) (L _ _ a3) (fun d c=>by rw[a2]at c;cases c;decide) (Bs (t:=0) (y:= .t 0) (.inl a3) rfl rfl) ?_;rw[a2];refine gA.stepN (j _ _ b1) (z _ _ _ _ b3) (fun d c=>by rw[b2]at c;cases c;decide) (DT b3 b4 rfl (j2.ofK (HL l a8 J V))) ?_;rintro _ s1 ⟨rfl,E⟩;rw[b2];rw[←Pc]at E
 refine gA.stepN (j _ _ c1) (z _ _ _ _ c3) (fun d c=>by rw[c2]at c;cases c;decide) (DT c3 c4 rfl (YK (gR l) (by unfold gR;rw[aL];exact hl) (fun e r=>by obtain⟨x,n,rfl⟩:=cy.1 r;exact H x n) s1 0 E)) ?_;rintro _ s2 ⟨b,M,F,s,G,rfl,N⟩;rw[c2]
 refine gA.step (j _ _ d1) (L _ _ d3) (fun d c=>by rw[d2]at c;cases c;decide) (Bs (t:=0) (y:= .t 1) (.inl d3) rfl rfl) ?_;rw[d2];have g:M.map (·.1)=(fW (gR l) b []).map (·.1):=N.keys;have U:(gR l).length=l.length:=by unfold gR;rw[aL]
 have P: ∀e∈gR l,e.2.length≤100000:=fun e r=>by obtain⟨x,n,rfl⟩:=cy.1 r;exact H x n
 have Q:M.length≤100000:=by
  have p:((fW (gR l) b []).map (·.1)).length≤(bA l).length:=tS N.nd fun d c=>by
   rcases(uk (gR l) d d b []).2.1 c with h|⟨i,_,id,needs,A,C⟩
   ·cases h
   ·obtain⟨x,n,rfl,rfl⟩:=Dl A;rcases C with rfl|C
    ·exact j3 (f:=bU.id) n
    ·exact R x n d C
  rw[←g,aL]at p;have:(bA l).length=l.length:=aL _;omega
 have a0:b.length≤100000:=by rw[s,U];exact hl
 refine gA.stepN (j _ _ e1) (z _ _ _ _ e3) (fun d c=>by rw[e2]at c;cases c;decide) (DT e3 e4 rfl (j2.ofK (UI M (eH (fW (gR l) b [])) Q (fun e r=>⟨(N.toD e r).1,?_,?_⟩) s1.length ids T s2 N.map))) ?_
 ·have:=KO e.1 (LF P b [] 0 (fun e r=>by cases r));omega
 ·intro x n;rcases(uk (gR l) e.1 x b []).1.1 n with h|⟨i,p,needs,A,_⟩
  ·cases h
  ·rw[g];exact(uk (gR l) x x b []).2.2 (.inr ⟨i,p,x,needs,A,.inl rfl⟩)
 rintro d Z h;rw[e2];have n5: ∀o∈l5,∀d,o.dst=some d→d<19:=fun o W d c=>by
  have:=iA.1 m o W;rw[c]at this;simp at this;exact this.1
 have K: ∀o∈l5,eh o=true:=fun o W=>by
  have:=iA.1 m o W;rw[eI]at this;exact this.2
 rw[g]at h;rcases h with⟨p,O,v,A,C,rfl,h5⟩|⟨p,rfl⟩
 ·have u:CD l ids (.tup [v,.d (dI 0)]) Z:=⟨b,F,s,G,.inl ⟨p,O,A,C,by
   show(cU (bu Z 4) [v,.d (dI 0)]).map D.tup=_;unfold cU;rw[h5 2];rfl⟩⟩
  have X:=iH Tryz.prog v;refine gA.round (tail:=wF) k5 ⟨_,k2⟩ n5 K ?_;unfold wF;simp only[cG];refine aw (ga @X @wj) trivial ?_;exact⟨.inr trivial,_,u,fun B k a w S J=>BR (fn:=Tryz.f44) (rs:=[.tmp 4,.tmp 5]) (by rfl) (by rfl) S J⟩
 ·have u:CD l ids (.tup [.nil 32,.d (dI 7)]) Z:=⟨b,F,s,G,.inr ⟨p,by simp[bu,cU,AV.toD,AV.toL]⟩⟩
  refine gA.round (tail:=wF) k5 ⟨_,k2⟩ n5 K ?_;unfold wF;simp only[cG];refine aw @wj trivial ?_;exact⟨.inr trivial,_,u,fun B k a w S J=>BR (fn:=Tryz.f44) (rs:=[.tmp 4,.tmp 5]) (by rfl) (by rfl) S J⟩
theorem HX{n:Nat}{a:List Nat}(c:a.Nodup)(f:a.length=n)(d: ∀i∈a,i<n)(i:Nat)(hi:i<n):i∈a:=by
 apply iK;intro e;have:=tT (l:=i::a) (u:=List.range n) (mb.2 ⟨e,c⟩) fun y b=>ju.2 (by rcases bY.1 b with rfl|b;exact hi;exact d y b);rw[aU,dX]at this;omega
theorem HG{l:aP}{x:bU}(a:x∈l): ∃i,i<(gR l).length∧(gR l)[i]?=some (x.id,bB x.pat):=by
 obtain⟨i,hi⟩:=jR a;have:(gR l)[i]?=some (x.id,bB x.pat):=by unfold gR;rw[cC,hi];rfl
 exact⟨i,(aR.1 this).1,this⟩
theorem LH{H:aZ→Dg}{l:aP}(h:gK H l){a:List Nat}(e:a.Nodup)(g:a.length=(gR l).length)(j: ∀i∈a,i<(gR l).length)(d:Dg):d∈(fW (gR l) a []).map (·.1)↔d∈bA l:=by
 rw[(uk (gR l) d d a []).2];constructor
 ·rintro(c|⟨i,_,id,needs,c,h5⟩)
  ·cases c
  ·obtain⟨x,b,rfl,rfl⟩:=Dl c;rcases h5 with rfl|h5
   ·exact j3 (f:=bU.id) b
   ·exact h.needs x b d h5
 ·intro k;obtain⟨x,b,rfl⟩:=cy.1 k;obtain⟨i,hi,hg⟩:=HG b;exact .inr ⟨i,HX e g j i hi,_,_,hg,.inl rfl⟩
theorem LI{H:aZ→Dg}{l:aP}(h:gK H l){a:List Nat}(g:a.Nodup)(j:a.length=(gR l).length)(k: ∀i∈a,i<(gR l).length)(d x:Dg):x∈eH (fW (gR l) a []) d↔x∈bA l∧d∈oO l x:=by
 rw[(uk (gR l) d x a []).1];constructor
 ·rintro(c|⟨i,_,needs,c,h5⟩)
  ·cases c
  ·obtain⟨y,b,rfl,rfl⟩:=Dl c;refine⟨j3 (f:=bU.id) b,?_⟩;unfold oO;rw[vq h.sorted.nodup y b];exact h5
 ·rintro⟨m,e⟩;obtain⟨y,b,rfl⟩:=cy.1 m;unfold oO at e;rw[vq h.sorted.nodup y b]at e;obtain⟨i,hi,hg⟩:=HG b;exact .inr ⟨i,HX g j k i hi,_,hg,e⟩
theorem YG{H:aZ→Dg}{l:aP}(h:gK H l){a:List Nat}(n:a.Nodup)(o:a.length=(gR l).length)(p: ∀i∈a,i<(gR l).length){ids:List Dg}(hi: ∀d∈ids,d∈bA l)(x:Dg):pE (eH (fW (gR l) a [])) ids x↔x∈bA l∧ ∃e∈ids,∃j,Path l j x e:=by
 constructor
 ·intro r
  induction r with
  |base b=>exact⟨hi _ b,_,b,0,rfl⟩
  |step _ b m=>
   obtain⟨s,t⟩:=(LI h n o p _ _).1 b;obtain⟨_,e,k,j,f⟩:=m;exact⟨s,e,k,j+1,_,t,f⟩
 ·rintro⟨b,e,k,j,f⟩
  induction j generalizing x with
  |zero=>obtain rfl:x=e:=f;exact .base k
  |succ j m=>
   obtain⟨c,hc,f⟩:=f;obtain⟨y,q,rfl⟩:=cy.1 b;have g:c∈bB y.pat:=by unfold oO at hc;rw[vq h.sorted.nodup y q]at hc;exact hc
   exact .step (m c (h.needs y q c g) f) ((LI h n o p c y.id).2 ⟨b,hc⟩)
theorem Yu{O:List Dg}(h:O.Nodup):dA (O.mergeSort eo):=by
 have c:(O.mergeSort eo).Nodup:=(List.mergeSort_perm O eo).nodup_iff.2 h;refine(List.Pairwise.and (Ln O) c).imp fun{a b} ⟨h1,h2⟩=> ?_;simp only[eo,decide_eq_true_eq]at h1;rcases Int.lt_or_eq_of_le h1 with h|h
 ·exact h
 ·exact absurd ((lz a b).1 h) h2
theorem j2.mono'{g:Nat→Code→CC→Prop}{P:Program}{f:FuncId}{xs:List AV}{s:List aa}{K c:AV→List aa→Prop}(h:j2 g P f xs s K)(l: ∀d s,K d s→c d s):j2 g P f xs s c:=
 ⟨h.enters,fun B k w vs a b=>(h.calls B k w vs a b).mono fun e w' ⟨d,m,i,j⟩=>⟨d,m,l _ _ i,j⟩⟩
theorem UH{H:aZ→Dg}{l:aP}(h:gK H l)(o:l.length≤100000)(p: ∀x∈l,cV x.pat∧e8 x.pat)(m: ∀x∈l,(bB x.pat).length≤100000)(ids:List Dg)(k:ids.length≤1000000):
  aE Tryz.prog 44 [.sl 37 (l.map b8),.sl 32 (ids.map aq)] (.tup [.sl 32 ((ej l ids).1.map aq),dI (ej l ids).2]):=by
 refine aE.of_runsN (j2.mono' (Z2 l o p h.sorted.nodup m h.needs ids k) ?_);rintro d u ⟨q,b,c,e,⟨f,O,g,a,n⟩|⟨f,g⟩⟩
 ·have hi: ∀d∈ids,d∈bA l:=fun d i=>(LH h b c e d).1 (f d i);obtain⟨r,s,t⟩:=Fw h hi;have j:O.mergeSort eo=(ej l ids).1:=Fh (Yu g) s fun x=>by
   rw[t,(List.mergeSort_perm O eo).mem_iff,a,YG h b c e hi]
  rw[n,j,r]
 ·have hi: ¬ ∀d∈ids,d∈bA l:=fun a=>f fun d i=>(LH h b c e d).2 (a d i);have j:ej l ids=([],7):=by unfold ej;rw[if_neg fun a=>hi ((qV _ _).1 a)]
  rw[g,j];rfl
theorem AC.freeze{P:Program}{N:Nat}{J:CC}{Q:Exit→Fr→List aa→Prop}{fr fr':Fr}{s:List aa}{i:Nat}{ds:List D}(M:s[i]?=some (.cells (ds.map .d)))
  (F: ∀t x,Bb.look fr' t=some x→Bb.look fr t=some x∨(Bb.look fr t=some (.ptr i 0)∧x= .d (.ref ds))) (h:AC P N none J Q fr' (s.set i .junk)):AC P N none J Q fr s:=by
 obtain⟨e,A,s1,Y,Z⟩:=h;refine⟨e,A,s1,Y,fun c U B k a w r O R L f=> ?_⟩;obtain⟨b,t,n,hb,hw,q,S⟩:=f.cells M;have hm:Mono k w ⟨dH k.I b n.length,k.own⟩ w:=⟨fun v o u g E=>by
  refine⟨?_,E⟩;show o<dH k.I b n.length v;by_cases e:v=b
  ·subst e;rw[S]at g;omega
  ·rw[gT _ _ e];exact g,fun id o g=>⟨o,g,de.refl o⟩⟩
 have T:=(f.lies i _ b hb rfl).1;have hx:Ext B k w ⟨dH k.I b n.length,k.own⟩ w:=⟨hm,Below.refl _ _,fun v p=>gT _ _ a8,fun _ _ _=>rfl,fun id o v g l _=>⟨o,g,l⟩⟩
 have G:St (dx P) B ⟨dH k.I b n.length,k.own⟩ (s.set i .junk) w:=by
  refine⟨f.base,by simp[f.len],fun id x o m g=> ?_,f.lies,f.apart,f.glob⟩;by_cases e:id=i
  ·subst e;rw[dJ (aR.1 M).1]at m;obtain rfl:=az m;cases o<;>trivial
  ·rw[bs (Ne.symm e)]at m;refine(f.obj id x o m g).same hm fun v l=>⟨rfl,gT _ _ ?_⟩
   intro K;rw[K]at l;exact f.apart id i o _ b e g hb l rfl
 have W:FR ⟨dH k.I b n.length,k.own⟩ w a fr':=fun t x H=>by
  rcases F t x H with h4|⟨h4,rfl⟩
  ·exact(L t x h4).mono hm
  ·obtain⟨v,p,hv⟩:=(L t _ h4).ptr_inv;rw[hb]at p;cases p;rw[hv];have y:=q.mono hm;refine .d (.ref b 0 n ds (by simpa using q.1) q.2.1 (fun j u z=>⟨?_,?_⟩) fun j u d z V=> ?_)
   ·show 0+j<dH k.I b n.length b;rw[fH];have:=(aR.1 z).1;omega
   ·rw[au];simp[World.cell?,hw,z]
   ·exact(y.2.2 j u (.d d) z (by rw[cC,V];rfl)).d_inv
 have C:pF ⟨dH k.I b n.length,k.own⟩ none r:=by cases r<;>exact O
 exact wpIn_mono (Z c U B _ a w r C R W G) fun K a2 w2 X=>X.trans (Marks.refl _ _ _ _) hx
theorem YP(x:Dg)(U:List Dg):aE Tryz.prog 45 [.agg (aq x),.ref [.sl 32 (U.map aq)]] (dB (bN U x)):=by
 have a:=D4 U x;refine aI (F:=Bf) TK (by simp[Bf]) ?_;simp only[Bf]
 repeat' first|refine ak (fun _=> ?_) fun _=> ?_|refine bb @wj @a ?_|exact ba @wj @a|fail
 all_goals first|rfl|(simp_all;done)|trace_state
theorem YQ{H:aZ→Dg}{l:aP}(h:gK H l)(r:l.length≤100000)(u: ∀x∈l,cV x.pat∧e8 x.pat)(k: ∀x∈l,(bB x.pat).length≤100000)(a:List Dg)(j:a.length≤1000000):
  aE Tryz.prog 14 [.sl 37 (l.map b8),.sl 32 (a.map aq)] (.tup [.sl 37 ((if(ej l a).2=0 then l.filter (fun x=> !bN (ej l a).1 x.id)else[]).map b8),.sl 32 ((if(ej l a).2=0 then(ej l a).1 else[]).map aq),dI (ej l a).2]):=by
 have f:=UH h r u k a j;obtain⟨U,p⟩: ∃U,U=(ej l a).1:=⟨_,rfl⟩
 obtain⟨e,q⟩: ∃e,e=(ej l a).2:=⟨_,rfl⟩
 rw[←p,←q]at f⊢;by_cases c:e=0
 ·subst c;rw[if_pos rfl,if_pos rfl];have n:=fun s=>LN l a8 45 [] [.d (.ref [.sl 32 (U.map aq)])] (fun x=>bN U x) s (fun x w K _ _ o=>aj.data (YP x.id U) rfl (o 0));refine ph (F:=s5) Jv (by simp[s5]) ?_;simp only[s5];refine AC.seq (bL ?_);refine aw @wj trivial ?_;refine AC.seq (bL ?_)
  refine aw @wj @f ?_;refine AC.freeze (i:=0) (ds:=[.sl 32 (U.map aq)]) (fr':=[(7,.d (.ref [.sl 32 (U.map aq)])),(8,.d (dI 0)),(0,.d (.sl 37 (l.map b8)))]) rfl (fun t x b=> ?_) (bL ?_)
  ·unfold Bb.look at b;split at b
   ·rename_i e;subst e;cases b;exact .inr ⟨rfl,rfl⟩
   ·unfold Bb.look at b;split at b
    ·rename_i e;subst e;cases b;exact .inl rfl
    ·obtain⟨rfl,rfl⟩:=tO b;exact .inl rfl
  repeat' first|refine ak (fun _=> ?_) fun _=> ?_|(refine aj.fn ((n _).mono ?_);rintro v w ⟨_,g⟩)|refine bb @wj trivial ?_|exact ba @wj trivial|fail
  have m:=iH Tryz.prog v;refine aw (ga @m @wj) trivial ?_;rw[g 2];rfl
 ·rw[if_neg c,if_neg c];have hb:(e !=0)=true:=by simpa using c
  refine aI (F:=s5) Jv (by simp[s5]) ?_;simp only[s5];exact bx (ga @hb @wj) @f
  all_goals first|rfl|trace_state
theorem JR{H:aZ→Dg}{l:aP}(h:gK H l)(a:List Dg):ji l a=(if(ej l a).2=0 then l.filter (fun x=> !bN (ej l a).1 x.id)else[],if(ej l a).2=0 then(ej l a).1 else[],(ej l a).2):=by
 by_cases b: ∀d∈a,d∈bA l
 ·rw[UK h b];have c:=(Fw h b).1;rw[if_pos c,if_pos c,c];rfl
 ·obtain⟨d,i,e⟩: ∃d,d∈a∧d∉bA l:=iK fun f=>b fun x k=>iK fun e=>f ⟨x,k,e⟩;rw[UJ i e];have j:ej l a=([],7):=by unfold ej;rw[if_neg fun g=>b ((qV _ _).1 g)]
  rw[j];rfl
theorem LK{H:aZ→Dg}{l:aP}(h:gK H l)(d:l.length≤100000)(e: ∀x∈l,cV x.pat∧e8 x.pat)(c: ∀x∈l,(bB x.pat).length≤100000)(a:List Dg)(b:a.length≤1000000):
  aE Tryz.prog 14 [.sl 37 (l.map b8),.sl 32 (a.map aq)] (.tup [.sl 37 ((ji l a).1.map b8),.sl 32 ((ji l a).2.1.map aq),dI (ji l a).2.2]):=by
 rw[JR h a];exact YQ h d e c a b
theorem LM{H:aZ→Dg}{l:aP}(h:gK H l)(b:l.length≤100000)(a: ∀x∈l,cV x.pat∧e8 x.pat)(d:Dg):
  aE Tryz.prog 12 [.sl 37 (l.map b8),.agg (aq d)] (.tup [.sl 37 ((lO l d).1.map b8),dI (lO l d).2]):=by
 rw[←XH h d];exact YS l a8 a d
end Go.Proofs.Q
