/- Lemmas. -/
import Derived.Test.YtellfinifjmloaaGreatDoorPXD
import Derived.Test.YtellfinifjmloaaGreatDoorPX4
import Derived.Test.YtellfinifjmloaaGreatDoorTie
import Derived.Test.YtellfinifjmloaaGreatDoorCards
import Derived.ShutString
import Derived.LaidMore
import Derived.LaidSub
import Derived.Lay
import Derived.SevenTiedAt
import Derived.Stop.Joined
import Derived.Laws.IdiomArrays
import Derived.ChangeOld
import Derived.Below
import Derived.Lib.LaidTab
set_option linter.unusedVariables false
set_option linter.unusedSimpArgs false
namespace Go.Proofs.Q
open Go Go.Ab Go.Bb
def jF:CF:=⟨112, (kq [ox 3 1,kM 4 xF] (.seq (kq [om 14 0,o6 15 11 [.t 14],o0 16 (.not (.t 15)),om 17 16,oh 18 17 false 0,og 19 17 false (.len 0 (.t 18)),kG 20 17 false .gtr (.t 19) (xi 7),kR 21 17 20,om 22 21,og 23 22 false (.ld (some 5) (.t 3)),og 24 22 false (.call (.fn 31) [.t 23]),kR 25 22 24] (kd 25 (kq [o6 26 12 [],om 4 26] .ret) .skip)) (kq [om 28 0,o2 29 5 3,o0 30 (.bsf 5 1 gy [(0,5,(.t 29))]),o6 31 32 [.t 28,.t 30],om 27 31,oe 32 27 0,oe 33 27 1,oe 34 27 2,om 5 32,om 6 33,om 7 34] (.seq (kq [om 35 7,o0 36 (.not (.t 35)),om 37 36,oh 38 37 false 6,og 39 37 false (.len 0 (.t 38)),kG 40 37 false .neq (.t 39) (xi 1),kR 41 37 40] (kd 41 (kq [o6 42 12 [],om 4 42] .ret) .skip)) (kq [om 43 5,o6 44 33 [.t 43],om 8 44] (.seq (kq [om 45 8,o9 46 0 45,o7 47 0] (.block 0 (.loop (.trim [47,6,8,5,0,45,46] (kq [o4 48 .lss 47 46] (.seq (kd 48 .skip (.exit 0))
 (.seq (.block 1 (kq [oi 49 172 45 47,o2 50 172 49,kB 10 dZ,o8 172 10 50] (.seq (.seq (.ops true [0,1,3,0,8,24,63] [o1 51 0 10,o1 52 0 51,o2 53 32 52,om 54 6,o0 55 (.iad 32 (.t 54) (xi 0)),o2 56 32 55,o0 57 (.eqa true eV true (.t 53) (.t 56))]) (kd 57 (.seq (.seq (.ops true [0,0,2,7,0,0,32,127,255,511,1023,1023,3071,7167,1023,17407,65535,131071,262143] [om 58 0,o1 59 0 10,o2 60 33 59,o6 61 16 [.t 58,.t 60],om 62 5,o1 63 0 10,o2 64 33 63,o6 65 16 [.t 62,.t 64],o0 66 (.eqa false [.b] true (.t 61) (.t 65)),om 67 66,oh 68 67 true 8,oh 69 67 true 6,og 70 67 true (.iad 32 (.t 69) (xi 0)),og 71 67 true (.ld (some 32) (.t 70)),kF 72 67 true 0 10,og 73 67 true (.ld (some 33) (.t 72)),og 74 67 true (.call (.fn 34) [.t 68,.t 71,.t 73]),og 75 67 true (.not (.t 74)),kP 76 67 75]) (kd 76 (kq [kM 4 xF] .ret) .skip)) (.exit 1)) .skip)) (kq [kM 11 xF] (.seq (kq [om 77 8,o9 78 0 77,o7 79 0] (.block 2 (.loop (.trim [79,10,6,11,77,46,45,0,5,8,47,78] (kq [o4 80 .lss 79 78] (.seq (kd 80 .skip (.exit 2))
 (.seq (.block 3 (kq [oi 81 172 77 79,o2 82 172 81,kB 13 dZ,o8 172 13 82] (.ops true [0,1,3,7,15,3,35,99,255,511,1023,2047,1023,5119,16383,32767,65535,131071] [om 83 11,om 84 83,kF 85 84 false 0 13,kF 86 84 false 0 85,og 87 84 false (.ld (some 32) (.t 86)),oh 88 84 false 6,og 89 84 false (.iad 32 (.t 88) (xi 0)),og 90 84 false (.ld (some 32) (.t 89)),og 91 84 false (.eqa true eV false (.t 87) (.t 90)),oh 92 84 false 91,kF 93 92 true 171 13,kL 94 92 true 93,kF 95 92 true 0 10,og 96 92 true (.ld (some 33) (.t 95)),og 97 92 true (.call (.fn 35) [.t 94,.t 96]),og 98 84 false (.pick (.t 92) (.t 97) xF),kR 99 84 98,om 11 99]))) (fo [o5 100 .add 79 1,om 79 100])))))))) (kq [om 101 11,o0 102 (.not (.t 101)),om 103 102,oh 104 103 true 5,kF 105 103 true 0 10,og 106 103 true (.ld (some 33) (.t 105)),og 107 103 true (.call (.fn 16) [.t 104,.t 106]),og 108 103 true (.not (.t 107)),kP 109 103 108] (kd 109 (kq [kM 4 xF] .ret) .skip))))))) (fo [o5 110 .add 47 1,om 47 110])))))))) (kq [o6 111 12 [],om 4 111] .ret))))))),[.tmp 4]⟩
theorem xE:aN Tryz.prog [100003,100030] 6=some jF.erase:=by kernel_rfl
end Go.Proofs.Q
namespace Go.Proofs.Q
open Go Go.Bb Go.RowKit Go.Proofs.Lg
open Go.Ab (D RD)
def oQ(a:List af)(y:af):List af:=if dh a y=true then a else a++[y]
def jq:List af→List af→List af
 |[],met=>met
 |y::l,met=>jq l (oQ met y)
def lE(z:af):List au→List af→List af
 |[],met=>met
 |x::l,met=>lE z l (if x.id=z then jq x.over met else met)
def sD(l:List au)(id:af):Nat→Nat→List af→Bool
 |0,_,_=>false
 |f+1,i,met=>match met[i]? with
  |none=>false
  |some z=>if z=id then true else sD l id f (i+1) (lE z l met)
def lk(d:Dg):List au→List af
 |[]=>[]
 |x::l=>(if x.id.p=d then x.over else[])++lk d l
def jN:List au→List af
 |[]=>[]
 |x::l=>x.over++jN l
def EW(l:List au)(d:Dg):Nat:=(lk d l).length+(jN l).length
def vE(l:List au)(d:Dg)(id:af):Bool:=sD l id (EW l d+1) 0 (lk d l)
theorem LI{l:List au}{o:af}:o∈jN l↔ ∃x∈l,o∈x.over:=by
 induction l with
 |nil=>simp[jN]
 |cons x l a=>rw[jN,eJ,a];simp
theorem V8{d:Dg}{l:List au}{o:af}:o∈lk d l↔ ∃x∈l,x.id.p=d∧o∈x.over:=by
 induction l with
 |nil=>simp[lk]
 |cons x l a=>
  rw[lk,eJ,a];by_cases h:x.id.p=d
  ·rw[if_pos h];simp[h]
  ·rw[if_neg h];simp[h]
theorem QL{a:List af}{y o:af}:o∈oQ a y↔o∈a∨o=y:=by
 unfold oQ;split
 ·rename_i h;have:=(jD _ _).1 h;constructor
  ·exact .inl
  ·rintro(h1|rfl)
   ·exact h1
   ·exact this
 ·simp
theorem QM(a:List af)(y:af): ∃Z,oQ a y=a++Z:=by
 unfold oQ;split
 ·exact⟨[],by simp⟩
 ·exact⟨[y],rfl⟩
theorem Ii: ∀(l a:List af),∃Z,jq l a=a++Z
 |[],a=>⟨[],by simp[jq]⟩
 |y::l,a=>by
  obtain⟨Z,c⟩:=QM a y;obtain⟨Y,b⟩:=Ii l (oQ a y);exact⟨Z++Y,by rw[jq,b,c,bj]⟩
theorem Ih{o:af}: ∀{l a:List af},o∈jq l a↔o∈a∨o∈l
 |[],a=>by simp[jq]
 |y::l,a=>by rw[jq,Ih,QL,bM,or_assoc]
theorem Ek{z:af}: ∀(l:List au) (a:List af),∃Z,lE z l a=a++Z
 |[],a=>⟨[],by simp[lE]⟩
 |x::l,a=>by
  rw[lE];split
  ·obtain⟨Z,c⟩:=Ii x.over a;obtain⟨Y,b⟩:=Ek l (jq x.over a);exact⟨Z++Y,by rw[b,c,bj]⟩
  ·exact Ek l a
theorem OU{z:af}: ∀{l:List au} {a:List af} {x:au},x∈l→x.id=z→ ∀o∈x.over,o∈lE z l a
 |y::l,a,x,hx,hz,o,ho=>by
  rw[lE];rcases bM.1 hx with rfl|hx
  ·rw[if_pos hz];obtain⟨Z,b⟩:=Ek (z:=z) l (jq x.over a);rw[b];exact List.mem_append_left _ (Ih.2 (.inr ho))
  ·exact OU hx hz o ho
def jk(U A a:List af):Prop:= ∃E,a=A++E∧E.Nodup∧ ∀y∈E,y∈U
theorem jk.add1{U A d:List af}(h:jk U A d){y:af}(j:y∈U):jk U A (oQ d y):=by
 obtain⟨E,rfl,f,g⟩:=h;unfold oQ;split
 ·exact⟨E,rfl,f,g⟩
 ·rename_i h;have i:y∉A++E:=fun hm=>h ((jD _ _).2 hm);refine⟨E++[y],by rw[bj],?_,fun z c=> ?_⟩
  ·rw[List.nodup_append];refine⟨f,by simp,fun a ha b hb e=> ?_⟩;simp at hb;subst hb;subst e;exact i (List.mem_append_right _ ha)
  ·rcases eJ.1 c with c|c
   ·exact g z c
   ·simp at c;subst c;exact j
theorem jk.add{U A:List af}: ∀{l a:List af},jk U A a→(∀y∈l,y∈U)→jk U A (jq l a)
 |[],a,h,_=>h
 |y::l,a,h,hl=>by rw[jq];exact(h.add1 (hl y (by simp))).add fun z b=>hl z (eQ _ b)
theorem jk.step{U A:List af}{z:af}: ∀{l:List au} {a:List af},jk U A a→(∀x∈l,∀o∈x.over,o∈U)→jk U A (lE z l a)
 |[],a,h,_=>h
 |x::l,a,h,hl=>by
  rw[lE];refine jk.step ?_ fun y b=>hl y (eQ _ b);split
  ·exact h.add (hl x (by simp))
  ·exact h
theorem jk.len{U A a:List af}(h:jk U A a):a.length≤A.length+U.length:=by
 obtain⟨E,rfl,b,c⟩:=h;rw[aR];have:=xD b c;omega
theorem Ko{l:List au}{id:af}{A:List af}: ∀(f i:Nat) (a:List af),jk (jN l) A a→i≤a.length→A.length+(jN l).length<f+i→(∀(j:Nat) (z:af),j<i→a[j]?=some z→z≠id∧ ∀x∈l,x.id=z→ ∀o∈x.over,o∈a)→sD l id f i a=false→
  ∃M:List af,(∀o∈a,o∈M)∧id∉M∧ ∀x∈l,x.id∈M→ ∀o∈x.over,o∈M
 |0,i,a,hE,hi,hf,_,_=>by have:=hE.len;omega
 |f+1,i,a,hE,hi,hf,hJ,h=>by
  rw[sD]at h;cases hg:a[i]? with
  |none=>
   have s:a.length≤i:=List.getElem?_eq_none_iff.1 hg;refine⟨a,fun o b=>b,fun hm=> ?_,fun x c hm o b=> ?_⟩
   ·obtain⟨j,d⟩:=fU hm;have:=(b9.1 d).1;exact(hJ j id a8 d).1 rfl
   ·obtain⟨j,d⟩:=fU hm;have:=(b9.1 d).1;exact(hJ j _ a8 d).2 x c rfl o b
  |some z=>
   rw[hg]at h;dsimp only at h;have t:=(b9.1 hg).1;by_cases n:z=id
   ·rw[if_pos n]at h;cases h
   ·rw[if_neg n]at h;obtain⟨Z,e⟩:=Ek (z:=z) l a;obtain⟨M,p,q,r⟩:=Ko f (i+1) (lE z l a) (hE.step fun x c o b=>LI.2 ⟨x,c,b⟩) (by rw[e,aR];omega) a8 (fun j y d g=>by
     rw[e,fM a8]at g;by_cases m:j=i
     ·subst m;rw[hg]at g;obtain rfl:=aJ g;exact⟨n,fun x c k o b=>OU c k o b⟩
     ·obtain⟨u,v⟩:=hJ j y a8 g;exact⟨u,fun x c k o b=>by rw[e];exact List.mem_append_left _ (v x c k o b)⟩) h
    exact⟨M,fun o b=>p o (by rw[e];exact List.mem_append_left _ b),q,r⟩
theorem a2w{l:List au}{d:Dg}{id:af}(h:vE l d id=false): ∃M:List af,(∀x∈l,x.id.p=d→ ∀o∈x.over,o∈M)∧id∉M∧ ∀x∈l,x.id∈M→ ∀o∈x.over,o∈M:=by
 obtain⟨M,a,b,c⟩:=Ko (A:=lk d l) _ 0 (lk d l) ⟨[],by simp,by simp,by simp⟩ (fy _) (by unfold EW;omega) (fun j z e=>absurd e a8) h;exact⟨M,fun x g hp o f=>a o (V8.2 ⟨x,g,hp,f⟩),b,c⟩
theorem Ux{s t:aD}{p:aX}{d:Dg}(g:gh s p t d): ∀x∈ff t,x.id.p≠d→(eE s x.id !=eE t x.id&& !vE (ff t) d x.id)=false:=by
 intro x m k;have b: ∀y,y∈ff t↔dx t y:=fun y=>by rw[uC g.w];exact vm g.w y
 rw[ka g.v,ka g.w];cases l:vE (ff t) d x.id with
 |true=>simp
 |false=>
  obtain⟨M,f,i,j⟩:=a2w l;have e:dx s x:=((g.at x).1 ((b x).1 m)).resolve_right fun h=>k (g.own h);have:=TP g (R:=(· ∈M)) (fun a ha o c=>f a ((b a).2 ((g.at a).2 (.inr ha))) (g.own ha) o c) (fun y n hm o c=>j y ((b y).2 ((g.at y).2 (.inl n))) hm o c) e i;rw[this];simp
theorem YR{s t:aD}{p:aX}{d:Dg}(g:gh s p t d): ∀x∈ff t,x.id.p=d→((ff t).any fun y=>decide (y.id.p=d)&&dh y.over x.id)=false→eE t x.id=true:=by
 intro x i e f;have b: ∀y,y∈ff t↔dx t y:=fun y=>by rw[uC g.w];exact vm g.w y
 have a:x∈(cT ar p).1:=by
  refine((g.at x).1 ((b x).1 i)).resolve_left fun h=> ?_;have:=KA g.v h;rw[e]at this;exact g.new this
 rw[ka g.w];refine TQ g a fun y c hm=> ?_;have:=List.any_eq_false.1 f y ((b y).2 ((g.at y).2 (.inr c)));rw[decide_eq_true (g.own c),(jD _ _).2 hm]at this;exact this rfl
end Go.Proofs.Q
namespace Go.Proofs.Q
open Go Go.Ab Go.Bb
def AL:CF:=⟨87, (kq [ox 4 1,ox 5 2,kM 6 xF] (kq [o0 7 (.nlr 27 33)] (.seq (kq [om 18 0,o9 19 0 18,o7 20 0] (.block 0 (.loop (.trim [20,7,4,18,0,5,19] (kq [o4 21 .lss 20 19] (.seq (kd 21 .skip (.exit 0)) (.seq (.block 1 (kq [oi 22 172 18 20,o2 23 172 22,kB 9 dZ,o8 172 9 23] (kq [o1 24 0 9,o1 25 0 24,o2 26 32 25,o2 27 32 4,o0 28 (.eqa true eV false (.t 26) (.t 27))] (kd 28 (fo [om 29 7,o1 30 171 9,o3 31 30,o0 32 (.app false 27 33 40 (.t 29) (.t 31)),om 7 32]) .skip)))) (fo [o5 33 .add 20 1,om 20 33])))))))) (.seq (kq [o7 10 0] (.block 2 (.loop (.trim [0,7,10,5] (.seq (kq [om 34 10,om 35 7,o9 36 0 35,o4 37 .lss 34 36] (kd 37 .skip (.exit 2))) (.seq (.block 3 (.seq (.seq (.ops true [0,0,3,7,0,31] [om 40 7,om 41 10,oi 42 33 40 41,o2 43 33 42,o2 44 33 5,o0 45 (.eqa true cJ false (.t 43) (.t 44))]) (kd 45 (kq [kM 6 xT] .ret) .skip)) (kq [om 46 0,o9 47 0 46,o7 48 0] (.block 4 (.loop (.trim [48,7,10,46,0,5,47] (kq [o4 49 .lss 48 47] (.seq (kd 49 .skip (.exit 4)) (.seq (.block 5 (kq [oi 50 172 46 48,o2 51 172 50,kB 12 dZ,o8 172 12 51] (.seq (.seq (.ops true [0,1,0,0,12,28,63] [o1 52 0 12,o2 53 33 52,om 54 7,om 55 10,oi 56 33 54 55,o2 57 33 56,o0 58 (.eqa true cJ true (.t 53) (.t 57))]) (kd 58 (.exit 5) .skip)) (kq [o1 59 171 12,o3 60 59,o9 61 0 60,o7 62 0] (.block 6 (.loop (.trim [62,7,60,48,10,46,0,5,47,61] (kq [o4 63 .lss 62 61] (.seq (kd 63 .skip (.exit 6))
 (.seq (.block 7 (kq [oi 64 33 60 62,o2 65 33 64,kB 14 cQ,o8 33 14 65] (kq [kM 15 xF] (.seq (kq [om 66 7,o9 67 0 66,o7 68 0] (.block 8 (.loop (.trim [68,14,15,66,7,62,60,48,10,46,0,5,47,61,67] (kq [o4 69 .lss 68 67] (.seq (kd 69 .skip (.exit 8)) (.seq (.block 9 (kq [oi 70 33 66 68,o2 71 33 70,kB 17 cQ,o8 33 17 71] (fo [om 72 15,om 73 72,og 74 73 false (.ld (some 33) (.t 17)),og 75 73 false (.ld (some 33) (.t 14)),og 76 73 false (.eqa true cJ false (.t 74) (.t 75)),kR 77 73 76,om 15 77]))) (fo [o5 78 .add 68 1,om 68 78])))))))) (kq [om 79 15,o0 80 (.not (.t 79))] (kd 80 (fo [om 81 7,o2 82 33 14,o0 83 (.bsf 33 1 cQ [(0,33,(.t 82))]),o0 84 (.app false 27 33 40 (.t 81) (.t 83)),om 7 84]) .skip)))))) (fo [o5 85 .add 62 1,om 62 85]))))))))))) (fo [o5 86 .add 48 1,om 48 86])))))))))) (fo [om 38 10,o5 39 .add 38 1,om 10 39]))))))) (kq [kM 6 xF] .ret))))),[.tmp 6]⟩
theorem Wt:aN Tryz.prog [100004,100005,200007,100083] 34=some AL.erase:=by kernel_rfl
end Go.Proofs.Q
namespace Go.Proofs.Q
open Go Go.Bb Go.RowKit Go.Proofs.Lg
open Go.Ab (D RD)
theorem LK(d:Dg): ∀{l:List au},(∀x∈l,x.over.length≤1000)→(lk d l).length≤1000*l.length
 |[],_=>fy _
 |x::l,h=>by
  have b:=LK d fun y a=>h y (eQ x a);have c:=h x (by simp);rw[lk,aR,aY];split
  ·omega
  ·simp;omega
theorem MT: ∀{l:List au},(∀x∈l,x.over.length≤1000)→(jN l).length≤1000*l.length
 |[],_=>fy _
 |x::l,h=>by
  have b:=MT fun y a=>h y (eQ x a);have c:=h x (by simp);rw[jN,aR,aY];omega
theorem Td(y:af)(l:List af)(x:af):dh (y::l) x=(decide (y=x)||dh l x):=by
 rw[dh];by_cases h:y=x<;>simp[h]
set_option maxHeartbeats 4000000 in
set_option maxRecDepth 20000 in
theorem TE(l:List au)(hl:l.length≤1000000)(ho: ∀x∈l,x.over.length≤1000)(d:Dg)(i:af):aG Tryz.prog 34 [.sl 172 (l.map aI),.agg (aP d),.agg (aj i)] (dB (vE l d i)):=by
 have a5:=LK d ho;have b5:=MT ho;unfold vE EW;obtain⟨K,E⟩: ∃M,M=lk d l:=⟨_,rfl⟩
 refine aM (F:=AL) Wt (by simp[AL]) ?_;simp only[AL]
 repeat' first|refine ae (fun _=> ?_) fun _=> ?_|refine ay @wj ab ?_|exact ax @wj ab|fail
 refine aZ.overI l (fun k (b:List af×List aa)=>[(20,iN k),(7,.tsl 0 33 (b.1.map aj))]) (fun k b=> .row 27 33 b.1.length::b.2) (fun r b=>b.1++lk d r) K (fun k b=>b.1.length≤1000*k) ([],[]) a8 aB aB rfl E (by simp) (fun k b x hg hk W hw c hJ=> ?_) (fun b W c hJ=> ?_)
 ·obtain⟨b,J⟩:=b;dsimp only at c hJ;rw[lk]at c;have hx:=ho x (bX hg);have hr:bw (b.length+x.over.length) 40=true:=room_le a8 a8;clear E;by_cases hp:x.id.p=d
  ·rw[if_pos hp]at c;have b6:decide (x.id.p=d)=true:=decide_eq_true hp
   repeat' first|refine ae (fun _=> ?_) fun _=> ?_|refine ay (ga @W (ga @hw (ga @hg (ga @hp (ga @hr (ga @eo (ga @bz (ga @bb (ga @az (ga @ba @wj)))))))))) ab ?_|exact ax (ga @W (ga @hw (ga @hg (ga @hp (ga @hr (ga @eo (ga @bz (ga @bb (ga @az (ga @ba @wj)))))))))) ab|fail
   exact⟨(b++x.over,J++[.cells ((aI x).map .d)]),by simp,by simp,by rw[c];simp,by dsimp only;simp;omega⟩
  ·rw[if_neg hp,bm]at c;have Z:decide (x.id.p=d)=false:=decide_eq_false hp
   repeat' first|refine ae (fun _=> ?_) fun _=> ?_|refine ay (ga @W (ga @hw (ga @hg (ga @Z (ga @eo (ga @bz (ga @bb (ga @az (ga @ba @wj))))))))) ab ?_|exact ax (ga @W (ga @hw (ga @hg (ga @Z (ga @eo (ga @bz (ga @bb (ga @az (ga @ba @wj))))))))) ab|fail
   exact⟨(b,J++[.cells ((aI x).map .d)]),rfl,rfl,c,by dsimp only;omega⟩
 ·obtain⟨b,J⟩:=b;dsimp only at c;rw[lk,bg]at c;subst c;rw[←E]at a5;rw[←E];clear E hJ;obtain⟨R,V⟩: ∃R,R=sD l i (K.length+(jN l).length+1) 0 K:=⟨_,rfl⟩
  rw[←V]
  repeat' first|refine ae (fun _=> ?_) fun _=> ?_|refine ay (ga @W @wj) ab ?_|exact ax (ga @W @wj) ab|fail
  refine aZ.tr (fun(b:List af×Nat×List aa)=>[(7,.tsl 0 33 (b.1.map aj)),(10,iN b.2.1)]) (fun b=> .row 27 33 b.1.length::b.2.2) (fun m b=>m+b.2.1=K.length+(jN l).length+1∧b.2.1≤b.1.length∧jk (jN l) K b.1∧R=sD l i m b.2.1 b.1) (K.length+(jN l).length+1) (K,0,J) aB aB rfl ⟨rfl,fy _,⟨[],by simp,by simp,by simp⟩,V⟩ ?_;clear V;rintro m ⟨D,j,J⟩ ⟨hm,hj,hE,c⟩
  dsimp only at hm hj hE c⊢;have a9:=hE.len;obtain⟨f,rfl⟩: ∃f,m=f+1:=⟨m-1,by omega⟩
  rw[sD]at c;by_cases a4:j<D.length
  ·obtain⟨z,Y⟩: ∃z,D[j]?=some z:=⟨_,bN a4⟩
   have t:decide ((j:Int)<(D.length:Int))=true:=by simp;omega
   have a1:IntKind.i64.wrap ((j:Int)+1)=((j+1:Nat):Int):=bE rfl a8;rw[Y]at c;dsimp only at c;by_cases I:z=i
   ·rw[if_pos I]at c;rw[c]
    repeat' first|refine ae (fun _=> ?_) fun _=> ?_|refine ay (ga @t (ga @Y (ga @I (ga @az @wj)))) ab ?_|exact ax (ga @t (ga @Y (ga @I (ga @az @wj)))) ab|fail
    all_goals first|rfl|trace_state
   ·rw[if_neg I]at c;have a3:decide (z=i)=false:=decide_eq_false I
    repeat' first|refine ae (fun _=> ?_) fun _=> ?_|refine ay (ga @t (ga @Y (ga @a3 (ga @az @wj)))) ab ?_|exact ax (ga @t (ga @Y (ga @a3 (ga @az @wj)))) ab|fail
    refine aZ.overI l (fun k (b:List af×List aa)=>[(48,iN k),(7,.tsl 0 33 (b.1.map aj))]) (fun k b=> .row 27 33 b.1.length::b.2) (fun r b=>lE z r b.1) (lE z l D) (fun k b=>jk (jN l) K b.1∧b.1[j]?=some z) (D,J) a8 aB aB rfl rfl ⟨hE,Y⟩ (fun k b x hg hk u N a T=> ?_) (fun b u a T=> ?_)
    ·obtain⟨b,J3⟩:=b;obtain⟨A,g⟩:=T;dsimp only at a A g;have a6: ∀o∈x.over,o∈jN l:=fun o h=>LI.2 ⟨x,bX hg,h⟩;have b7:=ho x (bX hg);rw[lE]at a;clear c;by_cases H:x.id=z
     ·rw[if_pos H]at a
      repeat' first|refine ae (fun _=> ?_) fun _=> ?_|refine ay (ga @hg (ga @u (ga @g (ga @H (ga @az (ga @bb (ga @bz @wj))))))) ab ?_|exact ax (ga @hg (ga @u (ga @g (ga @H (ga @az (ga @bb (ga @bz @wj))))))) ab|fail
      refine aZ.overI x.over (fun k (b:List af×List aa)=>[(62,iN k),(7,.tsl 0 33 (b.1.map aj))]) (fun k b=> .row 27 33 b.1.length::b.2) (fun r b=>jq r b.1) (jq x.over b) (fun k b=>jk (jN l) K b.1∧b.1[j]?=some z) (b,_) a8 aB aB rfl rfl ⟨A,g⟩ (fun k4 b4 y X b1 G O n U=> ?_) (fun b4 G n U=> ?_)
      ·obtain⟨b4,J4⟩:=b4;obtain⟨B,v⟩:=U;dsimp only at n B v;have a7:=a6 y (bX X);have b3:=B.len;rw[jq]at n;clear a
       repeat' first|refine ae (fun _=> ?_) fun _=> ?_|refine ay (ga @X (ga @G (ga @az (ga @da @wj)))) ab ?_|exact ax (ga @X (ga @G (ga @az (ga @da @wj)))) ab|fail
       refine aZ.overI b4 (fun k (st:Bool×List aa)=>[(68,iN k),(15,.d (dB st.1))]) (fun k st=> .row 27 33 b4.length::st.2) (fun r st=>st.1||dh r y) (dh b4 y) (fun k st=>st.2[J4.length]?=some (.cells ((aj y).map .d))) (false,J4++[.cells ((aj y).map .d)]) a8 aB aB rfl (by simp) (by simp) (fun k5 st w L b2 q P e s=> ?_) (fun st q e s=> ?_)
       ·obtain⟨kn,J5⟩:=st;dsimp only at e s;rw[Td]at e;have C:=bG s [aa.cells ((aj w).map .d)];by_cases Q:w=y
        ·rw[decide_eq_true Q]at e;subst Q;cases kn
         all_goals
          repeat' first|refine ae (fun _=> ?_) fun _=> ?_|refine ay (ga @L (ga @q (ga @P (ga @C (ga @az (ga @da @wj)))))) ab ?_|exact ax (ga @L (ga @q (ga @P (ga @C (ga @az (ga @da @wj)))))) ab|fail
          exact⟨(true,_),rfl,rfl,by rw[e];simp,C⟩
        ·rw[decide_eq_false Q]at e;have a0:decide (w=y)=false:=decide_eq_false Q;cases kn
         all_goals
          repeat' first|refine ae (fun _=> ?_) fun _=> ?_|refine ay (ga @L (ga @q (ga @P (ga @C (ga @a0 (ga @az (ga @da @wj))))))) ab ?_|exact ax (ga @L (ga @q (ga @P (ga @C (ga @a0 (ga @az (ga @da @wj))))))) ab|fail
          exact⟨(_,_),rfl,rfl,by rw[e];simp,C⟩
       ·obtain⟨kn,J5⟩:=st;dsimp only at e s;rw[show dh [] y=false from rfl,Bool.or_false]at e;have h1:oQ b4 y=if kn=true then b4 else b4++[y]:=by unfold oQ;rw[e]
        rw[h1]at n;have S:=B.add1 a7;rw[h1]at S;have hr:bw (b4.length+1) 40=true:=room_le a8 a8;clear e;cases kn
        ·repeat' first|refine ae (fun _=> ?_) fun _=> ?_|refine ay (ga @q (ga @O (ga @s (ga @hr (ga @az (ga @da @wj)))))) ab ?_|exact ax (ga @q (ga @O (ga @s (ga @hr (ga @az (ga @da @wj)))))) ab|fail
         exact⟨(b4++[y],J5),by simp,by simp,n,S,by dsimp only;rw[fM (b9.1 v).1];exact v⟩
        ·repeat' first|refine ae (fun _=> ?_) fun _=> ?_|refine ay (ga @q (ga @O (ga @s (ga @az (ga @da @wj))))) ab ?_|exact ax (ga @q (ga @O (ga @s (ga @az (ga @da @wj))))) ab|fail
         exact⟨(b4,J5),rfl,rfl,n,S,v⟩
      ·obtain⟨b4,J4⟩:=b4;obtain⟨B,v⟩:=U;dsimp only at n B v;rw[jq]at n;rw[n]at a
       repeat' first|refine ae (fun _=> ?_) fun _=> ?_|refine ay (ga @G (ga @N @wj)) ab ?_|exact ax (ga @G (ga @N @wj)) ab|fail
       exact⟨(b4,_),rfl,rfl,a,B,v⟩
     ·rw[if_neg H]at a;have a2:decide (x.id=z)=false:=decide_eq_false H
      repeat' first|refine ae (fun _=> ?_) fun _=> ?_|refine ay (ga @hg (ga @u (ga @N (ga @g (ga @a2 (ga @az (ga @bb (ga @bz @wj)))))))) ab ?_|exact ax (ga @hg (ga @u (ga @N (ga @g (ga @a2 (ga @az (ga @bb (ga @bz @wj)))))))) ab|fail
      exact⟨(b,J3++[.cells ((aI x).map .d)]),rfl,rfl,a,A,g⟩
    ·obtain⟨b,J3⟩:=b;obtain⟨A,g⟩:=T;dsimp only at a A g;rw[lE]at a;rw[a]at c;have b0:=(b9.1 g).1
     repeat' first|refine ae (fun _=> ?_) fun _=> ?_|refine ay (ga @u (ga @a1 @wj)) ab ?_|exact ax (ga @u (ga @a1 @wj)) ab|fail
     exact⟨f,(b,j+1,J3),by omega,⟨rfl,rfl⟩,rfl,by dsimp only;omega,by dsimp only;omega,A,c⟩
  ·have t:decide ((j:Int)<(D.length:Int))=false:=by simp;omega
   rw[iA a8]at c;dsimp only at c;rw[c]
   repeat' first|refine ae (fun _=> ?_) fun _=> ?_|refine ay (ga @t @wj) ab ?_|exact ax (ga @t @wj) ab|fail
   all_goals first|rfl|trace_state
theorem QV(l:aD): ∀x∈ff l,x.over.length≤1000:=by
 intro x a;unfold ff at a;obtain⟨y,_,a⟩:=uh.1 a;exact It x a
def xN(A:List au)(d:Dg)(i:af):Bool:=A.any fun y=>decide (y.id.p=d)&&dh y.over i
theorem YQ(y:au)(A:List au)(d:Dg)(i:af):xN (y::A) d i=((decide (y.id.p=d)&&dh y.over i)||xN A d i):=rfl
set_option maxHeartbeats 4000000 in
set_option maxRecDepth 20000 in
theorem TJ(c:aG Tryz.prog 12 [] (dB true))(s:aD)(h:iY s)(p:aX)(hp:jn p):aG Tryz.prog 6 [.sl 37 (s.map b5),.agg (bc p)] (dB true):=by
 have n:=uQ h;have C:=DR p (ef hp.changes pt);by_cases K:ia ar s=true
 ·obtain⟨G,a0⟩:=fc.fine h K;rw[K]at n;by_cases hl:s.length≤7
  ·have E:decide ((s.length:Int)>7)=false:=by simp;omega
   cases hg:jC p
   ·rw[hg]at C;have X:cz p∧du p:=⟨ur hp hg,wu hg⟩
    have D:=G.grown X;unfold pB at D;by_cases M:(bP ar s p).2.2=0
    ·rw[kZ.2 M,if_pos M]at D;obtain⟨P,g,R⟩:=G.add X a8 M;obtain⟨t,ht⟩: ∃t,t=(bP ar s p).1:=⟨_,rfl⟩
     obtain⟨d,hd⟩: ∃t,t=(bP ar s p).2.1:=⟨_,rfl⟩
     rw[←ht,←hd]at D g;rw[←ht]at P;have cA:=P.atoms;have Q:=P.alen;have cs:=G.alive;have ct:=P.alive;have cr:=fun i=>TE (ff t) Q (QV t) d i;have kL:=Ux g;have L:=YR g;obtain⟨A,hA⟩: ∃A,A=ff t:=⟨_,rfl⟩
     rw[←hA]at cA Q cr kL L;clear hA ht hd M R g P G X hg K h hp;refine aM (F:=jF) xE (by simp[jF]) ?_;simp only[jF]
     repeat' first|simp only[aY,b6]|refine ae (fun _=> ?_) fun _=> ?_|refine ay (ga @dn (ga @dj (ga @E (ga @br @wj)))) (ga @n (ga @C (ga @D @cA))) ?_|exact ax (ga @dn (ga @dj (ga @E (ga @br @wj)))) (ga @n (ga @C (ga @D @cA)))|fail
     clear n C D cA;refine aZ.over A (fun k (b:List aa)=>[(47,iN k)]) (fun _ b=>b) (fun _ _=>()) () [] a8 aB aB rfl rfl (fun k b x q hk m N _=> ?_) (fun b m _=> ?_)
     ·have U:=bX q;have Y:=cs x.id;have O:=ct x.id;have Z:=cr x.id;by_cases z:x.id.p=d
      ·have L:=L x U z;clear kL Y Z
       repeat' first|refine ae (fun _=> ?_) fun _=> ?_|refine ay (ga @nr (ga @q (ga @m (ga @z (ga @eo (ga @bz (ga @bb (ga @az (ga @ba @wj))))))))) ab ?_|exact ax (ga @nr (ga @q (ga @m (ga @z (ga @eo (ga @bz (ga @bb (ga @az (ga @ba @wj))))))))) ab|fail
       refine aZ.overI A (fun j (st:Bool×List aa)=>[(79,iN j),(11,.d (dB st.1))]) (fun _ st=>st.2) (fun r st=>st.1||xN r d x.id) (xN A d x.id) (fun j st=>st.2[b.length]?=some (.cells ((aI x).map .d))) (false,b++[.cells ((aI x).map .d)]) a8 aB aB rfl (by simp) (by simp) (fun j st y H hj f I a l=> ?_) (fun st f a l=> ?_)
       ·obtain⟨ow,J⟩:=st;dsimp only at a l;rw[YQ]at a;have o:=bG l [aa.cells ((aI y).map .d)];have cI:=DS y.over x.id;by_cases B:y.id.p=d
        ·rw[decide_eq_true B,s5]at a;obtain⟨u,S⟩: ∃u,u=dh y.over x.id:=⟨_,rfl⟩
         rw[←S]at cI a;clear S L;cases ow<;>cases u
         all_goals
          repeat' first|refine ae (fun _=> ?_) fun _=> ?_|refine ay (ga @nr (ga @H (ga @f (ga @I (ga @o (ga @B (ga @eo (ga @bz (ga @bb (ga @az (ga @ba @wj))))))))))) @cI ?_|exact ax (ga @nr (ga @H (ga @f (ga @I (ga @o (ga @B (ga @eo (ga @bz (ga @bb (ga @az (ga @ba @wj))))))))))) @cI|fail
          exact⟨(_,_),rfl,rfl,by rw[a];simp,o⟩
        ·rw[decide_eq_false B,Bool.false_and]at a;have W:decide (y.id.p=d)=false:=decide_eq_false B;clear L;cases ow
         all_goals
          repeat' first|refine ae (fun _=> ?_) fun _=> ?_|refine ay (ga @nr (ga @H (ga @f (ga @I (ga @o (ga @W (ga @eo (ga @bz (ga @bb (ga @az (ga @ba @wj))))))))))) @cI ?_|exact ax (ga @nr (ga @H (ga @f (ga @I (ga @o (ga @W (ga @eo (ga @bz (ga @bb (ga @az (ga @ba @wj))))))))))) @cI|fail
          exact⟨(_,_),rfl,rfl,by rw[a];simp,o⟩
       ·obtain⟨ow,J⟩:=st;dsimp only at a l;rw[show xN [] d x.id=false from rfl,Bool.or_false]at a;cases ow
        ·rw[L a]at O
         repeat' first|refine ae (fun _=> ?_) fun _=> ?_|refine ay (ga @f (ga @N (ga @l (ga @bb (ga @az @wj))))) @O ?_|exact ax (ga @f (ga @N (ga @l (ga @bb (ga @az @wj))))) @O|fail
         exact⟨_,rfl⟩
        ·repeat' first|refine ae (fun _=> ?_) fun _=> ?_|refine ay (ga @f (ga @N (ga @l (ga @bb (ga @az @wj))))) ab ?_|exact ax (ga @f (ga @N (ga @l (ga @bb (ga @az @wj))))) ab|fail
         exact⟨_,rfl⟩
      ·have kL:=kL x U z;have V:decide (x.id.p=d)=false:=decide_eq_false z;obtain⟨u,S⟩: ∃u,u=eE s x.id:=⟨_,rfl⟩
       obtain⟨v,hv⟩: ∃u,u=eE t x.id:=⟨_,rfl⟩
       obtain⟨w,T⟩: ∃u,u=vE A d x.id:=⟨_,rfl⟩
       rw[←S]at Y kL;rw[←hv]at O kL;rw[←T]at Z kL;clear S hv T L cs ct cr;cases u<;>cases v<;>cases w<;>first|(exfalso;revert kL;decide)|skip
       all_goals
        repeat' first|refine ae (fun _=> ?_) fun _=> ?_|refine ay (ga @nr (ga @xm (ga @wU (ga @wS (ga @wV (ga @wT (ga @q (ga @m (ga @N (ga @V (ga @eo (ga @bz (ga @bb (ga @az (ga @ba @wj))))))))))))))) (ga @Y (ga @O @Z)) ?_|exact ax (ga @nr (ga @xm (ga @wU (ga @wS (ga @wV (ga @wT (ga @q (ga @m (ga @N (ga @V (ga @eo (ga @bz (ga @bb (ga @az (ga @ba @wj))))))))))))))) (ga @Y (ga @O @Z))|fail
        exact⟨_,rfl⟩
     ·repeat' first|refine ae (fun _=> ?_) fun _=> ?_|refine ay (ga @m @wj) @c ?_|exact ax (ga @m @wj) @c|fail
      all_goals first|rfl|trace_state
    ·rw[if_neg (fun e=>M (kZ.1.1 e))]at D;clear G X K h hp M;refine aM (F:=jF) xE (by simp[jF]) ?_;simp only[jF]
     repeat' first|simp only[aY,b6]|refine ae (fun _=> ?_) fun _=> ?_|refine ay (ga @dn (ga @dj (ga @E (ga @br @wj)))) (ga @n (ga @C (ga @D @c))) ?_|exact ax (ga @dn (ga @dj (ga @E (ga @br @wj)))) (ga @n (ga @C (ga @D @c)))|fail
     all_goals first|rfl|trace_state
   ·rw[hg]at C;clear G;refine aM (F:=jF) xE (by simp[jF]) ?_;simp only[jF]
    repeat' first|refine ae (fun _=> ?_) fun _=> ?_|refine ay (ga @dn (ga @dj (ga @E (ga @br @wj)))) (ga @n (ga @C @c)) ?_|exact ax (ga @dn (ga @dj (ga @E (ga @br @wj)))) (ga @n (ga @C @c))|fail
    all_goals first|rfl|trace_state
  ·have E:decide ((s.length:Int)>7)=true:=by simp;omega
   clear G;refine aM (F:=jF) xE (by simp[jF]) ?_;simp only[jF]
   repeat' first|refine ae (fun _=> ?_) fun _=> ?_|refine ay (ga @dn (ga @dj (ga @E (ga @br @wj)))) (ga @n @c) ?_|exact ax (ga @dn (ga @dj (ga @E (ga @br @wj)))) (ga @n @c)|fail
   all_goals first|rfl|trace_state
 ·have K:ia ar s=false:=by simpa using K
  rw[K]at n;refine aM (F:=jF) xE (by simp[jF]) ?_;simp only[jF]
  repeat' first|refine ae (fun _=> ?_) fun _=> ?_|refine ay (ga @dn (ga @dj (ga @br @wj))) (ga @n @c) ?_|exact ax (ga @dn (ga @dj (ga @br @wj))) (ga @n @c)|fail
  all_goals first|rfl|trace_state
end Go.Proofs.Q
namespace Go.Proofs.Q
open Go Go.RowKit Go.Bb Go.Proofs.Lg
open Go.Ab (RD D)
theorem Lb{W:World}(k:GW W.heap.size W){v0 g:Value}{s:aD}(h:iY s){p:aX}(hp:jn p)(c:RD (Go.Bb.cellsIn W) W v0 (.sl 37 (s.map b5)))(f:RD (Go.Bb.cellsIn W) W g (.agg (bc p))):
  Calls Tryz.prog 6 #[v0,g] W fun e j=>e= .returned (.bool true)∧Below W.heap.size W j:=by
 refine((TJ uD s h p hp).calls (Go.Bb.cellsIn W) W [v0,g] rfl (fun i v d a b=> ?_) k).mono fun e w' m=> ?_
 ·match i with
  |0=>simp at a b;subst a;subst b;exact c
  |1=>simp at a b;subst a;subst b;exact f
  |i+2=>simp at a
 ·obtain⟨v,l,n,hb⟩:=m;have:v= .bool true:=by cases n;rfl
  subst this;exact⟨l,hb⟩
end Go.Proofs.Q
namespace Go.Proofs.YtellfinifjmloaaGreatDoor
open Go.ChangeShapes Go.WideShapes Go.ChangeAt Go.RowKit Go.Proofs.Lg Go.Bb
open Go.Proofs.Q (mz nu b5 rP tJ bc Lb)
theorem own:ownKnob Tryz.prog.godebug=none:=by kernel_rfl
theorem laidOut:laidOutB Tryz.prog=true:=by kernel_rfl
theorem nV{l:List (String×DataW Unit)}{w:World}(d:l=Rows.livingLocalRow.laid)(h:laidMetH Tryz.prog l w):GW w.heap.size w:=by
 have b:=h.filter fun x=>x.1== "internal/strconv.uint64pow10";rw[d]at b;have c:laidMet Tryz.prog [("internal/strconv.uint64pow10",Lib.tabData .u64 kE)] w:=by
  rw[MakeChecks.laidMetH_plain _ _ _ (by kernel_rfl)]at b;exact b
 have a:Lib.TabIs Tryz.prog w "internal/strconv.uint64pow10" .u64 kE:=Lib.tabIs_of_head (g:=1) (by kernel_rfl) (by kernel_rfl) Tryz.underlying312 Tryz.underlying176 (by kernel_rfl) (by kernel_rfl) c;intro p hp;simp only[r9,iB]at hp;subst hp;unfold Lib.TabIs World.var? at a
 rw[show Tryz.prog.globalNamed "internal/strconv.uint64pow10"=some 1 by kernel_rfl,dP]at a;dsimp only;split at a
 ·rename_i cs t fz hg;obtain rfl:=aJ a;exact⟨(fB.1 hg).1,t,fz,hg⟩
 ·cases a
set_option maxRecDepth 100000 in
theorem Uj(os:Os)(started:os.Started)(H:Type)(enc:TypeId×Value→H):
  ReturnsInHanded {} Tryz.checked os 6 .any (fun w args=>(Rows.livingLocalSpec.pre enc Tryz.prog Tryz.f6 Rows.livingLocalRow.domain false w args∧laidMetH Tryz.prog Rows.livingLocalRow.laid w)∧sizedMet enc Tryz.prog Tryz.f6 (OpenSpec.ofChange Rows.livingLocalSpec) false w args)
   (Rows.livingLocalSpec.post enc Tryz.prog Tryz.f6 false true false false):=by
 refine returnsInHanded_of_change_and (C:=Tryz.checked) (X:=fun w _=>laidMetH Tryz.prog Rows.livingLocalRow.laid w) (fun _ _ _ L h=>h.of_heap L) own started (by kernel_rfl) Tryz.func6
  (ChangeSpec.witness_shaped (enc:=enc) (C:=Tryz.checked) (os:=os) (X:=fun w _=>laidMetH Tryz.prog Rows.livingLocalRow.laid w) false (World.laidAll Tryz.prog os Rows.livingLocalRow.laid) #[.slice none 0 0,.agg #[.string ⟨#[]⟩,.string ⟨#[]⟩,.int .i64 0,.slice none 0 0,.slice none 0 0]] 8 (World.laidAll_os _ _ _)
   (World.shaped_of_ZipB (by kernel_rfl) (by kernel_rfl)) (by kernel_rfl) (by kernel_rfl) (by kernel_rfl)
   (by rw[MakeChecks.laidMetH_plain _ _ _ (by kernel_rfl)];exact laidMet_laidAll _ (by kernel_rfl) (by kernel_rfl))) ?_
 intro W base args ds Y before b y hc _ I _;have a: ∀(j:Nat) t v,Tryz.f6.params[j]?=some t→args[j]?=some v→Value.okWide Tryz.prog W .any base t v:=b;have i:=y;obtain⟨p,q,d,J,rfl,_,_⟩:=y;have u:DataW.TrodAll enc Tryz.prog W 0 (fun _=>true) true Tryz.f6.params.toList args.toList ds p:=d;rw[Tryz.params6]at u a
 obtain⟨v0,R,U,D,N,Z,f,rfl,rfl,o,P⟩:=trodAll_cons u;obtain⟨B,S,V,E,O,q1,g,rfl,rfl,r,Q⟩:=trodAll_cons P;obtain⟨rfl,rfl,rfl⟩:=trodAll_nil Q;obtain rfl:args= #[v0,B]:=by cases args;simp_all
 obtain⟨rfl,rfl⟩:=trodVars_none J;have z:=o;have A:=r;have k: ∀x∈N,x.block<W.heap.size:=by obtain⟨m,hm⟩:=z;exact DataW.trod_lt m _ _ _ hm
 have l: ∀x∈O,x.block<W.heap.size:=by obtain⟨m,hm⟩:=A;exact DataW.trod_lt m _ _ _ hm
 obtain⟨x0,F,o0⟩:=tM (n:=12) (sh:=mz) Tryz.underlying23 (by kernel_rfl) (a 0 23 v0 rfl rfl) o;obtain⟨s,rfl,M⟩:=nu o0;obtain⟨x1,G,o1⟩:=DW (n:=12) (shs:=rP) (.inl ⟨_,Tryz.underlying44⟩) (by kernel_rfl) (a 1 44 B rfl rfl) r;obtain⟨p,rfl,hp⟩:=tJ o1;clear d b;refine(Lb (nV rfl I) M hp F G).mono fun e T ⟨K,c⟩=> ?_;subst K
 exact⟨_,rfl,_,_,_,[],_,[],i,trodAll_mk1 (shut_bool Tryz.underlying4 _),(trodAll_cons_mk (Below.trod laidOut (by kernel_rfl) (of_decide_eq_true (by kernel_rfl)) z c k) (trodAll_cons_mk (Below.trod laidOut (by kernel_rfl) (of_decide_eq_true (by kernel_rfl)) A c l) trodAll_mk0)),rfl,c.frame _,fun h=>by cases h⟩
end Go.Proofs.YtellfinifjmloaaGreatDoor
