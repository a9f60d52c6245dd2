/- Part of a proof. -/
import Derived.Test.YtfoljakejdgfcaaGreatDoorPBT
set_option linter.unusedVariables false
set_option linter.unusedSimpArgs false
namespace Go.Proofs.Q
open Go Go.Ab Go.Bb
def nk:CF:=⟨78, (.seq (fo [ox 4 1,o0 6 (.mov xF)]) (.seq (.seq (fo [om 17 0,o6 18 10 [.t 17],o0 19 (.not (.t 18)),om 20 19,oh 21 20 false 2,og 22 20 false (.len 0 (.t 21)),og 23 20 false (.bin .gtr (.t 22) (xi 10)),o0 24 (.pick (.t 20) xT (.t 23))]) (.cond (.t 24) (.seq (fo [o6 25 11 [],om 6 25]) .ret) .skip)) (.seq (fo [om 27 0,o2 28 32 4,o6 29 12 [.t 27,.t 28],om 26 29,oe 30 26 0,oe 31 26 1,om 7 30,om 8 31]) (.seq (fo [om 33 0,o2 34 32 4,o6 35 13 [.t 33,.t 34],om 32 35,oe 36 32 0,oe 37 32 1,om 9 36,om 10 37]) (.seq (fo [om 39 0,om 40 2,o6 41 14 [.t 39,.t 40],om 38 41,oe 42 38 0,oe 43 38 1,oe 44 38 2,om 11 42,om 12 43,om 13 44]) (.seq (fo [om 46 0,om 47 2,o6 48 15 [.t 46,.t 47],om 45 48,oe 49 45 0,oe 50 45 1,oe 51 45 2,om 14 49,om 15 50,om 16 51]) (.seq (fo [om 52 7,om 53 9,o6 54 16 [.t 52,.t 53],om 55 54,oh 56 55 true 8,oh 57 55 true 10,og 58 55 true (.bin .eql (.t 56) (.t 57)),o0 59 (.pick (.t 55) (.t 58) xF),om 60 59,oh 61 60 true 11,oh 62 60 true 14,og 63 60 true (.call (.fn 16) [.t 61,.t 62]),o0 64 (.pick (.t 60) (.t 63) xF),om 65 64,oh 66 65 true 12,oh 67 65 true 15,og 68 65 true (.call (.fn 17) [.t 66,.t 67]),o0 69 (.pick (.t 65) (.t 68) xF),om 70 69,oh 71 70 true 13,oh 72 70 true 16,og 73 70 true (.bin .eql (.t 71) (.t 72)),o0 74 (.pick (.t 70) (.t 73) xF),om 75 74,og 76 75 true (.call (.fn 11) []),o0 77 (.pick (.t 75) (.t 76) xF),om 6 77]) .ret))))))),[.tmp 6]⟩
theorem DW:aG Tryz.prog [100004] 3=some nk.erase:=by kernel_rfl
end Go.Proofs.Q
namespace Go.Proofs.Q
open Go Go.Bb Go.RowKit Go.Proofs.Lg
open Go.Ab (D RD)
theorem L3: ∀l:List Dg,fU (l.zip l)=true
 |[]=>rfl
 |x::l=>by show(if x=x then fU (l.zip l)else false)=true;rw[if_pos rfl];exact L3 l
theorem XV(l:List Dg):same l l=true:=by unfold same;rw[if_pos rfl];exact L3 l
theorem PW(b:aE Tryz.prog 11 [] (dB true))(s:aP)(d:Dg)(ids:List Dg)(j: ∀x∈s,x.pat.changes.length≤9223372036854775807)(v:my s=false→iC s∧ ∀x∈s,pn x.pat.changes)
  (c:oH bE s=true→iC s∧s.length≤1000∧ ∀x∈s,(cV x.pat∧e8 x.pat)∧(bB x.pat).length≤100000):
  aE Tryz.prog 3 [.sl 37 (s.map b8),.agg (aq d),.sl 32 (ids.map aq)] (dB true):=by
 have f:=Vh s j v;by_cases e:oH bE s=true
 ·obtain⟨q,w,h⟩:=c e;rw[e]at f;by_cases hi:ids.length>10
  ·have g:decide ((ids.length:Int)>10)=true:=by simp;omega
   refine aI (F:=nk) DW (by simp[nk]) ?_;simp only[nk]
   repeat' first|refine ak (fun _=> ?_) fun _=> ?_|refine aD ?_|refine aj.data (f) rfl ?_|refine aj.data (b) rfl ?_|simp only[g,wj,wy,qg,aC,reduceCtorEq,reduceIte,Nat.reduceAdd,Nat.reduceMul,Nat.reduceEqDiff,Nat.reduceLT,Nat.reduceLeDiff,Nat.reduceSub,ax,aB,ay,au]
   all_goals first|rfl|trace_state
  ·have g:decide ((ids.length:Int)>10)=false:=by simp;omega
   have i:gK bE s:=D0 bE (by unfold oH at e;simp at e;exact e.2);have r:=LM i a8 (fun x a=>(h x a).1) d;have t:=Vp s d q;have u:=LK i a8 (fun x a=>(h x a).1) (fun x a=>(h x a).2) ids a8;have m:=Vo s ids q w a8;unfold Kw at m
   have k: ∀x∈(lO s d).1,x.pat.changes.length≤9223372036854775807:=fun x a=>by
    unfold lO at a;split at a
    ·cases a
    ·split at a
     ·cases a
     ·exact j x (List.mem_filter.1 a).1
   have l: ∀x∈(ji s ids).1,x.pat.changes.length≤9223372036854775807:=fun x a=>by
    rw[JR i ids]at a;dsimp only at a;split at a
    ·exact j x (List.mem_filter.1 a).1
    ·cases a
   have n:=Kb (lO s d).1 (lO s d).1 k;have o:=Kb (ji s ids).1 (ji s ids).1 l;have p:=JZ (ji s ids).2.1 (ji s ids).2.1;rw[XV]at p;simp only[decide_true]at n o;refine aI (F:=nk) DW (by simp[nk]) ?_;simp only[nk]
   repeat' first|refine ak (fun _=> ?_) fun _=> ?_|refine aD ?_|refine aj.data (f) rfl ?_|refine aj.data (b) rfl ?_|refine aj.data (r) rfl ?_|refine aj.data (t) rfl ?_|refine aj.data (u) rfl ?_|refine aj.data (m) rfl ?_|refine aj.data (n) rfl ?_|refine aj.data (o) rfl ?_|refine aj.data (p) rfl ?_|simp only[g,beq_self_eq_true,wj,wy,qg,aC,reduceCtorEq,reduceIte,Nat.reduceAdd,Nat.reduceMul,Nat.reduceEqDiff,Nat.reduceLT,Nat.reduceLeDiff,Nat.reduceSub,ax,aB,ay,au]
   all_goals first|rfl|trace_state
 ·rw[show oH bE s=false by simpa using e]at f;refine aI (F:=nk) DW (by simp[nk]) ?_;simp only[nk]
  repeat' first|refine ak (fun _=> ?_) fun _=> ?_|refine aD ?_|refine aj.data (f) rfl ?_|refine aj.data (b) rfl ?_|simp only[wj,wy,qg,aC,reduceCtorEq,reduceIte,Nat.reduceAdd,Nat.reduceMul,Nat.reduceEqDiff,Nat.reduceLT,Nat.reduceLeDiff,Nat.reduceSub,ax,aB,ay,au]
  all_goals first|rfl|trace_state
theorem GJ: ∀l:List Dg,(cW l).length≤l.length
 |[]=>bh _
 |[x]=>bh _
 |x::y::r=>by
  have:=GJ (y::r);rw[cW];split
  ·simp only[aU]at*;omega
  ·simp only[aU]at*;omega
theorem FP{p:b9}(hg:kT p=false):e8 p:=by
 obtain⟨_,b,a⟩:=Dq hg;exact⟨by omega,fun c hc=>by have:=a c hc;omega⟩
theorem Di{α β:Type}(f:α→List β)(k:Nat): ∀l:List α,(∀x∈l,(f x).length≤k)→(l.flatMap f).length≤l.length*k
 |[],_=>by simp
 |x::l,h=>by
  have b:=h x (by simp);have c:=Di f k l fun y a=>h y (by simp[a]);rw[nU,aN,aU,eR];omega
theorem Qt{p:b9}(hc:iD p=0)(hg:kT p=false):(bB p).length≤100000:=by
 obtain⟨d,e,b⟩:=Dq hg;rw[←Iz hc];refine eS (GJ _) ?_;rw[kJ];unfold Bu;rw[aN];have:=Di oR 100 p.changes fun c a=>by
  unfold oR;rw[aL];refine eS (List.length_filter_le _ _) ?_;have f:=ET c;have:=b c a;omega
 omega
theorem P0{s:aP}(h:sW s)(a:oH bE s=true):iC s∧s.length≤1000∧ ∀x∈s,(cV x.pat∧e8 x.pat)∧(bB x.pat).length≤100000:=by
 have hg:my s=false:=by unfold oH at a;simp at a;exact a.1
 have e:gK bE s:=D0 bE (by unfold oH at a;simp at a;exact a.2);obtain⟨f,c⟩:=HN hg;refine⟨(FT h hg).1,by omega,fun x b=>⟨⟨Cx (h.pat x b) (c x b),FP (c x b)⟩,Qt ?_ (c x b)⟩⟩;have:=(e.id x b).1;unfold dh at this;unfold iD;by_cases d:(dK x.pat).2≠0
 ·rw[if_pos d]at this;exact absurd this d
 ·exact iK d
theorem PX(a:aE Tryz.prog 11 [] (dB true))(s:aP)(h:sW s)(b: ∀x∈s,x.pat.changes.length≤9223372036854775807)(d:Dg)(ids:List Dg):aE Tryz.prog 3 [.sl 37 (s.map b8),.agg (aq d),.sl 32 (ids.map aq)] (dB true):=
 PW a s d ids b (FT h) (P0 h)
end Go.Proofs.Q
namespace Go.Proofs.Q
open Go Go.Bb Go.Proofs.Lg
def xY:aZ:=⟨#[97,110,110]⟩
def Dc:aZ:=⟨#[98,111,98]⟩
def xZ:aZ:=⟨#[99,105,100]⟩
def fa:b9:={b9.zero with author:=xY,changes:=[{af.zero with kind:=1,type:=1},{af.zero with kind:=2,parent:=⟨.zero,-1⟩,name:=⟨#[102]⟩},{af.zero with kind:=5,lines:=[⟨#[120]⟩]}]}
def jc(p:Dg):b9:={b9.zero with author:=Dc,changes:=[{af.zero with kind:=5,file:=⟨p,0⟩,after:=⟨p,2⟩,before:=⟨p,0⟩,lines:=[⟨#[121]⟩]}]}
def dP:Dg:=⟨[154,86,201,38,78,66,242,149,218,150,198,81,33,64,41,219,218,30,46,195,27,124,2,109,174,115,149,13,46,189,118,187],by decide,by unfold Bytes;decide⟩
def dQ:Dg:=⟨[97,162,199,217,104,214,45,212,92,121,32,118,196,106,212,70,117,144,33,182,63,32,96,180,1,221,62,43,83,4,97,13],by decide,by unfold Bytes;decide⟩
def dR:Dg:=⟨[129,167,102,69,184,39,93,200,1,191,126,90,89,92,60,181,177,99,117,110,106,179,26,82,202,91,92,78,104,170,43,47],by decide,by unfold Bytes;decide⟩
def kh:b9:={b9.zero with author:=xZ,time:=3,changes:=[{af.zero with kind:=7,over:=[⟨dP,0⟩,⟨dP,1⟩,⟨dP,2⟩,⟨dP,3⟩,⟨dP,4⟩]}]}
def gN:aP:=[⟨dQ,jc dP⟩,⟨dP,fa⟩]
def fj:aP:=[⟨dQ,jc dP⟩,⟨dR,kh⟩,⟨dP,fa⟩]
set_option maxRecDepth 100000 in
theorem Ow:uQ bE [] fa=([⟨dP,fa⟩],dP,0):=by kernel_rfl
set_option maxRecDepth 100000 in
theorem OA:uQ bE [⟨dP,fa⟩] (jc dP)=(gN,dQ,0):=by kernel_rfl
set_option maxRecDepth 100000 in
theorem OH:uQ bE gN kh=(fj,dR,0):=by kernel_rfl
set_option maxRecDepth 100000 in
theorem OE:lO gN dP=([],19):=by kernel_rfl
set_option maxRecDepth 100000 in
theorem OD:ji gN [dP]=([],[dQ,dP],0):=by kernel_rfl
end Go.Proofs.Q
