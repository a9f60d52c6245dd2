/- Lemmas. -/
import Derived.Test.YtellfinifjmloaaGreatDoorPX6
import Derived.Test.YtellfinifjmloaaGreatDoorPX1
set_option linter.unusedVariables false
set_option linter.unusedSimpArgs false
namespace Go.Proofs.Q
open Go Go.Bb Go.RowKit Go.Proofs.Lg
open Go.Ab (D RD)
def dm(over:List af):aX:={aX.zero with author:=⟨#[122,111,101]⟩,message:=⟨#[117,110,100,111]⟩,changes:=[{aC.zero with kind:=7,over:=over}]}
theorem a3L{over:List af}(h:over.length≤400):jn (dm over):=by
 have hm:(1000:Nat)≤maxLen:=by decide
 refine⟨?_,?_,?_,?_,fun c hc=> ?_⟩
 ·show 3≤maxLen;omega
 ·show 4≤maxLen;omega
 ·show 0≤maxLen;omega
 ·show 1≤maxLen;omega
 ·obtain rfl:=iB.1 hc;refine⟨?_,?_,?_,fun s a=>(by cases a),?_⟩
  ·show 0≤maxLen;omega
  ·show 0≤maxLen;omega
  ·show 0≤maxLen;omega
  ·show over.length≤maxLen;omega
theorem Ep{over:List af}(h:over.length≤400):cz (dm over)∧du (dm over):=by
 refine⟨I6 (a3L h) (b:=1220) (fun c hc=> ?_) (by show 1220*1≤19000;omega),⟨by show 1≤40;omega,fun c hc=> ?_⟩⟩
 ·obtain rfl:=iB.1 hc;show 20+0+3*over.length≤1220;omega
 ·obtain rfl:=iB.1 hc;exact⟨by show 0≤1000;omega,by show over.length≤100000;omega⟩
def vN(s t:aD):Bool:=(ff s).all fun x=>eE s x.id==eE t x.id
end Go.Proofs.Q
namespace Go.Proofs.Q
open Go Go.Ab Go.Bb
def AN:CF:=⟨7, (kq [kB 2 mH] (kq [om 3 0,o0 4 (.bld oG [(0,1,(xi 7)),(138,1,(.t 3))]),o0 5 (.bsf 139 1 oG [(0,139,(.t 4))]),o0 6 (.bld gy [(0,1,(.c (.d (.sc (.string ⟨#[122,111,101]⟩))))),(1,1,(.c (.d (.sc (.string ⟨#[117,110,100,111]⟩))))),(4,1,(.t 5))]),o8 5 2 6] .ret)),[.cell 2 (some 5)]⟩
theorem Wv:aN Tryz.prog [300004,100005,300006] 36=some AN.erase:=by kernel_rfl
def AM:CF:=⟨24, (kq [kM 4 xF] (.seq (kq [om 7 0,o6 8 33 [.t 7],o9 9 0 8,o7 10 0] (.block 0 (.loop (.trim [10,1,0,8,9] (kq [o4 11 .lss 10 9] (.seq (kd 11 .skip (.exit 0)) (.seq (.block 1 (kq [oi 12 172 8 10,o2 13 172 12,kB 6 dZ,o8 172 6 13] (.seq (.ops true [0,0,2,7,0,0,32,127,255] [om 14 0,o1 15 0 6,o2 16 33 15,o6 17 16 [.t 14,.t 16],om 18 1,o1 19 0 6,o2 20 33 19,o6 21 16 [.t 18,.t 20],o0 22 (.eqa false [.b] true (.t 17) (.t 21))]) (kd 22 (kq [kM 4 xF] .ret) .skip)))) (fo [o5 23 .add 10 1,om 10 23])))))))) (kq [kM 4 xT] .ret))),[.tmp 4]⟩
theorem Wu:aN Tryz.prog [] 37=some AM.erase:=by kernel_rfl
end Go.Proofs.Q
namespace Go.Proofs.Q
open Go Go.Bb Go.RowKit Go.Proofs.Lg
open Go.Ab (D RD)
theorem FQ(over:List af):aG Tryz.prog 36 [.sl 33 (over.map aj)] (.agg (bc (dm over))):=by
 have a:b8 gy 0 1 [.d (.sc (.string ⟨#[122,111,101]⟩))]=some ((bc {aX.zero with author:=⟨#[122,111,101]⟩}).map .d):=rfl;have r2:b8 ((bc {aX.zero with author:=⟨#[122,111,101]⟩}).map .d) 1 1 [.d (.sc (.string ⟨#[117,110,100,111]⟩))]=some ((bc {aX.zero with author:=⟨#[122,111,101]⟩,message:=⟨#[117,110,100,111]⟩}).map .d):=rfl
 have b:b8 ((bc {aX.zero with author:=⟨#[122,111,101]⟩,message:=⟨#[117,110,100,111]⟩}).map .d) 4 1 [.d (.sl 139 [aV {aC.zero with kind:=7,over:=over}])]=some ((bc (dm over)).map .d):=rfl;refine aM (F:=AN) Wv (by simp[AN]) ?_;simp only[AN]
 repeat' first|refine ae (fun _=> ?_) fun _=> ?_|refine ay (ga @a (ga @r2 (ga @b (ga @de (ga @fJ (ga @br @wj)))))) ab ?_|exact ax (ga @a (ga @r2 (ga @b (ga @de (ga @fJ (ga @br @wj)))))) ab|fail
 all_goals first|rfl|trace_state
set_option maxHeartbeats 1000000 in
theorem TF(s t:aD)(o:(ff s).length≤1000000000)(e:aG Tryz.prog 33 [.sl 37 (s.map b5)] (.sl 172 ((ff s).map aI)))(h: ∀i,aG Tryz.prog 16 [.sl 37 (s.map b5),.agg (aj i)] (dB (eE s i)))(j: ∀i,aG Tryz.prog 16 [.sl 37 (t.map b5),.agg (aj i)] (dB (eE t i))):
  aG Tryz.prog 37 [.sl 37 (s.map b5),.sl 37 (t.map b5)] (dB (vN s t)):=by
 unfold vN;obtain⟨A,c⟩: ∃A,A=ff s:=⟨_,rfl⟩
 rw[←c]at e o⊢;clear c;refine aM (F:=AM) Wu (by simp[AM]) ?_;simp only[AM]
 repeat' first|refine ae (fun _=> ?_) fun _=> ?_|refine ay ab @e ?_|exact ax ab @e|fail
 refine aZ.over A (fun k (b:List aa)=>[(10,iN k)]) (fun _ b=>b) (fun r _=>r.all fun x=>eE s x.id==eE t x.id) (A.all fun x=>eE s x.id==eE t x.id) [] a8 aB aB rfl rfl (fun k b x hg hk d n a=> ?_) (fun b d a=> ?_)
 ·have f:=h x.id;have g:=j x.id;rw[List.all_cons]at a;obtain⟨u,l⟩: ∃u,u=eE s x.id:=⟨_,rfl⟩
  obtain⟨v,m⟩: ∃u,u=eE t x.id:=⟨_,rfl⟩
  rw[←l]at f a;rw[←m]at g a;clear l m h j e;cases u<;>cases v
  all_goals
   repeat' first|refine ae (fun _=> ?_) fun _=> ?_|refine ay (ga @xm (ga @wU (ga @wS (ga @wV (ga @wT (ga @d (ga @n (ga @hg (ga @az (ga @bb (ga @bz @wj))))))))))) (ga @f @g) ?_|exact ax (ga @xm (ga @wU (ga @wS (ga @wV (ga @wT (ga @d (ga @n (ga @hg (ga @az (ga @bb (ga @bz @wj))))))))))) (ga @f @g)|fail
   all_goals first|(rw[a];rfl)|exact⟨_,rfl,rfl,by rw[a];simp⟩|trace_state
 ·rw[List.all_nil]at a
  repeat' first|refine ae (fun _=> ?_) fun _=> ?_|refine ay @d ab ?_|exact ax @d ab|fail
  all_goals(rw[a])
theorem fc.atoms{s:aD}(h:fc s):aG Tryz.prog 33 [.sl 37 (s.map b5)] (.sl 172 ((ff s).map aI)):=L7 s (ef h.len (by decide)) h.pat h.v
theorem fc.alen{s:aD}(h:fc s):(ff s).length≤1000000:=by
 have b:=uR (fun x:bT=>(dR x.pat).1) 80040 s fun x a=>ER (h.pat x a).2;have c:s.length*80040≤12*80040:=iP _ h.len;show(s.flatMap fun x=>(dR x.pat).1).length≤_;omega
theorem fc.same{s t:aD}(h:fc s)(k:fc t):aG Tryz.prog 37 [.sl 37 (s.map b5),.sl 37 (t.map b5)] (dB (vN s t)):=TF s t (ef h.alen (by decide)) h.atoms h.alive k.alive
end Go.Proofs.Q
