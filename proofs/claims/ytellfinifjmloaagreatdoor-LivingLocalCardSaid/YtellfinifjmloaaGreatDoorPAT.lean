/- Lemmas. -/
import Derived.Lib.UnsafeStr
import Derived.ProofKit
import Derived.OpenShut
import Derived.Deep.Slices
import Derived.Test.YtellfinifjmloaaGreatDoorPAR
set_option linter.unusedVariables false
set_option linter.unusedSimpArgs false
namespace Go.Proofs
open Go.Shelf
def Tryz.laysSortDgs_ren:Go.Shelf.Ren:=⟨fun|6=>205|15=>91|14=>266|28=>145|29=>146|20=>289|21=>290|22=>291|23=>292|24=>293|25=>294|26=>295|27=>296|46=>305|47=>200|48=>201|49=>306|50=>307|57=>310|n=>n,fun|22=>41|24=>25|25=>102|3=>3|39=>124|0=>0|53=>174|55=>176|4=>4|46=>168|45=>167|50=>140|5=>5|9=>9|66=>227|70=>231|76=>273|77=>274|n=>n,fun|n=>n⟩
theorem Tryz.laysSortDgs:Go.Proofs.SlLaysF0.n6 Tryz.prog Tryz.laysSortDgs_ren:={
 mixed:=by kernel_rfl
 f6:=⟨Tryz.f205.name,by decide,Tryz.func205.trans (congrArg some (by kernel_rfl))⟩
 f14:=⟨Tryz.f266.name,by decide,Tryz.func266.trans (congrArg some (by kernel_rfl))⟩
 f15:=Tryz.func91.trans (congrArg some (by kernel_rfl))
 f20:=⟨Tryz.f289.name,by decide,Tryz.func289.trans (congrArg some (by kernel_rfl))⟩
 f21:=⟨Tryz.f290.name,by decide,Tryz.func290.trans (congrArg some (by kernel_rfl))⟩
 f22:=⟨Tryz.f291.name,by decide,Tryz.func291.trans (congrArg some (by kernel_rfl))⟩
 f23:=⟨Tryz.f292.name,by decide,Tryz.func292.trans (congrArg some (by kernel_rfl))⟩
 f24:=⟨Tryz.f293.name,by decide,Tryz.func293.trans (congrArg some (by kernel_rfl))⟩
 f25:=⟨Tryz.f294.name,by decide,Tryz.func294.trans (congrArg some (by kernel_rfl))⟩
 f26:=⟨Tryz.f295.name,by decide,Tryz.func295.trans (congrArg some (by kernel_rfl))⟩
 f27:=⟨Tryz.f296.name,by decide,Tryz.func296.trans (congrArg some (by kernel_rfl))⟩
 f28:=Tryz.func145.trans (congrArg some (by kernel_rfl))
 f29:=Tryz.func146.trans (congrArg some (by kernel_rfl))
 f46:=⟨Tryz.f305.name,by decide,Tryz.func305.trans (congrArg some (by kernel_rfl))⟩
 f47:=Tryz.func200.trans (congrArg some (by kernel_rfl))
 f48:=Tryz.func201.trans (congrArg some (by kernel_rfl))
 f49:=⟨Tryz.f306.name,by decide,Tryz.func306.trans (congrArg some (by kernel_rfl))⟩
 f50:=⟨Tryz.f307.name,by decide,Tryz.func307.trans (congrArg some (by kernel_rfl))⟩
 f57:=⟨Tryz.f310.name,by decide,Tryz.func310.trans (congrArg some (by kernel_rfl))⟩
 t0:=Tryz.underlying0
 a0:=Tryz.isAgg0
 z0:=Tryz.sizeOf0
 v0:=Tryz.zeroValue0
 t3:=Tryz.underlying3
 a3:=Tryz.isAgg3
 z3:=Tryz.sizeOf3
 v3:=Tryz.zeroValue3
 t4:=Tryz.underlying4
 a4:=Tryz.isAgg4
 z4:=Tryz.sizeOf4
 v4:=Tryz.zeroValue4
 t5:=Tryz.underlying5
 a5:=Tryz.isAgg5
 z5:=Tryz.sizeOf5
 v5:=Tryz.zeroValue5
 t9:=Tryz.underlying9
 a9:=Tryz.isAgg9
 z9:=Tryz.sizeOf9
 v9:=Tryz.zeroValue9
 t22:=Tryz.underlying41
 a22:=Tryz.isAgg41
 z22:=Tryz.sizeOf41
 v22:=Tryz.zeroValue41
 t25:=Tryz.underlying102
 a25:=Tryz.isAgg102
 z25:=Tryz.sizeOf102
 v25:=Tryz.zeroValue102
 t39:=Tryz.underlying124
 a39:=Tryz.isAgg124
 z39:=Tryz.sizeOf124
 v39:=Tryz.zeroValue124
 t45:=Tryz.underlying167
 a45:=Tryz.isAgg167
 z45:=Tryz.sizeOf167
 v45:=Tryz.zeroValue167
 t46:=Tryz.underlying168
 a46:=Tryz.isAgg168
 z46:=Tryz.sizeOf168
 v46:=Tryz.zeroValue168
 t50:=Tryz.underlying140
 a50:=Tryz.isAgg140
 z50:=Tryz.sizeOf140
 v50:=Tryz.zeroValue140
 t53:=Tryz.underlying174
 a53:=Tryz.isAgg174
 z53:=Tryz.sizeOf174
 v53:=Tryz.zeroValue174
 t55:=Tryz.underlying176
 a55:=Tryz.isAgg176
 z55:=Tryz.sizeOf176
 v55:=Tryz.zeroValue176
 t66:=Tryz.underlying227
 a66:=Tryz.isAgg227
 z66:=Tryz.sizeOf227
 v66:=Tryz.zeroValue227
 t70:=Tryz.underlying231
 a70:=Tryz.isAgg231
 z70:=Tryz.sizeOf231
 v70:=Tryz.zeroValue231
 t76:=Tryz.underlying273
 a76:=Tryz.isAgg273
 z76:=Tryz.sizeOf273
 v76:=Tryz.zeroValue273
 t77:=Tryz.underlying274
 a77:=Tryz.isAgg274
 z77:=Tryz.sizeOf274
 v77:=Tryz.zeroValue274}
end Go.Proofs
namespace Go.Proofs.Lh
open Go Go.Ab Go.Bb Go.RowKit Go.Proofs.Lg
def self(b:Nat):Value:= .pointer (some ⟨b,0,none⟩)
set_option maxHeartbeats 1000000 in
set_option maxRecDepth 100000 in
theorem S7(b:Nat)(w:World)(c:w.cell? ⟨b,0,none⟩=some (.pointer (some ⟨b,0,none⟩))):
  Calls Tryz.prog 304 #[.pointer (some ⟨b,0,none⟩)] w fun e w'=>e= .returned (.tuple #[])∧w'=w:=by
 obtain⟨j,a⟩: ∃j,Tryz.prog.info? 270=some j:=wq.1 (show(Tryz.prog.info? 270).isSome=true by kernel_rfl)
 go_enter Tryz.func304,Tryz.ntmps304
 go_wp2
 rw[Go.Lib.run_neq_ptr_same w _ Tryz.underlying268 a]
 go_wp2
 go_end0
 exact⟨rfl,rfl⟩
set_option maxHeartbeats 1000000 in
set_option maxRecDepth 100000 in
theorem S6(b:Nat)(w:World)(h:w.cell? ⟨b,0,none⟩=some (.pointer none))(c:w.shape? b=some (270,2))(g:w.frozen? ⟨b,0,none⟩=false):
  Calls Tryz.prog 304 #[.pointer (some ⟨b,0,none⟩)] w fun e w'=>e= .returned (.tuple #[])∧w'=w.setCell ⟨b,0,none⟩ (.pointer (some ⟨b,0,none⟩)):=by
 obtain⟨j,f,d⟩: ∃j,Tryz.prog.info? 270=some j∧j.size=2:=dt.1 (show(Tryz.prog.info? 270).map (·.size)=some 2 by kernel_rfl);have a:liesAt Tryz.prog Tryz.prog.depth 270 (2/Tryz.prog.cellsOf 270) 0 270 1=true:=by kernel_rfl
 go_enter Tryz.func304,Tryz.ntmps304
 go_wp2
 rw[Go.Lib.run_to_unsafe w ⟨b,0,none⟩ Tryz.underlying268 Tryz.underlying304 f (by rw[d];decide) c (Nat.zero_lt_succ 1)];simp only[Result.andThen];rw[Oper.upon_value]
 go_wp2
 rw[run_callFunc_extern Tryz.func309 (by kernel_rfl) (by kernel_rfl) (by kernel_rfl) (e:=Extern.AbiNoEscape.same) (by kernel_rfl)];rw[Go.Lib.run_noEscape];simp only[Result.andThen];rw[Oper.upon_value]
 go_wp2
 rw[Go.Lib.run_from_unsafe w ⟨b,0,none⟩ Tryz.underlying304 Tryz.underlying268 f c a];simp only[Result.andThen];rw[Oper.upon_value]
 go_wp2
 go_end0
 exact⟨rfl,rfl⟩
end Go.Proofs.Lh
namespace Go.Proofs.Q
open Go Go.Ab Go.Bb
def Au:CF:=⟨19, (kq [o7 4 0] (.seq (kq [om 6 0,o9 7 0 6,o7 8 0] (.block 0 (.loop (.trim [8,0,1,7] (kq [o4 9 .lss 8 7] (.seq (kd 9 .skip (.exit 0)) (.seq (.block 1 (kq [om 10 8,om 5 10] (kq [om 11 1,om 12 0,om 13 5,oi 14 1 12 13,o3 15 14,o4 16 .eql 11 15] (kd 16 (kq [om 17 5,om 4 17] .ret) .skip)))) (fo [o5 18 .add 8 1,om 8 18])))))))) (kq [kM 4 (xi (-1))] .ret))),[.tmp 4]⟩
theorem M6:aN Tryz.prog [] 282=some Au.erase:=by kernel_rfl
def Ap:CF:=⟨9, (kq [kM 4 xF] (kq [om 5 0,om 6 1,o6 7 282 [.t 5,.t 6],o5 8 .geq 7 0,om 4 8] .ret)),[.tmp 4]⟩
theorem Wa:aN Tryz.prog [] 241=some Ap.erase:=by kernel_rfl
def AA:CF:=⟨20, (kq [o7 4 0] (kq [om 7 0,o6 8 148 [.t 7],om 5 8] (kq [om 9 1,o6 10 148 [.t 9],om 6 10] (.seq (kq [om 11 5] (kd 11 (.seq (kq [om 12 6] (kd 12 (kz 4 0) .skip)) (kq [kM 4 (xi (-1))] .ret)) .skip)) (.seq (kq [om 13 6] (kd 13 (kz 4 1) .skip)) (.seq (kq [om 14 0,om 15 1,o4 16 .lss 14 15] (kd 16 (kq [kM 4 (xi (-1))] .ret) .skip)) (.seq (kq [om 17 0,om 18 1,o4 19 .gtr 17 18] (kd 19 (kz 4 1) .skip)) (kz 4 0)))))))),[.tmp 4]⟩
theorem Wj:aN Tryz.prog [] 93=some AA.erase:=by kernel_rfl
def AI:CF:=⟨6, (kq [kM 2 xF] (kq [om 3 0,om 4 0,o4 5 .neq 3 4,om 2 5] .ret)),[.tmp 2]⟩
theorem Wq:aN Tryz.prog [] 148=some AI.erase:=by kernel_rfl
end Go.Proofs.Q
namespace Go.Proofs.Q
open Go Go.Bb Go.RowKit Go.Proofs.Lg
open Go.Ab (D RD)
theorem Tq(s:bh):isName s=(oo s.data.toList&& !decide (s=⟨#[]⟩)&&decide ((s.size:Int)≤40)&& !decide (s=⟨#[46]⟩)&& !decide (s=⟨#[46,46]⟩)):=by
 have h:decide (1≤(s.size:Int))= !decide (s=⟨#[]⟩):=by
  by_cases e:s=⟨#[]⟩
  ·subst e;rfl
  ·have hp:s.size≠0:=fun a=>e (by
    apply ByteArray.ext;exact Array.eq_empty_of_size_eq_zero a)
   rw[decide_eq_false e];simp;omega
 unfold isName;rw[h]
set_option maxHeartbeats 4000000 in
theorem N5(s:bh)(c:s.size≤9223372036854775807):aG Tryz.prog 184 [dS s] (dB (isName s)):=by
 refine aM (F:=Bk) X0 (by simp[Bk]) ?_;simp only[Bk];refine aO ab ab ?_;refine aZ.over s.data.toList (fun k (_:Unit)=>[(7,iN k)]) (fun _ _=>[]) (fun l _=>oo l) (oo s.data.toList) () (by rw[fD];exact c) aB aB rfl rfl (fun k _ x hg hk b d a=> ?_) (fun _ b a=> ?_)
 ·rw[fD]at b;rw[oo]at a
  repeat' first|refine ae (fun _=> ?_) fun _=> ?_|refine ay (ga @b (ga @d (ga @qM @hg))) ab ?_|exact ax (ga @b (ga @d (ga @qM @hg))) ab|fail
  all_goals first
   |(
    have hb:vn x=true:=by(clear a b d hg c;simp_all[vn];try omega)
    rw[if_pos hb]at a;exact⟨(),a⟩)
   |(
    have hb:vn x=false:=by(clear a b d hg c;simp_all[vn];try omega)
    rw[if_neg (by simp[hb])]at a;simp[isName,a])
 ·rw[fD]at b;rw[oo]at a
  repeat' first|refine ae (fun _=> ?_) fun _=> ?_|refine ay (ga @b (ga @fD @nR)) ab ?_|exact ax (ga @b (ga @fD @nR)) ab|fail
  all_goals(rw[Tq,a];clear b c;first|(simp_all;done)|(simp_all;intros;omega))
end Go.Proofs.Q
namespace Go.Proofs.Q
open Go Go.Ab Go.Bb
def BJ:CF:=⟨21, (kq [kM 2 (.c (.d (.sc (.map none))))] (kq [o0 6 (.mkm true),om 3 6] (.seq (kq [om 7 0,o9 8 0 7,o7 9 0] (.block 0 (.loop (.trim [9,3,7,8] (kq [o4 10 .lss 9 8] (.seq (kd 10 .skip (.exit 0)) (.seq (.block 1 (kq [oi 11 37 7 9,o2 12 37 11,kB 5 vY,o8 37 5 12] (.ops true [0,0,2,0,8,24,63] [om 13 3,o1 14 0 5,o2 15 32 14,o1 16 32 5,o2 17 5 16,o6 18 151 [.t 17],oN (.mup true eV (.t 13) (.t 15) (.t 18))]))) (fo [o5 19 .add 9 1,om 9 19])))))))) (kq [om 20 3,om 2 20] .ret)))),[.tmp 2]⟩
theorem Xp:aN Tryz.prog [] 154=some BJ.erase:=by kernel_rfl
end Go.Proofs.Q
namespace Go.Bb
open Go Go.RowKit Go.Ab Go.Deep Go.WideShapes
inductive Sh where
 |int (k:IntKind)
 |bool
 |str
 |sl (size:Nat) (row:List Sh)
inductive ShOk:Sh→D→Prop where
 |int {k:IntKind} {n:Int}:(Lit.int k n).wf=true→ShOk (.int k) (.sc (.int k n))
 |bool (b:Bool):ShOk .bool (.sc (.bool b))
 |str {s:ByteArray}:s.size≤maxLen→ShOk .str (.sc (.string s))
 |sl {size:Nat} {shs:List Sh} {rows:List (List D)}:rows.length≤maxLen→(∀r,r∈rows→r.length=shs.length)→(∀(r:List D) (i:Nat) (sh:Sh) (d:D),r∈rows→shs[i]?=some sh→r[i]?=some d→ShOk sh d)→ShOk (.sl size shs) (.sl size rows)
def ShsOk(shs:List Sh)(ds:List D):Prop:=ds.length=shs.length∧ ∀(i:Nat) (sh:Sh) (d:D),shs[i]?=some sh→ds[i]?=some d→ShOk sh d
theorem ShsOk.append{a b:List Sh}{x y:List D}(h:ShsOk a x)(k:ShsOk b y):ShsOk (a++b) (x++y):=by
 refine⟨by simp[h.1,k.1],fun i sh d f e=> ?_⟩;rw[jg]at f e;rw[h.1]at e;split at f
 ·rename_i c;rw[if_pos c]at e;exact h.2 i sh d f e
 ·rename_i c;rw[if_neg c]at e;exact k.2 _ sh d f e
theorem ShsOk.one{a:Sh}{x:D}(h:ShOk a x):ShsOk [a] [x]:=by
 refine⟨rfl,fun i sh d b c=> ?_⟩;cases i with
 |zero=>simp at b c;subst b;subst c;exact h
 |succ i=>simp at b
def yq(P:Program)(g:TypeId→Option (List Sh))(b:Nat):Nat→List Field→Option (List Sh)
 |off,[]=>if off=b then some []else none
 |off,f::fs=>if f.offset=off then(g f.type).bind fun a=>if a.length=P.cellsOf f.type then(yq P g b (off+P.cellsOf f.type) fs).map (a++ ·)else none else none
def rO(P:Program):Nat→TypeId→Option (List Sh)
 |0,_=>none
 |n+1,t=>match P.underlying t with
  |some .bool=>some [.bool]
  |some (.int k)=>some [.int k]
  |some .string=>some [.str]
  |some (.slice e)=>(rO P n e).bind fun r=>if r.length=P.cellsOf e∧0<P.cellsOf e then some [.sl (P.cellsOf e) r]else none
  |some (.struct fs)=>yq P (rO P n) (P.cellsOf t) 0 fs.toList
  |some (.array m e)=>(rO P n e).bind fun r=>if r.length=P.cellsOf e∧P.cellsOf t=m*P.cellsOf e then some (List.replicate m r).flatten else none
  |_=>none
theorem Kg{α:Type}{sz:Nat}: ∀(rows:List (List α)),(∀r∈rows,r.length=sz)→ ∀(i:Nat) (x:α),rows.flatten[i]?=some x→ ∃r,rows[i/sz]?=some r∧r[i % sz]?=some x
 |[],_,i,x,h=>by simp at h
 |r::rows,hr,i,x,h=>by
  have d:=hr r (by simp);rw[fL,jg]at h;split at h
  ·rename_i a;rw[d]at a;rw[Nat.div_eq_of_lt a,Nat.mod_eq_of_lt a];exact⟨r,rfl,h⟩
  ·rename_i a;rw[d]at a h;obtain⟨r',e,g⟩:=Kg rows (fun r h=>hr r (eQ _ h)) (i-sz) x h;have c:0<sz:=by
    rcases uo sz with h0|h0
    ·subst h0;have f:rows.flatten=[]:=by
      rw[List.flatten_eq_nil_iff];intro l b;exact yV.1 (hr l (eQ _ b))
     rw[f]at h;simp at h
    ·exact h0
   have hi:sz≤i:=by omega
   refine⟨r',?_,?_⟩
   ·rw[show i/sz=(i-sz)/sz+1 from by rw[←Nat.add_div_right _ c,Nat.sub_add_cancel hi]];simpa using e
   ·rwa[Nat.mod_eq_sub_mod hi]
section
variable {H:Type} {enc:TypeId×Value→H} {P:Program} {w:World} {base:Nat} {spare:Nat→Bool} {held:Bool}
theorem O8{I:Nat→Nat}{g:TypeId→Option (List Sh)}{q:TypeId→List Value→Prop}{cs:List Value}(hg: ∀t shs c,g t=some shs→q t c→ ∃ds,db I w c ds∧ShsOk shs ds):
  ∀(i:List Field) (off:Nat) (shs:List Sh),yq P g cs.length off i=some shs→(∀f∈i,q f.type ((cs.drop f.offset).take (P.cellsOf f.type)))→ ∃ds,db I w (cs.drop off) ds∧ShsOk shs ds
 |[],off,shs,d,_=>by
  unfold yq at d;split at d
  ·rename_i h;cases d;subst h;refine⟨[],⟨by simp,by simp,by simp⟩,rfl,by simp⟩
  ·cases d
 |f::i,off,shs,d,hq=>by
  unfold yq at d;split at d
  ·rename_i h;obtain⟨a,ha,d⟩:=yZ.1 d;split at d
   ·rename_i o;obtain⟨b,hb,rfl⟩:=dt.1 d;obtain⟨k,j,n⟩:=hg _ _ _ ha (hq f (by simp));obtain⟨l,r2,s2⟩:=O8 hg i _ b hb fun f m=>hq f (eQ _ m);refine⟨k++l,?_,n.append s2⟩;rw[h]at j;have e:cs.drop off=(cs.drop off).take (P.cellsOf f.type)++cs.drop (off+P.cellsOf f.type):=by
     rw[←ue,ji]
    rw[e];exact j.append r2
   ·cases d
  ·cases d
theorem O7{I:Nat→Nat}{sz:Nat}{r:List Sh}(d:r.length=sz): ∀(m:Nat) (cs:List Value),cs.length=m*sz→(∀i,i<m→ ∃ds,db I w ((cs.drop (i*sz)).take sz) ds∧ShsOk r ds)→ ∃ds,db I w cs ds∧ShsOk (List.replicate m r).flatten ds
 |0,cs,hl,_=>by
  rw[pR]at hl;obtain rfl:=yV.1 hl;exact⟨[],⟨rfl,by simp,by simp⟩,by simp,by simp⟩
 |m+1,cs,hl,h=>by
  obtain⟨b,a,e⟩:=h 0 a8;rw[pR,jY]at a;obtain⟨c,r2,s2⟩:=O7 d m (cs.drop sz) (by rw[aA,hl,fe];omega) fun i hi=>by
   have:=h (i+1) a8;rwa[ue,show sz+i*sz=(i+1)*sz by rw[fe];omega]
  refine⟨b++c,?_,?_⟩
  ·rw[←ji sz cs];exact a.append r2
  ·rw[sa,fL];exact e.append s2
theorem yg: ∀(n:Nat) {E:Nat} {t:TypeId} {shs:List Sh} {cs:List Value} {x:DataW H×List MemPlace},rO P n t=some shs→DataW.trod enc P w base spare held E t cs=some x→ ∃ds,db (cellsIn w) w cs ds∧ShsOk shs ds
 |0,_,_,_,_,_,l,_=>by cases l
 |n+1,E,t,shs,cs,x,l,h=>by
  unfold rO at l;split at l
  ·rename_i B;cases l;obtain⟨b,rfl,_⟩:=DataW.trod_bool B h;exact⟨_,db.one (.sc _) rfl,ShsOk.one (.bool b)⟩
  ·rename_i k B;cases l;obtain⟨m,rfl,_,hw⟩:=DataW.trod_int B h;exact⟨_,db.one (.sc _) rfl,ShsOk.one (.int hw)⟩
  ·rename_i B;cases l;obtain⟨s,rfl,_,hw⟩:=DataW.trod_string B h;exact⟨_,db.one (.sc _) rfl,ShsOk.one (.str hw)⟩
  ·rename_i e B;obtain⟨r,Y,l⟩:=yZ.1 l;split at l
   ·rename_i z;cases l;rcases open_slice B h with⟨rfl,_⟩|⟨a,len,cap,m,k,DD,Pl,rfl,hb,O,hm,hmm,_,hi⟩
    ·exact⟨[.sl (P.cellsOf e) []],db.one (RD.sl_mk (us:=[]) rfl (by simp) a8 a8 ⟨rfl,by simp,by simp⟩ (by simp)) rfl,ShsOk.one (.sl (by simp) (by simp) (by simp))⟩
    ·have a1:len≤m:=by rw[hmm];split<;>omega
     have T: ∀i,i<len→ ∃p:List Value×List D,w.cells? base (a.add (i*P.cellsOf e)) (P.cellsOf e)=some p.1∧db (cellsIn w) w p.1 p.2∧ShsOk r p.2:=fun i o=>by
      obtain⟨c,hc,a0⟩:=hi i a8;obtain⟨ds,N,v⟩:=yg n Y a0;exact⟨(c,ds),hc,N,v⟩
     obtain⟨f,A⟩:=choose_lt T;have J: ∀i,i<len→(f i).1.length=P.cellsOf e:=fun i o=>(World.cells?_some (A i o).1).2.1;have K: ∀i,i<len→(f i).2.length=P.cellsOf e:=fun i o=>by rw[(A i o).2.2.1];exact z.1
     have U: ∀m,m≤len→db (cellsIn w) w (((List.range m).map fun i=>(f i).1).flatten) (((List.range m).map fun i=>(f i).2).flatten):=by
      intro m
      induction m with
      |zero=>intro _;exact⟨rfl,by simp,by simp⟩
      |succ m ih=>
       intro hm;rw[List.range_succ,fp,fp,s8,s8];refine(ih a8).append ?_;simpa using(A m a8).2.1
     have L:0<len→a.spot=none:=fun M=>by
      obtain⟨_,N,v⟩:=World.cells?_some (A 0 M).1;have G:=v 0 z.2;rw[bN a8]at G;have:=World.cell?_spot G;simpa[Addr.add]using this
     refine⟨[.sl (P.cellsOf e) ((List.range len).map fun i=>(f i).2)],db.one (RD.sl_mk (us:=((List.range len).map fun i=>(f i).1).flatten) (by simp) ?_ O (by unfold maxLen at hm;omega) (U len (bk _)) ?_) rfl,ShsOk.one (.sl ?_ ?_ ?_)⟩
     ·intro x C;obtain⟨i,hi,rfl⟩:=bR.1 C;exact K i (mQ.1 hi)
     ·intro hne;have Q:0<len:=by
       rcases uo len with M|M
       ·subst M;exact absurd rfl hne
       ·exact M
      have R:=L Q;obtain⟨b,off,sp⟩:=a;simp only at R;subst R;refine⟨b,off,rfl,fun i u hu=> ?_⟩;obtain⟨x,C,S⟩:=Kg _ (fun x C=>by obtain⟨i,hi,rfl⟩:=bR.1 C;exact J i (mQ.1 hi)) i u hu;rw[dL]at C;obtain⟨i',W,rfl⟩:=dt.1 C;obtain⟨o,rfl⟩:=b9.1 W;simp only[ew]at o
      simp only[List.getElem_range]at S;obtain⟨_,N,v⟩:=World.cells?_some (A _ o).1;have G:=v (i % P.cellsOf e) (Nat.mod_lt _ z.2);rw[S]at G;have e':((⟨b,off,none⟩:Addr).add (i/P.cellsOf e*P.cellsOf e)).add (i % P.cellsOf e)=⟨b,off+i,none⟩:=by
       rw[fi,fi];congr 1;have:=Nat.div_add_mod i (P.cellsOf e);rw[Nat.mul_comm]at this;omega
      rw[e']at G;exact⟨vi G,G⟩
     ·simp only[aQ,ew];omega
     ·intro x C;obtain⟨i,hi,rfl⟩:=bR.1 C;exact(A i (mQ.1 hi)).2.2.1
     ·intro x j sh d C Z hd;obtain⟨i,hi,rfl⟩:=bR.1 C;exact(A i (mQ.1 hi)).2.2.2 j sh d Z hd
   ·cases l
  ·rename_i fs B;obtain⟨xs,k,_,rfl,O,F,A⟩:=DataW.trod_struct B h;rw[←O]at l;have:=O8 (P:=P) (w:=w) (I:=cellsIn w) (g:=rO P n) (q:=fun t c=> ∃y,DataW.trod enc P w base spare held k t c=some y) (cs:=cs) (fun t shs c N ⟨y,v⟩=>yg n N v) fs.toList 0 shs l (fun f V=>by
    obtain⟨i,hi,rfl⟩:=List.mem_iff_getElem.1 V;have v:=A i fs.toList[i] (by rw[←rY];exact bN hi);have X:i<xs.length:=by rw[F];simpa using hi
    rw[bN X]at v;exact⟨_,v⟩)
   simpa using this
  ·rename_i m e B;obtain⟨r,Y,l⟩:=yZ.1 l;split at l
   ·rename_i z;cases l;obtain⟨xs,k,_,rfl,O,F,A⟩:=DataW.trod_array B h;refine O7 (sz:=P.cellsOf e) z.1 m cs (O.trans z.2) fun i hi=> ?_;have v:=A i hi;rw[bN a8]at v;exact yg n Y v
   ·cases l
  ·cases l
theorem DW{r:Reach}{g:Nat}{n:Nat}{t:TypeId}{shs:List Sh}{v:Value}{d:DataW H}{ps:List MemPlace}(k:(∃c,P.underlying t=some (.struct c))∨ ∃m e,P.underlying t=some (.array m e))(j:rO P n t=some shs)(b:Value.okWide P w r g t v)(h:DataW.Trod enc P w base spare held t v d ps):
  ∃ds,RD (cellsIn w) w v (.agg ds)∧ShsOk shs ds:=by
 have hc: ∃cs,v= .agg cs:=by
  unfold Value.okWide at b;rcases k with⟨c,a⟩|⟨m,e,a⟩
  ·simp only[a]at b;obtain⟨cs,rfl,_⟩:=b;exact⟨cs,rfl⟩
  ·simp only[a]at b;obtain⟨cs,rfl,_⟩:=b;exact⟨cs,rfl⟩
 obtain⟨cs,rfl⟩:=hc;obtain⟨f,h⟩:=h;obtain⟨ds,a,i⟩:=yg n j h;have e:(Value.agg cs).cells.toList=cs.toList:=rfl;rw[e]at a;refine⟨ds,?_,i⟩;have:=RD.agg cs.toList ds a.1 a.2.1 a.2.2;rwa[Array.toArray_toList]at this
theorem tM{r:Reach}{i:Nat}{n:Nat}{t e:TypeId}{sh:Sh}{v:Value}{d:DataW H}{ps:List MemPlace}(l:P.underlying t=some (.slice e))(k:rO P n t=some [sh])(m:Value.okWide P w r i t v)(h:DataW.Trod enc P w base spare held t v d ps):
  ∃x,RD (cellsIn w) w v x∧ShOk sh x:=by
 obtain⟨a,b,c,rfl⟩:=okWide_slice l m;obtain⟨g,h⟩:=h;obtain⟨ds,f,j⟩:=yg n k h;have e:(Value.slice a b c).cells.toList=[Value.slice a b c]:=rfl;rw[e]at f
 match ds,f.1 with
 |[x],_=>exact⟨x,f.2.2 0 _ x rfl rfl,j.2 0 sh x rfl rfl⟩
end
end Go.Bb
namespace Go.Proofs.Q
open Go Go.Bb Go.Proofs.Lg
open Go.Ab (D)
def EH(s:aD):Prop:= ∃r:Dg→Nat,∀x∈s,∀e∈cD x.pat,r e<r x.id
theorem k8.inj{s:aD}{o:List Dg}(h:k8 s o){i j:Nat}{d:Dg}(hi:o[i]?=some d)(a:o[j]?=some d):i=j:=by
 have key: ∀i j:Nat,o[i]?=some d→o[j]?=some d→ ¬j<i:=fun i j hi a b=>by
  obtain⟨_,_,_,k,_⟩:=h i d hi;exact k (bX (i:=j) (by rw[eY,if_pos b,a]))
 have:=key i j hi a;have:=key j i a hi;omega
theorem Si{H:bh→Dg}{s:aD}(h:dD H s):EH s:=by
 obtain⟨c,m⟩:=ry h;refine⟨fun d=>Classical.epsilon fun i=>(dN s)[i]?=some d,fun x g e o=> ?_⟩;have hi:(dN s)[Classical.epsilon fun i=>(dN s)[i]?=some x.id]?=some x.id:=Classical.epsilon_spec (p:=fun i=>(dN s)[i]?=some x.id) (fU ((m x.id).2 (fV (f:=bT.id) g)));obtain⟨y,q,k,r,n⟩:=c _ _ hi
 have l:=xh h.sorted.nodup x g y q k.symm;subst l;obtain⟨j,a⟩:=fU (n e o);rw[eY]at a;split at a
 ·rename_i b;have hk:=Classical.epsilon_spec (p:=fun i=>(dN s)[i]?=some e) ⟨j,a⟩;dsimp only;rw[c.inj hk a];exact b
 ·cases a
theorem LS{out:List Dg}: ∀{s:aD} {i:Nat} {k:Option (Nat×Dg)},jK out s i k=none→k=none∧ ∀x∈s,x.id∉out→ ∃e∈cD x.pat,e∉out
 |[],i,k,h=>⟨by cases k<;>exact h,by simp⟩
 |x::s,i,k,h=>by
  rw[DA]at h;obtain⟨a,j⟩:=LS h;split at a
  ·cases a
  ·rename_i m;refine⟨a,fun y b c=> ?_⟩;rcases bM.1 b with rfl|b
   ·apply iy;intro hc;apply m;subst a;have f:cW out y.id=false:=by
     cases hb:cW out y.id
     ·rfl
     ·exact absurd ((ng _ _).1 hb) c
    have g:gZ out (cD y.pat)=true:=(wC _ _).2 fun d l=>iy fun hm=>hc ⟨d,l,hm⟩;rw[f,g];rfl
   ·exact j y b c
theorem KY{s:aD}(r:Dg→Nat)(out:List Dg): ∀n:Nat,(∃x∈s,x.id∉out∧r x.id≤n)→ ∃x∈s,x.id∉out∧ ∀y∈s,y.id∉out→r x.id≤r y.id
 |0,⟨x,hx,hn,hr⟩=>⟨x,hx,hn,fun y _ _=>by omega⟩
 |n+1,⟨x,hx,hn,hr⟩=>by
  by_cases h: ∃y∈s,y.id∉out∧r y.id≤n
  ·exact KY r out n h
  ·refine⟨x,hx,hn,fun y c a=> ?_⟩;apply iy;intro b;exact h ⟨y,c,a,by omega⟩
theorem MN{s:aD}(o:EH s)(t: ∀x∈s,∀e∈cD x.pat,e∈bs s)(c:(bs s).Nodup): ∀(f:Nat) (out:List Dg),k8 s out→s.length≤out.length+f→s.length≤(kC s f out).length
 |0,out,h,hf=>hf
 |f+1,out,h,hf=>by
  cases i:jK out s 0 none with
  |none=>
   rw[kC,i];dsimp only;have a: ∀d∈bs s,d∈out:=by
    intro d j;obtain⟨x,A,rfl⟩:=bR.1 j;apply iy;intro l;obtain⟨r,w⟩:=o;obtain⟨y,m,n,b⟩:=KY r out (r x.id) ⟨x,A,l,bk _⟩;obtain⟨e,p,k⟩:=(LS i).2 y m n;obtain⟨z,B,rfl⟩:=bR.1 (t y m e p);have g:=w y m _ p;have v:=b z B k;omega
   have g:=xD c a;have v:(bs s).length=s.length:=aQ _;omega
  |some q=>
   have g:=(DG (s:=s) 1 out h).1;have u:kC s 1 out=out++[q.2]:=by rw[kC,i];rfl
   rw[u]at g;rw[kC,i];exact MN o t c f (out++[q.2]) g (by rw[aR,qC];omega)
section
variable (H:bh→Dg)
theorem Ky{p:aX}(h:(bq H p).2=0):iZ p=0:=by
 unfold bq at h;unfold iZ;by_cases a:(cV p).2≠0
 ·rw[if_pos a]at h;exact h
 ·exact iy a
theorem Ob{p:aX}(h:iZ p=0): ∀c∈p.changes,∀y∈kJ c,isZero y.p=false→y.p∈cD p:=by
 intro c hc y a b;unfold cD;rw[if_neg (by simp[h])];exact((Dy _ _ (yG _ _ dQ.nil).1).2 _).2 (.inl ⟨c,hc,y,a,b,rfl⟩)
end
end Go.Proofs.Q
namespace Go.Proofs.Q
open Go Go.Bb Go.RowKit Go.Proofs.Lg
open Go.Ab (D RD)
theorem Vc(p:aX):(cD p).length≤161700:=by
 unfold cD;split
 ·simp
 ·rename_i h;obtain⟨i,j,f,_⟩:=jy (uH (p:=p) (by simpa using h));have b: ∀(r l:List Dg),(mE r l).length≤l.length+r.length:=by
   intro r
   induction r with
   |nil=>intro l;exact bk _
   |cons d r a=>intro l;rw[mE];have:=a (lL l d);have:=Ex l d;rw[aY];omega
  have e: ∀(r:List aC) (l:List Dg),(∀c∈r,ft c=0)→(ni r l).length≤l.length+404*r.length:=by
   intro r
   induction r with
   |nil=>intro l _;exact bk _
   |cons c r a=>
    intro l hc;rw[ni];have:=a (mF (kJ c) l) fun x g=>hc x (eQ _ g);have:=Pp (kJ c) l;have:=wY (hc c (by simp));have:(kJ c).length=c.over.length+4:=rfl;rw[aY];omega
  have:=b p.deps [];have:=e p.changes (mE p.deps []) f;simp at*;omega
end Go.Proofs.Q
