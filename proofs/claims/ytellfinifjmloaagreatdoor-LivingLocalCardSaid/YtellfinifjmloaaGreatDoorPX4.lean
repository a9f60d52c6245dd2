/- Lemmas. -/
import Derived.Test.YtellfinifjmloaaGreatDoorPAQ
set_option linter.unusedVariables false
set_option linter.unusedSimpArgs false
namespace Go.Proofs.Q
open Go Go.Ab Go.Bb
def Ci:CF:=⟨18, (kq [ox 3 1,kM 4 xF] (.seq (kq [o7 5 0] (.block 0 (.loop (.trim [5,3,0] (.seq (kq [om 6 5,om 7 0,o9 8 0 7,o4 9 .lss 6 8] (kd 9 .skip (.exit 0))) (.seq (.block 1 (.seq (.ops true [0,0,3,7,0,31] [om 12 0,om 13 5,oi 14 33 12 13,o2 15 33 14,o2 16 33 3,o0 17 (.eqa true cJ false (.t 15) (.t 16))]) (kd 17 (kq [kM 4 xT] .ret) .skip))) (fo [om 10 5,o5 11 .add 10 1,om 5 11]))))))) (kq [kM 4 xF] .ret))),[.tmp 4]⟩
theorem Mt:aN Tryz.prog [100003] 35=some Ci.erase:=by kernel_rfl
def Ck:CF:=⟨87, (kq [ox 2 0,ox 3 1,kM 4 xF] (kq [o1 5 0 2,o2 6 33 5,o1 7 0 3,o2 8 33 7,o0 9 (.eqa true cJ false (.t 6) (.t 8)),om 10 9,kF 11 10 true 33 2,kL 12 10 true 11,kF 13 10 true 33 3,kL 14 10 true 13,kG 15 10 true .eql (.t 12) (.t 14),kP 16 10 15,om 17 16,kF 18 17 true 34 2,og 19 17 true (.ld (some 33) (.t 18)),kF 20 17 true 34 3,og 21 17 true (.ld (some 33) (.t 20)),og 22 17 true (.eqa true cJ false (.t 19) (.t 21)),kP 23 17 22,om 24 23,kF 25 24 true 67 2,kL 26 24 true 25,kF 27 24 true 67 3,kL 28 24 true 27,kG 29 24 true .eql (.t 26) (.t 28),kP 30 24 29,om 31 30,kF 32 31 true 68 2,og 33 31 true (.ld (some 33) (.t 32)),kF 34 31 true 68 3,og 35 31 true (.ld (some 33) (.t 34)),og 36 31 true (.eqa true cJ false (.t 33) (.t 35)),kP 37 31 36,om 38 37,kF 39 38 true 101 2,kL 40 38 true 39,kF 41 38 true 101 3,kL 42 38 true 41,kG 43 38 true .eql (.t 40) (.t 42),kP 44 38 43,om 45 44,kF 46 45 true 102 2,kL 47 45 true 46,kF 48 45 true 102 3,kL 49 45 true 48,kG 50 45 true .eql (.t 47) (.t 49),kP 51 45 50,om 52 51,kF 53 52 true 103 2,kL 54 52 true 53,kF 55 52 true 103 3,kL 56 52 true 55,kG 57 52 true .eql (.t 54) (.t 56),kP 58 52 57,om 59 58,kF 60 59 true 104 2,kL 61 59 true 60,kF 62 59 true 104 3,kL 63 59 true 62,kG 64 59 true .eql (.t 61) (.t 63),kP 65 59 64,om 66 65,kF 67 66 true 105 2,og 68 66 true (.ld (some 33) (.t 67)),kF 69 66 true 105 3,og 70 66 true (.ld (some 33) (.t 69)),og 71 66 true (.eqa true cJ false (.t 68) (.t 70)),kP 72 66 71,om 73 72,kF 74 73 true 138 2,og 75 73 true (.ld (some 33) (.t 74)),kF 76 73 true 138 3,og 77 73 true (.ld (some 33) (.t 76)),og 78 73 true (.eqa true cJ false (.t 75) (.t 77)),kP 79 73 78,om 80 79,kF 81 80 true 171 2,kL 82 80 true 81,kF 83 80 true 171 3,kL 84 80 true 83,og 85 80 true (.call (.fn 18) [.t 82,.t 84]),kP 86 80 85,om 4 86] .ret)),[.tmp 4]⟩
theorem XX:aN Tryz.prog [100002,100003] 15=some Ck.erase:=by kernel_rfl
def Cl:CF:=⟨27, (kq [kM 4 xF] (.seq (kq [om 6 0,o9 7 0 6,om 8 1,o9 9 0 8,o4 10 .neq 7 9] (kd 10 (kq [kM 4 xF] .ret) .skip)) (.seq (kq [o7 5 0] (.block 0 (.loop (.trim [5,1,0] (.seq (kq [om 11 5,om 12 0,o9 13 0 12,o4 14 .lss 11 13] (kd 14 .skip (.exit 0))) (.seq (.block 1 (.seq (.ops true [0,0,3,7,0,0,48,112,255,511] [om 17 0,om 18 5,oi 19 172 17 18,o2 20 172 19,om 21 1,om 22 5,oi 23 172 21 22,o2 24 172 23,o6 25 15 [.t 20,.t 24],o0 26 (.not (.t 25))]) (kd 26 (kq [kM 4 xF] .ret) .skip))) (fo [om 15 5,o5 16 .add 15 1,om 5 16]))))))) (kq [kM 4 xT] .ret)))),[.tmp 4]⟩
theorem Mw:aN Tryz.prog [] 39=some Cl.erase:=by kernel_rfl
end Go.Proofs.Q
namespace Go.Proofs.Q
open Go Go.Bb Go.RowKit Go.Proofs.Lg
open Go.Ab (D RD)
theorem DS(l:List af)(d:af):aG Tryz.prog 35 [.sl 33 (l.map aj),.agg (aj d)] (dB (dh l d)):=by
 refine aG.big (enters_of Mt) 0 rfl fun b=> ?_;rw[aQ]at b;refine aM (F:=Ci) Mt (by simp[Ci]) ?_;simp only[Ci]
 repeat' first|refine ae (fun _=> ?_) fun _=> ?_|refine ay ab ab ?_|exact ax ab ab|fail
 refine aZ.over l (fun k (_:Unit)=>[(5,iN k)]) (fun _ _=>[]) (fun r _=>dh r d) (dh l d) () b aB aB rfl rfl (fun k _ x hg hk a c e=> ?_) (fun _ a e=> ?_)
 ·repeat' first|refine ae (fun _=> ?_) fun _=> ?_|refine ay (ga @a (ga @c @hg)) ab ?_|exact ax (ga @a (ga @c @hg)) ab|fail
  all_goals(simp_all[dh,cG];try exact cB)
 ·repeat' first|refine ae (fun _=> ?_) fun _=> ?_|refine ay @a ab ?_|exact ax @a ab|fail
  all_goals(simp_all[dh,cG];try exact cB)
theorem au.eq_iff(a b:au):a=b↔a.id=b.id∧a.kind=b.kind∧a.file=b.file∧a.type=b.type∧a.parent=b.parent∧a.name=b.name∧a.mode=b.mode∧a.data=b.data∧a.text=b.text∧a.fro=b.fro∧a.til=b.til∧a.over=b.over:=by
 cases a;cases b;simp only[au.mk.injEq]
set_option maxRecDepth 20000 in
set_option maxHeartbeats 2000000 in
theorem Nu(a b:au):aG Tryz.prog 15 [.agg (aI a),.agg (aI b)] (dB (decide (a=b))):=by
 have c:=Gx a.over b.over;have e:=au.eq_iff a b;obtain⟨R,d⟩: ∃R,R=decide (a=b):=⟨_,rfl⟩
 rw[←d];refine aM (F:=Ck) XX (by simp[Ck]) ?_;simp only[Ck]
 repeat' first|refine ae (fun _=> ?_) fun _=> ?_|refine ay @nR @c ?_|exact ax @nR @c|fail
 all_goals(clear c;rw[d];simp_all)
theorem ZZ(a b:List au):aG Tryz.prog 39 [.sl 172 (a.map aI),.sl 172 (b.map aI)] (dB (decide (a=b))):=by
 rw[←Ox];refine aG.big (enters_of Mw) 0 rfl fun j=> ?_;rw[aQ]at j;refine aM (F:=Cl) Mw (by simp[Cl]) ?_;simp only[Cl]
 repeat' first|refine ae (fun _=> ?_) fun _=> ?_|refine ay ab ab ?_|exact ax ab ab|fail
 ·all_goals(simp_all[same,cG];try exact cB)
 ·rename_i h;have c:a.length=b.length:=by simp at h;omega
  refine aZ.over (a.zip b) (fun k (_:Unit)=>[(5,iN k)]) (fun _ _=>[]) (fun l _=>pK l) (same a b) () (by simp[c];omega) aB aB rfl (by simp[same,c]) (fun k _ x hg hk i g f=> ?_) (fun _ i f=> ?_)
  ·obtain⟨d,e⟩:=yO hg;have hk:(k:Int)<(a.length:Int):=by have:=(b9.1 d).1;omega
   have cs:=Nu x.1 x.2;rw[pK]at f
   repeat' first|refine ae (fun _=> ?_) fun _=> ?_|refine ay (ga @d (ga @e (ga @hk @g))) @cs ?_|exact ax (ga @d (ga @e (ga @hk @g))) @cs|fail
   all_goals(clear cs;simp_all)
  ·have hk:((a.zip b).length:Int)=a.length:=by simp[c]
   repeat' first|refine ae (fun _=> ?_) fun _=> ?_|refine ay @hk ab ?_|exact ax @hk ab|fail
   all_goals(simp_all[pK,cG];try exact cB)
end Go.Proofs.Q
