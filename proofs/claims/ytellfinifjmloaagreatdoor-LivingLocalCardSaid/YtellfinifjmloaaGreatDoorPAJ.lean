/- Lemmas. -/
import Derived.Test.YtellfinifjmloaaGreatDoorPAI
set_option linter.unusedVariables false
set_option linter.unusedSimpArgs false
namespace Go.Bb
open Go Go.Ab
theorem AC.cut{P:Program}{N:Nat}{c:Option Nat}{a b:CC}{Q:Exit→Fr→List aa→Prop}{fr:Fr}{s:List aa}(keep:List Nat)(fr0:Fr)(f:List aa)(p:Prop)
  (ha:cF P c a (fO (fun fr' d=>iQ keep fr0 fr'∧(∃J,d=f++J)∧p) Q) fr s) (hb: ∀J,p→AC P N c b Q (dY keep fr0) (f++J)):AC P N c (.seq a b) Q fr s:=by
 refine AC.seq ((bD ha).mono fun e fr' d h=> ?_);cases e with
 |normal=>
  obtain⟨g,⟨J,rfl⟩,i⟩:=h;exact(hb J i).frame g.sub
 |_=>exact h
theorem qx{P:Program}{b:List Nat}{f:FuncId}{F:CF}(hc:aN P b f=some F.erase){args:List D}{r:D}(a:args.length≤F.n)(h:AC P F.n none F.body (nM F.res fun x s=>bA s 5 x=some r) (mW 0 (args.map .d)) []):aG P f args r:=
 let⟨_,_,c,e⟩:=b7.ofA hc (by simpa using a) h;aG.of_runs c e
theorem aZ.overI{P:Program}{j:Option Nat}{keep:List Nat}{c:CC}{Q:Exit→Fr→List aa→Prop}{fr fr0:Fr}{s:List aa}{α β γ:Type}(l:List α)(F:Nat→β→Fr)(S:Nat→β→List aa)(g:List α→β→γ)(R:γ)(J:Nat→β→Prop)(b:β)(z:l.length≤9223372036854775807)
  (x:dY keep fr=fr0) (o:iQ keep (F 0 b++fr0) fr0) (w:s=S 0 b) (v:R=g l b) (u:J 0 b)
  (h: ∀k b y,l[k]?=some y→k<l.length→decide ((k:Int)<(l.length:Int))=true→IntKind.i64.wrap ((k:Int)+1)=((k+1:Nat):Int)→R=g (y::l.drop (k+1)) b→J k b→
   cF P j c (fO (fun fr' n=> ∃d,iQ keep (F (k+1) d++fr0) fr'∧n=S (k+1) d∧R=g (l.drop (k+1)) d∧J (k+1) d) Q) (dY keep (F k b++fr0)) (S k b))
  (a: ∀b,decide ((l.length:Int)<(l.length:Int))=false→R=g [] b→J l.length b→cF P j c (fO (fun _ _=>False) Q) (dY keep (F l.length b++fr0)) (S l.length b)):aZ P j (.trim keep c) Q fr s:=by
 refine aZ.tr (fun b:Nat×β=>F b.1 b.2) (fun b=>S b.1 b.2) (fun m b=>m+b.1=l.length∧R=g (l.drop b.1) b.2∧J b.1 b.2) l.length (0,b) x o w ⟨rfl,v,u⟩ ?_;rintro m ⟨k,b⟩ ⟨hm,hi,i⟩;dsimp only at hm hi i⊢;by_cases hk:k<l.length
 ·have hg:l[k]?=some l[k]:=bN hk;rw[kT hk]at hi;refine mG (h k b _ hg hk (by simpa using hk) (bE a8 a8) hi i) fun e fr' n f=> ?_;cases e with
  |normal=>obtain⟨d,p,q,r,t⟩:=f;exact⟨m-1,(k+1,d),by omega,p,q,by dsimp only;omega,r,t⟩
  |_=>exact f
 ·obtain rfl:k=l.length:=by omega
  rw[wc]at hi;refine mG (a b (by simp) hi i) fun e fr' n f=> ?_;cases e with
  |normal=>exact f.elim
  |_=>exact f
end Go.Bb
namespace Go.Proofs.Q
open Go Go.Bb Go.RowKit Go.Proofs.Lg
open Go.Ab (D RD)
theorem room_le{n b:Nat}(h:n*b≤140737488355328)(a:n≤9223372036854775807):bw n b=true:=by simp[bw,h,a]
end Go.Proofs.Q
namespace Go.Proofs.Q
open Go Go.Ab Go.Bb
def BX:CF:=⟨47, (kq [ox 3 0,o7 6 0] (.seq (kq [om 9 2,o5 10 .lss 9 1,om 11 10,oh 12 11 false 1,kG 13 11 false .lss (.t 12) (xi 1),kR 14 11 13] (kd 14 (kq [om 15 1,o5 16 .add 15 1,om 6 16] .ret) .skip)) (kq [o7 7 1] (.seq (kq [o1 17 0 3,o3 18 17,o0 19 (.not (.t 18))] (kd 19 (kq [om 20 7,om 6 20] .ret) .skip)) (.seq (kq [o7 8 0] (.block 0 (.loop (.trim [8,2,7,1,3] (.seq (kq [om 21 8,o1 22 2 3,o3 23 22,o9 24 0 23,o4 25 .lss 21 24,om 26 25,oh 27 26 true 7,oh 28 26 true 1,kG 29 26 true .leq (.t 27) (.t 28),kP 30 26 29] (kd 30 .skip (.exit 0))) (.seq (.block 1 (fo [om 33 7,o1 34 2 3,o3 35 34,om 36 8,oi 37 3 35 36,o2 38 3 37,om 39 1,om 40 7,o4 41 .sub 39 40,om 42 2,o5 43 .sub 42 1,o6 44 297 [.t 38,.t 41,.t 43],o4 45 .add 33 44,om 7 45])) (fo [om 31 8,o5 32 .add 31 1,om 8 32]))))))) (kq [om 46 7,om 6 46] .ret)))))),[.tmp 6]⟩
theorem XD:aN Tryz.prog [100003] 297=some BX.erase:=by kernel_rfl
def sZ:CF:=⟨35, (kq [ox 1 0,o7 2 0] (.seq (kq [o1 5 0 1,o3 6 5,o0 7 (.not (.t 6))] (kd 7 (.seq (kq [o1 8 2 1,o3 9 8,o9 10 0 9,o5 11 .gtr 10 0] (kd 11 (kz 2 1) .skip)) (.seq (kq [o1 12 1 1,o3 13 12,o9 14 1 13,o5 15 .gtr 14 65536] (kd 15 (kz 2 4) .skip)) (kz 2 0))) .skip)) (.seq (kq [o1 16 1 1,o3 17 16,o0 18 (.bin .neq (.t 17) (.c (.d (.sc (.string ⟨#[]⟩)))))] (kd 18 (kz 2 1) .skip)) (.seq (kq [o7 3 0] (.block 0 (.loop (.trim [3,1] (.seq (kq [om 19 3,o1 20 2 1,o3 21 20,o9 22 0 21,o4 23 .lss 19 22] (kd 23 .skip (.exit 0))) (.seq (.block 1 (kq [o1 26 2 1,o3 27 26,om 28 3,oi 29 3 27 28,o2 30 3 29,o6 31 298 [.t 30],om 4 31] (kq [om 32 4,o5 33 .neq 32 0] (kd 33 (kq [om 34 4,om 2 34] .ret) .skip)))) (fo [om 24 3,o5 25 .add 24 1,om 3 25]))))))) (kz 2 0))))),[.tmp 2]⟩
theorem Mm:aN Tryz.prog [100001] 298=some sZ.erase:=by kernel_rfl
def BV:CF:=⟨8, (kq [ox 1 0,o7 2 0] (.seq (kq [o2 3 3 1,o6 4 297 [.t 3,(xi 20000),(xi 12)],o5 5 .gtr 4 20000] (kd 5 (kz 2 4) .skip)) (kq [o2 6 3 1,o6 7 298 [.t 6],om 2 7] .ret))),[.tmp 2]⟩
theorem XB:aN Tryz.prog [100001] 270=some BV.erase:=by kernel_rfl
def pr:CF:=⟨28, (kq [kM 2 (.c (.d (.sc (.string ⟨#[]⟩))))] (.seq (kq [om 3 0,o5 4 .lss 3 0] (kd 4 (.seq (kq [om 5 0,o0 6 (.bin .lss (.t 5) (xi (-9223372036854775807)))] (kd 6 (kq [kM 2 (.c (.d (.sc (.string ⟨#[45,57,50,50,51,51,55,50,48,51,54,56,53,52,55,55,53,56,48,56]⟩))))] .ret) .skip)) (kq [om 7 0,o0 8 (.un .neg (.t 7)),o6 9 299 [.t 8],o0 10 (.bin .add (.c (.d (.sc (.string ⟨#[45]⟩)))) (.t 9)),om 2 10] .ret)) .skip)) (.seq (kq [om 11 0,o5 12 .lss 11 10] (kd 12 (kq [om 13 0,o0 14 (.bin .add (xi 48) (.t 13)),o0 15 (.cnv .u8 (.t 14)),o0 16 (.bsf 1 1 [(.d (.sc (.int .u8 0)))] [(0,1,(.t 15))]),o0 17 (.b2s (.t 16)),om 2 17] .ret) .skip)) (.seq (.ops true [0,1,3,0,8,24,56,120,248,511,1023] [om 18 0,o5 19 .quo 18 10,o6 20 299 [.t 19],om 21 0,o5 22 .rem 21 10,o0 23 (.bin .add (xi 48) (.t 22)),o0 24 (.cnv .u8 (.t 23)),o0 25 (.bsf 1 1 [(.d (.sc (.int .u8 0)))] [(0,1,(.t 24))]),o0 26 (.b2s (.t 25)),o4 27 .add 20 26,om 2 27]) .ret)))),[.tmp 2]⟩
theorem Gh:aN Tryz.prog [100016,100025] 299=some pr.erase:=by kernel_rfl
def sY:CF:=⟨14, (kq [kB 2 ep,o7 3 0] (.seq (kq [om 4 0,o0 5 (.bin .lss (.t 4) (xi (-1099511627776))),om 6 5,oh 7 6 false 0,kG 8 6 false .gtr (.t 7) (xi 1099511627776),kR 9 6 8] (kd 9 (kq [o0 10 (.bld fR []),o8 3 2 10,o7 3 2] .ret) .skip)) (kq [om 11 0,o6 12 299 [.t 11],o0 13 (.bld fR [(1,1,(.t 12))]),o8 3 2 13,o7 3 0] .ret))),[.cell 2 (some 3),.tmp 3]⟩
theorem Ml:aN Tryz.prog [300010,300013] 272=some sY.erase:=by kernel_rfl
def tc:CF:=⟨33, (kq [ox 1 0,kM 2 (.c (.d (.sc (.string ⟨#[]⟩))))] (.seq (kq [o1 5 0 1,o3 6 5,o0 7 (.not (.t 6))] (kd 7 (.seq (.ops true [0,1,3,7,15,0,32,127,255] [o1 8 1 1,o3 9 8,o9 10 1 9,o6 11 299 [.t 10],o0 12 (.bin .add (.t 11) (.c (.d (.sc (.string ⟨#[58]⟩))))),o1 13 1 1,o3 14 13,o4 15 .add 12 14,om 2 15]) .ret) .skip)) (kq [kM 3 (.c (.d (.sc (.string ⟨#[40]⟩))))] (.seq (kq [o7 4 0] (.block 0 (.loop (.trim [4,1,3] (.seq (kq [om 16 4,o1 17 2 1,o3 18 17,o9 19 0 18,o4 20 .lss 16 19] (kd 20 .skip (.exit 0))) (.seq (.block 1 (fo [om 23 3,o1 24 2 1,o3 25 24,om 26 4,oi 27 3 25 26,o2 28 3 27,o6 29 271 [.t 28],o4 30 .add 23 29,om 3 30])) (fo [om 21 4,o5 22 .add 21 1,om 4 22]))))))) (kq [om 31 3,o0 32 (.bin .add (.t 31) (.c (.d (.sc (.string ⟨#[41]⟩))))),om 2 32] .ret))))),[.tmp 2]⟩
theorem Mn:aN Tryz.prog [100001] 271=some tc.erase:=by kernel_rfl
def BW:CF:=⟨12, (kq [ox 1 0,kM 2 (.c (.d (.sc (.string ⟨#[]⟩)))),o7 3 0] (.seq (kq [o2 5 3 1,o6 6 270 [.t 5],om 4 6] (kq [om 7 4,o5 8 .neq 7 0] (kd 8 (kq [om 9 4,kM 2 (.c (.d (.sc (.string ⟨#[]⟩)))),om 3 9] .ret) .skip))) (kq [o2 10 3 1,o6 11 271 [.t 10],om 2 11,o7 3 0] .ret))),[.tmp 2,.tmp 3]⟩
theorem XC:aN Tryz.prog [100001] 210=some BW.erase:=by kernel_rfl
def tk:CF:=⟨141, (kq [ox 2 0,kM 4 (.c (.nil 172))] (kq [om 11 1,o0 12 (.bld cQ [(32,1,(.t 11))]),kB 5 cQ,o8 33 5 12] (.seq (kq [o1 13 0 2,o3 14 13] (.block 0 (kq [o5 16 .eql 14 1,om 15 16] (kd 15 (kq [o2 17 33 5,o2 18 33 5,o1 19 34 2,o3 20 19,o0 21 (.bld ee [(0,33,(.t 17)),(33,1,(xi 1)),(34,33,(.t 18)),(67,1,(.t 20))]),o0 22 (.bsf 172 1 ee [(0,172,(.t 21))]),om 4 22] .ret) (kq [o5 24 .eql 14 2,om 23 24] (kd 23 (kq [o2 25 33 5,o1 26 1 2,o2 27 33 26,o1 28 35 2,o2 29 33 28,o1 30 68 2,o3 31 30,o1 32 138 2,o3 33 32,o0 34 (.bld ee [(0,33,(.t 25)),(33,1,(xi 2)),(34,33,(.t 27)),(68,33,(.t 29)),(101,1,(.t 31)),(171,1,(.t 33))]),o0 35 (.bsf 172 1 ee [(0,172,(.t 34))]),om 4 35] .ret) (kq [o5 37 .eql 14 3,om 36 37] (kd 36 (kq [o2 38 33 5,o1 39 1 2,o2 40 33 39,o1 41 69 2,o3 42 41,o1 43 138 2,o3 44 43,o0 45 (.bld ee [(0,33,(.t 38)),(33,1,(xi 3)),(34,33,(.t 40)),(102,1,(.t 42)),(171,1,(.t 44))]),o0 46 (.bsf 172 1 ee [(0,172,(.t 45))]),om 4 46] .ret) (kq [o5 48 .eql 14 4,om 47 48] (kd 47 (kq [o2 49 33 5,o1 50 1 2,o2 51 33 50,o1 52 70 2,o3 53 52,o1 54 138 2,o3 55 54,o0 56 (.bld ee [(0,33,(.t 49)),(33,1,(xi 4)),(34,33,(.t 51)),(103,1,(.t 53)),(171,1,(.t 55))]),o0 57 (.bsf 172 1 ee [(0,172,(.t 56))]),om 4 57] .ret)
 (kq [o5 59 .eql 14 6,om 58 59] (kd 58 (kq [o2 60 33 5,o1 61 1 2,o2 62 33 61,o1 63 71 2,o2 64 33 63,o1 65 104 2,o2 66 33 65,o1 67 138 2,o3 68 67,o0 69 (.bld ee [(0,33,(.t 60)),(33,1,(xi 6)),(34,33,(.t 62)),(105,33,(.t 64)),(138,33,(.t 66)),(171,1,(.t 68))]),o0 70 (.bsf 172 1 ee [(0,172,(.t 69))]),om 4 70] .ret) (kq [o5 72 .eql 14 7,om 71 72] (kd 71 (kq [o2 73 33 5,o1 74 138 2,o3 75 74,o0 76 (.bld ee [(0,33,(.t 73)),(33,1,(xi 7)),(171,1,(.t 75))]),o0 77 (.bsf 172 1 ee [(0,172,(.t 76))]),om 4 77] .ret) .skip)))))))))))))) (kq [o0 78 (.bsl false 32 172 0 [] []),om 6 78] (kq [o1 79 137 2,o3 80 79,o9 81 0 80,om 7 81] (.seq (kq [o7 8 0] (.block 1 (.loop (.trim [8,2,1,6,7] (.seq (kq [om 82 8,om 83 7,o4 84 .lss 82 83] (kd 84 .skip (.exit 1))) (.seq (.block 2 (.ops true [0,0,0,6,14,0,32,0,128,0,896,1920,4094,8190,16383,32767] [om 87 6,om 88 1,om 89 8,o4 90 .add 88 89,o0 91 (.bld cQ [(32,1,(.t 90))]),o1 92 1 2,o2 93 33 92,o1 94 137 2,o3 95 94,om 96 8,oi 97 1 95 96,o3 98 97,o0 99 (.bld ee [(0,33,(.t 91)),(33,1,(xi 5)),(34,33,(.t 93)),(104,1,(.t 98))]),o0 100 (.bsf 172 1 ee [(0,172,(.t 99))]),o0 101 (.app false 32 172 296 (.t 87) (.t 100)),om 6 101])) (fo [om 85 8,o5 86 .add 85 1,om 8 86]))))))) (.seq (kq [o7 9 0] (.block 3 (.loop (.trim [9,6,1,7,2] (.seq (kq [om 102 9,om 103 7,o4 104 .leq 102 103] (kd 104 .skip (.exit 3)))
 (.seq (.block 4 (kq [om 107 1,om 108 7,o4 109 .add 107 108,om 110 9,o4 111 .add 109 110,o0 112 (.bld cQ [(32,1,(.t 111))]),o1 113 1 2,o2 114 33 113,o1 115 71 2,o2 116 33 115,o1 117 104 2,o2 118 33 117,o0 119 (.bld ee [(0,33,(.t 112)),(33,1,(xi 6)),(34,33,(.t 114)),(105,33,(.t 116)),(138,33,(.t 118))]),kB 10 dZ,o8 172 10 119] (.seq (kq [om 120 9,o5 121 .gtr 120 0] (kd 121 (fo [om 122 1,om 123 9,o4 124 .add 122 123,o5 125 .sub 124 1,o0 126 (.bld cQ [(32,1,(.t 125))]),o1 127 105 10,o8 33 127 126]) .skip)) (.seq (kq [om 128 9,om 129 7,o4 130 .lss 128 129] (kd 130 (fo [om 131 1,om 132 9,o4 133 .add 131 132,o0 134 (.bld cQ [(32,1,(.t 133))]),o1 135 138 10,o8 33 135 134]) .skip)) (fo [om 136 6,o2 137 172 10,o0 138 (.bsf 172 1 ee [(0,172,(.t 137))]),o0 139 (.app false 32 172 296 (.t 136) (.t 138)),om 6 139]))))) (fo [om 105 9,o5 106 .add 105 1,om 9 106]))))))) (kq [om 140 6,om 4 140] .ret)))))))),[.tmp 4]⟩
theorem Mu:aN Tryz.prog [100002,300012,300021,100022,300034,100035,300045,100046,300056,100057,300069,100070,300076,100077,300091,300099,100100,300112,300119,300126,300134,100138] 181=some tk.erase:=by kernel_rfl
def Cq:CF:=⟨42, (kq [kM 2 (.c (.nil 172)),o7 3 0] (kq [o0 8 (.bsl false 32 172 0 [] []),om 4 8] (.seq (kq [o7 5 0] (.block 0 (.loop (.trim [5,4,0] (.seq (kq [om 9 5,om 10 0,o9 11 0 10,o4 12 .lss 9 11] (kd 12 .skip (.exit 0))) (.seq (.block 1 (.seq (kq [om 15 0,om 16 5,oi 17 139 15 16,o2 18 139 17,o6 19 179 [.t 18],om 6 19] (kq [om 20 6,o5 21 .neq 20 0] (kd 21 (kq [om 22 6,kM 2 (.c (.nil 172)),om 3 22] .ret) .skip))) (.seq (kq [om 23 0,om 24 5,oi 25 139 23 24,o2 26 139 25,om 27 4,o6 28 180 [.t 26,.t 27],om 7 28] (kq [om 29 7,o5 30 .neq 29 0] (kd 30 (kq [om 31 7,kM 2 (.c (.nil 172)),om 3 31] .ret) .skip))) (fo [om 32 4,om 33 0,om 34 5,oi 35 139 33 34,o2 36 139 35,om 37 4,o9 38 0 37,o6 39 181 [.t 36,.t 38],o0 40 (.app false 32 172 296 (.t 32) (.t 39)),om 4 40])))) (fo [om 13 5,o5 14 .add 13 1,om 5 14]))))))) (kq [om 41 4,om 2 41,o7 3 0] .ret)))),[.tmp 2,.tmp 3]⟩
theorem Y1:aN Tryz.prog [] 123=some Cq.erase:=by kernel_rfl
def tt:CF:=⟨40, (kq [ox 1 0,kM 2 (.c (.nil 172)),o7 3 0] (.seq (kq [o1 5 0 1,o3 6 5,o6 7 121 [.t 6],o0 8 (.not (.t 7))] (kd 8 (kq [kM 2 (.c (.nil 172)),o7 3 5] .ret) .skip)) (.seq (kq [o1 9 1 1,o3 10 9,o9 11 1 10,o5 12 .gtr 11 1000] (kd 12 (kq [kM 2 (.c (.nil 172)),o7 3 4] .ret) .skip)) (.seq (kq [o1 13 2 1,o3 14 13,o5 15 .lss 14 0,om 16 15,kF 17 16 false 2 1,kL 18 16 false 17,kG 19 16 false .gtr (.t 18) (xi 1099511627776),kR 20 16 19] (kd 20 (kq [kM 2 (.c (.nil 172)),o7 3 2] .ret) .skip)) (.seq (kq [o1 21 3 1,o3 22 21,o6 23 122 [.t 22],om 4 23] (kq [om 24 4,o5 25 .neq 24 0] (kd 25 (kq [om 26 4,kM 2 (.c (.nil 172)),om 3 26] .ret) .skip))) (.seq (kq [o1 27 4 1,o3 28 27,o9 29 0 28,o5 30 .eql 29 0] (kd 30 (kq [kM 2 (.c (.nil 172)),o7 3 1] .ret) .skip)) (.seq (kq [o1 31 4 1,o3 32 31,o9 33 0 32,o5 34 .gtr 33 400] (kd 34 (kq [kM 2 (.c (.nil 172)),o7 3 4] .ret) .skip)) (kq [o1 35 4 1,o3 36 35,o6 37 123 [.t 36],oe 38 37 0,oe 39 37 1,om 2 38,om 3 39] .ret)))))))),[.tmp 2,.tmp 3]⟩
theorem My:aN Tryz.prog [100001] 76=some tt.erase:=by kernel_rfl
def Cp:CF:=⟨5, (kq [kB 2 ep] (kq [om 3 0,o0 4 (.bld fR [(1,1,(.t 3))]),o8 3 2 4] .ret)),[.cell 2 (some 3)]⟩
theorem Y0:aN Tryz.prog [300004] 212=some Cp.erase:=by kernel_rfl
def Cy:CF:=⟨5, (kq [kB 2 ep] (kq [om 3 0,o0 4 (.bld fR [(0,1,xT),(2,1,(.t 3))]),o8 3 2 4] .ret)),[.cell 2 (some 3)]⟩
theorem Y7:aN Tryz.prog [300004] 211=some Cy.erase:=by kernel_rfl
def CA:CF:=⟨11, (kq [kB 2 ep] (kq [om 6 0,o6 7 272 [.t 6],om 5 7,oe 8 5 0,oe 9 5 1,kB 3 ep,o8 3 3 8,om 4 9] (kq [o2 10 3 3,o8 3 2 10] .ret))),[.cell 2 (some 3)]⟩
theorem Y9:aN Tryz.prog [] 213=some CA.erase:=by kernel_rfl
def Cs:CF:=⟨9, (kq [ox 1 0,kB 2 ep] (.seq (kq [o2 3 32 1,o6 4 119 [.t 3]] (kd 4 (kq [o0 5 (.call (.fn 212) [(.c (.d (.sc (.string ⟨#[]⟩))))]),o8 3 2 5] .ret) .skip)) (kq [o2 6 32 1,o6 7 267 [.t 6],o6 8 212 [.t 7],o8 3 2 8] .ret))),[.cell 2 (some 3)]⟩
theorem Y2:aN Tryz.prog [100001] 208=some Cs.erase:=by kernel_rfl
def CE:CF:=⟨11, (kq [ox 1 0,kB 2 ep] (.seq (.ops true [0,1,3,0,8,31,63,127,255] [o1 3 0 1,o2 4 32 3,o6 5 208 [.t 4],o1 6 32 1,o3 7 6,o6 8 213 [.t 7],o0 9 (.bsf 3 2 vZ [(0,3,(.t 5)),(3,3,(.t 8))]),o6 10 211 [.t 9],o8 3 2 10]) .ret)),[.cell 2 (some 3)]⟩
theorem Yc:aN Tryz.prog [100001,100009] 268=some CE.erase:=by kernel_rfl
def CD:CF:=⟨22, (kq [kB 2 ep] (kq [o0 5 (.bsl false 217 3 0 [] []),om 3 5] (.seq (kq [o7 4 0] (.block 0 (.loop (.trim [4,0,3,2] (.seq (kq [om 6 4,om 7 0,o9 8 0 7,o4 9 .lss 6 8] (kd 9 .skip (.exit 0))) (.seq (.block 1 (fo [om 12 3,om 13 0,om 14 4,oi 15 33 13 14,o2 16 33 15,o6 17 268 [.t 16],o0 18 (.bsf 3 1 fR [(0,3,(.t 17))]),o0 19 (.app false 217 3 48 (.t 12) (.t 18)),om 3 19])) (fo [om 10 4,o5 11 .add 10 1,om 4 11]))))))) (kq [om 20 3,o6 21 211 [.t 20],o8 3 2 21] .ret)))),[.cell 2 (some 3)]⟩
theorem Yb:aN Tryz.prog [100018] 269=some CD.erase:=by kernel_rfl
def gJ:CF:=⟨109, (kq [ox 1 0,kB 2 ep] (kq [o1 6 0 1,o3 7 6,o6 8 213 [.t 7],o0 9 (.bsl false 217 3 1 ep [(0,3,(.t 8))]),om 3 9] (.seq (kq [o1 10 0 1,o3 11 10,o5 12 .geq 11 2,om 13 12,kF 14 13 true 0 1,kL 15 13 true 14,kG 16 13 true .leq (.t 15) (xi 6),kP 17 13 16] (kd 17 (fo [om 18 3,o1 19 1 1,o2 20 33 19,o6 21 268 [.t 20],o0 22 (.bsf 3 1 fR [(0,3,(.t 21))]),o0 23 (.app false 217 3 48 (.t 18) (.t 22)),om 3 23]) .skip)) (.seq (kq [o1 24 0 1,o3 25 24] (.block 0 (kq [o5 27 .eql 25 1,om 26 27] (kd 26 (fo [om 28 3,o1 29 34 1,o3 30 29,o6 31 213 [.t 30],o0 32 (.bsf 3 1 fR [(0,3,(.t 31))]),o0 33 (.app false 217 3 48 (.t 28) (.t 32)),om 3 33]) (kq [o5 35 .eql 25 2,om 34 35] (kd 34 (.ops true [0,0,2,6,0,16,62,126,255,511] [om 36 3,o1 37 35 1,o2 38 33 37,o6 39 268 [.t 38],o1 40 68 1,o3 41 40,o6 42 212 [.t 41],o0 43 (.bsf 3 2 vZ [(0,3,(.t 39)),(3,3,(.t 42))]),o0 44 (.app false 217 3 48 (.t 36) (.t 43)),om 3 44]) (kq [o5 46 .eql 25 3,om 45 46] (kd 45 (fo [om 47 3,o1 48 69 1,o3 49 48,o6 50 213 [.t 49],o0 51 (.bsf 3 1 fR [(0,3,(.t 50))]),o0 52 (.app false 217 3 48 (.t 47) (.t 51)),om 3 52]) (kq [o5 54 .eql 25 4,om 53 54] (kd 53 (fo [om 55 3,o1 56 70 1,o3 57 56,o6 58 212 [.t 57],o0 59 (.bsf 3 1 fR [(0,3,(.t 58))]),o0 60 (.app false 217 3 48 (.t 55) (.t 59)),om 3 60])
 (.seq (kq [o5 62 .eql 25 5,om 61 62] (kd 61 .skip (fo [o5 63 .eql 25 6,om 61 63]))) (kd 61 (.ops true [0,0,2,6,0,16,62,126,255,511] [om 64 3,o1 65 71 1,o2 66 33 65,o6 67 268 [.t 66],o1 68 104 1,o2 69 33 68,o6 70 268 [.t 69],o0 71 (.bsf 3 2 vZ [(0,3,(.t 67)),(3,3,(.t 70))]),o0 72 (.app false 217 3 48 (.t 64) (.t 71)),om 3 72]) .skip)))))))))))) (.seq (kq [o1 73 0 1,o3 74 73,o5 75 .eql 74 5] (kd 75 (kq [o0 76 (.bsl false 217 3 0 [] []),om 4 76] (.seq (kq [o7 5 0] (.block 1 (.loop (.trim [5,1,4,3,2] (.seq (kq [om 77 5,o1 78 137 1,o3 79 78,o9 80 0 79,o4 81 .lss 77 80] (kd 81 .skip (.exit 1))) (.seq (.block 2 (fo [om 84 4,o1 85 137 1,o3 86 85,om 87 5,oi 88 1 86 87,o3 89 88,o6 90 212 [.t 89],o0 91 (.bsf 3 1 fR [(0,3,(.t 90))]),o0 92 (.app false 217 3 48 (.t 84) (.t 91)),om 4 92])) (fo [om 82 5,o5 83 .add 82 1,om 5 83]))))))) (fo [om 93 3,om 94 4,o6 95 211 [.t 94],o0 96 (.bsf 3 1 fR [(0,3,(.t 95))]),o0 97 (.app false 217 3 48 (.t 93) (.t 96)),om 3 97]))) (kq [o1 98 0 1,o3 99 98,o5 100 .neq 99 1] (kd 100 (fo [om 101 3,o1 102 138 1,o3 103 102,o6 104 269 [.t 103],o0 105 (.bsf 3 1 fR [(0,3,(.t 104))]),o0 106 (.app false 217 3 48 (.t 101) (.t 105)),om 3 106]) .skip)))) (kq [om 107 3,o6 108 211 [.t 107],o8 3 2 108] .ret)))))),[.cell 2 (some 3)]⟩
theorem tG:aN Tryz.prog [100001,100022,100032,100043,100051,100059,100071,100091,100096,100105] 209=some gJ.erase:=by kernel_rfl
def Cu:CF:=⟨72, (kq [ox 1 0,kM 2 (.c (.d (.sc (.string ⟨#[]⟩)))),o7 3 0] (kq [o0 10 (.bsl false 217 3 0 [] []),o0 11 (.bsl false 217 3 0 [] []),om 4 10,om 5 11] (.seq (kq [o7 6 0] (.block 0 (.loop (.trim [6,1,4,5] (.seq (kq [om 12 6,o1 13 3 1,o3 14 13,o9 15 0 14,o4 16 .lss 12 15] (kd 16 .skip (.exit 0))) (.seq (.block 1 (fo [om 19 4,o1 20 3 1,o3 21 20,om 22 6,oi 23 32 21 22,o2 24 32 23,o6 25 208 [.t 24],o0 26 (.bsf 3 1 fR [(0,3,(.t 25))]),o0 27 (.app false 217 3 48 (.t 19) (.t 26)),om 4 27])) (fo [om 17 6,o5 18 .add 17 1,om 6 18]))))))) (.seq (kq [o7 7 0] (.block 2 (.loop (.trim [7,1,5,4] (.seq (kq [om 28 7,o1 29 4 1,o3 30 29,o9 31 0 30,o4 32 .lss 28 31] (kd 32 .skip (.exit 2))) (.seq (.block 3 (fo [om 35 5,o1 36 4 1,o3 37 36,om 38 7,oi 39 139 37 38,o2 40 139 39,o6 41 209 [.t 40],o0 42 (.bsf 3 1 fR [(0,3,(.t 41))]),o0 43 (.app false 217 3 48 (.t 35) (.t 42)),om 5 43])) (fo [om 33 7,o5 34 .add 33 1,om 7 34]))))))) (.seq (.ops true [0,0,2,7,0,16,63,0,128,511,0,2047,0,8191,16383,32767,65535,131071,262143,262143,524287,2097151] [o0 45 (.call (.fn 212) [(.c (.d (.sc (.string ⟨#[113,117,105,108,116,49]⟩))))]),o1 46 0 1,o3 47 46,o6 48 212 [.t 47],o1 49 1 1,o3 50 49,o6 51 212 [.t 50],o1 52 2 1,o3 53 52,o6 54 213 [.t 53],om 55 4,o6 56 211 [.t 55],om 57 5,o6 58 211 [.t 57],o0 59 (.bsf 3 6 HS [(0,3,(.t 45)),(3,3,(.t 48)),(6,3,(.t 51)),(9,3,(.t 54)),(12,3,(.t 56)),(15,3,(.t 58))]),o6 60 211 [.t 59],o6 61 210 [.t 60],om 44 61,oe 62 44 0,oe 63 44 1,om 8 62,om 9 63])
 (.seq (kq [om 64 9,o5 65 .neq 64 0,om 66 65,oh 67 66 false 8,og 68 66 false (.len 1 (.t 67)),kG 69 66 false .gtr (.t 68) (xi 65536),kR 70 66 69] (kd 70 (kq [kM 2 (.c (.d (.sc (.string ⟨#[]⟩)))),o7 3 4] .ret) .skip)) (kq [om 71 8,om 2 71,o7 3 0] .ret))))))),[.tmp 2,.tmp 3]⟩
theorem Y4:aN Tryz.prog [100001,100026,100042,100059] 158=some Cu.erase:=by kernel_rfl
def th:CF:=⟨18, (kq [ox 1 0,kM 2 (.c (.d (.sc (.string ⟨#[]⟩)))),o7 3 0] (.seq (kq [o2 7 5 1,o6 8 76 [.t 7],om 6 8,oe 9 6 0,oe 10 6 1,om 4 9,om 5 10] (kq [om 11 5,o5 12 .neq 11 0] (kd 12 (kq [om 13 5,kM 2 (.c (.d (.sc (.string ⟨#[]⟩)))),om 3 13] .ret) .skip))) (kq [o2 14 5 1,o6 15 158 [.t 14],oe 16 15 0,oe 17 15 1,om 2 16,om 3 17] .ret))),[.tmp 2,.tmp 3]⟩
theorem Mr:aN Tryz.prog [100001] 104=some th.erase:=by kernel_rfl
def Cc:CF:=⟨11, (kq [ox 1 0,o7 2 0] (kq [o2 6 5 1,o6 7 104 [.t 6],om 5 7,oe 8 5 0,oe 9 5 1,om 3 8,om 4 9] (kq [om 10 4,om 2 10] .ret))),[.tmp 2]⟩
theorem XQ:aN Tryz.prog [100001] 64=some Cc.erase:=by kernel_rfl
def tj:CF:=⟨17, (kq [ox 1 0,kB 2 ej,o7 3 0] (kq [o2 7 5 1,o6 8 104 [.t 7],om 6 8,oe 9 6 0,oe 10 6 1,om 4 9,om 5 10] (.seq (kq [om 11 5,o5 12 .neq 11 0] (kd 12 (kq [o0 13 (.bld ej []),om 14 5,o8 32 2 13,om 3 14] .ret) .skip)) (kq [om 15 4,o6 16 116 [.t 15],o8 32 2 16,o7 3 0] .ret)))),[.cell 2 (some 32),.tmp 3]⟩
theorem Ms:aN Tryz.prog [100001,300013] 69=some tj.erase:=by kernel_rfl
def BY:CF:=⟨5, (kq [ox 1 0,kM 2 (.c (.d (.sc (.string ⟨#[]⟩))))] (kq [o0 3 (.sla 32 1 (.t 1) none none),o0 4 (.b2s (.t 3)),om 2 4] .ret)),[.tmp 2]⟩
theorem XE:aN Tryz.prog [100001] 267=some BY.erase:=by kernel_rfl
end Go.Proofs.Q
namespace Go.Proofs.Q
open Go Go.Bb Go.RowKit Go.Proofs.Lg
open Go.Ab (D RD)
theorem rp: ∀{d:Nat} {x:Sx},fj d x→1≤bJ d x
 |0,_,h=>h.elim
 |d+1,.mk b a l,h=>by unfold bJ;split<;>omega
theorem yu{α:Type}(f:α→Nat): ∀{l:List α} {k:Nat} {x:α},l[k]?=some x→f x≤(l.map f).sum
 |y::l,0,x,h=>by simp at h;subst h;simp
 |y::l,k+1,x,h=>by have:=yu f (l:=l) (k:=k) (x:=x) (by simpa using h);simp;omega
theorem tW{α:Type}(f:α→Nat): ∀{l:List α},(∀x∈l,1≤f x)→l.length≤(l.map f).sum
 |[],_=>by simp
 |y::l,h=>by
  have:=tW f (l:=l) fun x a=>h x (eQ _ a);have:=h y (by simp);simp;omega
theorem nB{n:Int}{m:Nat}(h:n=m)(hm:m<9223372036854775808):IntKind.i64.wrap n=(m:Int):=bE h hm
theorem uF{a b:ByteArray}(h:a.size+b.size≤9223372036854775807):(((a.size+b.size:Nat):Int)≤9223372036854775807)=True:=by simp;omega
theorem fj.mem{d:Nat}{a:bh}{l:List Sx}(h:fj (d+1) (.mk true a l)){k:Nat}{x:Sx}(hg:l[k]?=some x):fj d x:=by
 rcases h with⟨h,_⟩|⟨_,_,h⟩
 ·cases h
 ·exact h x (bX hg)
set_option maxHeartbeats 1000000 in
theorem Ni: ∀(d:Nat) (x:Sx) (c D:Nat),fj d x→bJ d x≤c→c≤1000000000→d≤D→D≤1000→aG Tryz.prog 297 [.agg (ak x),dI c,dI D] (dI (bJ d x))
 |0,_,_,_,h,_,_,_,_=>h.elim
 |d+1,.mk b a l,c,D,hg0,hn,hlim,hd,hD=>by
  have j: ¬((D:Int)<1):=by omega
  have hp:=rp hg0;have m: ¬((c:Int)<1):=by omega
  have p:=Ni d;refine aM (F:=BX) XD (by simp[BX]) ?_;simp only[BX];rw[jP]
  repeat' first|refine ae (fun _=> ?_) fun _=> ?_|refine ay (ga @j @m) ab ?_|exact ax (ga @j @m) ab|fail
  ·rename_i hb;subst hb;have q:bJ (d+1) (.mk true a l)=1+(l.map (bJ d)).sum:=rfl;have f:l.length≤(l.map (bJ d)).sum:=tW _ fun x o=>by
    obtain⟨k,hk⟩:=fU o;exact rp (hg0.mem hk)
   rw[q]at hn⊢;refine aZ.over l (fun k (n:Nat)=>[(8,iN k),(7,iN n)]) (fun _ _=>[]) (fun r n=>n+(r.map (bJ d)).sum) (1+(l.map (bJ d)).sum) 1 a8 aB aB rfl rfl (fun k n x hg hk e w i=> ?_) (fun n e i=> ?_)
   ·have o:=hg0.mem hg;have g:((x::l.drop (k+1)).map (bJ d)).sum=bJ d x+((l.drop (k+1)).map (bJ d)).sum:=by simp
    rw[g]at i;have s:decide ((n:Int)≤(c:Int))=true:=by simp;omega
    have t:IntKind.i64.wrap ((c:Int)-n)=((c-n:Nat):Int):=nB a8 a8;have u:IntKind.i64.wrap ((D:Int)-1)=((D-1:Nat):Int):=nB a8 a8;have v:IntKind.i64.wrap ((n:Int)+bJ d x)=((n+bJ d x:Nat):Int):=nB a8 a8;have hc:=p x (c-n) (D-1) o a8 a8 a8 a8;clear p q f hp j m
    refine aO (ga @e (ga @w (ga @hg (ga @s (ga @t (ga @u @v)))))) @hc ?_;exact⟨n+bJ d x,rfl,by omega⟩
   ·refine aO @e ab ?_;simp at i;rw[i]
  ·rename_i hb;subst hb;rfl
theorem Nh: ∀(d:Nat) (x:Sx),fj d x→(∀l:List Sx,l.length≤0∨True)→bJ d x≤1000000000→aG Tryz.prog 298 [.agg (ak x)] (dI 0)
 |0,_,h,_,_=>h.elim
 |d+1,.mk b a l,hg0,_,hn=>by
  have f:=Nh d;rcases id hg0 with⟨rfl,rfl,ha⟩|⟨rfl,rfl,hl⟩
  ·have i:decide ((a.size:Int)>65536)=false:=by simp;omega
   refine aM (F:=sZ) Mm (by simp[sZ]) ?_;simp only[sZ];rw[jP]
   repeat' first|refine ae (fun _=> ?_) fun _=> ?_|refine aL ?_|simp only[i,gt_iff_lt,lP,decide_false,wy,qg,aH,simprocAttr,aA,aF,aE,aw]
  ·have j:bJ (d+1) (.mk true ⟨#[]⟩ l)=1+(l.map (bJ d)).sum:=rfl;have g:l.length≤(l.map (bJ d)).sum:=tW _ fun x e=>rp (hl x e);rw[j]at hn;refine aM (F:=sZ) Mm (by simp[sZ]) ?_;simp only[sZ];rw[jP];refine aO @nR ab ?_
   refine aZ.over l (fun k (_:Unit)=>[(3,iN k)]) (fun _ _=>[]) (fun _ _=>()) () () a8 aB aB rfl rfl (fun k _ x hg hk c m _=> ?_) (fun _ c _=> ?_)
   ·have e:=hl x (bX hg);have hc:=f x e (fun _=> .inr trivial) (by have:=yu (bJ d) hg;omega);clear f;refine aO (ga @c (ga @m @hg)) @hc ?_;exact⟨(),trivial⟩
   ·repeat' first|refine ae (fun _=> ?_) fun _=> ?_|refine ay @c ab ?_|exact ax @c ab|fail
theorem OW(a b:List UInt8):str a++str b=str (a++b):=by
 unfold str;apply ByteArray.ext;simp[w9]
theorem qu(a:List UInt8):(str a).size=a.length:=by unfold str;simp[ByteArray.size]
theorem wR: ∀f n,(l8 f n).length≤f+1
 |0,n=>by simp[l8]
 |f+1,n=>by
  unfold l8;split
  ·simp
  ·have:=wR f (n/10);simp;omega
theorem JG(n:Nat):UInt8.ofNat (IntKind.u8.wrap (48+((n % 10:Nat):Int))).toNat=qa n:=by
 have h:IntKind.u8.wrap (48+((n % 10:Nat):Int))=((48+n % 10:Nat):Int):=by
  simp only[IntKind.wrap,IntKind.bits,IntKind.signed];have:(48+((n % 10:Nat):Int)) % 2^8=((48+n % 10:Nat):Int):=by omega
  simp only[this];simp
 rw[h,fC,qa]
theorem Iy(o:Option aa){n:Int}(h:(0≤n∧n<256)=True):rI o (.d (.sl 1 [[.sc (.int .u8 n)]]))=some (str [UInt8.ofNat n.toNat]):=by
 show(gH [.d (.sc (.int .u8 n))]).map _=_;simp only[gH,qO,h,if_true,dP,eZ];rfl
theorem Pc(n:Int):(0≤IntKind.u8.wrap n∧IntKind.u8.wrap n<256)=True:=by
 simp only[IntKind.wrap,IntKind.bits,IntKind.signed];have a:0≤n % 2^8:=Int.emod_nonneg _ (by decide);have b:n % 2^8<2^8:=Int.emod_lt_of_pos _ (by decide);simp;omega
set_option maxHeartbeats 1000000 in
theorem Gw: ∀(f n:Nat),n<10^(f+1)→f≤19→n≤9223372036854775807→aG Tryz.prog 299 [dI n] (dS (str (l8 f n)))
 |f,n,hn,hf,hm=>by
  have l:=fun m (h:m<f)=>Gw m (n/10);have o: ¬((n:Int)<0):=by omega
  have t:l8 f n=if n<10 then[qa n]else l8 (f-1) (n/10)++[qa n]:=by
   cases f with
   |zero=>rw[if_pos (by simpa using hn)];rfl
   |succ f=>rfl
  rw[t];by_cases h:n<10
  ·have d:(n:Int)<10:=by omega
   have p:=JG n;have j:n % 10=n:=Nat.mod_eq_of_lt h;rw[j]at p;have u:IntKind.i64.wrap (48+(n:Int))=((48+n:Nat):Int):=nB a8 a8;refine aM (F:=pr) Gh (by simp[pr]) ?_;simp only[pr];have hb:=Iy none (Pc ((48+n:Nat):Int));refine aO (ga @o (ga @d (ga @u @hb))) ab ?_
   have c:((48+n:Nat):Int)=48+(n:Int):=by omega
   rw[if_pos h,c,p]
  ·have d: ¬(n:Int)<10:=by omega
   have i:f-1<f:=by
    cases f with
    |zero=>simp at hn;omega
    |succ f=>omega
   have q:IntKind.i64.wrap (Int.tdiv (n:Int) 10)=((n/10:Nat):Int):=nB (by rw[Int.tdiv_eq_ediv_of_nonneg a8];omega) a8;have r:Int.tmod (n:Int) 10=((n % 10:Nat):Int):=by rw[wb a8];omega
   have s:IntKind.i64.wrap (48+((n % 10:Nat):Int))=((48+n % 10:Nat):Int):=nB a8 a8;have hc:=l (f-1) i (by
    obtain⟨g,rfl⟩: ∃g,f=g+1:=⟨f-1,by omega⟩
    rw[Nat.pow_succ]at hn;simp only[Nat.add_sub_cancel];omega) a8 a8
   clear l;refine aM (F:=pr) Gh (by simp[pr]) ?_;simp only[pr];have hb:=Iy none (Pc ((48+n % 10:Nat):Int));have k:=uF (a:=str (l8 (f-1) (n/10))) (b:=str [UInt8.ofNat (IntKind.u8.wrap ((48+n % 10:Nat):Int)).toNat]) (by rw[qu,qu];have:=wR (f-1) (n/10);simp;omega);have e:((10:Int)≠0)=True:=by simp
   refine aO (ga @o (ga @d (ga @e (ga @q (ga @r (ga @s (ga @hb @k))))))) @hc ?_;have c:((48+n % 10:Nat):Int)=48+((n % 10:Nat):Int):=by omega
   rw[if_neg h,c,JG,OW]
termination_by f=>f
theorem Ng(n:Int)(f: -1099511627776≤n)(g:n≤1099511627776):aG Tryz.prog 299 [dI n] (dS (dec n)):=by
 unfold dec;by_cases h:n<0
 ·have d: ¬n< -9223372036854775807:=by omega
  have e:IntKind.i64.wrap (-n)=((-n).toNat:Int):=nB a8 a8;have hc:=Gw 19 (-n).toNat a8 a8 a8;have c:=uF (a:=⟨#[45]⟩) (b:=str (l8 19 (-n).toNat)) (by rw[qu];have:=wR 19 (-n).toNat;show 1+_≤_;omega);rw[if_pos h];refine aM (F:=pr) Gh (by simp[pr]) ?_;simp only[pr]
  refine aO (ga @h (ga @d (ga @e @c))) @hc ?_;show Value.string (str [45]++_)=_;rw[OW];rfl
 ·have hc:=Gw 19 n.toNat a8 a8 a8;rw[if_neg h];rw[Int.toNat_of_nonneg a8]at hc;exact hc
theorem ZP(n:Int):aG Tryz.prog 272 [dI n] (.tup [.agg (ak (cp n)),dI (if n< -1099511627776∨1099511627776<n then 2 else 0)]):=by
 unfold cp;by_cases h:n< -1099511627776∨1099511627776<n
 ·rw[if_pos h,if_pos h];refine aM (F:=sY) Ml (by simp[sY]) ?_;simp only[sY]
  repeat' first|refine ae (fun _=> ?_) fun _=> ?_|refine ay @dH ab ?_|exact ax @dH ab|fail
  ·rfl
  ·rfl
  ·omega
 ·have hc:=Ng n a8 a8;rw[if_neg h,if_neg h];refine aM (F:=sY) Ml (by simp[sY]) ?_;simp only[sY]
  repeat' first|refine ae (fun _=> ?_) fun _=> ?_|refine ay @dH @hc ?_|exact ax @dH @hc|fail
  ·omega
  ·omega
  ·rfl
theorem FA(d:Nat): ∀(l:List Sx) (s:bh),(l.foldl (fun s x=>s++fZ d x) s).size=s.size+(l.map fun x=>(fZ d x).size).sum
 |[],s=>by simp
 |x::l,s=>by rw[gD,FA d l,kQ];simp;omega
set_option maxHeartbeats 1000000 in
theorem Nj: ∀(d:Nat) (x:Sx),fj d x→bJ d x≤1000000000→(fZ d x).size≤1000000000000→aG Tryz.prog 271 [.agg (ak x)] (dS (fZ d x))
 |0,_,h,_,_=>h.elim
 |d+1,.mk b a l,hg0,hn,hz=>by
  have j:=Nj d;rcases id hg0 with⟨rfl,rfl,ha⟩|⟨rfl,rfl,hl⟩
  ·have i:fZ (d+1) (.mk false a [])=dec a.size++⟨#[58]⟩++a:=rfl;rw[i]at hz⊢;rw[kQ,kQ]at hz;have hc:=Ng a.size a8 a8;have m:=uF (a:=dec a.size) (b:=⟨#[58]⟩) a8;have n:=uF (a:=dec a.size++⟨#[58]⟩) (b:=a) (by rw[kQ];omega);clear j i hz
   refine aM (F:=tc) Mn (by simp[tc]) ?_;simp only[tc];rw[jP];exact bU (ga @m @n) @hc
  ·have p:bJ (d+1) (.mk true ⟨#[]⟩ l)=1+(l.map (bJ d)).sum:=rfl;have q:l.length≤(l.map (bJ d)).sum:=tW _ fun x o=>rp (hl x o);rw[p]at hn;have i:fZ (d+1) (.mk true ⟨#[]⟩ l)=l.foldl (fun s x=>s++fZ d x) ⟨#[40]⟩++⟨#[41]⟩:=rfl;rw[i]at hz⊢;rw[kQ]at hz;obtain⟨R,c⟩: ∃R,R=l.foldl (fun s x=>s++fZ d x) ⟨#[40]⟩:=⟨_,rfl⟩
   rw[←c]at hz⊢;have n:=uF (a:=R) (b:=⟨#[41]⟩) a8;clear i p;refine aM (F:=tc) Mn (by simp[tc]) ?_;simp only[tc];rw[jP];refine aO ab ab ?_
   refine aZ.over l (fun k (s:bh)=>[(4,iN k),(3,.d (.sc (.string s)))]) (fun _ _=>[]) (fun r s=>r.foldl (fun s x=>s++fZ d x) s) R ⟨#[40]⟩ a8 aB aB rfl c (fun k s x hg hk e t g=> ?_) (fun s e g=> ?_)
   ·have o:=hl x (bX hg);have f:=congrArg ByteArray.size g;rw[FA]at f;simp only[bV,sb]at f;have hc:=j x o (by have:=yu (bJ d) hg;omega) a8;have m:=uF (a:=s) (b:=fZ d x) a8;rw[gD]at g;clear j f c;refine aO (ga @e (ga @t (ga @hg @m))) @hc ?_;exact⟨_,rfl,g⟩
   ·rw[uf]at g;subst g;exact bU (ga @e @n) ab
theorem ZN{d:Nat}{x:Sx}(hg:fj d x)(e:d≤12)(f:bJ d x≤20000):aG Tryz.prog 270 [.agg (ak x)] (dI 0):=by
 have a:=Ni d x 20000 12 hg f a8 e a8;have b:=Nh d x hg (fun _=> .inr trivial) a8;have c: ¬(((bJ d x:Nat):Int)>20000):=by omega
 refine aM (F:=BV) XB (by simp[BV]) ?_;simp only[BV];exact bU @c (ga @a @b)
theorem ZO{d:Nat}{x:Sx}(hg:fj d x)(c:d≤12)(e:bJ d x≤20000)(f:(fZ d x).size≤1000000000000):aG Tryz.prog 210 [.agg (ak x)] (.tup [dS (fZ d x),dI 0]):=by
 have a:=ZN hg c e;have b:=Nj d x hg a8 f;refine aM (F:=BW) XC (by simp[BW]) ?_;simp only[BW];exact bU ab (ga @a @b)
end Go.Proofs.Q
namespace Go.Proofs.Q
open Go Go.Bb Go.Proofs.Lg
open Go.Ab (D)
abbrev gU:=IntKind.u32
def l6(a b:Int):Int:=gU.wrap (BitVec.ofInt gU.bits a|||BitVec.ofInt gU.bits b).toNat
def iE(a b:Int):Int:=gU.wrap (BitVec.ofInt gU.bits a^^^BitVec.ofInt gU.bits b).toNat
def wE(a b:Int):Int:=gU.wrap (BitVec.ofInt gU.bits a&&&BitVec.ofInt gU.bits b).toNat
def R0(a:Int):Int:=gU.wrap (BitVec.ofInt gU.bits (if gU.signed then-1 else gU.max)^^^BitVec.ofInt gU.bits a).toNat
def aW(a b:Int):Int:=gU.wrap (a+b)
def shr(a:Int)(n:Nat):Int:=a.fdiv (2^min n gU.bits)
def shl(a:Int)(n:Nat):Int:=gU.wrap (a*2^min n gU.bits)
def gP(x:Int)(n:Nat):Int:=l6 (shr x n) (shl x (32-n))
def oI:Nat→bh
 |0=>⟨#[]⟩
 |n+1=>oI n++str [0]
def sn(b:Int):bh:=str [UInt8.ofNat b.toNat]
def fG:List Int:=[
 0x428a2f98,0x71374491,0xb5c0fbcf,0xe9b5dba5,0x3956c25b,0x59f111f1,0x923f82a4,0xab1c5ed5,
 0xd807aa98,0x12835b01,0x243185be,0x550c7dc3,0x72be5d74,0x80deb1fe,0x9bdc06a7,0xc19bf174,
 0xe49b69c1,0xefbe4786,0x0fc19dc6,0x240ca1cc,0x2de92c6f,0x4a7484aa,0x5cb0a9dc,0x76f988da,
 0x983e5152,0xa831c66d,0xb00327c8,0xbf597fc7,0xc6e00bf3,0xd5a79147,0x06ca6351,0x14292967,
 0x27b70a85,0x2e1b2138,0x4d2c6dfc,0x53380d13,0x650a7354,0x766a0abb,0x81c2c92e,0x92722c85,
 0xa2bfe8a1,0xa81a664b,0xc24b8b70,0xc76c51a3,0xd192e819,0xd6990624,0xf40e3585,0x106aa070,
 0x19a4c116,0x1e376c08,0x2748774c,0x34b0bcb5,0x391c0cb3,0x4ed8aa4a,0x5b9cca4f,0x682e6ff3,
 0x748f82ee,0x78a5636f,0x84c87814,0x8cc70208,0x90befffa,0xa4506ceb,0xbef9a3f7,0xc67178f2]
def iS:List Int:=[0x6a09e667,0xbb67ae85,0x3c6ef372,0xa54ff53a,0x510e527f,0x9b05688c,0x1f83d9ab,0x5be0cd19]
def oV(s:bh)(i:Nat):Int:=match s.data.toList[i]? with
 |some b=>b.toNat
 |none=>0
def rU(s:bh)(t:Nat):Int:=l6 (l6 (l6 (shl (oV s (4*t)) 24) (shl (oV s (4*t+1)) 16)) (shl (oV s (4*t+2)) 8)) (oV s (4*t+3))
def at_(w:List Int)(i:Nat):Int:=(w[i]?).getD 0
def qw(w:List Int)(t:Nat):Int:=
 aW (aW (aW (iE (iE (gP (at_ w (t-2)) 17) (gP (at_ w (t-2)) 19)) (shr (at_ w (t-2)) 10)) (at_ w (t-7))) (iE (iE (gP (at_ w (t-15)) 7) (gP (at_ w (t-15)) 18)) (shr (at_ w (t-15)) 3))) (at_ w (t-16))
def tS(s:bh)(l:List Nat)(w:List Int):List Int:=l.foldl (fun w t=>w.set t (rU s t)) w
def tT(l:List Nat)(w:List Int):List Int:=l.foldl (fun w t=>w.set t (qw w t)) w
def sched(s:bh):List Int:=tT (List.range' 16 48) (tS s (List.range' 0 16) (List.replicate 64 0))
def Hc(k w:Int):List Int→List Int
 |[a,b,c,d,e,f,g,h]=>
  let i:=aW (aW (aW (aW h (iE (iE (gP e 6) (gP e 11)) (gP e 25))) (iE (wE e f) (wE (R0 e) g))) k) w;let t2:=aW (iE (iE (gP a 2) (gP a 13)) (gP a 22)) (iE (iE (wE a b) (wE a c)) (wE b c))
  [aW i t2,a,b,c,aW d i,e,f,g]
 |v=>v
def rounds:List (Int×Int)→List Int→List Int
 |[],v=>v
 |(k,w)::l,v=>rounds l (Hc k w v)
def nP(v:List Int)(l:List Nat)(h:List Int):List Int:=l.foldl (fun h i=>h.set i (aW (at_ h i) (at_ v i))) h
def iu(h:List Int)(s:bh):List Int:=nP (rounds (fG.zip (sched s)) h) (List.range 8) h
def Re(s:bh):Int:=IntKind.u64.wrap (IntKind.u64.wrap s.size*8)
def ml(s:bh)(i:Nat):Int:=IntKind.u8.wrap ((Re s).fdiv (2^min (8*i) 64))
def jO(s:bh):bh:=[7,6,5,4,3,2,1,0].foldl (fun out i=>out++sn (ml s i)) (s++str [128]++oI ((120-(s.size+1) % 64) % 64))
def nv(s:bh):List Int:=(List.range ((jO s).size/64)).foldl (fun h k=>iu h ((jO s).extract (64*k) (64*k+64))) iS
def p8(h:List Int)(i:Nat):Int:=IntKind.u8.wrap ((at_ h (i/4)).fdiv (2^min (24-8*(i % 4)) 32))
theorem yA(n:Int):0≤IntKind.u8.wrap n∧IntKind.u8.wrap n<256:=by
 simp only[IntKind.wrap,IntKind.bits,IntKind.signed];have a:0≤n % 2^8:=Int.emod_nonneg _ (by decide);have b:n % 2^8<2^8:=Int.emod_lt_of_pos _ (by decide);simp;omega
theorem OC{f:Nat→Int}(c: ∀i,0≤f i∧f i<256): ∀(l:List Nat) (b:List Int),Bytes b→Bytes (l.foldl (fun b i=>b.set i (f i)) b)∧(l.foldl (fun b i=>b.set i (f i)) b).length=b.length
 |[],b,h=>⟨h,rfl⟩
 |i::l,b,h=>by
  have d:Bytes (b.set i (f i)):=fun x a=>by
   rcases List.mem_or_eq_of_mem_set a with a|rfl
   ·exact h x a
   ·exact c i
  obtain⟨e,g⟩:=OC c l (b.set i (f i)) d;exact⟨e,by rw[gD,g,jh]⟩
def n9(h:List Int):List Int:=(List.range 32).foldl (fun b i=>b.set i (p8 h i)) (List.replicate 32 0)
theorem JE(h:List Int):Bytes (n9 h)∧(n9 h).length=32:=by
 have h:=OC (f:=p8 h) (fun i=>yA _) (List.range 32) (List.replicate 32 0) (by unfold Bytes;decide);exact⟨h.1,h.2.trans (by simp)⟩
def ar(s:bh):Dg:=⟨n9 (nv s),(JE _).2,(JE _).1⟩
theorem a3h(s:bh):(ar s).l=n9 (nv s):=by rw[ar]
end Go.Proofs.Q
namespace Go.Proofs.Q
open Go Go.Ab Go.Bb
def BE:CF:=⟨35, (kq [kM 2 (.c (.nil 32))] (kq [om 7 0,o6 8 154 [.t 7],o0 3 (.box (.c (.d (.sc (.map none))))),o8 1 3 8] (kq [o0 9 (.mkm true),o0 4 (.box (.c (.d (.sc (.map none))))),o8 1 4 9] (kq [o0 5 (.nlr 25 32)] (.seq (kq [om 10 0,o9 11 0 10,o7 12 0] (.block 0 (.loop (.trim [5,4,0,12,3,11] (kq [o4 13 .lss 12 11] (.seq (kd 13 .skip (.exit 0)) (.seq (.block 1 (kq [om 14 0,o0 15 (.mkf 196 [] [.t 4,.t 3]),o6 16 86 [.t 14,.t 15],om 6 16] (.seq (kq [om 17 6,o5 18 .lss 17 0] (kd 18 (.exit 0) .skip)) (.seq (.ops true [0,0,0,6,14,30,63] [o3 19 4,om 20 0,om 21 6,oi 22 37 20 21,o1 23 0 22,o2 24 32 23,oN (.mup true eV (.t 19) (.t 24) xT)]) (fo [om 25 5,om 26 0,om 27 6,oi 28 37 26 27,o1 29 0 28,o2 30 32 29,o0 31 (.bsf 32 1 ej [(0,32,(.t 30))]),o0 32 (.app false 25 32 32 (.t 25) (.t 31)),om 5 32]))))) (fo [o5 33 .add 12 1,om 12 33])))))))) (kq [om 34 5,om 2 34] .ret)))))),[.tmp 2]⟩
theorem Xk:aN Tryz.prog [200005,100031] 135=some BE.erase:=by kernel_rfl
def BF:CF:=⟨19, (kq [ox 3 0,kM 4 xF] (kq [o3 5 1,o1 6 0 3,o2 7 32 6,o0 8 (.lkp true eV (.d (.sc (.bool false))) false (.t 5) (.t 7)),o0 9 (.not (.t 8)),om 10 9,kL 11 10 true 2,kF 12 10 true 0 3,og 13 10 true (.ld (some 32) (.t 12)),og 14 10 true (.lkp true eV (.nil 32) false (.t 11) (.t 13)),og 15 10 true (.mkf 197 [] [.t 1]),og 16 10 true (.call (.fn 164) [.t 14,.t 15]),og 17 10 true (.not (.t 16)),kP 18 10 17,om 4 18] .ret)),[.tmp 4]⟩
theorem Xl:aN Tryz.prog [100003] 196=some BF.erase:=by kernel_rfl
def BG:CF:=⟨8, (kq [ox 2 0,kM 3 xF] (kq [o3 4 1,o2 5 32 2,o0 6 (.lkp true eV (.d (.sc (.bool false))) false (.t 4) (.t 5)),o0 7 (.not (.t 6)),om 3 7] .ret)),[.tmp 3]⟩
theorem Xm:aN Tryz.prog [100002] 197=some BG.erase:=by kernel_rfl
def Ao:CF:=⟨9, (kq [kM 4 xF] (kq [om 5 0,om 6 1,o6 7 217 [.t 5,.t 6],o5 8 .geq 7 0,om 4 8] .ret)),[.tmp 4]⟩
theorem W9:aN Tryz.prog [] 164=some Ao.erase:=by kernel_rfl
def Ar:CF:=⟨19, (kq [o7 4 0] (.seq (kq [om 6 0,o9 7 0 6,o7 8 0] (.block 0 (.loop (.trim [8,0,1,7] (kq [o4 9 .lss 8 7] (.seq (kd 9 .skip (.exit 0)) (.seq (.block 1 (kq [om 10 8,om 5 10] (kq [om 11 1,om 12 0,om 13 5,oi 14 32 12 13,o2 15 32 14,o0 16 (.call (.val (.t 11)) [.t 15])] (kd 16 (kq [om 17 5,om 4 17] .ret) .skip)))) (fo [o5 18 .add 8 1,om 8 18])))))))) (kq [kM 4 (xi (-1))] .ret))),[.tmp 4]⟩
theorem Wc:aN Tryz.prog [] 217=some Ar.erase:=by kernel_rfl
end Go.Proofs.Q
