/- Part of a proof. -/
import Derived.Test.YtfoljakejdgfcaaGreatDoorPBB
set_option linter.unusedVariables false
set_option linter.unusedSimpArgs false
namespace Go.Proofs.Q
open Go Go.Ab Go.Bb
def Bd:CF:=⟨9, (.seq (fo [o0 4 (.mov (.c (.d (.sc (.int .u32 0)))))]) (.seq (fo [om 5 0,om 6 1,o0 7 (.un .neg (.t 6)),o6 8 284 [.t 5,.t 7],om 4 8]) .ret)),[.tmp 4]⟩
theorem TH:aG Tryz.prog [] 255=some Bd.erase:=by kernel_rfl
def yF:CF:=⟨17, (.seq (fo [o0 4 (.mov (.c (.d (.sc (.int .u32 0)))))]) (.seq (fo [om 6 1,o0 7 (.cnv .u64 (.t 6)),o0 8 (.bin .and (.t 7) (.c (.d (.sc (.int .u64 31))))),om 5 8]) (.seq (fo [om 9 0,om 10 5,o4 11 .shl 9 10,om 12 0,om 13 5,o0 14 (.bin .sub (.c (.d (.sc (.int .u64 32)))) (.t 13)),o4 15 .shr 12 14,o4 16 .or 11 15,om 4 16]) .ret))),[.tmp 4]⟩
theorem Rw:aG Tryz.prog [] 284=some yF.erase:=by kernel_rfl
def Bc:CF:=⟨2, (.seq (fo [o0 0 (.box (.c (.agg z8)))]) (.seq (fo [o0 1 (.bld z8 [(0,1,(.c (.d (.sc (.int .u32 1779033703))))),(1,1,(.c (.d (.sc (.int .u32 3144134277))))),(2,1,(.c (.d (.sc (.int .u32 1013904242))))),(3,1,(.c (.d (.sc (.int .u32 2773480762))))),(4,1,(.c (.d (.sc (.int .u32 1359893119))))),(5,1,(.c (.d (.sc (.int .u32 2600822924))))),(6,1,(.c (.d (.sc (.int .u32 528734635))))),(7,1,(.c (.d (.sc (.int .u32 1541459225)))))]),o8 8 0 1]) .ret)),[.cell 0 (some 8)]⟩
theorem TG:aG Tryz.prog [300001] 199=some Bc.erase:=by kernel_rfl
def Ba:CF:=⟨2, (.seq (fo [o0 0 (.box (.c (.agg z64)))])
 (.seq (fo [o0 1 (.bld z64 [(0,1,(.c (.d (.sc (.int .u32 1116352408))))),(1,1,(.c (.d (.sc (.int .u32 1899447441))))),(2,1,(.c (.d (.sc (.int .u32 3049323471))))),(3,1,(.c (.d (.sc (.int .u32 3921009573))))),(4,1,(.c (.d (.sc (.int .u32 961987163))))),(5,1,(.c (.d (.sc (.int .u32 1508970993))))),(6,1,(.c (.d (.sc (.int .u32 2453635748))))),(7,1,(.c (.d (.sc (.int .u32 2870763221))))),(8,1,(.c (.d (.sc (.int .u32 3624381080))))),(9,1,(.c (.d (.sc (.int .u32 310598401))))),(10,1,(.c (.d (.sc (.int .u32 607225278))))),(11,1,(.c (.d (.sc (.int .u32 1426881987))))),(12,1,(.c (.d (.sc (.int .u32 1925078388))))),(13,1,(.c (.d (.sc (.int .u32 2162078206))))),(14,1,(.c (.d (.sc (.int .u32 2614888103))))),(15,1,(.c (.d (.sc (.int .u32 3248222580))))),(16,1,(.c (.d (.sc (.int .u32 3835390401))))),(17,1,(.c (.d (.sc (.int .u32 4022224774))))),(18,1,(.c (.d (.sc (.int .u32 264347078))))),(19,1,(.c (.d (.sc (.int .u32 604807628))))),(20,1,(.c (.d (.sc (.int .u32 770255983))))),(21,1,(.c (.d (.sc (.int .u32 1249150122))))),(22,1,(.c (.d (.sc (.int .u32 1555081692))))),(23,1,(.c (.d (.sc (.int .u32 1996064986))))),(24,1,(.c (.d (.sc (.int .u32 2554220882))))),(25,1,(.c (.d (.sc (.int .u32 2821834349))))),(26,1,(.c (.d (.sc (.int .u32 2952996808))))),(27,1,(.c (.d (.sc (.int .u32 3210313671))))),(28,1,(.c (.d (.sc (.int .u32 3336571891))))),(29,1,(.c (.d (.sc (.int .u32 3584528711))))),(30,1,(.c (.d (.sc (.int .u32 113926993))))),(31,1,(.c (.d (.sc (.int .u32 338241895))))),(32,1,(.c (.d (.sc (.int .u32 666307205))))),(33,1,(.c (.d (.sc (.int .u32 773529912))))),(34,1,(.c (.d (.sc (.int .u32 1294757372))))),(35,1,(.c (.d (.sc (.int .u32 1396182291))))),(36,1,(.c (.d (.sc (.int .u32 1695183700))))),(37,1,(.c (.d (.sc (.int .u32 1986661051))))),(38,1,(.c (.d (.sc (.int .u32 2177026350))))),(39,1,(.c (.d (.sc (.int .u32 2456956037))))),(40,1,(.c (.d (.sc (.int .u32 2730485921))))),(41,1,(.c (.d (.sc (.int .u32 2820302411))))),(42,1,(.c (.d (.sc (.int .u32 3259730800))))),(43,1,(.c (.d (.sc (.int .u32 3345764771))))),(44,1,(.c (.d (.sc (.int .u32 3516065817))))),(45,1,(.c (.d (.sc (.int .u32 3600352804))))),(46,1,(.c (.d (.sc (.int .u32 4094571909))))),(47,1,(.c (.d (.sc (.int .u32 275423344))))),(48,1,(.c (.d (.sc (.int .u32 430227734))))),(49,1,(.c (.d (.sc (.int .u32 506948616))))),(50,1,(.c (.d (.sc (.int .u32 659060556))))),(51,1,(.c (.d (.sc (.int .u32 883997877))))),(52,1,(.c (.d (.sc (.int .u32 958139571))))),(53,1,(.c (.d (.sc (.int .u32 1322822218))))),(54,1,(.c (.d (.sc (.int .u32 1537002063))))),(55,1,(.c (.d (.sc (.int .u32 1747873779))))),(56,1,(.c (.d (.sc (.int .u32 1955562222))))),(57,1,(.c (.d (.sc (.int .u32 2024104815))))),(58,1,(.c (.d (.sc (.int .u32 2227730452))))),(59,1,(.c (.d (.sc (.int .u32 2361852424))))),(60,1,(.c (.d (.sc (.int .u32 2428436474))))),(61,1,(.c (.d (.sc (.int .u32 2756734187))))),(62,1,(.c (.d (.sc (.int .u32 3204031479))))),(63,1,(.c (.d (.sc (.int .u32 3329325298)))))]),o8 64 0 1]) .ret)),[.cell 0 (some 64)]⟩
theorem TF:aG Tryz.prog [300001] 254=some Ba.erase:=by kernel_rfl
def B7:CF:=⟨4, (.seq (fo [ox 1 0,o0 2 (.mov (.c (.d (.sc .nilFunc))))]) (.seq (fo [o0 3 (.mkf 252 [] [.t 1]),om 2 3]) .ret)),[.tmp 2]⟩
theorem TC:aG Tryz.prog [100001] 200=some B7.erase:=by kernel_rfl
def B8:CF:=⟨67, (.seq (fo [o3 8 1,o9 9 1 8,o5 10 .quo 9 64,o5 11 .mul 10 64,om 3 11]) (.seq (.seq (fo [o7 4 0]) (.block 0 (.loop (.trim [4,1,0,3] (.seq (.seq (fo [om 12 4,om 13 3,o4 14 .lss 12 13]) (.cond (.t 14) .skip (.exit 0))) (.seq (.block 1 (.seq (fo [om 17 0,o3 18 1,om 19 4,om 20 4,o5 21 .add 20 64,o0 22 (.sls (.t 18) (some (.t 19)) (some (.t 21))),o0 23 (.call (.val (.t 17)) [.t 22]),o0 24 (.not (.t 23))]) (.cond (.t 24) .ret .skip))) (fo [om 15 4,o5 16 .add 15 64,om 4 16]))))))) (.seq (fo [o3 25 1,om 26 3,o0 27 (.sls (.t 25) (some (.t 26)) none),o0 28 (.s2o 5 (.t 27)),o0 29 (.bsf 1 1 [(.d (.sc (.int .u8 0)))] [(0,1,(.c (.d (.sc (.int .u8 128)))))]),o0 30 (.app false 5 1 1 (.t 28) (.t 29)),om 5 30]) (.seq (.block 2 (.loop (.trim [5,1,0] (.seq (.seq (fo [om 31 5,o9 32 0 31,o5 33 .rem 32 64,o5 34 .neq 33 56]) (.cond (.t 34) .skip (.exit 2))) (.block 3 (fo [om 35 5,o0 36 (.bsf 1 1 [(.d (.sc (.int .u8 0)))] [(0,1,(.c (.d (.sc (.int .u8 0)))))]),o0 37 (.app false 5 1 1 (.t 35) (.t 36)),om 5 37])))))) (.seq (.seq (fo [o7 6 56]) (.block 4 (.loop (.trim [6,1,5,0] (.seq (.seq (fo [om 38 6,o5 39 .geq 38 0]) (.cond (.t 39) .skip (.exit 4))) (.seq (.block 5 (fo [om 42 5,o3 43 1,o9 44 1 43,o0 45 (.cnv .u64 (.t 44)),o0 46 (.bin .mul (.t 45) (.c (.d (.sc (.int .u64 8))))),om 47 6,o4 48 .shr 46 47,o0 49 (.cnv .u8 (.t 48)),o0 50 (.bsf 1 1 [(.d (.sc (.int .u8 0)))] [(0,1,(.t 49))]),o0 51 (.app false 5 1 1 (.t 42) (.t 50)),om 5 51])) (fo [om 40 6,o5 41 .sub 40 8,om 6 41])))))))
 (.seq (fo [o7 7 0]) (.block 6 (.loop (.trim [7,5,0] (.seq (.seq (fo [om 52 7,om 53 5,o9 54 0 53,o4 55 .lss 52 54]) (.cond (.t 55) .skip (.exit 6))) (.seq (.block 7 (.seq (fo [om 58 0,om 59 5,om 60 7,om 61 7,o5 62 .add 61 64,o0 63 (.slc 1 (.t 59) (some (.t 60)) (some (.t 62))),o0 64 (.b2s (.t 63)),o0 65 (.call (.val (.t 58)) [.t 64]),o0 66 (.not (.t 65))]) (.cond (.t 66) .ret .skip))) (fo [om 56 7,o5 57 .add 56 64,om 7 57])))))))))))),[]⟩
theorem TD:aG Tryz.prog [100029,100036,100050,28] 252=some B8.erase:=by kernel_rfl
def Be:CF:=⟨76, (.seq (fo [o0 2 (.box (.c (.agg z64)))]) (.seq (fo [o0 3 (.box (.c (.agg z64)))]) (.seq (.seq (fo [o7 9 0]) (.block 0 (.loop (.trim [9,3,0,2] (.seq (fo [o5 10 .lss 9 64]) (.seq (.cond (.t 10) .skip (.exit 0)) (.seq (.block 1 (.seq (fo [om 11 9,om 4 11]) (.seq (.seq (fo [om 12 4,o5 13 .lss 12 16]) (.cond (.t 13) (.seq (.seq (fo [om 14 0,om 15 4,o0 16 (.bin .mul (xi 4) (.t 15)),om 17 4,o0 18 (.bin .mul (xi 4) (.t 17)),o5 19 .add 18 4,o0 20 (.sls (.t 14) (some (.t 16)) (some (.t 19))),o0 21 (.s2b (.t 20)),o9 22 0 21,o7 23 0]) (.block 2 (.loop (.trim [23,3,4,21,9,0,2,22] (.seq (fo [o4 24 .lss 23 22]) (.seq (.cond (.t 24) .skip (.exit 2)) (.seq (.block 3 (.seq (fo [oi 25 1 21 23,o3 26 25,om 6 26]) (fo [om 27 4,om 28 4,o0 29 (.iap 64 1 (.t 3) (.t 28)),o3 30 29,o0 31 (.bin .shl (.t 30) (.c (.d (.sc (.int .u64 8))))),om 32 6,o0 33 (.cnv .u32 (.t 32)),o4 34 .or 31 33,o0 35 (.iap 64 1 (.t 3) (.t 27)),o8 1 35 34]))) (fo [o5 36 .add 23 1,om 23 36])))))))) (.exit 1)) .skip))
 (.seq (.ops true [0,1,3,7,0,16,48,112,15,511] [om 37 4,o5 38 .sub 37 15,o0 39 (.iap 64 1 (.t 3) (.t 38)),o3 40 39,om 41 4,o5 42 .sub 41 2,o0 43 (.iap 64 1 (.t 3) (.t 42)),o3 44 43,om 7 40,om 8 44]) (.ops true [0,0,2,0,14,30,0,64,254,0,512,1536,3584,8190,0,16414,0,114718,245790,0,524288,2080798,4194302,0,8388608,25165824,58720256,134217726,268435455,536870911] [om 45 4,om 46 8,o6 47 255 [.t 46,(xi 17)],om 48 8,o6 49 255 [.t 48,(xi 19)],o4 50 .xor 47 49,om 51 8,o0 52 (.bin .shr (.t 51) (.c (.d (.sc (.int .u64 10))))),o4 53 .xor 50 52,om 54 4,o5 55 .sub 54 7,o0 56 (.iap 64 1 (.t 3) (.t 55)),o3 57 56,o4 58 .add 53 57,om 59 7,o6 60 255 [.t 59,(xi 7)],om 61 7,o6 62 255 [.t 61,(xi 18)],o4 63 .xor 60 62,om 64 7,o0 65 (.bin .shr (.t 64) (.c (.d (.sc (.int .u64 3))))),o4 66 .xor 63 65,o4 67 .add 58 66,om 68 4,o5 69 .sub 68 16,o0 70 (.iap 64 1 (.t 3) (.t 69)),o3 71 70,o4 72 .add 67 71,o0 73 (.iap 64 1 (.t 3) (.t 45)),o8 1 73 72]))))) (fo [o5 74 .add 9 1,om 9 74])))))))) (.seq (fo [o2 75 64 3,o8 64 2 75]) .ret)))),[.cell 2 (some 64)]⟩
theorem TJ:aG Tryz.prog [] 253=some Be.erase:=by kernel_rfl
def B9:CF:=⟨123, (.seq (fo [o0 2 (.box (.t 0)),o0 4 (.box (.c (.agg z8)))]) (.seq (fo [om 20 1,o6 21 253 [.t 20],o6 22 254 [],o0 5 (.box (.c (.agg z64))),o0 6 (.box (.c (.agg z64))),o8 64 5 21,o8 64 6 22]) (.seq (.ops true [0,1,0,4,0,16,0,64,0,256,0,1024,0,4096,0,16384,3,65551,196671,459007,984063,2035711,4145151,8388607] [o0 23 (.iap 8 1 (.t 2) (xi 0)),o3 24 23,o0 25 (.iap 8 1 (.t 2) (xi 1)),o3 26 25,o0 27 (.iap 8 1 (.t 2) (xi 2)),o3 28 27,o0 29 (.iap 8 1 (.t 2) (xi 3)),o3 30 29,o0 31 (.iap 8 1 (.t 2) (xi 4)),o3 32 31,o0 33 (.iap 8 1 (.t 2) (xi 5)),o3 34 33,o0 35 (.iap 8 1 (.t 2) (xi 6)),o3 36 35,o0 37 (.iap 8 1 (.t 2) (xi 7)),o3 38 37,om 7 24,om 8 26,om 9 28,om 10 30,om 11 32,om 12 34,om 13 36,om 14 38]) (.seq (.seq (fo [o7 39 0]) (.block 0 (.loop (.trim [39,13,12,11,10,9,8,7,5,6,14,2,4] (.seq (fo [o5 40 .lss 39 64]) (.seq (.cond (.t 40) .skip (.exit 0)) (.seq (.block 1 (.seq (fo [om 41 39,om 15 41])
 (.seq (.ops true [0,0,2,0,14,30,0,94,254,511,0,0,3072,0,8192,0,57344,130048,262143,0,524288,1572864,4194303,0,8388608,25165824,67108863,134217727] [om 42 14,om 43 11,o6 44 255 [.t 43,(xi 6)],om 45 11,o6 46 255 [.t 45,(xi 11)],o4 47 .xor 44 46,om 48 11,o6 49 255 [.t 48,(xi 25)],o4 50 .xor 47 49,o4 51 .add 42 50,om 52 11,om 53 12,o4 54 .and 52 53,om 55 11,o0 56 (.un .xor (.t 55)),om 57 13,o4 58 .and 56 57,o4 59 .xor 54 58,o4 60 .add 51 59,om 61 15,o0 62 (.iap 64 1 (.t 6) (.t 61)),o3 63 62,o4 64 .add 60 63,om 65 15,o0 66 (.iap 64 1 (.t 5) (.t 65)),o3 67 66,o4 68 .add 64 67,om 16 68]) (.seq (fo [om 69 7,o6 70 255 [.t 69,(xi 2)],om 71 7,o6 72 255 [.t 71,(xi 13)],o4 73 .xor 70 72,om 74 7,o6 75 255 [.t 74,(xi 22)],o4 76 .xor 73 75,om 77 7,om 78 8,o4 79 .and 77 78,om 80 7,om 81 9,o4 82 .and 80 81,o4 83 .xor 79 82,om 84 8,om 85 9,o4 86 .and 84 85,o4 87 .xor 83 86,o4 88 .add 76 87,om 17 88]) (fo [om 89 16,om 90 17,o4 91 .add 89 90,om 92 7,om 93 8,om 94 9,om 95 10,om 96 16,o4 97 .add 95 96,om 98 11,om 99 12,om 100 13,om 7 91,om 8 92,om 9 93,om 10 94,om 11 97,om 12 98,om 13 99,om 14 100]))))) (fo [o5 101 .add 39 1,om 39 101])))))))) (.seq (.seq (fo [om 102 7,om 103 8,om 104 9,om 105 10,om 106 11,om 107 12,om 108 13,om 109 14,o0 110 (.bld z8 [(0,1,(.t 102)),(1,1,(.t 103)),(2,1,(.t 104)),(3,1,(.t 105)),(4,1,(.t 106)),(5,1,(.t 107)),(6,1,(.t 108)),(7,1,(.t 109))]),o7 111 0]) (.block 2 (.loop (.trim [111,2,110,4] (.seq (fo [o5 112 .lss 111 8]) (.seq (.cond (.t 112) .skip (.exit 2))
 (.seq (.block 3 (.seq (fo [om 113 111,o0 114 (.idx 8 1 none (.t 110) (.t 111)),om 18 113,om 19 114]) (fo [om 115 18,o0 116 (.iap 8 1 (.t 2) (.t 115)),o3 117 116,om 118 19,o4 119 .add 117 118,o0 120 (.iap 8 1 (.t 2) (.t 115)),o8 1 120 119]))) (fo [o5 121 .add 111 1,om 111 121])))))))) (.seq (fo [o2 122 8 2,o8 8 4 122]) .ret)))))),[.cell 4 (some 8)]⟩
theorem TE:aG Tryz.prog [300110] 201=some B9.erase:=by kernel_rfl
def B6:CF:=⟨38, (.seq (fo [o0 2 (.box (.c (.agg cN)))]) (.seq (fo [o6 9 199 [],o0 3 (.box (.c (.agg z8))),o8 8 3 9]) (.seq (.seq (fo [om 10 0,o6 11 200 [.t 10]]) (.block 0 (.trim [11,2,3] (.rng 38 (.t 11) [12] (fo [om 4 12]) (.block 1 (fo [o2 13 8 3,om 14 4,o6 15 201 [.t 13,.t 14],o8 8 3 15])))))) (.seq (fo [o0 5 (.box (.c (.agg cN)))]) (.seq (.seq (fo [o2 16 8 3,o7 17 0]) (.block 2 (.loop (.trim [17,5,16,2] (.seq (fo [o5 18 .lss 17 8]) (.seq (.cond (.t 18) .skip (.exit 2)) (.seq (.block 3 (.seq (fo [om 19 17,o0 20 (.idx 8 1 none (.t 16) (.t 17)),om 6 19,om 7 20]) (.seq (fo [o7 21 0]) (.block 4 (.loop (.trim [21,5,7,6,17,16,2] (.seq (fo [o5 22 .lss 21 4]) (.seq (.cond (.t 22) .skip (.exit 4)) (.seq (.block 5 (.seq (fo [om 23 21,om 8 23]) (fo [om 24 6,o0 25 (.bin .mul (xi 4) (.t 24)),om 26 8,o4 27 .add 25 26,om 28 7,om 29 8,o0 30 (.bin .mul (xi 8) (.t 29)),o0 31 (.bin .sub (xi 24) (.t 30)),o4 32 .shr 28 31,o0 33 (.cnv .u8 (.t 32)),o0 34 (.iap 32 1 (.t 5) (.t 27)),o8 1 34 33]))) (fo [o5 35 .add 21 1,om 21 35])))))))))) (fo [o5 36 .add 17 1,om 17 36])))))))) (.seq (fo [o2 37 32 5,o8 32 2 37]) .ret)))))),[.cell 2 (some 32)]⟩
theorem TB:aG Tryz.prog [] 144=some B6.erase:=by kernel_rfl
end Go.Proofs.Q
namespace Go.Proofs.Q
open Go Go.Bb Go.RowKit Go.Proofs.Lg
open Go.Ab (D RD)
structure iC(s:aP):Prop where
 len:s.length≤1000000
 pat: ∀x∈s,cV x.pat
theorem CZ:(dT .zero).2=5:=by rfl
theorem cV.zero:cV .zero:=⟨⟨fM _,by simp[b9.zero]⟩,fun h=>by rw[CZ]at h;omega⟩
theorem HI{P:b9→Prop}(a:P .zero)(d:Dg): ∀{s:aP},(∀x∈s,P x.pat)→P ((bM s d).getD .zero)
 |[],_=>a
 |x::s,h=>by
  unfold bM;split
  ·exact h x (by simp)
  ·exact HI a d fun y b=>h y (jS _ b)
theorem iC.get{s:aP}(h:iC s)(d:Dg):cV ((bM s d).getD .zero):=HI cV.zero d h.pat
theorem BF(s:aP)(x:ar)(d:iC s):aE Tryz.prog 124 [.sl 37 (s.map b8),.agg (ab x)] (.tup [.agg (aO ((qW bE s x).getD .zero)),dB (qW bE s x).isSome]):=by
 have b:=vQ s x.p;have a:=UZ _ (d.get x.p);unfold qW;obtain⟨L,c⟩: ∃L,L=(tj bE ((bM s x.p).getD .zero)).1:=⟨_,rfl⟩
 rw[←c]at a⊢;clear c d;by_cases h:x.n<0∨(L.length:Int)≤x.n
 ·rw[if_pos h];refine aI (F:=rY) Js (by simp[rY]) ?_;simp only[rY]
  repeat' first|refine ak (fun _=> ?_) fun _=> ?_|refine bb (ga @ew (ga @ef (ga @bJ @c9))) (ga @b @a) ?_|exact ba (ga @ew (ga @ef (ga @bJ @c9))) (ga @b @a)|fail
  all_goals first|rfl|omega
 ·rw[if_neg h];have e:decide (x.n<0)=false:=by simp;omega
  have f:decide (x.n≥(L.length:Int))=false:=by simp;omega
  have g:(0≤x.n)=True:=by simp;omega
  have hg:L[x.n.toNat]?=some L[x.n.toNat]:=bV a8;rw[hg];refine aI (F:=rY) Js (by simp[rY]) ?_;simp only[rY];exact bx (ga @e (ga @f (ga @g (ga @hg (ga @ew (ga @ef (ga @bJ @c9))))))) (ga @b @a)
  all_goals rfl
theorem BL(s:aP)(x:ar)(f:aJ→Bool):qA bE s x f=if isZero x.p=true then 0 else if(qW bE s x).isSome=false then 7 else if f ((qW bE s x).getD .zero)=true then 0 else 8:=by
 unfold qA;cases qW bE s x<;>simp
theorem Kd(s:aP)(x file:ar)(id:Dg)(b:iC s):aE Tryz.prog 127 [.sl 37 (s.map b8),.agg (ab x),.agg (ab file),.agg (aq id)] (dI (tG bE s x file id)):=by
 have a:=BF s x b;unfold tG;rw[BL];clear b;refine aI (F:=AX) Tu (by simp[AX]) ?_;simp only[AX]
 repeat' first|refine ak (fun _=> ?_) fun _=> ?_|refine bb (ga @ef @bJ) (ga @qt (ga @a (ga @BG @BA))) ?_|exact ba (ga @ef @bJ) (ga @qt (ga @a (ga @BG @BA)))|fail
 all_goals(clear a;simp_all)
set_option maxHeartbeats 4000000 in
theorem Vm(s:aP)(c:af)(id:Dg)(g:iC s)(n:c.over.length≤9223372036854775807):aE Tryz.prog 88 [.sl 37 (s.map b8),.agg (aQ c),.agg (aq id)] (dI (pP bE s c id)):=by
 refine ph (F:=AS) Tr (by simp[AS]) ?_;simp only[AS];refine AC.cut [0,5,4] [(0,.d (.sl 37 (s.map b8))),(5,.d (.ref (aq id))),(4,.d (.ref (aQ c)))] [] True ?_ fun J _=> ?_
 ·refine aw trivial trivial ?_
  all_goals exact⟨_,rfl⟩
 refine AC.cut [0,5,4] [(0,.d (.sl 37 (s.map b8))),(5,.d (.ref (aq id))),(4,.d (.ref (aQ c)))] [] (qA bE s c.file (lE c.kind)=0) ?_ fun J f=> ?_
 ·have ca:=BF s c.file g;have e:=BL s c.file (lE c.kind)
  repeat' first|refine ak (fun _=> ?_) fun _=> ?_|refine bb (ga @ef (ga @bJ @wj)) (ga @qt (ga @ca @BB)) ?_|exact ba (ga @ef (ga @bJ @wj)) (ga @qt (ga @ca @BB))|fail
  all_goals first
   |(refine⟨⟨_,rfl⟩,?_⟩;rw[e];simp_all;done)
   |(rw[pP,cF];simp_all;done)
 refine AC.cut [0,5,4] [(0,.d (.sl 37 (s.map b8))),(5,.d (.ref (aq id))),(4,.d (.ref (aQ c)))] [] (qA bE s c.parent vc=0) ?_ fun J h=> ?_
 ·have ca:=BF s c.parent g;have e:=BL s c.parent vc
  repeat' first|refine ak (fun _=> ?_) fun _=> ?_|refine bb (ga @ef (ga @bJ @wj)) (ga @qt (ga @ca @Kc)) ?_|exact ba (ga @ef (ga @bJ @wj)) (ga @qt (ga @ca @Kc))|fail
  all_goals first
   |(refine⟨⟨_,rfl⟩,?_⟩;rw[e];simp_all;done)
   |(rw[pP,f];simp_all[cF];done)
 refine AC.cut [0,5,4] [(0,.d (.sl 37 (s.map b8))),(5,.d (.ref (aq id))),(4,.d (.ref (aQ c)))] [] (tG bE s c.after c.file id=0) ?_ fun J m=> ?_
 ·have ca:=Kd s c.after c.file id g
  repeat' first|refine ak (fun _=> ?_) fun _=> ?_|refine bb trivial @ca ?_|exact ba trivial @ca|fail
  all_goals first
   |(refine⟨⟨_,rfl⟩,?_⟩;simp_all;done)
   |(rw[pP,f,h];simp_all[cF];done)
 refine AC.cut [0,5,4] [(0,.d (.sl 37 (s.map b8))),(5,.d (.ref (aq id))),(4,.d (.ref (aQ c)))] [] (tG bE s c.before c.file id=0) ?_ fun J o=> ?_
 ·have ca:=Kd s c.before c.file id g
  repeat' first|refine ak (fun _=> ?_) fun _=> ?_|refine bb trivial @ca ?_|exact ba trivial @ca|fail
  all_goals first
   |(refine⟨⟨_,rfl⟩,?_⟩;simp_all;done)
   |(rw[pP,f,h,m];simp_all[cF];done)
 have e:pP bE s c id=sk bE s c id c.over:=by simp[pP,cF,f,h,m,o]
 rw[e];clear e f h m o;refine bL ?_;refine aw trivial trivial ?_;obtain⟨R,a⟩: ∃R,R=sk bE s c id c.over:=⟨_,rfl⟩
 rw[←a];refine aX.over c.over (fun k (b:List aa)=>[(13,iN k)]) (fun _ b=>b) (fun l _=>sk bE s c id l) R ([]++J) n aA aA rfl a (fun k b x hg q j p i=> ?_) (fun b j i=> ?_)
 ·have ca:=BF s x g;rw[sk,BL,cF]at i;clear a
  repeat' first|refine ak (fun _=> ?_) fun _=> ?_|refine bb (ga @j (ga @hg (ga @p (ga @ef (ga @bJ @wj))))) (ga @qt (ga @ca (ga @BG @BC))) ?_|exact ba (ga @j (ga @hg (ga @p (ga @ef (ga @bJ @wj))))) (ga @qt (ga @ca (ga @BG @BC)))|fail
  all_goals(clear ca;simp_all)
 ·rw[sk]at i;refine aw @j trivial ?_;rw[i]
structure pn(l:List af):Prop where
 len:l.length≤9223372036854775807
 over: ∀c∈l,c.over.length≤9223372036854775807
theorem Ke(s:aP)(p:b9)(id:Dg)(f:iC s)(d:pn p.changes):aE Tryz.prog 52 [.sl 37 (s.map b8),.agg (bk p),.agg (aq id)] (dI (mI bE s id p.changes)):=by
 refine aI (F:=B0) Tx (by simp[B0]) ?_;simp only[B0];refine aw trivial trivial ?_;refine aX.over p.changes (fun k (_:Unit)=>[(7,iN k)]) (fun _ _=>[]) (fun l _=>mI bE s id l) (mI bE s id p.changes) () d.len aA aA rfl rfl (fun k b x hg g c e a=> ?_) (fun b c a=> ?_)
 ·have ca:=Vm s x id f (d.over x (bT hg));rw[mI,cF]at a
  repeat' first|refine ak (fun _=> ?_) fun _=> ?_|refine bb (ga @c (ga @hg @e)) @ca ?_|exact ba (ga @c (ga @hg @e)) @ca|fail
  all_goals(clear ca;simp_all)
 ·rw[mI]at a;refine aw @c trivial ?_;rw[a]
theorem oJ{d:Nat}{a:aZ}(h:a.size≤65536):eW (d+1) (dp a):= .inl ⟨rfl,rfl,h⟩
theorem rm{d:Nat}{l:List Sx}(h: ∀x∈l,eW d x):eW (d+1) (cp l):= .inr ⟨rfl,rfl,h⟩
theorem GZ(n:Int):(dec n).size≤21:=by
 unfold dec;split
 ·rw[p8];have:=v8 19 (-n).toNat;simp;omega
 ·rw[p8];have:=v8 19 n.toNat;omega
theorem vt{d:Nat}(n:Int):eW (d+1) (cd n):=by
 unfold cd;split
 ·exact .inl ⟨rfl,rfl,by decide⟩
 ·exact oJ (by have:=GZ n;omega)
theorem Oo(d:Dg):(xP d).size=32:=by unfold xP;rw[p8,aL,d.len]
theorem HK{d:Nat}(x:Dg):eW (d+1) (fO x):=by
 unfold fO;split
 ·exact oJ (by decide)
 ·exact oJ (by rw[Oo];decide)
theorem yh{d:Nat}(x:ar):eW (d+2) (bD x):=rm fun y a=>by
 simp only[bY,List.not_mem_nil,or_false]at a;rcases a with rfl|rfl
 ·exact HK _
 ·exact vt _
theorem Pk{d:Nat}(l:List ar):eW (d+3) (eF l):=rm fun y a=>by
 obtain⟨x,_,rfl⟩:=cy.1 a;exact yh x
structure CB(c:af):Prop where
 name:c.kind=2→c.name.size≤65536
 data:c.data.size≤65536
 line:c.kind=5→ ∀s∈c.lines,ByteArray.size s≤65536
theorem Pj{d:Nat}{c:af}(h:CB c):eW (d+4) (bW c):=rm fun y a=>by
 simp only[fL]at a;rcases a with((a|a)|a)|a
 ·simp at a;subst a;exact vt _
 ·split at a
  ·simp at a;subst a;exact yh _
  ·cases a
 ·split at a
  ·simp at a;subst a;exact vt _
  split at a
  ·rename_i b;simp at a;rcases a with rfl|rfl
   ·exact yh _
   ·exact oJ (h.name b)
  split at a
  ·simp at a;subst a;exact vt _
  split at a
  ·simp at a;subst a;exact oJ h.data
  split at a
  ·simp at a;rcases a with rfl|rfl<;>exact yh _
  ·cases a
 ·split at a
  ·rename_i e;simp at a;subst a;refine rm fun z g=> ?_;obtain⟨s,f,rfl⟩:=cy.1 g;exact oJ (h.line e s f)
  split at a
  ·cases a
  ·simp at a;subst a;exact Pk _
theorem Pm{p:b9}(ha:p.author.size≤65536)(hm:p.message.size≤65536)(hc: ∀c∈p.changes,CB c):eW 6 (kn p):=rm fun y e=>by
 simp only[bY,List.not_mem_nil,or_false]at e;rcases e with rfl|rfl|rfl|rfl|rfl|rfl
 ·exact oJ (by decide)
 ·exact oJ ha
 ·exact oJ hm
 ·exact vt _
 ·refine rm fun z b=> ?_;obtain⟨d,_,rfl⟩:=cy.1 b;exact HK d
 ·refine rm fun z b=> ?_;obtain⟨c,a,rfl⟩:=cy.1 b;exact Pj (hc c a)
theorem oQ(d:Nat)(a:aZ):bG d (dp a)≤1:=by
 cases d with
 |zero=>exact fM _
 |succ d=>exact bh _
theorem sf(d:Nat)(l:List Sx):bG d (cp l)≤1+(l.map (bG (d-1))).sum:=by
 cases d with
 |zero=>exact fM _
 |succ d=>exact bh _
theorem vH(d:Nat)(n:Int):bG d (cd n)≤1:=by
 unfold cd;split
 ·exact oQ d ⟨#[]⟩
 ·exact oQ d _
theorem IC(d:Nat)(x:Dg):bG d (fO x)≤1:=by
 unfold fO;split<;>exact oQ d _
theorem vI(d:Nat)(x:ar):bG d (bD x)≤3:=by
 have h:=sf d [fO x.p,cd x.n];have a:=IC (d-1) x.p;have b:=vH (d-1) x.n;simp only[bO,eg,qR,List.sum_nil]at h;unfold bD;omega
theorem wC{α:Type}(f:α→Nat)(b:Nat): ∀(l:List α),(∀x∈l,f x≤b)→(l.map f).sum≤b*l.length
 |[],_=>by simp
 |x::l,h=>by
  have:=wC f b l fun y a=>h y (jS _ a);have:=h x (by simp);simp only[bO,qR,aU];rw[Nat.mul_add];omega
theorem Qz(d:Nat)(l:List ar):bG d (eF l)≤1+3*l.length:=by
 have h:=sf d (l.map bD);have a:=wC (bG (d-1)) 3 (l.map bD) fun x b=>by
  obtain⟨y,_,rfl⟩:=cy.1 b;exact vI _ y
 rw[aL]at a;unfold eF;omega
theorem Qy(d:Nat)(c:af):bG d (bW c)≤20+c.lines.length+3*c.over.length:=by
 unfold bW;refine eS (sf d _) ?_;rw[eX,eX,eX,List.sum_append,List.sum_append,List.sum_append];have e:(([cd c.kind]:List Sx).map (bG (d-1))).sum≤1:=by
  have:=vH (d-1) c.kind;simpa using this
 have a2:((if 2≤c.kind∧c.kind≤6 then[bD c.file]else[]).map (bG (d-1))).sum≤3:=by
  split
  ·have:=vI (d-1) c.file;simpa using this
  ·simp
 have a3:((if c.kind=1 then[cd c.type]else if c.kind=2 then[bD c.parent,dp c.name]else if c.kind=3 then[cd c.mode]else if c.kind=4 then[dp c.data]else if c.kind=5∨c.kind=6 then[bD c.after,bD c.before]else[]).map (bG (d-1))).sum≤6:=by
  have f:=vH (d-1) c.type;have g:=vI (d-1) c.parent;have i:=oQ (d-1) c.name;have j:=vH (d-1) c.mode;have k:=oQ (d-1) c.data;have l:=vI (d-1) c.after;have m:=vI (d-1) c.before
  repeat' split
  all_goals(simp only[bO,eg,qR,List.sum_nil];omega)
 have a4:((if c.kind=5 then[cp (c.lines.map dp)]else if c.kind=1 then[]else[eF c.over]).map (bG (d-1))).sum≤1+c.lines.length+3*c.over.length:=by
  split
  ·have h:=sf (d-1) (c.lines.map dp);have a:=wC (bG (d-1-1)) 1 (c.lines.map dp) fun x b=>by
    obtain⟨y,_,rfl⟩:=cy.1 b;exact oQ _ y
   rw[aL]at a;simp only[bO,eg,qR,List.sum_nil];omega
  split
  ·simp
  ·have h:=Qz (d-1) c.over;simp only[bO,eg,qR,List.sum_nil];omega
 omega
theorem QA(p:b9)(b:Nat)(hb: ∀c∈p.changes,20+c.lines.length+3*c.over.length≤b):bG 6 (kn p)≤10+p.deps.length+b*p.changes.length:=by
 unfold kn;refine eS (sf 6 _) ?_;have g:=oQ 5 (str [113,117,105,108,116,49]);have h:=oQ 5 p.author;have i:=oQ 5 p.message;have j:=vH 5 p.time;have k:=sf 5 (p.deps.map fO);have l:=sf 5 (p.changes.map bW);have d:=wC (bG 4) 1 (p.deps.map fO) fun x a=>by
  obtain⟨y,_,rfl⟩:=cy.1 a;exact IC _ y
 have e:=wC (bG 4) b (p.changes.map bW) fun x a=>by
  obtain⟨y,f,rfl⟩:=cy.1 a;exact eS (Qy _ y) (hb y f)
 rw[aL]at d e;simp only[bO,eg,qR,List.sum_nil];simp only[Nat.reduceSub]at*;omega
theorem He: ∀(d:Nat) (x:Sx),eW d x→(fE d x).size≤100000*bG d x
 |0,_,h=>h.elim
 |d+1,.mk b a l,h=>by
  rcases h with⟨rfl,rfl,ha⟩|⟨rfl,rfl,hl⟩
  ·show(dec a.size++str [58]++a).size≤100000*1;rw[jO,jO,p8];have:=GZ a.size;simp;omega
  ·show(l.foldl (fun s x=>s++fE d x) (str [40])++str [41]).size≤100000*(1+(l.map (bG d)).sum);rw[jO,Dj,p8,p8];have: ∀l:List Sx,(∀x∈l,eW d x)→(l.map fun x=>(fE d x).size).sum≤100000*(l.map (bG d)).sum:=by
    intro l
    induction l with
    |nil=>intro _;simp
    |cons x l e=>
     intro h;have f:=He d x (h x (by simp));have g:=e fun y c=>h y (jS _ c);simp only[bO,qR];rw[Nat.mul_add];omega
   have:=this l hl;simp only[aU,aY];rw[Nat.mul_add];omega
end Go.Proofs.Q
