/- Lemmas. -/
import Derived.Test.YtellfinifjmloaaGreatDoorPAQ
set_option linter.unusedVariables false
set_option linter.unusedSimpArgs false
namespace Go.Proofs.Q
open Go Go.Bb Go.Proofs.Lg
open Go.Ab (D)
def nx(c:aC):Bool:=
 (decide (c.kind=1)||decide (c.type=0))&&((decide (2≤c.kind∧c.kind≤6)||decide (c.file= .zero))&&((decide (c.kind=2)||(decide (c.parent= .zero)&&decide (c.name=⟨#[]⟩)))&&((decide (c.kind=3)||decide (c.mode=0))&&((decide (c.kind=4)||decide (c.data=⟨#[]⟩))&&((decide (c.kind=5∨c.kind=6)||(decide (c.after= .zero)&&decide (c.before= .zero)))&&((decide (c.kind=5)||decide ((c.lines.length:Int)=0))&&(decide (c.kind≠1∧c.kind≠5)||decide ((c.over.length:Int)=0))))))))
theorem yy(c:aC)(a:1≤c.kind)(b:c.kind≤7):nx c=pb (lr c):=by
 obtain h|h|h|h|h|h|h:c.kind=1∨c.kind=2∨c.kind=3∨c.kind=4∨c.kind=5∨c.kind=6∨c.kind=7:=by omega
 all_goals
  rw[mJ];simp only[nx,pb,lr,h,er,jf,decide_eq_true_eq,Int.reduceEq,Int.reduceLE,Int.reduceNe,true_and,and_true,true_or,or_true,false_or,or_false,and_self,if_true,if_false,ne_eq,not_true_eq_false,not_false_eq_true,b6,Int.natCast_zero,Int.reduceNeg,and_false,false_and]
  try(constructor<;>(intro d;simp_all))
def wZ(c:aC):Int:=
 if c.kind<1∨7<c.kind then 8
 else if nx c=false then 1
 else if c.kind=1∧(c.type<1∨4<c.type)then 8
 else if c.kind=2∧isName c.name=false then 5
 else if c.mode<0∨511<c.mode then 2
 else if 65536<(c.data.size:Int)then 4
 else if c.kind=5∧(c.lines.length:Int)=0 then 1
 else if 2000<(c.lines.length:Int)then 4
 else if lg c.lines≠0 then lg c.lines
 else if c.kind=7∧(c.over.length:Int)=0 then 1
 else if 400<(c.over.length:Int)then 4
 else if gG c.over=false then 9
 else 0
theorem JW(c:aC):wZ c=ft c:=by
 unfold wZ ft;by_cases d:c.kind<1∨7<c.kind
 ·rw[if_pos d,if_pos d]
 rw[if_neg d,if_neg d,yy c a8 a8];by_cases a:pb (lr c)=false
 ·rw[if_pos a,if_pos a]
 rw[if_neg a,if_neg a];have f:pb (lr c)=true:=by simpa using a
 rw[←yy c a8 a8]at f;simp only[nx,er,jf,decide_eq_true_eq]at f;obtain⟨-,-,-,o,m,-,n,l⟩:=f;have j:(c.kind=3∧(c.mode<0∨511<c.mode))↔(c.mode<0∨511<c.mode):=by omega
 simp only[j];by_cases e:c.kind=5
 ·have b:c.over=[]:=fK a8;have ha:gG c.over=true:=by rw[b];rfl
  have g: ¬(c.kind=7∧(c.over.length:Int)=0):=by omega
  have h: ¬(400<(c.over.length:Int)):=by rw[b];simp
  rw[if_neg g,if_neg h,ha,if_neg (c:=true=false) (by simp),if_pos e];unfold nZ;simp only[e,true_and]
  repeat' split
  all_goals(first|rfl|omega|simp_all)
 ·have i:c.lines=[]:=fK a8;have g: ¬(c.kind=5∧(c.lines.length:Int)=0):=by omega
  have h: ¬(2000<(c.lines.length:Int)):=by rw[i];simp
  have k:lg c.lines=0:=by rw[i];rfl
  rw[if_neg g,if_neg h,k,if_neg (c:=(0:Int)≠0) (by simp),if_neg e]
def xM(k:Int):Int:=if k=2 then 2 else if k=3 then 3 else if k=4 then 4 else if k=6 then 6 else 0
def fa(c:aC):List (af×Nat):=
 (if c.kind=2∨c.kind=3 then[(c.file,2)]else if c.kind=4 then[(c.file,3)]else if c.kind=5∨c.kind=6 then[(c.file,4)]else[])++
 (if c.kind=2∧c.parent≠⟨.zero,-1⟩then[(c.parent,5)]else[])++
 (if c.kind=5∨c.kind=6 then[(c.after,6),(c.before,6)]else[])++c.over.map fun x=>(x,7)
def nc(c:aC)(t:Nat)(a:au):Bool:=
 if t=2 then decide (a.kind=1)
 else if t=3 then decide (a.kind=1)&&(decide (a.type=2)||decide (a.type=3))
 else if t=4 then decide (a.kind=1)&&decide (a.type=1)
 else if t=5 then decide (a.kind=1)&&decide (a.type=4)
 else if t=6 then decide (a.id=c.file)||(decide (a.kind=5)&&decide (a.file=c.file))
 else decide (c.kind=7)||(decide (a.kind=xM c.kind)&&decide (a.file=c.file))
def ij(c:aC)(own:List au)(x:af)(t:Nat):Int:=
 if x.n<0 then 7 else if isZero x.p=true∧(own.length:Int)≤x.n then 7 else if 100000≤x.n then 7
 else if isZero x.p=true∧nc c t ((own[x.n.toNat]?).getD .zero)=false then 8 else 0
def gg(c:aC)(own:List au):List (af×Nat)→Int
 |[]=>0
 |r::l=>if ij c own r.1 r.2≠0 then ij c own r.1 r.2 else gg c own l
def vg(c:aC):Int:=if c.kind=2∧c.parent=c.file then 20 else if(c.kind=6∧c.after=c.before)∨(c.kind=5∧c.after=c.before∧c.after≠c.file)then 1 else 0
def rM(c:aC)(own:List au):Int:=bQ (gg c own (fa c)) (vg c)
def qI(own:List au):Prop:= ∀(i:Nat) (a:au),own[i]?=some a→a.id=dM i
theorem DY(c:aC)(own:List au): ∀(a b:List (af×Nat)),gg c own (a++b)=bQ (gg c own a) (gg c own b)
 |[],b=>by simp[gg,bQ]
 |r::a,b=>by
  rw[mO,gg,gg,DY c own a b];split
  ·simp[bQ, *]
  ·rfl
theorem xL(a:Int):bQ 0 a=a:=by simp[bQ]
theorem ru(a b c:Int):bQ (bQ a b) c=bQ a (bQ b c):=by
 by_cases h:a=0
 ·subst h;simp[bQ]
 ·simp[bQ,h]
theorem E0{c:aC}{own:List au}(h:own.length≤100000)(x:af)(t:Nat)(f:Bool)(g:isZero x.p=true→0≤x.n→x.n<own.length→f=nc c t ((own[x.n.toNat]?).getD .zero)):ij c own x t=jL x own f:=by
 unfold ij jL allowed;by_cases d:isZero x.p=true
 ·simp only[d,if_true,true_and,s5];by_cases a:x.n<0
  ·rw[if_pos a,if_pos (by simp;omega)]
  rw[if_neg a];by_cases b:(own.length:Int)≤x.n
  ·rw[if_pos b,if_pos (by simp;omega)]
  rw[if_neg b,if_neg a8,if_neg (c:=(decide (0≤x.n)&&decide (x.n< ↑own.length))=false) (by simp;omega),←g d a8 a8];cases f<;>simp
 ·have e:isZero x.p=false:=by simpa using d
  simp only[e,jU,if_false,false_and,Bool.false_and];by_cases a:x.n<0
  ·rw[if_pos a,if_pos (by simp;omega)]
  rw[if_neg a];by_cases b:100000≤x.n
  ·rw[if_pos b,if_pos (by simp;omega)]
  ·rw[if_neg b,if_neg (by simp;omega)]
theorem A0{own:List au}{x:af}(c:isZero x.p=true)(a:0≤x.n)(b:x.n<own.length):j6 own x=(own[x.n.toNat]?).getD .zero:=if_pos ⟨c,a,b⟩
theorem MR{c:aC}{own:List au}(b:own.length≤100000)(hk:c.kind=2∨c.kind=3∨c.kind=4∨c.kind=6∨c.kind=7): ∀l:List af,gg c own (l.map fun x=>(x,7))=kD c own l
 |[]=>rfl
 |x::l=>by
  have a:ij c own x 7=jL x own (pf c.kind c.file (j6 own x)):=E0 b x 7 _ fun e d a=>by
   rw[A0 e d a];unfold pf nc vW xM;obtain h|h|h|h|h:=hk<;>simp[h]
  rw[bV,gg,kD,MR b hk l];simp only[a]
theorem a4M{x:af}(a:isZero x.p=true)(b:0≤x.n):x=dM x.n.toNat:=by
 obtain⟨p,n⟩:=x;simp only[isZero,decide_eq_true_eq]at a;subst a;simp only[dM]at*;congr 1;omega
theorem a2B{c:aC}{own:List au}(i:own.length≤100000)(w:qI own)(e:1≤c.kind)(z:c.kind≤7)(m:c.kind=1∨c.kind=5→c.over=[]):rM c own=gO c own:=by
 have q:gg c own (if c.kind=2∨c.kind=3 then[(c.file,2)]else if c.kind=4 then[(c.file,3)]else if c.kind=5∨c.kind=6 then[(c.file,4)]else[])=rK c own:=by
  unfold rK;have b: ∀t,(∀a,fE c.kind a=nc c t a)→gg c own [(c.file,t)]=jL c.file own (fE c.kind (j6 own c.file)):=fun t y=>by
   have:=E0 (c:=c) i c.file t (fE c.kind (j6 own c.file)) fun f d e=>by rw[A0 f d e,y]
   simp only[gg,this];split<;>simp_all
  by_cases k:c.kind=2∨c.kind=3
  ·rw[if_pos k,if_pos a8];refine b 2 fun a=> ?_;simp only[fE,nc,nw];obtain h|h:=k<;>simp[h]
  rw[if_neg k];by_cases o:c.kind=4
  ·rw[if_pos o,if_pos a8];refine b 3 fun a=> ?_;simp only[fE,nc,nw];simp[o]
  rw[if_neg o];by_cases g:c.kind=5∨c.kind=6
  ·rw[if_pos g,if_pos a8];refine b 4 fun a=> ?_;simp only[fE,nc,nw];obtain h|h:=g<;>simp[h]
  rw[if_neg g,if_neg a8];rfl
 have r:gg c own (if c.kind=2∧c.parent≠⟨.zero,-1⟩then[(c.parent,5)]else[])=vG c own:=by
  unfold vG;split
  ·rename_i k;have:=E0 (c:=c) i c.parent 5 (decide ((j6 own c.parent).kind=1)&&decide ((j6 own c.parent).type=4)) fun f d e=>by rw[A0 f d e];rfl
   simp only[gg,this];split<;>simp_all
  ·rfl
 have s:gg c own (if c.kind=5∨c.kind=6 then[(c.after,6),(c.before,6)]else[])=tN c own:=by
  unfold tN;have b: ∀x:af,ij c own x 6=zQ c own x:=fun x=>E0 i x 6 _ fun f d e=>by
   rw[A0 f d e];have l:x.n.toNat<own.length:=by omega
   have hg:=bN l;have j:=w _ _ hg;rw[hg,ek];unfold nc nT;simp only[j,←a4M f d];rfl
  by_cases k:c.kind=5∨c.kind=6
  ·rw[if_pos k,if_pos (by simp[nw];exact k)];simp only[gg,qY,b]
  ·rw[if_neg k,if_neg (by simp[nw];omega)];rfl
 have u:gg c own (c.over.map fun x=>(x,7))=kD c own c.over:=by
  by_cases k:c.kind=1∨c.kind=5
  ·rw[m k];rfl
  ·exact MR i a8 _
 have v:vg c=xo c:=by
  unfold vg xo nw;by_cases k:c.kind=2∧c.parent=c.file
  ·rw[if_pos k,if_pos k]
  rw[if_neg k,if_neg k];by_cases g:c.kind=5
  ·simp[g]
  ·by_cases p:c.kind=6
   ·simp[p]
   ·simp[g,p]
 unfold rM gO fa;rw[DY,DY,DY,q,r,s,u,v,ru,ru,ru]
def DZ(c:aC):List af:=(fa c).map (·.1)
theorem a2y{c:aC}(h:ft c=0)(d:Dg):(∃y∈DZ c,isZero y.p=false∧y.p=d)↔ ∃y∈kJ c,isZero y.p=false∧y.p=d:=by
 obtain⟨⟨f,z⟩,n,_⟩:=pd h;rw[←yy c f z]at n;simp only[nx,er,jf,decide_eq_true_eq]at n;obtain⟨-,B,s,-,-,A,-,C⟩:=n;have o:isZero af.zero.p=true:=by simp[isZero,af.zero]
 have q:isZero (⟨.zero,-1⟩:af).p=true:=by simp[isZero]
 have b: ∀y:af,isZero y.p=false→(y∈DZ c↔y∈kJ c):=fun y j=>by
  simp only[DZ,fa,kJ,fp,nJ,eJ,bM];have a:y≠af.zero:=fun e=>by rw[e,o]at j;cases j
  have i:y≠⟨.zero,-1⟩:=fun e=>by rw[e,q]at j;cases j
  have w:(y∈List.map ((fun x:af×Nat=>x.1)∘fun x=>(x,7)) c.over)↔y∈c.over:=by
   have:((fun x:af×Nat=>x.1)∘fun x=>(x,7))=(id:af→af):=rfl;rw[this,List.map_id]
  rw[w];have t:(y∈(if c.kind=2∨c.kind=3 then[(c.file,2)]else if c.kind=4 then[(c.file,3)]else if c.kind=5∨c.kind=6 then[(c.file,4)]else[]).map (fun x:af×Nat=>x.1))↔y=c.file:=by
   by_cases k:2≤c.kind∧c.kind≤6
   ·repeat' split
    all_goals(first|simp;done|omega)
   ·rw[if_neg a8,if_neg a8,if_neg a8];have:c.file= .zero:=by simpa[k]using B
    rw[this];simp[a]
  have u:(y∈(if c.kind=2∧c.parent≠⟨.zero,-1⟩then[(c.parent,5)]else[]).map (fun x:af×Nat=>x.1))↔y=c.parent:=by
   by_cases k:c.kind=2
   ·by_cases r:c.parent=⟨.zero,-1⟩
    ·rw[if_neg (fun m=>m.2 r),r];simp[i]
    ·rw[if_pos ⟨k,r⟩];simp
   ·rw[if_neg (fun m=>k m.1)];have:c.parent= .zero:=by simp[k]at s;exact s.1
    rw[this];simp[a]
  have v:(y∈(if c.kind=5∨c.kind=6 then[(c.after,6),(c.before,6)]else[]).map (fun x:af×Nat=>x.1))↔y=c.after∨y=c.before:=by
   by_cases k:c.kind=5∨c.kind=6
   ·rw[if_pos k];simp
   ·rw[if_neg k];have:c.after= .zero∧c.before= .zero:=by simpa[k]using A
    rw[this.1,this.2];simp[a]
  rw[t,u,v];constructor
  ·rintro(((h|h)|(h|h))|h)<;>simp[h]
  ·rintro(h|h|h|h|h)<;>simp[h]
 constructor
 ·rintro⟨y,f,g,l⟩;exact⟨y,(b y g).1 f,g,l⟩
 ·rintro⟨y,f,g,l⟩;exact⟨y,(b y g).2 f,g,l⟩
end Go.Proofs.Q
namespace Go.Proofs.Q
open Go Go.Ab Go.Bb
def Di:CF:=⟨9, (kq [kM 4 (ku 0)] (kq [om 5 0,om 6 1,o0 7 (.un .neg (.t 6)),o6 8 300 [.t 5,.t 7],om 4 8] .ret)),[.tmp 4]⟩
theorem YH:aN Tryz.prog [] 276=some Di.erase:=by kernel_rfl
def Av:CF:=⟨17, (kq [kM 4 (ku 0)] (kq [om 6 1,o0 7 (.cnv .u64 (.t 6)),o0 8 (.bin .and (.t 7) (.c (.d (.sc (.int .u64 31))))),om 5 8] (kq [om 9 0,om 10 5,o4 11 .shl 9 10,om 12 0,om 13 5,o0 14 (.bin .sub (.c (.d (.sc (.int .u64 32)))) (.t 13)),o4 15 .shr 12 14,o4 16 .or 11 15,om 4 16] .ret))),[.tmp 4]⟩
theorem We:aN Tryz.prog [] 300=some Av.erase:=by kernel_rfl
def Dh:CF:=⟨2, (kq [kB 0 z8] (kq [o0 1 (.bld z8 [(0,1,(ku 1779033703)),(1,1,(ku 3144134277)),(2,1,(ku 1013904242)),(3,1,(ku 2773480762)),(4,1,(ku 1359893119)),(5,1,(ku 2600822924)),(6,1,(ku 528734635)),(7,1,(ku 1541459225))]),o8 8 0 1] .ret)),[.cell 0 (some 8)]⟩
theorem YG:aN Tryz.prog [300001] 214=some Dh.erase:=by kernel_rfl
def Df:CF:=⟨2, (kq [kB 0 z64] (kq [o0 1 (.bld z64 [(0,1,(ku 1116352408)),(1,1,(ku 1899447441)),(2,1,(ku 3049323471)),(3,1,(ku 3921009573)),(4,1,(ku 961987163)),(5,1,(ku 1508970993)),(6,1,(ku 2453635748)),(7,1,(ku 2870763221)),(8,1,(ku 3624381080)),(9,1,(ku 310598401)),(10,1,(ku 607225278)),(11,1,(ku 1426881987)),(12,1,(ku 1925078388)),(13,1,(ku 2162078206)),(14,1,(ku 2614888103)),(15,1,(ku 3248222580)),(16,1,(ku 3835390401)),(17,1,(ku 4022224774)),(18,1,(ku 264347078)),(19,1,(ku 604807628)),(20,1,(ku 770255983)),(21,1,(ku 1249150122)),(22,1,(ku 1555081692)),(23,1,(ku 1996064986)),(24,1,(ku 2554220882)),(25,1,(ku 2821834349)),(26,1,(ku 2952996808)),(27,1,(ku 3210313671)),(28,1,(ku 3336571891)),(29,1,(ku 3584528711)),(30,1,(ku 113926993)),(31,1,(ku 338241895)),(32,1,(ku 666307205)),(33,1,(ku 773529912)),(34,1,(ku 1294757372)),(35,1,(ku 1396182291)),(36,1,(ku 1695183700)),(37,1,(ku 1986661051)),(38,1,(ku 2177026350)),(39,1,(ku 2456956037)),(40,1,(ku 2730485921)),(41,1,(ku 2820302411)),(42,1,(ku 3259730800)),(43,1,(ku 3345764771)),(44,1,(ku 3516065817)),(45,1,(ku 3600352804)),(46,1,(ku 4094571909)),(47,1,(ku 275423344)),(48,1,(ku 430227734)),(49,1,(ku 506948616)),(50,1,(ku 659060556)),(51,1,(ku 883997877)),(52,1,(ku 958139571)),(53,1,(ku 1322822218)),(54,1,(ku 1537002063)),(55,1,(ku 1747873779)),(56,1,(ku 1955562222)),(57,1,(ku 2024104815)),(58,1,(ku 2227730452)),(59,1,(ku 2361852424)),(60,1,(ku 2428436474)),(61,1,(ku 2756734187)),(62,1,(ku 3204031479)),(63,1,(ku 3329325298))]),o8 64 0 1] .ret)),[.cell 0 (some 64)]⟩
theorem YF:aN Tryz.prog [300001] 275=some Df.erase:=by kernel_rfl
def Dc:CF:=⟨4, (kq [ox 1 0,kM 2 (.c (.d (.sc .nilFunc)))] (kq [o0 3 (.mkf 273 [] [.t 1]),om 2 3] .ret)),[.tmp 2]⟩
theorem YC:aN Tryz.prog [100001] 215=some Dc.erase:=by kernel_rfl
def Dd:CF:=⟨67, (kq [o3 8 1,o9 9 1 8,o5 10 .quo 9 64,o5 11 .mul 10 64,om 3 11] (.seq (kq [o7 4 0] (.block 0 (.loop (.trim [4,1,0,3] (.seq (kq [om 12 4,om 13 3,o4 14 .lss 12 13] (kd 14 .skip (.exit 0))) (.seq (.block 1 (kq [om 17 0,o3 18 1,om 19 4,om 20 4,o5 21 .add 20 64,o0 22 (.sls (.t 18) (some (.t 19)) (some (.t 21))),o0 23 (.call (.val (.t 17)) [.t 22]),o0 24 (.not (.t 23))] (kd 24 .ret .skip))) (fo [om 15 4,o5 16 .add 15 64,om 4 16]))))))) (kq [o3 25 1,om 26 3,o0 27 (.sls (.t 25) (some (.t 26)) none),o0 28 (.s2o 5 (.t 27)),o0 29 (.bsf 1 1 [(.d (.sc (.int .u8 0)))] [(0,1,(.c (.d (.sc (.int .u8 128)))))]),o0 30 (.app false 5 1 1 (.t 28) (.t 29)),om 5 30] (.seq (.block 2 (.loop (.trim [5,1,0] (.seq (kq [om 31 5,o9 32 0 31,o5 33 .rem 32 64,o5 34 .neq 33 56] (kd 34 .skip (.exit 2))) (.block 3 (fo [om 35 5,o0 36 (.bsf 1 1 [(.d (.sc (.int .u8 0)))] [(0,1,(.c (.d (.sc (.int .u8 0)))))]),o0 37 (.app false 5 1 1 (.t 35) (.t 36)),om 5 37])))))) (.seq (kq [o7 6 56] (.block 4 (.loop (.trim [6,1,5,0] (.seq (kq [om 38 6,o5 39 .geq 38 0] (kd 39 .skip (.exit 4))) (.seq (.block 5 (fo [om 42 5,o3 43 1,o9 44 1 43,o0 45 (.cnv .u64 (.t 44)),o0 46 (.bin .mul (.t 45) (.c (.d (.sc (.int .u64 8))))),om 47 6,o4 48 .shr 46 47,o0 49 (.cnv .u8 (.t 48)),o0 50 (.bsf 1 1 [(.d (.sc (.int .u8 0)))] [(0,1,(.t 49))]),o0 51 (.app false 5 1 1 (.t 42) (.t 50)),om 5 51])) (fo [om 40 6,o5 41 .sub 40 8,om 6 41])))))))
 (kq [o7 7 0] (.block 6 (.loop (.trim [7,5,0] (.seq (kq [om 52 7,om 53 5,o9 54 0 53,o4 55 .lss 52 54] (kd 55 .skip (.exit 6))) (.seq (.block 7 (kq [om 58 0,om 59 5,om 60 7,om 61 7,o5 62 .add 61 64,o0 63 (.slc 1 (.t 59) (some (.t 60)) (some (.t 62))),o0 64 (.b2s (.t 63)),o0 65 (.call (.val (.t 58)) [.t 64]),o0 66 (.not (.t 65))] (kd 66 .ret .skip))) (fo [om 56 7,o5 57 .add 56 64,om 7 57])))))))))))),[]⟩
theorem YD:aN Tryz.prog [100029,100036,100050,28] 273=some Dd.erase:=by kernel_rfl
def Dj:CF:=⟨76, (kq [kB 2 z64] (kq [kB 3 z64] (.seq (kq [o7 9 0] (.block 0 (.loop (.trim [9,3,0,2] (kq [o5 10 .lss 9 64] (.seq (kd 10 .skip (.exit 0)) (.seq (.block 1 (kq [om 11 9,om 4 11] (.seq (kq [om 12 4,o5 13 .lss 12 16] (kd 13 (.seq (kq [om 14 0,om 15 4,o0 16 (.bin .mul (xi 4) (.t 15)),om 17 4,o0 18 (.bin .mul (xi 4) (.t 17)),o5 19 .add 18 4,o0 20 (.sls (.t 14) (some (.t 16)) (some (.t 19))),o0 21 (.s2b (.t 20)),o9 22 0 21,o7 23 0] (.block 2 (.loop (.trim [23,3,4,21,9,0,2,22] (kq [o4 24 .lss 23 22] (.seq (kd 24 .skip (.exit 2)) (.seq (.block 3 (kq [oi 25 1 21 23,o3 26 25,om 6 26] (fo [om 27 4,om 28 4,o0 29 (.iap 64 1 (.t 3) (.t 28)),o3 30 29,o0 31 (.bin .shl (.t 30) (.c (.d (.sc (.int .u64 8))))),om 32 6,o0 33 (.cnv .u32 (.t 32)),o4 34 .or 31 33,o0 35 (.iap 64 1 (.t 3) (.t 27)),o8 1 35 34]))) (fo [o5 36 .add 23 1,om 23 36])))))))) (.exit 1)) .skip))
 (.seq (.ops true [0,1,3,7,0,16,48,112,15,511] [om 37 4,o5 38 .sub 37 15,o0 39 (.iap 64 1 (.t 3) (.t 38)),o3 40 39,om 41 4,o5 42 .sub 41 2,o0 43 (.iap 64 1 (.t 3) (.t 42)),o3 44 43,om 7 40,om 8 44]) (.ops true [0,0,2,0,14,30,0,64,254,0,512,1536,3584,8190,0,16414,0,114718,245790,0,524288,2080798,4194302,0,8388608,25165824,58720256,134217726,268435455,536870911] [om 45 4,om 46 8,o6 47 276 [.t 46,(xi 17)],om 48 8,o6 49 276 [.t 48,(xi 19)],o4 50 .xor 47 49,om 51 8,o0 52 (.bin .shr (.t 51) (.c (.d (.sc (.int .u64 10))))),o4 53 .xor 50 52,om 54 4,o5 55 .sub 54 7,o0 56 (.iap 64 1 (.t 3) (.t 55)),o3 57 56,o4 58 .add 53 57,om 59 7,o6 60 276 [.t 59,(xi 7)],om 61 7,o6 62 276 [.t 61,(xi 18)],o4 63 .xor 60 62,om 64 7,o0 65 (.bin .shr (.t 64) (.c (.d (.sc (.int .u64 3))))),o4 66 .xor 63 65,o4 67 .add 58 66,om 68 4,o5 69 .sub 68 16,o0 70 (.iap 64 1 (.t 3) (.t 69)),o3 71 70,o4 72 .add 67 71,o0 73 (.iap 64 1 (.t 3) (.t 45)),o8 1 73 72]))))) (fo [o5 74 .add 9 1,om 9 74])))))))) (kq [o2 75 64 3,o8 64 2 75] .ret)))),[.cell 2 (some 64)]⟩
theorem YI:aN Tryz.prog [] 274=some Dj.erase:=by kernel_rfl
def De:CF:=⟨123, (kq [o0 2 (.box (.t 0)),kB 4 z8] (kq [om 20 1,o6 21 274 [.t 20],o6 22 275 [],kB 5 z64,kB 6 z64,o8 64 5 21,o8 64 6 22] (.seq (.ops true [0,1,0,4,0,16,0,64,0,256,0,1024,0,4096,0,16384,3,65551,196671,459007,984063,2035711,4145151,8388607] [o0 23 (.iap 8 1 (.t 2) (xi 0)),o3 24 23,o0 25 (.iap 8 1 (.t 2) (xi 1)),o3 26 25,o0 27 (.iap 8 1 (.t 2) (xi 2)),o3 28 27,o0 29 (.iap 8 1 (.t 2) (xi 3)),o3 30 29,o0 31 (.iap 8 1 (.t 2) (xi 4)),o3 32 31,o0 33 (.iap 8 1 (.t 2) (xi 5)),o3 34 33,o0 35 (.iap 8 1 (.t 2) (xi 6)),o3 36 35,o0 37 (.iap 8 1 (.t 2) (xi 7)),o3 38 37,om 7 24,om 8 26,om 9 28,om 10 30,om 11 32,om 12 34,om 13 36,om 14 38]) (.seq (kq [o7 39 0] (.block 0 (.loop (.trim [39,13,12,11,10,9,8,7,5,6,14,2,4] (kq [o5 40 .lss 39 64] (.seq (kd 40 .skip (.exit 0)) (.seq (.block 1 (kq [om 41 39,om 15 41] (.seq (.ops true [0,0,2,0,14,30,0,94,254,511,0,0,3072,0,8192,0,57344,130048,262143,0,524288,1572864,4194303,0,8388608,25165824,67108863,134217727] [om 42 14,om 43 11,o6 44 276 [.t 43,(xi 6)],om 45 11,o6 46 276 [.t 45,(xi 11)],o4 47 .xor 44 46,om 48 11,o6 49 276 [.t 48,(xi 25)],o4 50 .xor 47 49,o4 51 .add 42 50,om 52 11,om 53 12,o4 54 .and 52 53,om 55 11,o0 56 (.un .xor (.t 55)),om 57 13,o4 58 .and 56 57,o4 59 .xor 54 58,o4 60 .add 51 59,om 61 15,o0 62 (.iap 64 1 (.t 6) (.t 61)),o3 63 62,o4 64 .add 60 63,om 65 15,o0 66 (.iap 64 1 (.t 5) (.t 65)),o3 67 66,o4 68 .add 64 67,om 16 68])
 (kq [om 69 7,o6 70 276 [.t 69,(xi 2)],om 71 7,o6 72 276 [.t 71,(xi 13)],o4 73 .xor 70 72,om 74 7,o6 75 276 [.t 74,(xi 22)],o4 76 .xor 73 75,om 77 7,om 78 8,o4 79 .and 77 78,om 80 7,om 81 9,o4 82 .and 80 81,o4 83 .xor 79 82,om 84 8,om 85 9,o4 86 .and 84 85,o4 87 .xor 83 86,o4 88 .add 76 87,om 17 88] (fo [om 89 16,om 90 17,o4 91 .add 89 90,om 92 7,om 93 8,om 94 9,om 95 10,om 96 16,o4 97 .add 95 96,om 98 11,om 99 12,om 100 13,om 7 91,om 8 92,om 9 93,om 10 94,om 11 97,om 12 98,om 13 99,om 14 100]))))) (fo [o5 101 .add 39 1,om 39 101])))))))) (.seq (kq [om 102 7,om 103 8,om 104 9,om 105 10,om 106 11,om 107 12,om 108 13,om 109 14,o0 110 (.bld z8 [(0,1,(.t 102)),(1,1,(.t 103)),(2,1,(.t 104)),(3,1,(.t 105)),(4,1,(.t 106)),(5,1,(.t 107)),(6,1,(.t 108)),(7,1,(.t 109))]),o7 111 0] (.block 2 (.loop (.trim [111,2,110,4] (kq [o5 112 .lss 111 8] (.seq (kd 112 .skip (.exit 2)) (.seq (.block 3 (kq [om 113 111,o0 114 (.idx 8 1 none (.t 110) (.t 111)),om 18 113,om 19 114] (fo [om 115 18,o0 116 (.iap 8 1 (.t 2) (.t 115)),o3 117 116,om 118 19,o4 119 .add 117 118,o0 120 (.iap 8 1 (.t 2) (.t 115)),o8 1 120 119]))) (fo [o5 121 .add 111 1,om 111 121])))))))) (kq [o2 122 8 2,o8 8 4 122] .ret)))))),[.cell 4 (some 8)]⟩
theorem YE:aN Tryz.prog [300110] 216=some De.erase:=by kernel_rfl
def Db:CF:=⟨38, (kq [kB 2 ej] (kq [o6 9 214 [],kB 3 z8,o8 8 3 9] (.seq (kq [om 10 0,o6 11 215 [.t 10]] (.block 0 (.trim [11,2,3] (.rng 38 (.t 11) [12] (fo [om 4 12]) (.block 1 (fo [o2 13 8 3,om 14 4,o6 15 216 [.t 13,.t 14],o8 8 3 15])))))) (kq [kB 5 ej] (.seq (kq [o2 16 8 3,o7 17 0] (.block 2 (.loop (.trim [17,5,16,2] (kq [o5 18 .lss 17 8] (.seq (kd 18 .skip (.exit 2)) (.seq (.block 3 (kq [om 19 17,o0 20 (.idx 8 1 none (.t 16) (.t 17)),om 6 19,om 7 20] (kq [o7 21 0] (.block 4 (.loop (.trim [21,5,7,6,17,16,2] (kq [o5 22 .lss 21 4] (.seq (kd 22 .skip (.exit 4)) (.seq (.block 5 (kq [om 23 21,om 8 23] (fo [om 24 6,o0 25 (.bin .mul (xi 4) (.t 24)),om 26 8,o4 27 .add 25 26,om 28 7,om 29 8,o0 30 (.bin .mul (xi 8) (.t 29)),o0 31 (.bin .sub (xi 24) (.t 30)),o4 32 .shr 28 31,o0 33 (.cnv .u8 (.t 32)),o0 34 (.iap 32 1 (.t 5) (.t 27)),o8 1 34 33]))) (fo [o5 35 .add 21 1,om 21 35])))))))))) (fo [o5 36 .add 17 1,om 17 36])))))))) (kq [o2 37 32 5,o8 32 2 37] .ret)))))),[.cell 2 (some 32)]⟩
theorem YB:aN Tryz.prog [] 160=some Db.erase:=by kernel_rfl
end Go.Proofs.Q
