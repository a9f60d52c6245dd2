/- Lemmas. -/
import Derived.Test.YtikhfhjohjfamaaGreatDoorPAH
import Derived.Test.YtikhfhjohjfamaaGreatDoorProg
set_option linter.unusedVariables false
set_option linter.unusedSimpArgs false
set_option maxRecDepth 100000
namespace Go.Proofs.Q
open Go Go.Bb Go.Proofs.Lg
def sC(c:az):Int:=if c.kind=5 then W (W (2*c.lines.length)+1)else 1
def yg(p:aU):Int:=if gj p≠0 then 0 else p.changes.foldl (λn c=>W (n+sC c)) 0
end Go.Proofs.Q
namespace Go.Proofs.Q
open Go Go.Bb Go.Proofs.Lg
open Go.Ab (D)
def qD:List AV:=(br .zero).map .d
def zV:List AV:=[.d (.sc (.string ⟨#[]⟩)),.d (.sc (.string ⟨#[]⟩)),.d (.sc (.int .i64 0)),.nil 32,.nil 139]
theorem dG{vs:List AV}(h:vs.length=5):ba zV 0 5 vs=some vs:=iE rfl h
theorem fy(x:Dg)(l:List AV)(h:l.length=32):ba l 0 32 ((au x).map .d)=some ((au x).map .d):=iE h (by rw[aM,b9])
def lD(l:List az):List AV:=((l.map aR).flatten).map .d
def ZZ:List AV:=lD [.zero,.zero]
def NY:List AV:=lD [.zero,.zero,.zero]
theorem Q3(l:List az):(lD l).length=l.length*139:=by
 unfold lD;rw[aM,Go.Ab.flatten_len (sz:=139) _ λr a=>by obtain⟨x,_,rfl⟩:=bM.1 a;exact dV x,aM]
def xq:List AV:=(ae .zero).map .d++[.d (.sc .nilFunc)]
def di(x:ak)(a:AV):List AV:=(ae x).map .d++[a]
theorem fv(x:ak)(a:AV):(di x a).length=34:=by simp[di,aN]
theorem zX:xq.length=34:=by simp[xq,aN]
theorem D1(x:ak):ba xq 0 33 ((ae x).map .d)=some (di x (.d (.sc .nilFunc))):=by
 unfold ba xq di;rw[if_pos ⟨by simp[aN],by simp[aN]⟩];simp[aN,iL,iM]
theorem Ci(x:ak)(a b:AV):ba (di x a) 33 1 [b]=some (di x b):=by
 unfold ba di;rw[if_pos ⟨rfl,by simp[aN]⟩];simp[aN,List.take_append,dL,iL,iM]
end Go.Proofs.Q
namespace Go.Bb
open Go Go.Ab
def rk(P:Program)(m:List Nat)(N:Nat):Code->List (List Nat)->CC×List (List Nat)
 | .region _ ops dr,k=>(.ops dr (if dr then(Region.before ops).toList else[]) ((kK P m ops ops.toList).getD []),k)
 | .seq a b,k=>match rk P m N a k with
  |(x,k)=>match rk P m N b k with
   |(y,k)=>(.seq x y,k)
 | .cond c a b,k=>match rk P m N a k with
  |(x,k)=>match rk P m N b k with
   |(y,k)=>(.cond ((cX P 0 c).getD (.t 0)) x y,k)
 | .block i c,k=>match rk P m N c k with
  |(x,k)=>(.block i x,k)
 | .loop c,k=>match rk P m N c k.tail with
  |(x,j)=>(.loop (.trim (k.headD []) x),j)
 | .rangeFunc f ps a b,k=>match rk P m N a k.tail with
  |(x,j)=>match rk P m N b j with
   |(y,j)=>(.trim (k.headD []) (.rng N ((cX P 0 f).getD (.t 0)) ps.toList x y),j)
 | .exit i,k=>(.exit i,k)
 | .ret,k=>(.ret,k)
 |_,k=>(.skip,k)
def Bq(P:Program)(m:List Nat)(k:List (List Nat))(fn:Func):CF:=⟨fn.ntmps,(rk P m fn.ntmps (fn.body.getD .skip) k).1,(ue P fn.results.toList).getD []⟩
theorem kM{P:Program}{f:FuncId}(h:(match P.funcs[f]? with
  |some fn=>fn.body.isSome&&fn.name != "runtime.NumGoroutine"
  |none=>false)=true):Enters P f:=by
 split at h
 .rename_i fn a;obtain⟨d,e⟩:=Bool.and_eq_true_iff.1 h;obtain⟨c,hb⟩:=vB.1 d;intro args w;have b:fn.name≠ "runtime.NumGoroutine":=by simpa using e
  simp[callFunc,a,b,hb,Go.mark]
 .cases h
end Go.Bb
namespace Go.Proofs.Q
open Go Go.Bb
open Go.Ab (D RD)
theorem iC(z:List AV){l:List AV}(e:z=l:=by conv=>lhs;cbv):AV.agg l= .agg z/\(∀p,CI.bld l p= .bld z p)/\(∀a b c d p,CI.bsl a b c d l p= .bsl a b c d z p)/\ ∀a b p,CI.bsf a b l p= .bsf a b z p:=by subst e;simp
theorem Jk(z:List SK){l:List SK}(e:z=l:=by conv=>lhs;cbv):(∀a b o x y,CI.lkp a l b o x y= .lkp a z b o x y)/\(∀a x y v,CI.mup a l x y v= .mup a z x y v)/\(∀a b x y,CI.men a l b x y= .men a z b x y)/\ ∀a n x y,CI.eqa a l n x y= .eqa a z n x y:=by subst e;simp
set_option maxRecDepth 100000 in
def Jj:=PLift.up (And.intro (Jk kg) (And.intro (Jk qd) (And.intro (iC NY) (And.intro (iC ZZ) (And.intro (iC xq) (And.intro (iC O6) (And.intro (iC O5) (And.intro (iC O4) (And.intro (iC O3) (And.intro (iC O2) (And.intro (iC rV) (And.intro (iC z64) (And.intro (iC z8) (And.intro (iC xo) (And.intro (iC qC) (And.intro (iC vi) (And.intro (iC vj) (And.intro (iC zY) (And.intro (iC qF) (And.intro (iC O0) (And.intro (iC NZ) (And.intro (iC vk) (And.intro (iC rT) (And.intro (iC qD) (iC zV)))))))))))))))))))))))))
set_option maxRecDepth 100000 in
theorem fz:type_of% Jj.down:=Jj.down
noncomputable def BZ:Program:=⟨Tryz.progTables, #[]⟩
theorem aL{f:FuncId}{args:List D}{r:D}{n:Nat}{b:CC}{rs:List CR}(fn:Func)(w:cy Tryz.prog none b (lv rs λx s=>bE s 5 x=some r) (jK 0 (args.map .d)) [])(m:List Nat:=[])(k:List (List Nat):=[])
 (e:Bq BZ m k fn=⟨n,b,rs⟩:=by set_option maxRecDepth 100000 in(conv=>lhs;cbv;(try simp only[fz]))) (h:oV Tryz.prog m f=some (CF.erase ⟨n,b,rs⟩):=by kernel_rfl) (a:args.length.ble n=true:=by rfl):aI Tryz.prog f args r:=Ob h (Nat.le_of_ble_eq_true a) w
theorem pB{f:FuncId}{args:List D}{r:D}{n:Nat}{b:CC}{rs:List CR}(fn:Func)(w:AC Tryz.prog n none b (lv rs λx s=>bE s 5 x=some r) (jK 0 (args.map .d)) [])(m:List Nat:=[])(k:List (List Nat):=[])
 (e:Bq BZ m k fn=⟨n,b,rs⟩:=by set_option maxRecDepth 100000 in(conv=>lhs;cbv;(try simp only[fz]))) (h:oV Tryz.prog m f=some (CF.erase ⟨n,b,rs⟩):=by kernel_rfl) (a:args.length.ble n=true:=by rfl):aI Tryz.prog f args r:=Od h (Nat.le_of_ble_eq_true a) w
theorem cz{f:FuncId}{xs:List AV}{s:List aa}{K:AV->List aa->Prop}{n:Nat}{b:CC}{rs:List CR}(fn:Func)(w:cy Tryz.prog none b (lv rs K) (jK 0 xs) s)(m:List Nat:=[])(k:List (List Nat):=[])
 (e:Bq BZ m k fn=⟨n,b,rs⟩:=by set_option maxRecDepth 100000 in(conv=>lhs;cbv;(try simp only[fz]))) (h:oV Tryz.prog m f=some (CF.erase ⟨n,b,rs⟩):=by kernel_rfl) (a:xs.length.ble n=true:=by rfl):bs Tryz.prog f xs s K:=bs.of h (Nat.le_of_ble_eq_true a) w
theorem xz{f:FuncId}{xs:List AV}{s:List aa}{K:AV->List aa->Prop}{n:Nat}{b:CC}{rs:List CR}(fn:Func)(w:AC Tryz.prog n none b (lv rs K) (jK 0 xs) s)(m:List Nat:=[])(k:List (List Nat):=[])
 (e:Bq BZ m k fn=⟨n,b,rs⟩:=by set_option maxRecDepth 100000 in(conv=>lhs;cbv;(try simp only[fz]))) (h:oV Tryz.prog m f=some (CF.erase ⟨n,b,rs⟩):=by kernel_rfl) (a:xs.length.ble n=true:=by rfl):bs Tryz.prog f xs s K:=bs.ofA h (Nat.le_of_ble_eq_true a) w
end Go.Proofs.Q
namespace Go.Proofs.Q
open Go Go.Bb Go.RowKit Go.Proofs.Lg
open Go.Ab (D RD)
theorem lQ(d:Dg):aI Tryz.prog 172 [.agg (au d)] (dB (isZero d)):=by
 refine aL Tryz.f172 ?_ [100001,300004]
 repeat' first|simp only[isZero]|refine ab (λ_=> ?_) λ_=> ?_|refine aG trivial trivial ?_|exact aF trivial trivial|fail
 all_goals(simp_all[isZero,cj];try exact ch)
theorem ow(a b:Dg):aI Tryz.prog 102 [.agg (au a),.agg (au b)] (dI (bY a b)):=by
 refine aL Tryz.f102 ?_ [100002,100003] [[2,3,5]];refine aC trivial trivial ?_;refine aZ.over (a.l.zip b.l) (λk (_:Unit)=>[(5,iN k)]) (λ_ _=>[]) (λl _=>jz l) (bY a b) () (by simp[a.len,b.len]) aA aA rfl rfl (λk _ x hg hk g e f=> ?_) (λ_ g f=> ?_)
 .obtain⟨c,d⟩:=tN hg;have hk:(k:Int)<32:=by have:=(aV.1 c).1;rw[a.len]at this;omega
  repeat' first|refine ab (λ_=> ?_) λ_=> ?_|refine aG (ga @c (ga @d (ga @hk (ga @e @LO)))) trivial ?_|exact aF (ga @c (ga @d (ga @hk (ga @e @LO)))) trivial|fail
  all_goals(simp_all[jz,cj];try exact ch)
 .have hk:((a.l.zip b.l).length:Int)=32:=by simp[a.len,b.len]
  refine aC @hk trivial ?_
  all_goals(simp_all[jz,cj];try exact ch)
theorem Vs(a b:List Dg):aI Tryz.prog 99 [.sl 32 (a.map au),.sl 32 (b.map au)] (dB (same a b)):=by
 refine aI.big (kM (by kernel_rfl)) 0 rfl λi=> ?_;rw[aM]at i;refine aL Tryz.f99 ?_ [] [[5,1,0]]
 repeat' first|refine ab (λ_=> ?_) λ_=> ?_|refine aG trivial trivial ?_|exact aF trivial trivial|fail
 .all_goals(simp_all[same,cj];try exact ch)
 .rename_i h0;have c:a.length=b.length:=by simp at h0;omega
  refine aZ.over (a.zip b) (λk (_:Unit)=>[(5,iN k)]) (λ_ _=>[]) (λl _=>j8 l) (same a b) () (by simp[c];omega) aA aA rfl (by simp[same,c]) (λk _ x hg hk h f g=> ?_) (λ_ h g=> ?_)
  .obtain⟨d,e⟩:=tN hg;have hk:(k:Int)<(a.length:Int):=by have:=(aV.1 d).1;omega
   repeat' first|refine ab (λ_=> ?_) λ_=> ?_|refine aG (ga @d (ga @e (ga @hk @f))) trivial ?_|exact aF (ga @d (ga @e (ga @hk @f))) trivial|fail
   all_goals(simp_all[j8,cj];try exact ch)
  .have hk:((a.zip b).length:Int)=a.length:=by simp[c]
   refine aC @hk trivial ?_
   all_goals(simp_all[j8,cj];try exact ch)
theorem Vz(a b:List bb):aI Tryz.prog 168 [.sl 1 (a.map fA),.sl 1 (b.map fA)] (dB (same a b)):=by
 refine aI.big (kM (by kernel_rfl)) 0 rfl λh=> ?_;rw[aM]at h;refine aL Tryz.f168 ?_ [] [[5,1,0]]
 repeat' first|refine ab (λ_=> ?_) λ_=> ?_|refine aG trivial trivial ?_|exact aF trivial trivial|fail
 .all_goals(simp_all[same,cj];try exact ch)
 .rename_i h0;have c:a.length=b.length:=by simp at h0;omega
  refine aZ.over (a.zip b) (λk (_:Unit)=>[(5,iN k)]) (λ_ _=>[]) (λl _=>j8 l) (same a b) () (by simp[c];omega) aA aA rfl (by simp[same,c]) (λk _ x hg hk g i f=> ?_) (λ_ g f=> ?_)
  .obtain⟨d,e⟩:=tN hg;have hk:(k:Int)<(a.length:Int):=by have:=(aV.1 d).1;omega
   repeat' first|simp only[d,e,hk,i,fA,mq]|refine ab (λ_=> ?_) λ_=> ?_|refine aG trivial trivial ?_|exact aF trivial trivial|fail
   all_goals(simp_all[j8,cj];try exact ch)
  .have hk:((a.zip b).length:Int)=a.length:=by simp[c]
   refine aC @hk trivial ?_
   all_goals(simp_all[j8,cj];try exact ch)
theorem Lq(s:bb)(x y:Nat)(d:s.size<=9223372036854775807):aI Tryz.prog 412 [dS s,.sc (.int .u8 x),.sc (.int .u8 y)] (dB (clean s x y)):=by
 refine aL Tryz.f412 ?_ [] [[7,2,0,1]];refine aC trivial trivial ?_;refine aZ.over s.data.toList (λk (_:Unit)=>[(7,iN k)]) (λ_ _=>[]) (λl _=>hasB l x y) (clean s x y) () (by rw[gJ];exact d) aA aA rfl rfl (λk _ x hg hk a b c=> ?_) (λ_ a c=> ?_)
 .rw[gJ]at a
  repeat' first|refine ab (λ_=> ?_) λ_=> ?_|refine aG (ga @a (ga @b (ga @sk @hg))) trivial ?_|exact aF (ga @a (ga @b (ga @sk @hg))) trivial|fail
  all_goals(simp_all[hasB,cj];try exact ch)
 .rw[gJ]at a;refine aC (ga @a @gJ) trivial ?_
  all_goals(simp_all[hasB,cj];try exact ch)
theorem Lp(s:bb)(a:s.size<=9223372036854775807):aI Tryz.prog 384 [dS s] (dB (mF s)):=by
 refine aL Tryz.f384 ?_
 repeat' first|refine ab (λ_=> ?_) λ_=> ?_|refine aG trivial (Lq s 10 0 a) ?_|exact aF trivial (Lq s 10 0 a)|fail
 all_goals(simp_all[mF,cj];try exact ch)
theorem Lo(l:List bb):aI Tryz.prog 121 [.sl 1 (l.map fA)] (dB (wk l)):=by
 refine aI.big (kM (by kernel_rfl)) 0 rfl λb=> ?_;rw[aM]at b;refine aL Tryz.f121 ?_ [] [[4,0,3]];refine aC trivial trivial ?_;refine aZ.over l (λk (n:Int)=>[(4,iN k),(3,.d (.sc (.int .i64 n)))]) (λ_ _=>[]) (λl n=>xe l n) (xe l 0) 0 b aA aA rfl rfl (λk _ x hg hk a e c=> ?_) (λ_ a c=> ?_)
 .repeat' first|simp only[a,e,hg,fA]|refine ab (λ_=> ?_) λ_=> ?_|refine aG trivial trivial ?_|exact aF trivial trivial|fail
  all_goals(simp_all[xe,cj];try exact ch)
 .repeat' first|refine ab (λ_=> ?_) λ_=> ?_|refine aG @a trivial ?_|exact aF @a trivial|fail
  all_goals(simp_all[wk,xe,cj];try exact ch)
set_option maxHeartbeats 4000000 in
theorem Lr(s:bb)(d:s.size<=9223372036854775807):aI Tryz.prog 174 [dS s] (dB (isName s)):=by
 refine aL Tryz.f174 ?_ [] [[3,0]];refine aC trivial trivial ?_;refine aZ.over s.data.toList (λk (_:Unit)=>[(3,iN k)]) (λ_ _=>[]) (λl _=>pe l) (pe s.data.toList) () (by rw[gJ];exact d) aA aA rfl rfl (λk _ x hg hk a b c=> ?_) (λ_ a c=> ?_)
 .rw[gJ]at a
  repeat' first|refine ab (λ_=> ?_) λ_=> ?_|refine aG (ga @a (ga @b (ga @sk @hg))) trivial ?_|exact aF (ga @a (ga @b (ga @sk @hg))) trivial|fail
  all_goals(simp_all[pe,wF,isName,cj];try exact ch)
 .rw[gJ]at a
  repeat' first|refine ab (λ_=> ?_) λ_=> ?_|refine aG (ga @a (ga @gJ @mq)) trivial ?_|exact aF (ga @a (ga @gJ @mq)) trivial|fail
  all_goals(simp_all[pe,isName,cj];try exact ch)
theorem C2(a b:ak):aI Tryz.prog 57 [.agg (ae a),.agg (ae b)] (dI (du a b)):=by
 refine aL Tryz.f57 ?_ [100002,100003]
 repeat' first|refine ab (λ_=> ?_) λ_=> ?_|refine aG trivial @ow ?_|exact aF trivial @ow|fail
 all_goals(simp_all[du,cj];try exact ch)
theorem Fe:aI Tryz.prog 383 [] (.agg (ae .zero)):=by
 refine aL Tryz.f383 ?_ [300001];exact bL trivial trivial
 all_goals(simp_all[du,cj];try exact ch)
theorem VH(c:az):aI Tryz.prog 164 [.agg (aR c)] (dI (sC c)):=by
 refine aL Tryz.f164 ?_ [100001]
 repeat' first|refine ab (λ_=> ?_) λ_=> ?_|refine aH ?_|simp only[decide_true,wy,qg,aE,reduceCtorEq,reduceIte,Nat.reduceAdd,Nat.reduceMul,Nat.reduceEqDiff,Nat.reduceLT,Nat.reduceLeDiff,Nat.reduceSub,ax,aD,aB,aw]
 all_goals(simp_all[sC,cj];try exact ch)
theorem Ly(k:Int):aI Tryz.prog 311 [dI k] (dI (xm k)):=by
 refine aL Tryz.f311 ?_
 repeat' first|refine ab (λ_=> ?_) λ_=> ?_|refine aG trivial trivial ?_|exact aF trivial trivial|fail
 all_goals(simp_all[xm,cj];try exact ch)
theorem wR(k:Int):aI Tryz.prog 309 [dI k] (dB (nG k)):=by
 refine aL Tryz.f309 ?_
 repeat' first|refine ab (λ_=> ?_) λ_=> ?_|refine aG trivial trivial ?_|exact aF trivial trivial|fail
 all_goals(simp_all[nG,cj];try exact ch)
theorem Lv(x:ak)(n:Int):aI Tryz.prog 385 [.agg (ae x),dI n] (dB (allowed x n)):=by
 refine aL Tryz.f385 ?_ [100002]
 repeat' first|refine ab (λ_=> ?_) λ_=> ?_|refine aG trivial @lQ ?_|exact aF trivial @lQ|fail
 all_goals(simp_all[allowed,cj];try exact ch)
theorem C4(k:Int)(x:ay):aI Tryz.prog 242 [dI k,.agg (aO x)] (dB (gN k x)):=by
 refine aL Tryz.f242 ?_ [100003]
 repeat' first|refine ab (λ_=> ?_) λ_=> ?_|refine aG trivial @wR ?_|exact aF trivial @wR|fail
 all_goals(simp_all[gN,cj];try exact ch)
theorem C3(f:ak)(x:ay):aI Tryz.prog 310 [.agg (ae f),.agg (aO x)] (dB (oY f x)):=by
 refine aL Tryz.f310 ?_ [100002,100003]
 repeat' first|refine ab (λ_=> ?_) λ_=> ?_|refine aG trivial trivial ?_|exact aF trivial trivial|fail
 all_goals(simp_all[oY,cj];try exact ch)
theorem C5(k:Int)(f:ak)(x:ay):aI Tryz.prog 245 [dI k,.agg (ae f),.agg (aO x)] (dB (ri k f x)):=by
 refine aL Tryz.f245 ?_ [100004,100005]
 repeat' first|refine ab (λ_=> ?_) λ_=> ?_|refine aG trivial @Ly ?_|exact aF trivial @Ly|fail
 all_goals(simp_all[ri,cj];try exact ch)
theorem th(x:ak)(own:List ay)(b:Bool):aI Tryz.prog 316 [.agg (ae x),.sl 172 (own.map aO),dB b] (dI (kS x own b)):=by
 refine aL Tryz.f316 ?_ [100003]
 repeat' first|refine ab (λ_=> ?_) λ_=> ?_|refine aG trivial (ga @lQ @Lv) ?_|exact aF trivial (ga @lQ @Lv)|fail
 all_goals(simp_all[kS,cj];try exact ch)
end Go.Proofs.Q
namespace Go.Proofs.Q
open Go Go.Bb Go.Proofs.Lg
open Go.Ab (D)
abbrev j5:=IntKind.u32
def mn(a b:Int):Int:=j5.wrap (BitVec.ofInt j5.bits a|||BitVec.ofInt j5.bits b).toNat
def jv(a b:Int):Int:=j5.wrap (BitVec.ofInt j5.bits a^^^BitVec.ofInt j5.bits b).toNat
def xW(a b:Int):Int:=j5.wrap (BitVec.ofInt j5.bits a&&&BitVec.ofInt j5.bits b).toNat
def PB(a:Int):Int:=j5.wrap (BitVec.ofInt j5.bits (if j5.signed then-1 else j5.max)^^^BitVec.ofInt j5.bits a).toNat
def aW(a b:Int):Int:=j5.wrap (a+b)
def shr(a:Int)(n:Nat):Int:=a.fdiv (2^min n j5.bits)
def shl(a:Int)(n:Nat):Int:=j5.wrap (a*2^min n j5.bits)
def iW(x:Int)(n:Nat):Int:=mn (shr x n) (shl x (32-n))
def pA:Nat->bb
 |0=>⟨#[]⟩
 |n+1=>pA n++str [0]
def ua(b:Int):bb:=str [UInt8.ofNat b.toNat]
def gP:List Int:=[
 0x428a2f98,0x71374491,0xb5c0fbcf,0xe9b5dba5,0x3956c25b,0x59f111f1,0x923f82a4,0xab1c5ed5,
 0xd807aa98,0x12835b01,0x243185be,0x550c7dc3,0x72be5d74,0x80deb1fe,0x9bdc06a7,0xc19bf174,
 0xe49b69c1,0xefbe4786,0x0fc19dc6,0x240ca1cc,0x2de92c6f,0x4a7484aa,0x5cb0a9dc,0x76f988da,
 0x983e5152,0xa831c66d,0xb00327c8,0xbf597fc7,0xc6e00bf3,0xd5a79147,0x06ca6351,0x14292967,
 0x27b70a85,0x2e1b2138,0x4d2c6dfc,0x53380d13,0x650a7354,0x766a0abb,0x81c2c92e,0x92722c85,
 0xa2bfe8a1,0xa81a664b,0xc24b8b70,0xc76c51a3,0xd192e819,0xd6990624,0xf40e3585,0x106aa070,
 0x19a4c116,0x1e376c08,0x2748774c,0x34b0bcb5,0x391c0cb3,0x4ed8aa4a,0x5b9cca4f,0x682e6ff3,
 0x748f82ee,0x78a5636f,0x84c87814,0x8cc70208,0x90befffa,0xa4506ceb,0xbef9a3f7,0xc67178f2]
def jO:List Int:=[0x6a09e667,0xbb67ae85,0x3c6ef372,0xa54ff53a,0x510e527f,0x9b05688c,0x1f83d9ab,0x5be0cd19]
def pO(s:bb)(i:Nat):Int:=match s.data.toList[i]? with
 |some b=>b.toNat
 |none=>0
def tL(s:bb)(t:Nat):Int:=mn (mn (mn (shl (pO s (4*t)) 24) (shl (pO s (4*t+1)) 16)) (shl (pO s (4*t+2)) 8)) (pO s (4*t+3))
def at_(w:List Int)(i:Nat):Int:=(w[i]?).getD 0
def rR(w:List Int)(t:Nat):Int:=
 aW (aW (aW (jv (jv (iW (at_ w (t-2)) 17) (iW (at_ w (t-2)) 19)) (shr (at_ w (t-2)) 10)) (at_ w (t-7))) (jv (jv (iW (at_ w (t-15)) 7) (iW (at_ w (t-15)) 18)) (shr (at_ w (t-15)) 3))) (at_ w (t-16))
def uR(s:bb)(l:List Nat)(w:List Int):List Int:=l.foldl (λw t=>w.set t (tL s t)) w
def uS(l:List Nat)(w:List Int):List Int:=l.foldl (λw t=>w.set t (rR w t)) w
def sched(s:bb):List Int:=uS (List.range' 16 48) (uR s (List.range' 0 16) (List.replicate 64 0))
def FP(k w:Int):List Int->List Int
 |[a,b,c,d,e,f,g,h]=>
  let i:=aW (aW (aW (aW h (jv (jv (iW e 6) (iW e 11)) (iW e 25))) (jv (xW e f) (xW (PB e) g))) k) w;let t2:=aW (jv (jv (iW a 2) (iW a 13)) (iW a 22)) (jv (jv (xW a b) (xW a c)) (xW b c))
  [aW i t2,a,b,c,aW d i,e,f,g]
 |v=>v
def rounds:List (Int×Int)->List Int->List Int
 |[],v=>v
 |(k,w)::l,v=>rounds l (FP k w v)
def oQ(v:List Int)(l:List Nat)(h:List Int):List Int:=l.foldl (λh i=>h.set i (aW (at_ h i) (at_ v i))) h
def jn(h:List Int)(s:bb):List Int:=oQ (rounds (gP.zip (sched s)) h) (List.range 8) h
def PO(s:bb):Int:=IntKind.u64.wrap (IntKind.u64.wrap s.size*8)
def nz(s:bb)(i:Nat):Int:=IntKind.u8.wrap ((PO s).fdiv (2^min (8*i) 64))
def kT(s:bb):bb:=[7,6,5,4,3,2,1,0].foldl (λout i=>out++ua (nz s i)) (s++str [128]++pA ((120-(s.size+1) % 64) % 64))
def oA(s:bb):List Int:=(List.range ((kT s).size/64)).foldl (λh k=>jn h ((kT s).extract (64*k) (64*k+64))) jO
def pX(h:List Int)(i:Nat):Int:=IntKind.u8.wrap ((at_ h (i/4)).fdiv (2^min (24-8*(i % 4)) 32))
theorem zK(n:Int):0<=IntKind.u8.wrap n/\IntKind.u8.wrap n<256:=by
 simp only[IntKind.wrap,IntKind.bits,IntKind.signed];have a:0<=n % 2^8:=Int.emod_nonneg _ (by decide);have b:n % 2^8<2^8:=Int.emod_lt_of_pos _ (by decide);simp;omega
theorem MJ{f:Nat->Int}(c: ∀i,0<=f i/\f i<256): ∀(l:List Nat) (b:List Int),Bytes b->Bytes (l.foldl (λb i=>b.set i (f i)) b)/\(l.foldl (λb i=>b.set i (f i)) b).length=b.length
 |[],b,h=>⟨h,rfl⟩
 |i::l,b,h=>by
  have d:Bytes (b.set i (f i)):=λx a=>by
   rcases List.mem_or_eq_of_mem_set a with a|rfl
   .exact h x a
   .exact c i
  obtain⟨e,g⟩:=MJ c l (b.set i (f i)) d;exact⟨e,by rw[ig,g,jU]⟩
def nX(h:List Int):List Int:=(List.range 32).foldl (λb i=>b.set i (pX h i)) (List.replicate 32 0)
theorem Iq(h:List Int):Bytes (nX h)/\(nX h).length=32:=by
 have h:=MJ (f:=pX h) (λi=>zK _) (List.range 32) (List.replicate 32 0) (by unfold Bytes;decide);exact⟨h.1,h.2.trans (by simp)⟩
def aq(s:bb):Dg:=⟨nX (oA s),(Iq _).2,(Iq _).1⟩
theorem YN(s:bb):(aq s).l=nX (oA s):=by rw[aq]
section
variable (H:bb->Dg)
def gD(s:ar):List Dg->List ay
 |[]=>[]
 |d::l=>(ew H ((bh s d).getD .zero)).1++gD s l
def jL(s:ar):List ay:=gD H s (b8 s)
def nw:List ay->ak->Option ay
 |[],_=>none
 |x::l,i=>if x.id=i then some x else nw l i
def mC(out:List ay)(i:ak):Bool:=out.all λy=> !(decide (y.kind=7)&&eW y.over i)
def iA:List ay->List ay->List ay
 |[],out=>out
 |x::l,out=>iA l (if mC out x.id then x::out else out)
def fJ(s:ar):List ay:=iA (gD H s (dD s)).reverse []
def iU(i:ak):List ay->List ak->List ak
 |[],out=>out
 |x::l,out=>iU i l (if eW x.over i then p7 out x.id else out)
def BF(s:ar)(i:ak):List ak:=match nw (jL H s) i with
 |none=>[]
 |some _=>iU i (fJ H s) []
def rn(s:ar):List ay:=(jL H s).filter λx=>decide ((iU x.id (fJ H s) []).length=0)
def sM(s:ar):List ak:=(rn H s).map (·.id)
def lB(s:ar)(i:ak):Bool:=eW (sM H s) i
end
end Go.Proofs.Q
