/- Lemmas. -/
import Derived.Test.YtikhfhjohjfamaaGreatDoorPBA
set_option linter.unusedVariables false
set_option linter.unusedSimpArgs false
set_option maxRecDepth 100000
namespace Go.Proofs.Q
open Go Go.Bb Go.RowKit Go.Proofs.Lg
open Go.Ab (D RD)
theorem Zl(x:Sx)(i:Nat)(rows:List (List D)):ba ((aj x).map .d) 2 1 [.tsl i 3 rows]=some [.d (dB x.isL),.d (dS x.atom),.tsl i 3 rows]:=by rw[kp];rfl
theorem kE(a b:D)(i:Nat)(rows:List (List D)):aggA [.d a,.d b,.tsl i 3 rows]= .agg [.d a,.d b,.tsl i 3 rows]:=rfl
theorem mV(x:Sx)(a b c:AV):ba ((aj x).map .d) 0 3 [a,b,c]=some [a,b,c]:=iE (by simp[dh]) rfl
theorem mK(i:Nat)(rows:List (List D))(s:List aa):bs Tryz.prog 294 [.tsl i 3 rows] s λd a=>d= .agg [.d (dB true),.d (dS ⟨#[]⟩),.tsl i 3 rows]/\a=s++[.cells [.d (dB true),.d (dS ⟨#[]⟩),.tsl i 3 rows]]:=by
 refine cz Tryz.f294 ?_ [300004];refine aC (ga @Zl (ga @kE (ga @ia (ga @Nb (ga @Na @wj))))) trivial ?_;exact⟨rfl,rfl⟩
theorem mN:bw 1 48=true:=by decide
theorem Cp:bw 2 48=true:=by decide
theorem Cq:bw 4 48=true:=by decide
theorem wY:bw 5 48=true:=by decide
theorem uZ{J X:List aa}{m r e sz n:Nat}{c:List (List Value×AV)}{o:aa}(a:J[m]?=some (.map false c))(b:J[r]?=some (.row e sz n)):((J++X).set r o)[m]?=some (.map false c):=by
 rw[bC (by rintro rfl;rw[a]at b;cases b),cF a]
theorem fx.new4{o:Nat->Nat}(J:List aa)(A B C E:aa)(x:Sx):fx o (.tsl (o (J.length+4)) 3 [aj x]) (J++[A,B,C,E,.row 307 3 1]) [x]:= .inr ⟨J.length+4,rfl,by simp⟩
theorem jS{x:AV}{l:List AV}{d:D}{ds:List D}(h:x.toL=some d)(a:toLs l=some ds):toLs (x::l)=some (d::ds):=by simp[toLs,h,a]
theorem PV(a b c d:Sx)(f g:List Sx)(u v:AV)(k:u.toL=some (.sl 3 (f.map aj)))(m:v.toL=some (.sl 3 (g.map aj))):((ba (List.map AV.d (aj a++(aj b++(aj c++(aj d++(aj Sx.zero++aj Sx.zero)))))) 12 3 [.d (dB true),.d (dS ⟨#[]⟩),u]).bind λe=>(ba e 15 3 [.d (dB true),.d (dS ⟨#[]⟩),v]).bind λe=>some e).bind (lU 3 6)=some (.d (.sl 3 [aj a,aj b,aj c,aj d,aj (de f),aj (de g)])):=by
 rw[nB,nB,kp a,kp b,kp c,kp d,kp Sx.zero];have i:=jS (x:=AV.d (dB true)) (l:=[.d (dS ⟨#[]⟩),v]) rfl (jS (x:= .d (dS ⟨#[]⟩)) (l:=[v]) rfl (jS m rfl));have h:=jS (x:=AV.d (dB true)) (l:=_::u::_) rfl (jS (x:= .d (dS ⟨#[]⟩)) rfl (jS k i))
 have j:=λ(x0 q r s t w z0 y z2 n o p:D)=>jS (x:= .d x0) rfl<|jS (x:= .d q) rfl<|jS (x:= .d r) rfl<|jS (x:= .d s) rfl<|jS (x:= .d t) rfl<|jS (x:= .d w) rfl<|jS (x:= .d z0) rfl<|jS (x:= .d y) rfl<|jS (x:= .d z2) rfl<|jS (x:= .d n) rfl<|jS (x:= .d o) rfl<|jS (x:= .d p) rfl h
 show lU 3 6 [_,_,_,_,_,_,_,_,_,_,_,_,_,_,u,_,_,v]=_;unfold lU;rw[if_pos ⟨rfl,by decide⟩,j];rfl
theorem MR:((0:Int)<32/\(0:Int)<=32)=True:=by simp
theorem Hf:(Int.toNat 0+(Int.toNat 32-Int.toNat 0)<=32)=True:=by simp
theorem Ip(x:Dg):List.take (Int.toNat 32-Int.toNat 0) (List.drop (Int.toNat 0) (au x))=au x:=by
 show List.take 32 (List.drop 0 (au x))=_;rw[ky,tt]
theorem Hd(x:Dg):iS ((au x).map .d)=some (x.l.map λb=>UInt8.ofNat b.toNat):=by
 unfold au;exact DA x.l x.by_
theorem Ir{x:Dg}(h:isZero x=false):aj (dC ⟨(x.l.map λb=>UInt8.ofNat b.toNat).toArray⟩)=aj (gK x):=by
 unfold gK;rw[if_neg (by simp[h])];rfl
set_option maxHeartbeats 4000000 in
theorem UE(q:lf)(p:aU)(hp:D9 p)(h0: ∀d∈p.deps,isZero d=false):aI Tryz.prog 236 [.agg (br p)] (.tup [dS (jM (jQ p)),dI 0]):=by
 have K:=hp.deps;have I:=hp.chg;have E:=hp.kind;have H:=QL (l:=[dC (str [113,117,105,108,116,49]),dC p.author,dC p.message,cU p.time,de (p.deps.map gK),de (p.changes.map cD)]) q hp.good hp.nodes (by have:=hp.size;exact this);clear hp;refine aL Tryz.f236 ?_ [100001,100026,100056,100072] [[17,4,15,5,1,16],[34,5,8,32,1,4,33]]
 refine sH (ga @ia @wj) @F4 ?_
 refine aZ.overI p.deps (λk (b:AV×List aa×List Sx)=>[(17,iN k)]) (λ_ b=>[.cells [.d (dB true),.d (dS ⟨#[]⟩),.nil 3],.cells [.d (dB true),.d (dS ⟨#[]⟩),.nil 3],.cells [.d (dB true),.d (dS ⟨#[]⟩),b.1],.cells [.d (dB true),.d (dS ⟨#[]⟩),.nil 3]]++b.2.1) (λr b=>b.2.2++r.map gK) (p.deps.map gK) (λk b=>fx KQ b.1 b.2.1 b.2.2/\b.2.2.length=k) (.nil 3,[],[]) a8 aA aA rfl rfl ⟨.inl ⟨rfl,rfl⟩,rfl⟩ (λk b x hg hk s y n w=> ?_) (λb s n w=> ?_)
 .obtain⟨v,J,b⟩:=b;obtain⟨w,f⟩:=w;dsimp only at n w f;have G:=h0 x (bR hg);clear H;rcases w with⟨rfl,rfl⟩|⟨r,rfl,hr⟩
  .have i:bw 1 48=true:=by decide
   refine aC (ga @s (ga @y (ga @hg (ga @i (ga @ji (ga @wS (ga @b9 (ga @MR (ga @Hf (ga @Ip (ga @Hd (ga (Ir G) @wj)))))))))))) @qi ?_;exact⟨(_,_,[gK x]),rfl,by simpa using n,fx.new1 J _ _ [],by simp at f;simp[f]⟩
  .have i:bw (b.length+1) 48=true:=room_le a8 a8;have m:=qw hr;have j:=cF hr;refine aC (ga @s (ga @y (ga @hg (ga @i (ga @hr (ga @j (ga @m (ga @ji (ga @wS (ga @b9 (ga @MR (ga @Hf (ga @Ip (ga @Hd (ga (Ir G) @wj))))))))))))))) @qi ?_
   exact⟨(_,_,b++[gK x]),rfl,by simpa using n,fx.snoc (cF hr _) _,by simp[f]⟩
 .obtain⟨v4,J,b⟩:=b;obtain⟨B,f⟩:=w;dsimp only at n B f;rw[fi,bq]at n;subst n;refine sH (ga @s @wj) @UF ?_;refine aC @wj trivial ?_
  refine aZ.overI p.changes (λk (b:AV×List aa×List Sx)=>[(34,iN k)]) (λ_ b=>[.cells [.d (dB true),.d (dS ⟨#[]⟩),.nil 3],.cells [.d (dB true),.d (dS ⟨#[]⟩),.nil 3],.cells [.d (dB true),.d (dS ⟨#[]⟩),v4],.cells [.d (dB true),.d (dS ⟨#[]⟩),b.1]]++b.2.1) (λr b=>b.2.2++r.map cD) (p.changes.map cD) (λk b=>(fx KQ b.1 b.2.1 b.2.2/\b.2.2.length=k)/\b.2.1[J.length]?=some (.map false kq)) (.nil 3,J++[.map false kq],[]) a8 aA aA rfl rfl ⟨⟨.inl ⟨rfl,rfl⟩,rfl⟩,by simp⟩ (λk b x hg hk s y n w=> ?_) (λb s n w=> ?_)
  .obtain⟨v,M,b⟩:=b;obtain⟨⟨w,f⟩,o⟩:=w;dsimp only at n w f o;obtain⟨S,T,F,L⟩:=E x (bR hg);have h:=cF o;clear H E h0;obtain g|g|g|g|g|g|g:x.kind=1\/x.kind=2\/x.kind=3\/x.kind=4\/x.kind=6\/x.kind=7\/x.kind=5:=by omega
   .have t:=Rj q x;have u:cD x=de [cU 1,cU x.type]:=by simp[cD,g]
    have e:[dB true,dS ⟨#[]⟩,D.sl 3 [aj (cU 1),aj (cU x.type)]]=aj (cD x):=by rw[u];exact(nB [cU 1,cU x.type]).symm
    clear u;rcases w with⟨rfl,rfl⟩|⟨r,rfl,hr⟩
    .repeat' first|refine ab (λ_=> ?_) λ_=> ?_|refine aH ?_|refine af.data (jR q _) rfl ?_|refine af.data (t) rfl ?_|(refine af.fn ((mK _ _ _).mono ?_);rintro _ z ⟨rfl,rfl⟩)|simp only[s,y,hg,mN,Cp,g,o,h,e,ji,gF,ec,dV,aM,ia,mV,kE,AV.key,AV.keyK,kq,ey,bJ,Int.reduceBEq,Int.reduceEq,wj,wy,qg,aE,simprocAttr,ax,aD,aB,aw]
     exact⟨(_,_,[cD x]),rfl,by simpa using n,⟨fx.new4 _ _ _ _ _ _,by simp at f;simp[f]⟩,h _⟩
    .have i:bw (b.length+1) 48=true:=room_le a8 a8;have m:=qw hr;have j:=cF hr
     repeat' first|refine ab (λ_=> ?_) λ_=> ?_|refine aH ?_|refine af.data (jR q _) rfl ?_|refine af.data (t) rfl ?_|(refine af.fn ((mK _ _ _).mono ?_);rintro _ z ⟨rfl,rfl⟩)|simp only[s,y,hg,mN,Cp,i,hr,j,m,g,o,h,e,ji,gF,ec,dV,aM,ia,mV,kE,AV.key,AV.keyK,kq,ey,bJ,Int.reduceBEq,Int.reduceEq,wj,wy,qg,aE,simprocAttr,ax,aD,aB,aw]
     exact⟨(_,_,b++[cD x]),rfl,by simpa using n,⟨fx.snoc (cF hr _) _,by simp[f]⟩,uZ o hr⟩
   .have t:=Rk q x F;have u:cD x=de [cU 2,bO x.file,bO x.parent,dC x.name,fu x.over]:=by simp[cD,g]
    have e:[dB true,dS ⟨#[]⟩,D.sl 3 [aj (cU 2),aj (bO x.file),aj (bO x.parent),aj (dC x.name),aj (fu x.over)]]=aj (cD x):=by rw[u];exact(nB [cU 2,bO x.file,bO x.parent,dC x.name,fu x.over]).symm
    clear u;rcases w with⟨rfl,rfl⟩|⟨r,rfl,hr⟩
    .repeat' first|refine ab (λ_=> ?_) λ_=> ?_|refine aH ?_|refine af.data (jR q _) rfl ?_|refine af.data (t) rfl ?_|(refine af.fn ((mK _ _ _).mono ?_);rintro _ z ⟨rfl,rfl⟩)|simp only[s,y,hg,mN,wY,g,o,h,e,ji,gF,ec,dV,aM,ia,mV,kE,AV.key,AV.keyK,kq,ey,bJ,Int.reduceBEq,Int.reduceEq,wj,wy,qg,aE,simprocAttr,ax,aD,aB,aw]
     exact⟨(_,_,[cD x]),rfl,by simpa using n,⟨fx.new4 _ _ _ _ _ _,by simp at f;simp[f]⟩,h _⟩
    .have i:bw (b.length+1) 48=true:=room_le a8 a8;have m:=qw hr;have j:=cF hr
     repeat' first|refine ab (λ_=> ?_) λ_=> ?_|refine aH ?_|refine af.data (jR q _) rfl ?_|refine af.data (t) rfl ?_|(refine af.fn ((mK _ _ _).mono ?_);rintro _ z ⟨rfl,rfl⟩)|simp only[s,y,hg,mN,wY,i,hr,j,m,g,o,h,e,ji,gF,ec,dV,aM,ia,mV,kE,AV.key,AV.keyK,kq,ey,bJ,Int.reduceBEq,Int.reduceEq,wj,wy,qg,aE,simprocAttr,ax,aD,aB,aw]
     exact⟨(_,_,b++[cD x]),rfl,by simpa using n,⟨fx.snoc (cF hr _) _,by simp[f]⟩,uZ o hr⟩
   .have t:=Rl q x F;have u:cD x=de [cU 3,bO x.file,cU x.mode,fu x.over]:=by simp[cD,g]
    have e:[dB true,dS ⟨#[]⟩,D.sl 3 [aj (cU 3),aj (bO x.file),aj (cU x.mode),aj (fu x.over)]]=aj (cD x):=by rw[u];exact(nB [cU 3,bO x.file,cU x.mode,fu x.over]).symm
    clear u;rcases w with⟨rfl,rfl⟩|⟨r,rfl,hr⟩
    .repeat' first|refine ab (λ_=> ?_) λ_=> ?_|refine aH ?_|refine af.data (jR q _) rfl ?_|refine af.data (t) rfl ?_|(refine af.fn ((mK _ _ _).mono ?_);rintro _ z ⟨rfl,rfl⟩)|simp only[s,y,hg,mN,Cq,g,o,h,e,ji,gF,ec,dV,aM,ia,mV,kE,AV.key,AV.keyK,kq,ey,bJ,Int.reduceBEq,Int.reduceEq,wj,wy,qg,aE,simprocAttr,ax,aD,aB,aw]
     exact⟨(_,_,[cD x]),rfl,by simpa using n,⟨fx.new4 _ _ _ _ _ _,by simp at f;simp[f]⟩,h _⟩
    .have i:bw (b.length+1) 48=true:=room_le a8 a8;have m:=qw hr;have j:=cF hr
     repeat' first|refine ab (λ_=> ?_) λ_=> ?_|refine aH ?_|refine af.data (jR q _) rfl ?_|refine af.data (t) rfl ?_|(refine af.fn ((mK _ _ _).mono ?_);rintro _ z ⟨rfl,rfl⟩)|simp only[s,y,hg,mN,Cq,i,hr,j,m,g,o,h,e,ji,gF,ec,dV,aM,ia,mV,kE,AV.key,AV.keyK,kq,ey,bJ,Int.reduceBEq,Int.reduceEq,wj,wy,qg,aE,simprocAttr,ax,aD,aB,aw]
     exact⟨(_,_,b++[cD x]),rfl,by simpa using n,⟨fx.snoc (cF hr _) _,by simp[f]⟩,uZ o hr⟩
   .have t:=Rm q x F;have u:cD x=de [cU 4,bO x.file,dC x.data,fu x.over]:=by simp[cD,g]
    have e:[dB true,dS ⟨#[]⟩,D.sl 3 [aj (cU 4),aj (bO x.file),aj (dC x.data),aj (fu x.over)]]=aj (cD x):=by rw[u];exact(nB [cU 4,bO x.file,dC x.data,fu x.over]).symm
    clear u;rcases w with⟨rfl,rfl⟩|⟨r,rfl,hr⟩
    .repeat' first|refine ab (λ_=> ?_) λ_=> ?_|refine aH ?_|refine af.data (jR q _) rfl ?_|refine af.data (t) rfl ?_|(refine af.fn ((mK _ _ _).mono ?_);rintro _ z ⟨rfl,rfl⟩)|simp only[s,y,hg,mN,Cq,g,o,h,e,ji,gF,ec,dV,aM,ia,mV,kE,AV.key,AV.keyK,kq,ey,bJ,Int.reduceBEq,Int.reduceEq,wj,wy,qg,aE,simprocAttr,ax,aD,aB,aw]
     exact⟨(_,_,[cD x]),rfl,by simpa using n,⟨fx.new4 _ _ _ _ _ _,by simp at f;simp[f]⟩,h _⟩
    .have i:bw (b.length+1) 48=true:=room_le a8 a8;have m:=qw hr;have j:=cF hr
     repeat' first|refine ab (λ_=> ?_) λ_=> ?_|refine aH ?_|refine af.data (jR q _) rfl ?_|refine af.data (t) rfl ?_|(refine af.fn ((mK _ _ _).mono ?_);rintro _ z ⟨rfl,rfl⟩)|simp only[s,y,hg,mN,Cq,i,hr,j,m,g,o,h,e,ji,gF,ec,dV,aM,ia,mV,kE,AV.key,AV.keyK,kq,ey,bJ,Int.reduceBEq,Int.reduceEq,wj,wy,qg,aE,simprocAttr,ax,aD,aB,aw]
     exact⟨(_,_,b++[cD x]),rfl,by simpa using n,⟨fx.snoc (cF hr _) _,by simp[f]⟩,uZ o hr⟩
   .have t:=Ro q x F;have u:cD x=de [cU 6,bO x.file,bO x.after,bO x.before,fu x.over]:=by simp[cD,g]
    have e:[dB true,dS ⟨#[]⟩,D.sl 3 [aj (cU 6),aj (bO x.file),aj (bO x.after),aj (bO x.before),aj (fu x.over)]]=aj (cD x):=by rw[u];exact(nB [cU 6,bO x.file,bO x.after,bO x.before,fu x.over]).symm
    clear u;rcases w with⟨rfl,rfl⟩|⟨r,rfl,hr⟩
    .repeat' first|refine ab (λ_=> ?_) λ_=> ?_|refine aH ?_|refine af.data (jR q _) rfl ?_|refine af.data (t) rfl ?_|(refine af.fn ((mK _ _ _).mono ?_);rintro _ z ⟨rfl,rfl⟩)|simp only[s,y,hg,mN,wY,g,o,h,e,ji,gF,ec,dV,aM,ia,mV,kE,AV.key,AV.keyK,kq,ey,bJ,Int.reduceBEq,Int.reduceEq,wj,wy,qg,aE,simprocAttr,ax,aD,aB,aw]
     exact⟨(_,_,[cD x]),rfl,by simpa using n,⟨fx.new4 _ _ _ _ _ _,by simp at f;simp[f]⟩,h _⟩
    .have i:bw (b.length+1) 48=true:=room_le a8 a8;have m:=qw hr;have j:=cF hr
     repeat' first|refine ab (λ_=> ?_) λ_=> ?_|refine aH ?_|refine af.data (jR q _) rfl ?_|refine af.data (t) rfl ?_|(refine af.fn ((mK _ _ _).mono ?_);rintro _ z ⟨rfl,rfl⟩)|simp only[s,y,hg,mN,wY,i,hr,j,m,g,o,h,e,ji,gF,ec,dV,aM,ia,mV,kE,AV.key,AV.keyK,kq,ey,bJ,Int.reduceBEq,Int.reduceEq,wj,wy,qg,aE,simprocAttr,ax,aD,aB,aw]
     exact⟨(_,_,b++[cD x]),rfl,by simpa using n,⟨fx.snoc (cF hr _) _,by simp[f]⟩,uZ o hr⟩
   .have t:=Rp q x F;have u:cD x=de [cU 7,fu x.over]:=by simp[cD,g]
    have e:[dB true,dS ⟨#[]⟩,D.sl 3 [aj (cU 7),aj (fu x.over)]]=aj (cD x):=by rw[u];exact(nB [cU 7,fu x.over]).symm
    clear u;rcases w with⟨rfl,rfl⟩|⟨r,rfl,hr⟩
    .repeat' first|refine ab (λ_=> ?_) λ_=> ?_|refine aH ?_|refine af.data (jR q _) rfl ?_|refine af.data (t) rfl ?_|(refine af.fn ((mK _ _ _).mono ?_);rintro _ z ⟨rfl,rfl⟩)|simp only[s,y,hg,mN,Cp,g,o,h,e,ji,gF,ec,dV,aM,ia,mV,kE,AV.key,AV.keyK,kq,ey,bJ,Int.reduceBEq,Int.reduceEq,wj,wy,qg,aE,simprocAttr,ax,aD,aB,aw]
     exact⟨(_,_,[cD x]),rfl,by simpa using n,⟨fx.new4 _ _ _ _ _ _,by simp at f;simp[f]⟩,h _⟩
    .have i:bw (b.length+1) 48=true:=room_le a8 a8;have m:=qw hr;have j:=cF hr
     repeat' first|refine ab (λ_=> ?_) λ_=> ?_|refine aH ?_|refine af.data (jR q _) rfl ?_|refine af.data (t) rfl ?_|(refine af.fn ((mK _ _ _).mono ?_);rintro _ z ⟨rfl,rfl⟩)|simp only[s,y,hg,mN,Cp,i,hr,j,m,g,o,h,e,ji,gF,ec,dV,aM,ia,mV,kE,AV.key,AV.keyK,kq,ey,bJ,Int.reduceBEq,Int.reduceEq,wj,wy,qg,aE,simprocAttr,ax,aD,aB,aw]
     exact⟨(_,_,b++[cD x]),rfl,by simpa using n,⟨fx.snoc (cF hr _) _,by simp[f]⟩,uZ o hr⟩
   .have t:=Rn q x L;have u:cD x=de [cU 5,bO x.file,bO x.after,bO x.before,de (x.lines.map dC)]:=by simp[cD,g]
    have e:[dB true,dS ⟨#[]⟩,D.sl 3 [aj (cU 5),aj (bO x.file),aj (bO x.after),aj (bO x.before),aj (de (x.lines.map dC))]]=aj (cD x):=by rw[u];exact(nB [cU 5,bO x.file,bO x.after,bO x.before,de (x.lines.map dC)]).symm
    clear u;rcases w with⟨rfl,rfl⟩|⟨r,rfl,hr⟩
    .repeat' first|refine ab (λ_=> ?_) λ_=> ?_|refine aH ?_|refine af.data (jR q _) rfl ?_|refine af.data (t) rfl ?_|(refine af.fn ((mK _ _ _).mono ?_);rintro _ z ⟨rfl,rfl⟩)|simp only[s,y,hg,mN,wY,g,o,h,e,ji,gF,ec,dV,aM,ia,mV,kE,AV.key,AV.keyK,kq,ey,bJ,Int.reduceBEq,Int.reduceEq,wj,wy,qg,aE,simprocAttr,ax,aD,aB,aw]
     exact⟨(_,_,[cD x]),rfl,by simpa using n,⟨fx.new4 _ _ _ _ _ _,by simp at f;simp[f]⟩,h _⟩
    .have i:bw (b.length+1) 48=true:=room_le a8 a8;have m:=qw hr;have j:=cF hr
     repeat' first|refine ab (λ_=> ?_) λ_=> ?_|refine aH ?_|refine af.data (jR q _) rfl ?_|refine af.data (t) rfl ?_|(refine af.fn ((mK _ _ _).mono ?_);rintro _ z ⟨rfl,rfl⟩)|simp only[s,y,hg,mN,wY,i,hr,j,m,g,o,h,e,ji,gF,ec,dV,aM,ia,mV,kE,AV.key,AV.keyK,kq,ey,bJ,Int.reduceBEq,Int.reduceEq,wj,wy,qg,aE,simprocAttr,ax,aD,aB,aw]
     exact⟨(_,_,b++[cD x]),rfl,by simpa using n,⟨fx.snoc (cF hr _) _,by simp[f]⟩,uZ o hr⟩
  .obtain⟨v5,M,b⟩:=b;obtain⟨⟨C,A⟩,o⟩:=w;dsimp only at n C A o;rw[fi,bq]at n;subst n;clear o A f s E h0 K I;have N:=B.deep;have O:=C.deep;rcases B with⟨rfl,Q⟩|⟨r4,rfl,_⟩<;>rcases C with⟨rfl,R⟩|⟨r5,rfl,_⟩
   all_goals
    have P:=λa b c d=>PV a b c d _ _ _ _ N O;refine aC (ga @Ao (ga @kE (ga @P @wj))) (ga @qi (ga (jR q) (ga @UW @H))) ?_
    all_goals rfl
end Go.Proofs.Q
