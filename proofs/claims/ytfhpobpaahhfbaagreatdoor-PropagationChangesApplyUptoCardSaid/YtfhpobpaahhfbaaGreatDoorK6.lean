import Derived.Test.YtfhpobpaahhfbaaGreatDoorK5
import Derived.Lib.ItoaLen
set_option linter.all false
set_option maxRecDepth 20000
open Go Go.Proofs
open Go.Proofs.Tryz
open ByteArray(empty)
open Go.IntKind(i64)
namespace Go.Am
section
def F3{c:C}{a:List aC}(h:c.toD=some (.sl a)):Rd c a:=by
 cases c<;>simp[C.toD] at h<;>subst h<;>exact⟨rfl,rfl,λ_=>rfl⟩
def Fj(M:Mp):aD:=M.step.z.map C.d++[.d (.bool M.fwd),.d (.sl (M.src.q.map E.z)),.d (.sl (M.src.b.map Fk.z)),.d (.sl (M.src.cons.map Cons.z)),.d (.sl (M.dst.q.map E.z)),.d (.sl (M.dst.b.map Fk.z)),.d (.sl (M.dst.cons.map Cons.z)),
 .d (.sl (M.cs.q.map E.z)),.d (.sl (M.cs.b.map Fk.z)),.d (.sl (M.cs.cons.map Cons.z)),.nil,.nil,.nil,.nil,.d (.int .i64 0)]
def Uh(M:Mp)(b comp:List J):aB (List J×List J×Int):=
 Z1 (VE M.src b) λd=>bif d !=0 then some ([],[],d) else
 Z1 (VE M.cs comp) λg=>bif g !=0 then some ([],[],g) else
 Z1 (Vw b) λj=>Z1 (Vw comp) λh=>Z1 (As M.dst) λo=>Z1 (As M.cs) λn=>
 Zd (λ(i:Nat) (a:J) (s:List J) next=>Z1 (Wg M.src a.u) λf=>
  bif f.2 then Z1 (Vv M.src b a.u) λq=>next (s.set i ⟨a.u,q.2⟩) else next s)
 (λs=>Z1 (ZN {M with inp:=j,comp:=h,out:=s,nc:=n,err:=0}) λc=>Zp (c.out.length+c.nc.length<=2097152)
  (Zd (λ(_:Nat) (a:J) (e:Int) next=>next (bif decide (24<a.rows.length)&&(e==0) then 12 else e))
   (λe=>bif e !=0 then some ([],[],e) else some (c.out,c.nc,0)) (c.out++c.nc) 0 c.err)) o 0 o
def OJ(h0:HS)(l:Z2)(M:Mp)(z comp:List J)(r:List J×List J×Int)(hb:h0.a l=some (Fj M))(b0:l.1<h0.p)(g:Is (Uh M z comp) r)(K:V->HS->Prop)
  (hK:∀c1 c2 h',Frz h' c1 (.sl (r.1.map J.z))->Frz h' c2 (.sl (r.2.1.map J.z))->K (.tup [.one c1,.one c2,.i r.2.2]) h'):
  Z5 prog 123 [.p l,.l (z.map J.z),.l (comp.map J.z)] h0 K:=by
 refine Z5.ov func123 ?_;unfold Uh at g;have hne:=Zv b0;have hne':=W1 b0;simp only[Fj,Stp.z,Yb,Yf,Yt,Yv] at hb;obtain⟨e1,ce,g⟩:=g.bind;simp[hb];refine Zx ((FT M.src z).h e1 ce) I ?_;simp;refine ZP g ?_ ?_<;>clear g<;>intro dc g;obtain rfl:=Zk g;simp[ZS,ZK,ZX,W5];exact hK .nil .nil _ (.data rfl) (.data rfl);obtain⟨e2,cc,g⟩:=g.bind;simp[hb];refine Zx ((FT M.cs comp).h e2 cc) I ?_;simp;refine ZP g ?_ ?_<;>clear g<;>intro c6 g;obtain rfl:=Zk g;simp[ZS,ZK,ZX,W5];exact hK .nil .nil _ (.data rfl) (.data rfl);obtain⟨i2,b8,g⟩:=g.bind;obtain⟨c2,bq,g⟩:=g.bind;simp[hb];refine Zx ((Ev z).h i2 b8) I ?_;simp[hb];refine Zx ((Ev comp).h c2 bq) I ?_;simp[hb];obtain⟨o,ho,g⟩:=g.bind;obtain⟨n,hn,g⟩:=g.bind;have cm:∀k,h0.p<=k->l.1<k:=λk c=>X
 refine Z6.cu [0,1,2,3,4,5,7,8,9,10,6,11,12,13,14,15,16,17] (λE1 B=>∃P O,En E1 150 [(0,.p l),(1,.l (z.map J.z))]/\
  MpAt B l P O {M with inp:=i2,comp:=c2,out:=o,nc:=n,err:=0}/\Z0 h0 B [l]/\(∀k∈Z P++Z O,h0.p<=k.1)/\MR B 2 O (n.map Bd)/\∀r∈n,r.rows=[]) ?_ ?_
 .simp;refine Zc (Kb _ M.dst o ho _ λP B ro az W ak=>?_);have b1:=az.2 l sO I;simp at b1;simp[b1];refine⟨ak,?_⟩;refine Zc (Z0v _ M.cs n hn _ λO C mn ay y cj u=>?_);have rn:=Zc9 mn ay;have b2:=y.2 l (by have:=az.1;simp at this;omega) I;rw[b1] at b2;simp[b2];have bn:=az.1;have bu:=y.1;simp at bn;have ad:∀k∈Z P,h0.p<=k.1/\k.1<B.p:=λk c=>by have:=W k c;simp at this;omega
  have ag:∀k∈Z O,B.p<=k.1/\k.1<C.p:=λk c=>cj k c;have U:∀k∈Z P,k≠l:=λk c he=>by have:=(ad k c).1;rw[he] at this;omega
  have am:∀k∈Z O,k≠l:=λk c he=>by have:=(ag k c).1;rw[he] at this;omega
  refine⟨u,Ze.of ⟨P,O,I,⟨by simp[WJ,Mp.z,Stp.z],ro.frame λk c=>?_,rn.frame λk c=>?_,λk c=>?_,?_,?_,?_⟩,?_,λk c=>?_,mn.frame λk c=>?_,ay⟩⟩
  have:=y.2 k (ad k c).2 I
  simp[U k c,this];simp[am k c];simp only[Y5,Y3] at c;simp;rcases c with rfl|c|c;omega
  have:=(ad k c).2;omega
  exact(ag k c).2;exact λt=>U l t rfl;exact λt=>am l t rfl;exact λk c t=>by have:=(ad k c).2;have:=(ag k t).1;omega
  .refine Z0.xV (Z0.xV ?_ (.inl I)) (.inl I);refine Z0.trans ?_ (y.mn);refine Z0.trans ?_ (az.mn)
   repeat' first|exact Z0.refl|apply Z0.w|apply Z0.qC|(refine Z0.xV ?_ (.inl I))
  rcases Y3.1 c with t|t;exact(ad k t).1
  have:=(ag k t).1;omega
  simp[am k c]
 rintro E1 B ⟨P,O,a,mA,da,c7,hN,ay⟩;have bc:=mA.a;simp only[WJ,Mp.z,Stp.z,Yb,Yf,Yt,Yv] at bc;obtain⟨xs,mx,-,hlen,cy⟩:=mA.out.len;simp[a,bc];refine MR.lenK mx ?_;simp[a,bc];have cx:o.length<=2097152:=by have:=mx.2.1;rw[hlen] at this;simpa using this
 have cl:l.1<B.p:=mA.lt l I;refine Z6.for (xs:=o) (s0:=o) (λi s v h'=>Ek E1 v [(64,.one P),(65,.i (o.length:Int)),(66,.i (i:Int))] [0,1]/\
  MpAt h' l P O {M with inp:=i2,comp:=c2,out:=s,nc:=n,err:=0}/\Z0 B h' (Z P)/\s.length=o.length/\∀j,i<=j->s[j]?=o[j]?) g ⟨by simp[a,hlen],mA,.refl,rfl,λ_ _=>rfl⟩ ?_ ?_
 rintro i s e h' ⟨hF,R,hs,bf,hj⟩ Q g;have a:=hF.an a;have hw:IntKind.i64.wrap ((i:Int)+1)=(i:Int)+1:=Y6 _ X;have ak:=R.a;simp only[WJ,Mp.z,Stp.z,Yb,Yf,Yt,Yv] at ak;obtain⟨ys,my,he',hyl,ck⟩:=R.out.len;have cb:s[i]?=some o[i]:=by rw[hj i (Y7 _)];exact Y1 Q
 obtain⟨c',hx,bp⟩:=ck i _ cb;have au:i<ys.length:=(Y0.1 hx).1;obtain⟨lo,F,sp,rfl,bm,Y⟩:=my.block X;have bj:Zs 2 ((Zb ys sp).drop (i*2))=some [.d (.str o[i].u),c']:=by have t:=VH (sp:=sp) (f:=0) (m:=2) my.1 hx I;simpa[Zs] using t
 have cz:=Ah (sp:=sp) my.1 (k:=i) au;have aw:l.1<h'.p:=R.lt l I;have U:=Zv aw;have a7:=W1 aw;have bi:lo.1<h'.p:=R.lt lo (by simp[Z]);have cq:=Zv bi;have cp:=W1 bi;obtain⟨f,hf,g⟩:=g.bind;simp[a,Q,ak,au,bm,bj];refine Z6.cu aV (λv C=>Ek e v [(64,.one (.mrow lo 0 ys.length F))] [0,1,65,66]/\
  v.get 11=.i (i:Int)/\v.get 12=.p (h'.p,192)/\C.a (h'.p,192)=some [.d (.str o[i].u),c']/\v.get 14=.b f.2/\Z0 h' C []/\h'.p<C.p) ?_ ?_
 simp[a,ak,U,a7];refine Zx ((AU M.src o[i].u).h f hf) I ?_;simp[a,ak,U,a7]
 try refine⟨λ_ _ x=>x,?_⟩
 refine Ze.of ⟨by simp[a],by simp[a],by simp[a],I,I,?_,I⟩;exact sm;rintro e2 C ⟨hF,al,aq,b4,ap,y,bu⟩;have a:=hF.an a;have N:=R.frame y;have u:=N.a;simp only[WJ,Mp.z,Stp.z,Yb,Yf,Yt,Yv] at u;have bk:=(y.2 lo bi I).trans bm;simp[a,al,aq,ap];refine ZP g ?_ ?_<;>clear g<;>intro hc g;obtain⟨q,hq,g⟩:=g.bind;simp[a,al,aq,ap];have ci:i*2+1+1<=(Zb ys sp).length:=X
 refine Z6.cu bA (λv S=>Ek e2 v [] [0,1,64,65,66]/\
  MpAt S l (.mrow lo 0 ys.length F) O {M with inp:=i2,comp:=c2,out:=s.set i ⟨o[i].u,q.2⟩,nc:=n,err:=0}/\Z0 h' S [lo]) ?_ ?_
 simp[a,al,aq,ap,u,b4];refine Zx ((Z1c M.src z o[i].u).h q hq) I ?_;simp[a,al,aq,ap,u,b4,au,bk,ci];have ba:=R.nl.1;simp[Z] at ba
 try refine⟨λ_ _ x=>x,?_⟩
 refine Ze.of ⟨by simp[a],⟨?_,?_,?_,?_,R.nl⟩,?_⟩;simp[ba];exact N.a;exact IW my.1 rfl my.2.1 Y hx rfl he' _;exact N.nc.frame λk b6=>by
  have:=R.nl.2.2 lo (by simp[Z])
  have:k≠lo:=by rintro rfl;exact this b6
  simp[this]
 intro k c
 have:=N.lt k c
 simp;omega;exact((y.mn).w).xV (.inl I);rintro e3 S ⟨hF,m3,hs3⟩;have a:=hF.an a;simp[a,hw];exact Zj.of (s.set i ⟨o[i].u,q.2⟩) ⟨⟨by simp[a],m3,hs.trans (hs3.mono (by simp[Z])),by simpa using bf,λj hij=>by rw[Ys X];exact hj j X⟩,g⟩;simp[a,al,aq,ap,hw];exact Zj.of s ⟨⟨by simp[a],N,hs.trans (y.mn),bf,λj hij=>hj j X⟩,g⟩;rintro s e h' ⟨hF,R,hs,bf,hj⟩ g;have a:=hF.an a;simp[a];obtain⟨E,cd,g⟩:=g.bind;obtain⟨hlen2,g⟩:=g.chk;refine Zc (NG _ l P O _ E cd R (hN.frame λk c=>hs.2 k (mA.lt k (by simp[c])) λt=>mA.nl.2.2 k t c) ay _ λC ao a1 N y=>?_);have u:=N.a;simp only[WJ,Mp.z,Stp.z,Yb,Yf,Yt,Yv] at u;obtain⟨xo,mo,c8,bb,ch⟩:=N.out.len;obtain⟨xn,mn,hxn,U,bv⟩:=N.nc.len;simp[a];refine Z6.cu [0,1,2,3,5,6,7,8,11,4,9,10] (λe3 S=>∃ca,En e3 150 [(0,.p l),(112,.one ca),(113,.i ((xo++xn).length:Int)),(114,.i 0)]/\MR S 2 ca (xo++xn)/\Z0 C S []/\(∀k∈Z ca,C.p<=k.1/\k.1<S.p)) ?_ ?_;simp[a,u];refine Zc (Tu _ ao xo mo.rd _ λca S ma bg W bd=>?_);simp[a,u];refine⟨bd,?_⟩;refine Wl CB kR dE dE ma (MR.rd (mn.frame λk c=>bg.2 k (N.lt k (by simp[c])) I)) (by rw[bb,U];exact hlen2) λcg h4 br a8 bz=>?_;simp[a,u];refine MR.lenK br ?_;simp[a,u];refine Ze.of ⟨cg,by simp[a],br,bg.trans' a8 λk c=>.inr (W k c).1,λk c=>?_⟩;rcases bz k c with t|t;exact⟨(W k t).1,Y4 (W k t).2 a8.1⟩;exact⟨YE bg.1 t.1,t.2⟩;rintro e3 S ⟨ca,a,ma,hs3,W⟩;have m3:=N.frame hs3;have hL:(xo++xn).length=(E.out++E.nc).length:=by simp[bb,U]
 have ar:∀(i:Nat) (A:J),(E.out++E.nc)[i]?=some A->∃c',(xo++xn)[i]?=some [.d (.str A.u),c']/\c'.toD=some (.sl (A.rows.map (Z7 GV.z))):=by intro i A hi;rcases Yx i E.out.length with t|t;rw[Yu t] at hi;rw[Yu X];exact ch i A hi;rw[YC t] at hi;rw[YC X,bb];exact bv _ A hi
 generalize E.out++E.nc=L at g hL ar;generalize xo++xn=xq0 at a ma hL ar;refine Z6.for (xs:=L) (s0:=E.err) (λi s v h'=>Ek e3 v [(113,.i (L.length:Int)),(114,.i (i:Int))] [0,112]/\
  MpAt h' l ao a1 {E with err:=s}/\MR h' 2 ca (xq0)/\∀k∈Z ca,k≠l/\k.1<h'.p) g ⟨by simp[a,hL],m3,ma,λk c=>⟨λhe=>?_,(W k c).2⟩⟩ ?_ ?_
 have:=(W k c).1
 have:=N.lt l I
 rw[he] at*;omega
 .rintro i s e h' ⟨hF,D,aj,T⟩ Q g;have a:=hF.an a;have hw:IntKind.i64.wrap ((i:Int)+1)=(i:Int)+1:=Y6 _ (by have:=aj.2.1;rw[hL] at this;simp at this;omega);have G:=D.a;simp only[WJ,Mp.z,Stp.z,Yb,Yf,Yt,Yv] at G;obtain⟨c',hx,bp⟩:=ar i _ (Y1 Q);have au:i<xq0.length:=X
  obtain⟨la,F,sp,rfl,bd,Y⟩:=aj.block X;have bj:Zs 2 ((Zb xq0 sp).drop (i*2))=some [.d (.str L[i].u),c']:=by have t:=VH (sp:=sp) (f:=0) (m:=2) aj.1 hx I;simpa[Zs] using t
  have aw:l.1<h'.p:=D.lt l I;have ah:=Zv aw;have ac:=W1 aw;simp[a,Q,au,bd,bj];refine CD (F3 bp).1 (λcw=>?_);simp[a,G,ah,ac];have same:∀(h6:HS) (e6:Env),Z0 h' h6 []->e6.n=150->e6.get 0=.p l->e6.get 112=.one (.mrow la 0 xq0.length F)->e6.get 113=.i (L.length:Int)->e6.get 114=.i ((i:Int)+1)->
    (bif decide (24<L[i].rows.length)&&(s==0) then 12 else s)=s->Zj (iq0:=⟨λs' e h=>(Ek e3 e [(113,.i (L.length:Int)),(114,.i ((i+1:Nat):Int))] [0,112]/\
  MpAt h l ao a1 {E with err:=s'}/\MR h 2 (.mrow la 0 xq0.length F) xq0/\∀k∈Z (.mrow la 0 xq0.length F),k≠l/\k.1<h.p)/\Is (Zd (λ(_:Nat) (A:J) (e:Int) next=>next (bif decide (24<A.rows.length)&&(e==0) then 12 else e)) (λe=>bif e !=0 then some ([],[],e) else some (E.out,E.nc,0)) (L.drop (i+1)) (i+1) s') r⟩) e6 h6:=by
   intro h6 e6 bh b9 g0 bt b5 bw b7;rw[b7] at g;exact Zj.of s ⟨⟨by simp[a,b9,g0,bt,b5,bw],D.frame bh,aj.frame λk c=>bh.2 k (T k c).2 I,λk c=>⟨(T k c).1,Y4 (T k c).2 bh.1⟩⟩,g⟩
  by_cases hg:24<L[i].rows.length;have ax:(24:Int)<(L[i].rows.length:Int):=X
  by_cases hz:s=0;subst hz;simp[hg] at g;simp[a,hw,G,ah,ac,ax];refine Zj.of 12 ⟨⟨by simp[a],⟨by simp[WJ,Mp.z,Stp.z],D.out.frame λk c=>?_,D.nc.frame λk c=>?_,λk c=>?_,D.nl⟩,aj.frame λk c=>?_,λk c=>⟨(T k c).1,?_⟩⟩,by simpa using g⟩;have B:k≠l:=by rintro rfl;exact D.nl.1 c
  have C:=Zv (l:=k) (n:=h'.p) (D.lt k (by simp[c]));simp[B,C];have B:k≠l:=by rintro rfl;exact D.nl.2.1 c
  have C:=Zv (l:=k) (n:=h'.p) (D.lt k (by simp[c]));simp[B,C]
  have:=D.lt k c
  simp;omega;have B:=(T k c).1;have C:=Zv (l:=k) (n:=h'.p) (T k c).2;simp[B,C]
  have:=(T k c).2
  simp;omega;have b3:(s==0)=false:=by simpa using hz
  simp[a,hw,G,ah,ac,ax,b3];refine same _ _ ?_ ?_ ?_ ?_ ?_ ?_ ?_;exact sm;simp[a];simp[a];simp[a];simp[a];simp;rw[b3,Y07];rfl;have ax:¬(24:Int)<(L[i].rows.length:Int):=X
  simp[a,hw,G,ah,ac,ax];refine same _ _ ?_ ?_ ?_ ?_ ?_ ?_ ?_;exact sm;simp[a];simp[a];simp[a];simp[a];simp;simp[hg]
 rintro s e h' ⟨hF,D,aj,T⟩ g;have a:=hF.an a;have G:=D.a;simp only[WJ,Mp.z,Stp.z,Yb,Yf,Yt,Yv] at G;simp[a,G];refine ZP g ?_ ?_<;>clear g<;>intro hc g;obtain rfl:=Zk g;simp[a,G];refine Z6.cu aU (λe4 h4=>En e4 150 [(6,.one .nil),(7,.one .nil),(8,.i s)]) ?_ ?_;simp[a,G];exact Ze.of (by simp[a]);rintro e4 h4 a;simp[ZS,ZK,ZX,W5,a];exact hK .nil .nil _ (.data rfl) (.data rfl);obtain rfl:=Zk g;simp[a,G];refine Z6.cu aQ (λe4 h4=>h4=h'/\En e4 150 [(6,.one ao),(7,.one a1),(8,.i 0)]) ?_ ?_;simp[a,G];exact Ze.of ⟨rfl,by simp[a]⟩;rintro e4 h4 ⟨rfl,a⟩;simp[ZS,ZK,ZX,W5,a];exact hK ao a1 _ D.out.frz D.nc.frz
def Es(step:Stp):aB Stp:=
 Z1 (El step.j) λv3=>Z1 (De step.v) λv4=>Z1 (El step.fk.j) λv5=>some (Stp.mk step.g step.u step.o step.d step.s step.type v3 step.op step.value v4 step.cons (Fk.mk step.fk.u v5 step.fk.ref))
instance Nw(step:Stp):Con (Es step) prog 116 [.agg step.z] (λr=>.agg (r.z.map RC.d)):=by unfold Es;exact go 18 func116
def A9(S:Sch)(step:Stp)(a b:List J):aB (List J×List J×Int):=
 Z1 (Bx S step) λq=>bif q.2.2 !=0 then some ([],[],q.2.2) else
 Z1 (Es step) λc=>Z1 (UG S) λS2=>Uh ⟨c,true,S2,q.1,q.2.1,[],[],[],[],0⟩ a b
def A8(S:Sch)(step:Stp)(a b:List J):aB (List J×List J×Int):=
 Z1 (Bx S step) λq=>bif q.2.2 !=0 then some ([],[],q.2.2) else
 Z1 (Es step) λc=>Z1 (UG S) λS2=>Uh ⟨c,false,q.1,S2,q.2.1,[],[],[],[],0⟩ a b
def Z1x(S step a b r)(c:Is (A9 S step a b) r):
  Zq prog 105 [.agg S.z,.agg step.z,.l (a.map J.z),.l (b.map J.z)] (.tup [.l (r.1.map J.z),.l (r.2.1.map J.z),.i r.2.2]):=by
 unfold A9 at c;refine Zq.of_heap ?_;show Z5 _ _ [.agg (S.z.map C.d),.agg (step.z.map C.d),.l (a.map J.z),.l (b.map J.z)] HS.init _;refine Z5.qM func105 rfl kR rfl rfl I ?_;have⟨q,n,c⟩:=c.bind;simp;refine Zx (Kj S step q n) I ?_;simp;refine ZP c ?_ ?_<;>clear c<;>intro _ c;obtain rfl:=Zk c;simp[ZS,ZK,ZX,W5];exact⟨.data rfl,.data rfl,.data rfl,trivial⟩;have⟨h,e,c⟩:=c.bind;have⟨S2,j,c⟩:=c.bind;simp;refine Z6.cu [0,2,4,5,1,3,6,7,8] (λf d=>∃l,En f 40 [(2,.l (a.map J.z)),(3,.l (b.map J.z)),(14,.p l)]/\l.1<d.p/\d.a l=some (Fj ⟨h,true,S2,q.1,q.2.1,[],[],[],[],0⟩)) ?_ ?_;simp;refine Zx ((Nw step).h h e) I ?_;simp
 try refine⟨λ_ _ x=>x,?_⟩
 refine Zx (Ki S S2 j) I ?_;simp;refine⟨λ_ _ x=>x,?_⟩
 try simp
 exact Ze.of ⟨(7,512),I,I,by simp[Fj,Stp.z]⟩;rintro f d ⟨l,g,m,k⟩;simp[g];refine Zc (OJ _ l _ a b r k m c _ λc1 c2 h2 f1 f2=>?_);simp[ZS,ZK,ZX,W5,g];exact⟨f1,f2,.data rfl,trivial⟩
def Z1k(S step a b r)(c:Is (A8 S step a b) r):
  Zq prog 106 [.agg S.z,.agg step.z,.l (a.map J.z),.l (b.map J.z)] (.tup [.l (r.1.map J.z),.l (r.2.1.map J.z),.i r.2.2]):=by
 unfold A8 at c;refine Zq.of_heap ?_;show Z5 _ _ [.agg (S.z.map C.d),.agg (step.z.map C.d),.l (a.map J.z),.l (b.map J.z)] HS.init _;refine Z5.qM func106 rfl kR rfl rfl I ?_;have⟨q,n,c⟩:=c.bind;simp;refine Zx (Kj S step q n) I ?_;simp;refine ZP c ?_ ?_<;>clear c<;>intro _ c;obtain rfl:=Zk c;simp[ZS,ZK,ZX,W5];exact⟨.data rfl,.data rfl,.data rfl,trivial⟩;have⟨h,e,c⟩:=c.bind;have⟨S2,j,c⟩:=c.bind;simp;refine Z6.cu [0,2,3,5,1,4,6,7,8] (λf d=>∃l,En f 40 [(2,.l (a.map J.z)),(3,.l (b.map J.z)),(14,.p l)]/\l.1<d.p/\d.a l=some (Fj ⟨h,false,q.1,S2,q.2.1,[],[],[],[],0⟩)) ?_ ?_;simp;refine Zx ((Nw step).h h e) I ?_;simp
 try refine⟨λ_ _ x=>x,?_⟩
 refine Zx (Ki S S2 j) I ?_;simp;refine⟨λ_ _ x=>x,?_⟩
 try simp
 exact Ze.of ⟨(7,512),I,I,by simp[Fj,Stp.z]⟩;rintro f d ⟨l,g,m,k⟩;simp[g];refine Zc (OJ _ l _ a b r k m c _ λc1 c2 h2 f1 f2=>?_);simp[ZS,ZK,ZX,W5,g];exact⟨f1,f2,.data rfl,trivial⟩
def Wt(h:HS)(c:C)(b:aC):Prop:=∃a,MR h 1 c (Zw a)/\a.map C.toD=b.map some
def Wt.frame{h h' c a}(m:Wt h c a)(b:∀l∈Z c,h'.a l=h.a l):Wt h' c a:=by have⟨f,e,d⟩:=m;exact⟨f,e.frame b,d⟩
def Wt.frz{h c e}(m:Wt h c e):Frz h c (.sl (e.map λd=>[d])):=by
 have⟨j,l,g⟩:=m;have k:j.length=e.length:=by have:=congrArg List.length g;simpa using this
 refine l.frz (by simp[Zw,k]) (λt a=>by obtain⟨y,_,rfl⟩:=Yi.1 a;rfl) λi x t b a=>?_;simp only[Zw,Y9] at b a;have f:=congrArg (λz=>z[i]?) g;simp only[Y9] at f;cases hr:j[i]? with
 |none=>rw[hr] at b;cases b
 |some r=>?_
 cases hd:e[i]? with
 |none=>rw[hd] at a;cases a
 |some d=>?_
 rw[hr] at b f;rw[hd] at a f;cases b;cases a;exact⟨.data (sU f),trivial⟩
def Wt.at{h c ds}(m:Wt h c ds){i:Nat}(hi:i<ds.length):∃lr cap bs,c=.mrow lr 0 ds.length cap/\h.a lr=some bs/\i+1<=bs.length/\(∃x,Zs 1 (bs.drop i)=some [x]/\some (x.toD)=some (ds[i]?))/\
  ∀(H:HS) x d,x.toD=some d->Wt (H.xV lr (Zi bs i [x])) c (ds.set i d):=by
 have⟨rs,hm,he⟩:=m;have hl:rs.length=ds.length:=by have:=congrArg List.length he;simpa using this
 have⟨lr,cap,sp,hc,hb,hcap⟩:=hm.block (by simp[Zw];omega);rw[GC] at hb hcap;simp only[Zw,Yd,hl] at hc;refine⟨lr,cap,rs++sp,hc,hb,sO,⟨rs[i]'X,?_,?_⟩,λH x d hx=>⟨rs.set i x,?_,?_⟩⟩;have hd:(rs++sp).drop i=rs[i]'X::(rs.drop (i+1)++sp):=by rw[Xv X,YB X];rfl
 rw[hd];simp[Zs];have h9:=congrArg (λz=>z[i]?) he;simp only[Y9,Y1 (X:i<rs.length),Y1 hi,Yp,Ya] at h9;rw[h9,Y1 hi]
 have:=PQ (h:=H) (l:=lr) (i:=i) (x:=x) hcap (by have:=hm.2.1;simpa[Zw] using this) X
 rw[hl] at this
 rwa [hc]
 rw[YJ,YJ,he,hx]
def Wt.make{h l}{n:Nat}{zc d}(a:h.a l=some (List.replicate n zc))(c:zc.toD=some d)(b:n<=2097152):Wt h (.mrow l 0 n n) (List.replicate n d):=by
 refine⟨List.replicate n zc,?_,by simp[c]⟩
 have:=IX (cap:=n) (sp:=[]) (sU a) I (sU b)
 simpa using this
def UF(S:Sch)(a:List Stp)(b:List J)(f:List (List J)):aB (List J×List (List J)×Int):=
 Z1 (Bu S a) λq=>bif q.2 !=0 then some ([],[],q.2) else bif (f.length:Int) !=(a.length:Int) then some ([],[],3) else
 Z1 (VE S b) λe=>bif e !=0 then some ([],[],e) else Z1 (Vw b) λd=>
 Zd (λ(i:Nat) (step:Stp) (s:List J×List (List J)) next=>Za q.1 i λg=>Za f i λc=>Z1 (A9 g step s.1 c) λr=>
  bif r.2.2 !=0 then some ([],[],r.2.2) else next (r.1,s.2.set i r.2.1)) (λs=>some (s.1,s.2,0)) a 0 (d,List.replicate a.length [])
def UD(S:Sch)(a:List Stp)(b:List J)(g:List (List J)):aB (List J×List (List J)×Int):=
 Z1 (Bu S a) λq=>bif q.2 !=0 then some ([],[],q.2) else bif (g.length:Int) !=(a.length:Int) then some ([],[],3) else
 Za q.1 a.length λf=>Z1 (VE f b) λe=>bif e !=0 then some ([],[],e) else Z1 (Vw b) λd=>
 AB (λ(s:Int×List J×List (List J)) next=>bif decide (0<=s.1) then Za q.1 s.1 λh=>Za a s.1 λstep=>Za g s.1 λc=>Z1 (A8 h step s.2.1 c) λr=>
  bif r.2.2 !=0 then some ([],[],r.2.2) else next (s.1-1,r.1,s.2.2.set s.1.toNat r.2.1) else some (s.2.1,s.2.2,0)) (a.length+1) ((a.length:Int)-1,d,List.replicate a.length [])
abbrev Wq(inst:List J):D:=.sl (inst.map J.z)
def NA(S b)(f:List J)(y:List (List J))(r:List J×List (List J)×Int)(hm:Is (UF S b f y) r):
  Zq prog 75 [.agg S.z,.l (b.map Stp.z),.l (f.map J.z),.l (y.map (Z7 J.z))] (.tup [.l (r.1.map J.z),.l (r.2.1.map (Z7 J.z)),.i r.2.2]):=by
 unfold UF at hm;refine Zq.of_heap ?_;show Z5 _ _ [.agg (S.z.map C.d),.l (b.map Stp.z),.l (f.map J.z),.l (y.map (Z7 J.z))] HS.init _;refine Z5.ov func75 ?_;have⟨q,W,hm⟩:=hm.bind;simp;refine Zx ((Nz S b).h q W) I ?_;simp;refine ZP hm ?_ ?_<;>clear hm<;>intro _ hm;obtain rfl:=Zk hm;simp[ZS,ZK,ZX,W5];exact⟨.data rfl,.data rfl,.data rfl,trivial⟩;simp;intro _ ay;refine ZP hm ?_ ?_<;>clear hm<;>intro _ hm;obtain rfl:=Zk hm;simp[ZS,ZK,ZX,W5];exact⟨.data rfl,.data rfl,.data rfl,trivial⟩;have⟨e,he,hm⟩:=hm.bind;simp;refine Zx ((FT S f).h e he) I ?_;simp;refine ZP hm ?_ ?_<;>clear hm<;>intro _ hm;obtain rfl:=Zk hm;simp[ZS,ZK,ZX,W5];exact⟨.data rfl,.data rfl,.data rfl,trivial⟩;have⟨n,hi,hm⟩:=hm.bind;simp;refine Zx ((Ev f).h n hi) I ?_;simp;intro _;refine⟨X,λax=>?_⟩;refine Z6.for (xs:=b) (s0:=(n,List.replicate b.length [])) (λi s e u=>∃c,En e 74 [(3,.l (y.map (Z7 J.z))),(11,.l (q.1.map Sch.z)),(14,.l (s.1.map J.z)),(15,.one c)]/\
  e.get 43=.l (b.map Stp.z)/\e.get 44=.i (b.length:Int)/\e.get 45=.i (i:Int)/\Wt u c (s.2.map Wq)/\s.2.length=b.length/\∀k∈Z c,k.1<u.p) hm
  ⟨.mrow (4,672) 0 b.length b.length,I,I,I,I,?_,I,by simp[Z]⟩ ?_ ?_
 rw[Y35];refine Wt.make (zc:=.nil) ?_ rfl X;simp;rintro i s e u ⟨c,g,t,p,o,w,R,T⟩ hlt hm;have Y:IntKind.i64.wrap ((i:Int)+1)=(i:Int)+1:=Y6 _ X;have⟨U,F,hm⟩:=hm.qQ;have⟨V,L,hm⟩:=hm.qQ;have⟨v,Q,hm⟩:=hm.bind;have A:i<(s.2.map Wq).length:=sO
 obtain⟨lr,cap,bs,rfl,M,K,-,O⟩:=w.at A;simp at A;have B:lr.1<u.p:=T lr (by simp[Z]);have G:=Zv B;have P:=W1 B;simp[g,t,p,o,hlt];refine Z6.cu [0,1,2,3,4,5,6,7,8,9,10,11,12,13,14,15,16,17,18,19,20] (λj E=>Ek e j [(14,.l (v.1.map J.z)),(15,.one (.mrow lr 0 (s.2.map Wq).length cap))] [3,11]/\
  j.get 43=.l (b.map Stp.z)/\j.get 44=.i (b.length:Int)/\j.get 45=.i (i:Int)/\j.get 12=.i v.2.2/\Wt E (.mrow lr 0 (s.2.map Wq).length cap) ((s.2.set i v.2.1).map Wq)/\lr.1<E.p) ?_ ?_
 simp[g,F,L];refine Zx (Z1x U b[i] s.1 V v Q) I ?_;simp[g,A,M,G,K];refine⟨λ_ _ x=>x,?_⟩
 try simp[g,t,p,o,F,L,A,M,G,P,K]
 refine Ze.of ⟨by simp[g],by simp[t],by simp[p],by simp[o],I,?_,?_⟩;rw[YJ];exact O _ _ _ rfl;simp;omega;rintro N E ⟨hF,t,p,o,D,w,B⟩;have g:=hF.an g;simp[g,D];refine ZP hm ?_ ?_<;>clear hm<;>intro _ hm;obtain rfl:=Zk hm;simp[ZS,ZK,ZX,W5,g,D];exact⟨.data rfl,.data rfl,.data rfl,trivial⟩;simp[g,o,D,Y];exact Zj.of (v.1,s.2.set i v.2.1) ⟨⟨_,by simp[g],by simp[t],by simp[p],I,w,sU R,by simpa[Z] using B⟩,hm⟩;rintro s e u ⟨c,g,t,p,o,w,_,_⟩ hm;obtain rfl:=Zk hm;simp[ZS,ZK,ZX,W5,g,p,o];refine⟨.data rfl,?_,.data rfl,trivial⟩;have N:(s.2.map Wq).map (λd=>[d])=s.2.map (Z7 J.z):=by rw[YY];rfl
 show Frz u c _;rw[<-N];exact w.frz
def Nv(S b)(f:List J)(A:List (List J))(r:List J×List (List J)×Int)(hm:Is (UD S b f A) r):
  Zq prog 76 [.agg S.z,.l (b.map Stp.z),.l (f.map J.z),.l (A.map (Z7 J.z))] (.tup [.l (r.1.map J.z),.l (r.2.1.map (Z7 J.z)),.i r.2.2]):=by
 unfold UD at hm;refine Zq.of_heap ?_;show Z5 _ _ [.agg (S.z.map C.d),.l (b.map Stp.z),.l (f.map J.z),.l (A.map (Z7 J.z))] HS.init _;refine Z5.ov func76 ?_;have⟨q,hq,hm⟩:=hm.bind;simp;refine Zx ((Nz S b).h q hq) I ?_;simp;refine ZP hm ?_ ?_<;>clear hm<;>intro _ hm;obtain rfl:=Zk hm;simp[ZS,ZK,ZX,W5];exact⟨.data rfl,.data rfl,.data rfl,trivial⟩;simp;intro _ a1;refine ZP hm ?_ ?_<;>clear hm<;>intro _ hm;obtain rfl:=Zk hm;simp[ZS,ZK,ZX,W5];exact⟨.data rfl,.data rfl,.data rfl,trivial⟩;have⟨w,U,hm⟩:=hm.qQ;have⟨e,he,hm⟩:=hm.bind;simp;intro _;simp[U];refine Zx ((FT w f).h e he) I ?_;simp;refine ZP hm ?_ ?_<;>clear hm<;>intro _ hm;obtain rfl:=Zk hm;simp[ZS,ZK,ZX,W5];exact⟨.data rfl,.data rfl,.data rfl,trivial⟩;have⟨v,hi,hm⟩:=hm.bind;simp;refine Zx ((Ev f).h v hi) I ?_;simp;intro _;refine⟨X,λaz=>?_⟩;have L:IntKind.i64.wrap ((b.length:Int)-1)=(b.length:Int)-1:=Y6 _ X;simp[L];refine Z6.rU (λs e u=>∃c,En e 79 [(1,.l (b.map Stp.z)),(3,.l (A.map (Z7 J.z))),(11,.l (q.1.map Sch.z)),(14,.l (s.2.1.map J.z)),(15,.one c)]/\
  e.get 16=.i s.1/\Wt u c (s.2.2.map Wq)/\s.2.2.length=b.length/\-1<=s.1/\s.1<(b.length:Int)/\∀k∈Z c,k.1<u.p) hm
  ⟨.mrow (4,720) 0 b.length b.length,I,I,?_,I,sO,sO,by simp[Z]⟩ ?_
 show Wt _ _ (List.map Wq (List.replicate b.length []));rw[Y35];refine Wt.make (zc:=.nil) ?_ rfl X;simp;rintro n ⟨i,M,o⟩ e u ⟨c,g,j,y,R,K,au,ax⟩ hm;simp only at g j y R K au hm;simp[g,j];refine ZP hm ?_ ?_<;>clear hm<;>intro _ hm;have⟨ay,F,O,hm⟩:=hm.get;obtain⟨step,-,N,hm⟩:=hm.get;obtain⟨cm,-,Q,hm⟩:=hm.get;have⟨t,aw,hm⟩:=hm.bind;have hw:IntKind.i64.wrap (i-1)=i-1:=Y6 _ X;have D:i.toNat<(o.map Wq).length:=sO
 obtain⟨lr,cap,bs,rfl,T,P,-,V⟩:=y.at D;simp at D;have B:lr.1<u.p:=ax lr (by simp[Z]);have Y:=Zv B;have W:=W1 B;simp[j];refine Z6.cu bB (λp G=>Ek e p [(14,.l (t.1.map J.z)),(15,.one (.mrow lr 0 (o.map Wq).length cap))] [1,3,11]/\
  p.get 16=.i i/\p.get 12=.i t.2.2/\Wt G (.mrow lr 0 (o.map Wq).length cap) ((o.set i.toNat t.2.1).map Wq)/\lr.1<G.p) ?_ ?_
 simp[g,j,F,O,Q,N];refine Zx (Z1k ay step M cm t aw) I ?_;simp[g,F,D,T,P]
 try refine⟨λ_ _ x=>x,?_⟩
 try simp[g,j,F,O,Q,N,D,T,Y,W,P]
 refine Ze.of ⟨by simp[g],by simp[j],I,?_,?_⟩;rw[YJ];exact V _ _ _ rfl;simp;omega;rintro e2 G ⟨hF,j,E,y,B⟩;have g:=hF.an g;simp[g,E];refine ZP hm ?_ ?_<;>clear hm<;>intro _ hm;obtain rfl:=Zk hm;simp[ZS,ZK,ZX,W5,g,E];exact⟨.data rfl,.data rfl,.data rfl,trivial⟩;simp[g,j,E,hw];exact Zj.of (i-1,t.1,o.set i.toNat t.2.1) ⟨⟨_,by simp[g],I,y,sU R,sO,sO,by simpa[Z] using B⟩,hm⟩;obtain rfl:=Zk hm;simp[ZS,ZK,ZX,W5,g,j];refine⟨.data rfl,?_,.data rfl,trivial⟩;have e1:(o.map Wq).map (λd=>[d])=o.map (Z7 J.z):=by rw[YY];rfl
 show Frz u c _;rw[<-e1];exact y.frz
def RB(a:List J):Prop:=a.length<=6/\∀r∈a,r.rows.length<=24
def CF.rb{S:Sch}(b:VS S){a:List J}(h:CF S a):RB a:=⟨by rw[h.len];exact b.t6,h.l24⟩
def Z0r(x:Stp):Wp (Es x) λr=>r=x:=by
 unfold Es;refine X0 (R:=λr=>r=x.j) (X2 rfl) λa _ d=>X0 (R:=λr=>r=x.v) (X2 (by cases x.v;rfl)) λb _ e=>X0 (R:=λr=>r=x.fk.j) (X2 rfl) λc _ f=>X2 ?_;subst d e f;cases x;rfl
def SB(n:Nat)(r:List J×List (List J)×Int):Prop:=RB r.1/\r.2.1.length=n/\(∀c∈r.2.1,RB c)/\n<=6
def RB.nil:RB []:=⟨I,I⟩
def Ry{a:List (List J)}{i:Nat}{c:List J}(h:∀c∈a,RB c)(b:RB c):∀d∈a.set i c,RB d:=λd e=>by rcases YZ e with h9|rfl;exact h d h9;exact b
def WK(A:Sch)(ρ:RN):RN:=λn=>match Fa A n with
 |some _=>ρ n
 |none=>[]
def Vl{A}(a:Wf A.q){ρ T}(b:T∈A.q):WK A ρ T.y=ρ T.y:=by unfold WK;rw[C7 a b]
def Zac{A ρ n}(h:∀T∈A.q,T.y≠n):WK A ρ n=[]:=by unfold WK;rw[Z56.2 h]
def Zn(x:Stp)(a:Bool)(A B C:Sch)(ρ σ:RN):Mp:=⟨x,a,A,B,C,mkI A ρ,mkI C σ,mkI B (WK A ρ),mkI C λ_=>[],0⟩
structure Pre(A B C:Sch)(ρ σ:RN):Prop where
 a:VS A
 b:VS B
 t6:C.q.length<=6
 ck:∀T∈C.q,T.pk.length<=6/\T.j.length<=100
 cn:Wf C.q
 ra:RI A ρ
 rc:RI C σ
def Pre.li{x fwd A B C ρ σ}(p:Pre A B C ρ σ):LI (Zn x fwd A B C ρ σ) ρ σ:=⟨p.a,p.b,rfl,p.ra,rfl,p.rc,p.ck,p.cn⟩
def Mn{x v A B C}{ρ σ:RN}(p:Pre A B C ρ σ){g}(hd:ZN (Zn x v A B C ρ σ)=some g)(hl:g.out.length+g.nc.length<=12):
  Wp (Uh ⟨x,v,A,B,C,[],[],[],[],0⟩ (mkI A ρ) (mkI C σ)) λr=>(r.2.2=0↔g.err=0/\∀q∈g.out++g.nc,q.rows.length<=24)/\(r.2.2=0->r=(g.out,g.nc,0)):=by
 have F:=p.a;have hB:=p.b;have a6:=F.t6;have b6:=hB.t6;have c6:=p.t6;have S:=Ie (λT a=>(F.tab T a).pk6) (CF.jV p.ra);have V:=Ie (λT a=>(p.ck T a).1) (CF.jV p.rc);have l1:=(CF.jV p.ra).l24;have l2:=(CF.jV p.rc).l24;unfold Uh;refine Xb S ?_;refine X9 rfl<|Xb V ?_;refine X9 rfl<|X0 (Cm (mkI A ρ) (by rw[Vk];omega) λr c=>by have:=l1 r c;omega) λi2 _ Q=>X0 (Cm (mkI C σ) (by rw[Vk];omega) λr c=>by have:=l2 r c;omega) λc2 _ R=>X0 (L7 B X) λo _ ho=>X0 (L7 C X) λn _ hn=>?_;subst Q R ho hn;refine X6 (λi s=>s.length=B.q.length/\∀(j:Nat) T,B.q[j]?=some T->s[j]?=some ⟨T.y,if j<i then WK A ρ T.y else[]⟩) ⟨Vk,λj T a=>by rw[U6 a,if_neg (XB _)]⟩ ?_ ?_
 .intro i d s next m hm k D
  have N:=(Y0.1 m).1;rw[Vk] at N;have a:=Y1 N;rw[U6 a] at m;cases m;have keep:∀t:List J,t.length=B.q.length->(∀j:Nat,j≠i->t[j]?=s[j]?)->t[i]?=some ⟨B.q[i].y,WK A ρ B.q[i].y⟩->t.length=B.q.length/\∀(j:Nat) T,B.q[j]?=some T->t[j]?=some ⟨T.y,if j<i+1 then WK A ρ T.y else[]⟩:=λt W Y Z=>⟨W,λj T b=>by by_cases e:j=i;subst e;rw[a] at b;cases b;rw[Z,if_pos X];rw[Y j e,k.2 j T b];by_cases K:j<i;rw[if_pos K,if_pos X];rw[if_neg K,if_neg X]⟩
  refine X0 (UH A _) λf _ L=>X1 (λz=>?_) λz=>D _ (keep s k.1 (λ_ _=>rfl) ?_);obtain⟨-,U,hU,u⟩:=L.2.1 z;have G:=Y2 hU;have u:=ZD.1 u;simp only at u|-;refine X0 (by rw[<-u];exact Wb (Ml F.ord.1 G (by have:=(p.ra U G).l24;omega))) λq _ I=>D _ (keep _ (by rw[Xf];exact k.1) (λj b=>by rw[Ys X]) ?_);subst I;rw[Yr (by rwa [k.1]),<-u,Vl F.ord.1 G];have P:∀T∈A.q,T.y≠B.q[i].y:=λT H l=>by
   have:=L.2.2 (sU z) T H
   rw[ZD.2 l] at this;cases this
  rw[k.2 i _ a,if_neg (XL _),Zac P]
 intro s k;rw[Vk] at k;have e:s=mkI B (WK A ρ):=YU λj=>by by_cases b:j<B.q.length;have a:=Y1 b;rw[k.2 j _ a,U6 a,if_pos b];rw[Yq X,Yq (by rw[Vk];omega)]
 subst e;refine X0 (Wb hd) λM _ hM=>?_;subst hM;refine X4 X (X6 (λi e=>e=0↔M.err=0/\∀j r,j<i->(M.out++M.nc)[j]?=some r->r.rows.length<=24) ⟨λh=>⟨h,λj r E=>absurd E (XB _)⟩,λh=>h.1⟩ ?_ ?_)
 .intro i d e next m _ l D
  refine D _ ?_;have O:(∀j r,j<i+1->(M.out++M.nc)[j]?=some r->r.rows.length<=24)↔(∀j r,j<i->(M.out++M.nc)[j]?=some r->r.rows.length<=24)/\d.rows.length<=24:=by
   refine⟨λh=>⟨λj r b=>h j r X,h i d X m⟩,λh j r b c=>?_⟩;rcases Yx j i with E|E;exact h.1 j r E c;obtain rfl:j=i:=X
   rw[m] at c;cases c;exact h.2
  rw[O,<-and_assoc,<-l];by_cases h24:24<d.rows.length;by_cases w:e=0;simp[h24,w];have z:(e==0)=false:=sU w;simp[h24,z,w];simp[h24];omega
 intro e l;have y:(∀j r,j<(M.out++M.nc).length->(M.out++M.nc)[j]?=some r->r.rows.length<=24)↔∀q∈M.out++M.nc,q.rows.length<=24:=by
  refine⟨λh q I=>?_,λh j r _ c=>h r (Y2 c)⟩;obtain⟨j,b,rfl⟩:=Yo I;exact h j _ b (Y1 b)
 rw[y] at l;refine X1 (λh=>X2 ⟨?_,λw=>absurd w (sU h)⟩) λh=>X2 ⟨?_,λ_=>rfl⟩;exact l
 have:e=0:=sU h
 simp only[true_iff];exact l.1 this
end
end Go.Am
section
namespace Go.Am
section
variable{α:Type}
def Ko(c):∀(a b:List α) i,Zo c i (a++b)=Zo c i a++Zo c (i+a.length) b
 |[],b,i=>by simp[Zo]
 |x::a,b,i=>by
   have d:=Ko c a b (i+1);rw[show i+1+a.length=i+(x::a).length by simp;omega] at d;rw[Yt];show(if(i:Int)∈c then Zo c (i+1) (a++b) else x::Zo c (i+1) (a++b))=(if(i:Int)∈c then Zo c (i+1) a else x::Zo c (i+1) a)++_;rw[d]
   split<;>rfl
def G6{a}(h:a.Pairwise (·<·))(c:∀v∈a,0<=v){xs:List α}:∀i,i<=xs.length->(Zo a 0 (xs.take i)).length+V1 a i=i
 |0,_=>by rw[LF c];rfl
 |i+1,hi=>by have h1:=G6 h c (xs:=xs) i X;have e:xs[i]?=some xs[i]:=Y1 X;rw[Dl a e,Ye];have d:=IJ h i;by_cases b:(i:Int)∈a;rw[d.1 b,if_pos b];simp;omega;rw[d.2 b,if_neg b];simp;omega
def IS{a}{i:Nat}:Ug a (i:Int)=(i:Int)-V1 a i:=rfl
def Gp{a}(h:a.Pairwise (·<·))(b:∀v∈a,0<=v){xs:List α}{i:Nat}(c)(d:(i:Int)∉a):(Zo a 0 xs)[i-V1 a i]?=some xs[i]:=by
 have h1:=G6 h b (xs:=xs) i X;have e:Zo a 0 xs=Zo a 0 (xs.take (i+1))++Zo a (0+(xs.take (i+1)).length) (xs.drop (i+1)):=by rw[<-Ko,Yy]
 have f:xs[i]?=some xs[i]:=Y1 c;rw[e,Dl a f,if_neg d,Yz,YC X,show i-V1 a i-(Zo a 0 (xs.take i)).length=0 by omega];rfl
end
def Az{r:Z8}{i:Nat}(h:i<r.length):Zu r (i:Int)=r[i]:=by unfold Zu;rw[if_pos X,Yn,Y1 h];rfl
def KH{a}(h:a.Pairwise (·<·))(b:∀v∈a,0<=v){r:Z8}{v:Int}(hv:0<=v/\v<(r.length:Int))(e:v∉a):Zu (Zo a 0 r) (Ug a v)=Zu r v:=by
 obtain⟨i,rfl⟩:∃i:Nat,v=i:=⟨v.toNat,X⟩;have c:i<r.length:=X
 have d:=Gp h b c e;have aa:V1 a i<=i:=by have:=G6 h b (xs:=r) i X;omega
 rw[IS,Az c,show i-V1 a i=((i-V1 a i:Nat):Int) by omega];unfold Zu;rw[if_pos X,Yn,d];rfl
def QQ{c}(h:c.Pairwise (·<·))(e:∀v∈c,0<=v){a b:Z8}(l:a.length=b.length)(k:Zo c 0 a=Zo c 0 b)(j:∀v∈c,Zu a v=Zu b v):a=b:=by
 refine List.ext_getElem l λi f g=>?_;rw[<-Az f,<-Az g];by_cases d:(i:Int)∈c;exact j _ d;rw[<-KH h e X d,<-KH h e X d,k]
def M8{T}{a:List Int}(h:a.Pairwise (·<·))(c:∀v∈a,0<=v)(f:∀v∈a,v∉T.pk){r:Z8}(d:∀v∈T.pk,0<=v/\v<(r.length:Int)):Z3 (ZW T a) (Zo a 0 r)=Z3 T r:=by
 unfold Z3 ZW;rw[YY];exact YN λv b=>(KH h c (d v b) λe=>f v e b)
def W8(v:GV)(k:Int×Bool):Prop:=WE v=some 0/\(v.g=0->k.2=true)/\(v.g≠0->v.g=k.1)
def ZA:List (Int×Bool)->aE->Prop
 |[],[]=>True
 |k::ks,v::vs=>W8 v k/\ZA ks vs
 |_,_=>False
def ZA.len:∀{a:List (Int×Bool)} {b:aE},ZA a b->b.length=a.length
 |[],[],_=>rfl
 |k::a,v::b,h=>by simp[ZA.len h.2]
def ZA.get:∀{a:List (Int×Bool)} {b:aE},ZA a b->∀{i:Nat} {v:GV} {k:Int×Bool},b[i]?=some v->a[i]?=some k->W8 v k
 |k::a,v::b,h,0,_,_,c,hk=>by cases c;cases hk;exact h.1
 |k::a,v::b,h,i+1,_,_,c,hk=>ZA.get h.2 c hk
def ZA.mk:∀{b:List (Int×Bool)} {c:aE},c.length=b.length->(∀(i:Nat) v k,c[i]?=some v->b[i]?=some k->W8 v k)->ZA b c
 |[],[],_,_=>trivial
 |k::b,v::c,a,h=>⟨h 0 v k rfl rfl,ZA.mk (by simpa using a) λi v k e d=>h (i+1) v k e d⟩
 |[],_::_,a,_=>by simp at a
 |_::_,[],a,_=>by simp at a
def Jg{T:E}{d:Z8}:CR T d↔ZA (T.j.map kn) d:=by
 refine⟨λh=>.mk (by rw[h.len,Yd]) λi v k e b=>?_,λh=>⟨by rw[h.len,Yd],λi x c f a=>h.get f (k:=kn c) (by rw[Y9,a];rfl)⟩⟩;rw[Y9] at b;cases a:T.j[i]? with
 |none=>rw[a] at b;cases b
 |some c=>rw[a] at b;cases b;exact h.cell i v c e a
def ZA.app:∀{c b:List (Int×Bool)} {d a:aE},ZA c d->ZA b a->ZA (c++b) (d++a)
 |[],_,[],_,_,h=>h
 |_::_,_,_::_,_,h,e=>⟨h.1,h.2.app e⟩
def ZA.split:∀{c e:List (Int×Bool)} {d b:aE},d.length=c.length->ZA (c++e) (d++b)->ZA c d/\ZA e b
 |[],_,[],_,_,h=>⟨trivial,h⟩
 |_::_,_,_::_,_,a,h=>⟨⟨h.1,(ZA.split (by simpa using a) h.2).1⟩,(ZA.split (by simpa using a) h.2).2⟩
 |[],_,_::_,_,a,_=>by simp at a
 |_::_,_,[],_,a,_=>by simp at a
def ZA.cell{T:E}{a:Z8}(h:CR T a){v:Int}(hv:0<=v/\v<(T.j.length:Int)):W8 (Zu a v) (kn (Zf T v)):=by
 obtain⟨i,rfl⟩:∃i:Nat,v=i:=⟨v.toNat,X⟩;have hl:=h.len;have b:i<T.j.length:=X
 rw[Az X,VA X (show T.j[(i:Int).toNat]?=some T.j[i] by rw[Yn];exact Y1 b)];exact h.cell i _ _ (Y1 X) (Y1 b)
def ZA.cells{T}{b:Z8}(h:CR T b):∀{a:List Int},(∀v∈a,0<=v/\v<(T.j.length:Int))->ZA (a.map λv=>kn (Zf T v)) (a.map (Zu b))
 |[],_=>trivial
 |v::a,ha=>⟨ZA.cell h (ha v (by simp)),ZA.cells h λw c=>ha w (by simp[c])⟩
def Zdy{T:E}(b:VT T){a:Z8}(h:CR T a):ZA (T.pk.map λp=>kn (Zf T p)) (Z3 T a):=ZA.cells h b.pk
def So{T:E}{a:List Int}{c:Z8}(h:CR T c):CR (ZW T a) (Zo a 0 c):=by
 have e:∀d b i,ZA (d.map kn) b->ZA ((Zo a i d).map kn) (Zo a i b):=by
  intro d
  induction d with
  |nil=>intro b i h;cases b with
    |nil=>trivial
    |cons v b=>exact h.elim
  |cons k d ih=>?_
  intro b i h;cases b with
  |nil=>exact h.elim
  |cons v b=>?_
  have f:=ih b (i+1) h.2;unfold Zo;split;exact f;exact⟨h.1,f⟩
 rw[Jg] at h|-;exact e T.j c 0 h
def CT.row{T b:E}{d:List (Int×Bool)}(c:CT T d b)(f:VT T){a:Z8}(h:CR T a){e:aE}(g:ZA d e):CR b (Z3 T a++e):=by rw[Jg,c.j];exact(Zdy f h).app g
def CT.key{T a b}(c:CT T b a){k d}(hk:k.length=T.pk.length):Z3 a (k++d)=k:=by
 unfold Z3;rw[c.pk];refine YU λi=>?_;rw[Y9];by_cases hi:i<T.pk.length;have e:(ZZ T.pk.length)[i]?=some (i:Int):=by simp[ZZ,hi]
 rw[e,Yp,Az sO,List.getElem_append_left X,Y1 X];rw[Yq (by rw[Cy];omega),Yq X];rfl
def CT.parts{T a:E}{f:List (Int×Bool)}(c:CT T f a){e:Z8}(h:CR a e):e=Z3 a e++e.drop T.pk.length/\ZA f (e.drop T.pk.length):=by
 have hl:=c.lens;have h1:=h.len;have d:=Jg.1 h;rw[c.j] at d;have b:e=e.take T.pk.length++e.drop T.pk.length:=(Yy _ _).symm;have g:Z3 a e=e.take T.pk.length:=by
  conv=>lhs;rw[b]
  exact c.key sO
 rw[g];refine⟨b,?_⟩;rw[b] at d;exact(ZA.split sO d).2
end Go.Am
end
namespace Go.Am
section
def Q3{α:Type}(c:Nat):∀(a:List α) i,c<i->Zo [(c:Int)] i a=a
 |[],_,_=>rfl
 |x::a,i,h=>by show(if(i:Int)∈[(c:Int)] then Zo _ (i+1) a else x::Zo _ (i+1) a)=_;rw[if_neg (by simp;omega),Q3 c a (i+1) (by omega)]
def Ct{α:Type}(c:Nat)(a:List α):Zo [(c:Int)] 0 a=a.take c++a.drop (c+1):=by
 have b:∀(a:List α) i,i<=c->Zo [c] i a=a.take (c-i)++a.drop (c-i+1):=by
  intro a
  induction a with
  |nil=>intro i _;simp[Zo]
  |cons x a ih=>?_
  intro i hi;show(if(i:Int)∈[(c:Int)] then Zo _ (i+1) a else x::Zo _ (i+1) a)=_;by_cases h:i=c;subst h;rw[if_pos I,Q3 i a (i+1) X];simp;rw[if_neg sO,ih (i+1) X,show c-i=(c-(i+1))+1 by omega];simp
 exact b a 0 (Y3y _)
def Z7y{T a}(h:a.Pairwise (·<·))(b:∀v∈a,0<=v){v:Int}(hv:0<=v/\v<(T.j.length:Int))(e:v∉a):Zf (ZW T a) (Ug a v)=Zf T v:=by
 obtain⟨i,rfl⟩:∃i:Nat,v=i:=⟨v.toNat,X⟩;have c:i<T.j.length:=X
 have d:=Gp h b c e;have aa:V1 a i<=i:=by have:=G6 h b (xs:=T.j) i X;omega
 rw[IS,show i-V1 a i=((i-V1 a i:Nat):Int) by omega];unfold Zf ZW;simp only[Yn];rw[d,Y1 c]
def CT.rm{T b g a}(j:VT T)(h:a.Pairwise (·<·))(i:∀v∈a,0<=v)(l:∀v∈a,v∉T.pk):CT (ZW T a) g b↔CT T g b:=by
 have e:(ZW T a).pk.map (λp=>kn (Zf (ZW T a) p))=T.pk.map λp=>kn (Zf T p):=by
  show(T.pk.map (Ug a)).map _=_;rw[YY];refine YN λv f=>?_;show kn (Zf (ZW T a) (Ug a v))=_;rw[Z7y h i (j.pk v f) λk=>l v k f]
 have d:(ZW T a).pk.length=T.pk.length:=by simp[ZW]
 exact⟨λc=>⟨c.y,by rw[c.pk,d],by rw[c.j,e]⟩,λc=>⟨c.y,by rw[c.pk,d],by rw[c.j,e]⟩⟩
def Zfd(W:E)(c:Nat)(d:GV)(r:Z8)(o:aB Z8)(a:Z8):Prop:=CR W a/\CP (Z3 W) c d a=(r,o)
def Za6{n:Nat}{d w k}(c:k.length=n):AJ n d (bif Wx w d then some (k++[w]) else none)=w:=by
 cases h:Wx w d with|true=>?_|false=>?_;simp only[cond_true,AJ];rw[YC X,c,Y3f];rfl;simp only[cond_false,AJ];exact Classical.byContradiction λb=>by rw[IN.2 (λa=>b a.symm)] at h;cases h
def Zdr{W q:E}{c:Nat}{d:GV}(u:VT W)(x:c<W.j.length)(L:(c:Int)∉W.pk)(J:W8 d (kn (Zf W c)))(p:CT W [kn (Zf W c)] q):
  ColL (Z3 (ZW W [(c:Int)])) (Z3 W) (Z3 q) (DQ (Z3 (ZW W [(c:Int)])) c W.pk.length d) (λ_ r=>CP (Z3 W) c d r) (CR (ZW W [(c:Int)])) (CR W) (CR q) (Zfd W c d):=by
 have A:[(c:Int)].Pairwise (·<·):=Xt _ _;have M:∀v∈[(c:Int)],0<=v:=λv g=>by rw[Yj.1 g];omega
 have N:∀v∈[(c:Int)],v∉W.pk:=λv g=>by rw[Yj.1 g];exact L
 have n:∀a:Z8,(CP (Z3 W) c d a).1=Zo [(c:Int)] 0 a:=λa=>(Ct c a).symm;have m:∀{a:Z8},a.length=W.j.length->Z3 (ZW W [(c:Int)]) (Zo [(c:Int)] 0 a)=Z3 W a:=λ{a} k=>M8 A M N λv g=>by rw[k];exact u.pk v g
 have t:∀{a:Z8},a.length=W.j.length->(a.take c++a.drop (c+1)).take c++[Zu a c]++(a.take c++a.drop (c+1)).drop c=a:=λ{a} k=>by
  have b:(a.take c).length=c:=by rw[YA];omega
  rw[Y3e b,XK b,Az X,Yz,Y00,<-YB X,Yy]
 refine⟨λr o l K=>?_,λr o l _=>⟨l,rfl⟩,λ{r o a} h=>?_,λ{r o a} h=>h.2,λ{r o a} h=>?_,λ{r o a} h=>?_⟩
 
 have k:r.length=W.j.length-1:=by
  have b:=l.len;have i:=UK A (xs:=W.j) λv g=>by rw[Yj.1 g];omega
  simp only[ZW,Y34] at b i;omega
 have g:W8 (AJ W.pk.length d o) (kn (Zf W c)):=by
  cases o with
  |none=>exact J
  |some e=>?_
  obtain⟨b,-⟩:=K e rfl;obtain⟨-,i⟩:=p.parts b;cases hq:e.drop W.pk.length with
  |nil=>rw[hq] at i;exact i.elim
  |cons w ws=>?_
  rw[hq] at i
  have:e[W.pk.length]?=some w:=by
   have:=congrArg (λz=>z[0]?) hq
   simpa[YO] using this
  simp only[AJ,this];exact i.1
 unfold DQ;generalize AJ W.pk.length d o=v at g|-;have b:(r.take c).length=c:=by rw[YA];omega
 have D:(r.take c++[v]++r.drop c).length=W.j.length:=sO;have y:Zo [c] 0 (r.take c++[v]++r.drop c)=r:=by rw[Ct,Yz,Y3e b,show r.take c++([v]++r.drop c)=(r.take c++[v])++r.drop c by simp,XK sO,Yy]
 have B:Zu (r.take c++[v]++r.drop c) c=v:=by rw[Az X,List.getElem_append_left sO,List.getElem_append_right X];simp
 refine⟨?_,?_⟩;show CR W (r.take c++[v]++r.drop c);rw[Jg] at l|-;have j:W.j.map kn=(W.j.take c).map kn++([kn (Zf W c)]++(W.j.drop (c+1)).map kn):=by
  have f:W.j=W.j.take c++(W.j[c]::W.j.drop (c+1)):=by rw[<-YB x,Yy]
  have H:Zf W c=W.j[c]:=VA X (by rw[Yn];exact Y1 x);rw[H,show[kn W.j[c]]++(W.j.drop (c+1)).map kn=(W.j[c]::W.j.drop (c+1)).map kn from rfl,<-YL,<-f]
 have I:(ZW W [c]).j.map kn=(W.j.take c).map kn++(W.j.drop (c+1)).map kn:=by show(Zo [c] 0 W.j).map kn=_;rw[Ct,YL]
 rw[I] at l;rw[j,Yz];have F:ZA ((W.j.take c).map kn++(W.j.drop (c+1)).map kn) (r.take c++r.drop c):=by rw[Yy];exact l
 have⟨O,P⟩:=ZA.split (by rw[b,Yd,YA];omega) F;exact O.app (ZA.app ⟨g,trivial⟩ P);show CP (Z3 W) c d (r.take c++[v]++r.drop c)=(r,bif Wx v d then some (Z3 (ZW W [c]) r++[v]) else none);refine Prod.ext (by rw[n,y]) ?_;show(bif Wx (Zu (r.take c++[v]++r.drop c) c) d then some (Z3 W (r.take c++[v]++r.drop c)++[Zu (r.take c++[v]++r.drop c) c]) else none)=_;rw[B,<-m D,y];have⟨b,i⟩:=h;have k:=b.len;have j:a.take c++a.drop (c+1)=r:=congrArg Prod.fst i;have f:(bif Wx (Zu a c) d then some (Z3 W a++[Zu a c]) else none)=o:=congrArg Prod.snd i;have C:AJ W.pk.length d o=Zu a c:=by rw[<-f];exact Za6 Vs
 have G:Z3 (ZW W [c]) r=Z3 W a:=by rw[<-j,<-Ct];exact m k
 unfold DQ;rw[C,G,f];refine Prod.ext ?_ rfl;show r.take c++[Zu a c]++r.drop c=a;rw[<-j];exact t k;have⟨b,i⟩:=h;have k:=b.len;have j:Zo [c] 0 a=r:=by rw[<-n];exact congrArg Prod.fst i
 have f:(bif Wx (Zu a c) d then some (Z3 W a++[Zu a c]) else none)=o:=congrArg Prod.snd i;refine⟨by rw[<-j,m k],λe s=>?_⟩;rw[s] at f;cases g:Wx (Zu a c) d with
 |false=>rw[g] at f;cases f
 |true=>?_
 rw[g] at f;cases f;rw[p.key Vs,<-j,m k];have⟨b,i⟩:=h;have j:Zo [c] 0 a=r:=by rw[<-n];exact congrArg Prod.fst i
 have f:(bif Wx (Zu a c) d then some (Z3 W a++[Zu a c]) else none)=o:=congrArg Prod.snd i;refine⟨by rw[<-j];exact So b,b,λe s=>?_⟩;rw[s] at f;cases g:Wx (Zu a c) d with
 |false=>rw[g] at f;cases f
 |true=>?_
 rw[g] at f;cases f;exact p.row u b ⟨ZA.cell b X,trivial⟩
def GE{α σ ρ:Type}{P:Nat->α->Prop}{a}{k:σ->aB ρ}{r}(d:∀i x s next,Is (a i x s next) r->P i x/\∃b,Is (next b) r):
  ∀c i s,Is (Zd a k c i s) r->(∀j x,c[j]?=some x->P (i+j) x)/\∃b,Is (k b) r
 |[],i,s,h=>⟨λj x n=>by simp at n,s,h⟩
 |x::c,i,s,h=>by
   have⟨f,b,g⟩:=d i x s _ h;have⟨l,m⟩:=GE d c (i+1) b g;refine⟨λj y e=>?_,m⟩;cases j with
   |zero=>cases e;exact f
   |succ j=>have:=l j y e;rwa [show i+1+j=i+(j+1) by omega] at this
def Vj{b m}{e:Int}(h:Is (bif b then some e else m) 0)(a:e≠0):b=false/\Is m 0:=by
 cases b with
 |true=>exact absurd (Option.some.inj h) a
 |false=>exact⟨rfl,h⟩
def S8{S:Sch}(c:VS S):∀T∈S.q,A2 T=some 0:=by
 have h:=c.ok;unfold UE at h;obtain⟨-,h⟩:=Vj h dE;obtain⟨-,h⟩:=Vj h dE;obtain⟨-,h⟩:=Vj h dE;obtain⟨b,-⟩:=GE (λi T _ next a=>by
  have⟨e,f,a⟩:=a.bind;cases hz:e !=0 with
  |true=>rw[hz] at a;cases a;simp at hz
  |false=>?_
  have:e=0:=sU hz
  subst this;rw[hz] at a;refine⟨f,(),?_⟩;cases hi:decide (0<i) with
  |false=>rw[hi] at a;exact a
  |true=>?_
  rw[hi] at a;obtain⟨-,a⟩:=Is.chk a;obtain⟨y,-,-,a⟩:=a.get;exact(Vj a dE).2) S.q 0 () h
 intro T d;obtain⟨j,g,rfl⟩:=Yo d;exact b j _ (Y1 g)
def RG{α:Type}{f:α->aB Bool}:∀xs i {k:Int},Is (Zd (λi x s next=>Z1 (f x) λv=>bif v then some (i:Int) else next ()) (λ_=>some (-1)) xs i ()) k->
  ∀j x,xs[j]?=some x->f x=some true->(i:Int)<=k/\k<=((i+j:Nat):Int)
 |[],_,_,_,j,_,a,_=>by simp at a
 |y::xs,i,k,h,j,x,a,hf=>by
   have h:Is (Z1 (f y) λv=>bif v then some (i:Int) else Zd _ _ xs (i+1) ()) k:=h;have⟨v,b,h⟩:=h.bind;cases v with|true=>?_|false=>?_
   have:i=k:=Option.some.inj h
   omega;cases j with
   |zero=>cases a;rw[b] at hf;cases hf
   |succ j=>?_
   have:=RG xs (i+1) h j x a hf
   omega
def Mw{S:Sch}(o:VS S){T:E}(p:T∈S.q){i:Nat}{c}(m:T.j[i]?=some c):W7 T c.y=some ((i:Int),true)/\1<=c.g/\c.g<=3:=by
 have h:Is (A2 T) 0:=S8 o T p;unfold A2 at h;obtain⟨v,-,h⟩:=h.bind;obtain⟨-,h⟩:=Vj h dE;obtain⟨-,h⟩:=Vj h dE;obtain⟨-,h⟩:=Vj h dE;obtain⟨n,-⟩:=GE (P:=λi c=>(∃v,W7 T c.y=some v/\¬v.1<(i:Int))/\1<=c.g/\c.g<=3) (λi c _ next a=>by obtain⟨v,-,a⟩:=a.bind;obtain⟨-,a⟩:=Vj a dE;have⟨w,e,a⟩:=a.bind;have⟨b,a⟩:=Vj a dE;have⟨f,a⟩:=Vj a dE;have⟨g,a⟩:=Vj a dE;simp at b f g;exact⟨⟨⟨w,e,X⟩,X,X⟩,(),a⟩) T.j 0 () h;have⟨⟨w,e,b⟩,f,g⟩:=n i c m;refine⟨?_,f,g⟩;have d:Is (W7 T c.y) w:=e;unfold W7 at d;have⟨k,q,d⟩:=d.bind;have l:=Option.some.inj d
 have:=RG T.j 0 q i c m (by unfold FH;rw[ED])
 rw[e,<-l];rw[<-l] at b
 congr 1
 have j:¬k<0:=X;simp only[j,if_false] at b|-;exact Prod.ext sO sO
structure Half(x:Stp)(fwd:Bool)(A B C:Sch)(TR:RN->RN->RN->Prop):Prop where
 one:∀{ρ σ:RN} {M2:Mp},Pre A B C ρ σ->ZN (Zn x fwd A B C ρ σ)=some M2->M2.err=0->∃ρ' σ',M2.out=mkI B ρ'/\M2.nc=mkI C σ'/\(RI B ρ'->(∀T∈C.q,(σ' T.y).length<=24)->RI C σ'/\TR ρ σ' ρ')
 two:∀{ρ σ ρ':RN},Pre A B C ρ σ->RI B ρ'->TR ρ σ ρ'->∃M2,ZN (Zn x fwd A B C ρ σ)=some M2/\M2.err=0/\M2.out=mkI B ρ'/\M2.nc=mkI C σ
 tot:∀{ρ σ:RN},Pre A B C ρ σ->∃M2,ZN (Zn x fwd A B C ρ σ)=some M2/\M2.out.length=B.q.length/\M2.nc.length=C.q.length
def Ag{x f A B C ρ σ a}(h:ZN (Zn x f A B C ρ σ)=some a)(b:a.out.length=(mkI B (WK A ρ)).length)(c:a.nc.length=(mkI C λ_=>[]).length):∃a,ZN (Zn x f A B C ρ σ)=some a/\a.out.length=B.q.length/\a.nc.length=C.q.length:=⟨a,h,b.trans Vk,c.trans Vk⟩
def DO(B:Sch)(a:List aA)(ρ ρ':RN):Prop:=∀U∈B.q,U.y∉a->ρ' U.y=ρ U.y
def Dp{C a}(c:C.q=[a]){σ σ'}(h:σ a.y=σ' a.y):mkI C σ=mkI C σ':=U3 λT b=>by rw[c] at b;rw[Yj.1 b,h]
def Rh{x:Stp}{f}{A B C:Sch}{T g d F G R}(r:Wf A.q)(hB:Wf B.q)(z:T∈A.q)(D:T.y=x.u)(ah:g∈B.q)(ag:g.y=x.u)(k:C.q=[d])(j:d.y=x.u)
  (q:∀U∈B.q,U.y≠x.u->U∈A.q)(l:ColL (Z3 T) (Z3 g) (Z3 d) F G (CR T) (CR g) (CR d) R)
  (m:∀{ρ σ},Pre A B C ρ σ->ZN (Zn x f A B C ρ σ)=some {Zn x f A B C ρ σ with out:=Zt x.u (UV F (Z3 T) (Z3 d) (ρ x.u) (σ x.u)).1 (mkI B (WK A ρ)),nc:=Zt x.u (UV F (Z3 T) (Z3 d) (ρ x.u) (σ x.u)).2 (mkI C λ_=>[])}):
  Half x f A B C λρ σ ρ'=>DO B [x.u] ρ ρ'/\CY R (Z3 T) (ρ x.u) (σ x.u) (ρ' x.u):=by
 have v:d∈C.q:=by rw[k];simp
 have c:∀{ρ ρ':RN},DO B [x.u] ρ ρ'->∀a,a=ρ' x.u->mkI B (upd (WK A ρ) x.u a)=mkI B ρ':=λ{ρ ρ'} ha a s=>U3 λU e=>by by_cases h:U.y=x.u;rw[h,W0,s];rw[WW h,Vl r (q U e h),ha U e (sU h)]
 refine⟨λ{ρ σ M2} p h he=>?_,λ{ρ σ ρ'} p _ ht=>?_,λ{ρ σ} p=>Ag (m p) Vz Vz⟩;rw[m p] at h;cases h;have n:=p.ra T z;rw[D] at n;have t:=p.rc d v;rw[j] at t;have u:=l.ok n.asc n.row t.row;obtain⟨-,-,-,E,H,-⟩:=u.right l;refine⟨_,_,Wk,Wk,λs i=>⟨λU e=>?_,λU e b=>?_,?_⟩⟩;have i:=i U e;rw[k] at e;obtain rfl:=Yj.1 e;rw[j,W0] at i|-;exact⟨i,H,E⟩;have b:U.y≠x.u:=sU b;rw[WW b,Vl r (q U e b)]
 rwa [W0,W0]
 have⟨w,y⟩:=ht;have o:=l.fix y;refine⟨_,m p,rfl,?_,?_⟩;rw[o];show Zt x.u (ρ' x.u) (mkI B (WK A ρ))=_;rw[Wk];exact c w _ rfl;rw[o];show Zt x.u (σ x.u) (mkI C λ_=>[])=_;rw[Wk];exact Dp k (by rw[j,W0])
def Half.iff{x b A B C c a}(h:Half x b A B C c)(d:∀ρ σ ρ',c ρ σ ρ'↔a ρ σ ρ'):Half x b A B C a:=
 (funext λρ=>funext λσ=>funext λρ'=>propext (d ρ σ ρ'):c=a)▸h
def VV(x:Stp)(S c C:Sch):Prop:=∃d,Half x true S c C d/\Half x false c S C λb s a=>d a s b
def OU{A B d}(h:∀U,U.y∉d->(U∈A.q↔U∈B.q)){ρ ρ'}:DO B d ρ ρ'↔DO A d ρ' ρ:=
 ⟨λa U c b=>(a U ((h U b).1 c) b).symm,λa U c b=>(a U ((h U b).2 c) b).symm⟩
def Ri{x f}{A B C:Sch}{T d c F G R}(n:Wf A.q)(o:Wf B.q)(q:T∈A.q)(r:T.y=x.u)(l:d∈B.q)(k:d.y=x.u)(p:C.q=[c])(m:c.y=x.u)
  (e:∀U,U.y∉[x.u]->(U∈A.q↔U∈B.q))(g:ColL (Z3 T) (Z3 d) (Z3 c) F G (CR T) (CR d) (CR c) R)
  (v:∀{ρ σ},Pre A B C ρ σ->ZN (Zn x f A B C ρ σ)=some {Zn x f A B C ρ σ with out:=Zt x.u (UV F (Z3 T) (Z3 c) (ρ x.u) (σ x.u)).1 (mkI B (WK A ρ)),nc:=Zt x.u (UV F (Z3 T) (Z3 c) (ρ x.u) (σ x.u)).2 (mkI C λ_=>[])})
  (u:∀{ρ σ},Pre B A C ρ σ->ZN (Zn x (!f) B A C ρ σ)=some {Zn x (!f) B A C ρ σ with out:=Zt x.u (UV G (Z3 d) (Z3 c) (ρ x.u) (σ x.u)).1 (mkI A (WK B ρ)),nc:=Zt x.u (UV G (Z3 d) (Z3 c) (ρ x.u) (σ x.u)).2 (mkI C λ_=>[])}):
  ∃j,Half x f A B C j/\Half x (!f) B A C λb s a=>j a s b:=by
 have t:=g.symm;refine⟨_,Rh n o q r l k p m (λU i h=>(e U (sU h)).2 i) g v,(Rh o n l k q r p m (λU i h=>(e U (sU h)).1 i) t u).iff λρ' σ ρ=>?_⟩;exact⟨λh=>⟨(OU e).2 h.1,h.2.symm t⟩,λh=>⟨(OU e).1 h.1,h.2.symm g⟩⟩
def R4{x f A B C W j}{c:Nat}{y}(E:VS A)(n:VS B)(q:ZW W [(c:Int)]∈A.q)(e:W∈B.q)(d:W.y=x.u)(o:C.q=[j])(h:CT W [kn (Zf W c)] j)(r:c<W.j.length)(G:(c:Int)∉W.pk)(F:W8 x.value (kn (Zf W c)))
  (t:W7 W x.d=some ((c:Int),y))(w:∀U,U.y∉[x.u]->(U∈A.q↔U∈B.q))
  (z:∀ρ σ,ZN (Zn x f A B C ρ σ)=A0 (Zn x f A B C ρ σ))(D:∀ρ σ,ZN (Zn x (!f) B A C ρ σ)=UY (Zn x (!f) B A C ρ σ)):
  ∃l,Half x f A B C l/\Half x (!f) B A C λb s a=>l a s b:=by
 have i:(ZW W [(c:Int)]).y=x.u:=d;have m:j.y=x.u:=by rw[h.y,d]
 have k:=h.lens;have u:=UK (Xt _ (c:Int)) (xs:=W.j) λv H=>by rw[Yj.1 H];omega
 have g:(ZW W [c]).pk.length=W.pk.length:=by simp[ZW]
 simp only[YM,Y3a] at k u;refine Ri E.ord.1 n.ord.1 q i e d o m w (Zdr (n.tab W e) r G F h) (λ{ρ σ} p=>?_) (λ{ρ σ} p=>?_);rw[z]
 have:=Z7o (p.li (fwd:=f)) q i e d t (X:c<=(Zo [c] 0 W.j).length) o (by rw[g];exact k.1) (by rw[g];exact k.2)
 rwa [i,m,g] at this
 rw[D]
 have:=Z77 (p.li (fwd:=!f)) e d t r
 rwa [d] at this
def Zc7{T col}(d:VT T):ZW {T with j:=T.j++[col]} [(T.j.length:Int)]=T:=by
 have b:Zo [T.j.length] 0 (T.j++[col])=T.j:=by rw[Ct,Y3e rfl,YR I,Ym]
 have c:T.pk.map (Ug [T.j.length])=T.pk:=by
  conv=>rhs;rw[<-Y3u T.pk]
  refine YN λv e=>?_
  have:=d.pk v e
  have a:¬T.j.length<v:=X;simp[Ug,a]
 unfold ZW;simp only[b,c]
def IT{S b:Sch}{i:Nat}{T T' t}(f:Wf S.q)(g:S.q[i]?=some T)(e:b.q=S.q.set i T')(c:T.y=t)(d:T'.y=t):∀U,U.y∉[t]->(U∈S.q↔U∈b.q):=λU a=>by
 rw[e]
 have:=(JE.set (T':=T') f g (ZD.2 c)) U
 rw[this];simp only[Yj] at a|-;exact⟨λh=>.inr ⟨h,a⟩,λh=>h.elim (λh=>absurd (h▸d) a) (·.1)⟩
def Zcf{x:Stp}{S b C:Sch}(f:VS S)(d:VS b)(A:COK S b x C){i:Nat}{T:E}(k:x.g=1)(l:S.q[i]?=some T)(a:Z9 T.y x.u=true)(g:H9 x.value ⟨x.d,x.type,x.value.g==0⟩)(e:b.q=S.q.set i {T with j:=T.j++[⟨x.d,x.type,x.value.g==0⟩]}):VV x S b C:=by
 have a:=ZD.1 a;have p:=Y2 l;have c:=e▸CG l;have⟨ct,ks,y,z⟩:=A.one X;have⟨n,t⟩:=z T _ ⟨p,c,a,a⟩;have q:=f.tab T p;have r:({T with j:=T.j++[⟨x.d,x.type,x.value.g==0⟩]}:E).j[T.j.length]?=some ⟨x.d,x.type,x.value.g==0⟩:=I
 have s:Zf {T with j:=T.j++[⟨x.d,x.type,x.value.g==0⟩]} (T.j.length:Int)=⟨x.d,x.type,x.value.g==0⟩:=VA X (by rwa [Yn]);have o:=Zc7 (col:=⟨x.d,x.type,x.value.g==0⟩) q;have w:((T.j.length:Nat):Int)∉T.pk:=λh=>by have:=q.pk _ h;omega
 refine R4 f d (by rwa [o]) c a y ?_ I w (by rw[s];exact⟨g.1,g.2.1,g.2.2⟩) (Mw d c r).1 (IT f.ord.1 l e a a) (λρ σ=>?_) (λρ σ=>?_);rw[t.1 k] at n;have u:Zpv {T with j:=T.j++[⟨x.d,x.type,x.value.g==0⟩]}=Zf {T with j:=T.j++[⟨x.d,x.type,x.value.g==0⟩]} T.j.length:=by
  unfold Zpv
  congr 1
  simp
 rw[u] at n;refine(CT.rm (d.tab _ c) (Xt _ (T.j.length:Int)) (λv m=>by rw[Yj.1 m];omega) (λv m=>by rwa [Yj.1 m])).1 ?_
 rwa [o]
 unfold ZN;simp[Zn,k];rfl;unfold ZN;simp[Zn,k];rfl
def Za3{x:Stp}{S d C:Sch}(t:VS S)(y:VS d)(D:COK S d x C){i:Nat}{T:E}{c:Int}{a:Col}(k:x.g=2)(l:S.q[i]?=some T)(b:Z9 T.y x.u=true)(h:W7 T x.d=some (c,true))(o:T.j[c.toNat]?=some a)(G:c∉T.pk)(j:H9 x.value a)(e:d.q=S.q.set i (ZW T [c])):VV x S d C:=by
 have b:=ZD.1 b;have u:=Y2 l;have s:=e▸CG l;have⟨r,v,z⟩:=AX T x.d;rw[h] at v;cases v;obtain⟨c,rfl⟩:∃n:Nat,c=n:=⟨c.toNat,by have:=z.1;simp only at this;omega⟩;rw[Yn] at o;have m:=(Y0.1 o).1;have w:Zf T (c:Int)=a:=VA X (by rwa [Yn]);have⟨ct,ks,A,B⟩:=D.one X;have⟨q,g⟩:=B T _ ⟨u,s,b,b⟩;obtain⟨c9,p,-,-,g⟩:=g.2.1 k;rw[h] at p;cases p;rw[g] at q;have⟨TR,H,I⟩:=R4 (f:=false) y t s u b A q m G (by rw[w];exact⟨j.1,j.2.1,j.2.2⟩) h (λU F=>(IT t.ord.1 l e b b U F).symm) (λρ σ=>by unfold ZN;simp[Zn,k];rfl) (λρ σ=>by unfold ZN;simp[Zn,k];rfl);exact⟨_,I,H⟩
def J8{C}(h:C.q=[])(σ):RI C σ:=λT a=>by rw[h] at a;cases a
def J9{C}(h:C.q=[])(σ σ'):mkI C σ=mkI C σ':=U3 λT a=>by rw[h] at a;cases a
def Qg{x a}{A B C:Sch}(g:Wf A.q)(f:C.q=[])(j:∀U∈B.q,∃T∈A.q,T.y=U.y)(d:∀ρ σ,ZN (Zn x a A B C ρ σ)=some (Zn x a A B C ρ σ)):
  Half x a A B C λρ _ ρ'=>∀U∈B.q,ρ' U.y=ρ U.y:=by
 have c:∀(ρ:RN),∀U∈B.q,WK A ρ U.y=ρ U.y:=λρ U b=>by have⟨T,i,e⟩:=j U b;rw[<-e];exact Vl g i
 refine⟨λ{ρ σ M2} _ h he=>?_,λ{ρ σ ρ'} _ _ ht=>⟨_,d ρ σ,rfl,U3 λU b=>by rw[c ρ U b,ht U b],J9 f (λ_=>[]) σ⟩,λ{ρ σ} _=>Ag (d ρ σ) rfl rfl⟩;rw[d] at h;cases h;exact⟨WK A ρ,λ_=>[],rfl,rfl,λ_ _=>⟨J8 f _,λU b=>c ρ U b⟩⟩
def Z5n{x S b C}(q:VS S)(p:VS b)(m:COK S b x C){i:Nat}{T}{c:Int}{o:Col}(k:x.g=3)(r:S.q[i]?=some T)(e:b.q=S.q.set i {T with j:=T.j.set c.toNat {o with y:=x.s}}):VV x S b C:=by
 have m:=m.nil (.inl k);have n:b.q.map E.y=S.q.map E.y:=by rw[e,YJ];exact EU (by rw[Y9,r];rfl)
 have a:∀{A B:Sch},A.q.map E.y=B.q.map E.y->∀U∈B.q,∃T∈A.q,T.y=U.y:=λ{A B} h U l=>by
  have:U.y∈A.q.map E.y:=h▸Yi.2 ⟨U,l,rfl⟩
  have⟨T,g,e⟩:=Yi.1 this;exact⟨T,g,e⟩
 have d:∀(f:Bool) (A B:Sch) ρ σ,ZN (Zn x f A B C ρ σ)=some (Zn x f A B C ρ σ):=λf A B ρ σ=>by unfold ZN;simp[Zn,k];rfl
 refine⟨_,Qg q.ord.1 m (a n.symm) (d _ _ _),(Qg p.ord.1 m (a n) (d _ _ _)).iff λρ' _ ρ=>?_⟩;refine⟨λh U l=>?_,λh U l=>?_⟩;have⟨T,g,e⟩:=a n.symm U l;rw[<-e];exact(h T g).symm;have⟨T,g,e⟩:=a n U l;rw[<-e];exact(h T g).symm
def PT{x a A B C T T'}(e:Wf A.q)(hT:T∈A.q)(aa:T'∈B.q)(g:C.q=[])(f:∀U∈B.q,U.y≠T'.y->U∈A.q)(d:∀{ρ σ},Pre A B C ρ σ->ZN (Zn x a A B C ρ σ)=some {Zn x a A B C ρ σ with out:=Zt T'.y (ρ T.y) (mkI B (WK A ρ))}):
  Half x a A B C λρ _ ρ'=>(∀U∈B.q,U.y≠T'.y->ρ' U.y=ρ U.y)/\ρ' T'.y=ρ T.y:=by
 refine⟨λ{ρ σ M2} p h he=>?_,λ{ρ σ ρ'} p _ ht=>⟨_,d p,rfl,?_,J9 g (λ_=>[]) σ⟩,λ{ρ σ} p=>Ag (d p) Vz rfl⟩;rw[d p] at h;cases h;refine⟨_,λ_=>[],Wk,rfl,λ_ _=>⟨J8 g _,λU c b=>?_,W0⟩⟩;rw[WW b,Vl e (f U c b)];show Zt T'.y (ρ T.y) (mkI B (WK A ρ))=_;rw[Wk];refine U3 λU c=>?_;by_cases h:U.y=T'.y;rw[h,W0,ht.2];rw[WW h,Vl e (f U c h),ht.1 U c h]
def Zce{x:Stp}{S d C}(s:VS S)(v:VS d)(l:COK S d x C){i:Nat}{T}(k:x.g=4)(t:S.q[i]?=some T)(g:Z9 T.y x.u=true)(w:∀U∈S.q,Z9 U.y x.s=false)(e:d.q=WG Ur (S.q.length-1) 1 (S.q.take i++S.q.drop (i+1)++[{T with y:=x.s}])):VV x S d C:=by
 have g:=ZD.1 g;have l:=l.nil (.inr (.inl k));have q:=Y2 t;have c:∀U,U∈d.q↔U={T with y:=x.s}\/(U∈S.q/\U.y≠T.y):=λU=>by
  rw[e,C9]
  have:=Lp s.ord.1 t U
  rw[this]
 have u:∀U∈S.q,U.y≠x.s:=λU b r=>by
  have:=w U b
  rw[ZD.2 r] at this;cases this
 have m:=(c _).2 (.inl rfl);have j:∀{f:Bool} {A B:Sch} {ρ σ:RN} {U:E} {n:aA},Pre A B C ρ σ->U∈A.q->U.y=n->VQ (Zn x f A B C ρ σ) n=some (U,ρ n):=λ{f A B ρ σ U n} p b r=>by rw[<-r];exact(p.li).input b
 refine⟨_,PT (T':={T with y:=x.s}) s.ord.1 q m l (λU b a=>?_) (λ{ρ σ} p=>?_),(PT (T':=T) v.ord.1 m q l (λU b a=>(c U).2 (.inr ⟨b,a⟩)) (λ{ρ σ} p=>?_)).iff λρ' _ ρ=>?_⟩;rcases(c U).1 b with h|h;exact absurd (by rw[h]) a;exact h.1;have o:=j (f:=true) p q g;unfold ZN;simp only[show(Zn x true S d C ρ σ).step=x from rfl,k];unfold D2;simp only[show(Zn x true S d C ρ σ).step=x from rfl,o,g];rfl;have o:=j (f:=false) p m rfl;unfold ZN;simp only[show(Zn x false d S C ρ σ).step=x from rfl,k];unfold D2;simp only[show(Zn x false d S C ρ σ).step=x from rfl,o,g];rfl;refine⟨λh=>⟨λU b a=>?_,h.2.symm⟩,λh=>⟨λU b a=>?_,h.2.symm⟩⟩;rcases(c U).1 b with h9|h9;exact absurd (by rw[h9]) a;exact(h.1 U h9.1 h9.2).symm;exact(h.1 U ((c U).2 (.inr ⟨b,a⟩)) (u U b)).symm
def Q6{x f A B C T}(t:Wf A.q)(E:Wf B.q)(u:T∈B.q)(d:C.q=[T])(n:∀U,U∈B.q↔U=T\/U∈A.q)(m:∀U∈A.q,U.y≠T.y)(o:Ea x=some T.y)
  (y:∀ρ σ,ZN (Zn x f A B C ρ σ)=Ao (Zn x f A B C ρ σ) false)(w:∀ρ σ,ZN (Zn x (!f) B A C ρ σ)=Ao (Zn x (!f) B A C ρ σ) true):
  ∃l,Half x f A B C l/\Half x (!f) B A C λb s a=>l a s b:=by
 have e:T∈C.q:=by rw[d];simp
 have i:∀{ρ σ},Pre A B C ρ σ->ZN (Zn x f A B C ρ σ)=some {Zn x f A B C ρ σ with out:=Zt T.y (σ T.y) (mkI B (WK A ρ)),nc:=Zt T.y (σ T.y) (mkI C λ_=>[])}:=λ{ρ σ} p=>by
  have ae:=(p.rc T e).l24;rw[y];refine Ww ?_;unfold Ao;refine X0 (Wb o) λv _ k=>X9 rfl<|?_;subst k;refine X0 (Wb (Ml p.cn e X)) λq _ j=>X0 (X2 rfl) λm8 _ z=>?_;subst j;refine X0 (Cl _ (by simp only;omega)) λv9 _ D=>X2 ?_;subst z D;rfl
 have g:∀{ρ σ},Pre B A C ρ σ->ZN (Zn x (!f) B A C ρ σ)=some {Zn x (!f) B A C ρ σ with nc:=Zt T.y (ρ T.y) (mkI C λ_=>[])}:=λ{ρ σ} p=>by
  rw[w];refine Ww ?_;unfold Ao;refine X0 (Wb o) λv _ k=>X1 (λ_=>?_) λh=>by cases h
  subst k;refine X0 (Wb ((p.li).input u)) λq _ j=>X2 ?_;subst j;rfl
 have r:∀{ρ:RN},∀U∈A.q,WK B ρ U.y=ρ U.y:=λ{ρ} U c=>Vl E ((n U).2 (.inr c));refine⟨λρ σ ρ'=>(∀U∈A.q,ρ' U.y=ρ U.y)/\ρ' T.y=σ T.y,⟨λ{ρ σ M2} p h he=>?_,λ{ρ σ ρ'} p _ ht=>⟨_,i p,rfl,?_,?_⟩,λ{ρ σ} p=>Ag (i p) Vz Vz⟩,⟨λ{ρ σ M2} p h he=>?_,λ{ρ σ ρ'} p _ ht=>⟨_,g p,rfl,?_,?_⟩,λ{ρ σ} p=>Ag (g p) rfl Vz⟩⟩;rw[i p] at h;cases h;refine⟨_,_,Wk,Wk,λ_ _=>⟨λU c=>?_,λU c=>?_,?_⟩⟩;rw[d] at c;rw[Yj.1 c,W0];exact p.rc T e;rw[WW (m U c),Vl t c];rw[W0,W0];show Zt T.y (σ T.y) (mkI B (WK A ρ))=_;rw[Wk];refine U3 λU c=>?_;rcases(n U).1 c with rfl|h;rw[W0,ht.2];rw[WW (m U h),Vl t h,ht.1 U h];show Zt T.y (σ T.y) (mkI C λ_=>[])=_;rw[Wk];exact Dp d W0;rw[g p] at h;cases h;refine⟨_,_,rfl,Wk,λ_ _=>⟨λU c=>?_,λU c=>(r U c).symm,W0.symm⟩⟩;rw[d] at c;rw[Yj.1 c,W0];exact p.ra T u;exact U3 λU c=>by rw[r U c];exact ht.1 U c
 show Zt T.y (ρ T.y) (mkI C λ_=>[])=_;rw[Wk];exact Dp d (by rw[W0];exact ht.2)
def Z5o{x S a C}(l:VS S)(g:VS a)(j:COK S a x C)(k:x.g=10)(o:∀U∈S.q,Z9 U.y x.v.y=false)(e:a.q=WG Ur S.q.length 1 (S.q++[x.v])):VV x S a C:=by
 have b:∀U,U∈a.q↔U=x.v\/U∈S.q:=λU=>by rw[e,C9]
 have d:∀U∈S.q,U.y≠x.v.y:=λU m n=>by
  have:=o U m
  rw[ZD.2 n] at this;cases this
 have⟨c,h,i⟩:=Q6 (x:=x) (f:=true) l.ord.1 g.ord.1 ((b _).2 (.inl rfl)) (j.cre k) b d (by unfold Ea;simp[k]) (λρ σ=>by unfold ZN;simp[Zn,k];rfl) (λρ σ=>by unfold ZN;simp[Zn,k];rfl);exact⟨c,h,i⟩
def Z3h{x S a C}(c:VS S)(l:VS a)(o:COK S a x C)(k:x.g=11)(e:a.q=S.q.filter λt=>!Z9 t.y x.u):VV x S a C:=by
 have⟨T,d,g,m⟩:=o.dro k;have i:∀U,U∈S.q↔U=T\/U∈a.q:=λU=>by
  rw[e,Y3b];refine⟨λh=>?_,λh=>h.elim (λh=>h▸d) (·.1)⟩;by_cases hq:U.y=T.y;refine .inl ?_;have b:=C7 c.ord.1 h;rw[hq,C7 c.ord.1 d] at b;exact(Option.some.inj b).symm;refine .inr ⟨h,?_⟩;cases h9:Z9 U.y x.u with
  |false=>rfl
  |true=>exact absurd ((ZD.1 h9).trans g.symm) hq
 have j:∀U∈a.q,U.y≠T.y:=λU f p=>by rw[e,Y3b] at f;rw[ZD.2 (p.trans g)] at f;cases f.2
 obtain⟨TR,b,n⟩:=Q6 (x:=x) l.ord.1 c.ord.1 d m i j (by unfold Ea;simp[k,g]) (λρ σ=>by unfold ZN;simp[Zn,k];rfl) (λρ σ=>by unfold ZN;simp[Zn,k];rfl);exact⟨_,n,b⟩
end
end Go.Am
section
namespace Go.Am
def IZ{T:E}{c:List Z8}{k:Z8}{a b e:List Z8}(h:Mid T c k a b e)(d:Z8)(g:∀x∈c,Z3 T x≠k):∀x,x∈a++d::b↔x∈c\/x=d:=λx=>by
 have f:e=[]:=by rcases h.os with h9|⟨o,rfl,i⟩;exact h9;exact absurd i (g o (by rw[h.eq];simp))
 rw[h.eq,f];simp only[Y3,Y5,Yv];exact⟨λh=>by rcases h with h|h|h<;>simp[h],λh=>by rcases h with(h|h)|h<;>simp[h]⟩
def LN{β ρ':Type}{Q W}(n:W.pk.length<=6){g:β->Z8}{e:Nat->β->List Z8->(List Z8->aB ρ')->aB ρ'}{h:List Z8->aB ρ'}:∀(d:List β) (i:Nat) (s:List Z8),Wv W s->s.length+d.length<=900->(∀z∈d,∀x∈s,Z3 W x≠Z3 W (g z))->d.Pairwise (λa b=>Z3 W (g a)≠Z3 W (g b))->
  (∀i,∀z∈d,∀s next,Wp (Z1 (A5 W s (g z)) next) Q->Wp (e i z s next) Q)->(∀c,Wv W c->c.length<=s.length+d.length->(∀x,x∈c↔x∈s\/∃z∈d,x=g z)->Wp (h c) Q)->Wp (Zd e h d i s) Q
 |[],i,s,m,_,_,_,_,hf=>hf s m (Y7 _) λx=>by simp
 |z::d,i,s,m,u,p,k,o,hf=>by
   have k:=YT.1 k;simp only[YM] at u hf;refine o i z I s _ (X0 (Ir W s (g z) n X m) λc _ w=>?_);have⟨r,h2,a,b,os,v,t⟩:=w;have f:=IZ v (g z) (p z I);rw[<-t] at f;refine LN n d (i+1) c r X (λy l x A=>?_) k.2 (λj y l=>o j y (by simp[l])) λq B q2 C=>hf q B X λx=>?_;rcases(f x).1 A with h9|rfl;exact p y (by simp[l]) x h9;exact k.1 y l;rw[C,f];simp[or_assoc]
def bo(b:Bool):GV:=⟨2,bif b then 1 else 0,ByteArray.empty⟩
def Ip(b):Dk b=some (bo b):=by cases b<;>rfl
def Zak{v}(h:WE v=some 0)(a:v.g=2):v=bo false\/v=bo true:=by
 obtain⟨-,-,-,-,-,b⟩:=DA h;have c:v.text=ByteArray.empty:=by
  unfold WE at h;simp only[cond_eq_ite] at h;rw[if_neg (by simp[a]),if_neg (by simp[a])] at h;simp only[a,beq_self_eq_true,if_true] at h
  repeat' split at h
  all_goals first
   |(exfalso;simp at h;done)
   |(refine ZD.1 ?_;simp at*;assumption)
 have⟨k,n,t⟩:=v;simp only at a c b;subst a c;rcases b rfl with rfl|rfl;exact .inl rfl;exact .inr rfl
def DJ:bo false≠bo true:=by intro h;have:=congrArg GV.int h;simp[bo] at this
def Pp{u v:GV}:∀{a b:Z8},a.length=b.length->ZO (a++[u]) (b++[v])=if ZO a b≠0 then ZO a b else Ws u v
 |[],[],_=>by
   show(if Ws u v≠0 then Ws u v else 0)=_;by_cases h:Ws u v=0;simp[ZO,h];simp[ZO,h]
 |x::a,y::b,h=>by
   have c:=Pp (u:=u) (v:=v) (sU h);show(if Ws x y≠0 then Ws x y else ZO (a++[u]) (b++[v]))=if(if Ws x y≠0 then Ws x y else ZO a b)≠0 then(if Ws x y≠0 then Ws x y else ZO a b) else Ws u v
   rw[c];by_cases hc:Ws x y=0;simp[hc];simp[hc]
def Lx{T W:E}(b:VT T)(a:W.pk=T.pk++[(T.j.length:Int)]){r:Z8}{v:GV}(hl:r.length=T.j.length):Z3 W (r++[v])=Z3 T r++[v]:=by
 unfold Z3;rw[a,YL]
 congr 1
 refine YN λp a=>?_
 have:=b.pk p a
 obtain⟨i,rfl⟩:∃i:Nat,p=i:=⟨p.toNat,X⟩;rw[Az sO,Az X,List.getElem_append_left X];rw[Yb,Yf,Az sO,List.getElem_append_right X];simp
open Classical in
noncomputable def part (b:Bool) (a:List Z8):List Z8:=a.filterMap λx=>if x.getLast?=some (bo b) then some x.dropLast else none
def EV{b a r}:r∈part b a↔r++[bo b]∈a:=by
 unfold part;rw[YS];refine⟨λ⟨x,d,h⟩=>?_,λh=>⟨_,h,I⟩⟩;split at h;rename_i c;cases h;obtain⟨ys,rfl⟩:=List.getLast?_eq_some_iff.1 c;simpa using d;cases h
def PP{T W:E}(e:VT T)(g:W.pk=T.pk++[(T.j.length:Int)]){d:List Z8}(f:∀x∈d,x.length=T.j.length+1)(k:ZJ (Z3 W) d)(b:Bool):ZJ (Z3 T) (part b d):=by
 unfold ZJ part;rw[List.pairwise_filterMap];refine List.Pairwise.imp_of_mem (λ{x y} hx hy h a hxa c hyc=>?_) k;split at hxa;split at hyc;rename_i i j;cases hxa;cases hyc;obtain⟨n,rfl⟩:=List.getLast?_eq_some_iff.1 i;obtain⟨o,rfl⟩:=List.getLast?_eq_some_iff.1 j;have l:=f _ hx;have m:=f _ hy;simp only[Ye,Y34] at l m;rw[Lx e g X,Lx e g X,Pp (by rw[Vs,Vs])] at h;simp only[List.dropLast_concat];by_cases hc:ZO (Z3 T n) (Z3 T o)=0;rw[if_neg (sU hc),Po] at h;omega
 rwa [if_pos (sU hc)] at h
 cases hyc;cases hxa
end Go.Am
end
namespace Go.Am
section
def P8{b c:Bool}{a:List Z8}{r:Z8}:part b (a++[r++[bo c]])=part b a++if b=c then[r] else[]:=by
 unfold part;rw[Y32]
 congr 1
 have:(bo c=bo b)↔b=c:=by
  cases b<;>cases c<;>simp[DJ,DJ.symm]
 by_cases h:b=c;subst h;simp;simp[this,h]
def Rq{W:E}{a:List Col}{c:Col}(g:W.j=a++[c])(o:c.g=2)(p:c.f=false){x:Z8}(h:CR W x):∃r b,x=r++[bo b]/\r.length=a.length:=by
 have d:=h.len;rw[g,Ye,Y34] at d;have i:x≠[]:=λe=>by rw[e] at d;simp at d
 obtain⟨r,v,rfl⟩:∃r v,x=r++[v]:=⟨x.dropLast,x.getLast i,(List.dropLast_concat_getLast i).symm⟩;have f:r.length=a.length:=sU d;have⟨j,k,l⟩:=h.cell a.length v c (by rw[<-f];simp) (by rw[g];simp);have m:v.g≠0:=λn=>by have:=k n;rw[p] at this;cases this
 rcases Zak j (by rw[l m,o]) with rfl|rfl;exact⟨r,false,rfl,f⟩;exact⟨r,true,rfl,f⟩
def RY{κ}{c:List Z8}(h:ZJ κ c):c.Pairwise λa b=>κ a≠κ b:=h.imp λh e=>by rw[e,Gt] at h;omega
def Z7m{x:Stp}{S c C:Sch}(P:VS S)(af:VS c)(N:COK S c x C){i j:Nat}{T O:E}(k:x.g=9)(hi:S.q[i]?=some T)(K:Z9 T.y x.u=true)(hj:S.q[j]?=some O)(ho:Z9 O.y x.o=true)(hij:i≠j)(hc:T.j=O.j)(hp:T.pk=O.pk)
  (e:c.q=(S.q.set i {T with pk:=T.pk++[(T.j.length:Int)],j:=T.j++[⟨x.d,2,false⟩]}).filter λt=>!Z9 t.y O.y):VV x S c C:=by
 have K:=ZD.1 K;have ho:=ZD.1 ho;have N:=N.nil (.inr (.inr k));have R:=Y2 hi;have Y:=Y2 hj;have ar:=Jh P.ord.1 hi hj hij;obtain⟨W,ab⟩:∃W:E,W={T with pk:=T.pk++[(T.j.length:Int)],j:=T.j++[⟨x.d,2,false⟩]}:=⟨_,rfl⟩;have G:W.y=T.y:=by rw[ab]
 have ah:W.pk=T.pk++[(T.j.length:Int)]:=by rw[ab]
 have ac:W.j=T.j++[⟨x.d,2,false⟩]:=by rw[ab]
 rw[<-ab] at e;have M:∀U,U∈c.q↔U=W\/(U∈S.q/\U.y≠T.y/\U.y≠O.y):=λU=>by
  rw[e,Y3b,(JE.set (T':=W) P.ord.1 hi (ED _)) U];simp only[Y5,Xn,or_false,Bool.not_eq_true'];constructor;rintro⟨l,B⟩;have A:U.y≠O.y:=λh=>by rw[ZD.2 h] at B;cases B
  rcases l with l|l;exact .inl l;exact .inr ⟨l.1,l.2,A⟩;have key:U.y≠O.y->Z9 U.y O.y=false:=λh=>by
   cases hq:Z9 U.y O.y with
   |false=>rfl
   |true=>exact absurd (ZD.1 hq) h
  rintro(rfl|⟨l,B,A⟩);exact⟨.inl rfl,key (by rwa [G])⟩;exact⟨.inr ⟨l,B⟩,key A⟩
 have J:=(M W).2 (.inl rfl);have vT:=P.tab T R;have vW:=af.tab W J;have kO:∀r,Z3 O r=Z3 T r:=λr=>by unfold Z3;rw[hp]
 have len:∀{ρ:RN} {σ:RN} (_:Pre S c C ρ σ),(∀r∈ρ T.y,r.length=T.j.length)/\∀r∈ρ O.y,r.length=T.j.length:=λp=>⟨λr F=>((p.ra T R).row r F).len,λr F=>by rw[hc];exact((p.ra O Y).row r F).len⟩;have ak:∀{ρ σ:RN},Pre S c C ρ σ->Wp (ZN (Zn x true S c C ρ σ)) λM2=>∃g,M2={Zn x true S c C ρ σ with out:=Zt T.y g (mkI c (WK S ρ))}/\Wv W g/\∀z,z∈g↔(∃r∈ρ T.y,z=r++[bo false])\/∃r∈ρ O.y,z=r++[bo true]:=λ{ρ σ} p=>by
  have L:=p.li (x:=x) (fwd:=true);have⟨lT,lO⟩:=len p;have aq:=(p.ra T R).l24;have au:=(p.ra O Y).l24;unfold ZN;simp only[show(Zn x true S c C ρ σ).step=x from rfl,k];show Wp (GL (Zn x true S c C ρ σ)) _;unfold GL;refine X0 (DP L J (G.trans K)) λV _ hW'=>?_;subst hW';have tab:∀{ρ':Type} {Q:ρ'->Prop} b (n:Nat) {U:E} {t:aA} (_:U∈S.q) (_:U.y=t) (_:((n:Int)==1)=b) s (next:List Z8->aB ρ'),Wp (Zd (Gg V b) next (ρ U.y) 0 s) Q->Wp (KD (Zn x true S c C ρ σ) V n t s next) Q:=by
   intro ρ' Q b n U t m ht hb s next h
   subst ht;obtain⟨ap,-⟩:=L.rM m;obtain⟨j,hf,-⟩:=Cz P.ord.1 m;unfold KD JF;refine X0 (Wb (L.tab m)) λq _ hq=>X0 (Wb hf) λf _ hf=>?_;subst hq hf;rw[hb];exact X4 ⟨rfl,ap⟩ h
  have row:∀{ρ':Type} {Q:ρ'->Prop} b n z s (next:List Z8->aB ρ'),z.length=T.j.length->Wp (Z1 (A5 V s (z++[bo b])) next) Q->Wp (Gg V b n z s next) Q:=by
   intro ρ' Q b n z s next w h
   have:=vT.cols6
   unfold Gg;refine Xb (Ip b) ?_;exact X4 X h
  have kk:∀{a:Z8} {v:GV},a.length=T.j.length->Z3 V (a++[v])=Z3 T a++[v]:=λh=>Lx vT ah h;refine tab false 0 R K dE [] _ ?_;refine LN vW.pk6 _ 0 [] .nil sO (λz _ y hy=>by cases hy) ?_ (λn z w s next h=>row false n z s next (lT z w) h) ?_;refine(RY (p.ra T R).asc).imp_of_mem λ{a b} ha hb h D=>h ?_;rw[kk (lT a ha),kk (lT b hb)] at D;exact List.append_cancel_right D;intro o1 a1 l1 m1;refine tab true 1 Y ho dE o1 _ ?_;refine LN vW.pk6 _ 0 o1 a1 (by simp at l1;omega) (λz w y hy D=>?_) ?_ (λn z w s next h=>row true n z s next (lO z w) h) ?_;rcases(m1 y).1 hy with h9|⟨r,F,rfl⟩;cases h9;rw[kk (lT r F),kk (lO z w)] at D;exact DJ (sU ((List.append_inj' D rfl).2));refine(RY (p.ra O Y).asc).imp_of_mem λ{a b} ha hb h D=>h ?_;rw[kk (lO a ha),kk (lO b hb)] at D;rw[kO,kO];exact List.append_cancel_right D;intro o2 a2 _ m2;refine X2 ⟨o2,by rw[K];rfl,a2,λz=>?_⟩;rw[m2,m1];simp
 have ae:∀{ρ σ:RN},Pre c S C ρ σ->ZN (Zn x false c S C ρ σ)=some {Zn x false c S C ρ σ with out:=Zt O.y (part true (ρ T.y)) (Zt T.y (part false (ρ T.y)) (mkI S (WK c ρ)))}:=λ{ρ σ} p=>by
  have L:=p.li (x:=x) (fwd:=false);have o:=p.ra W J;rw[G] at o;have aq:=o.l24;have c6:=vW.cols6;refine Ww ?_;unfold ZN;simp only[show(Zn x false c S C ρ σ).step=x from rfl,k];show Wp (Gn (Zn x false c S C ρ σ)) _;unfold Gn;refine X0 (AE L J (G.trans K)) λq _ hq=>?_;subst hq;rw[G];refine X4 (by simp only;omega) (X6 (λi s=>s=(part false ((ρ T.y).take i),part true ((ρ T.y).take i))) rfl ?_ λs hs=>X2 (by rw[hs,Yl];simp only[K,ho];rfl));intro n z s next w Z hs ag
  obtain⟨r,b,rfl,F⟩:=Rq ac rfl rfl (o.row z Z);have hlen:=(o.row _ Z).len;have aj:(ρ T.y).take (n+1)=(ρ T.y).take n++[r++[bo b]]:=by have⟨l,B⟩:=Y0.1 w;rw[Yg l,B]
  rw[aj,P8,P8] at ag;unfold Lq;have e1:(((r++[bo b]).length:Int)-1)=r.length:=I
  have e2:(r++[bo b]).take ((r++[bo b]).length-1)=r:=I;refine X4 X ?_;rw[e1,e2];refine X5 (x:=bo b) I ?_;cases b with
  |false=>exact X1 (λ_=>ag _ (by rw[hs];simp)) λh=>by simp[bo] at h
  |true=>exact X1 (λh=>by simp[bo] at h) λ_=>X4 rfl (ag _ (by rw[hs];simp))
 have ao:∀{ρ ρ':RN},RI S ρ->RI c ρ'->(∀z,z∈ρ' T.y↔(∃r∈ρ T.y,z=r++[bo false])\/∃r∈ρ O.y,z=r++[bo true])->part false (ρ' T.y)=ρ T.y/\part true (ρ' T.y)=ρ O.y:=λ{ρ ρ'} ri ri' Z=>by
  have o:=ri' W J;rw[G] at o;have hl:∀z∈ρ' T.y,z.length=T.j.length+1:=λz w=>by rw[(o.row z w).len,ac];simp
  have am:∀{a b:Z8} {u v:GV},a++[u]=b++[v]↔a=b/\u=v:=λ{a b u v}=>⟨λh=>by have:=List.append_inj' h rfl;exact⟨this.1,sU this.2⟩,λh=>by rw[h.1,h.2]⟩;have aO:ZJ (Z3 T) (ρ O.y):=(ri O Y).asc.imp λh=>by rw[<-kO,<-kO];exact h
  refine⟨(PP vT ah hl o.asc false).ext (ri T R).asc λr=>?_,(PP vT ah hl o.asc true).ext aO λr=>?_⟩;rw[EV,Z];simp only[am,DJ,and_false,exists_false,or_false,and_true];exact⟨λ⟨_,l,B⟩=>B▸l,λh=>⟨r,h,rfl⟩⟩;rw[EV,Z];simp only[am,DJ.symm,and_false,exists_false,false_or,and_true];exact⟨λ⟨_,l,B⟩=>B▸l,λh=>⟨r,h,rfl⟩⟩
 have ad:∀U∈c.q,U.y≠T.y->U∈S.q/\U.y≠O.y:=λU m d=>by rcases(M U).1 m with rfl|h;exact absurd G d;exact⟨h.1,h.2.2⟩
 refine⟨λρ _ ρ'=>(∀U∈c.q,U.y≠T.y->ρ' U.y=ρ U.y)/\∀z,z∈ρ' T.y↔(∃r∈ρ T.y,z=r++[bo false])\/∃r∈ρ O.y,z=r++[bo true],⟨λ{ρ σ M2} p h D=>?_,λ{ρ σ ρ'} p F ht=>?_,λ{ρ σ} p=>by obtain⟨M3,A,g,rfl,-⟩:=ak p;exact Ag A Vz rfl⟩,⟨λ{ρ' σ M2} p h D=>?_,λ{ρ' σ ρ} p F ht=>?_,λ{ρ σ} p=>Ag (ae p) (Vz.trans Vz) rfl⟩⟩;obtain⟨M3,A,g,rfl,H,h5⟩:=ak p;rw[A] at h;cases h;refine⟨_,λ_=>[],Wk,rfl,λ_ _=>⟨J8 N _,λU m d=>?_,λz=>by rw[W0];exact h5 z⟩⟩;rw[WW d,Vl P.ord.1 (ad U m d).1];obtain⟨M3,A,g,rfl,H,h5⟩:=ak p;have o:=F W J;rw[G] at o;have eo:g=ρ' T.y:=(show ZJ (Z3 W) g from H).ext o.asc λz=>(h5 z).trans (ht.2 z).symm;refine⟨_,A,rfl,?_,J9 N (λ_=>[]) σ⟩;show Zt T.y g (mkI c (WK S ρ))=_;rw[Wk];refine U3 λU m=>?_;by_cases d:U.y=T.y;rw[d,W0,eo];rw[WW d,Vl P.ord.1 (ad U m d).1,ht.1 U m d];rw[ae p] at h;cases h;refine⟨_,λ_=>[],by simp only[Zn];rw[Wk,Wk],rfl,λ_ _=>⟨J8 N _,λU m d=>?_,λz=>?_⟩⟩;rw[WW (ad U m d).2,WW d,Vl af.ord.1 m];rw[WW ar,W0,W0];constructor;intro w;have o:=p.ra W J;rw[G] at o;obtain⟨r,b,rfl,-⟩:=Rq ac rfl rfl (o.row z w);cases b with
 |false=>exact .inl ⟨r,EV.2 w,rfl⟩
 |true=>exact .inr ⟨r,EV.2 w,rfl⟩
 rintro(⟨r,l,rfl⟩|⟨r,l,rfl⟩);exact EV.1 l;exact EV.1 l;have⟨l,B⟩:=ao F p.ra ht.2;refine⟨_,ae p,rfl,?_,J9 N (λ_=>[]) σ⟩;show Zt O.y (part true (ρ' T.y)) (Zt T.y (part false (ρ' T.y)) (mkI S (WK c ρ')))=_;rw[Wk,Wk,l,B];refine U3 λU m=>?_;by_cases A:U.y=O.y;rw[A,W0];rw[WW A];by_cases H:U.y=T.y;rw[H,W0];have al:U∈c.q:=(M U).2 (.inr ⟨m,H,A⟩);rw[WW H,Vl af.ord.1 al];exact ht.1 U al H
def R6{a:Int}:∀xs i {k:Int},Is (Zd (λf l g e=>(bif (a==l) then(some (f:Int)) else(e ()))) (λg=>(some (-1))) xs i ()) k->
  (k=-1/\a∉xs)\/∃j:Nat,k=((i+j:Nat):Int)/\xs[j]?=some a
 |[],_,k,h=>.inl ⟨(Option.some.inj h).symm,by simp⟩
 |x::xs,i,k,h=>by have h:Is (bif a==x then some (i:Int) else Zd _ _ xs (i+1) ()) k:=h;cases b:a==x with|true=>?_|false=>?_;rw[b] at h;exact .inr ⟨0,(Option.some.inj h).symm,by rw[eq_of_beq b];rfl⟩;rw[b] at h;rcases R6 xs (i+1) h with⟨d,c⟩|⟨j,d,c⟩;exact .inl ⟨d,by simp only[Y5,not_or];exact⟨sU b,c⟩⟩;exact .inr ⟨j+1,X,sU c⟩
def Z7p{a}{v k:Int}(h:Cj a v=some k):(k=-1/\v∉a)\/∃j:Nat,k=(j:Int)/\a[j]?=some v:=by
 have:=R6 a 0 h
 simpa using this
def OG{α:Type}{a b}{x:α}:Zo a 0 (b++[x])=Zo a 0 b++(if(b.length:Int)∈a then[] else[x]):=by
 have:=KE a x b 0
 rwa [XI] at this
def Z9o{e c}{g a:List Int}{w:Nat}(Y:g.Pairwise (·<·))(W:∀v∈g,0<=v/\v<(e.length:Int))(J:a.Pairwise (·<·))(t:∀v∈a,0<=v/\v<(w:Int))(d:c.length=a.length)
  (hw:w+g.length=e.length+a.length)(hr:e.length<=100)(ah:w<=100):Wp (By e g a c (w:Int)) λr=>r.length=w/\Zo a 0 r=Zo g 0 e/\a.map (Zu r)=c:=by
 have kl:=UK Y W;unfold By;refine X6 (λi s=>s=Zo g 0 (e.take i)) rfl ?_ ?_
 .intro i x s next T _ H A
  have hi:=(Y0.1 T).1;have P:s.length<=i:=by rw[H];exact YE Lz sO
  rw[Dl g T,<-H] at A;refine X0 (C4 g i) λb _ C=>X1 (λh=>X8 sO (A _ ?_)) λh=>A _ ?_
  have:(i:Int)∉g:=λf=>by rw[C.2 f] at h;cases h
  rw[if_neg this]
  have:(i:Int)∈g:=C.1 (sU h)
  rw[if_pos this,Ym]
 intro s I;rw[Yl] at I;rw[show(w:Int).toNat=w by omega];refine Xa (λi q=>q.1.length=i/\Zo a 0 q.1++q.2=s/\q.2.length+i=s.length+V1 a i/\∀j v,a[j]?=some v->v<(i:Int)->(q.1[v.toNat]?)=c[j]?) ⟨rfl,rfl,by rw[LF λv d=>(t v d).1],λj v d h=>by have:=t v (Y2 d);omega⟩ ?_ λq K=>X2 ⟨K.1,?_,?_⟩
 .intro i q next hi H A
  have R:=IJ J i;have⟨m,F,u,B⟩:=H;have o:∀(z:GV) (j:Nat) (v:Int),a[j]?=some v->v<(i:Int)->(q.1++[z])[v.toNat]?=c[j]?:=λz j v d n=>by
   have:=t v (Y2 d)
   rw[Yu X];exact B j v d n
  refine X0 (by have⟨k,D,_⟩:=Kq a i;exact⟨k,D,Z7p D⟩) λk _ D=>X1 (λh=>?_) λh=>?_;have Q:0<=k:=sU h;obtain⟨j,rfl,l⟩:∃j:Nat,k=j/\a[j]?=some i:=D.resolve_left λf=>X
  have V:=(Y0.1 l).1;have p:=Y2 l;refine X3 Q X λy U _=>X8 sO (X4 (by simp only[Wm];omega) (A _ ⟨by simp[m],?_,?_,?_⟩));show Zo a 0 (q.1++[y])++q.2=s
  rwa [OG,m,if_pos p,Ym]
  rw[R.1 p];show q.2.length+(i+1)=_;omega;intro E v d n;show(q.1++[y])[v.toNat]?=_;by_cases he:v=i;subst he
  have:E=j:=by
   have S:a.Pairwise (·≠·):=J.imp λh=>X;rcases Y06 E j with f|f|f;have⟨L,M⟩:=Y0.1 d;have⟨N,O⟩:=Y0.1 l;exact absurd (M.trans O.symm) (YK.1 S E j L N f);exact f;have⟨L,M⟩:=Y0.1 d;have⟨N,O⟩:=Y0.1 l;exact absurd (O.trans M.symm) (YK.1 S j E N L f)
  subst this;rw[Yn,YC X,m,Y3f];rw[Yn] at U;rw[U];rfl;exact o y E v d X;have Q:¬0<=k:=sU h;have p:(i:Int)∉a:=by rcases D with f|⟨j,rfl,-⟩;exact f.2;omega
  have G:=R.2 p;have Z:=RT J (i+1) (w-(i+1));rw[show i+1+(w-(i+1))=w by omega,Md λv d=>(t v d).2] at Z;have P:s.length=(Zo g 0 e).length:=by rw[I]
  have⟨q1,q2⟩:=q;simp only at m F u B o;cases q2 with
  |nil=>simp at u;omega
  |cons y ys=>?_
  simp only[YM] at u;refine X5 rfl (X8 sO (X4 ⟨X,by simp only[YM];omega,X⟩ (X4 (by simp only[Wm];omega) (A _ ⟨by simp[m],?_,?_,?_⟩))));show Zo a 0 (q1++[y])++((y::ys).take (y::ys).length).drop 1=s
  rwa [OG,m,if_neg p,Yl,Yz]
  rw[G];show(((y::ys).take (y::ys).length).drop 1).length+(i+1)=_;rw[Yl];simp;omega;intro j v d n;have hne:v≠(i:Int):=λf=>p (f▸Y2 d);exact o y j v d X
 have⟨_,F,u,B⟩:=K;rw[Md λv d=>(t v d).2] at u;have P:s.length=(Zo g 0 e).length:=by rw[I]
 have:q.2=[]:=YF X
 rw[this,Ym] at F;rw[F,I];have⟨m,_,u,B⟩:=K;refine YU λj=>?_;rw[Y9];cases l:a[j]? with|none=>?_|some v=>?_
 have:=Y36.1 l
 rw[Yq X];rfl;have C:=t v (Y2 l);have G:=B j v l C.2;have V:=(Y0.1 l).1;rw[Y1 (X:j<c.length)] at G|-;show some (Zu q.1 v)=_;unfold Zu;rw[if_pos C.1,G];rfl
structure CvS(T W:E)(ai ao:List Int):Prop where
 t:VT T
 w:VT W
 a1:ai.Pairwise (·<·)
 a2:∀v∈ai,0<=v/\v<(T.j.length:Int)
 a3:∀v∈ai,v∉T.pk
 b1:ao.Pairwise (·<·)
 b2:∀v∈ao,0<=v/\v<(W.j.length:Int)
 b3:∀v∈ao,v∉W.pk
 eq:ZW W ao=ZW T ai
def CvS.symm{T W a b}(s:CvS T W a b):CvS W T b a:=⟨s.w,s.t,s.b1,s.b2,s.b3,s.a1,s.a2,s.a3,s.eq.symm⟩
def CvS.len{T W a b}(s:CvS T W a b):W.j.length+a.length=T.j.length+b.length:=by have h1:=UK s.a1 s.a2;have c:=UK s.b1 s.b2;have d:Zo b 0 W.j=Zo a 0 T.j:=congrArg E.j s.eq;rw[d] at c;omega
def CvS.key{T W:E}{c d:List Int}(s:CvS T W c d){r b:Z8}(e:r.length=T.j.length)(f:b.length=W.j.length)(g:Zo c 0 r=Zo d 0 b):Z3 W b=Z3 T r:=by
 rw[<-M8 s.a1 (λv a=>(s.a2 v a).1) s.a3 (λv a=>by rw[e];exact s.t.pk v a),<-M8 s.b1 (λv a=>(s.b2 v a).1) s.b3 (λv a=>by rw[f];exact s.w.pk v a),s.eq,g]
def ZA.rR{α:Type}{f g}:∀{a:List α},ZA (a.map f) (a.map g)->∀x∈a,W8 (g x) (f x)
 |[],_,x,hx=>by cases hx
 |y::ys,h,x,hx=>by rcases Y5.1 hx with rfl|hx;exact h.1;exact ZA.rR h.2 x hx
def Zao{W:E}{a:List Int}(h:a.Pairwise (·<·))(f:∀v∈a,0<=v){r:Z8}(o:r.length=W.j.length)(n:CR (ZW W a) (Zo a 0 r))(m:ZA (a.map λv=>kn (Zf W v)) (a.map (Zu r))):CR W r:=by
 refine⟨o,λi v c p b=>?_⟩;have⟨g,j⟩:=Y0.1 p;have⟨k,l⟩:=Y0.1 b;by_cases hm:(i:Int)∈a
 have:=ZA.rR m _ hm
 rwa [Az g,j,VA X (by rw[Yn];exact b)] at this
 have d:=Gp h f g hm;have e:=Gp h f k hm;rw[j] at d;rw[l] at e;exact n.cell _ _ _ d e
end
end Go.Am
section
namespace Go.Am
def Uc(r:Z8)(b c:List Int)(a:aE)(w:Nat):Z8:=(By r b c a w).getD []
open Classical in
noncomputable def V5 (f:Bool) (n N:Nat) (b:aE->aE×Bool) (a:aE):aB Z8->aE×Bool
 |none=>b a
 |some e=>if(sw f ((e.drop N).take n) ((e.drop N).drop n)).1=a then((sw f ((e.drop N).take n) ((e.drop N).drop n)).2,decide (b a=((sw f ((e.drop N).take n) ((e.drop N).drop n)).2,true))) else b a
noncomputable def An (f:Bool) (n w:Nat) (T:E) (a c:List Int) (b:aE->aE×Bool) (o:aB Z8) (r:Z8):Z8×aB Z8:=
 (Uc r a c (V5 f n T.pk.length b (a.map (Zu r)) o).1 w,bif !(V5 f n T.pk.length b (a.map (Zu r)) o).2 then some (Z3 T r++((sw f (a.map (Zu r)) (V5 f n T.pk.length b (a.map (Zu r)) o).1).1++(sw f (a.map (Zu r)) (V5 f n T.pk.length b (a.map (Zu r)) o).1).2)) else none)
def Ft(f:Bool)(T W:E)(b c:List Int)(d:aE->aE×Bool)(r:Z8)(o:aB Z8)(a:Z8):Prop:=
 CR T r/\CR W a/\Zo b 0 r=Zo c 0 a/\(d (b.map (Zu r))=(c.map (Zu a),true)->o=none)/\(d (b.map (Zu r))≠(c.map (Zu a),true)->o=some (Z3 T r++((sw f (b.map (Zu r)) (c.map (Zu a))).1++(sw f (b.map (Zu r)) (c.map (Zu a))).2)))
def EX{T W:E}{c b:List Int}(s:CvS T W c b){r:Z8}(f:r.length=T.j.length){a:aE}(g:a.length=b.length):By r c b a (W.j.length:Int)=some (Uc r c b a W.j.length)/\(Uc r c b a W.j.length).length=W.j.length/\Zo b 0 (Uc r c b a W.j.length)=Zo c 0 r/\b.map (Zu (Uc r c b a W.j.length))=a:=by
 have h1:=s.t.cols6;have h2:=s.w.cols6;have h3:=s.len;obtain⟨q,e,d⟩:=Z9o s.a1 (by rw[f];exact s.a2) s.b1 s.b2 g X X X
 have:Uc r c b a W.j.length=q:=by unfold Uc;rw[e];rfl
 rw[this];exact⟨e,d⟩
def Zd4{f}{x y:aE}:(sw f x y).1.length+(sw f x y).2.length=x.length+y.length:=by cases f<;>simp[sw]<;>omega
def Zc3{f}{a b:aE}{n:Nat}(h:n=(sw f a b).1.length):sw f (((sw f a b).1++(sw f a b).2).take n) (((sw f a b).1++(sw f a b).2).drop n)=(a,b):=by subst h;rw[Y3e rfl,XK rfl];cases f<;>rfl
structure CvD(f:Bool)(n:Nat)(T W ct:E)(ai ao:List Int)(cv:List GV->List GV×Bool):Prop where
 s:CvS T W ai ao
 n:n=(sw f ai ao).1.length
 c:CT T ((sw f (ai.map λv=>kn (Zf T v)) (ao.map λv=>kn (Zf W v))).1++(sw f (ai.map λv=>kn (Zf T v)) (ao.map λv=>kn (Zf W v))).2) ct
 ok:∀a,ZA (ai.map λv=>kn (Zf T v)) a->ZA (ao.map λv=>kn (Zf W v)) (cv a).1
def CvD.kept{f}{n:Nat}{T W i c e j}(d:CvD f n T W i c e j){a b}(g:ZA (c.map λv=>kn (Zf T v)) a)(h:ZA (e.map λv=>kn (Zf W v)) b):ZA ((sw f (c.map λv=>kn (Zf T v)) (e.map λv=>kn (Zf W v))).1++(sw f (c.map λv=>kn (Zf T v)) (e.map λv=>kn (Zf W v))).2) ((sw f a b).1++(sw f a b).2):=by
 cases f;exact h.app g;exact g.app h
def CvD.pick{f:Bool}{n:Nat}{T W m:E}{j g:List Int}{b:aE->aE×Bool}(d:CvD f n T W m j g b){a:aE}(p:ZA (j.map λv=>kn (Zf T v)) a){o:aB Z8}(r:∀e,o=some e->CR m e):ZA (g.map λv=>kn (Zf W v)) (V5 f n T.pk.length b a o).1/\((V5 f n T.pk.length b a o).2=true↔b a=((V5 f n T.pk.length b a o).1,true)):=by
 have l:ZA (g.map λv=>kn (Zf W v)) (b a).1/\((b a).2=true↔b a=((b a).1,true)):=⟨d.ok a p,λh=>Prod.ext rfl h,λh=>congrArg Prod.snd h⟩;cases o with
 |none=>exact l
 |some e=>?_
 unfold V5;simp only;split;rename_i q;refine⟨?_,I⟩;obtain⟨-,c⟩:=d.c.parts (r e rfl);have hn:=d.n;have i:=c.len
 revert c i
 generalize e.drop T.pk.length=z at q|-;intro c i;cases f with|true=>?_|false=>?_;simp only[sw,cond_true] at*;have k:(z.take n).length=(j.map λv=>kn (Zf T v)).length:=by rw[YA,i,Ye,Yd,Yd];omega
 rw[<-Yy n z] at c;exact(ZA.split k c).2;simp only[sw,cond_false] at*;have k:(z.take n).length=(g.map λv=>kn (Zf W v)).length:=by rw[YA,i,Ye,Yd,Yd];omega
 rw[<-Yy n z] at c;exact(ZA.split k c).1;exact l
def CvD.fok{f:Bool}{n:Nat}{T W i:E}{a b:List Int}{c:aE->aE×Bool}(d:CvD f n T W i a b c)(r:Z8)(o:aB Z8)(g:CR T r)(u:∀e,o=some e->CR i e/\Z3 i e=Z3 T r):Ft f T W a b c r (An f n W.j.length T a b c o r).2 (An f n W.j.length T a b c o r).1:=by
 have p:=ZA.cells g d.s.a2;have⟨m,k⟩:=d.pick p λe q=>(u e q).1;have t:(V5 f n T.pk.length c (a.map (Zu r)) o).1.length=b.length:=by rw[m.len,Yd]
 obtain⟨-,x,l,j⟩:=EX d.s g.len t;have s:CR (ZW W b) (Zo b 0 (Uc r a b (V5 f n T.pk.length c (a.map (Zu r)) o).1 W.j.length)):=by rw[l,d.s.eq];exact So g
 refine⟨g,Zao d.s.b1 (λv w=>(d.s.b2 v w).1) x s (by simp only[An];rwa [j]),l.symm,λh=>?_,λh=>?_⟩;simp only[An] at h|-;rw[j] at h;rw[k.2 h];rfl;simp only[An] at h|-;rw[j] at h|-;cases hb:(V5 f n T.pk.length c (a.map (Zu r)) o).2 with
 |true=>exact absurd (k.1 hb) h
 |false=>rfl
def CvD.fR{f:Bool}{n:Nat}{T W k:E}{b a:List Int}{e:aE->aE×Bool}(d:CvD f n T W k b a e){r o c}(h:Ft f T W b a e r o c):An f n W.j.length T b a e o r=(c,o):=by
 have⟨m,p,q,i,j⟩:=h;have t:V5 f n T.pk.length e (b.map (Zu r)) o=(a.map (Zu c),decide (o=none)):=by
  by_cases he:e (b.map (Zu r))=(a.map (Zu c),true)
  rwa [i he]
  rw[j he];unfold V5;simp only;rw[XK Vs,Zc3 (by rw[d.n];cases f<;>simp[sw])];simp[he]
 have s:(a.map (Zu c)).length=a.length:=Yd ..;obtain⟨-,u,w,x⟩:=EX d.s m.len s;have l:=QQ d.s.b1 (λv g=>(d.s.b2 v g).1) (by rw[u,p.len]) (by rw[w,q]) λv g=>List.map_inj_left.1 x v g;unfold An;rw[t];refine Prod.ext l ?_;show(bif !decide (o=none) then some (Z3 T r++((sw f (b.map (Zu r)) (a.map (Zu c))).1++(sw f (b.map (Zu r)) (a.map (Zu c))).2)) else none)=o;by_cases he:e (b.map (Zu r))=(a.map (Zu c),true);rw[i he];rfl;rw[j he];rfl
def Ft.symm{f T W c d k e}(s:CvS T W c d)(w:∀a b,ZA (c.map λv=>kn (Zf T v)) a->ZA (d.map λv=>kn (Zf W v)) b->(k a=(b,true)↔e b=(a,true))){r o g}(h:Ft f T W c d k r o g):Ft (!f) W T d c e g o r:=by
 have⟨i,j,l,n,p⟩:=h;have t:=s.key i.len j.len l;have m:=w _ _ (ZA.cells i s.a2) (ZA.cells j s.b2);have u:(sw (!f) (d.map (Zu g)) (c.map (Zu r)))=sw f (c.map (Zu r)) (d.map (Zu g)):=by cases f<;>rfl
 refine⟨j,i,l.symm,λh=>n (m.2 h),λh=>?_⟩;rw[u,t];exact p λq=>h (m.1 q)
def Zf0{f}{n:Nat}{T W l g i}{k j:aE->aE×Bool}(d:CvD f n T W l g i k)(m:CvD (!f) n W T l i g j)(s:∀a b,ZA (g.map λv=>kn (Zf T v)) a->ZA (i.map λv=>kn (Zf W v)) b->(k a=(b,true)↔j b=(a,true))):
  ColL (Z3 T) (Z3 W) (Z3 l) (An f n W.j.length T g i k) (An (!f) n T.j.length W i g j) (CR T) (CR W) (CR l) (Ft f T W g i k):=by
 have t:=λa b u w=>(s b a w u).symm;refine⟨λr o q p=>d.fok r o q p,λr o q p=>?_,λh=>d.fR h,λh=>m.fR (h.symm d.s s),λ{r o r'} h=>⟨d.s.key h.1.len h.2.1.len h.2.2.1,λe c=>?_⟩,λ{r o r'} h=>⟨h.1,h.2.1,λe c=>?_⟩⟩
 have:=(m.fok r o q p).symm m.s t
 rwa [Bool.not_not] at this
 by_cases h9:k (g.map (Zu r))=(i.map (Zu r'),true);rw[h.2.2.2.1 h9] at c;cases c;rw[h.2.2.2.2 h9] at c;cases c;exact d.c.key Vs;by_cases h9:k (g.map (Zu r))=(i.map (Zu r'),true);rw[h.2.2.2.1 h9] at c;cases c;rw[h.2.2.2.2 h9] at c;cases c;exact d.c.row d.s.t h.1 (d.kept (ZA.cells h.1 d.s.a2) (ZA.cells h.2.1 d.s.b2))
end Go.Am
end
section
namespace Go.Am
def Ze8{ρ':Type}{Q:ρ'->Prop}{b:List Int}{a:Z8}{k:aE->aB ρ'}(e:∀v∈b,0<=v/\v<(a.length:Int))(f:Wp (k (b.map (Zu a))) Q):Wp (Lv b a k) Q:=by
 unfold Lv;refine X6 (λi s=>s=(b.take i).map (Zu a)) rfl ?_ λs c=>by rw[c,Yl];exact f
 intro i j s next m g c h
 have⟨d,h1⟩:=e j g;refine X3 d X λv l _=>h _ ?_;rw[c,Gj m]
 congr 2
 unfold Zu;rw[if_pos d,l];rfl
variable{M:Mp}{ρ σ:RN}
open Classical in
def ON(L:LI M ρ σ){T W g:E}{j o}{n:Nat}{l}(y:T∈M.src.q)(hn:T.y=M.step.u)(P:W∈M.dst.q)(hw:W.y=M.step.u)(x:M.cs.q=[g])(hl:g.j.length=g.pk.length+(n+1))(d:CvD M.fwd n T W g j o l)
  (V:Bl M=some (j,o))(B:∀a,ZA (j.map λv=>kn (Zf T v)) a->Ap M a=some (l a)):
  Dj M=some {M with out:=Zt M.step.u (UV (An M.fwd n W.j.length T j o l) (Z3 T) (Z3 g) (ρ T.y) (σ g.y)).1 M.out,nc:=Zt M.step.u (UV (An M.fwd n W.j.length T j o l) (Z3 T) (Z3 g) (ρ T.y) (σ g.y)).2 M.nc}:=by
 obtain⟨am,ar,aq,-,_⟩:=L.row y;have al:=(L.b.tab W P).cols6;have I:g∈M.cs.q:=by rw[x];simp
 have au:=L.ck g I;have Y:=d.c.lens.1;refine Ww ?_;unfold Dj;refine X0 (AE L y hn) λq _ hq=>X0 (Wb V) λa _ ak=>?_;subst hq ak;refine X5 (show M.cs.q[0]?=some g by rw[x];rfl) (X0 (DP L P hw) λU _ z=>?_);subst z;refine X4 ⟨by simp only;omega,by simp only;have:=d.s.a1;have h9:=UK d.s.a1 d.s.a2;omega,X,X⟩ ?_;rw[show g.j.length-g.pk.length-1=n by omega];refine ME (λr=>An M.fwd n U.j.length T j o l (ZR (Z3 g) (σ g.y) (Z3 T r)) r) ?_ (X2 rfl);intro i f s next hm _ _ _ H
 have G:=(L.ri T y).row f hm;have K:=G.len;have Q:=ZA.cells G d.s.a2;have N:∀e,ZR (Z3 g) (σ g.y) (Z3 T f)=some e->CR g e:=λe he=>(L.rc g I).row e (Ut he).1;have⟨h1,_⟩:=d.pick Q N;unfold M7;refine X0 (Ua T f X) λk _ hk=>Ze8 (λv hv=>by rw[K];exact d.s.a2 v hv) (X0 (Wb (B _ Q)) λc _ hc=>X0 (Wb (L.jU x X k)) λst _ F=>?_);subst hk hc F;have J:(V5 M.fwd n T.pk.length l (j.map (Zu f)) (ZR (Z3 g) (σ g.y) (Z3 T f))).1.length=o.length:=by rw[h1.len,Yd]
 refine X0 (R:=λp=>p=V5 M.fwd n T.pk.length l (j.map (Zu f)) (ZR (Z3 g) (σ g.y) (Z3 T f))) ?_ λp _ hp=>?_;unfold Lu Ch;cases hlo:ZR (Z3 g) (σ g.y) (Z3 T f) with
 |none=>exact X9 rfl<|X2 rfl
 |some e=>?_
 rw[Y];have ap:=(N e hlo).len;refine X1 (λ_=>X4 (by simp only[Xm];omega) (X0 (EO _ _) λb _ S=>X1 (λh=>?_) λh=>?_)) λh=>by cases h
 have w:=S.1 h;refine X0 (R:=λO=>O=decide (l (j.map (Zu f))=((sw M.fwd ((e.drop T.pk.length).take n) ((e.drop T.pk.length).drop n)).2,true))) ?_ λO _ C=>X2 ?_;refine X1 (λt=>X0 (EO _ _) λb2 _ A=>X2 ?_) λt=>X2 ?_;rw[Bool.eq_iff_iff,A,decide_eq_true_iff];exact⟨λu=>Prod.ext u t,λu=>congrArg Prod.fst u⟩;rw[eq_comm,decide_eq_false_iff_not];intro u;rw[u] at t;cases t;subst C;unfold V5;simp only;rw[if_pos w];have w:¬(sw M.fwd ((e.drop T.pk.length).take n) ((e.drop T.pk.length).drop n)).1=j.map (Zu f):=λt=>by rw[S.2 t] at h;cases h
 refine X2 ?_;unfold V5;simp only;rw[if_neg w];subst hp;obtain⟨r1,r2,-,-⟩:=EX d.s K J;have Z:((sw M.fwd (j.map (Zu f)) (V5 M.fwd n T.pk.length l (j.map (Zu f)) (ZR (Z3 g) (σ g.y) (Z3 T f))).1).1++(sw M.fwd (j.map (Zu f)) (V5 M.fwd n T.pk.length l (j.map (Zu f)) (ZR (Z3 g) (σ g.y) (Z3 T f))).1).2).length<=110:=by rw[Ye,Zd4,J,Yd];have h8:=UK d.s.a1 d.s.a2;have h9:=UK d.s.b1 d.s.b2;omega
 simp only[An] at H;refine X0 (R:=λc=>c=s.2++(bif !(V5 M.fwd n T.pk.length l (j.map (Zu f)) (ZR (Z3 g) (σ g.y) (Z3 T f))).2 then some (Z3 T f++((sw M.fwd (j.map (Zu f)) (V5 M.fwd n T.pk.length l (j.map (Zu f)) (ZR (Z3 g) (σ g.y) (Z3 T f))).1).1++(sw M.fwd (j.map (Zu f)) (V5 M.fwd n T.pk.length l (j.map (Zu f)) (ZR (Z3 g) (σ g.y) (Z3 T f))).1).2)) else none).toList) ?_ λcomp _ m=>X0 (Wb r1) λr _ D=>?_;refine X1 (λh=>?_) λh=>X2 (by rw[h];simp);refine X0 (R:=λr=>r=Z3 T f++((sw M.fwd (j.map (Zu f)) (V5 M.fwd n T.pk.length l (j.map (Zu f)) (ZR (Z3 g) (σ g.y) (Z3 T f))).1).1++(sw M.fwd (j.map (Zu f)) (V5 M.fwd n T.pk.length l (j.map (Zu f)) (ZR (Z3 g) (σ g.y) (Z3 T f))).1).2)) (X4 ?_ (X2 ?_)) λr _ D=>X2 (by rw[h,D];rfl);simp only[XC,Y3t,Ym,Ye,Vs] at Z|-;omega;simp;subst m D;exact H
end Go.Am
end
namespace Go.Am
section
def KY{k:Nat}(h:k<10):(UInt8.ofNat (48+k)).toNat=48+k:=by rw[UInt8.toNat_ofNat'];omega
def Z7b(u:Nat):∀(a:Nat) (r:List UInt8),a*10^Lib.nDigits u+u<9223372036854775808->Lib.parseUint10 a (Lib.decDigits u++r)=Lib.parseUint10 (a*10^Lib.nDigits u+u) r:=by
 have b:∀(a k:Nat) (r:List UInt8),k<10->a*10+k<9223372036854775808->Lib.parseUint10 a (UInt8.ofNat (48+k)::r)=Lib.parseUint10 (a*10+k) r:=λa k r d c=>by rw[Lib.parseUint10,KY d,if_pos X,if_neg X,if_neg X,Nat.add_sub_cancel_left]
 induction u using Nat.strongRecOn with|_ u ih=>?_
 intro a r c;by_cases h:u<10;rw[Lib.nDigits_small h] at c|-;rw[Lib.decDigits,dif_pos h];exact b a u r h (sU c);rw[Lib.nDigits_big h,Nat.pow_succ,<-Nat.mul_assoc] at c|-;rw[Lib.decDigits,dif_neg h,Yz,ih (u/10) X a _ X];rw[Y00,b _ _ _ (Nat.mod_lt _ dE) X]
 congr 1
 omega
def Qf(u:Nat):∃c r,Lib.decDigits u=c::r/\48<=c.toNat/\c.toNat<=57:=by
 induction u using Nat.strongRecOn with|_ u ih=>?_
 by_cases h:u<10;rw[Lib.decDigits,dif_pos h];exact⟨_,_,rfl,by rw[KY h];omega,by rw[KY h];omega⟩;have⟨c,r,a,b,d⟩:=ih (u/10) X;rw[Lib.decDigits,dif_neg h,a];exact⟨c,r++_,rfl,b,d⟩
def QY(u:Nat)(h:u<9223372036854775808):Lib.parseMag (Lib.decDigits u)=.ok u:=by
 have:=Z7b u 0 [] X
 rw[Ym,Nat.zero_mul,XI] at this;have⟨c,r,a,_,_⟩:=Qf u;unfold Lib.parseMag;rw[if_neg (by rw[a];simp),this];rfl
def Z81(n:Int)(h1:-1000000000000<=n)(h2:n<=1000000000000):Lib.atoiAll (Lib.itoa n)=.ok n:=by
 unfold Lib.itoa;by_cases h:n<0;rw[if_pos h,Lib.atoiAll]
 have:=QY n.natAbs X
 have a:(if((45:UInt8).toNat=43\/(45:UInt8).toNat=45) then Lib.decDigits n.natAbs else 45::Lib.decDigits n.natAbs)=Lib.decDigits n.natAbs:=if_pos (.inr rfl);have f:(45:UInt8).toNat=45:=rfl;have b:¬(9223372036854775808<n.natAbs):=X
 simp only[a,this];rw[if_neg (λh=>h.1 f),if_neg (λh=>b h.2),if_pos f]
 congr 1
 omega;rw[if_neg h];have⟨c,r,e,h3,h4⟩:=Qf n.toNat
 have:=QY n.toNat X
 rw[e] at this|-;rw[Lib.atoiAll];have d:¬c.toNat=45:=X
 have a:(if(c.toNat=43\/c.toNat=45) then r else c::r)=c::r:=if_neg X;have b:¬(9223372036854775808<=n.toNat):=X
 simp only[a,this];rw[if_neg (λh=>b h.2),if_neg (λh=>d h.1),if_neg d]
 congr 1
 omega
def Qz{v}(h:WE v=some 0):(v.g≠3->v.text=empty)/\(v.g=0\/v.g=3->v.int=0):=by
 obtain⟨_,_,-⟩:=DA h;unfold WE at h;simp only[cond_eq_ite] at h;constructor
 .intro a;refine ZD.1 ?_
  repeat' split at h
  all_goals first
   |(exfalso;simp at h;done)
   |(simp at*;assumption)
   |(exfalso;simp at*;omega)
 intro a
 repeat' split at h
 all_goals first
  |(exfalso;simp at h;done)
  |(simp at*;assumption)
  |(exfalso;simp at*;omega)
  |(simp at*;omega)
def DB{v}(h1:1<=v.g/\v.g<=3)(b:v.g≠3->v.text=empty)(d:v.g=3->v.int=0)(h4:v.text.size<=24)(h5:-1000000000000<=v.int/\v.int<=1000000000000)(e:v.g=2->v.int=0\/v.int=1):WE v=some 0:=by
 have⟨k,n,t⟩:=v;simp only at*;have g:k=1\/k=2\/k=3:=X
 unfold WE;simp only[cond_eq_ite];rcases g with rfl|rfl|rfl;have a:=b dE;subst a;have c:¬n< -1000000000000:=X
 have f:¬1000000000000<n:=X;simp[ED,c,f];have a:=b dE;subst a;rcases e rfl with rfl|rfl<;>simp[ED];have h:=d rfl;subst h;have c:¬24<t.size:=X
 simp;omega
def Dm{v}(d:WE v=some 0){k:Int}(hk:1<=k/\k<=3):
  (v.g=0\/v.g=k)/\Vr v k=some (v,true)\/v.g=1/\k=3/\Vr v k=some (⟨3,0,⟨(Lib.itoa v.int).toArray⟩⟩,true)\/
  v.g=2/\k=3/\Vr v k=some (⟨3,0,if v.int=1 then({data:=#[116,114,117,101]}) else({data:=#[102,97,108,115,101]})⟩,true)\/
  v.g=3/\k=2/\Vr v k=C2 v.text\/v.g=3/\k=1/\Vr v k=some (VP v.text)\/
  (v.g=1/\k=2\/v.g=2/\k=1)/\Vr v k=some (if v.int=0\/v.int=1 then(⟨k,v.int,empty⟩,true) else(⟨0,0,empty⟩,false)):=by
 obtain⟨h0,h3,h4,h5,h6,-⟩:=DA d;have i:¬k<1:=X
 have j:¬3<k:=X;have a:Vr v k=_:=rfl
 conv at a=>rhs;unfold Vr
 rw[d] at a;simp only[Z1,bne_self_eq_false,cond_false,i,j,decide_false] at a;have q:v.g=0\/v.g=1\/v.g=2\/v.g=3:=X
 have c:k=1\/k=2\/k=3:=X;by_cases b:v.g=0\/v.g=k;refine .inl ⟨b,?_⟩;rw[a];rcases b with e|e<;>simp[e];have m:C5 v.int=some ⟨(Lib.itoa v.int).toArray⟩:=Ww (X4 (by simp only[Wm];omega) (X2 rfl));have n:G2 v.text=some (VP v.text):=Ww (X4 X (X2 rfl));have o:Ec true=some ({data:=#[116,114,117,101]}):=rfl;have l:Ec false=some ({data:=#[102,97,108,115,101]}):=rfl;have two:∀{k:Int},(bif v.int==0 then some (GV.mk k v.int empty,true) else bif v.int==1 then some (GV.mk k v.int empty,true) else some (GV.mk 0 0 empty,false))=some (if v.int=0\/v.int=1 then(⟨k,v.int,empty⟩,true) else(⟨0,0,empty⟩,false)):=λ{k}=>by
  by_cases i0:v.int=0;simp[i0];by_cases i1:v.int=1;simp[i1];have f:(v.int==0)=false:=by simp[i0]
  have g:(v.int==1)=false:=by simp[i1]
  rw[f,g,if_neg λh=>h.elim i0 i1];rfl
 rcases q with e|e|e|e;exact absurd (.inl e) b;rcases c with rfl|rfl|rfl;exact absurd (.inr e) b;refine .inr (.inr (.inr (.inr (.inr ⟨.inl ⟨e,rfl⟩,?_⟩))));rw[a,<-two];simp[e];refine .inr (.inl ⟨e,rfl,?_⟩);rw[a,m];simp[e];rcases c with rfl|rfl|rfl;refine .inr (.inr (.inr (.inr (.inr ⟨.inr ⟨e,rfl⟩,?_⟩))));rw[a,<-two];simp[e];exact absurd (.inr e) b;refine .inr (.inr (.inl ⟨e,rfl,?_⟩));rw[a];by_cases i1:v.int=1
 have:(v.int==1)=true:=by simp[i1]
 rw[this,o];simp[e,i1]
 have:(v.int==1)=false:=by simp[i1]
 rw[this,l];simp[e,i1];rcases c with rfl|rfl|rfl;refine .inr (.inr (.inr (.inr (.inl ⟨e,rfl,?_⟩))));rw[a,n];simp[e];refine .inr (.inr (.inr (.inl ⟨e,rfl,?_⟩)));rw[a];cases hp:C2 v.text with
 |none=>simp[e]
 |some p=>simp[e]
 exact absurd (.inr e) b
def O1(t):C2 t=some (if t=({data:=#[116,114,117,101]}) then(⟨2,1,empty⟩,true) else if t=({data:=#[102,97,108,115,101]}) then(⟨2,0,empty⟩,true) else(⟨0,0,empty⟩,false)):=by
 unfold C2;by_cases a:t=({data:=#[116,114,117,101]});rw[ZD.2 a,if_pos a];rfl;have c:Z9 t ({data:=#[116,114,117,101]})=false:=sU (λh=>a (ZD.1 h));rw[c,if_neg a];by_cases b:t=({data:=#[102,97,108,115,101]});rw[ZD.2 b,if_pos b];rfl;have d:Z9 t ({data:=#[102,97,108,115,101]})=false:=sU (λh=>b (ZD.1 h));rw[d,if_neg b];rfl
def Zda{t w}(h:VP t=(w,true)):w.g=1/\w.text=empty/\(⟨(Lib.itoa w.int).toArray⟩:aA)=t/\-1000000000000<=w.int/\w.int<=1000000000000:=by unfold VP at h;split at h;split at h;rename_i n _ a;cases h;refine⟨rfl,rfl,?_,a.2⟩;rw[show Lib.itoa n=t.data.toList from by rw[a.1];exact ByteArray.toList_eq ..];cases h;cases h
def Z9q{n:Int}(a:-1000000000000<=n)(b:n<=1000000000000):VP ⟨(Lib.itoa n).toArray⟩=(⟨1,n,empty⟩,true):=by unfold VP;rw[show(⟨(Lib.itoa n).toArray⟩:aA).data.toList=Lib.itoa n from rfl,Z81 n a b];simp only;rw[if_pos ⟨(ByteArray.toList_eq (⟨(Lib.itoa n).toArray⟩:aA)).symm,a,b⟩]
def Al(k:Int)(a:Bool)(v:GV):GV×Bool:=match Vr v k with
 |some (w,true)=>(w,true)
 |_=>((Vi k a).getD Wo,false)
def IL{k:Int}(hk:1<=k/\k<=3)(a):W8 ((Vi k a).getD Wo) (k,a):=by have b:k=1\/k=2\/k=3:=X;cases a;rcases b with rfl|rfl|rfl<;>exact⟨by decide+kernel,by decide+kernel,by decide+kernel⟩;rcases b with rfl|rfl|rfl<;>exact⟨by decide+kernel,by decide+kernel,by decide+kernel⟩
def PI{t:aA}(d:t.size<=24):Vr ⟨3,0,t⟩ 2=some (if t=({data:=#[116,114,117,101]}) then(⟨2,1,empty⟩,true) else if t=({data:=#[102,97,108,115,101]}) then(⟨2,0,empty⟩,true) else(⟨0,0,empty⟩,false)):=by have e:WE ⟨3,0,t⟩=some 0:=DB ⟨I,I⟩ I I d I I;rcases Dm e (k:=2) X with⟨a,_⟩|⟨a,_,_⟩|⟨a,_,_⟩|⟨_,_,b⟩|⟨_,c,_⟩|⟨a,_⟩;simp at a;simp at a;simp at a;rw[b,O1];simp at c;simp at a
def Qm{n:Int}(c:n=0\/n=1):Vr ⟨2,n,empty⟩ 3=some (⟨3,0,if n=1 then({data:=#[116,114,117,101]}) else({data:=#[102,97,108,115,101]})⟩,true):=by
 have d:WE ⟨2,n,empty⟩=some 0:=DB ⟨I,I⟩ I I (dE:empty.size<=24) (by simp only;omega) (λ_=>c);rcases Dm d (k:=3) X with⟨a,_⟩|⟨a,_,_⟩|⟨_,_,b⟩|⟨a,_,_⟩|⟨a,_,_⟩|⟨a,_⟩;simp at a;simp at a;exact b;simp at a;simp at a;simp at a
def L0{v w:GV}{k m:Int}{s:Bool}(z:1<=k/\k<=3)(t:1<=m/\m<=3)(E:W8 v (k,s))(h:Vr v m=some (w,true)):W8 w (m,s)/\Vr w k=some (v,true):=by
 have⟨q,C,o⟩:=E;obtain⟨-,-,A,B,ae,x⟩:=DA q;have⟨t1,t2⟩:=Qz q;simp only at C o;have n:∀{w:GV},w.g=m->WE w=some 0->W8 w (m,s):=λ{w} e f=>⟨f,λd=>X,λ_=>e⟩;rcases Dm q t with⟨e,f⟩|⟨e,rfl,f⟩|⟨e,rfl,f⟩|⟨e,rfl,f⟩|⟨e,rfl,f⟩|⟨e,f⟩
 .rw[f] at h;cases h;refine⟨⟨q,C,λi=>e.resolve_left i⟩,?_⟩;have back:v.g=0\/v.g=k:=by by_cases i:v.g=0;exact .inl i;exact .inr (o i)
  rcases Dm q z with⟨_,l⟩|⟨d,g,_⟩|⟨d,g,_⟩|⟨d,g,_⟩|⟨d,g,_⟩|⟨d,_⟩;exact l
  all_goals omega
 obtain rfl:1=k:=by rw[<-e];exact o X
 rw[f] at h;cases h;have j:WE ⟨3,0,⟨(Lib.itoa v.int).toArray⟩⟩=some 0:=DB ⟨I,I⟩ I I (by have:=Lib.itoa_length_le v.int X X;simp only[ByteArray.size,Y3c];omega) I I;refine⟨n rfl j,?_⟩;rcases Dm j X with⟨d,_⟩|⟨d,_,_⟩|⟨d,_,_⟩|⟨_,g,_⟩|⟨d,_,l⟩|⟨d,_⟩;simp at d;simp at d;simp at d;simp at g;rw[l];simp only;rw[Z9q A B];have⟨a,b,c⟩:=v;simp only at e t1|-;rw[e,t1 X];simp at d;obtain rfl:2=k:=by rw[<-e];exact o X
 rw[f] at h;cases h;have⟨a,b,c⟩:=v;simp only at e t1 x f|-;subst e;have p:=t1 X;subst p;rcases x rfl with rfl|rfl;refine⟨n rfl (by decide+kernel),?_⟩;rw[if_neg dE,PI dE,if_neg dE,if_pos rfl];refine⟨n rfl (by decide+kernel),?_⟩;rw[if_pos rfl,PI dE,if_pos rfl];obtain rfl:3=k:=by rw[<-e];exact o X
 rw[f,O1] at h;have⟨a,b,c⟩:=v;simp only at e t1 t2 h;obtain rfl:=t2 (.inr e);subst e;split at h;rename_i p;cases h;subst p;exact⟨n rfl (by decide+kernel),Qm (.inr rfl)⟩;split at h;rename_i p;cases h;subst p;exact⟨n rfl (by decide+kernel),Qm (.inl rfl)⟩;cases h
 .obtain rfl:3=k:=by rw[<-e];exact o X
  rw[f] at h;have⟨F,D,G,H,J⟩:=Zda (Option.some.inj h);have j:=DB ⟨X,X⟩ (λ_=>D) X (by rw[D];decide) ⟨H,J⟩ X;refine⟨n F j,?_⟩;rcases Dm j X with⟨d,_⟩|⟨_,_,l⟩|⟨d,_,_⟩|⟨d,_,_⟩|⟨d,_,_⟩|⟨d,_⟩;omega;rw[l,G];have⟨a,b,c⟩:=v;simp only at e t2|-;rw[e,t2 (.inr e)]
  all_goals omega
 have u:v.g≠0:=X;have y:=o u;rw[f] at h;have r:=Classical.byContradiction λi=>by rw[if_neg i] at h;cases h
 rw[if_pos r] at h;cases h;have j:WE ⟨m,v.int,empty⟩=some 0:=DB t (λ_=>rfl) (λi=>by simp only at i;omega) (dE:empty.size<=24) ⟨A,B⟩ (λ_=>r);refine⟨n rfl j,?_⟩;rcases Dm j z with⟨d,_⟩|⟨d,g,_⟩|⟨d,g,_⟩|⟨d,g,_⟩|⟨d,g,_⟩|⟨d,l⟩
 all_goals simp only at d
 omega;omega;omega;omega;omega;rw[l];simp only;rw[if_pos r];have⟨a,b,c⟩:=v;simp only at y t1|-;rw[y,t1 (by simp only at u e|-;omega)]
def Rg{v}{k a:Int}{b:Bool}(d:1<=k/\k<=3)(c:1<=a/\a<=3)(e:W8 v (k,b)):W8 (Al a b v).1 (a,b):=by unfold Al;split;rename_i w h;exact(L0 d c e h).1;exact IL c b
def KZ{v w}{k:Int}{b}:Al k b v=(w,true)↔Vr v k=some (w,true):=by unfold Al;split;rename_i w2 h;rw[h];simp;rename_i h;constructor;intro a;cases a;intro a;exact absurd a (h _)
def Zad{v w}{k a:Int}{b}(d:1<=k/\k<=3)(c:1<=a/\a<=3)(e:W8 v (k,b))(f:W8 w (a,b)):Al a b v=(w,true)↔Al k b w=(v,true):=by
 rw[KZ,KZ];exact⟨λh=>(L0 d c e h).2,λh=>(L0 c d f h).2⟩
def Qh{T n}{c:Int}(h:W7 T n=some (c,true)):0<=c/\∃a,T.j[c.toNat]?=some a/\a.y=n:=by
 have b:Wp (W7 T n) λv=>v.2=true->0<=v.1/\∃a,T.j[v.1.toNat]?=some a/\a.y=n:=by
  unfold W7;refine X0 (Xc λx _=>X2 trivial) λk _ j=>X2 λg=>?_;rcases j with⟨rfl,_⟩|⟨i,x,rfl,l,h⟩;simp at g;have d:¬i<0:=X
  refine⟨by simp only[d,if_false];omega,x,by simp only[d,if_false];exact l,ZD.1 (Option.some.inj h)⟩
 have⟨r,e,f⟩:=b;rw[h] at e;cases e;exact f rfl
def RQ{x S c C T W h e g}{n:Nat}{cv cv'}(F:VS S)(z:VS c)(k:x.g=5\/x.g=12)(o:T∈S.q)(i:T.y=x.u)(q:W∈c.q)(j:W.y=x.u)(m:C.q=[h])(u:h.j.length=h.pk.length+(n+1))
  (y:∀U,U.y∉[x.u]->(U∈S.q↔U∈c.q))(d:CvD true n T W h e g cv)(t:CvD false n W T h g e cv')(G:∀a b,ZA (e.map λv=>kn (Zf T v)) a->ZA (g.map λv=>kn (Zf W v)) b->(cv a=(b,true)↔cv' b=(a,true)))
  (E:∀{ρ σ},LI (Zn x true S c C ρ σ) ρ σ->Bl (Zn x true S c C ρ σ)=some (e,g))(D:∀{ρ σ},LI (Zn x false c S C ρ σ) ρ σ->Bl (Zn x false c S C ρ σ)=some (g,e))
  (r:∀{ρ σ} a,ZA (e.map λv=>kn (Zf T v)) a->Ap (Zn x true S c C ρ σ) a=some (cv a))(w:∀{ρ σ} a,ZA (g.map λv=>kn (Zf W v)) a->Ap (Zn x false c S C ρ σ) a=some (cv' a)):VV x S c C:=by
 have l:h.y=x.u:=by rw[d.c.y,i]
 have s:∀{f A B ρ σ},ZN (Zn x f A B C ρ σ)=Dj (Zn x f A B C ρ σ):=λ{f A B ρ σ}=>by unfold ZN;rcases k with k|k<;>simp[Zn,k,Zp]
 refine Ri F.ord.1 z.ord.1 o i q j m l y (Zf0 d t G) (λ{ρ σ} p=>?_) (λ{ρ σ} p=>?_)
 have:=ON p.li o i q j m u d (E p.li) r
 rw[s,this,i,l];rfl
 have:=ON p.li q j o i m u t (D p.li) w
 rw[Xx,s,this,j,l];rfl
def CT.tail{T a b}(c:CT T b a):(a.j.drop a.pk.length).map kn=b:=by rw[Xy,c.j,c.lens.1,XK (Yd ..)]
def H5(k:Int×Bool):aE->aE×Bool
 |[v]=>([(Al k.1 k.2 v).1],(Al k.1 k.2 v).2)
 |_=>([],false)
def Oj{M d k l}(t:M.cs.q=[d])(u:M.step.g=5)(hp:d.pk.length<=d.j.length)(e:(d.j.drop d.pk.length).map kn=[k,l])(v):Ap M [v]=some (H5 (bif M.fwd then l else k) [v]):=by
 refine Ww ?_;unfold Ap;refine X5 (show M.cs.q[0]?=some d by rw[t];rfl) (X4 ⟨X,X,X⟩ (X1 (λ_=>?_) λh=>by simp[u] at h));rw[Yl];generalize d.j.drop d.pk.length=o at e
 match o,e with
 |[c0,c1],e=>
   have p:kn c0=k:=by simp at e;exact e.1
   have s:kn c1=l:=by simp at e;exact e.2
   have f:∀c:Col,Wp (Z1 (Vr v c.g) λm=>bif m.2 then some ([m.1],true) else Z1 (Vi c.g c.f) λn=>some ([n],false)) λr=>r=H5 (kn c) [v]:=λc=>by
    refine X0 (by obtain⟨q,g,-⟩:=Z67 v c.g;exact⟨q,g,g⟩) λq _ g=>X1 (λh=>X2 ?_) λh=>X0 (by obtain⟨z,i,-⟩:=J4 c.g c.f;exact⟨z,i,i⟩) λz _ i=>X2 ?_
    .have⟨a,b⟩:=q;simp only at h;subst h;show _=([(Al c.g c.f v).1],(Al c.g c.f v).2);rw[KZ.2 g]
    .have⟨a,b⟩:=q;simp only at h;subst h;show _=([(Al c.g c.f v).1],(Al c.g c.f v).2);unfold Al;rw[g,i];rfl
   refine X5 rfl (X1 (λj=>X5 rfl (X5 rfl ?_)) λj=>X5 rfl ?_)
   .rw[j,cond_true,<-s];exact f c1
   .rw[j,cond_false,<-p];exact f c0
def Z9y{x:Stp}{S F C:Sch}(D:VS S)(G:VS F)(hC:COK S F x C){i:Nat}{T}{c:Int}{d}(k:x.g=5)(Q:S.q[i]?=some T)(o:Z9 T.y x.u=true)(hc:W7 T x.d=some (c,true))(z:T.j[c.toNat]?=some d)(hp:c∉T.pk)(e:F.q=S.q.set i {T with j:=T.j.set c.toNat {d with g:=x.type}}):VV x S F C:=by
 have o:=ZD.1 o;have r:=Y2 Q;have⟨h0,ar,ad,ap⟩:=Qh hc;rw[z] at ad;cases ad;obtain⟨c,rfl⟩:∃n:Nat,c=n:=⟨c.toNat,X⟩;rw[Yn] at z e;have⟨R,aq⟩:=Y0.1 z;obtain⟨W,A⟩:∃W:E,W={T with j:=T.j.set c {d with g:=x.type}}:=⟨_,rfl⟩;rw[<-A] at e;have t:=e▸CG Q;have B:W.y=x.u:=by rw[A];exact o
 have M:W.j=T.j.set c {d with g:=x.type}:=by rw[A]
 have ao:W.pk=T.pk:=by rw[A]
 have au:W.j.length=T.j.length:=by rw[M,Xf]
 have al:W.j[c]?=some {d with g:=x.type}:=by rw[M,Yr R]
 have⟨ct,ks,P,h2⟩:=hC.one X;have⟨p,K⟩:=h2 T W ⟨r,t,o,B⟩;obtain⟨c9,am,-,-,-,K⟩:=K.2.2.1 k;rw[hc] at am;cases am;rw[K] at p;have eT:=VA X (by rw[Yn];exact z);have eW:=VA X (by rwa [Yn]);have⟨N,Y⟩:=Mw D r z;have⟨O,J⟩:=Mw G t al;rw[ap] at N;simp only[ap] at O J;have s:CvS T W [(c:Int)] [(c:Int)]:=⟨D.tab T r,G.tab W t,Xt _ _,λv f=>by rw[Yj.1 f];omega,λv f=>by rwa [Yj.1 f],Xt _ _,λv f=>by rw[Yj.1 f];omega,λv f=>by rwa [Yj.1 f,ao],by
  have ek:Zo [c] 0 W.j=Zo [c] 0 T.j:=by rw[Ct,Ct,M,List.take_set_of_le (Y7 _),List.drop_set_of_lt X]
  unfold ZW;rw[ek,ao,A]⟩
 have l:∀{U:E} {a:aE},ZA ([(c:Int)].map λv=>kn (Zf U v)) a->∃v,a=[v]/\W8 v (kn (Zf U (c:Int))):=λ{U a} h=>by
  match a,h with
  |[v],h=>exact⟨v,rfl,h.1⟩
  |[],h=>exact h.elim
  |_::_::_,h=>exact h.2.elim
 have H:kn (Zf T c)=(d.g,d.f):=by rw[eT];rfl
 have I:kn (Zf W c)=(x.type,d.f):=by rw[eW];rfl
 refine RQ (n:=1) (cv:=H5 (x.type,d.f)) (cv':=H5 (d.g,d.f)) D G (.inl k) r o t B P (by have:=p.lens;simp at this;omega) (IT D.ord.1 Q e o B) ⟨s,rfl,p,λa m=>?_⟩ ⟨s.symm,rfl,?_,λa m=>?_⟩ (λa b m hb=>?_) (λ{ρ σ} L=>?_) (λ{ρ σ} L=>?_) (λ{ρ σ} a m=>?_) (λ{ρ σ} a m=>?_);obtain⟨v,rfl,f⟩:=l m;rw[H] at f;refine⟨?_,trivial⟩;show W8 _ (kn (Zf W c));rw[I];exact Rg Y J f;have Z:CT W [kn (Zf T c),kn (Zf W c)] ct:=by
  have p1:=λv (f:v∈[(c:Int)])=>(s.a2 v f).1
  rwa [<-CT.rm (G.tab W t) s.b1 p1 s.b3,s.eq,CT.rm (D.tab T r) s.a1 p1 s.a3]
 exact Z;obtain⟨v,rfl,f⟩:=l m;rw[I] at f;refine⟨?_,trivial⟩;show W8 _ (kn (Zf T c));rw[H];exact Rg J Y f;obtain⟨v,rfl,f⟩:=l m;obtain⟨w,rfl,y⟩:=l hb;rw[H] at f;rw[I] at y
 have:=Zad Y J f y
 simp only[H5,Prod.ext_iff,List.cons.injEq,and_true] at this|-;exact this;refine Ww ?_;unfold Bl;refine X0 (AE L r o) λq _ V=>X0 (DP L t B) λW2 _ u=>?_;subst V u;refine X0 (Wb N) λv _ f=>X0 (Wb O) λw _ y=>?_;subst f y;exact X1 (λ_=>X2 rfl) λh=>by simp[Zn,k] at h
 refine Ww ?_;unfold Bl;refine X0 (AE L t B) λq _ V=>X0 (DP L r o) λW2 _ u=>?_;subst V u;refine X0 (Wb O) λv _ f=>X0 (Wb N) λw _ y=>?_;subst f y;exact X1 (λ_=>X2 rfl) λh=>by simp[Zn,k] at h
 obtain⟨v,rfl,_⟩:=l m;rw[Oj P k (by have:=p.lens;omega) p.tail v,<-I];rfl;obtain⟨v,rfl,_⟩:=l m;rw[Oj P k (by have:=p.lens;omega) p.tail v,<-H];rfl
def M9:∀{p q:List UInt8},(32:UInt8)∉p->Lib.index (p++32::q) [32]=(p.length:Nat)
 |[],q,_=>by
   show(if([32]:List UInt8).isPrefixOf (32::q) then(0:Int) else _)=_;rw[if_pos (by simp[List.isPrefixOf])];rfl
 |b::p,q,h=>by
   have c:b≠32:=λa=>h (by simp[a]);have d:=M9 (q:=q) (λa=>h (Yc _ a):32∉p);show(if([32]:List UInt8).isPrefixOf (b::(p++32::q)) then 0 else if Lib.index (p++32::q) [32]==-1 then-1 else Lib.index (p++32::q) [32]+1)=_;rw[if_neg (by simp[List.isPrefixOf,Ne.symm c]),d,if_neg I];simp
def Mq:∀{s:List UInt8},(32:UInt8)∉s->Lib.index s [32]=-1
 |[],_=>rfl
 |b::s,h=>by
   have c:b≠32:=λa=>h (by simp[a]);have d:=Mq (λa=>h (Yc _ a):32∉s);show(if([32]:List UInt8).isPrefixOf (b::s) then 0 else if Lib.index s [32]==-1 then-1 else Lib.index s [32]+1)=_;rw[if_neg (by simp[List.isPrefixOf,Ne.symm c]),d];rfl
def Gy:∀s,(32:UInt8)∈s->∃p q,s=p++32::q/\(32:UInt8)∉p
 |[],h=>by cases h
 |b::s,h=>by by_cases a:b=32;exact⟨[],s,by rw[a];rfl,by simp⟩;have⟨p,q,c,d⟩:=Gy s ((Y5.1 h).resolve_left (Ne.symm a));exact⟨b::p,q,by rw[c];rfl,by simp[Ne.symm a,d]⟩
def J1{p q}(h:(32:UInt8)∉p):Lib.cut (p++32::q) [32]=(p,q,true):=by unfold Lib.cut;rw[M9 h,if_pos X,Yn,Y3e rfl];refine Prod.ext rfl (Prod.ext ?_ rfl);show(p++32::q).drop (p.length+1)=q;rw[<-Xr,XK rfl];rfl
def Zdq{s}(h:(32:UInt8)∉s):Lib.cut s [32]=(s,[],false):=by unfold Lib.cut;rw[Mq h,if_neg dE]
def Z32{s}:Lib.contains s [32]=true↔(32:UInt8)∈s:=by unfold Lib.contains;by_cases h:32∈s;have⟨p,q,a,b⟩:=Gy s h;rw[a,M9 b];simp;rw[Mq h];simp[h]
def bl:aA:={data:=#[32]}
def Zcq(t):(⟨t.data.toList.toArray⟩:aA)=t:=by cases t;simp
def RW{p q}:(⟨p.toArray⟩:aA)++bl++⟨q.toArray⟩=⟨(p++32::q).toArray⟩:=by refine ByteArray.ext ?_;rw[ByteArray.data_append,ByteArray.data_append];simp[bl]
def RX(t:aA):t.extract 0 t.size=t:=by refine ByteArray.ext ?_;rw[ByteArray.data_extract];show t.data.extract 0 t.data.size=_;simp
def Gx{v b}(h:W8 v (3,b)):v=Wo/\b=true\/v.g=3/\∃p:List UInt8,v=⟨3,0,⟨p.toArray⟩⟩/\p.length<=24:=by have⟨a,c,d⟩:=h;have⟨t1,t2⟩:=Qz a;obtain⟨-,-,-,-,e,-⟩:=DA a;have⟨k,n,t⟩:=v;simp only at c d t1 t2 e;by_cases hk:k=0;subst hk;rw[t1 dE,t2 (.inl rfl)];exact .inl ⟨rfl,c rfl⟩;obtain rfl:=d hk;rw[t2 (.inr rfl)];exact .inr ⟨rfl,t.data.toList,by rw[Zcq],by rwa [Yw]⟩
def QJ{p:List UInt8}(h:p.length<=24)(b):W8 ⟨3,0,⟨p.toArray⟩⟩ (3,b):=⟨DB ⟨I,I⟩ I I (by show p.toArray.size<=24;simpa using h) I I,I,I⟩
def Zcc:W8 Wo (3,true):=⟨by decide+kernel,I,by simp[Wo]⟩
def Pn{x y}(hx:x.text.size<=24)(hy:y.text.size<=24)(n):Au [x,y] n=some (if x.g=0/\y.g=0/\n=true then([Wo],true) else
  ([⟨3,0,(x.text++bl++y.text).extract 0 (if 24<(x.text++bl++y.text).size then 24 else(x.text++bl++y.text).size)⟩],decide (x.g=3/\y.g=3/\(x.text++bl++y.text).size<=24/\(32:UInt8)∉x.text.data.toList))):=by
 have h1:(({data:=#[32]}:aA).size:Nat)=1:=rfl;refine Ww ?_;unfold Au;refine X5 rfl (X5 rfl (X1 (λh=>X2 ?_) λh=>X4 ⟨X,by rw[ByteArray.size_append];omega⟩ (X0 (R:=λc=>c=true↔(32:UInt8)∈x.text.data.toList) (X4 X (X2 Z32)) λc _ e=>X2 ?_)));rw[if_pos (sU h)];rfl;rw[if_neg (show¬(x.g=0/\y.g=0/\n=true) from λ⟨a,b,d⟩=>by simp[a,b,d] at h)];refine Prod.ext rfl ?_;show(x.g==3&&(y.g==3&&(decide ((x.text++bl++y.text).size<=24)&&!c)))=_;rw[Bool.eq_iff_iff];simp only[YW,beq_iff_eq,decide_eq_true_eq,Bool.not_eq_true'];rw[<-e,Bool.not_eq_true]
def RR{v}(hv:v.text.size<=24)(a b):Aw v a b=some (if v.g=0 then([(Vi 3 a).getD Wo,(Vi 3 b).getD Wo],a&&b) else
  if(32:UInt8)∈v.text.data.toList then([⟨3,0,⟨(Lib.cut v.text.data.toList [32]).1.toArray⟩⟩,⟨3,0,⟨(Lib.cut v.text.data.toList [32]).2.1.toArray⟩⟩],true) else([⟨3,0,v.text⟩,(Vi 3 b).getD Wo],false)):=by
 have g:∀c,Wp (Vi 3 c) λz=>z=(Vi 3 c).getD Wo:=λc=>by obtain⟨z,f,-⟩:=J4 3 c;exact⟨z,f,by rw[f];rfl⟩
 refine Ww ?_;unfold Aw;refine X1 (λh=>?_) λh=>?_;have i:v.g=0:=sU h;rw[if_pos i];refine X0 (g a) λz1 _ j=>X0 (g b) λz2 _ k=>?_;subst j k;exact X1 (λd=>X2 (by rw[d];rfl)) λd=>X2 (by rw[d];rfl);have i:¬v.g=0:=sU h;rw[if_neg i];refine X0 (X4 X (X2 rfl)) λq _ l=>?_;subst l;by_cases e:32∈v.text.data.toList;rw[if_pos e];have⟨p,q,j,k⟩:=Gy _ e;rw[j,J1 k];exact X1 nofun λ_=>X2 rfl;rw[if_neg e,Zdq e];refine X1 (λ_=>X0 (g b) λz _ f=>X2 ?_) λd=>by cases d
 subst f;simp only
def S5(a b:Bool)(x y w:GV):Prop:=(x=Wo/\y=Wo/\w=Wo/\a=true/\b=true)\/∃p q:List UInt8,x=⟨3,0,⟨p.toArray⟩⟩/\y=⟨3,0,⟨q.toArray⟩⟩/\w=⟨3,0,⟨(p++32::q).toArray⟩⟩/\(p++32::q).length<=24/\32∉p
def PL{t}(h:t.size<=24)(b):W8 ⟨3,0,t⟩ (3,b):=⟨DB ⟨I,I⟩ I I h I I,I,I⟩
def Cw{v k}(h:W8 v k):v.text.size<=24:=(DA h.1).2.2.2.2.1
def QL(p:List UInt8):(⟨p.toArray⟩:aA).size=p.length:=rfl
def Z61{x y w i j}(e:W8 x (3,i))(f:W8 y (3,j)):Au [x,y] (i&&j)=some ([w],true)↔S5 i j x y w:=by
 rw[Pn (Cw e) (Cw f)];constructor;intro h;have h:=Option.some.inj h;split at h;rename_i m;have⟨a,b,k⟩:=m;have n:Wo=w:=by have:=congrArg Prod.fst h;simpa using this
 rcases Gx e with⟨c,-⟩|⟨c,-⟩;rcases Gx f with⟨d,-⟩|⟨d,-⟩;simp only[YW] at k;exact .inl ⟨c,d,n.symm,k⟩;rw[d] at b;cases b;rw[c] at a;cases a;have a:=congrArg Prod.fst h;have b:=congrArg Prod.snd h;simp only[decide_eq_true_eq] at b;have⟨o,r,g,l⟩:=b;rcases Gx e with⟨rfl,-⟩|⟨-,p,rfl,-⟩;cases o;rcases Gx f with⟨rfl,-⟩|⟨-,q,rfl,-⟩;cases r;simp only at g l a;rw[RW] at g a;rw[if_neg X,RX] at a;exact .inr ⟨p,q,rfl,rfl,sU a.symm,g,l⟩;intro h;rcases h with⟨rfl,rfl,rfl,a,b⟩|⟨p,q,rfl,rfl,rfl,a,b⟩;rw[if_pos ⟨rfl,rfl,by rw[a,b];rfl⟩];simp only;rw[if_neg I,RW,if_neg (by rw[QL];omega),RX];simp only[true_and];rw[QL,decide_eq_true (show _/\_ from⟨a,b⟩)]
def Zcm{x y w d e}(g:W8 w (3,d&&e)):Aw w d e=some ([x,y],true)↔S5 d e x y w:=by rw[RR (Cw g)];constructor;intro h;have h:=Option.some.inj h;rcases Gx g with⟨rfl,-⟩|⟨-,s,rfl,j⟩;rw[if_pos (show Wo.g=0 from rfl)] at h;have c:=congrArg Prod.fst h;have a:=congrArg Prod.snd h;simp only[YW] at a;obtain⟨rfl,rfl⟩:=a;rw[show(Vi 3 true).getD Wo=Wo from rfl] at c;have b:Wo=x/\Wo=y:=sU c;exact .inl ⟨b.1.symm,b.2.symm,rfl,rfl,rfl⟩;rw[if_neg I] at h;simp only at h;split at h;rename_i i;have⟨p,q,c,a⟩:=Gy s i;subst c;have b:=congrArg Prod.fst h;simp only[J1 a] at b;have f:(⟨3,0,⟨p.toArray⟩⟩:GV)=x/\(⟨3,0,⟨q.toArray⟩⟩:GV)=y:=sU b;exact .inr ⟨p,q,f.1.symm,f.2.symm,rfl,j,a⟩;cases h;intro h;rcases h with⟨rfl,rfl,rfl,rfl,rfl⟩|⟨p,q,rfl,rfl,rfl,_,a⟩;rw[if_pos (show Wo.g=0 from rfl)];rfl;simp only;rw[if_neg I,if_pos I,J1 a]
def Z7w{x y a c}(d:W8 x (3,a))(e:W8 y (3,c)):∃w b,Au [x,y] (a&&c)=some ([w],b)/\W8 w (3,a&&c):=by
 rw[Pn (Cw d) (Cw e)];split;rename_i h;exact⟨_,_,rfl,by rw[h.2.2];exact Zcc⟩;refine⟨_,_,rfl,PL ?_ _⟩;rw[ByteArray.size_extract]
 split<;>omega
def Zdp{w}{a c:Bool}(d:W8 w (3,a&&c)):∃x y b,Aw w a c=some ([x,y],b)/\W8 x (3,a)/\W8 y (3,c):=by
 rw[RR (Cw d)];split;exact⟨_,_,_,rfl,IL X a,IL X c⟩;split;rename_i h;have⟨p,q,e,f⟩:=Gy _ h;have g:(p++32::q).length<=24:=by rw[<-e,Yw];exact Cw d
 rw[e,J1 f];simp only[Ye,YM] at g;exact⟨_,_,_,rfl,QJ (X:p.length<=24) a,QJ (X:q.length<=24) c⟩;exact⟨_,_,_,rfl,PL (Cw d) a,IL X c⟩
def CN(a b:Bool):aE->aE×Bool
 |[x,y]=>(Au [x,y] (a&&b)).getD ([],false)
 |_=>([],false)
def Sq(a b:Bool):aE->aE×Bool
 |[v]=>(Aw v a b).getD ([],false)
 |_=>([],false)
def LD{a b x y r}(h:Au [x,y] (a&&b)=some r):CN a b [x,y]=r:=by show(Au [x,y] (a&&b)).getD ([],false)=r;rw[h];rfl
def Mc{a b v r}(h:Aw v a b=some r):Sq a b [v]=r:=by show(Aw v a b).getD ([],false)=r;rw[h];rfl
def ZA.one{k a}(h:ZA [k] a):∃v,a=[v]/\W8 v k:=by
 match a,h with
 |[v],h=>exact⟨v,rfl,h.1⟩
 |[],h=>exact h.elim
 |_::_::_,h=>exact h.2.elim
def ZA.two{k l a}(h:ZA [k,l] a):∃v w,a=[v,w]/\W8 v k/\W8 w l:=by
 match a,h with
 |[v,w],h=>exact⟨v,w,rfl,h.1,h.2.1⟩
 |[],h=>exact h.elim
 |[_],h=>exact h.2.elim
 |_::_::_::_,h=>exact h.2.2.elim
def Z3t{M a k l c}(f:M.cs.q=[a])(i:M.step.g=12)(g:M.fwd=true)(hp:a.pk.length<=a.j.length)(b:(a.j.drop a.pk.length).map kn=[k,l,c]){x y r}(j:Au [x,y] c.2=some r):Ap M [x,y]=some r:=by
 refine Ww ?_;unfold Ap;refine X5 (show M.cs.q[0]?=some a by rw[f];rfl) (X4 ⟨X,X,X⟩ (X1 (λh=>by simp[i] at h) λ_=>X1 (λ_=>?_) λh=>by simp[g] at h));rw[Yl];generalize a.j.drop a.pk.length=d at b
 match d,b with
 |[c0,c1,c2],b=>
   have e:kn c2=c:=by simp at b;exact b.2.2
   refine X5 rfl ?_;rw[show c2.f=c.2 by rw[<-e];rfl,j];exact X2 rfl
def Z3s{M a c d n}(j:M.cs.q=[a])(l:M.step.g=12)(k:M.fwd=false)(hp:a.pk.length<=a.j.length)(b:(a.j.drop a.pk.length).map kn=[c,d,n]){v r}(m:Aw v c.2 d.2=some r):Ap M [v]=some r:=by
 refine Ww ?_;unfold Ap;refine X5 (show M.cs.q[0]?=some a by rw[j];rfl) (X4 ⟨X,X,X⟩ (X1 (λh=>by simp[l] at h) λ_=>X1 (λh=>by simp[k] at h) λ_=>X5 rfl ?_));rw[Yl];generalize a.j.drop a.pk.length=f at b
 match f,b with
 |[c0,e,c2],b=>
   have g:kn c0=c:=by simp at b;exact b.1
   have i:kn e=d:=by simp at b;exact b.2.1
   refine X5 rfl (X5 rfl ?_);rw[show c0.f=c.2 by rw[<-g];rfl,show e.f=d.2 by rw[<-i];rfl,m];exact X2 rfl
def Z5p{x:Stp}{S t C:Sch}(hS:VS S)(al:VS t)(hC:COK S t x C){i:Nat}{T:E}{a b:Int}(k:x.g=12)(hi:S.q[i]?=some T)(m:Z9 T.y x.u=true)(P:x.j=[a,b])(ha:0<=a)(aq:a<b)(hb:b<T.j.length)(aw:(Zf T a).g=3)(au:(Zf T b).g=3)(hp:a∉T.pk/\b∉T.pk)
  (e:t.q=S.q.set i {ZW T x.j with j:=Zo x.j 0 T.j++[⟨x.d,3,(Zf T a).f&&(Zf T b).f⟩]}):VV x S t C:=by
 have m:=ZD.1 m;have D:=Y2 hi;obtain⟨W,z⟩:∃W:E,W={ZW T x.j with j:=Zo x.j 0 T.j++[⟨x.d,3,(Zf T a).f&&(Zf T b).f⟩]}:=⟨_,rfl⟩;rw[<-z] at e;rw[P] at z;have F:=e▸CG hi;have B:W.y=x.u:=by rw[z];exact m
 obtain⟨L,O⟩:∃L,L=(Zo [a,b] 0 T.j).length:=⟨_,rfl⟩;have ag:W.j=Zo [a,b] 0 T.j++[⟨x.d,3,(Zf T a).f&&(Zf T b).f⟩]:=by rw[z]
 have a7:W.j.length=L+1:=by rw[ag,Ye,<-O];rfl
 have ah:W.pk=T.pk.map (Ug [a,b]):=by rw[z];rfl
 have R:=hS.tab T D;have U:=al.tab W F;have w6:=U.cols6;have t6:=R.cols6;have H:[a,b].Pairwise (·<·):=by simp[aq]
 have I:∀v∈[a,b],0<=v/\v<(T.j.length:Int):=λv c=>by simp at c;omega
 have a3:∀v∈[a,b],v∉T.pk:=λv c=>by simp at c;rcases c with rfl|rfl;exact hp.1;exact hp.2
 have ay:=UK H I;have ax:(L:Int)∉W.pk:=λh=>by
  rw[ah] at h;have⟨u,f,ar⟩:=Yi.1 h;have az:=R.pk u f;have ap:=λh9=>a3 u h9 f;obtain⟨n,rfl⟩:∃n:Nat,u=n:=⟨u.toNat,X⟩;have hg:=Gp H (λv c=>(I v c).1) (xs:=T.j) X ap;have a8:V1 [a,b] n<=n:=by have:=G6 H (λv c=>(I v c).1) (xs:=T.j) n X;omega
  have:=(Y0.1 hg).1
  rw[IS] at ar;omega
 have s:CvS T W [a,b] [(L:Int)]:=⟨R,U,H,I,a3,Xt _ _,λv c=>by rw[Yj.1 c];omega,λv c=>by rwa [Yj.1 c],by
  have ek:Zo [L] 0 W.j=Zo [a,b] 0 T.j:=by rw[Ct,ag,Y3e O.symm,YR (by rw[Ye,<-O];simp),Ym]
  have ep:W.pk.map (Ug [L])=T.pk.map (Ug [a,b]):=by
   rw[<-ah]
   conv=>rhs;rw[<-Y3u W.pk]
   refine YN λv c=>?_;have K:=U.pk v c;have ao:¬L<v:=X
   simp[Ug,ao]
  unfold ZW;rw[ek,ep,z]
  rfl⟩
 have⟨ct,ks,K,h2⟩:=hC.one X;have⟨A,Z⟩:=h2 T W ⟨D,F,m,B⟩;obtain⟨a9,b9,am,-,-,-,-,Z⟩:=Z.2.2.2.1 k;rw[P] at am;cases am;have eW:Zf W (L:Int)=⟨x.d,3,(Zf T a).f&&(Zf T b).f⟩:=VA X (by rw[Yn,ag,YC X,<-O,Y3f];rfl);have eL:Zpv W=Zf W L:=by unfold Zpv;rw[show(W.j.length-1)=(L:Int) by omega]
 rw[Z,eL] at A;have kA:kn (Zf T a)=(3,(Zf T a).f):=by unfold kn;rw[aw]
 have kB:kn (Zf T b)=(3,(Zf T b).f):=by unfold kn;rw[au]
 have Q:kn (Zf W L)=(3,(Zf T a).f&&(Zf T b).f):=by rw[eW];rfl
 have l:∀{u v:GV},W8 u (kn (Zf T a))->W8 v (kn (Zf T b))->∃w o,Au [u,v] ((Zf T a).f&&(Zf T b).f)=some ([w],o)/\W8 w (kn (Zf W (L:Int))):=λ{u v} f c=>by rw[kA] at f;rw[kB] at c;rw[Q];exact Z7w f c
 have Y:∀{w:GV},W8 w (kn (Zf W (L:Int)))->∃u v o,Aw w (Zf T a).f (Zf T b).f=some ([u,v],o)/\W8 u (kn (Zf T a))/\W8 v (kn (Zf T b)):=λ{w} d=>by rw[Q] at d;rw[kA,kB];exact Zdp d
 have G:ct.j.length=ct.pk.length+(2+1):=by have:=A.lens;simp at this;omega
 have ak:CT W [kn (Zf T a),kn (Zf T b),kn (Zf W L)] ct:=by
  rwa [<-CT.rm U s.b1 (λv c=>(s.b2 v c).1) s.b3,s.eq,CT.rm R s.a1 (λv c=>(s.a2 v c).1) s.a3]
 refine RQ (cv:=CN (Zf T a).f (Zf T b).f) (cv':=Sq (Zf T a).f (Zf T b).f) hS al (.inr k) D m F B K G (IT hS.ord.1 hi e m B) ⟨s,rfl,A,λq g=>?_⟩ ⟨s.symm,rfl,ak,λq g=>?_⟩ (λq r g hr=>?_) (λ{ρ σ} L9=>?_) (λ{ρ σ} L9=>?_) (λ{ρ σ} q g=>?_) (λ{ρ σ} q g=>?_);obtain⟨u,v,rfl,f,c⟩:=ZA.two g;have⟨w,o,d,J⟩:=l f c;rw[LD d];exact⟨J,trivial⟩;obtain⟨w,rfl,d⟩:=ZA.one g;have⟨u,v,o,N,h4,h5⟩:=Y d;rw[Mc N];exact⟨h4,h5,trivial⟩;obtain⟨u,v,rfl,f,c⟩:=ZA.two g;obtain⟨w,rfl,d⟩:=ZA.one hr;obtain⟨w2,b2,J,-⟩:=l f c;obtain⟨u2,v2,b3,aj,-,-⟩:=Y d;replace f:W8 u (kn (Zf T a)):=f;replace c:W8 v (kn (Zf T b)):=c;replace d:W8 w (kn (Zf W L)):=d;rw[kA] at f;rw[kB] at c;rw[Q] at d;have i1:=Z61 (w:=w) f c;have i2:=Zcm (x:=u) (y:=v) d;rw[<-i2,J,aj] at i1;rw[LD J,Mc aj];simpa using i1;refine Ww ?_;unfold Bl;refine X0 (AE L9 D m) λq _ g=>X0 (DP L9 F B) λV _ p=>?_;subst g p;refine X0 (AX _ _) λv _ _=>X0 (AX _ _) λw _ _=>X1 (λh=>by simp[Zn,k] at h) λ_=>X1 (λ_=>X4 (by simp only[Wm];omega) (X2 ?_)) λh=>by simp[Zn] at h
 show(x.j,[((V.j.length:Int)-1)])=_;rw[P,show(V.j.length-1)=(L:Int) by omega];refine Ww ?_;unfold Bl;refine X0 (AE L9 F B) λq _ g=>X0 (DP L9 D m) λV _ p=>?_;subst g p;refine X0 (AX _ _) λv _ _=>X0 (AX _ _) λw _ _=>X1 (λh=>by simp[Zn,k] at h) λ_=>X1 (λh=>by simp[Zn] at h) λ_=>X4 (by simp only[Wm];omega) (X2 ?_);show([((W.j.length:Int)-1)],x.j)=_;rw[P,show((W.j.length:Int)-1)=(L:Int) by omega];obtain⟨u,v,rfl,f,c⟩:=ZA.two g;have⟨w,o,d,_⟩:=l f c;refine Z3t (M:=Zn x true S t C ρ σ) K k rfl X A.tail ?_;rw[Q];exact d.trans (congrArg some (LD d).symm);obtain⟨w,rfl,d⟩:=ZA.one g;obtain⟨u,v,o,N,-,-⟩:=Y d;exact Z3s (M:=Zn x false t S C ρ σ) K k rfl X A.tail (N.trans (congrArg some (Mc N).symm))
end
end Go.Am
section
namespace Go.Am
def AO(a:List Int)(i:Nat):List Int:=a.filter λv=>decide (v<i)
def EP{a}{i:Nat}(h:∀v∈a,(i:Int)<=v):AO a i=[]:=by
 unfold AO;rw[Y3k];intro v b
 have:=h v b
 simp;omega
def OV:∀{a:List Int},a.Pairwise (·<·)->∀i:Nat,AO a (i+1)=AO a i++(if(i:Int)∈a then[(i:Int)] else[])
 |[],_,i=>rfl
 |v::a,h,i=>by
   have⟨f,g⟩:=YT.1 h;have k:=OV g i;have step:∀j:Nat,AO (v::a) j=if v<(j:Int) then v::AO a j else AO a j:=λj=>by unfold AO;rw[XG];simp
   rw[step,step];rcases Int.lt_trichotomy v (i:Int) with e|e|e;rw[if_pos X,if_pos e,k]
   have:((i:Int)∈v::a)=((i:Int)∈a):=by
    rw[Y5];exact propext ⟨λd=>d.resolve_left X,.inr⟩
   simp only[this,Yt];have c:∀u∈a,((i+1:Nat):Int)<=u:=λu b=>by have:=f u b;omega
   rw[if_pos X,if_neg X,EP c,EP λu b=>by have:=c u b;omega,if_pos (by rw[e];simp),e];rfl;have c:∀u∈a,((i+1:Nat):Int)<=u:=λu b=>by have:=f u b;omega
   rw[if_neg X,if_neg X,EP c,EP λu b=>by have:=c u b;omega,if_neg ?_];rfl;intro d;rcases Y5.1 d with d|d;omega
   have:=c _ d;omega
def Z85{a}{n:Nat}(h:∀v∈a,v<(n:Int)):AO a n=a:=by unfold AO;rw[XM];intro v b;simp[h v b]
def Zc4{ρ':Type}{Q:ρ'->Prop}{a:List Int}{c:Z8}{k:aE×aE->aB ρ'}(o:a.Pairwise (·<·))(l:∀v∈a,0<=v/\v<(c.length:Int))(hk:Wp (k (a.map (Zu c),Zo a 0 c)) Q):Wp (Ls a c k) Q:=by
 unfold Ls;refine X6 (λi s=>s=((AO a i).map (Zu c),Zo a 0 (c.take i))) ?_ ?_ λs f=>?_;rw[EP λv e=>(l v e).1];rfl
 .intro i v s next m _ f g
  have⟨p,e⟩:=Y0.1 m;rw[OV o,Dl a m] at g;refine X0 (C4 _ _) λb _ j=>X1 (λh=>g _ ?_) λh=>g _ ?_;have d:=j.1 h;rw[if_pos d,if_pos d,f,YL,Ym]
  congr 2
  show[v]=[Zu c i];rw[Az p,e];have d:(i:Int)∉a:=λn=>by rw[j.2 n] at h;cases h
  rw[if_neg d,if_neg d,f,Ym]
 rwa [f,Z85 λv e=>(l v e).2,Yl]
def Zeb{ρ':Type}{Q}(F:Z8->Z8×aB Z8×aB Z8){a}{step:Nat->Z8->R3->(R3->aB ρ')->aB ρ'}{c}
  (k:∀i b (s:R3) next,b∈a->Wp (next (s.1++[(F b).1],s.2.1++(F b).2.1.toList,s.2.2++(F b).2.2.toList)) Q->Wp (step i b s next) Q)
  (f:Wp (c (a.map λr=>(F r).1,a.filterMap λr=>(F r).2.1,a.filterMap λr=>(F r).2.2)) Q):Wp (Zd step c a 0 ([],[],[])) Q:=by
 refine X6 (λi s=>s=((a.take i).map λr=>(F r).1,(a.take i).filterMap λr=>(F r).2.1,(a.take i).filterMap λr=>(F r).2.2)) I ?_ λs d=>by rw[d,Yl];exact f
 intro i b s next l h d j
 have⟨g,e⟩:=Y0.1 l;refine k i b s next h (j _ ?_)
 rw[d,Yg g,e];simp only[YL,Y32,Yb,Yf,XH,List.filterMap_nil];cases(F b).2.1<;>cases(F b).2.2<;>rfl
def UB(W:E)(a:List Int)(r:Z8):Z8:=Z3 W r++a.map (Zu r)
def WB(W:E)(a:List Int)(h:Z8->Bool)(r:Z8):Z8×aB Z8×aB Z8:=
 (Zo a 0 r,(bif h r then none else some (UB W a r)),(bif h r then some (UB W a r) else none))
open Classical in
noncomputable def AK (W c:E) (b:List Int) (a:List Z8) (r:Z8):Bool:=match ZR (Z3 c) a (Z3 W r) with
 |some e=>decide (e.drop W.pk.length=b.map (Zu r))
 |none=>false
variable{M:Mp}{ρ σ:RN}
def Z9m(L:LI M ρ σ){W d:E}{f}(o:W∈M.src.q)(F:W.y=M.step.u)(A:M.cs.q=[d])(w:d.pk.length=W.pk.length)(G:d.pk.length<=d.j.length)(y:UZ M W=some f)(p:f.Pairwise (·<·))(t:∀v∈f,0<=v/\v<(W.j.length:Int)):
  Dy M=some {M with out:=Zt M.step.o ((ρ W.y).filterMap λr=>(WB W f (AK W d f (σ d.y)) r).2.1) (Zt M.step.u ((ρ W.y).map λr=>(WB W f (AK W d f (σ d.y)) r).1) M.out),nc:=Zt M.step.u ((ρ W.y).filterMap λr=>(WB W f (AK W d f (σ d.y)) r).2.2) M.nc}:=by
 obtain⟨ae,ag,af,-,j⟩:=L.row o;refine Ww ?_;unfold Dy;refine X0 (AE L o F) λq _ H=>?_;subst H;refine X0 (Wb y) λa _ x=>?_;subst x;refine X4 (by simp only;omega) (Zeb (WB W a (AK W d a (σ d.y))) ?_ (X2 rfl));intro i c s next D g
 have C:=j c D;unfold KB;refine X4 X (X0 (Ua W c X) λk _ B=>Zc4 p (λv I=>by rw[C];exact t v I) (X0 (Wb (L.jU A G k)) λst _ n=>?_));subst B n;refine X0 (R:=λb=>b=AK W d a (σ d.y) c) ?_ λb _ m=>X0 (R:=λu=>u=UB W a c) (X4 ?_ (X2 (by simp[UB]))) λu _ z=>?_;unfold Ch AK;cases ZR (Z3 d) (σ d.y) (Z3 W c) with
 |none=>exact X9 rfl<|X2 rfl
 |some e=>?_
 refine X1 (λ_=>X0 (EO _ _) λb _ m=>X2 ?_) λh=>by cases h
 rw[Bool.eq_iff_iff,m,w];simp
 have:=UK p t
 simp only[XC,Y3t,Ym,Ye,Vs,Yd];omega;subst m z;refine X1 (λh=>?_) λh=>?_;have l:WB W a (AK W d a (σ d.y)) c=(Zo a 0 c,none,some (UB W a c)):=by unfold WB;rw[h];rfl
 rw[l] at g;simp only[Option.toList_none,Option.toList_some,Ym] at g;exact g;have l:WB W a (AK W d a (σ d.y)) c=(Zo a 0 c,some (UB W a c),none):=by unfold WB;rw[h];rfl
 rw[l] at g;simp only[Option.toList_none,Option.toList_some,Ym] at g;exact g
end Go.Am
end
section
namespace Go.Am
def Ce(W c:E)(b:List Int)(P:Nat)(a:List Z8)(k:aE):aE:=match ZR (Z3 c) a k with
 |some e=>e.drop P
 |none=>b.map λv=>(Vi (Zf W v).g (Zf W v).f).getD Wo
def Ak(W O c:E)(b:List Int)(P:Nat)(d a:List Z8)(k:aE):aE:=match ZR (Z3 O) d k with
 |some y=>y.drop P
 |none=>Ce W c b P a k
def VN(W N O d:E)(b:List Int)(c a:List Z8)(r:Z8):Z8×aB Z8×Bool:=
 (Uc r [] b (Ak W O d b N.pk.length c a (Z3 N r)) W.j.length,(bif (ZR (Z3 O) c (Z3 N r)).isSome then none else some (Z3 N r++Ak W O d b N.pk.length c a (Z3 N r))),(ZR (Z3 O) c (Z3 N r)).isSome)
def Zea{ρ':Type}{Q}(F:Z8->Z8×aB Z8×Bool){a}{step:Nat->Z8->N2->(N2->aB ρ')->aB ρ'}{c}
  (k:∀i b (s:N2) next,b∈a->Wp (next ((bif (F b).2.2 then s.1+1 else s.1),s.2.1++[(F b).1],s.2.2++(F b).2.1.toList)) Q->Wp (step i b s next) Q)
  (f:Wp (c ((a.filter λr=>(F r).2.2).length,a.map λr=>(F r).1,a.filterMap λr=>(F r).2.1)) Q):Wp (Zd step c a 0 (0,[],[])) Q:=by
 refine X6 (λi s=>s=(((a.take i).filter λr=>(F r).2.2).length,(a.take i).map λr=>(F r).1,(a.take i).filterMap λr=>(F r).2.1)) I ?_ λs d=>by rw[d,Yl];exact f
 intro i b s next l h d j
 have⟨g,e⟩:=Y0.1 l;refine k i b s next h (j _ ?_)
 rw[d,Yg g,e];simp only[YL,Y32,Y03,Yb,Yf,XH,List.filterMap_nil,XG,List.filter_nil];cases(F b).2.2<;>cases(F b).2.1<;>simp
variable{M:Mp}{ρ σ:RN}
def OE(L:LI M ρ σ){W d a}(m:M.cs.q=[d])(r:d.pk.length<=d.j.length)(n:∀v∈a,0<=v/\v<(W.j.length:Int))(h6:a.length<=100)(b):D6 M b W a=some (Ce W d a d.pk.length (σ d.y) b):=by
 refine Ww ?_;unfold D6;refine Xb (L.jU m r b) ?_;unfold Ch Ce;cases ZR (Z3 d) (σ d.y) b with
 |some e=>exact X1 (λ_=>X2 rfl) λh=>by cases h
 |none=>?_
 refine X9 rfl<|X6 (λi s=>s=(a.take i).map λv=>(Vi (Zf W v).g (Zf W v).f).getD Wo) rfl ?_ λs f=>X2 (by rw[f,Yl]);intro i v s next k p f q
 have hi:=(Y0.1 k).1;have⟨j,l⟩:=n v p;refine X3 j l λc o _=>X0 (R:=λz=>z=(Vi (Zf W v).g (Zf W v).f).getD Wo) ?_ λz _ g=>X8 (by rw[f];simp;omega) (q _ ?_);rw[VA j o];obtain⟨z,g,-⟩:=J4 c.g c.f;exact⟨z,g,by rw[g];rfl⟩;rw[f,Gj k,g]
def Zcg(L:LI M ρ σ){N O W c:E}{d}(s:CvS N W [] d)(D:N∈M.src.q)(hn:N.y=M.step.u)(C:O∈M.src.q)(ho:O.y=M.step.o)(F:W∈M.dst.q)(hw:W.y=M.step.u)(x:M.cs.q=[c])(A:c.pk.length=N.pk.length)(hp:c.j.length=c.pk.length+d.length)
  (t:UZ M W=some d)(ar:O.j.length=N.pk.length+d.length):
  DC M=some {M with out:=Zt M.step.u ((ρ N.y).map λr=>(VN W N O c d (ρ O.y) (σ c.y) r).1) M.out,nc:=Zt M.step.u ((ρ N.y).filterMap λr=>(VN W N O c d (ρ O.y) (σ c.y) r).2.1) M.nc,err:=bif decide (((ρ N.y).filter λr=>(VN W N O c d (ρ O.y) (σ c.y) r).2.2).length<(ρ O.y).length) then 12 else M.err}:=by
 obtain⟨am,ap,_,-,n⟩:=L.row D;have⟨_,T,ao,K,S⟩:=L.row C;have al:=(L.b.tab W F).cols6;have aq:d.length<=6:=by have:=s.len;simp at this;omega
 refine Ww ?_;unfold DC;refine X0 (AE L D hn) λq _ hq=>X0 (AE L C ho) λp _ P=>X0 (DP L F hw) λl _ z=>?_;subst hq P z;refine X0 (Wb t) λa _ Q=>?_;subst Q;refine X4 (by simp only;omega) (Zea (VN l N O c a (ρ O.y) (σ c.y)) ?_ (X2 rfl));intro i b s9 next hm m
 have hl:=n b hm;have o:∀g:aE,g.length=a.length->By b [] a g (l.j.length:Int)=some (Uc b [] a g l.j.length):=λg hv=>(EX s hl hv).1;unfold KQ;refine X0 (Ua N b X) λk _ Z=>X0 (Gq O _ k T K) λf _ V=>?_;subst Z;have⟨j,Y,U,v⟩:=V;refine X1 (λh=>?_) λh=>?_;have⟨y,H,u⟩:=U (sU h);have hyl:=S y (Y2 H);rw[Y];have w:VN l N O c a (ρ O.y) (σ c.y) b=(Uc b [] a (y.drop N.pk.length) l.j.length,none,true):=by unfold VN Ak;rw[u];rfl
 rw[w] at m;refine X5 H (X4 ⟨by simp only;omega,X⟩ (Xb (o (y.drop N.pk.length) sO) ?_));simp only[Option.toList_none,Ym,cond_true] at m;exact m;have u:=v (sU h);have w:VN l N O c a (ρ O.y) (σ c.y) b=(Uc b [] a (Ce l c a N.pk.length (σ c.y) (Z3 N b)) l.j.length,some (Z3 N b++Ce l c a N.pk.length (σ c.y) (Z3 N b)),false):=by unfold VN Ak;rw[u];rfl
 rw[w] at m;have B:(Ce l c a N.pk.length (σ c.y) (Z3 N b)).length=a.length:=by
  have⟨r,e,G⟩:=Z73 L x hp s.b2 X (Z3 N b);rw[OE L x X s.b2 X,A] at e
  rwa [Option.some.inj e]
 refine X0 (Wb (OE L x X s.b2 X _)) λmv _ t=>?_;rw[A] at t;subst t;refine X0 (R:=λJ=>J=Z3 N b++Ce l c a N.pk.length (σ c.y) (Z3 N b)) (X4 ?_ (X2 I)) λJ _ v=>X0 (Wb (o _ B)) λr _ G=>?_;simp only[XC,Y3t,Ym,Ye,Vs,B];omega;subst v G;simp only[Option.toList_some,cond_false] at m;exact m
end Go.Am
end
section
namespace Go.Am
def Rn{κ}:∀{b a:List Z8},ZJ κ a->ZJ κ b->(∀x∈a,x∈b)->a.length<=b.length
 |_,[],_,_,_=>Y3y _
 |[],x::_,_,_,h=>absurd (h x (by simp)) (by simp)
 |y::b,x::a,i,j,h=>by
   have c:=YT.1 i;have d:=YT.1 j;have g:∀z∈a,z∈b:=λz f=>by rcases Y5.1 (h z (Yc _ f)) with rfl|h9;have e:=c.1 z f;rcases Y5.1 (h x I) with rfl|h8;exact absurd e Uu;exact absurd (Dn e (d.1 x h8)) Uu;exact h9
   have:=Rn c.2 d.2 g
   simp only[YM];omega
def Qo{κ}:∀{c b:List Z8},ZJ κ b->ZJ κ c->(∀x∈b,x∈c)->c.length<=b.length->b=c
 |[],[],_,_,_,_=>rfl
 |y::_,[],_,_,_,h=>by simp at h
 |[],x::_,_,_,h,_=>absurd (h x (by simp)) (by simp)
 |y::c,x::b,i,j,h,hl=>by
   have e:=YT.1 i;have d:=YT.1 j;simp only[YM] at hl;have g:∀z∈b,z∈c:=λz a=>by rcases Y5.1 (h z (Yc _ a)) with rfl|h9;have f:=e.1 z a;rcases Y5.1 (h x I) with rfl|h8;exact absurd f Uu;exact absurd (Dn f (d.1 x h8)) Uu;exact h9
   rcases Y5.1 (h x I) with rfl|h9;rw[Qo e.2 d.2 g X]
   have:=Rn i d.2 λz a=>by rcases Y5.1 a with rfl|a;exact h9;exact g z a
   simp only[YM] at this;omega
def Km{α β:Type}(f:α->aB β):∀xs:List α,(xs.filterMap f).length=(xs.filter λx=>(f x).isSome).length
 |[]=>rfl
 |x::xs=>by have a:=Km f xs;rw[XH,XG];cases f x<;>simp[a]
def Gi{α:Type}:∀(a:List α) i,Zo [] i a=a
 |[],_=>rfl
 |x::a,i=>by show(if(i:Int)∈([]:List Int) then Zo [] (i+1) a else x::Zo [] (i+1) a)=_;rw[if_neg (by simp),Gi]
structure SpS(W N O ct:E)(at_:List Int):Prop where
 s:CvS W N at_ []
 o:VT O
 opk:O.pk=ZZ W.pk.length
 oc:O.j.map kn=W.pk.map (λp=>kn (Zf W p))++at_.map λv=>kn (Zf W v)
 c:CT W (at_.map λv=>kn (Zf W v)) ct
def SD(W:E)(at_:List Int)(wide c a b:List Z8):Prop:=∃h:Z8->Bool,c=wide.map (λr=>(WB W at_ h r).1)/\a=wide.filterMap (λr=>(WB W at_ h r).2.1)/\b=wide.filterMap λr=>(WB W at_ h r).2.2
section
variable{W N O ct:E}{at_:List Int}
def SpS.co(p:SpS W N O ct at_):CT W (at_.map λv=>kn (Zf W v)) {O with y:=W.y}:=⟨rfl,p.opk,p.oc⟩
def SpS.xQ(p:SpS W N O ct at_){k b}(a:k.length=W.pk.length):Z3 O (k++b)=k:=p.co.key a
def SpS.kmO(p:SpS W N O ct at_){r}:Z3 O (UB W at_ r)=Z3 W r:=p.xQ Vs
def SpS.kmC(p:SpS W N O ct at_){r}:Z3 ct (UB W at_ r)=Z3 W r:=p.c.key Vs
def SpS.xH(p:SpS W N O ct at_){r:Z8}(h:CR W r):CR ct (UB W at_ r):=p.c.row p.s.t h (ZA.cells h p.s.a2)
def GW{h r e}(a:(WB W at_ h r).2.2=some e):e=UB W at_ r:=by unfold WB at a;cases hb:h r<;>rw[hb] at a<;>cases a;rfl
def Zd5{h r e}(a:(WB W at_ h r).2.1=some e):e=UB W at_ r:=by unfold WB at a;cases hb:h r<;>rw[hb] at a<;>cases a;rfl
def SpS.wR(p:SpS W N O ct at_){h:Z8->Bool}{wide:List Z8}(a:ZJ (Z3 W) wide){r:Z8}(c:r∈wide):ZR (Z3 ct) (wide.filterMap λr=>(WB W at_ h r).2.2) (Z3 W r)=(WB W at_ h r).2.2:=
 I4 (κ':=Z3 ct) a (λt _ e b=>by rw[GW b];exact p.kmC) c
def SpS.xE(p:SpS W N O ct at_){h:Z8->Bool}{wide:List Z8}(a:ZJ (Z3 W) wide){r:Z8}(c:r∈wide):ZR (Z3 O) (wide.filterMap λr=>(WB W at_ h r).2.1) (Z3 W r)=(WB W at_ h r).2.1:=
 I4 (κ':=Z3 O) a (λt _ e b=>by rw[Zd5 b];exact p.kmO) c
def SpS.held(p:SpS W N O ct at_){h:Z8->Bool}{wide:List Z8}(a:ZJ (Z3 W) wide){r:Z8}(c:r∈wide):AK W ct at_ (wide.filterMap λr=>(WB W at_ h r).2.2) r=h r:=by
 have b:=p.wR (h:=h) a c;unfold AK;rw[b];unfold WB;cases h r with
 |true=>?_
 |false=>rfl
 simp only[cond_true];rw[UB,XK Vs];simp
def OZ{x}{f:Bool}{A B C:Sch}(y:Wf A.q)(o:W∈A.q)(a:W.y=x.u)(u:x.u≠x.o)(n:C.q=[ct])(p:SpS W N O ct at_)(v:∀U∈B.q,U.y∉[x.u,x.o]->U∈A.q)
  (s:∀ρ σ,ZN (Zn x f A B C ρ σ)=Dy (Zn x f A B C ρ σ))(z:∀ρ σ,UZ (Zn x f A B C ρ σ) W=some at_):
  Half x f A B C λρ σ ρ'=>DO B [x.u,x.o] ρ ρ'/\SD W at_ (ρ x.u) (ρ' x.u) (ρ' x.o) (σ x.u):=by
 have k:ct.y=x.u:=by rw[p.c.y,a]
 have G:=p.c.lens;have m:∀{ρ σ},Pre A B C ρ σ->_:=λ{ρ σ} q=>Z9m (q.li) o a n G.1 X (z ρ σ) p.s.a1 p.s.a2;refine⟨λ{ρ σ M2} q h g=>?_,λ{ρ σ ρ'} q _ ht=>?_,λ{ρ σ} q=>Ag ((s _ _).trans (m q)) (Vz.trans Vz) Vz⟩;rw[s,m q] at h;cases h;have i:=q.ra W o;rw[a] at i;refine⟨_,_,by simp only[Zn];rw[Wk,Wk],by simp only[Zn];rw[Wk],λb j=>⟨λU d=>?_,λU d c=>?_,AK W ct at_ (σ ct.y),?_,?_,?_⟩⟩;have j:=j U d;rw[n] at d;obtain rfl:=Yj.1 d;rw[k,W0,a] at j|-;refine⟨j,λe g=>?_,ZJ.filterMap i.asc λr _ e g=>by rw[GW g];exact p.kmC⟩;have⟨r,b,g⟩:=YS.1 g;rw[GW g];exact p.xH (i.row r b);simp only[Y5,Xn,or_false,not_or] at c;rw[WW c.2,WW c.1,Vl y (v U d (by simp[c]))];rw[WW u,W0,a];rw[W0,a];rw[W0,a,k];have⟨D,h,E,F,w⟩:=ht;have i:=q.ra W o;rw[a] at i;have t:∀r∈ρ x.u,WB W at_ (AK W ct at_ (σ x.u)) r=WB W at_ h r:=λr b=>by unfold WB;rw[w,p.held i.asc b]
 refine⟨_,(s ρ σ).trans (m q),rfl,?_,?_⟩;show Zt x.o _ (Zt x.u _ (mkI B (WK A ρ)))=_;rw[Wk,Wk];refine U3 λU d=>?_;rw[a,k];by_cases e2:U.y=x.o;rw[e2,W0,F];exact BI λr b=>by rw[t r b]
 rw[WW e2];by_cases l:U.y=x.u;rw[l,W0,E];exact YN λr b=>by rw[t r b]
 rw[WW l,Vl y (v U d (by simp[l,e2])),D U d (by simp[l,e2])];show Zt x.u _ (mkI C λ_=>[])=_;rw[Wk];refine Dp n ?_;rw[k,W0,a]
 conv=>rhs;rw[w]
 exact BI λr b=>by rw[t r b]
end
end Go.Am
end
section
namespace Go.Am
section
variable{W N O ct:E}{at_:List Int}
def SpS.rep(p:SpS W N O ct at_){r}(c:r.length=N.j.length){a}(f:a.length=at_.length):Zo at_ 0 (Uc r [] at_ a W.j.length)=r/\at_.map (Zu (Uc r [] at_ a W.j.length))=a/\Z3 W (Uc r [] at_ a W.j.length)=Z3 N r:=by obtain⟨-,d,b,e⟩:=EX p.s.symm c f;refine⟨by rw[b,Gi],e,?_⟩;exact p.s.symm.key c d b.symm
def SpS.xM(p:SpS W N O ct at_){w:Z8}(a:CR W w):Z3 N (Zo at_ 0 w)=Z3 W w:=by
 have c:(Zo at_ 0 w).length=N.j.length:=by have h1:=UK p.s.a1 (by rw[a.len];exact p.s.a2);have b:=p.s.len;have h3:=a.len;simp only[Y3a] at b;omega
 exact p.s.key a.len c (by rw[Gi])
def SpS.back(p:SpS W N O ct at_){w:Z8}(c:CR W w):Uc (Zo at_ 0 w) [] at_ (at_.map (Zu w)) W.j.length=w:=by
 have f:(Zo at_ 0 w).length=N.j.length:=by have d:=UK p.s.a1 (by rw[c.len];exact p.s.a2);have a:=p.s.len;have e:=c.len;simp only[Y3a] at a;omega
 obtain⟨-,d,a,e⟩:=EX p.s.symm f (Yd ..);exact QQ p.s.a1 (λv b=>(p.s.a2 v b).1) (by rw[d,c.len]) (by rw[a,Gi]) λv b=>List.map_inj_left.1 e v b
def SpS.yO(p:SpS W N O ct at_){y:Z8}(a:CR O y):y=Z3 O y++y.drop W.pk.length/\(y.drop W.pk.length).length=at_.length:=by have⟨b,c⟩:=p.co.parts ⟨a.len,a.cell⟩;exact⟨b,by rw[c.len,Yd]⟩
def SpS.mov(p:SpS W N O ct at_){b a:List Z8}(g:∀y∈b,CR O y)(d:∀e∈a,CR ct e)(k:aE):(Ak W O ct at_ N.pk.length b a k).length=at_.length:=by
 have c:N.pk.length=W.pk.length:=by have:=congrArg (λt:E=>t.pk.length) p.s.eq;simpa[ZW] using this
 unfold Ak;rw[c];split;rename_i y h;exact(p.yO (g y (Ut h).1)).2;unfold Ce;split;rename_i e f
 have:=(p.c.parts (d e (Ut f).1)).2.len
 rw[this,Yd];exact Yd ..
def Q4{x}{f:Bool}{A B C:Sch}(hA:Wf A.q)(hN:N∈A.q)(n:N.y=x.u)(hO:O∈A.q)(s:O.y=x.o)(M:W∈B.q)(D:W.y=x.u)(hne:x.u≠x.o)(v:C.q=[ct])(p:SpS W N O ct at_)(am:∀U,U.y∉[x.u,x.o]->(U∈A.q↔U∈B.q))(al:∀U∈B.q,U.y≠x.o)
  (P:∀ρ σ,ZN (Zn x f A B C ρ σ)=DC (Zn x f A B C ρ σ))(au:∀ρ σ,UZ (Zn x f A B C ρ σ) W=some at_):
  Half x f A B C λρ σ ρ'=>DO A [x.u,x.o] ρ' ρ/\SD W at_ (ρ' x.u) (ρ x.u) (ρ x.o) (σ x.u):=by
 have j:ct.y=x.u:=by rw[p.c.y,D]
 have ap:ct∈C.q:=by rw[v];simp
 have hl:=p.c.lens;simp only[Yd] at hl;have hP:N.pk.length=W.pk.length:=by have:=congrArg (λt:E=>t.pk.length) p.s.eq;simpa[ZW] using this
 have aw:O.j.length=N.pk.length+at_.length:=by have:=p.co.lens.2;simp only[Yd] at this;omega
 have J:∀{ρ σ},Pre A B C ρ σ->_:=λ{ρ σ} q=>Zcg (q.li) p.s.symm hN n hO s M D v X X (au ρ σ) aw;refine⟨λ{ρ σ M2} q h i=>?_,λ{ρ σ ρ'} q R ht=>?_,λ{ρ σ} q=>Ag ((P _ _).trans (J q)) Vz Vz⟩;rw[P,J q] at h;cases h;have F:=q.ra N hN;have G:=q.ra O hO;have rc:=q.rc ct ap;simp only[n,s,j] at F G rc i|-;have ae:=λk=>p.mov G.row rc.row k;have i:¬((ρ x.u).filter λr=>(VN W N O ct at_ (ρ x.o) (σ x.u) r).2.2).length<(ρ x.o).length:=λb=>by rw[decide_eq_true b] at i;cases i
 refine⟨_,_,by simp only[Zn];rw[Wk],by simp only[Zn];rw[Wk],λR u=>?_⟩;have g:=R W M;rw[D,W0] at g;have H:=λr a=>p.rep (F.row r a).len (ae (Z3 N r));have ao:∀r∈ρ x.u,UB W at_ (VN W N O ct at_ (ρ x.o) (σ x.u) r).1=Z3 N r++Ak W O ct at_ N.pk.length (ρ x.o) (σ x.u) (Z3 N r):=λr a=>by obtain⟨-,m,l⟩:=H r a;unfold UB VN;simp only;rw[m,l]
 have aq:(ρ x.u).filterMap (λr=>ZR (Z3 O) (ρ x.o) (Z3 N r))=ρ x.o:=by
  refine Qo (ZJ.filterMap F.asc λr _ y S=>(Ut S).2) G.asc (λy S=>?_) ?_;obtain⟨r,-,b⟩:=YS.1 S;exact(Ut b).1;rw[Km];exact Nat.le_of_not_lt i
 have c:∀r∈ρ x.u,WB W at_ (λw=>!(ZR (Z3 O) (ρ x.o) (Z3 W w)).isSome) (VN W N O ct at_ (ρ x.o) (σ x.u) r).1=(r,ZR (Z3 O) (ρ x.o) (Z3 N r),(VN W N O ct at_ (ρ x.o) (σ x.u) r).2.1):=λr a=>by
  have⟨K,_,l⟩:=H r a;have Q:=ao r a;unfold WB;rw[Q];have ar:Z3 W (VN W N O ct at_ (ρ x.o) (σ x.u) r).1=Z3 N r:=l;simp only[ar];refine Prod.ext K (Prod.ext ?_ ?_);show(bif !(ZR (Z3 O) (ρ x.o) (Z3 N r)).isSome then none else some (Z3 N r++Ak W O ct at_ N.pk.length (ρ x.o) (σ x.u) (Z3 N r)))=ZR (Z3 O) (ρ x.o) (Z3 N r);unfold Ak;cases hlo:ZR (Z3 O) (ρ x.o) (Z3 N r) with
  |none=>rfl
  |some y=>?_
  have⟨m1,m2⟩:=Ut hlo;obtain⟨y1,-⟩:=p.yO (G.row y m1);show some (Z3 N r++y.drop N.pk.length)=some y;rw[hP,<-m2];exact congrArg some y1.symm;show(bif !(ZR (Z3 O) (ρ x.o) (Z3 N r)).isSome then some _ else none)=(bif (ZR (Z3 O) (ρ x.o) (Z3 N r)).isSome then none else some _);cases(ZR (Z3 O) (ρ x.o) (Z3 N r)).isSome<;>rfl
 have af:∀e∈(ρ x.u).filterMap (λr=>(VN W N O ct at_ (ρ x.o) (σ x.u) r).2.1),CR ct e:=λe i=>by
  have⟨r,a,b⟩:=YS.1 i;have L:=c r a;replace b:=(congrArg (λz=>z.2.2) L).trans b;rw[GW b];exact p.xH (g.row _ (Yi.2 ⟨r,a,rfl⟩))
 have ak:ZJ (Z3 ct) ((ρ x.u).filterMap λr=>(VN W N O ct at_ (ρ x.o) (σ x.u) r).2.1):=ZJ.filterMap F.asc λr a e b=>by
  have L:=c r a;replace b:=(congrArg (λz=>z.2.2) L).trans b;rw[GW b,p.kmC];exact(H r a).2.2
 refine⟨λU d=>?_,λU d o=>?_,λw=>!(ZR (Z3 O) (ρ x.o) (Z3 W w)).isSome,?_,?_,?_⟩;have u:=u U d;rw[v] at d;obtain rfl:=Yj.1 d;rw[j,W0] at u|-;exact⟨u,af,ak⟩;simp only[Y5,Xn,or_false,not_or] at o;rw[WW o.1,Vl hA d];rw[W0,YY]
 conv=>lhs;rw[<-Y3u (ρ x.u)]
 exact YN λr a=>(congrArg Prod.fst (c r a)).symm;rw[W0,Y33]
 conv=>lhs;rw[<-aq]
 exact BI λr a=>(congrArg (λz=>z.2.1) (c r a)).symm;rw[W0,W0,Y33];exact BI λr a=>(congrArg (λz=>z.2.2) (c r a)).symm;have⟨K,h,m,l,Z⟩:=ht;have g:=R W M;rw[D] at g;have c:∀w∈ρ' x.u,VN W N O ct at_ (ρ x.o) (σ x.u) (WB W at_ h w).1=(w,(WB W at_ h w).2.2,!h w):=λw a=>by
  have Y:=g.row w a;have Q:=p.xM Y;have T:=p.xE (h:=h) g.asc a;have lc:=p.wR (h:=h) g.asc a;rw[<-l] at T;rw[<-Z] at lc;have ah:Ak W O ct at_ N.pk.length (ρ x.o) (σ x.u) (Z3 W w)=at_.map (Zu w):=by
   unfold Ak Ce;rw[T,lc,hP];unfold WB;cases h w with
   |true=>exact XK Vs
   |false=>exact XK Vs
  show(Uc (Zo at_ 0 w) [] at_ (Ak W O ct at_ N.pk.length (ρ x.o) (σ x.u) (Z3 N (Zo at_ 0 w))) W.j.length,(bif (ZR (Z3 O) (ρ x.o) (Z3 N (Zo at_ 0 w))).isSome then none else some (Z3 N (Zo at_ 0 w)++Ak W O ct at_ N.pk.length (ρ x.o) (σ x.u) (Z3 N (Zo at_ 0 w)))),(ZR (Z3 O) (ρ x.o) (Z3 N (Zo at_ 0 w))).isSome)=_;rw[Q,ah,p.back Y,T];unfold WB UB;cases h w<;>rfl
 have e0:((ρ x.u).filter λr=>(VN W N O ct at_ (ρ x.o) (σ x.u) r).2.2).length=(ρ x.o).length:=by
  conv=>rhs;rw[l,Km]
  rw[m,Y3z,Yd]
  congr 1
  refine List.filter_congr λw a=>?_;show(VN W N O ct at_ (ρ x.o) (σ x.u) (WB W at_ h w).1).2.2=_;rw[c w a];unfold WB;cases h w<;>rfl
 refine⟨_,(P ρ σ).trans (J q),?_,?_,?_⟩;simp only[n,s,j];rw[e0,decide_eq_false (XL _)];rfl;simp only[n,s,j];show Zt x.u _ (mkI B (WK A ρ))=_;rw[Wk];refine U3 λU d=>?_;by_cases I:U.y=x.u;rw[I,W0,m,YY]
 conv=>rhs;rw[<-Y3u (ρ' x.u)]
 exact YN λw a=>congrArg Prod.fst (c w a);have a:U.y∉[x.u,x.o]:=by simp[I,al U d]
 have V:=(am U a).2 d;rw[WW I,Vl hA V,K U V a];simp only[n,s,j];show Zt x.u _ (mkI C λ_=>[])=_;rw[Wk];refine Dp v ?_;rw[j,W0]
 conv=>rhs;rw[Z]
 conv=>lhs;rw[m,Y33]
 exact BI λw a=>congrArg (λz=>z.2.1) (c w a)
end
end Go.Am
end
namespace Go.Am
section
def QR(T):ZW T []=T:=by
 unfold ZW;rw[Gi]
 have:T.pk.map (Ug [])=T.pk:=by
  conv=>rhs;rw[<-Y3u T.pk]
  exact YN λv _=>by simp[Ug]
 rw[this]
def Z7l{x S d C}(r:VS S)(o:VS d)(J:COK S d x C){i:Nat}{T}(k:x.g=6)(z:S.q[i]?=some T)(b:Z9 T.y x.u=true)(m:∀U∈S.q,Z9 U.y x.o=false)(s:SplitOK T x.j)
  (e:d.q=WG Ur S.q.length 1 (S.q.set i (ZW T x.j)++[⟨x.o,(T.pk++x.j).map (Zf T),ZZ T.pk.length⟩])):VV x S d C:=by
 have b:=ZD.1 b;have g:=Y2 z;have m:∀U∈S.q,U.y≠x.o:=λU a h=>by have:=m U a;rw[ZD.2 h] at this;cases this
 have j:x.u≠x.o:=by rw[<-b];exact m T g
 obtain⟨O,l⟩:∃O:E,O=⟨x.o,(T.pk++x.j).map (Zf T),ZZ T.pk.length⟩:=⟨_,rfl⟩;rw[<-l] at e;have c:∀U,U∈d.q↔U=O\/U=ZW T x.j\/(U∈S.q/\U.y≠T.y):=λU=>by rw[e,C9,Lo r.ord.1 z]
 have q:=(c _).2 (.inr (.inl rfl));have v:=(c _).2 (.inl rfl);have w:O.y=x.o:=by rw[l]
 have n:=b;have⟨G,ks,y,H⟩:=J.one X;have⟨u,F⟩:=H T _ ⟨g,q,b,n⟩;rw[F.2.2.2.2.2.2 k] at u;have p:SpS T (ZW T x.j) O G x.j:=⟨⟨r.tab T g,o.tab _ q,Je s.asc,s.rng,s.pk,.nil,I,I,QR _⟩,o.tab O v,by rw[l],by rw[l];simp[Function.comp_def],u⟩;have D:∀{f A B ρ σ} W,UZ (Zn x f A B C ρ σ) W=some x.j:=λ{f A B ρ σ} W=>by unfold UZ;simp[Zn,k]
 have t:∀U,U.y∉[x.u,x.o]->(U∈d.q↔U∈S.q):=λU a=>by
  simp only[Y5,Xn,or_false,not_or] at a;rw[c];refine⟨λh=>?_,λh=>.inr (.inr ⟨h,by rw[b];exact a.1⟩)⟩;rcases h with rfl|rfl|h;exact absurd w a.2;exact absurd n a.1;exact h.1
 exact⟨_,OZ r.ord.1 g b j y p (λU a h=>(t U h).1 a) (λρ σ=>by unfold ZN;simp[Zn,k,Zp]) λρ σ=>D T,
  Q4 o.ord.1 q n v w g b j y p t m (λρ σ=>by unfold ZN;simp[Zn,k,Zp]) λρ σ=>D T⟩
def Sa{S}(e:VS S){T}(f:T∈S.q){v:Int}(k:v∈T.pk):(Zf T v).f=false:=by
 have h:Is (A2 T) 0:=S8 e T f;unfold A2 at h;obtain⟨v9,-,h⟩:=h.bind;obtain⟨-,h⟩:=Vj h dE;obtain⟨-,h⟩:=Vj h dE;obtain⟨-,h⟩:=Vj h dE;obtain⟨-,_,h⟩:=GE (λi c _ next a=>by obtain⟨v,-,a⟩:=a.bind;obtain⟨-,a⟩:=Vj a dE;have⟨w,_,a⟩:=a.bind;have⟨_,a⟩:=Vj a dE;have⟨_,a⟩:=Vj a dE;have⟨_,a⟩:=Vj a dE;exact⟨trivial,(),a⟩) T.j 0 () h;obtain⟨d,-⟩:=GE (P:=λ_ c=>(Zf T c).f=false) (λi c _ next a=>by
  have⟨_,a⟩:=Vj a dE;have⟨_,a⟩:=Vj a dE;have⟨y,b,l,a⟩:=a.get;have⟨g3,a⟩:=Vj a dE;refine⟨by rwa [VA b l],(),?_⟩;cases hi:decide (0<i) with
  |false=>rw[hi] at a;exact a
  |true=>?_
  rw[hi] at a;obtain⟨-,a⟩:=Is.chk a;obtain⟨y,-,-,a⟩:=a.get;exact(Vj a dE).2) T.pk 0 () h
 obtain⟨j,g,rfl⟩:=Yo k;exact d j _ (Y1 g)
def Ph{α:Type}{b}:∀(a:List α) i,(∀j,i<=j->j<i+a.length->(j:Int)∉b)->Zo b i a=a
 |[],_,_=>rfl
 |x::a,i,h=>by
   show(if(i:Int)∈b then Zo b (i+1) a else x::Zo b (i+1) a)=_;rw[if_neg (h i (Y7 _) (by simp)),Ph a (i+1) λj h1 h2=>h j (by omega) (by simp;omega)]
def Q2{α:Type}{b}:∀(a:List α) i,(∀j,i<=j->j<i+a.length->(j:Int)∈b)->Zo b i a=[]
 |[],_,_=>rfl
 |x::a,i,h=>by
   show(if(i:Int)∈b then Zo b (i+1) a else x::Zo b (i+1) a)=_;rw[if_pos (h i (Y7 _) (by simp)),Q2 a (i+1) λj h1 h2=>h j (by omega) (by simp;omega)]
def Za2{x S r C}(l:VS S)(Z:VS r)(hC:COK S r x C){i j:Nat}{T O}(k:x.g=7)(M:S.q[i]?=some T)(d:Z9 T.y x.u=true)(hj:S.q[j]?=some O)(y:Z9 O.y x.o=true)(F:i≠j)(hp:O.pk=ZZ T.pk.length)
  (hk:∀(n:Nat) v,T.pk[n]?=some v->(Zf T v).g=(Zf O n).g)(e:r.q=(S.q.set i {T with j:=T.j++O.j.drop T.pk.length}).take j++(S.q.set i {T with j:=T.j++O.j.drop T.pk.length}).drop (j+1)):VV x S r C:=by
 have d:=ZD.1 d;have y:=ZD.1 y;have K:=Y2 M;have Q:=Y2 hj;have N:=l.tab T K;have vO:=l.tab O Q;have aq:=Jh l.ord.1 M hj F;have G:x.u≠x.o:=by rw[<-d,<-y];exact aq
 obtain⟨W,z⟩:∃W:E,W={T with j:=T.j++O.j.drop T.pk.length}:=⟨_,rfl⟩;rw[<-z] at e;have t:W.y=T.y:=by rw[z]
 have J:W.pk=T.pk:=by rw[z]
 have D:W.j=T.j++O.j.drop T.pk.length:=by rw[z]
 have q:∀U,U∈r.q↔(U=W\/U∈S.q/\U.y≠T.y)/\U.y≠O.y:=λU=>by rw[e,Lp (P0 l.ord.1 M t) (by rwa [Ys F]),Lo l.ord.1 M]
 have L:=(q W).2 ⟨.inl rfl,by rwa [t]⟩;have R:=Z.tab W L;have hP:T.pk.length<=O.j.length:=by
  cases d:T.pk.length with
  |zero=>omega
  |succ n=>?_
  have:=vO.pk n (by rw[hp,d,P5];simp)
  omega
 obtain⟨n,ap⟩:∃n,n=O.j.length-T.pk.length:=⟨_,rfl⟩;have P:(O.j.drop T.pk.length).length=n:=by rw[Xm,ap]
 have ax:W.j.length=T.j.length+n:=by rw[D,Ye,P]
 obtain⟨a,w⟩:∃a:List Int,a=(List.range n).map λi=>((T.j.length+i:Nat):Int):=⟨_,rfl⟩;have H:∀v∈a,(T.j.length:Int)<=v/\v<(W.j.length:Int):=λv c=>by
  rw[w] at c;obtain⟨m,hm,rfl⟩:=Yi.1 c
  have:=XV.1 hm
  omega
 have aj:∀m:Nat,T.j.length<=m->m<W.j.length->(m:Int)∈a:=λm g b=>by rw[w];exact Yi.2 ⟨m-T.j.length,XV.2 X,by congr 1;omega⟩
 have er:ZW W a=T:=by
  have ec:Zo a 0 W.j=T.j:=by
   rw[D,Ko,Ph T.j 0 λm _ b h3=>by have:=(H _ h3).1;omega,Q2 _ _ λm g b=>aj m X (by rw[P] at b;omega),Ym]
  have ep:W.pk.map (Ug a)=T.pk:=by
   rw[J]
   conv=>rhs;rw[<-Y3u T.pk]
   refine YN λv c=>?_;have g:=N.pk v c;obtain⟨m,rfl⟩:∃m:Nat,v=m:=⟨v.toNat,X⟩;rw[IS,show V1 a m=(AO a m).length from rfl,EP λu hu=>by have:=(H u hu).1;omega];simp
  unfold ZW;rw[ec,ep,z]
 have s:CvS W T a []:=⟨R,N,by rw[w];exact Z78 _ _,λv c=>by have:=H v c;omega,λv c h=>by rw[J] at h;have:=N.pk v h;have:=H v c;omega,.nil,I,I,by rw[QR,er]⟩;have cW:∀v:Int,0<=v->v<(T.j.length:Int)->Zf W v=Zf T v:=λv g b=>by unfold Zf;rw[D,Yu X]
 have al:a.map (λv=>kn (Zf W v))=(O.j.drop T.pk.length).map kn:=by
  rw[w,YY];refine List.ext_getElem (by rw[Yd,List.length_range,Yd,P]) λm g b=>?_;rw[Y3h,Y3h,List.getElem_range];simp only[Yd] at b;show kn (Zf W ((T.j.length+m:Nat):Int))=_;rw[VA X (by rw[Yn,D,YC X,show T.j.length+m-T.j.length=m by omega,Y1 b])]
 have oc:O.j.map kn=W.pk.map (λp=>kn (Zf W p))++a.map λv=>kn (Zf W v):=by
  rw[al,J]
  conv=>lhs;rw[<-Yy T.pk.length O.j,YL]
  congr 1
  refine List.ext_getElem sO λm g b=>?_;simp only[Yd] at g b;rw[Y3h,Y3h,XX];have c:=N.pk T.pk[m] (Yh b);have ao:=hk m T.pk[m] (Y1 b);have ar:(m:Int)∈O.pk:=by rw[hp];exact Yi.2 ⟨m,XV.2 b,rfl⟩
  have n1:=Sa l K (Yh b);have n2:=Sa l Q ar;have ce:Zf O (m:Int)=O.j[m]:=VA X (by rw[Yn];exact Y1 X);rw[cW _ c.1 c.2];unfold kn;rw[<-ce,ao,n1,n2]
 have⟨ct,ks,g,b⟩:=hC.one X;have⟨au,am⟩:=b T W ⟨K,L,d,t.trans d⟩;rw[am.2.2.2.2.2.1 k,show W.j.drop T.j.length=O.j.drop T.pk.length by rw[D,XK rfl],<-al] at au;have Y:CT W (a.map λv=>kn (Zf W v)) ct:=by
  rwa [<-CT.rm R s.a1 (λv c=>(s.a2 v c).1) s.a3,er]
 have p:SpS W T O ct a:=⟨s,vO,by rwa [J],oc,Y⟩;have hl:=Y.lens;have aw:a.length=n:=by rw[w];simp
 rw[Yd,aw] at hl;have w6:=R.cols6;have mv:∀{f A B ρ σ},UZ (Zn x f A B C ρ σ) W=some a:=λ{f A B ρ σ}=>by rw[Z88 (n:=n) g (by show x.g≠6;omega) X X X,w,show W.j.length-n=T.j.length by omega]
 have V:∀U,U.y∉[x.u,x.o]->(U∈S.q↔U∈r.q):=λU o=>by
  simp only[Y5,Xn,or_false,not_or] at o;rw[q];refine⟨λh=>⟨.inr ⟨h,by rw[d];exact o.1⟩,by rw[y];exact o.2⟩,λh=>?_⟩;rcases h.1 with rfl|h9;exact absurd (t.trans d) o.1;exact h9.1
 exact⟨_,Q4 l.ord.1 K d Q y L (t.trans d) G g p V (λU o=>by rw[<-y];exact((q U).1 o).2) (λρ σ=>by unfold ZN;simp[Zn,k,Zp]) λρ σ=>mv,
  OZ Z.ord.1 L (t.trans d) G g p (λU o h=>(V U h).1 o) (λρ σ=>by unfold ZN;simp[Zn,k,Zp]) λρ σ=>mv⟩
end
end Go.Am
section
namespace Go.Am
def Ze9{ρ':Type}{Q}(F:Z8->aB Z8×aB Z8×aB Z8){a}{step:Nat->Z8->R3->(R3->aB ρ')->aB ρ'}{c}
  (k:∀i b (s:R3) next,b∈a->Wp (next (s.1++(F b).1.toList,s.2.1++(F b).2.1.toList,s.2.2++(F b).2.2.toList)) Q->Wp (step i b s next) Q)
  (f:Wp (c (a.filterMap λr=>(F r).1,a.filterMap λr=>(F r).2.1,a.filterMap λr=>(F r).2.2)) Q):Wp (Zd step c a 0 ([],[],[])) Q:=by
 refine X6 (λi s=>s=((a.take i).filterMap λr=>(F r).1,(a.take i).filterMap λr=>(F r).2.1,(a.take i).filterMap λr=>(F r).2.2)) I ?_ λs d=>by rw[d,Yl];exact f
 intro i b s next l h d j
 have⟨g,e⟩:=Y0.1 l;refine k i b s next h (j _ ?_)
 rw[d,Yg g,e];simp only[Y32,XH,List.filterMap_nil];cases(F b).1<;>cases(F b).2.1<;>cases(F b).2.2<;>rfl
def Ve(x:Stp)(T:E)(a:Z8):Bool:=(Bn (Zn x true ⟨[],[],[]⟩ ⟨[],[],[]⟩ ⟨[],[],[]⟩ (λ_=>[]) λ_=>[]) T a).getD false
variable{M:Mp}{ρ σ:RN}
def R5{T:E}{c:Int}{d:Bool}(i:W7 T M.step.d=some (c,d))(f:0<=c){a:Z8}(h:c<a.length):Bn M T a=some (Ve M.step T a):=by
 obtain⟨b,g,-⟩:=Z5s i f h;have e:Bn (Zn M.step true ⟨[],[],[]⟩ ⟨[],[],[]⟩ ⟨[],[],[]⟩ (λ_=>[]) λ_=>[]) T a=Bn M T a:=rfl;unfold Ve;rw[e,g];rfl
def Uq(x:Stp)(T b:E)(a:List Z8)(r:Z8):Bool:=match ZR (Z3 b) a (Z3 T r) with
 |some e=>bif Wx ((e[T.pk.length]?).getD Wo) (bo (Ve x T r)) then !Ve x T r else Ve x T r
 |none=>Ve x T r
def VL(x:Stp)(T:E)(h:Z8->Bool)(r:Z8):aB Z8×aB Z8×aB Z8:=
 ((bif h r then none else some r),(bif h r then some r else none),(bif h r !=Ve x T r then some (Z3 T r++[bo (h r)]) else none))
def Zcb(L:LI M ρ σ){T d:E}{c:Int}{t:Bool}(m:T∈M.src.q)(C:T.y=M.step.u)(z:W7 T M.step.d=some (c,t))(w:0<=c)(h1:c<T.j.length)(l:M.cs.q=[d])(n:d.pk.length=T.pk.length)(hp:d.j.length=d.pk.length+1):
  EA M=some {M with out:=Zt M.step.o ((ρ T.y).filterMap λr=>(VL M.step T (Uq M.step T d (σ d.y)) r).2.1) (Zt M.step.u ((ρ T.y).filterMap λr=>(VL M.step T (Uq M.step T d (σ d.y)) r).1) M.out),nc:=Zt M.step.u ((ρ T.y).filterMap λr=>(VL M.step T (Uq M.step T d (σ d.y)) r).2.2) M.nc}:=by
 obtain⟨ad,af,_,-,G⟩:=L.row m;have p:d∈M.cs.q:=by rw[l];simp
 refine Ww ?_;unfold EA;refine X0 (AE L m C) λq _ F=>?_;subst F;refine X4 (by simp only;omega) (Ze9 (VL M.step T (Uq M.step T d (σ d.y))) ?_ (X2 rfl));intro i a s next B f
 have hlen:=G a B;unfold KP;refine X0 (Ua T a X) λk _ A=>X0 (Wb (R5 z w X)) λo _ D=>X0 (Wb (L.jU l X k)) λst _ g=>?_;subst A D g;refine X0 (R:=λb=>b=(Uq M.step T d (σ d.y) a !=Ve M.step T a)) ?_ λb _ y=>?_;unfold Ch Uq;cases hlo:ZR (Z3 d) (σ d.y) (Z3 T a) with
 |none=>exact X9 rfl<|X2 I
 |some e=>?_
 have ae:=((L.rc d p).row e (Ut hlo).1).len;refine X1 (λ_=>X5 (x:=(e[T.pk.length]?).getD Wo) ?_ (X0 (Wb (Ip _)) λv _ j=>X2 ?_)) λh=>by cases h
 simp only;rw[YO,Xl,n,Y1 X];rfl;subst j;show Wx ((e[T.pk.length]?).getD Wo) (bo (Ve M.step T a))=((bif Wx ((e[T.pk.length]?).getD Wo) (bo (Ve M.step T a)) then !Ve M.step T a else Ve M.step T a) !=Ve M.step T a);generalize Wx ((e[T.pk.length]?).getD Wo) (bo (Ve M.step T a))=u;generalize Ve M.step T a=o;cases u<;>cases o<;>rfl;subst y;have hF:VL M.step T (Uq M.step T d (σ d.y)) a=((bif Uq M.step T d (σ d.y) a then none else some a),(bif Uq M.step T d (σ d.y) a then some a else none),(bif Uq M.step T d (σ d.y) a !=Ve M.step T a then some (Z3 T a++[bo (Uq M.step T d (σ d.y) a)]) else none)):=rfl;rw[hF] at f;generalize Uq M.step T d (σ d.y) a=b at f|-;generalize Ve M.step T a=o at f|-;refine X1 (λh=>?_) λh=>?_
 .refine X0 (Wb (Ip _)) λv _ j=>X4 (by rw[Vs];omega) ?_;subst j;cases b<;>cases o<;>first|(cases h;done)|(simp[Js] at f|-;exact f)
 cases b<;>cases o<;>first|(cases h;done)|(simp[Js] at f|-;exact f)
end Go.Am
end
section
namespace Go.Am
def Uo(x:Stp)(T:E)(o:Bool)(r:Z8):aB Z8:=bif Ve x T r !=o then some (Z3 T r++[bo o]) else none
variable{M:Mp}{ρ σ:RN}
def QS{T g:E}{c:Int}{m:Bool}(t:M.cs.q=[g])(j:g.pk.length<=6)(ac:T.pk.length<=6)(u:W7 T M.step.d=some (c,m))(q:0<=c){f:Z8}(s:c<f.length)(d:List Z8)(hl:d.length<=900)(i:Wv g d)(o:Bool)
  (w:∀v,Z3 g (Z3 T f++[v])=Z3 T f)(y:∀e∈d,Z3 g e≠Z3 T f):Wp (EW M T d f o) λr=>Wv g r/\r.length<=d.length+1/\∀e,e∈r↔e∈d\/Uo M.step T o f=some e:=by
 unfold EW;refine Xb (R5 u q s) ?_;refine X1 (λh=>X5 (show M.cs.q[0]?=some g by rw[t];rfl) (X0 (Ua T f X) λk _ l=>X0 (Wb (Ip o)) λv _ B=>?_)) λh=>X2 ⟨i,X,λe=>?_⟩;subst l B;refine X4 (by rw[Vs];omega) (X0 (Ir g d (Z3 T f++[bo o]) j X i) λr _ A=>X2 ?_);obtain⟨n,p,a,b,os,x,rfl⟩:=A;refine⟨n,p,λe=>?_⟩;rw[IZ x _ (λz C=>by rw[w];exact y z C)];unfold Uo;rw[h];simp[eq_comm];unfold Uo;rw[h];simp
def MU(T:E)(a b:List Z8):Prop:=∀z∈b,∀r∈a,Z3 T r≠Z3 T z
def Z8e(L:LI M ρ σ){T O D}{c:Int}{bb:Bool}(hT:T∈M.src.q)(hn:T.y=M.step.u)(hO:O∈M.src.q)(ho:O.y=M.step.o)(au:O.j.length=T.j.length)(ah:∀r,Z3 O r=Z3 T r)(hc:W7 T M.step.d=some (c,bb))(h0:0<=c)(h1:c<T.j.length)(W:M.cs.q=[D])(Z:∀r v,Z3 D (Z3 T r++[v])=Z3 T r):
  Wp (EY M) λM2=>M2={M with err:=13}/\¬MU T (ρ T.y) (ρ O.y)\/MU T (ρ T.y) (ρ O.y)/\∃A g,M2={M with out:=Zt M.step.u A M.out,nc:=Zt M.step.u g M.nc}/\ZJ (Z3 T) A/\(∀z,z∈A↔z∈ρ T.y\/z∈ρ O.y)/\ZJ (Z3 D) g/\
   ∀e,e∈g↔(∃r∈ρ T.y,Uo M.step T false r=some e)\/∃r∈ρ O.y,Uo M.step T true r=some e:=by
 have⟨ar,K,_,C,hr⟩:=L.row hT;have⟨ap,_,_,S,ao⟩:=L.row hO;have af:=(L.ck D (by rw[W];simp)).1;have rk:∀{o r e},Uo M.step T o r=some e->Z3 D e=Z3 T r:=λ{o r e} h=>by unfold Uo at h;cases N:(Ve M.step T r !=o)<;>rw[N] at h<;>cases h;exact Z _ _
 have S:ZJ (Z3 T) (ρ O.y):=(show ZJ (Z3 O) (ρ O.y) from S).imp λh=>by rw[<-ah,<-ah];exact h
 have t:∀{u:List Z8} {i:Nat} {d:Z8},ZJ (Z3 T) u->u[i]?=some d->∀r∈u.take i,Z3 T r≠Z3 T d:=λ{u i d} ha B r E h=>by
  obtain⟨m,n,rfl⟩:=Yo E;obtain⟨l,rfl⟩:=Y0.1 B;rw[XX] at h;simp only[YA] at n
  have:=YK.1 ha m i X l X
  rw[h] at this;exact Uu this
 unfold EY;refine X0 (AE L hT hn) λq _ hq=>X0 (AE L hO ho) λp _ hp=>?_;subst hq hp;refine X4 (by simp only;omega) (X6 (λi s=>s.length<=i/\Wv D s/\∀e,e∈s↔∃r∈(ρ T.y).take i,Uo M.step T false r=some e) ⟨Y7 _,.nil,λe=>I⟩ ?_ ?_)
 .intro i d s next B E F V
  have l:=(Y0.1 B);have J:=hr d E;have⟨s1,s2,s3⟩:=F;simp only at l B;refine X0 (QS W af K hc h0 X s (by have:=l.1;omega) s2 false (Z d) λe Y h9=>?_) λr _ H=>V _ ⟨X,H.1,λe=>?_⟩;have⟨r,n,x⟩:=(s3 e).1 Y;exact t C B r n (by rwa [<-rk x]);rw[H.2.2,s3,Yg l.1,l.2];simp[or_and_right,exists_or]
 intro s F;rw[Yl] at F;simp only at F;refine X6 (λi (w:List aE×List aE)=>w.1.length<=24+i/\Wv T w.1/\w.2.length<=24+i/\Wv D w.2/\MU T (ρ T.y) ((ρ O.y).take i)/\(∀z,z∈w.1↔z∈ρ T.y\/z∈(ρ O.y).take i)/\∀e,e∈w.2↔(∃r∈ρ T.y,Uo M.step T false r=some e)\/∃r∈(ρ O.y).take i,Uo M.step T true r=some e)
  ⟨by simp only;omega,C,by simp only;omega,F.2.1,λz G=>by simp at G,λz=>I,λe=>by rw[F.2.2];simp⟩ ?_ ?_
 .intro i d w next B E P V
  have l:=(Y0.1 B);have J:=ao d E;have⟨w1,w2,w3,w4,w5,Q,R⟩:=P;simp only at l B;have N:=t S B;have aq:=l.1;unfold Lr;refine X0 (Ua T d X) λk _ am=>X0 (Gq T _ k K C) λf _ hf=>?_;subst am;have⟨j,_,f1,f2⟩:=hf;refine X1 (λh=>X2 (.inl ⟨rfl,λhd=>?_⟩)) λh=>?_;obtain⟨y,-,hy⟩:=f1 h;have⟨y1,y2⟩:=Ut hy;exact hd d E y y1 y2;have U:=Cs.1 (f2 h);refine X0 (QS W af K hc h0 X w.2 X w4 true (Z d) λe Y h9=>?_) λg _ ak=>X0 (Ir T w.1 d K X w2) λA _ ag=>?_;rcases(R e).1 Y with⟨r,n,x⟩|⟨r,n,x⟩;exact U r n (by rwa [<-rk x]);exact N r n (by rwa [<-rk x]);obtain⟨g1,g2,a,b,os,al,rfl⟩:=ag;have aj:=IZ al d λz G=>by rcases(Q z).1 G with x|x;exact U z x;exact N z x
  refine V _ ⟨by simp only;omega,g1,by simp only;omega,ak.1,λz G r H=>?_,λz=>?_,λe=>?_⟩;rw[Yg l.1,l.2] at G;rcases Y3.1 G with x|x;exact w5 z x r H;rw[Yj.1 x];exact U r H;show z∈a++d::b↔_;rw[aj,Q,Yg l.1,l.2];simp[or_assoc];show e∈g↔_;rw[ak.2.2,R,Yg l.1,l.2];simp[or_and_right,exists_or,or_assoc]
 intro w P;rw[Yl] at P;have⟨_,w2,_,w4,w5,Q,R⟩:=P;exact X2 (.inr ⟨w5,_,_,rfl,w2,Q,w4,R⟩)
end Go.Am
end
namespace Go.Am
section
def Zf1(b):W8 (bo b) (2,false):=by cases b<;>exact⟨by decide+kernel,dE,dE⟩
def Mf{κ}:∀{w:List Z8},ZJ κ w->∀{a b:Z8},a∈w->b∈w->κ a=κ b->a=b
 |[],_,_,_,h,_,_=>by cases h
 |x::w,f,a,b,e,c,h=>by
   have d:=YT.1 f;rcases Y5.1 e with rfl|ha2;rcases Y5.1 c with rfl|c;rfl
   have:=d.1 b c;rw[h] at this;exact absurd this Uu
   rcases Y5.1 c with rfl|c
   have:=d.1 a ha2;rw[h] at this;exact absurd this Uu
   exact Mf d.2 ha2 c h
def Zfg(x:Stp)(T:E)(w a b c:List Z8):Prop:=∃h:Z8->Bool,a=w.filterMap (λr=>(VL x T h r).1)/\b=w.filterMap (λr=>(VL x T h r).2.1)/\c=w.filterMap λr=>(VL x T h r).2.2
def Hc{x T h r e}:(VL x T h r).1=some e↔h r=false/\r=e:=by unfold VL;cases h r<;>simp
def Hb{x T h r e}:(VL x T h r).2.1=some e↔h r=true/\r=e:=by unfold VL;cases h r<;>simp
def Be{x T h r e}:(VL x T h r).2.2=some e↔Uo x T (h r) r=some e:=by unfold VL Uo;cases h r<;>cases Ve x T r<;>simp
def Za1{x S l C}(hS:VS S)(ak:VS l)(hC:COK S l x C){i:Nat}{T}{c:Int}{col}(k:x.g=8)(hi:S.q[i]?=some T)(j:Z9 T.y x.u=true)(hc:W7 T x.d=some (c,true))(ao:T.j[c.toNat]?=some col)(ho:∀U∈S.q,Z9 U.y x.o=false)
  (e:l.q=WG Ur S.q.length 1 (S.q++[{T with y:=x.o}])):VV x S l C:=by
 have j:=ZD.1 j;have B:=Y2 hi;have ho:∀U∈S.q,U.y≠x.o:=λU d h=>by have:=ho U d;rw[ZD.2 h] at this;cases this
 have hne:x.u≠x.o:=by rw[<-j];exact ho T B
 obtain⟨O,Q⟩:∃O:E,O={T with y:=x.o}:=⟨_,rfl⟩;rw[<-Q] at e;have p:∀U,U∈l.q↔U=O\/U∈S.q:=λU=>by rw[e,C9]
 have aj:=(p _).2 (.inr B);have am:=(p _).2 (.inl rfl);have N:O.y=x.o:=by rw[Q]
 have ah:∀r,Z3 O r=Z3 T r:=λr=>by rw[Q];rfl
 have aq:∀{r},CR O r->CR T r:=λ{r} h=>by rw[Q] at h;exact⟨h.len,h.cell⟩
 obtain⟨h0,-⟩:=Qh hc;have hlt:=(Y0.1 ao).1;have⟨s,ks,J,h2⟩:=hC.one X;have⟨M,ar⟩:=h2 T T ⟨B,aj,j,j⟩;rw[ar.2.2.2.2.1 k] at M;have hl:=M.lens;simp only[YM,Y3a] at hl;have P:s.y=x.u:=by rw[M.y,j]
 have hk:∀(r:Z8) v,Z3 s (Z3 T r++[v])=Z3 T r:=λr v=>M.key Vs;have rk:∀{o r e},Uo x T o r=some e->Z3 s e=Z3 T r:=λ{o r e} h=>by unfold Uo at h;cases D:(Ve x T r !=o)<;>rw[D] at h<;>cases h;exact hk _ _
 have rc:∀{o r e},CR T r->Uo x T o r=some e->CR s e:=λ{o r e} hr h=>by unfold Uo at h;cases D:(Ve x T r !=o)<;>rw[D] at h<;>cases h;exact M.row (hS.tab T B) hr ⟨Zf1 o,trivial⟩
 have dp:∀{ρ σ},ZN (Zn x true S l C ρ σ)=EA (Zn x true S l C ρ σ):=λ{ρ σ}=>by unfold ZN;simp[Zn,k,Zp]
 have du:∀{ρ σ},ZN (Zn x false l S C ρ σ)=EY (Zn x false l S C ρ σ):=λ{ρ σ}=>by unfold ZN;simp[Zn,k,Zp]
 have ab:∀U∈l.q,U.y∉[x.u,x.o]->U∈S.q:=λU d h=>by rcases(p U).1 d with rfl|b;exact absurd N (by simp at h;exact h.2);exact b
 have pe:∀{ρ σ},Pre S l C ρ σ->_:=λ{ρ σ} q=>Zcb (q.li (fwd:=true)) B j hc h0 X J hl.1 X;have ue:∀{ρ σ},Pre l S C ρ σ->_:=λ{ρ σ} q=>Z8e (q.li (fwd:=false)) aj j am N (by rw[Q]) ah hc h0 X J hk;refine⟨λρ σ ρ'=>DO l [x.u,x.o] ρ ρ'/\Zfg x T (ρ x.u) (ρ' x.u) (ρ' x.o) (σ x.u),⟨λ{ρ σ M2} q h f=>?_,λ{ρ σ ρ'} q _ ht=>?_,λ{ρ σ} q=>Ag (dp.trans (pe q)) (Vz.trans Vz) Vz⟩,⟨λ{ρ σ M2} q h f=>?_,λ{ρ σ ρ'} q hr ht=>?_,λ{ρ σ} q=>by have⟨M3,A,G⟩:=ue q;rcases G with⟨rfl,-⟩|⟨-,I,m,rfl,-⟩;exact Ag (du.trans A) rfl rfl;exact Ag (du.trans A) Vz Vz⟩⟩
 rw[dp,pe q] at h;cases h;have L:=q.ra T B;rw[j] at L;refine⟨_,_,by simp only[Zn];rw[Wk,Wk],by simp only[Zn];rw[Wk],λhr u=>⟨λU d=>?_,λU d w=>?_,Uq x T s (σ s.y),?_,?_,?_⟩⟩;have u:=u U d;rw[J] at d;obtain rfl:=Yj.1 d;rw[P,W0,j] at u|-;refine⟨u,λe f=>?_,ZJ.filterMap L.asc λr _ e f=>rk (Be.1 f)⟩;have⟨r,a,f⟩:=YS.1 f;exact rc (L.row r a) (Be.1 f);have ap:=w;simp only[Y5,Xn,or_false,not_or] at w;rw[WW w.2,WW w.1,Vl hS.ord.1 (ab U d ap)];rw[WW hne,W0,j];rw[W0,j];rw[W0,j];have⟨A,h,G,h5,h6⟩:=ht;have L:=q.ra T B;rw[j] at L;have hh:∀r∈ρ x.u,VL x T (Uq x T s (σ x.u)) r=VL x T h r:=λr a=>by
  have lk:ZR (Z3 s) (σ x.u) (Z3 T r)=(VL x T h r).2.2:=by
   rw[h6];exact I4 (κ':=Z3 s) L.asc (λr _ e f=>rk (Be.1 f)) a
  have hp:Uq x T s (σ x.u) r=h r:=by
   unfold Uq;rw[lk];unfold VL;have n1:=IN.2 DJ.symm;have n2:=IN.2 DJ;have g:∀v,((Z3 T r++[v])[T.pk.length]?).getD Wo=v:=λv=>by rw[YC (by rw[Vs];omega),Vs,Y3f];rfl
   cases h r<;>cases Ve x T r;rfl;show(bif Wx (((Z3 T r++[bo false])[T.pk.length]?).getD Wo) (bo true) then false else true)=false;rw[g,n2];rfl;show(bif Wx (((Z3 T r++[bo true])[T.pk.length]?).getD Wo) (bo false) then true else false)=true;rw[g,n1];rfl;rfl
  unfold VL;rw[hp]
 refine⟨_,dp.trans (pe q),rfl,?_,?_⟩;show Zt x.o _ (Zt x.u _ (mkI l (WK S ρ)))=_;rw[Wk,Wk];refine U3 λU d=>?_;rw[j,P];by_cases e2:U.y=x.o;rw[e2,W0,h5];exact BI λr a=>congrArg (λz=>z.2.1) (hh r a);rw[WW e2];by_cases F:U.y=x.u;rw[F,W0,G];exact BI λr a=>congrArg (λz=>z.1) (hh r a);have a:U.y∉[x.u,x.o]:=by simp[F,e2]
 rw[WW F,Vl hS.ord.1 (ab U d a),A U d a];show Zt x.u _ (mkI C λ_=>[])=_;rw[Wk];refine Dp J ?_;rw[P,W0,j]
 conv=>rhs;rw[h6]
 exact BI λr a=>congrArg (λz=>z.2.2) (hh r a);rw[du] at h;have⟨M3,A,G⟩:=ue q;rw[A] at h;cases h;rcases G with⟨rfl,-⟩|⟨R,I,m,rfl,V,t,k3,W⟩;cases f;have rt:=q.ra T aj;have ro:=q.ra O am;rw[j] at rt R t;rw[N] at ro R t;simp only[j,N] at W;have al:ZJ (Z3 T) (ρ x.o):=ro.asc.imp λh=>by rw[<-ah,<-ah];exact h
 have w:=λr a b=>R r b r a rfl;refine⟨_,_,by simp only[Zn];rw[Wk],by simp only[Zn];rw[Wk],λ_ u=>⟨λU d=>?_,λU d a=>?_,λz=>@decide (z∈ρ x.o) (Classical.propDecidable _),?_,?_,?_⟩⟩;have u:=u U d;rw[J] at d;obtain rfl:=Yj.1 d;rw[P,W0] at u|-;refine⟨u,λe f=>?_,k3⟩;rcases(W e).1 f with⟨r,a,b⟩|⟨r,a,b⟩;exact rc (rt.row r a) b;exact rc (aq (ro.row r a)) b;simp only[Y5,Xn,or_false,not_or] at a;rw[WW a.1,Vl ak.ord.1 d];rw[W0];refine rt.asc.ext (ZJ.filterMap V λr _ e f=>by rw[(Hc.1 f).2]) λz=>?_;rw[YS];constructor;intro H;exact⟨z,(t z).2 (.inl H),Hc.2 ⟨sU (w z H),rfl⟩⟩;rintro⟨r,a,b⟩;obtain⟨n,rfl⟩:=Hc.1 b;exact((t r).1 a).resolve_right (sU n);rw[W0];refine al.ext (ZJ.filterMap V λr _ e f=>by rw[(Hb.1 f).2]) λz=>?_;rw[YS];constructor;intro H;exact⟨z,(t z).2 (.inr H),Hb.2 ⟨sU H,rfl⟩⟩;rintro⟨r,_,b⟩;obtain⟨n,rfl⟩:=Hb.1 b;simpa using n;rw[W0,W0];refine ZJ.ext k3 (ZJ.filterMap V λr _ e f=>rk (Be.1 f)) λz=>?_;rw[YS,W];constructor;rintro(⟨r,a,b⟩|⟨r,a,b⟩);exact⟨r,(t r).2 (.inl a),Be.2 (by rw[show(@decide (r∈ρ x.o) (Classical.propDecidable _))=false by simpa using w r a];exact b)⟩;exact⟨r,(t r).2 (.inr a),Be.2 (by rw[show(@decide (r∈ρ x.o) (Classical.propDecidable _))=true by simpa using a];exact b)⟩;rintro⟨r,a,b⟩;have b:=Be.1 b;rcases(t r).1 a with n|n;rw[show(@decide (r∈ρ x.o) (Classical.propDecidable _))=false by simpa using w r n] at b;exact .inl ⟨r,n,b⟩;rw[show(@decide (r∈ρ x.o) (Classical.propDecidable _))=true by simpa using n] at b;exact .inr ⟨r,n,b⟩;have⟨A,h,G,h5,h6⟩:=ht;have Z:=hr T B;rw[j] at Z;have ma:∀z,z∈ρ x.u↔z∈ρ' x.u/\h z=false:=λz=>by
  rw[G,YS];exact⟨λ⟨r,a,b⟩=>by obtain⟨n,rfl⟩:=Hc.1 b;exact⟨a,n⟩,λ⟨a,b⟩=>⟨z,a,Hc.2 ⟨b,rfl⟩⟩⟩
 have mb:∀z,z∈ρ x.o↔z∈ρ' x.u/\h z=true:=λz=>by
  rw[h5,YS];exact⟨λ⟨r,a,b⟩=>by obtain⟨n,rfl⟩:=Hb.1 b;exact⟨a,n⟩,λ⟨a,b⟩=>⟨z,a,Hb.2 ⟨b,rfl⟩⟩⟩
 have⟨M3,g3,g4⟩:=ue q;rw[j,N] at g4;rcases g4 with⟨-,R⟩|⟨_,I,m,rfl,V,t,k3,W⟩;refine absurd (λz H r a b=>?_) R;have⟨z1,z2⟩:=(mb z).1 H;have⟨Y,K⟩:=(ma r).1 a;rw[Mf Z.asc Y z1 b,z2] at K;cases K;have eo:=V.ext Z.asc λz=>by rw[t,ma,mb];cases h z<;>simp
 have ec:m=σ x.u:=by
  rw[h6];refine ZJ.ext k3 (ZJ.filterMap Z.asc λr _ e f=>rk (Be.1 f)) λz=>?_;rw[YS,W];constructor;rintro(⟨r,a,b⟩|⟨r,a,b⟩);have⟨Y,K⟩:=(ma r).1 a;exact⟨r,Y,Be.2 (by rwa [K])⟩;have⟨Y,K⟩:=(mb r).1 a;exact⟨r,Y,Be.2 (by rwa [K])⟩;rintro⟨r,a,b⟩;have b:=Be.1 b;cases D:h r with
  |false=>rw[D] at b;exact .inl ⟨r,(ma r).2 ⟨a,D⟩,b⟩
  |true=>rw[D] at b;exact .inr ⟨r,(mb r).2 ⟨a,D⟩,b⟩
 refine⟨_,du.trans g3,rfl,?_,?_⟩;show Zt x.u I (mkI S (WK l ρ))=_;rw[Wk,eo];refine U3 λU d=>?_;by_cases F:U.y=x.u;rw[F,W0];rw[WW F,Vl ak.ord.1 ((p U).2 (.inr d)),A U ((p U).2 (.inr d)) (by simp[F,ho U d])];show Zt x.u m (mkI C λ_=>[])=_;rw[Wk];refine Dp J ?_;rw[P,W0,ec]
def Z5m{x S d C}(c:VS S)(a:VS d)(b:COK S d x C)(h:EvT S d.q x)(f:x.g<=12):VV x S d C:=by
 cases h with
 |add k hi hn hd e=>exact Zcf c a b k hi hn hd e
 |drop k hi hn hc hcol hp hd e=>exact Za3 c a b k hi hn hc hcol hp hd e
 |rencol k hi hn hcol e=>exact Z5n c a b k hi e
 |ren k hi hn ho e=>exact Zce c a b k hi hn ho e
 |type k hi hn hc hcol hp e=>exact Z9y c a b k hi hn hc hcol hp e
 |split k hi hn ho hs e=>exact Z7l c a b k hi hn ho hs e
 |join k hi hn hj ho hij hp f e=>exact Za2 c a b k hi hn hj ho hij hp f e
 |part k hi hn hc hcol hq hv f ho e=>exact Za1 c a b k hi hn hc hcol ho e
 |merge k hi hn hj ho hij hc hp e=>exact Z7m c a b k hi hn hj ho hij hc hp e
 |create k ho e=>exact Z5o c a b k ho e
 |droptab k ho e=>exact Z3h c a b k e
 |concat k hi hn hx ha hab hb hka hkb hp e=>exact Z5p c a b k hi hn hx ha hab hb hka hkb hp e
 |rule k e=>omega
end
end Go.Am
section
namespace Go.Am
variable{M:Mp}
def UA(M:Mp)(S:Sch)(a:List J):Prop:=∀(i:Nat) x,a[i]?=some x->∃b,BM M S a x.u x.rows=some b/\∀r∈x.rows,WC b r=false
def BU(hid:List J)(i:Nat)(x:J):J:=match hid[i]? with
 |some h=>⟨x.u,x.rows.filter λr=>!WC h.rows r⟩
 |none=>x
def Ul(a hid:List J):List J:=a.mapIdx λi x=>BU hid i x
def SH{a:List J}{i:Nat}{x:J}(g:a[i]?=some x)(b:List Z8):Wp (CQ a (i:Int) b) λq=>q.1=a.set i ⟨x.u,x.rows.filter λr=>!WC b r⟩/\Less a q.1/\Vo q.1<=Vo a/\(q.2=true->Vo q.1<Vo a)/\(q.2=false->q.1=a/\∀r∈x.rows,WC b r=false)/\((∀r∈x.rows,WC b r=false)->q.2=false):=by
 have p:=(Y0.1 g).1;have⟨q,k,m,n,o⟩:=Zf2 p b;have c:Is (CQ a (i:Int) b) q:=k;unfold CQ at c;obtain⟨y,-,d,c⟩:=c.get;obtain⟨-,c⟩:=c.chk;have d:a[i]?=some y:=sU d;rw[g] at d;cases d;have e:=Zk c;subst e;simp only[Yn] at*;refine⟨_,k,rfl,m,n,o,λh=>?_,λh=>?_⟩;have hl:¬(x.rows.filter λx=>!WC b x).length<x.rows.length:=sU h;have l:(x.rows.filter λx=>!WC b x)=x.rows:=XY.eq_of_length (by have:=XR (λx=>!WC b x) x.rows;omega);refine⟨?_,λr f=>by have:=XM.1 l r f;simpa using this⟩;rw[l];exact YU λj=>by rw[XW];split;rename_i e;subst e;rw[g];rfl
 rw[XM.2 λr f=>by rw[h r f];rfl];simp
def Sp{S:Sch}{a hid}(hS:VS S)(h6:a.length<=6)(hl:hid.length<=a.length)(R:∀r∈a,r.rows.length<=24):Wp (EM M S a hid) λl=>Less (Ul a hid) l/\UA M S l/\(UA M S (Ul a hid)->l=Ul a hid):=by
 unfold EM;refine X4 ⟨X,λr h=>by obtain⟨q,c,-⟩:=Cl r.rows (by have:=R r h;omega);rw[c];rfl⟩ ?_;refine X6 (λi s=>Less a s/\∀j x,a[j]?=some x->s[j]?=some (if j<i then BU hid j x else x)) ⟨.refl,λj x k=>by rwa [if_neg X]⟩ ?_ ?_
 .intro i x s next k _ f H
  have Q:=(Y0.1 k).1;have B:a[i]?=some a[i]:=Y1 X;have C:=f.2 i _ B;rw[if_neg X] at C;refine X0 (SH C x.rows) λq _ c=>H _ ⟨f.1.trans c.2.1,λj z d=>?_⟩;rw[c.1];by_cases e:j=i;subst e;rw[B] at d;cases d;rw[Yr (Y0.1 C).1,if_pos X];unfold BU;rw[k];rw[Ys X,f.2 j z d];by_cases p:j<i;rw[if_pos p,if_pos X];rw[if_neg p,if_neg X]
 intro s f;have O:s=Ul a hid:=by
  refine YU λj=>?_;unfold Ul;rw[Y3p];cases G:a[j]? with
  |none=>rw[Yq (by rw[f.1.len];exact Y36.1 G)];rfl
  |some x=>?_
  rw[f.2 j x G];by_cases p:j<hid.length;rw[if_pos p];rfl;rw[if_neg p];show some x=some (BU hid j x);unfold BU;rw[Yq X]
 rw[<-O];have I:=f.1.len;have D:=f.1.le R;have K:=PS D;clear O f;refine Xd (λq:List J×Bool=>Less s q.1/\Vo q.1<=24*6/\(UA M S s->q.1=s)/\(q.2=false->UA M S q.1)) (λq=>bif q.2 then Vo q.1+1 else 0) ?_ Fp (s,true) ⟨.refl,by rw[I] at K;simp only;omega,λ_=>rfl,nofun⟩ (by simp only[cond_true,Fp];rw[I] at K;omega);rintro⟨u,b⟩ next ⟨A,W,E,V⟩ H
 unfold KA;refine X1 (λv=>?_) λv=>X2 ⟨A,V v,E⟩;simp only at v A W E;subst v;refine X6 (λi q=>Less s q.1/\Vo q.1<=Vo u/\(q.2=true->Vo q.1<Vo u)/\(q.2=false->q.1=u/\∀j x,j<i->u[j]?=some x->∃m,BM M S u x.u x.rows=some m/\∀r∈x.rows,WC m r=false)/\(UA M S u->q.2=false)) ⟨A,Y7 _,nofun,(λ_=>⟨rfl,λj x h=>X⟩),λ_=>rfl⟩ ?_ ?_;intro i x q nx k _ c T;have Q:=(Y0.1 k).1;have o:i<q.1.length:=by rw[c.1.len,<-A.len];exact Q
 refine X5 (Y1 o) ?_;have U:=Yh o;refine X0 (by obtain⟨m,h,-⟩:=Zcw hS (c.1.le D) q.1[i].u (c.1.le D _ U);exact⟨m,h,h⟩) λm _ n=>X0 (SH (Y1 o) m) λz _ d=>T _ ⟨c.1.trans d.2.1,by have:=d.2.2.1;have:=c.2.1;simp only;omega,λh=>?_,λh=>?_,λL=>?_⟩;simp only at h|-;cases hz2:z.2 with
 |true=>have:=d.2.2.2.1 hz2;have:=c.2.1;omega
 |false=>rw[hz2] at h;have:=c.2.2.1 h;have:=d.2.2.1;omega
 simp only at h|-;cases hz2:z.2 with
 |true=>rw[hz2] at h;cases h
 |false=>?_
 rw[hz2] at h;have⟨g,F⟩:=c.2.2.2.1 h;have⟨Y,N⟩:=d.2.2.2.2.1 hz2;refine⟨Y.trans g,λj y G B=>?_⟩;by_cases e:j=i;subst e;have eq:q.1[j]=y:=Option.some.inj (by rwa [<-Y1 o,g]);rw[eq] at n N;rw[g] at n;exact⟨m,n,N⟩;exact F j y X B;have t:=c.2.2.2.2 L;obtain⟨g,-⟩:=c.2.2.2.1 t;have⟨ap,g1,g2⟩:=L i q.1[i] (by rw[<-g];exact Y1 o);have Z:=congrArg (λw=>BM M S w q.1[i].u q.1[i].rows) g;rw[Z,g1] at n;cases n;show(bif z.2 then true else q.2)=false;rw[d.2.2.2.2.2 g2,t];rfl;intro q c;refine H q ⟨c.1,X,λP=>?_,λh=>?_⟩ ?_
 have:=E P
 subst this;exact(c.2.2.2.1 (c.2.2.2.2 P)).1;have⟨g,F⟩:=c.2.2.2.1 h;rw[g];exact λj x k=>F j x (Y0.1 k).1 k;simp only[cond_true];cases t:q.2 with
 |true=>have:=c.2.2.1 t;simp;omega
 |false=>simp
end Go.Am
end
section
namespace Go.Am
variable{M:Mp}{ρ σ:RN}
def MK(x r:Z8):Wp (BW x r) λb=>b=true↔x=r:=by
 unfold BW;exact X0 (EO x r) λb _ a=>X2 a
def Q5(d:List Z8)(r:Z8):WC d r=true↔r∈d:=by
 have h:Wp (A1 r d) λb=>b=true↔r∈d:=by
  unfold A1 BX D8;refine X0 (X0 (Xc λx _=>(MK x r).mono λ_ _ _=>trivial) λk _ f=>X2 ?_) λb _ a=>X2 a;rcases f with⟨rfl,h⟩|⟨i,x,rfl,j,h⟩;constructor;intro c;simp at c;intro g;have⟨b,a,c⟩:=MK r r;have e:BW r r=some false:=h r g;rw[a] at e;cases e;exact absurd (c.2 rfl) I;have⟨b,a,c⟩:=MK x r;have h:BW x r=some true:=h;rw[a] at h;cases h
  have:=c.1 rfl
  subst this;simp only[decide_eq_true_eq];exact⟨λ_=>Y2 j,λ_=>X⟩
 have⟨b,a,h⟩:=h;unfold WC
 rwa [a]
def hF(T:E)(o a:List Z8):List Z8:=a.filter λr=>(ZR (Z3 T) o (Z3 T r)).isNone
def GX{T o a r}:r∈hF T o a↔r∈a/\∀y∈o,Z3 T y≠Z3 T r:=by unfold hF;rw[Y3b,Option.isNone_iff_eq_none,Cs]
def F0{T:E}{o a:List Z8}{r:Z8}:hF T o (a++[r])=if ZR (Z3 T) o (Z3 T r)=none then hF T o a++[r] else hF T o a:=by unfold hF;rw[Y03];cases h:ZR (Z3 T) o (Z3 T r)<;>simp[h]
def Se{T o a}:(hF T o a).length<=a.length:=XR ..
def Vu(a:List E)(P:Nat->E->List Z8->Prop)(N:List J):Prop:=N.length=a.length/\∀(j:Nat) T,a[j]?=some T->∃R,N[j]?=some ⟨T.y,R⟩/\P j T R
def Vu.set{b:List E}{P a:Nat->E->List Z8->Prop}{N:List J}{i:Nat}{T:E}{R:List Z8}(h:Vu b P N)(f:b[i]?=some T)(k:a i T R)(l:∀j U R,j≠i->P j U R->a j U R):Vu b a (N.set i ⟨T.y,R⟩):=by
 refine⟨by rw[Xf];exact h.1,λj U c=>?_⟩;by_cases e:j=i;subst e;rw[f] at c;cases c
 have:=(Y0.1 f).1
 exact⟨R,Yr (by rwa [h.1]),k⟩;have⟨d,h1,g⟩:=h.2 j U c;exact⟨d,by rwa [Ys (Ne.symm e)],l j U d e g⟩
def Vu.imp{a P b N}(h:Vu a P N)(e:∀j T R,a[j]?=some T->P j T R->b j T R):Vu a b N:=
 ⟨h.1,λj T c=>by have⟨R,d,f⟩:=h.2 j T c;exact⟨R,d,e j T R c f⟩⟩
def Vu.ofI{S a}(h:S.q=a):Vu a (λ_ T R=>R=ρ T.y) (mkI S ρ):=by
 subst h;exact⟨Vk,λj T b=>⟨_,U6 b,rfl⟩⟩
def Zqi{S}(p:Wf S.q){a}(f:a.length=S.q.length)(g:∀(i:Nat) x T,a[i]?=some x->S.q[i]?=some T->x.u=T.y):a=mkI S (Vm a):=by
 have h:∀(i:Nat) (x:J) (T:E),a[i]?=some x->S.q[i]?=some T->Vm a T.y=x.rows:=λi x T b c=>by
  have q:=g i x T b c;unfold Vm;cases e:a.find? (λx=>Z9 x.u T.y) with
  |none=>exact absurd (Y3l.1 e x (Y2 b)) (by simp[ZD.2 q])
  |some y=>?_
  have r:=Y37 e;have m:=List.find?_some e;obtain⟨j,d,rfl⟩:=Yo r;have l:j<S.q.length:=by rw[<-f];exact d
  have k:=Y1 l;have o:=g j _ _ (Y1 d) k;obtain rfl:=p.uniq j i _ _ k c (ZD.2 (by rw[<-o];exact ZD.1 (sU m)));rw[Y1 d] at b;cases b;rfl
 refine YU λi=>?_;simp only[mkI,Y9];by_cases hi:i<S.q.length;have n:i<a.length:=by rw[f];exact hi
 have b:=Y1 n;have c:=Y1 hi
 have:=g i _ _ b c
 rw[b,c,Yp,h i _ _ b c,<-this];rw[Yq (by rw[f];omega),Yq X];rfl
def Vu.mk{S}(f:Wf S.q){P N}(h:Vu S.q P N):N=mkI S (Vm N)/\∀(j:Nat) T,S.q[j]?=some T->P j T (Vm N T.y):=by
 have e:=Zqi f h.1 λi x T g b=>by obtain⟨R,a,-⟩:=h.2 i T b;rw[g] at a;cases a;rfl
 refine⟨e,λj T b=>?_⟩;have⟨R,a,h2⟩:=h.2 j T b;have c:=(congrArg (·[j]?) e).trans (U6 b);rw[a] at c;have d:R=Vm N T.y:=congrArg J.rows (Option.some.inj c)
 rwa [<-d]
def Z9x{S}(c:Wf S.q){a}(h:Less (mkI S ρ) a):a=mkI S (Vm a)/\∀T∈S.q,(Vm a T.y).Sublist (ρ T.y):=by
 have e:=Zqi c (h.len.trans Vk) λi x T f b=>(h.at_ i _ x (U6 b) f).1;refine⟨e,λT b=>?_⟩;obtain⟨i,d,rfl⟩:=Yo b;have b:=Y1 d;exact(h.at_ i _ _ (U6 b) ((congrArg (·[i]?) e).trans (U6 b))).2
def Z5i{a hid}:Less a (Ul a hid):=by
 refine⟨by simp[Ul],λi x y c b=>?_⟩;unfold Ul at b;rw[Y3p,c] at b;cases b;unfold BU;split;exact⟨rfl,XY⟩;exact⟨rfl,.refl _⟩
def Z7g{a hid}(h:∀r∈hid,r.rows=[]):Ul a hid=a:=by
 refine YU λi=>?_;unfold Ul;rw[Y3p];cases hx:a[i]? with
 |none=>rfl
 |some x=>?_
 show some (BU hid i x)=some x;unfold BU;split;rename_i b c;rw[h b (Y2 c)]
 have:(x.rows.filter λr=>!WC [] r)=x.rows:=XM.2 λr _=>by
  cases e:WC [] r with
  |false=>rfl
  |true=>exact absurd ((Q5 _ _).1 e) I
 rw[this];rfl
def Z64{κ rows}{i:Nat}{a:Z8}(c:ZJ κ rows)(f:rows[i]?=some a):∀r∈rows.take i,κ r≠κ a:=λr e h=>by
 obtain⟨m,b,rfl⟩:=Yo e;obtain⟨d,rfl⟩:=Y0.1 f;rw[XX] at h;simp only[YA] at b
 have:=YK.1 c m i X d X
 rw[h] at this;exact Uu this
def Ma(L:LI M ρ σ)(ak:M.dst.q=M.src.q)(x:M.cs.q=M.src.q)(G:M.nc=mkI M.cs λ_=>[]):
  Wp (EF M) λD=>∃ρ' σ',D={M with out:=mkI M.src ρ',nc:=mkI M.src σ'}/\UA M M.dst (mkI M.src ρ')/\(UA M M.dst (Ul M.inp M.comp)->mkI M.src ρ'=Ul M.inp M.comp)/\∀T∈M.src.q,(ρ' T.y).Sublist (ρ T.y)/\σ' T.y=hF T (ρ' T.y) (ρ T.y):=by
 have t6:=L.a.t6;have w:=L.a.ord.1;have⟨il,r,K,_⟩:=L.xC;unfold EF;refine X0 (Sp L.b X (by rw[K,il,x];omega) r) λf _ E=>?_;have⟨O,P,Q⟩:=E;have s:=Z5i.trans O;rw[L.inp] at s;have⟨v,so⟩:=Z9x w s;generalize Vm f=ρ' at v so;subst v;refine X6 (λi N=>Vu M.src.q (λj T R=>(j<i->R=hF T (ρ' T.y) (ρ T.y))/\(i<=j->R=[])) N) ((G▸Vu.ofI x).imp λj T R _ h=>⟨λa=>absurd a (XB _),λ_=>h⟩) ?_ ?_
 .intro i t N next d l b p
  have ah:=(L.ri t l).l24;have H:=(L.a.tab t l).pk6;refine X5 (by rw[L.inp];exact U6 d) ?_;refine X6 (λm N=>Vu M.src.q (λj T R=>(j<i->R=hF T (ρ' T.y) (ρ T.y))/\(j=i->R=hF T (ρ' T.y) ((ρ T.y).take m))/\(i<j->R=[])) N) (b.imp λj T R _ h=>⟨h.1,λe=>by rw[h.2 X];rfl,λa=>h.2 X⟩) ?_ λN b=>p N (b.imp λj T R c h=>⟨λa=>?_,λa=>h.2.2 X⟩);intro m g N nx C _ b B;have o:=(Y0.1 C);simp only at o C;unfold KS;have F:=(L.ri t l).asc.sublist (so t l);have u:(ρ t.y).take (m+1)=(ρ t.y).take m++[g]:=by rw[Yg o.1,o.2]
  refine X5 (U6 d) (X0 (Ua t g X) λk _ W=>X0 (Gq t _ k H F) λq _ Y=>?_);subst W;obtain⟨n,-,q1,q2⟩:=Y;have⟨R,I,J⟩:=b.2 i t d;have z:=J.2.1 rfl;have aj:R.length<=24:=by rw[z];exact YE Se (by rw[YA];omega)
  refine X1 (λh=>X5 I (X4 (by simp only;omega) (B _ (b.set d ⟨λa=>absurd a (XL _),λ_=>?_,λa=>absurd a (XL _)⟩ λj U R V h=>⟨h.1,λe=>absurd e V,h.2.2⟩)))) λh=>B N (b.imp λj T R c a=>⟨a.1,λe=>?_,a.2.2⟩);rw[u,F0,if_pos (q2 (sU h)),<-z];subst e;rw[d] at c;cases c;obtain⟨y,-,Z⟩:=q1 (sU h);rw[u,F0,if_neg (by rw[Z];simp)];exact a.2.1 rfl;rcases Yx j i with h8|h8;exact h.1 h8;obtain rfl:j=i:=X
  rw[d] at c;cases c
  have:=h.2.1 rfl
  rwa [Yl] at this
 intro N b;have⟨e,S⟩:=b.mk w;refine X2 ⟨ρ',Vm N,by rw[<-e],P,Q,λT c=>⟨so T c,?_⟩⟩;obtain⟨i,A,rfl⟩:=Yo c;exact(S i _ (Y1 A)).1 A
def LS(L:LI M ρ σ)(ax:M.dst.q=M.src.q)(F:M.cs.q=M.src.q)(ho:M.out=mkI M.src ρ)(ao:M.nc=mkI M.cs λ_=>[]):
  Wp (EE M) λN=>(UA M M.src M.inp\/N={M with err:=12})/\(UA M M.src M.inp->∃ρ' σ',N={M with out:=mkI M.src ρ',nc:=mkI M.src σ'}/\∀T∈M.src.q,Wv T (ρ' T.y)/\(∀z,z∈ρ' T.y↔z∈ρ T.y\/z∈σ' T.y)/\σ' T.y=hF T (ρ T.y) (σ T.y)):=by
 have t6:=L.a.t6;have S:=L.a.ord.1;have⟨il,K,_,_⟩:=L.xC;unfold EE;refine X0 (L7 M.src X) λz _ J=>?_;subst J;have ap:Ul M.inp (mkI M.src λ_=>[])=M.inp:=Z7g λr o=>by obtain⟨T,-,rfl⟩:=Yi.1 o;rfl
 refine X0 (Sp L.a X (by rw[Vk,il];omega) K) λv _ hv=>X0 (ER v M.inp) λq _ C=>?_;obtain⟨-,v2,v3⟩:=hv;rw[ap] at v3;refine X1 (λh=>X2 ⟨.inr rfl,λhc=>?_⟩) λh=>?_;rw[C.2 (v3 hc)] at h;cases h;have aj:=C.1 (sU h);have aq:UA M M.src M.inp:=by rw[<-aj];exact v2
 refine X6 (λi s=>Vu M.src.q (λj T R=>(j<i->Wv T R/\∀z,z∈R↔z∈ρ T.y\/z∈hF T (ρ T.y) (σ T.y))/\(i<=j->R=ρ T.y)) s.1/\Vu M.src.q (λj T R=>(j<i->R=hF T (ρ T.y) (σ T.y))/\(i<=j->R=[])) s.2)
  ⟨(ho▸Vu.ofI rfl).imp λj T R _ h=>⟨λc=>absurd c (XB _),λ_=>h⟩,(ao▸Vu.ofI F).imp λj T R _ h=>⟨λc=>absurd c (XB _),λ_=>h⟩⟩ ?_ ?_
 .intro i t s next g B f am
  have au:=(L.ri t B).l24;have O:=(L.ri t B).asc;have Q:=(L.a.tab t B).pk6;have P:t∈M.cs.q:=by rw[F];exact B
  have ar:=(L.rc t P).l24;have al:=(L.rc t P).asc;refine X5 (by rw[L.comp];exact U6 (by rwa [F])) ?_;refine X6 (λm s=>Vu M.src.q (λj T R=>(j<i->Wv T R/\∀z,z∈R↔z∈ρ T.y\/z∈hF T (ρ T.y) (σ T.y))/\(j=i->Wv T R/\R.length<=24+m/\∀z,z∈R↔z∈ρ T.y\/z∈hF T (ρ T.y) ((σ T.y).take m))/\(i<j->R=ρ T.y)) s.1/\Vu M.src.q (λj T R=>(j<i->R=hF T (ρ T.y) (σ T.y))/\(j=i->R=hF T (ρ T.y) ((σ T.y).take m))/\(i<j->R=[])) s.2)
   ⟨f.1.imp λj T R d h=>⟨h.1,λe=>?_,λc=>h.2 X⟩,f.2.imp λj T R _ h=>⟨h.1,λe=>by rw[h.2 X];rfl,λc=>h.2 X⟩⟩ ?_ λs f=>am s ⟨f.1.imp λj T R d h=>⟨λc=>?_,λc=>h.2.2 X⟩,f.2.imp λj T R d h=>⟨λc=>?_,λc=>h.2.2 X⟩⟩
  subst e;rw[g] at d;cases d;rw[h.2 (Y7 _)];exact⟨O,X,λz=>by simp[hF]⟩;intro m l s nx o _ f W;have u:=(Y0.1 o);simp only at u o;unfold KO;have x:(σ t.y).take (m+1)=(σ t.y).take m++[l]:=by rw[Yg u.1,u.2]
  refine X5 (by rw[L.inp];exact U6 g) (X0 (Ua t l X) λk _ hk=>X0 (Gq t _ k Q O) λq _ C=>?_);subst hk;obtain⟨n,-,Z,q2⟩:=C;have⟨R,c1,c2⟩:=f.2.2 i t g;have⟨U,u1,u2⟩:=f.1.2 i t g;have V:=c2.2.1 rfl;have⟨ua,ul,um⟩:=u2.2.1 rfl;have aw:R.length<=24:=by rw[V];exact YE Se (by rw[YA];omega)
  have ay:=u.1;refine X1 (λh=>X5 c1 (X4 (by simp only;omega) (X5 u1 (X0 (Ir t U l Q X ua) λrs _ ak=>W _ ⟨?_,?_⟩)))) λh=>W s ⟨f.1.imp λj T R d c=>⟨c.1,λe=>?_,c.2.2⟩,f.2.imp λj T R d c=>⟨c.1,λe=>?_,c.2.2⟩⟩;have w:=q2 (sU h);obtain⟨A,E,a,b,os,ah,rfl⟩:=ak;have ag:=IZ ah l λz J=>by rcases(um z).1 J with h8|h8;exact Cs.1 w z h8;exact Z64 al o z (GX.1 h8).1
  refine f.1.set g ⟨λc=>absurd c (XL _),λ_=>⟨A,X,λz=>?_⟩,λc=>absurd c (XL _)⟩ λj U R H h=>⟨h.1,λe=>absurd e H,h.2.2⟩;rw[ag,um,x,F0,if_pos w];simp[or_assoc];have w:=q2 (sU h);refine f.2.set g ⟨λc=>absurd c (XL _),λ_=>?_,λc=>absurd c (XL _)⟩ λj U R H h=>⟨h.1,λe=>absurd e H,h.2.2⟩;rw[x,F0,if_pos w,<-V];subst e;rw[g] at d;cases d;obtain⟨y,-,I⟩:=Z (sU h);rw[x,F0,if_neg (by rw[I];simp)];have⟨p,Y,D⟩:=c.2.1 rfl;exact⟨p,X,D⟩;subst e;rw[g] at d;cases d;obtain⟨y,-,I⟩:=Z (sU h);rw[x,F0,if_neg (by rw[I];simp)];exact c.2.1 rfl;rcases Yx j i with h8|h8;exact h.1 h8;obtain rfl:j=i:=X
  rw[g] at d;cases d;obtain⟨p,-,D⟩:=h.2.1 rfl;rw[Yl] at D;exact⟨p,D⟩;rcases Yx j i with h8|h8;exact h.1 h8;obtain rfl:j=i:=X
  rw[g] at d;cases d
  have:=h.2.1 rfl
  rwa [Yl] at this
 rintro⟨s1,s2⟩ ⟨k1,k2⟩;have⟨e1,p⟩:=Vu.mk S k1;have⟨e2,Y⟩:=Vu.mk S k2;refine X2 ⟨.inl aq,λ_=>⟨Vm s1,Vm s2,by rw[<-e1,<-e2],λT d=>?_⟩⟩;obtain⟨i,G,rfl⟩:=Yo d;have d:=Y1 G;have A:=(p i _ d).1 G;have E:=(Y i _ d).1 G;exact⟨A.1,λz=>by rw[A.2,E],E⟩
def B3{A B}(h:A.q=B.q):mkI A ρ=mkI B ρ:=by unfold mkI;rw[h]
def Fs(x:Stp)(B:Sch)(ρ σ ρ':RN):Prop:=(∀T∈B.q,(∀z,z∈ρ T.y↔z∈ρ' T.y\/z∈σ T.y)/\∀a∈ρ' T.y,∀b∈σ T.y,Z3 T a≠Z3 T b)/\UA ⟨x,true,B,B,B,[],[],[],[],0⟩ B (mkI B ρ')
def Io{M c}(h:M.step=c.step){S a}(f:UA M S a):UA c S a:=by
 have e:∀t b,BM M S a t b=BM c S a t b:=λt b=>by
  unfold BM
  have:∀{ρ:Type},@EN M S a t ρ=@EN c S a t ρ:=λ{ρ}=>by
   funext i row s next
   unfold EN;rw[h]
  rw[this]
 intro i x g;have⟨j,h1,d⟩:=f i x g;exact⟨j,by rwa [<-e],d⟩
def RD{T:E}{a b:List Z8}(h:RO T a)(c:b.Sublist a):RO T b:=⟨YE c.length_le h.l24,λr d=>h.row r (c.subset d),h.asc.sublist c⟩
def IH{x:Stp}{f:Bool}{A B C:Sch}(hA:VS A)(hB:VS B)(g:B.q=A.q)(j:C.q=A.q)(t:∀{ρ σ},ZN (Zn x f A B C ρ σ)=EF (Zn x f A B C ρ σ)):Half x f A B C (Fs x B):=by
 refine⟨λ{ρ σ M2} p h he=>?_,λ{ρ σ ρ'} p hr ht=>?_,λ{ρ σ} p=>by obtain⟨r,k,ρ',σ',rfl,-⟩:=Ma (p.li) g j rfl;exact⟨_,t.trans k,Vk.trans (by rw[g];rfl),Vk.trans (by rw[j];rfl)⟩⟩;obtain⟨r,k,ρ',σ',l,R,L,q⟩:=Ma (p.li) g j rfl;rw[t,k] at h;cases h;subst l;refine⟨ρ',σ',B3 g.symm,B3 j.symm,λ_ _=>⟨λT c=>?_,λT c=>?_,?_⟩⟩;rw[j] at c;rw[(q T c).2];exact RD (p.ra T c) XY;have D:=g▸c;have⟨M,S⟩:=q T D;rw[S];refine⟨λz=>?_,λa P b Q m=>(GX.1 Q).2 a P m⟩;rw[GX];constructor;intro K;by_cases H:∀y∈ρ' T.y,Z3 T y≠Z3 T z;exact .inr ⟨K,H⟩;have⟨y,u⟩:=Classical.not_forall.1 H;have⟨E,O⟩:=Classical.not_imp.1 u
 have:y=z:=Mf (p.ra T D).asc (M.subset E) K (Classical.not_not.1 O)
 exact .inl (this▸E);rintro(m|m);exact M.subset m;exact m.1;rw[B3 g];exact Io rfl R;have⟨t1,t2⟩:=ht;obtain⟨r,k,ρ2,σ2,l,_,L,q⟩:=Ma (p.li) g j rfl;have G:Ul (mkI A ρ) (mkI C σ)=mkI A ρ':=by
  refine YU λi=>?_;unfold Ul;rw[Y3p];by_cases hi:i<A.q.length;have c:=Y1 hi;have F:=Y2 c;rw[U6 c,U6 c];show some (BU (mkI C σ) i _)=_;unfold BU;rw[U6 (by rwa [j])];simp only[Ya,J.mk.injEq,true_and];have n:A.q[i]∈B.q:=by rw[g];exact F
  refine ZJ.ext ((p.ra _ F).asc.filter) (hr _ n).asc λz=>?_;have⟨v,w⟩:=t1 _ n;rw[Y3b,v];have I:=Q5 (σ A.q[i].y) z;constructor;rintro⟨d|d,o⟩;exact d;rw[I.2 d] at o;cases o;intro d;refine⟨.inl d,?_⟩;cases e:WC (σ A.q[i].y) z with
  |false=>rfl
  |true=>exact absurd rfl (w z d z (I.1 e))
  rw[Yq (by rw[Vk];omega),Yq (by rw[Vk];omega)];rfl
 have ah:UA (Zn x f A B C ρ σ) B (mkI A ρ'):=by rw[<-B3 g];exact Io rfl t2
 have s:=L (by show UA (Zn x f A B C ρ σ) B (Ul (mkI A ρ) (mkI C σ));rwa [G]);have s:=s.trans G;refine⟨r,t.trans k,by rw[l];rfl,by rwa [l,B3 g],?_⟩;rw[l];show mkI A σ2=mkI C σ;rw[B3 j];refine U3 λT c=>?_;have n:=g▸c;have N:=j▸c;have⟨v,w⟩:=t1 T n;rw[(q T c).2,QX s T c];refine ZJ.ext ((p.ra _ c).asc.filter) (p.rc _ N).asc λz=>?_;show z∈hF T _ _↔_;rw[GX,v];constructor;rintro⟨d|d,o⟩;exact absurd rfl (o z d);exact d;exact λd=>⟨.inr d,λy u=>w y u z d⟩
def IB{x:Stp}{f:Bool}{A B C:Sch}(hA:VS A)(D:VS B)(d:B.q=A.q)(E:C.q=A.q)(l:∀{ρ σ},ZN (Zn x f B A C ρ σ)=EE (Zn x f B A C ρ σ)):Half x f B A C λb s a=>Fs x B a s b:=by
 have o:∀{ρ σ},(Zn x f B A C ρ σ).out=mkI B ρ:=λ{ρ σ}=>(B3 d.symm).trans (U3 λT c=>Vl D.ord.1 c);have e:=E.trans d.symm;refine⟨λ{ρ σ M2} p h he=>?_,λ{ρ σ ρ'} p hr ht=>?_,λ{ρ σ} p=>by have⟨t,g,m,i⟩:=LS (p.li) d.symm e o rfl;rcases m with k|rfl;obtain⟨ρ',σ',rfl,-⟩:=i k;exact⟨_,l.trans g,Vk.trans (by rw[<-d];rfl),Vk.trans (by rw[e];rfl)⟩;exact Ag (l.trans g) rfl rfl⟩
 have⟨t,g,m,i⟩:=LS (p.li) d.symm e o rfl;rw[l,g] at h;cases h;rcases m with k|h12;have⟨ρ',σ',n,j⟩:=i k;subst n;refine⟨ρ',σ',B3 d,B3 e.symm,λ_ _=>⟨λT c=>?_,λT c=>?_,Io rfl k⟩⟩;rw[(j T (e▸c)).2.2];exact RD (p.rc T c) XY;have⟨_,q,I⟩:=j T c;exact⟨q,λa F b v=>by rw[I] at v;exact(GX.1 v).2 a F⟩;subst h12;cases he;have⟨t1,t2⟩:=ht;have⟨t,g,m,i⟩:=LS (p.li) d.symm e o rfl;have⟨ρ2,σ2,n,j⟩:=i (Io rfl t2);subst n;have u:∀T∈B.q,σ2 T.y=σ T.y:=λT c=>by
  rw[(j T c).2.2];exact XM.2 λr w=>by
   rw[Option.isNone_iff_eq_none,Cs];exact λy G=>(t1 T c).2 y G r w
 refine⟨_,l.trans g,rfl,?_,?_⟩;show mkI B ρ2=mkI A ρ';rw[<-B3 d];refine U3 λT c=>?_;have⟨H,q,_⟩:=j T c;refine ZJ.ext H (hr T (d▸c)).asc λz=>?_;rw[q,(t1 T c).1,u T c];show mkI B σ2=mkI C σ;rw[<-B3 e];exact U3 λT c=>u T (by rwa [<-e])
def Za0{x S g C}(f:VS S)(d:VS g)(i:COK S g x C)(k:13<=x.g)(ab:x.g<=16)(e:g.q=S.q):VV x S g C:=by
 have c:=i.all k;have h:x.g=13\/x.g=15\/x.g=14\/x.g=16:=X
 rcases h with k|k|k|k;exact⟨Fs x g,IH f d e c (by intro ρ σ;unfold ZN;simp[Zn,k,Zp]),IB f d e c (by intro ρ σ;unfold ZN;simp[Zn,k,Zp])⟩;exact⟨Fs x g,IH f d e c (by intro ρ σ;unfold ZN;simp[Zn,k,Zp]),IB f d e c (by intro ρ σ;unfold ZN;simp[Zn,k,Zp])⟩;exact⟨λb s a=>Fs x S a s b,IB d f e.symm (c.trans e.symm) (by intro ρ σ;unfold ZN;simp[Zn,k,Zp]),IH d f e.symm (c.trans e.symm) (by intro ρ σ;unfold ZN;simp[Zn,k,Zp])⟩;exact⟨λb s a=>Fs x S a s b,IB d f e.symm (c.trans e.symm) (by intro ρ σ;unfold ZN;simp[Zn,k,Zp]),IH d f e.symm (c.trans e.symm) (by intro ρ σ;unfold ZN;simp[Zn,k,Zp])⟩
def Z9z{x}{S a C:Sch}(d:VS S)(b:VS a)(c:COK S a x C)(h:EvT S a.q x)(f:x.g<=16):VV x S a C:=by
 by_cases hk:x.g<=12;exact Z5m d b c h hk;cases h with
 |rule k e=>exact Za0 d b c k f e
 |_=>omega
end Go.Am
end
namespace Go.Am
section
def Ot(S x)(k:U7 x):Wp (Bx S x) λq=>q.2.2=0->VS S/\VS q.1/\COK S q.1 x q.2.1/\VV x S q.1 q.2.1/\VR S x=some (q.1,0):=by
 unfold Bx;refine X0 (Qx S x k) λr j h=>X1 (λa=>X2 λg=>by simp only at g;rw[g] at a;cases a) λa=>?_;have e:r.2=0:=sU a;have⟨b,d,f⟩:=h e;have c:VR S x=some (r.1,0):=by rw[j,<-e]
 exact X0 (Z2n c d b f) λq _ i=>X2 λ_=>⟨d,b,i.2,Z9z d b i.2 f (R0 c).2,c⟩
def Zq2(b:Bool)(S:Sch)(x:Stp)(i c:List J):aB (List J×List J×Int):=bif b then A8 S x i c else A9 S x i c
def GD{b S a C x}(f:VS S)(h:Bx S x=some (a,C,0))(i c):Zq2 b S x i c=Uh ⟨x,!b,bif b then a else S,bif b then S else a,C,[],[],[],[],0⟩ i c:=by have hs:=f.t6;have aa:=f.f8;have d:=Ww (Z0r x);have e:=Ww (I1 S X X);cases b;show A9 S x i c=_;unfold A9;rw[h,d,e];rfl;show A8 S x i c=_;unfold A8;rw[h,d,e];rfl
def Rw{x f A B C s}(H:Half x f A B C s)(d:VS A)(m:VS B)(t6:C.q.length<=6)(i:∀T∈C.q,T.pk.length<=6/\T.j.length<=100)(j:Wf C.q)(a c):Wp (Uh ⟨x,f,A,B,C,[],[],[],[],0⟩ a c) λr=>r.2.2=0->RB r.1/\RB r.2.1:=by
 have⟨y,u,E⟩:=Cp A (λT e=>(d.tab T e).pk6) a;have⟨z,t,F⟩:=Cp C (λT e=>(i T e).1) c;by_cases hz:y=0/\z=0;obtain⟨rfl,rfl⟩:=hz;have⟨k,o⟩:=(E rfl).mkI d.ord.1;have⟨l,q⟩:=(F rfl).mkI j;generalize Vm a=ρ at k o;generalize Vm c=σ at l q;subst k l;have p:Pre A B C ρ σ:=⟨d,m,t6,i,j,o,q⟩;have⟨M2,G,l1,l2⟩:=H.tot p;have b6:=m.t6;refine(Mn p G X).mono λr _ h b=>?_;have n:=(h.1.1 b).2;rw[h.2 b];exact⟨⟨by simp only;omega,λr g=>n r (YV _ g)⟩,⟨by simp only;omega,λr g=>n r (Xj _ g)⟩⟩;unfold Uh;refine X0 (Wb u) λv _ I=>X1 (λh=>X2 λb=>by simp only at b;rw[b] at h;cases h) λh=>X0 (Wb t) λw _ J=>X1 (λh=>X2 λb=>by simp only at b;rw[b] at h;cases h) λD=>absurd ⟨?_,?_⟩ hz;rw[<-I];simpa using h;rw[<-J];simpa using D
def Rx(b:Bool)(S:Sch)(x:Stp)(m:U7 x)(i c):Wp (Zq2 b S x i c) λr=>r.2.2=0->RB r.1/\RB r.2.1:=by
 have⟨⟨T,C,e⟩,g,l⟩:=Ot S x m;by_cases f:e=0;subst f;obtain⟨j,k,a,⟨TR,n,o⟩,-⟩:=l rfl;rw[GD j g];cases b;exact Rw n j k a.t6 a.ck a.nm i c;exact Rw o k j a.t6 a.ck a.nm i c;have d:(e !=0)=true:=sU f;refine⟨([],[],e),?_,λh=>absurd h f⟩;cases b;show A9 S x i c=_;unfold A9;rw[g];show(bif e !=0 then _ else _)=_;rw[d];rfl;show A8 S x i c=_;unfold A8;rw[g];show(bif e !=0 then _ else _)=_;rw[d];rfl
def Hr(l:List (List J))(f:(List J)->aB (List J)):aB ((List (List J))):=
 Zd (λ(i2:Nat) (x2:List J) (s2:(List (List J))) next_2=>Z1 (f x2) λv3=>Wn s2 [v3] λ_=>next_2 (s2++[v3])) (λ(s2:(List (List J)))=>some s2) l 0 []
instance Zfs(l:List (List J))(f:(List J)->aB (List J)){g:FuncId}{caps:List aC}[ConF f prog (λx=>.one (.d (.sl (x.map J.z)))) (λv=>.one (.d (.sl (v.map J.z)))) g caps]:Con (Hr l f) prog 103 [.one (.d (.sl (l.map (Z7 J.z)))),.one (.fn g caps)] (λr=>.one (.d (.sl (r.map (Z7 J.z))))):=by
 unfold Hr;have l1:LH (σ:=(List (List J))) 10 [1,8,9] [.g 5 1 (λs=>s.map (Z7 J.z))]:=.intro;exact go 22 func103
def Dg(l:List (List J)):aB ((List (List J))):=
 Z1 (Hr l (λxa_=>Vw xa_)) λv1=>some v1
instance Nq(l:List (List J)):Con (Dg l) prog 72 [.one (.d (.sl (l.map (Z7 J.z))))] (λr=>.one (.d (.sl (r.map (Z7 J.z))))):=by unfold Dg;exact go 5 func72
abbrev Um(l:List (List J)):D:=.sl (l.map (Z7 J.z))
def Z3l(h)(l:List (List J))(z:∀x∈l,Is (Vw x) x)(K)(b:∀c h',Wt h' c (l.map Wq)->(∀k∈Z c,h.p<=k.1/\k.1<h'.p)->Z0 h h' []->ZG h h'->K (.one c) h'):
  Z5 prog 103 [.l (l.map (Z7 J.z)),.one (.fn 28 [])] h K:=by
 refine Z5.jE func103 rfl kR λA=>?_;refine Z5.qM func103 rfl kR rfl rfl I ?_;have f:Is (Zd (λ_ x s next=>next (s++[x])) (λs=>some s) l 0 []) l:=by rw[GO];rfl
 simp;intro ac;refine Z6.for (λi s e h'=>∃c,En e 22 [(1,.one (.fn 28 [])),(5,.one c),(8,.l (l.map (Z7 J.z))),(9,.i l.length),(10,.i i)]/\Wt h' c (s.map Wq)/\s.length=i/\Z0 h h' []/\∀k∈Z c,h.p<=k.1/\k.1<h'.p) f
  ⟨.nil,I,⟨[],by simpa[Zw] using MR.nil,rfl⟩,rfl,.refl,by simp[Z]⟩ ?_ ?_
 rintro i s e h' ⟨c,a,q,r,g,m⟩ hlt f;have B:IntKind.i64.wrap ((i:Int)+1)=(i:Int)+1:=Y6 _ X;have⟨u,v,t⟩:=q;have ad:u.length=s.length:=by have:=congrArg List.length t;simpa using this
 simp[a,hlt];refine Zx ((Ev l[i]).h l[i] (z _ (Yh hlt))) I ?_;simp[a];refine Wl CC kR dE dE (v.frame λk _=>?_) (Zr.qU rfl) (by simp[Zw];omega) λy h2 o j n=>?_;simp;simp[a,B];have p:=Z0.trans' (Z0.trans g ?_) j λk b=>.inr (m k b).1;refine Zj.of (s++[l[i]]) ⟨⟨y,by simp[a],⟨u++[.d (Wq l[i])],by simpa[Zw] using o,by simp[t,C.toD]⟩,by simp[r],p,λk b=>?_⟩,f⟩;rcases n k b with h9|h9
 have:=m k h9
 have:=j.1
 simp at this;omega
 have:=g.1
 simp at h9;omega;exact sm;rintro s e h' ⟨c,a,q,r,g,m⟩ f;obtain rfl:=Zk f;simp[a];exact b _ _ q m g (g.jA A)
def Z3k(h)(l:List (List (List J)))(z:∀x∈l,Is (Dg x) x)(K)(b:∀c h',Wt h' c (l.map Um)->(∀k∈Z c,h.p<=k.1/\k.1<h'.p)->Z0 h h' []->ZG h h'->K (.one c) h'):
  Z5 prog 73 [.l (l.map (Z7 (Z7 J.z))),.one (.fn 72 [])] h K:=by
 refine Z5.jE func73 rfl kR λA=>?_;refine Z5.qM func73 rfl kR rfl rfl I ?_;have f:Is (Zd (λ_ x s next=>next (s++[x])) (λs=>some s) l 0 []) l:=by rw[GO];rfl
 simp;intro ac;refine Z6.for (λi s e h'=>∃c,En e 22 [(1,.one (.fn 72 [])),(5,.one c),(8,.l (l.map (Z7 (Z7 J.z)))),(9,.i l.length),(10,.i i)]/\Wt h' c (s.map Um)/\s.length=i/\Z0 h h' []/\∀k∈Z c,h.p<=k.1/\k.1<h'.p) f
  ⟨.nil,I,⟨[],by simpa[Zw] using MR.nil,rfl⟩,rfl,.refl,by simp[Z]⟩ ?_ ?_
 rintro i s e h' ⟨c,a,q,r,g,m⟩ hlt f;have B:IntKind.i64.wrap ((i:Int)+1)=(i:Int)+1:=Y6 _ X;have⟨u,v,t⟩:=q;have ad:u.length=s.length:=by have:=congrArg List.length t;simpa using this
 simp[a,hlt];refine Zx ((Nq l[i]).h l[i] (z _ (Yh hlt))) I ?_;simp[a];refine Wl IP kR dE dE (v.frame λk _=>?_) (Zr.qU rfl) (by simp[Zw];omega) λy h2 o j n=>?_;simp;simp[a,B];have p:=Z0.trans' (Z0.trans g ?_) j λk b=>.inr (m k b).1;refine Zj.of (s++[l[i]]) ⟨⟨y,by simp[a],⟨u++[.d (Um l[i])],by simpa[Zw] using o,by simp[t,C.toD]⟩,by simp[r],p,λk b=>?_⟩,f⟩;rcases n k b with h9|h9
 have:=m k h9
 have:=j.1
 simp at this;omega
 have:=g.1
 simp at h9;omega;exact sm;rintro s e h' ⟨c,a,q,r,g,m⟩ f;obtain rfl:=Zk f;simp[a];exact b _ _ q m g (g.jA A)
def Z3m(h)(l:List (List J))(d:∀x∈l,Is (Vw x) x)(K)(e:∀c a,Wt a c (l.map Wq)->(∀k∈Z c,h.p<=k.1/\k.1<a.p)->Z0 h a []->ZG h a->K (.one c) a):
  Z5 prog 72 [.l (l.map (Z7 J.z))] h K:=by
 refine Z5.qM func72 rfl kR rfl rfl I ?_;simp;refine Zc (Z3l h l d _ λc a m f g b=>?_);simp;exact e c a m f g b
def Z10(h:HS)(d:Db)(D:∀x∈d.insts,Is (Vw x) x)(E:∀x∈d.comps,Is (Dg x) x)(K:V->HS->Prop)(c:∀a b h',Wt h' a (d.insts.map Wq)->Wt h' b (d.comps.map Um)->(∀k∈Z a++Z b,h.p<=k.1/\k.1<h'.p)->(∀k∈Z a,k∉Z b)->Z0 h h' []->K (.agg [a,b]) h'):
  Z5 prog 44 [.agg (d.z.map C.d)] h K:=by
 refine Z5.qM func44 rfl kR rfl rfl I ?_;simp;refine Z6.cu [0,1,3,4,2,5,6,7] (λu e=>∃a b,En u 10 [(2,.p (h.p+1,32))]/\e.a (h.p+1,32)=some [a,b]/\Wt e a (d.insts.map Wq)/\Wt e b (d.comps.map Um)/\(∀k∈Z a++Z b,h.p<=k.1/\k.1<e.p)/\(∀k∈Z a,k∉Z b)/\Z0 h e []) ?_ ?_;simp;refine Zc (Z3m _ d.insts D _ λa e r y i z=>?_);simp;refine⟨z,Zc (Z3k _ d.comps E _ λb h2 s q f o=>?_)⟩;have j:=f.2 (h.p+1,32) (by have:=i.1;simp at this|-;omega) I;have t:=i.2 (h.p+1,32) I I;simp at t;rw[t] at j;simp[j];refine⟨o,?_⟩;have v:=i.1;have ae:=f.1;simp at v;have m:∀k∈Z a,h.p+1<k.1/\k.1<e.p:=λk c=>by have:=y k c;simp at this;omega
 have n:=λk c=>q k c;refine Ze.of ⟨a,b,I,I,r.frame λk c=>?_,s.frame λk c=>?_,λk c=>?_,λk c g=>?_,?_⟩
 have:=m k c
 have l:k≠(h.p+1,32):=by rintro rfl;simp at this
 simp[l];exact f.2 k this.2 I
 have:=n k c
 have l:k≠(h.p+1,32):=by rintro rfl;simp at this;omega
 simp[l];simp;rcases Y3.1 c with g|g
 have:=m k g;omega
 have:=n k g;omega
 have:=m k c
 have:=n k g
 omega;refine Z0.xV (Z0.trans (Z0.trans ?_ i) f) (.inr I);exact sm;rintro u e ⟨a,b,A,j,r,s,F,B,G⟩;simp[ZS,ZK,ZX,A,j];exact c a b e r s F B G
structure MC(h:HS)(gs:List (C×List D)):Prop where
 row:∀g∈gs,Wt h g.1 g.2
 lt:∀g∈gs,∀k∈Z g.1,k.1<h.p
 dis:(gs.flatMap λg=>Z g.1).Nodup
def MC.new{h h' c}(m:MC h c)(d:Z0 h h' []):MC h' c:=
 ⟨λg a=>(m.row g a).frame λk b=>d.2 k (m.lt g a k b) I,λg a k b=>Y4 (m.lt g a k b) d.1,m.dis⟩
def UP:∀{j:List (C×aC)},(j.flatMap λg=>Z g.1).Nodup->∀{k1 k2:Nat} {e f:C×aC},j[k1]?=some e->j[k2]?=some f->k1≠k2->∀k∈Z e.1,k∉Z f.1
 |[],_,k1,_,_,_,a,_,_,_,_=>by simp at a
 |_::_,_,0,0,_,_,_,_,b,_,_=>absurd rfl b
 |y::ys,c,0,k2+1,e,f,a,d,b,k,h=>λi=>by
   rw[YI,Yk] at c;simp at a d;subst a;exact c.2.2 k h k (YH.2 ⟨f,Y2 d,i⟩) rfl
 |y::ys,c,k1+1,0,e,f,a,d,b,k,h=>λi=>by
   rw[YI,Yk] at c;simp at a d;subst d;exact c.2.2 k i k (YH.2 ⟨e,Y2 a,h⟩) rfl
 |y::ys,c,k1+1,k2+1,e,f,a,d,b,k,h=>by rw[YI,Yk] at c;exact UP c.2.1 (by simpa using a) (by simpa using d) (by omega) k h
def MC.set{h p d}{j:Nat}{g e}(m:MC h d)(l:d[j]?=some g)(x:Wt p g.1 e)(r:Z0 h p (Z g.1)):MC p (d.set j (g.1,e)):=by
 have u:=(Y0.1 l).1;have t:∀c a,(d.set j (g.1,e))[c]?=some a->(c=j/\a=(g.1,e))\/(c≠j/\d[c]?=some a):=by
  intro c a b;rw[XW] at b;by_cases he:j=c;subst he;simp[u] at b;exact .inl ⟨rfl,b.symm⟩;rw[if_neg he] at b;exact .inr ⟨λw=>he w.symm,b⟩
 refine⟨λa n=>?_,λa n k f=>?_,?_⟩;have⟨c,o⟩:=Xh n;rcases t c a o with⟨_,rfl⟩|⟨q,b⟩;exact x;exact(m.row a (Y2 b)).frame λk f=>r.2 k (m.lt a (Y2 b) k f) (UP m.dis b l q k f);have⟨c,o⟩:=Xh n;rcases t c a o with⟨_,rfl⟩|⟨_,b⟩;exact Y4 (m.lt g (Y2 l) k f) r.1;exact Y4 (m.lt a (Y2 b) k f) r.1
 have:(d.set j (g.1,e)).map Prod.fst=d.map Prod.fst:=by
  rw[YJ];refine YU λi=>?_;rw[XW];by_cases he:j=i;subst he;rw[Y9,l];simp[u];simp[he]
 have v:∀s:List (C×aC),(s.flatMap λg=>Z g.1)=(s.map Prod.fst).flatMap Z:=λs=>by rw[List.flatMap_map]
 rw[v,this,<-v];exact m.dis
def MC.at{h k}{j i:Nat}{g}(m:MC h k)(o:k[j]?=some g)(hi:i<g.2.length):∃lr cap bs,g.1=.mrow lr 0 g.2.length cap/\h.a lr=some bs/\i+1<=bs.length/\lr.1<h.p/\(∃x,Zs 1 (bs.drop i)=some [x]/\some (x.toD)=some (g.2[i]?))/\
  ∀e (b:List (C×aC)) (x:C) (d:D),MC e b->b[j]?=some g->x.toD=some d->MC (e.xV lr (Zi bs i [x])) (b.set j (g.1,g.2.set i d)):=by
 have⟨lr,cap,bs,n,e,p,q,r⟩:=(m.row g (Y2 o)).at hi;have hl:lr∈Z g.1:=by rw[n];simp[Z]
 refine⟨lr,cap,bs,n,e,p,m.lt g (Y2 o) lr hl,q,λH b x d s f hx=>?_⟩;exact s.set f (r H x d hx) (Z0.refl.xV (.inl hl))
def Jm{P n q}{b k d:Nat}{h c x K xs ys}(o:ZC P n=some (q,b,k))(g:Zm h b c xs)(w:x.qE=some ys)(r:0<b)(t:k<=4096)(m:∀y∈ys,y.length=b)(v:xs.length+ys.length<=Zz)
  (u:∀c' e,Zm e b c' (xs++ys)->e.a=h.a->e.p=h.p+1->(∀j a i,Zm h j a i->WM c a->Zm e j a i/\WM c' a)->K (.one c') e):Ud P n c x d h (K:=⟨K⟩):=by
 have f:=λy p=>(Y3.1 p).elim (g.2 y) (m y);refine UQ o g w r t m v (u _ _ (Zm.own (by simp[HS.qC,HS.w]) (by show h.p<(C.qH h c).p+1;rw[ES];omega) f) (by cases c<;>rfl) (by show(C.qH h c).p+1=_;rw[ES]) λj a i l s=>⟨?_,l.apart (Y7 _)⟩);exact((l.qH s).qW (by rw[ES];exact Y7 _)).w
def FO(g:Gr)(d:Int):aB (List Hop×Int):=
 Z1 (Dh g d) λe=>bif e.2 !=0 then some ([],e.2) else
 AB (λ(s:List Int×List Hop×Int) next=>bif decide (s.2.2<(s.1.length:Int)) then
  Zd (λ(i:Nat) (c:Edg) (t:List Int×List Hop) next2=>Za t.1 s.2.2 λx=>Z1 (A3 t.1 ((i:Int)+1)) λa=>Z1 (A3 t.1 c.m) λb=>
   Zp (t.1.length+1<=2097152/\t.2.length+1<=2097152) (bif (c.m==x)&&!a then next2 (t.1++[(i:Int)+1],t.2++[⟨(i:Int),false⟩]) else bif (((i:Int)+1)==x)&&!b then next2 (t.1++[c.m],t.2++[⟨(i:Int),true⟩]) else next2 t))
   (λt=>next (t.1,t.2,s.2.2+1)) g.n 0 (s.1,s.2.1)
  else some (s.2.1,0)) Fp ([d],[],0)
def Z0f(g)(F:Int)(r:List Hop×Int)(c:Is (FO g F) r):
  Zq prog 74 [.agg g.z,.i F] (.tup [.l (r.1.map Hop.z),.i r.2]):=by
 unfold FO at c;refine Zq.of_heap ?_;show Z5 _ _ [.agg (g.z.map C.d),.i F] HS.init _;refine Z5.ov func74 ?_;have⟨v2,a8,c⟩:=c.bind;simp;refine Zx ((Z11 g F).h v2 a8) I ?_;simp;refine ZP c ?_ ?_<;>clear c<;>intro _ c;obtain rfl:=Zk c;simp[ZS,ZK,ZX,W5];exact⟨.data rfl,.data rfl,trivial⟩;simp;refine Z6.rU (λs e h=>∃j o,En e 90 [(2,.p (0,32)),(8,.one j),(9,.one o),(10,.i s.2.2)]/\h.a (0,32)=some [.d (.sl (g.base.q.map E.z)),.d (.sl (g.base.b.map Fk.z)),.d (.sl (g.base.cons.map Cons.z)),.d (.sl (g.n.map Edg.z))]/\0<h.p/\Zm h 1 j (s.1.map Zg)/\Zm h 2 o (s.2.1.map Hop.z)/\WM j o/\0<=s.2.2) c
  ⟨.own (3,368) [Zg F],.nil,I,I,I,Zm.own I I I,Zm.nil,by rw[OS];trivial,I⟩ ?_
 rintro n ⟨q,out,k⟩ e h ⟨j,o,f,u,B,m,v,A,a7⟩ c;simp only at f m v a7 c;simp[f];refine CD m.list (λay=>?_);simp only[Yd] at ay;have bc:q.length<=2097152:=ay;simp[f];refine ZP c ?_ ?_<;>clear c<;>intro hc c;simp[f,u];intro bd;have hk0:k<(q.length:Int):=sU hc;refine Z6.for (xs:=g.n) (s0:=(q,out)) (λi t e h=>∃j o,En e 90 [(2,.p (0,32)),(8,.one j),(9,.one o),(10,.i k),(31,.l (g.n.map Edg.z)),(32,.i (g.n.length:Int)),(33,.i (i:Int))]/\
  h.a (0,32)=some [.d (.sl (g.base.q.map E.z)),.d (.sl (g.base.b.map Fk.z)),.d (.sl (g.base.cons.map Cons.z)),.d (.sl (g.n.map Edg.z))]/\0<h.p/\Zm h 1 j (t.1.map Zg)/\Zm h 2 o (t.2.map Hop.z)/\WM j o) c ⟨j,o,by simp[f],u,B,m,v,A⟩ ?_ ?_
 rintro i t e h ⟨j,o,f,u,B,m,v,A⟩ hlt c;have z:IntKind.i64.wrap ((i:Int)+1)=(i:Int)+1:=Y6 _ X;have⟨x,T,hx,c⟩:=c.get;have⟨a,ha,c⟩:=c.bind;have⟨b,hb,c⟩:=c.bind;have⟨⟨bf,hl2⟩,c⟩:=c.chk;have Y:(t.1.map Zg)[k.toNat]?=some [.int .i64 x]:=by rw[Y9,hx];rfl
 have L:=m.list;simp[f,hlt];refine Z6.cu aX (λy D=>Ek e y [] [2,8,9,10,31,32,33]/\
  y.get 11=.i (i:Int)/\y.get 12=.p (h.p,192)/\D.a (h.p,192)=some [.d (.int .i64 g.n[i].m),.d (.sl (g.n[i].script.map Stp.z))]/\D.a (0,32)=some [.d (.sl (g.base.q.map E.z)),.d (.sl (g.base.b.map Fk.z)),.d (.sl (g.base.cons.map Cons.z)),.d (.sl (g.n.map Edg.z))]/\h.p<D.p/\Zm D 1 j (t.1.map Zg)/\Zm D 2 o (t.2.map Hop.z)/\y.get 38=.b ((g.n[i].m==x)&&!a)) ?_ ?_
 have b0:((0,32):Z2)≠(h.p,192):=I;cases K:(g.n[i].m==x) with|true=>?_|false=>?_;simp[f,L,T,Y,K,z];refine Zx ((HT t.1 ((i:Int)+1)).h a ha) (by simp[Wi,V.toA,m.toA]) ?_;simp[f]
 try refine⟨λ_ _ x=>x,?_⟩
 refine Ze.of ⟨by simp[f],I,I,I,by simp[u],I,m.xV.w.xV.w,v.xV.w.xV.w,I⟩;simp[f,L,T,Y,K]
 try refine⟨λ_ _ x=>x,?_⟩
 refine Ze.of ⟨by simp[f],I,I,I,by simp[u],I,m.xV.w.xV,v.xV.w.xV,I⟩;rintro e1 D ⟨hF,w,a1,be,u,bb,m,v,ba⟩;have f:=hF.an f;simp[ba];refine ZP c ?_ ?_<;>clear c<;>intro _ c;simp[f,w];refine Jm (xs:=t.2.map Hop.z) (ys:=[Hop.z ⟨(i:Int),false⟩]) Zq5 (v.qW I).w rfl dE dE I sO λH J ax G Z O=>?_;have⟨W,P⟩:=O 1 j (t.1.map Zg) (m.qW I).w A.symm;have b4:J.a (0,32)=some [.d (.sl (g.base.q.map E.z)),.d (.sl (g.base.b.map Fk.z)),.d (.sl (g.base.cons.map Cons.z)),.d (.sl (g.n.map Edg.z))]:=by rw[G];simpa using u
 have az:J.a (h.p,192)=some [.d (.int .i64 g.n[i].m),.d (.sl (g.n[i].script.map Stp.z))]:=by rw[G];simpa using be
 simp at Z;simp[f,w,z];refine Jm (xs:=t.1.map Zg) (ys:=[Zg ((i:Int)+1)]) Zpr (W.qW I).w rfl dE dE I sO λc3 h5 U R N M=>?_;have⟨S,Q⟩:=M 2 H _ (ax.qW I).w P.symm;have b5:h5.a (0,32)=some [.d (.sl (g.base.q.map E.z)),.d (.sl (g.base.b.map Fk.z)),.d (.sl (g.base.cons.map Cons.z)),.d (.sl (g.n.map Edg.z))]:=by rw[R];simpa using b4
 simp at N;simp[f,w,z];exact Zj.of (t.1++[(i:Int)+1],t.2++[⟨(i:Int),false⟩]) ⟨⟨c3,H,by simp[f],b5,X,sU U,sU S,Q⟩,c⟩;have L:=m.list;simp[f,w,L,T,Y,z];cases K:(((i:Int)+1)==x) with|true=>?_|false=>?_;rw[K] at c;simp[f,w,a1,be];refine Zx ((HT t.1 g.n[i].m).h b hb) (by simp[Wi,V.toA,m.toA]) ?_;simp[f];refine ZP c ?_ ?_<;>clear c<;>intro _ c;simp[f,w];refine Jm (xs:=t.2.map Hop.z) (ys:=[Hop.z ⟨(i:Int),true⟩]) Zq5 (v.w.qW I).w rfl dE dE I sO λH J ax G Z O=>?_;have⟨W,P⟩:=O 1 j (t.1.map Zg) (m.w.qW I).w A.symm;have b4:J.a (0,32)=some [.d (.sl (g.base.q.map E.z)),.d (.sl (g.base.b.map Fk.z)),.d (.sl (g.base.cons.map Cons.z)),.d (.sl (g.n.map Edg.z))]:=by rw[G];simpa using u
 have az:J.a (h.p,192)=some [.d (.int .i64 g.n[i].m),.d (.sl (g.n[i].script.map Stp.z))]:=by rw[G];simpa using be
 simp at Z;simp[f,w,a1,az];refine Jm (xs:=t.1.map Zg) (ys:=[Zg (g.n[i].m)]) Zpr (W.qW I).w rfl dE dE I sO λc3 h5 U R N M=>?_;have⟨S,Q⟩:=M 2 H _ (ax.qW I).w P.symm;have b5:h5.a (0,32)=some [.d (.sl (g.base.q.map E.z)),.d (.sl (g.base.b.map Fk.z)),.d (.sl (g.base.cons.map Cons.z)),.d (.sl (g.n.map Edg.z))]:=by rw[R];simpa using b4
 simp at N;simp[f,w,z];exact Zj.of (t.1++[g.n[i].m],t.2++[⟨(i:Int),true⟩]) ⟨⟨c3,H,by simp[f],b5,X,sU U,sU S,Q⟩,c⟩
 try simp[f,z]
 exact Zj.of t ⟨⟨j,o,by simp[f],by first|exact u|simpa using u,by first|exact B|(simp<;>omega)|omega,m.w,v.w,A⟩,c⟩;rw[K] at c;simp[f,w,z];exact Zj.of t ⟨⟨j,o,by simp[f],by first|exact u|simpa using u,by first|exact B|(simp<;>omega)|omega,m,v,A⟩,c⟩;rintro t e h ⟨j,o,f,u,B,m,v,A⟩ c;have z:IntKind.i64.wrap (k+1)=k+1:=Y6 _ X;simp[f,z];exact Zj.of (t.1,t.2,k+1) ⟨⟨j,o,by simp[f],u,B,m,v,A,sO⟩,c⟩;obtain rfl:=Zk c;simp[ZS,ZK,ZX,W5,f];exact⟨.data v.toD,.data rfl,trivial⟩
def IQ{x:C}{k}{n:Int}(h:x.toD=some (.int k n)):x=.d (.int k n):=by
 cases x<;>simp[C.toD] at h;rw[h]
def Lc{x:C}{b}(h:x.toD=some (.bool b)):x=.b b:=by
 cases x<;>simp[C.toD] at h;rw[h]
structure PSt where
 insts:List (List J)
 comps:List (List (List J))
 errs:List Int
 reached:List Bool
def PSt.rows(s:PSt)(c a b d:C):List (C×aC):=[(c,s.insts.map Wq),(a,s.comps.map Um),(b,s.errs.map λz=>.int .i64 z),(d,s.reached.map D.bool)]
def EZ(b:Bool)(S:Sch)(a:List Stp)(x:List J)(c:List (List J)):aB (List J×List (List J)×Int):=bif b then UD S a x c else UF S a x c
def H3{ρ:Type}(d:List Sch)(c:Edg)(b:Hop)(n f:Int)(s:PSt)(next:PSt->aB ρ):aB ρ:=
 Za s.reached n λi=>bif !i then next s else Za s.errs n λh=>bif h !=0 then next s else Zp (0<=f/\f<s.reached.length/\f<s.errs.length)<|
  Za d c.m λe=>Za s.insts n λa=>Za s.comps b.edge λg=>Z1 (EZ b.back e c.script a g) λr=>
   bif r.2.2==0 then Zp (f<s.insts.length) (next ⟨s.insts.set f.toNat r.1,s.comps.set b.edge.toNat r.2.1,s.errs.set f.toNat r.2.2,s.reached.set f.toNat true⟩)
   else next ⟨s.insts,s.comps,s.errs.set f.toNat r.2.2,s.reached.set f.toNat true⟩
def FM(g:Gr)(b:List Sch)(e:List (List J))(d:List (List (List J)))(v:Int):aB PSt:=
 Zp (0<=v/\v<b.length)<|Z1 (FO g v) λT=>
 Zd (λ(_:Nat) (a:Hop) (s:PSt) next=>Za g.n a.edge λc=>Zp (Wm (a.edge+1))<|
  H3 b c a (bif a.back then a.edge+1 else c.m) (bif a.back then c.m else a.edge+1) s next) (λs=>some s) T.1 0
  ⟨e,d,List.replicate b.length 0,(List.replicate b.length false).set v.toNat true⟩
set_option maxHeartbeats 2000000 in
def Z04(h)(g:Gr)(f)(ak)(ag)(v:Int)(W U)(r)(hm:Is (FM g f ak ag v) r)(mC:MC h [(W,ak.map Wq),(U,ag.map Um)])(K)
  (hK:∀ce cr h',MC h' (r.rows W U ce cr)->Z0 h h' (Z W++Z U)->(∀k∈Z ce++Z cr,h.p<=k.1)->K (.tup [.one ce,.one cr]) h'):
  Z5 prog 45 [.agg (g.z.map C.d),.l (f.map Sch.z),.agg [W,U],.i v] h K:=by
 refine Z5.ov func45 ?_;unfold FM at hm;have⟨⟨ew,e6⟩,hm⟩:=hm.chk;have⟨T,hT,hm⟩:=hm.bind;have mk:∀(H:HS) (u lr:Z2),f.length<=2097152->H.a u=some (List.replicate f.length (.i 0))->H.a lr=some (List.replicate f.length (.b false))->u≠lr->h.p+1<u.1->u.1<H.p->h.p+1<lr.1->lr.1<H.p->Z0 h H []->
   MC H ((⟨ak,ag,List.replicate f.length 0,List.replicate f.length false⟩:PSt).rows W U (.mrow u 0 f.length f.length) (.mrow lr 0 f.length f.length)):=by
  intro H u lr hn b1 b2 hne g1 g2 g3 g4 hs;have m2:=mC.new hs;have hlt:=mC.lt;have hd:=mC.dis;simp only[YI,XS,Ym] at hd;have hi:∀k∈Z W,k.1<h.p:=hlt _ (Y8 ..);have hc:∀k∈Z U,k.1<h.p:=hlt _ (Yc _ (Y8 ..));have c1:=Wt.make b1 (d:=.int .i64 0) rfl hn;have c2:=Wt.make b2 (d:=.bool false) rfl hn;refine⟨λq t=>?_,λq t k S=>?_,?_⟩;simp only[PSt.rows,Y35,Y5,Xn,or_false] at t;rcases t with rfl|rfl|rfl|rfl;exact m2.row _ (Y8 ..);exact m2.row _ (Yc _ (Y8 ..));exact c1;exact c2;have el:=hs.1;simp only[PSt.rows,Y35,Y5,Xn,or_false] at t;rcases t with rfl|rfl|rfl|rfl
  have:=hi k S;omega
  have:=hc k S;omega
  simp only[Z,Yj] at S;rw[S];exact g2;simp only[Z,Yj] at S;rw[S];exact g4;simp only[PSt.rows,YI,XS,Ym,Z];have hn:=Yk.1 hd;refine Yk.2 ⟨hn.1,Yk.2 ⟨hn.2.1,by simp[hne],λa ha b hb he=>?_⟩,λa ha b hb he=>?_⟩;subst he
  have:=hc a ha
  simp at hb;rcases hb with rfl|rfl<;>omega;subst he
  have:=hi a ha
  simp at hb;rcases hb with hb|rfl|rfl;exact hn.2.2 a ha a hb rfl;omega;omega
 simp;refine Z6.cut (Y.qB [0,1,3,4] (.two 2 5 (Y.qB [6,5,7] .done) (Y.qB [2,6,7] .done))) follows kR (λe1 h1=>∃ce cr,En e1 118 [(1,.l (f.map Sch.z)),(3,.i v),(4,.p (h.p,64)),(6,.p (h.p+1,96)),(8,.one ce),(9,.one cr)]/\
  h1.a (h.p,64)=some (g.z.map C.d)/\h1.a (h.p+1,96)=some [W,U]/\MC h1 ((⟨ak,ag,List.replicate f.length 0,List.replicate f.length false⟩:PSt).rows W U ce cr)/\Z0 h h1 []/\(∀k∈Z ce++Z cr,h.p+1<k.1)/\h.p+1<h1.p) ?_ ?_
 simp;intro d4;refine⟨⟨X,Ze.of ⟨.mrow (h.p+1+1,368) 0 f.length f.length,.mrow (h.p+1+1+1,416) 0 f.length f.length,I,I,I,mk _ (h.p+1+1,368) (h.p+1+1+1,416) d4 I I I I I I I ?_,?_,by simp[Z],I⟩⟩,?_⟩;exact sm;exact sm;refine⟨X,Ze.of ⟨.mrow (h.p+1+1+1,368) 0 f.length f.length,.mrow (h.p+1+1,416) 0 f.length f.length,I,I,I,mk _ (h.p+1+1+1,368) (h.p+1+1,416) d4 I I I I I I I ?_,?_,by simp[Z],I⟩⟩;exact sm;exact sm;rintro e1 h1 ⟨ce,cr,n,bg,bd,mP,ek,b0,e2⟩;have et:v.toNat<(List.map D.bool (List.replicate f.length false)).length:=sO
 obtain⟨lr,cap,bs,ao,aq,ei,dj,-,d6⟩:=mP.at (j:=3) rfl et;simp only[Yd,Xi] at ao;have e5:=Zv dj;have d3:v.toNat<f.length:=X
 have eb:((h.p,64)=lr)=False:=eq_false (by rintro rfl;have h9:h.p+1<h.p:=b0 (h.p,64) (by rw[ao];simp[Z]);omega);have ex:((h.p+1,96)=lr)=False:=eq_false (by rintro rfl;have h9:h.p+1<h.p+1:=b0 (h.p+1,96) (by rw[ao];simp[Z]);omega);have m1:=d6 h1 _ (.b true) (.bool true) mP rfl rfl;rw[ao] at n;simp only[Gr.z,Yb,Yf] at bg;simp[n,ew,d3,aq,ei,bg,eb];refine Zx (Z0f g v T hT) I ?_;simp[n];intro e4;have d5:∀k∈Z W,k.1<h.p:=mC.lt _ (Y8 ..);have d9:∀k∈Z U,k.1<h.p:=mC.lt _ (Yc _ (Y8 ..));have ea:∀k∈Z ce,h.p+1<k.1:=λk S=>b0 k (by simp[S]);have cl:∀k∈Z cr,h.p+1<k.1:=λk S=>b0 k (by simp[S]);have eo:MC (h1.xV lr (Zi bs v.toNat [.b true])) ((⟨ak,ag,List.replicate f.length 0,(List.replicate f.length false).set v.toNat true⟩:PSt).rows W U ce cr):=by simpa[PSt.rows,n] using m1
 rw[<-ao] at n|-;refine Z6.for (xs:=T.1) (λi s o h'=>Ek e1 o [(36,.l (T.1.map Hop.z)),(37,.i (T.1.length:Int)),(38,.i (i:Int))] [1,4,6,8,9]/\
  h'.a (h.p,64)=some (g.z.map C.d)/\h'.a (h.p+1,96)=some [W,U]/\MC h' (s.rows W U ce cr)/\Z0 h h' (Z W++Z U)/\h.p+1<h'.p) hm
  ⟨by simp[n],by simp[eb,bg],by simp[ex,bd],eo.new sm,?_,sO⟩ ?_ ?_
 refine(Z0.xV (ek.mn) (.inr ?_)).w
 have:=cl lr (by rw[ao];simp[Z])
 omega
 .rintro i s e h' ⟨hF,bg,bd,mP,hs,el⟩ hlt hm;have n:=hF.an n;have hw:IntKind.i64.wrap ((i:Int)+1)=(i:Int)+1:=Y6 _ X;have⟨L,bu,dp,hm⟩:=hm.get;have⟨ee,hm⟩:=hm.chk;have ec:=LL ee;simp only[Gr.z,Yb,Yf] at bg;simp[n,hlt,bg,bu,dp];refine Z6.cu aU (λo M=>Ek e o [(13,.p (h'.p,208)),(14,.p (h'.p+1,224))] [1,4,6,8,9,36,37,38]/\M.a (h'.p,208)=some [.i T.1[i].edge,.b T.1[i].back]/\M.a (h'.p+1,224)=some [.i L.m,.l (L.script.map Stp.z)]/\o.get 15=.i L.m/\o.get 16=.i (T.1[i].edge+1)/\Z0 h' M []/\h'.p+1<M.p) ?_ ?_;simp[n,ec];refine Ze.of ⟨by simp[n],I,I,I,I,?_,I⟩;exact sm;rintro E2 M ⟨hF,am,d7,af,N,bm,e3⟩;have n:=hF.an n;have y:=mP.new bm;have bp:=(bm.2 (h.p,64) sO I).trans bg;have ax:=(bm.2 (h.p+1,96) sO I).trans bd;have hs2:=hs.trans (bm.mn);cases hbk:T.1[i].back with
  |false=>
    rw[hbk] at hm am;simp only[cond_false] at hm;simp[n,af,am];unfold H3 at hm;have⟨rn,bn,bq,hm⟩:=hm.get;have bw:(L.m).toNat<(s.reached.map D.bool).length:=sU ((Y0.1 bq).1);have⟨lr,R,br,ao,aq,_,dj,⟨xr,di,cy⟩,dx⟩:=y.at (j:=3) rfl bw;simp only[Y9,bq,Yp,Ya] at cy;obtain rfl:=Lc cy;have b3:cr=.mrow lr 0 s.reached.length R:=sU ao;subst b3;have da:(L.m).toNat < s.reached.length:=sU bw;simp[n,af,bn,da,aq,di];cases rn with|false=>?_|true=>?_;simp only[XO,cond_true] at hm;simp[n,af,hw];exact Zj.of s ⟨⟨by simp[n],sU bp,ax,y,hs2,X⟩,hm⟩;simp only[Xx,cond_false] at hm;obtain⟨em,-,c7,hm⟩:=hm.get;have hne:(L.m).toNat < (s.errs.map λz=>D.int .i64 z).length:=sU ((Y0.1 c7).1);have ⟨u,P,be,ca,bk,_,dn,⟨xe,dq,b7⟩,d1⟩:=y.at (j:=2) rfl hne;simp only[Y9,c7,Yp,Ya] at b7;obtain rfl:=IQ b7;have b9:ce=.mrow u 0 s.errs.length P:=sU ca;subst b9;have hne':(L.m).toNat < s.errs.length:=sU hne;simp[n,af,bn,hne',bk,dq];refine ZP hm ?_ ?_<;>clear hm<;>intro _ hm;simp[n,af,hw];exact Zj.of s ⟨⟨by simp[n],sU bp,ax,y,hs2,X⟩,hm⟩;have ⟨⟨bf,e0,eg⟩,hm⟩:=hm.chk;have ⟨dv,dz,b5,hm⟩:=hm.get;obtain⟨inst,-,c8,hm⟩:=hm.get;obtain⟨cm,-,cg,hm⟩:=hm.get;have ⟨A,bv,hm⟩:=hm.bind;rw[hbk] at bv;have cx:(T.1[i].edge+1).toNat < s.reached.length:=X
    have dc:(T.1[i].edge+1).toNat < s.errs.length:=X;have cp:(L.m).toNat < s.insts.length:=(Y0.1 c8).1;have a8:T.1[i].edge.toNat < s.comps.length:=(Y0.1 cg).1;obtain⟨en,df,ef,F,dd,bj,-,-,a1⟩:=y.at (j:=3) (i:=(T.1[i].edge+1).toNat) rfl (sU cx);simp at F;obtain⟨rfl,rfl⟩:=F;obtain rfl:=Option.some.inj (aq.symm.trans dd);obtain⟨eh,dw,ez,F,cq,bb,-,-,ar⟩:=y.at (j:=2) (i:=(T.1[i].edge+1).toNat) rfl (sU dc);simp at F;obtain⟨rfl,rfl⟩:=F;obtain rfl:=Option.some.inj (bk.symm.trans cq);obtain⟨G,Q,bi,F,ay,_,dt,⟨xi,dy,cb⟩,-⟩:=y.at (j:=0) (i:=(L.m).toNat) rfl (sU cp);have aj:W=.mrow G 0 s.insts.length Q:=sU F;subst aj;simp only[Y9,c8,Yp,Ya] at cb;have ⟨B,O,bc,F,bt,cw,dm,⟨xc,dk,de⟩,bh⟩:=y.at (j:=1) (i:=T.1[i].edge.toNat) rfl (sU a8);have aj:U=.mrow B 0 s.comps.length O:=sU F;subst aj;simp only[Y9,cg,Yp,Ya] at de;have au:lr.1 < h'.p:=mP.lt _ (Yc _ (Yc _ (Yc _ (Y8 ..)))) lr (by simp[Z]);have cz:u.1 < h'.p:=mP.lt _ (Yc _ (Yc _ (Y8 ..))) u (by simp[Z]);have q1:=W1 au;have q2:=W1 cz;have b6:h.p+1 < lr.1:=cl lr (by simp[Z]);have b4:h.p+1 < u.1:=ea u (by simp[Z]);have q3:((h.p+1,96)=lr)=False:=eq_false (by rintro rfl;simp at b6);have q4:((h.p+1,96)=u)=False:=eq_false (by rintro rfl;simp at b4);have q5:(G=lr)=False:=eq_false (λt=>UP y.dis (k1:=0) (k2:=3) rfl rfl dE G (by simp[Z]) (by simp[Z,t]));have q6:(B=lr)=False:=eq_false (λt=>UP y.dis (k1:=1) (k2:=3) rfl rfl dE B (by simp[Z]) (by simp[Z,t]));have q7:(u=lr)=False:=eq_false (λt=>UP y.dis (k1:=2) (k2:=3) rfl rfl dE u (by simp[Z]) (by simp[Z,t]));have q8:(G=u)=False:=eq_false (λt=>UP y.dis (k1:=0) (k2:=2) rfl rfl dE G (by simp[Z]) (by simp[Z,t]))
    have q9:(B=u)=False:=eq_false (λt=>UP y.dis (k1:=1) (k2:=2) rfl rfl dE B (by simp[Z]) (by simp[Z,t]));have d0:(B=G)=False:=eq_false (λt=>UP y.dis (k1:=1) (k2:=0) rfl rfl dE B (by simp[Z]) (by simp[Z,t]));have m3:=a1 M _ (.b true) (.bool true) y rfl rfl;simp[n,af,N,am,bf,cx,aq,bj,q1];refine Z6.cu bC (λo h4=>Ek E2 o [(8,.one (.mrow u 0 s.errs.length P)),(9,.one (.mrow lr 0 s.reached.length R))] [1,4,6,36,37,38] /\
     o.get 13=.p (h'.p,208)/\o.get 16=.i (T.1[i].edge+1)/\o.get 18=.l (A.1.map J.z)/\o.get 19=.l (A.2.1.map (Z7 J.z))/\o.get 20=.i A.2.2/\Z0 (M.xV lr (Zi br (T.1[i].edge+1).toNat [.b true])) h4 []) ?_ ?_
    simp[n,af,am,d7,dz,b5,cp,bu,a8,ay,bt,dy,dk,q1,q3,q5,q6,ax];refine Zx (NA dv L.script inst cm A bv) (by simp[Wi,V.toA,(F3 cb).2.2,(F3 de).2.2]) ?_;simp[n]
    try refine⟨λ_ _ x=>x,?_⟩
    refine Ze.of ⟨by simp[n],by simp[n],by simp[N],I,I,I,?_⟩;exact sm;rintro E3 h4 ⟨hF,dh,N,dg,dr,az,ae⟩;have n:=hF.an n;have m4:=m3.new ae;have m5:=ar h4 _ (.i A.2.2) (.int .i64 A.2.2) m4 rfl rfl;have E:∀ k:Z2,k.1 < M.p->k≠lr->h4.a k=M.a k:=λk S t=>by
     have:=ae.2 k (sU S) I
     rw[this];simp[t]
    have c6:=(E u dn (sU q7)).trans bk;have cd:=(E G dt (sU q5)).trans ay;have cn:=(E B dm (sU q6)).trans bt;have bz:=(E (h'.p,208) (by show h'.p < M.p;omega) (by intro t;have h9:=au;rw[<- t] at h9;exact absurd h9 (XL _))).trans am;have ba:=(E (h.p+1,96) (by show h.p+1 < M.p;omega) (λt=>by rw[q3] at t;exact t)).trans ax;have ch:=(E (h.p,64) (by show h.p < M.p;omega) (by intro t;have h9:=b6;rw[<- t] at h9;have h9:h.p+1 < h.p:=h9;omega)).trans bp;have aw:((h.p,64)=u)=False:=eq_false (by rintro rfl;have h9:h.p+1 < h.p:=b4;omega);have cj:=ae.1;simp at cj;have ck:Z0 h (h4.xV u (Zi be (T.1[i].edge+1).toNat [.i A.2.2])) (Z (.mrow G 0 s.insts.length Q)++Z (.mrow B 0 s.comps.length O)):=
     Z0.xV (Z0.trans (Z0.xV hs2 (.inr X)) (ae.mn)) (.inr X)
    simp[n,N,az,bf,dc,c6,bb];refine ZP hm ?_ ?_<;>clear hm<;>intro _ hm
    .have ⟨d8,hm⟩:=hm.chk;have hfi:(T.1[i].edge+1).toNat < s.insts.length:=X
     obtain⟨ey,dl,ej,F,b8,a7,-,-,ap⟩:=y.at (j:=0) (i:=(T.1[i].edge+1).toNat) rfl (sU hfi);simp at F;obtain⟨rfl,rfl⟩:=F;obtain rfl:=Option.some.inj (ay.symm.trans b8);have m6:=ap _ _ (.d (Wq A.1)) (Wq A.1) m5 rfl rfl;have m7:=bh _ _ (.d (Um A.2.1)) (Um A.2.1) m6 rfl rfl;have al:G.1 < h.p:=d5 G (by simp[Z]);have ah:B.1 < h.p:=d9 B (by simp[Z]);have p1:=W1 al;have p2:=W1 ah;have p3:=Zv al;have p4:=Zv ah;have p5:((h'.p,208)=G)=False:=eq_false (by rintro rfl;simp at al;omega);have p6:((h'.p,208)=B)=False:=eq_false (by rintro rfl;simp at ah;omega);simp[n,N,az];refine Z6.cut (Y.qB [0,1,2,3,5,7,8,9] (.three 4 6 10 (Y.qB [] (.two 6 10 (Y.qB [10,11,12] .done) (Y.qB [6,11,12] .done))) (Y.qB [] (.two 4 10 (Y.qB [10,11,12] .done) (Y.qB [4,11,12] .done))) (Y.qB [4,6,11,12] .done))) follows kR (λo h5=>Ek E3 o [] [1,4,6,8,9,36,37,38] /\
      h5=((h4.xV u (Zi be (T.1[i].edge+1).toNat [.i A.2.2])).xV G (Zi bi (T.1[i].edge+1).toNat [.d (Wq A.1)])).xV B (Zi bc T.1[i].edge.toNat [.d (Um A.2.1)])) ?_ ?_
     .simp[n,dh,N,dg,dr,bf,hfi,bu,a8,cd,cn,a7,cw,bz,ba,q2,q4,q8,q9,d0,p1,p5]
      repeat' with_reducible refine And.intro ?_ ?_
      all_goals first
       | (refine Ze.of ⟨by simp[n],rfl⟩)
     rintro E4 h5 ⟨hF,rfl⟩;have n:=hF.an n;simp[n,hw];refine Zj.of _ ⟨⟨by simp[n],?_,?_,?_,?_,?_⟩,hm⟩;simp[p1,p2,aw];simpa using ch;simp[p1,p2,q4];exact ba;simpa[PSt.rows,YJ] using m7;exact (ck.xV (.inl (by simp[Z]))).xV (.inl (by simp[Z]));simp;omega
    simp[n,N,az,hw];refine Zj.of _ ⟨⟨by simp[n],?_,?_,?_,ck,?_⟩,hm⟩;simp[aw];simpa using ch;simp[q4];exact ba;simpa[PSt.rows,YJ] using m5;simp;omega
  |true=>?_
  rw[hbk] at hm am;simp only[cond_true] at hm;simp[n,af,N,am];unfold H3 at hm;have ⟨rn,bn,bq,hm⟩:=hm.get;have bw:(T.1[i].edge+1).toNat < (s.reached.map D.bool).length:=sU ((Y0.1 bq).1);have ⟨lr,R,br,ao,aq,_,dj,⟨xr,di,cy⟩,dx⟩:=y.at (j:=3) rfl bw;simp only[Y9,bq,Yp,Ya] at cy;obtain rfl:=Lc cy;have b3:cr=.mrow lr 0 s.reached.length R:=sU ao;subst b3;have da:(T.1[i].edge+1).toNat < s.reached.length:=sU bw;simp[n,af,N,bn,da,aq,di];cases rn with|false=>?_|true=>?_;simp only[XO,cond_true] at hm;simp[n,af,N,hw];exact Zj.of s ⟨⟨by simp[n],sU bp,ax,y,hs2,X⟩,hm⟩;simp only[Xx,cond_false] at hm;obtain⟨em,-,c7,hm⟩:=hm.get;have hne:(T.1[i].edge+1).toNat < (s.errs.map λz=>D.int .i64 z).length:=sU ((Y0.1 c7).1);have ⟨u,P,be,ca,bk,_,dn,⟨xe,dq,b7⟩,d1⟩:=y.at (j:=2) rfl hne;simp only[Y9,c7,Yp,Ya] at b7;obtain rfl:=IQ b7;have b9:ce=.mrow u 0 s.errs.length P:=sU ca;subst b9;have hne':(T.1[i].edge+1).toNat < s.errs.length:=sU hne;simp[n,af,N,bn,hne',bk,dq];refine ZP hm ?_ ?_<;>clear hm<;>intro _ hm;simp[n,af,N,hw];exact Zj.of s ⟨⟨by simp[n],sU bp,ax,y,hs2,X⟩,hm⟩;have ⟨⟨bf,e0,eg⟩,hm⟩:=hm.chk;have ⟨dv,dz,b5,hm⟩:=hm.get;obtain⟨inst,-,c8,hm⟩:=hm.get;obtain⟨cm,-,cg,hm⟩:=hm.get;have ⟨A,bv,hm⟩:=hm.bind;rw[hbk] at bv;have cx:(L.m).toNat < s.reached.length:=X
  have dc:(L.m).toNat < s.errs.length:=X;have cp:(T.1[i].edge+1).toNat < s.insts.length:=(Y0.1 c8).1;have a8:T.1[i].edge.toNat < s.comps.length:=(Y0.1 cg).1;obtain⟨en,df,ef,F,dd,bj,-,-,a1⟩:=y.at (j:=3) (i:=(L.m).toNat) rfl (sU cx);simp at F;obtain⟨rfl,rfl⟩:=F;obtain rfl:=Option.some.inj (aq.symm.trans dd);obtain⟨eh,dw,ez,F,cq,bb,-,-,ar⟩:=y.at (j:=2) (i:=(L.m).toNat) rfl (sU dc);simp at F;obtain⟨rfl,rfl⟩:=F;obtain rfl:=Option.some.inj (bk.symm.trans cq);obtain⟨G,Q,bi,F,ay,_,dt,⟨xi,dy,cb⟩,-⟩:=y.at (j:=0) (i:=(T.1[i].edge+1).toNat) rfl (sU cp);have aj:W=.mrow G 0 s.insts.length Q:=sU F;subst aj;simp only[Y9,c8,Yp,Ya] at cb;have ⟨B,O,bc,F,bt,cw,dm,⟨xc,dk,de⟩,bh⟩:=y.at (j:=1) (i:=T.1[i].edge.toNat) rfl (sU a8);have aj:U=.mrow B 0 s.comps.length O:=sU F;subst aj;simp only[Y9,cg,Yp,Ya] at de;have au:lr.1 < h'.p:=mP.lt _ (Yc _ (Yc _ (Yc _ (Y8 ..)))) lr (by simp[Z]);have cz:u.1 < h'.p:=mP.lt _ (Yc _ (Yc _ (Y8 ..))) u (by simp[Z]);have q1:=W1 au;have q2:=W1 cz;have b6:h.p+1 < lr.1:=cl lr (by simp[Z]);have b4:h.p+1 < u.1:=ea u (by simp[Z]);have q3:((h.p+1,96)=lr)=False:=eq_false (by rintro rfl;simp at b6);have q4:((h.p+1,96)=u)=False:=eq_false (by rintro rfl;simp at b4);have q5:(G=lr)=False:=eq_false (λt=>UP y.dis (k1:=0) (k2:=3) rfl rfl dE G (by simp[Z]) (by simp[Z,t]));have q6:(B=lr)=False:=eq_false (λt=>UP y.dis (k1:=1) (k2:=3) rfl rfl dE B (by simp[Z]) (by simp[Z,t]));have q7:(u=lr)=False:=eq_false (λt=>UP y.dis (k1:=2) (k2:=3) rfl rfl dE u (by simp[Z]) (by simp[Z,t]));have q8:(G=u)=False:=eq_false (λt=>UP y.dis (k1:=0) (k2:=2) rfl rfl dE G (by simp[Z]) (by simp[Z,t]))
  have q9:(B=u)=False:=eq_false (λt=>UP y.dis (k1:=1) (k2:=2) rfl rfl dE B (by simp[Z]) (by simp[Z,t]));have d0:(B=G)=False:=eq_false (λt=>UP y.dis (k1:=1) (k2:=0) rfl rfl dE B (by simp[Z]) (by simp[Z,t]));have m3:=a1 M _ (.b true) (.bool true) y rfl rfl;simp[n,af,N,am,bf,cx,aq,bj,q1];refine Z6.cu bC (λo h4=>Ek E2 o [(8,.one (.mrow u 0 s.errs.length P)),(9,.one (.mrow lr 0 s.reached.length R))] [1,4,6,36,37,38] /\
   o.get 13=.p (h'.p,208)/\o.get 16=.i (L.m)/\o.get 18=.l (A.1.map J.z)/\o.get 19=.l (A.2.1.map (Z7 J.z))/\o.get 20=.i A.2.2/\Z0 (M.xV lr (Zi br (L.m).toNat [.b true])) h4 []) ?_ ?_
  simp[n,am,d7,dz,b5,bn,cp,bu,a8,ay,bt,dy,dk,q1,q3,q5,q6,ax];refine Zx (Nv dv L.script inst cm A bv) (by simp[Wi,V.toA,(F3 cb).2.2,(F3 de).2.2]) ?_;simp[n]
  try refine⟨λ_ _ x=>x,?_⟩
  refine Ze.of ⟨by simp[n],by simp[n],I,I,I,I,?_⟩;exact sm;rintro E3 h4 ⟨hF,dh,N,dg,dr,az,ae⟩;have n:=hF.an n;have m4:=m3.new ae;have m5:=ar h4 _ (.i A.2.2) (.int .i64 A.2.2) m4 rfl rfl;have E:∀ k:Z2,k.1 < M.p->k≠lr->h4.a k=M.a k:=λk S t=>by
   have:=ae.2 k (sU S) I
   rw[this];simp[t]
  have c6:=(E u dn (sU q7)).trans bk;have cd:=(E G dt (sU q5)).trans ay;have cn:=(E B dm (sU q6)).trans bt;have bz:=(E (h'.p,208) (by show h'.p < M.p;omega) (by intro t;have h9:=au;rw[<- t] at h9;exact absurd h9 (XL _))).trans am;have ba:=(E (h.p+1,96) (by show h.p+1 < M.p;omega) (λt=>by rw[q3] at t;exact t)).trans ax;have ch:=(E (h.p,64) (by show h.p < M.p;omega) (by intro t;have h9:=b6;rw[<- t] at h9;have h9:h.p+1 < h.p:=h9;omega)).trans bp;have aw:((h.p,64)=u)=False:=eq_false (by rintro rfl;have h9:h.p+1 < h.p:=b4;omega);have cj:=ae.1;simp at cj;have ck:Z0 h (h4.xV u (Zi be (L.m).toNat [.i A.2.2])) (Z (.mrow G 0 s.insts.length Q)++Z (.mrow B 0 s.comps.length O)):=
   Z0.xV (Z0.trans (Z0.xV hs2 (.inr X)) (ae.mn)) (.inr X)
  simp[n,N,az,bf,dc,c6,bb];refine ZP hm ?_ ?_<;>clear hm<;>intro _ hm
  .have ⟨d8,hm⟩:=hm.chk;have hfi:(L.m).toNat < s.insts.length:=X
   obtain⟨ey,dl,ej,F,b8,a7,-,-,ap⟩:=y.at (j:=0) (i:=(L.m).toNat) rfl (sU hfi);simp at F;obtain⟨rfl,rfl⟩:=F;obtain rfl:=Option.some.inj (ay.symm.trans b8);have m6:=ap _ _ (.d (Wq A.1)) (Wq A.1) m5 rfl rfl;have m7:=bh _ _ (.d (Um A.2.1)) (Um A.2.1) m6 rfl rfl;have al:G.1 < h.p:=d5 G (by simp[Z]);have ah:B.1 < h.p:=d9 B (by simp[Z]);have p1:=W1 al;have p2:=W1 ah;have p3:=Zv al;have p4:=Zv ah;have p5:((h'.p,208)=G)=False:=eq_false (by rintro rfl;simp at al;omega);have p6:((h'.p,208)=B)=False:=eq_false (by rintro rfl;simp at ah;omega);simp[n,N,az];refine Z6.cut (Y.qB [0,1,2,3,5,7,8,9] (.three 4 6 10 (Y.qB [] (.two 6 10 (Y.qB [10,11,12] .done) (Y.qB [6,11,12] .done))) (Y.qB [] (.two 4 10 (Y.qB [10,11,12] .done) (Y.qB [4,11,12] .done))) (Y.qB [4,6,11,12] .done))) follows kR (λo h5=>Ek E3 o [] [1,4,6,8,9,36,37,38] /\
    h5=((h4.xV u (Zi be (L.m).toNat [.i A.2.2])).xV G (Zi bi (L.m).toNat [.d (Wq A.1)])).xV B (Zi bc T.1[i].edge.toNat [.d (Um A.2.1)])) ?_ ?_
   .simp[n,dh,N,dg,dr,bf,hfi,bu,a8,cd,cn,a7,cw,bz,ba,q2,q4,q8,q9,d0,p1,p5]
    repeat' with_reducible refine And.intro ?_ ?_
    all_goals first
     | (refine Ze.of ⟨by simp[n],rfl⟩)
   rintro E4 h5 ⟨hF,rfl⟩;have n:=hF.an n;simp[n,hw];refine Zj.of _ ⟨⟨by simp[n],?_,?_,?_,?_,?_⟩,hm⟩;simp[p1,p2,aw];simpa using ch;simp[p1,p2,q4];exact ba;simpa[PSt.rows,YJ] using m7;exact (ck.xV (.inl (by simp[Z]))).xV (.inl (by simp[Z]));simp;omega
  simp[n,N,az,hw];refine Zj.of _ ⟨⟨by simp[n],?_,?_,?_,ck,?_⟩,hm⟩;simp[aw];simpa using ch;simp[q4];exact ba;simpa[PSt.rows,YJ] using m5;simp;omega
 rintro s e h' ⟨hF,_,_,mP,hs,_⟩ hm;have n:=hF.an n;obtain rfl:=Zk hm;simp[n,ZS,ZK,ZX,W5];exact hK ce cr h' mP hs λk S=>by have:=b0 k S;omega
structure Tr(b:Bool)(S:Sch)(sc:List Stp)(Ss:List Sch)(jq0:Nat->List J)(cs cs':List (List J)):Prop where
 sch:Bu S sc=some (Ss,0)
 ok:ScrOK S sc Ss
 lc:cs.length=sc.length
 lc':cs'.length=sc.length
 conf:∀T,Ss[bif b then sc.length else 0]?=some T->CF T (jq0 (bif b then sc.length else 0))
 step:∀i x y c,sc[i]?=some x->Ss[i]?=some y->cs[i]?=some c->∃d,cs'[i]?=some d/\Zq2 b y x (jq0 (bif b then i+1 else i)) c=some (jq0 (bif b then i else i+1),d,0)
def J6(S f)(P:∀x∈f,U7 x)(a)(v):Wp (UF S f a v) λr=>r.2.2=0->SB f.length r/\∃Ss b,Tr false S f Ss b v r.2.1/\b 0=a/\b f.length=r.1:=by
 unfold UF;refine X0 (K8 S f P) λq W hq=>X1 (λh=>X2 λg=>by simp only at g;rw[g] at h;cases h) λh=>?_;have l:=hq (sU h);have Y:q.2=0:=sU h;have O:=l.vs S (Y2 l.fst);refine X7 λE=>?_;have E:v.length=f.length:=by simp at E;omega
 refine X0 (Cp S (λT p=>(O.tab T p).pk6) a) λe _ he=>X1 (λh=>X2 λg=>by simp only at g;rw[g] at h;cases h) λh=>?_;have V:=he (sU h);have D:=V.rb O;refine X0 (Cm a (by have:=D.1;omega) λr F=>by have:=D.2 r F;omega) λQ _ U=>?_;subst U;refine X6 (λi s=>(RB s.1/\∀c∈s.2,RB c)/\s.2.length=f.length/\∃b:Nat->List J,b 0=Q/\b i=s.1/\∀j x y c,j<i->f[j]?=some x->q.1[j]?=some y->v[j]?=some c->∃d,s.2[j]?=some d/\Zq2 false y x (b j) c=some (b (j+1),d,0)) ⟨⟨D,λc w=>by rw[(List.mem_replicate.1 w).2];exact .nil⟩,I,λ_=>Q,rfl,rfl,λj x y c h=>absurd h (XB _)⟩ ?_ λs G=>X2 λ_=>?_
 .intro i x s next M R G hn
  have hi:=(Y0.1 M).1;have⟨u,t,b,z,H,C⟩:=G;refine X3 X (by have:=l.len;omega) λB K _=>X3 X X λc L _=>X0 (show Wp (A9 B x s.1 c) _ from Rx false B x (P x R) s.1 c) λr F N=>X1 (λh=>X2 λg=>by simp only at g;rw[g] at h;cases h) λh=>?_;have A:r.2.2=0:=sU h;refine hn _ ⟨⟨(N A).1,Ry u.2 (N A).2⟩,by simp only[Xf];exact t,λk=>if k<=i then b k else r.1,by simp[z],by simp only;rw[if_neg X],λj x' y Z hj m n o=>?_⟩;rcases Yx j i with w|w;have⟨d,d1,d2⟩:=C j x' y Z w m n o;refine⟨d,by simp only;rwa [Ys X],?_⟩
  dsimp only
  rwa [if_pos X,if_pos X]
  obtain rfl:j=i:=X;rw[M] at m;simp only[Yn] at K L;rw[K] at n;rw[L] at o;cases m;cases n;cases o;refine⟨r.2.1,by simp only;rw[Yr X],?_⟩
  dsimp only
  rw[if_pos (Y7 _),if_neg X,H];show A9 B x s.1 c=_;rw[F,<-A]
 have⟨u,t,b,z,H,C⟩:=G;refine⟨⟨u.1,t,u.2,l.l6⟩,q.1,b,⟨by rw[W,<-Y],l,E,t,λT p=>?_,λi x y c m n o=>C i x y c (Y0.1 m).1 m n o⟩,z,H⟩;simp only[cond_false] at p|-;rw[l.fst] at p;cases p
 rwa [z]
def Mk(S g)(R:∀x∈g,U7 x)(a)(v):Wp (UD S g a v) λr=>r.2.2=0->SB g.length r/\∃Ss b,Tr true S g Ss b v r.2.1/\b g.length=a/\b 0=r.1:=by
 unfold UD;refine X0 (K8 S g R) λq aq hq=>X1 (λh=>X2 λf=>by simp only at f;rw[f] at h;cases h) λh=>?_;have u:=hq (sU h);have ar:q.2=0:=sU h;have aw:=u.len;refine X7 λG=>?_;have G:v.length=g.length:=by simp at G;omega
 refine X3 X X λl O ap=>?_;have Q:=u.vs l ap;refine X0 (Cp l (λT p=>(Q.tab T p).pk6) a) λe _ he=>X1 (λh=>X2 λf=>by simp only at f;rw[f] at h;cases h) λh=>?_;have Z:=he (sU h);have F:=Z.rb Q;refine X0 (Cm a (by have:=F.1;omega) λr K=>by have:=F.2 r K;omega) λU _ Y=>?_;subst Y;refine Xd (λs:Int×List J×List (List J)=>(RB s.2.1/\∀c∈s.2.2,RB c)/\-1<=s.1/\s.1<g.length/\s.2.2.length=g.length/\∃b:Nat->List J,b g.length=U/\b (s.1+1).toNat=s.2.1/\∀(j:Nat) x y c,s.1<j->g[j]?=some x->q.1[j]?=some y->v[j]?=some c->∃d,s.2.2[j]?=some d/\Zq2 true y x (b (j+1)) c=some (b j,d,0)) (λs=>(s.1+1).toNat) ?_ _ _ ⟨⟨F,λc w=>by simp only at w;rw[(List.mem_replicate.1 w).2];exact .nil⟩,by simp only;omega,by simp only;omega,I,λ_=>U,rfl,rfl,λj x y c h m=>?_⟩ (by simp only;omega)
 .intro s next hs hn
  have⟨E,au,H,B,b,V,t,z⟩:=hs;refine X1 (λf=>?_) λf=>X2 λ_=>?_;have f:0<=s.1:=sU f;obtain⟨i,A⟩:∃i:Nat,s.1=i:=⟨s.1.toNat,X⟩;refine X3 f X λD L _=>X3 f X λx N W=>X3 f X λc M _=>X0 (show Wp (A8 D x s.2.1 c) _ from Rx true D x (R x W) s.2.1 c) λr K P=>X1 (λh=>X2 λf=>by simp only at f;rw[f] at h;cases h) λh=>?_;have C:r.2.2=0:=sU h;rw[A,Yn] at L N M;rw[A] at t H z;rw[show((i:Int)+1).toNat=i+1 by omega] at t;refine hn _ ⟨⟨(P C).1,Ry E.2 (P C).2⟩,by simp only;omega,by simp only;omega,by simp only[Xf];exact B,λk=>if i+1<=k then b k else r.1,by simp only;rwa [if_pos X],by simp only;rw[if_neg X],λj x' y c' hj m n o=>?_⟩ (by simp only;omega);simp only at hj;rcases Yx i j with w|w;have⟨d,d1,d2⟩:=z j x' y c' X m n o;refine⟨d,by simp only[A,Yn];rwa [Ys X],?_⟩
  dsimp only
  rwa [if_pos X,if_pos X]
  obtain rfl:j=i:=X;rw[N] at m;rw[L] at n;rw[M] at o;cases m;cases n;cases o;refine⟨r.2.1,by simp only[A,Yn];rw[Yr X],?_⟩
  dsimp only
  rw[if_pos (Y7 _),if_neg X,t];show A8 D x s.2.1 c=_;rw[K,<-C];have f:s.1=-1:=by
   have:¬0<=s.1:=sU f
   omega
  rw[f] at t z;refine⟨⟨E.1,B,E.2,u.l6⟩,q.1,b,⟨by rw[aq,<-ar],u,G,B,λT p=>?_,λi x y c m n o=>z i x y c X m n o⟩,V,t⟩;simp only[cond_true] at p|-;simp only[Yn] at O;rw[O] at p;cases p
  rwa [V]
 have:=(Y0.1 m).1
 simp only at h;omega
end
end Go.Am
