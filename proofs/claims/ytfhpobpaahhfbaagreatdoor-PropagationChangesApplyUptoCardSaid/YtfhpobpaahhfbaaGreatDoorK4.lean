import Derived.Test.YtfhpobpaahhfbaaGreatDoorK3
import Derived.Lib.Overlaps
set_option linter.all false
set_option maxRecDepth 20000
open Go Go.Proofs
open Go.Proofs.Tryz
open ByteArray(empty)
open Go.IntKind(i64)
namespace Go.Am
section
def G0(S:Sch)(x:Stp):aB (Sch×Int):=
 bif x.g==13 then Zp (S.cons.length<Zz) (some ({S with cons:=S.cons++[x.cons]},0)) else
 bif x.g==14 then Hu S x.cons else
 bif x.g==15 then Zp (S.b.length<Zz) (some ({S with b:=S.b++[x.fk]},0)) else
 bif x.g==16 then D3 S x.fk else
 bif x.g==10 then HE S x.v else
 Z1 (Wg S x.u) λv=>bif !v.2 then some (S,4) else
 bif x.g==4 then Hz S v.1.toNat x.s else
 bif x.g==6 then HJ S v.1.toNat x else
 bif x.g==7 then HK S v.1.toNat x.o else
 bif x.g==8 then Ht S v.1.toNat x else
 bif x.g==9 then HD S v.1.toNat x else
 bif x.g==11 then HP S x.u else
 bif x.g==12 then Hw S v.1.toNat x else
 bif x.g==1 then HQ S v.1.toNat x else HG S v.1.toNat x
def Z31{S a v}(h:Is (Wg S a) v):0<=v.1:=by
 have⟨k,_,h⟩:=Is.bind h
 have:=Zk h
 rw[<-this];show 0<=(if k<0 then 0 else k)
 split<;>omega
def Vc.sub{h l d ls' b v K}(a:Vc h l d b v K)(c:∀k∈ls',k∈d):Vc h l ls' b v K:=
 λe j i g f=>a e j i (g.mono λk a=>by simp only[Y5] at a|-;exact a.imp_right (c k)) λk a=>(f k a).imp_left (c k)
def Vc.to{h l d c v K b}(e:Vc h l d c v K)(j:∀a,K v a->b v a):Vc h l d c v b:=
 λa k i g f=>j _ (e a k i g f)
set_option maxHeartbeats 2000000 in
def Z0y(h l M P R xs B z A lx)(S G:Sch)(x:Stp)(r:Int)(g:Is (G0 S x) (G,r))(s:Sc h l S M P R B z A)(hx:Ow h CO xs x.z lx)(hd:lx.Nodup/\∀k∈lx,k.1<h.p/\k∉l::(B++(z++A)))(K)
  (f:Vc h l (B++(z++A)++lx) G (.i r) K):
  Z5 prog 115 [.p l,.agg xs] h K:=by
 refine Z5.jE func115 rfl kR λ_=>?_;obtain⟨q,m,o,j,a6,a12,b0,bv,rfl,rfl,-,-,-,-⟩:=hx.stp;refine Z5.qM func115 rfl kR rfl rfl I ?_;have ca:Zh x q m o j≠[]:=by simp[Zh]
 have bj:Z0 h ((h.xV (h.p,48) (Zh x q m o j)).w) []:=(Z0.refl.xV (.inr (Y7 _))).w;have s0:=s.frame bj;have bm:=s0.a;have bc:(h.xV (h.p,48) (Zh x q m o j)).w.a (h.p,48)=some (Zh x q m o j):=I
 have Q:=hx.frame λk f=>bj.2 k (hd.2 k f).1 I;have W:∀k∈a6++(a12++(b0++bv)),k.1<((h.xV (h.p,48) (Zh x q m o j)).w).p/\k∉l::(B++(z++A)):=λk f=>⟨by have:=(hd.2 k f).1;simp<;>omega,(hd.2 k f).2⟩;have J:=f.after bj;have au:=J.sub λk f=>YV _ f;have e0:Zs 1 (Zh x q m o j)=some [.d (.int .i64 x.g)]:=by simp[Zh]
 have al:Zs 24 (Zh x q m o j)=some (Zh x q m o j):=by simp[Zh]
 have e1:Zs 1 ((Zh x q m o j).drop 1)=some [.d (.str x.u)]:=by simp[Zh]
 have b2:Zs 1 ((Zh x q m o j).tail)=some [.d (.str x.u)]:=by simp[Zh]
 have e2:Zs 1 ((Zh x q m o j).drop 2)=some [.d (.str x.o)]:=by simp[Zh]
 have e4:Zs 1 ((Zh x q m o j).drop 4)=some [.d (.str x.s)]:=by simp[Zh]
 have b4:Zs 3 ((Zh x q m o j).drop 11)=some [.d (.str x.v.y),m,o]:=by simp[Zh]
 have bh:Zs 7 ((Zh x q m o j).drop 14)=some (x.cons.z.map C.d):=by simp[Zh]
 have bz:Zs 3 ((Zh x q m o j).drop 21)=some [.d (.str x.fk.u),j,.d (.str x.fk.ref)]:=by simp[Zh]
 simp only[Cons.z,Yb,Yf] at bh;unfold G0 at g;simp[ca,e0];cases k13:x.g==13 with|true=>?_|false=>?_;simp only[k13,cond_true] at g;have⟨hlim,g⟩:=g.chk;obtain⟨rfl,rfl⟩:=ZU g;simp;generalize(h.xV (h.p,48) (Zh x q m o j)).w=HX at*;refine Z6.cu aV (λe h'=>e.n=120/\∃bp az,Sc h' l {S with cons:=S.cons++[x.cons]} M P bp B z az/\Z0 HX h' (l::A)/\∀k∈az,k∈A\/HX.p<=k.1) ?_ ?_;simp[bm,bc,bh];have F:Z0 HX ((HX.qC (HX.p,16*18) (some (1,7))).w) []:=Z0.refl.qC.w;simp only[Nat.reduceMul] at F;have t:=s0.frame F;have⟨ys,my,ay,O⟩:=t.wT;refine Wl (by simp;exact⟨rfl,rfl⟩) I I I my (Zr.qU I) (by rwa [ay]) (λc' h' aq D ao=>?_);have ar:=t.keep D λk f=>.inr (.inr (t.qI.2.2 k f));have⟨az,s6,ax⟩:=O h' c' x.cons (sU aq) D ao;have bd:=F.1;simp[ar];exact Ze.of ⟨I,c',az,s6,((F.mn).trans (D.mono λk f=>Yc _ (t.qI.2.2 k f))).xV (.inl I),λk f=>(ax k f).imp_right λy=>X⟩;rintro e h' ⟨u,bp,az,s6,D,ax⟩;simp[u];refine au _ _ s6.ows (D.mono λk f=>by simp only[Y5,Y3] at f|-;exact f.imp_right λh=>.inr (.inr h)) λk f=>?_;simp only[Y3] at f|-;rcases f with f|f|f;exact .inl (.inl f);exact .inl (.inr (.inl f));exact(ax k f).imp_left λh=>.inr (.inr h);simp only[k13,cond_false] at g;cases k14:x.g==14 with|true=>?_|false=>?_;simp only[k14,cond_true] at g;simp[k14,bh];refine Zc (T6 _ l _ S G x.cons r g s0.ows _ (au.to λh' w=>?_));simp;exact w;simp only[k14,cond_false] at g;cases am:x.g==15 with|true=>?_|false=>?_;simp only[am,cond_true] at g;have⟨hlim,g⟩:=g.chk;obtain⟨rfl,rfl⟩:=ZU g;simp[k14,am];have⟨y6,a7,aw,T,b6,bn,bi,E,f1,f2,p6,bg,bf,ba⟩:=Q.stp;obtain⟨rfl,rfl,rfl,rfl⟩:q=y6/\m=a7/\o=aw/\j=T:=by simpa[Zh] using f1
 have V:=hd.1;rw[f2] at W J V;have bw:Ow ((h.xV (h.p,48) (Zh x q m o j)).w) VB [.d (.str x.fk.u),j,.d (.str x.fk.ref)] x.fk.z E:=by
  have:=Ow.data (c:=.d (.str x.fk.u)) rfl (ba.join (.data (c:=.d (.str x.fk.ref)) rfl .nil))
  simp only[Ym] at this;exact this
 have bq:E.Nodup:=by simp only[Yk] at V;exact V.2.1.2.1.2.1
 have b1:∀k∈E,k.1<((h.xV (h.p,48) (Zh x q m o j)).w).p/\k∉l::(B++(z++A)):=λk f=>W k (by simp[f]);have L:=J.sub (ls':=B++(z++A)++E) (λk f=>by simp only[Y3] at f|-;exact f.imp_right λh=>.inr (.inr (.inr h)));clear J au Q W;generalize hHX:(h.xV (h.p,48) (Zh x q m o j)).w=HX at*;refine Z6.cu aV (λe h'=>e.n=120/\∃bu ak,Sc h' l {S with b:=S.b++[x.fk]} M bu R B ak A/\Z0 HX h' (l::z)/\∀k∈ak,k∈z\/k∈E\/HX.p<=k.1) ?_ ?_;simp[bm,bc,bz];refine DF (x:=[.d (.str x.fk.u),j,.d (.str x.fk.ref)]) (by simp[ZB];cases j.toD<;>rfl) I (λd b3=>?_) (λ_=>?_);obtain⟨rfl,b8⟩:=bw.ofD b3;have F:Z0 HX ((HX.qC (HX.p,16*37) (some (1,3))).w) []:=Z0.refl.qC.w;simp only[Nat.reduceMul] at F;have t:=s0.frame F;have⟨ys,my,ay,O⟩:=t.rB;simp;refine Wl (by simp;exact⟨rfl,rfl⟩) I I I my (Zr.qU I) (by rwa [ay]) (λc' h' aq D ao=>?_);have ar:=t.keep D λk f=>.inr (.inl (t.qI.2.1 k f));have⟨ak,s6,aj⟩:=O h' c' _ _ [] aq D ao (b8 h') Y3j I x.fk rfl;have bd:=F.1;simp[ar];exact Ze.of ⟨I,c',ak,s6,((F.mn).trans (D.mono λk f=>Yc _ (t.qI.2.1 k f))).xV (.inl I),λk f=>(aj k f).imp_right λy=>.inr (by rcases y with y|y;simp at y;omega)⟩;have F:Z0 HX ((HX.xV (HX.p,16*37) [.d (.str x.fk.u),j,.d (.str x.fk.ref)]).w) []:=(Z0.refl.xV (.inr (Y7 _))).w;simp only[Nat.reduceMul] at F;have t:=s0.frame F;have⟨ys,my,ay,O⟩:=t.rB;simp;refine Wl (by simp;exact⟨rfl,rfl⟩) I I I my (Zr.jY (x:=[.d (.str x.fk.u),j,.d (.str x.fk.ref)]) I I) (by rwa [ay]) (λc' h' aq D ao=>?_);have ar:=t.keep D λk f=>.inr (.inl (t.qI.2.1 k f));have bd:=F.1;have cc:=D.1;have⟨ak,s6,aj⟩:=O h' c' _ _ E aq D ao (bw.frame λk f=>by
  have y:=b1 k f;simp only[Y5,Y3,not_or] at y;rw[D.2 k X λh8=>y.2.2.2.1 (t.qI.2.1 k h8)];exact F.2 k y.1 I) bq (λk f=>by
  have y:=b1 k f;refine⟨X,y.2,λh8=>?_⟩;simp only[Y5,Y3,not_or] at y;rcases ao k h8 with h7|h7;exact y.2.2.2.1 (t.qI.2.1 k h7)
  omega) x.fk rfl
 simp[ar];exact Ze.of ⟨I,c',ak,s6,((F.mn).trans (D.mono λk f=>Yc _ (t.qI.2.1 k f))).xV (.inl I),λk f=>(aj k f).imp_right λy=>y.imp_right λh8=>X⟩;rintro e h' ⟨u,bu,ak,s6,D,aj⟩;simp[u];refine L _ _ s6.ows (D.mono λk f=>by simp only[Y5,Y3] at f|-;exact f.imp_right λh=>.inl (.inr (.inl h))) λk f=>?_;simp only[Y3] at f|-;rcases f with f|f|f;exact .inl (.inl (.inl f));rcases aj k f with y|y|y;exact .inl (.inl (.inr (.inl y)));exact .inl (.inr y);exact .inr y;exact .inl (.inl (.inr (.inr f)));simp only[am,cond_false] at g;cases a1:x.g==16 with|true=>?_|false=>?_;simp only[a1,cond_true] at g;simp[k14,am,a1,bz];refine Zc (T5 _ l _ S G x.fk [.d (.str x.fk.u),j,.d (.str x.fk.ref)] r g s0.ows (λh' b5=>?_) _ (au.to λh' w=>?_))
 have:=(Q.frame (h':=h') λk f=>b5.2 k (W k f).1 I).stp
 have⟨y6,a7,aw,T,b6,bn,bi,E,f1,_,p6,bg,bf,ba⟩:=this;obtain⟨rfl,rfl,rfl,rfl⟩:q=y6/\m=a7/\o=aw/\j=T:=by simpa[Zh] using f1
 exact⟨.data rfl,ba.rV,.data rfl,trivial⟩;simp;exact w;simp only[a1,cond_false] at g;cases bb:x.g==10 with|true=>?_|false=>?_;simp only[bb,cond_true] at g;simp[k14,am,a1,bb,b4];have⟨y6,a7,aw,T,b6,bn,bi,E,f1,f2,p6,bg,bf,ba⟩:=Q.stp;obtain⟨rfl,rfl,rfl,rfl⟩:q=y6/\m=a7/\o=aw/\j=T:=by simpa[Zh] using f1
 have V:=hd.1;rw[f2] at W J V;refine Zc (Tx _ l M P R B z A (bn++(bi++[])) S G x.v r _ g s0 (.data rfl (bg.join (bf.join .nil))) ⟨?_,λk f=>?_⟩ _ ((J.sub λk f=>?_).to λh' w=>?_));simp only[Yk,Ym,Y3] at V|-;exact⟨V.2.1.1,V.2.1.2.1.1,λa ha b hb=>V.2.1.2.2 a ha b (.inl hb)⟩;exact W k (by simp only[Ym,Y3] at f|-;exact .inr (f.imp_right .inl));simp only[Ym,Y3] at f|-;exact f.imp_right λh=>.inr (h.imp_right .inl);simp;exact w;simp only[bb,cond_false] at g;have⟨v,hv,g⟩:=g.bind;obtain⟨n,b7⟩:∃n:Nat,v.1=n:=⟨v.1.toNat,by have:=Z31 hv;omega⟩;simp[k14,am,a1,bb];have cb:h.p<((h.xV (h.p,48) (Zh x q m o j)).w).p:=I
 generalize hHX:(h.xV (h.p,48) (Zh x q m o j)).w=HX at*;refine Z6.cu aQ (λe h'=>e.n=120/\e.get 0=.p l/\e.get 3=.p (h.p,48)/\e.get 5=.i v.1/\e.get 6=.b v.2/\h'=HX.w) ?_ ?_;simp[bm,bc,b2];refine Zc (Z5.qD (AU S x.u v hv) ⟨.agg s0.frz,.one (.frz (.data rfl)),trivial⟩ rfl ?_);simp;exact⟨λ_ _ x=>x,Ze.of I⟩;rintro e h' ⟨u,Y,U,Z,h6,rfl⟩;have bk:Z0 HX HX.w []:=Z0.refl.w;have t:=s0.frame bk;have N:HX.w.a (h.p,48)=some (Zh x q m o j):=bc;have br:=Q.frame (h':=HX.w) λk f=>bk.2 k (W k f).1 I;have bt:∀k∈a6++(a12++(b0++bv)),k.1<HX.w.p/\k∉l::(B++(z++A)):=λk f=>⟨by have:=(W k f).1;simp<;>omega,(W k f).2⟩;have L:=au.after bk;rw[b7] at Z;have b9:v.1.toNat=n:=X
 rw[b9] at g;simp[u,h6];cases hv2:v.2 with|false=>?_|true=>?_;rw[hv2] at g;obtain⟨rfl,rfl⟩:=ZU g;simp[u];exact L _ _ t.ows .refl (λk f=>.inl f);simp only[hv2,Xx,cond_false] at g;simp at N;simp[u,U,N,e0];cases k4:x.g==4 with|true=>?_|false=>?_;simp only[k4,cond_true] at g;simp[u,Y,U,Z,N,e4];refine Zc (Tv _ l M P R B z A S G n x.s r g t _ (L.to λh' w=>?_));simp[u];exact w;simp only[k4,cond_false] at g;cases k6:x.g==6 with|true=>?_|false=>?_;simp only[k6,cond_true] at g;simp[k6,u,Y,U,Z,N,al];refine Zc (TC _ l M P R _ B z A _ S G n x r g t br bt _ (L.to λh' w=>?_));simp[u];exact w;simp only[k6,cond_false] at g;cases k7:x.g==7 with|true=>?_|false=>?_;simp only[k7,cond_true] at g;simp[k6,k7,u,Y,U,Z,N,e2];refine Zc (TD _ l M P R B z A S G n x.o r g t _ (L.to λh' w=>?_));simp[u];exact w;simp only[k7,cond_false] at g;cases k8:x.g==8 with|true=>?_|false=>?_;simp only[k8,cond_true] at g;simp[k6,k7,k8,u,Y,U,Z,N,al];refine Zc (T4 _ l M P R q m o j B z A S G n x r g t _ (L.to λh' w=>?_));simp[u];exact w;simp only[k8,cond_false] at g;cases k9:x.g==9 with|true=>?_|false=>?_;simp only[k9,cond_true] at g;simp[k6,k7,k8,k9,u,Y,U,Z,N,al];refine Zc (Tw _ l M P R q m o j B z A S G n x r g t _ (L.to λh' w=>?_));simp[u];exact w;simp only[k9,cond_false] at g;cases ap:x.g==11 with|true=>?_|false=>?_;simp only[ap,cond_true] at g;simp[k6,k7,k8,k9,ap,u,Y,U,N,b2];refine Zc (TT _ l _ S G x.u r g t.ows _ (L.to λh' w=>?_));simp[u];exact w;simp only[ap,cond_false] at g;cases a8:x.g==12 with|true=>?_|false=>?_;simp only[a8,cond_true] at g;simp[k6,k7,k8,k9,ap,a8,u,Y,U,Z,N,al];refine Zc (T9 _ l M P R _ B z A _ S G n x r g t br bt _ (L.to λh' w=>?_));simp[u];exact w;simp only[a8,cond_false] at g;cases k1:x.g==1 with|true=>?_|false=>?_
 simp only[k1,cond_true] at g;simp[k6,k7,k8,k9,ap,a8,k1,u,Y,U,Z,N,al];refine Zc (TU _ l M P R q m o j B z A S G n x r g t _ (L.to λh' w=>?_));simp[u];exact w;simp only[k1,cond_false] at g;simp[k6,k7,k8,k9,ap,a8,k1,u,Y,U,Z,N,al];refine Zc (Ty _ l M P R q m o j B z A S G n x r g t _ (L.to λh' w=>?_));simp[u];exact w
def HU(a:E)(b:E):aB Bool:=
 bif Z9 a.y b.y then Z1 (E9 a.j b.j) λv4=>(bif v4 then Z1 (C1 a.pk b.pk) λv6=>(some v6) else some false) else some false
instance Zh4(a:E)(b:E):Con (HU a b) prog 185 [.agg a.z,.agg b.z] (λr=>.one (.d (.bool r))):=by unfold HU;exact go 24 func185
def FK(a:E)(b:E):aB Bool:=
 Z1 (HU a b) λv3=>some v3
instance Zh5(a:E)(b:E):Con (FK a b) prog 147 [.agg a.z,.agg b.z] (λr=>.one (.d (.bool r))):=by unfold FK;exact go 8 func147
def HW(a:Stp)(b:Stp):aB Bool:=
 bif (a.g==b.g) then bif Z9 a.u b.u then bif Z9 a.o b.o then bif Z9 a.d b.d then bif Z9 a.s b.s then bif (a.type==b.type) then Z1 (C1 a.j b.j) λv9=>(bif v9 then bif Z9 a.op b.op then bif (a.value.g==b.value.g&&(a.value.int==b.value.int&&(a.value.text==b.value.text))) then Z1 (FK a.v b.v) λv13=>(bif v13 then bif (a.cons.u==b.cons.u&&(a.cons.left==b.cons.left&&(a.cons.op==b.cons.op&&(a.cons.right==b.cons.right&&(a.cons.value.g==b.cons.value.g&&(a.cons.value.int==b.cons.value.int&&(a.cons.value.text==b.cons.value.text))))))) then Z1 (Bm a.fk b.fk) λv16=>(some v16) else(some false) else some false) else(some false) else(some false) else some false) else(some false) else(some false) else(some false) else(some false) else(some false) else some false
instance Zhr(a:Stp)(b:Stp):Con (HW a b) prog 127 [.agg a.z,.agg b.z] (λr=>.one (.d (.bool r))):=by unfold HW;exact go 87 func127
def U2(x:Stp):Stp:=⟨x.g,x.u,empty,empty,empty,0,[],empty,⟨0,0,empty⟩,⟨empty,[],[]⟩,⟨empty,0,empty,0,⟨0,0,empty⟩⟩,⟨empty,[],empty⟩⟩
def FF(x:Stp):aB Stp:=
 bif x.g==1 then some {U2 x with d:=x.d,type:=x.type,value:=x.value} else
 bif x.g==2 then some {U2 x with d:=x.d,value:=x.value} else
 bif x.g==3 then some {U2 x with d:=x.d,s:=x.s} else
 bif x.g==4 then some {U2 x with s:=x.s} else
 bif x.g==5 then some {U2 x with d:=x.d,type:=x.type} else
 bif x.g==6 then some {U2 x with o:=x.o,j:=x.j} else
 bif x.g==7 then some {U2 x with o:=x.o} else
 bif x.g==8 then some {U2 x with o:=x.o,d:=x.d,op:=x.op,value:=x.value} else
 bif x.g==9 then some {U2 x with o:=x.o,d:=x.d} else
 bif x.g==10 then some {U2 x with u:=empty,v:=x.v} else
 bif x.g==12 then some {U2 x with d:=x.d,j:=x.j} else
 bif x.g==13 then some {U2 x with u:=empty,cons:=x.cons} else
 bif x.g==14 then some {U2 x with u:=empty,cons:=x.cons} else
 bif x.g==15 then some {U2 x with u:=empty,fk:=x.fk} else
 bif x.g==16 then some {U2 x with u:=empty,fk:=x.fk} else
 some (U2 x)
def OA{h:HS}{f:Nat->aB Z2}:∀{a:aD} {b:aC},ZB a=some b->DL h f a (b.map RC.d)
 |[],b,hd=>by simp[ZB] at hd;subst hd;trivial
 |c::a,b,hd=>by
   cases d:c.toD<;>cases e:ZB a<;>simp[ZB,d,e] at hd;subst hd;exact⟨d,OA e⟩
def PJ:∀{a:aD} {b:aC},ZB a=some b->a.length=b.length
 |[],b,hd=>by simp[ZB] at hd;subst hd;rfl
 |c::a,b,hd=>by
   cases d:c.toD<;>cases h2:ZB a<;>simp[ZB,d,h2] at hd;subst hd;simp[PJ h2]
def Jy{P:Program}{id:Nat}{a:Array Oper}{Q:Exit->Env->HS->Prop}{e:Env}{h:HS}(n:Nat)(_:a.size=n)(b:Y)(i:P.follows .mixedOrders=true)
  (g:H2 .any a b a.size (Array.replicate a.size false)=true)(jq0:Env->HS->Prop)(d:vcPlan P a.toList (λe h=>Ze (jq0:=⟨jq0⟩) e h) b e h)(f:∀e h,jq0 e h->Q .normal e h):
  Z6 P (c:=⟨.region id a true⟩) (Q:=⟨Q⟩) e h:=Z6.cut b i g jq0 d f
set_option maxHeartbeats 4000000 in
def TH(x:Stp)(r:Stp)(c:Is (FF x) r):Zq prog 128 [.agg x.z] (.agg (r.z.map RC.d)):=by
 unfold FF at c;obtain⟨b,k⟩:∃b:Env->HS->Prop,b=λe h=>e.n=115/\e.get 2=.p (1,32)/\e.get 3=.p (2,48)/\(∃a,h.a (1,32)=some a/\a.length=24)/\∃a,h.a (2,48)=some a/\ZB a=some r.z:=⟨_,rfl⟩;refine Zq.qM func128 rfl kR (n:=115) rfl rfl I ?_;simp
 repeat' (first
  |((with_reducible refine ZP c ?_ ?_)<;>(clear c;intro t c;simp[t]))
  | (with_reducible have o:=Zk c
     clear c
     first
     | (subst o
        exact U0 (vs:=[_]) (by simp;exact rfl) (by simp[U2,CI,Ub,DL,UX,C.toD,Stp.z]))
     | (skip
        first
        |refine Jy 6 rfl (Y.qB [0,2] (.two 1 3 (Y.qB [3,4,5] .done) (Y.qB [1,4,5] .done))) follows kR b ?_ ?_
        |refine Jy 8 rfl (Y.qB [0,1,2,4] (.two 3 5 (Y.qB [5,6,7] .done) (Y.qB [3,6,7] .done))) follows kR b ?_ ?_
        |refine Jy 12 rfl (Y.qB [0,1,2,4,6] (.three 3 5 7 (Y.qB [] (.two 5 7 (Y.qB [7,8,9,10,11] .done) (Y.qB [8] (.two 5 9 (Y.qB [9,10,11] .done) (Y.qB [5,10,11] .done))))) (Y.qB [] (.two 3 7 (Y.qB [7,8,9,10,11] .done) (Y.qB [3,8,9,10,11] .done))) (Y.qB [3,8] (.two 5 9 (Y.qB [9,10,11] .done) (Y.qB [5,10,11] .done))))) follows kR b ?_ ?_
        |refine Jy 16 rfl (Y.qB [0,1,2,4,6,8] (.four 3 5 7 9 (Y.qB [] (.three 5 7 9 (Y.qB [] (.two 7 9 (Y.qB [9,10,11,12,13,14,15] .done) (Y.qB [10] (.two 7 11 (Y.qB [11,12,13,14,15] .done) (Y.qB [12] (.two 7 13 (Y.qB [13,14,15] .done) (Y.qB [7,14,15] .done))))))) (Y.qB [] (.two 5 9 (Y.qB [9,10,11,12,13,14,15] .done) (Y.qB [10] (.two 5 11 (Y.qB [11,12,13,14,15] .done) (Y.qB [5,12,13,14,15] .done))))) (Y.qB [10] (.three 5 7 11 (Y.qB [] (.two 7 11 (Y.qB [11,12,13,14,15] .done) (Y.qB [12] (.two 7 13 (Y.qB [13,14,15] .done) (Y.qB [7,14,15] .done))))) (Y.qB [] (.two 5 11 (Y.qB [11,12,13,14,15] .done) (Y.qB [5,12,13,14,15] .done))) (Y.qB [5,12] (.two 7 13 (Y.qB [13,14,15] .done) (Y.qB [7,14,15] .done))))))) (Y.qB [] (.three 3 7 9 (Y.qB [] (.two 7 9 (Y.qB [9,10,11,12,13,14,15] .done) (Y.qB [10] (.two 7 11 (Y.qB [11,12,13,14,15] .done) (Y.qB [12] (.two 7 13 (Y.qB [13,14,15] .done) (Y.qB [7,14,15] .done))))))) (Y.qB [] (.two 3 9 (Y.qB [9,10,11,12,13,14,15] .done) (Y.qB [3,10,11,12,13,14,15] .done))) (Y.qB [3,10] (.two 7 11 (Y.qB [11,12,13,14,15] .done) (Y.qB [12] (.two 7 13 (Y.qB [13,14,15] .done) (Y.qB [7,14,15] .done))))))) (Y.qB [] (.three 3 5 9 (Y.qB [] (.two 5 9 (Y.qB [9,10,11,12,13,14,15] .done) (Y.qB [10] (.two 5 11 (Y.qB [11,12,13,14,15] .done) (Y.qB [5,12,13,14,15] .done))))) (Y.qB [] (.two 3 9 (Y.qB [9,10,11,12,13,14,15] .done) (Y.qB [3,10,11,12,13,14,15] .done))) (Y.qB [3,10] (.two 5 11 (Y.qB [11,12,13,14,15] .done) (Y.qB [5,12,13,14,15] .done))))) (Y.qB [3,10] (.three 5 7 11 (Y.qB [] (.two 7 11 (Y.qB [11,12,13,14,15] .done) (Y.qB [12] (.two 7 13 (Y.qB [13,14,15] .done) (Y.qB [7,14,15] .done))))) (Y.qB [] (.two 5 11 (Y.qB [11,12,13,14,15] .done) (Y.qB [5,12,13,14,15] .done))) (Y.qB [5,12] (.two 7 13 (Y.qB [13,14,15] .done) (Y.qB [7,14,15] .done))))))) follows kR b ?_ ?_
        .simp
         repeat' (first|with_reducible refine And.intro ?_ ?_|(refine Ze.of ?_;rw[k];exact⟨I,I,I,⟨_,by simp;rfl,rfl⟩,_,by simp;rfl,by rw[<-o];simp[U2,ZB,C.toD,Stp.z]⟩))
        .intro e5 h5 f;rw[k] at f;have⟨m,j,q,⟨v,u,i⟩,a,s,g⟩:=f;have d:=PJ g;have l:Zs 24 a=some a:=by rw[Zs,if_pos (by simp[d,Stp.z]),YD (by simp[d,Stp.z])]
         simp[m,j,q,u,s,l,i];have f:Zi v 0 a=a:=by simp[Zi,d,i,Stp.z]
         exact⟨by simp[d,Stp.z],U0 (vs:=[.agg a]) (by simp[m,j,f,l]) (OA g)⟩)))
instance Zgl(step:Stp):Con (FF step) prog 128 [.agg step.z] (λr=>.agg (r.z.map RC.d)):=⟨λr hm=>TH step r hm⟩
def FL(step:Stp):aB Int:=
 bif decide (step.g<1) then some 3 else bif decide (16<step.g) then some 3 else Z1 (FF step) λv4=>Z1 (HW step v4) λv5=>bif !v5 then some 3 else some 0
instance Z07(step:Stp):Con (FL step) prog 114 [.agg step.z] (λr=>.one (.d (.int .i64 r))):=by unfold FL;have p1:PH [1] (Y.qB aX .done):=.intro;exact go 18 func114
def Jq:Sch:=⟨[],[],[]⟩
def VR(S:Sch)(x:Stp):aB (Sch×Int):=
 Z1 (UE S) λe=>bif e !=0 then some (Jq,e) else Z1 (FL x) λa=>bif a !=0 then some (Jq,a) else
 Zp (MB S/\MA x) (Z1 (G0 S x) λq=>bif q.2 !=0 then some (Jq,q.2) else Z1 (UE q.1) λb=>bif b !=0 then some (Jq,b) else some (q.1,0))
def GN{h e}{S:Sch}{r:Int}(d:ZI h e S.z):F8 h (.tup [.agg e,.i r]) (.tup [.agg (S.z.map RC.d),.i r]):=by
 match e,d with
 |[a,b,c],d=>exact⟨⟨d.1,d.2.1,d.2.2.1,trivial⟩,Frz.data rfl,trivial⟩
set_option maxHeartbeats 1000000 in
def Nx(S x)(r:Sch×Int)(a:Is (VR S x) r):Zq prog 99 [.agg S.z,.agg x.z] (.tup [.agg (r.1.z.map RC.d),.i r.2]):=by
 refine Zq.of_heap ?_;have⟨R,q⟩:=r;simp only at a|-;have⟨G,N,a⟩:=a.bind;show Z5 _ _ [.agg (S.z.map C.d),.agg (x.z.map C.d)] HS.init _;refine Z5.jE func99 rfl kR λ_=>?_;refine Z5.qM func99 rfl kR rfl rfl I ?_;simp;refine Zc (Z5.qD (K7 S G N) ⟨.agg (ZI.qK (ds:=S.z)),trivial⟩ rfl ?_);simp;cases hev0:G !=0 with|true=>?_|false=>?_;simp only[hev0,cond_true] at a;obtain⟨rfl,rfl⟩:=ZU a;simp[ZS,ZK,ZX,W5];exact GN ⟨.data rfl,.data rfl,.data rfl,trivial⟩;simp only[hev0,cond_false] at a;have⟨E,T,a⟩:=a.bind;simp;refine Zc (Z5.qD (Z07 x E T) ⟨.agg (ZI.qK (ds:=x.z)),trivial⟩ rfl ?_);simp;cases he20:E !=0 with|true=>?_|false=>?_;simp only[he20,cond_true] at a;obtain⟨rfl,rfl⟩:=ZU a;simp[ZS,ZK,ZX,W5];exact GN ⟨.data rfl,.data rfl,.data rfl,trivial⟩;simp only[he20,cond_false] at a;have⟨⟨Y,Z⟩,a⟩:=a.chk;have⟨⟨w,J⟩,P,a⟩:=a.bind;simp only at a;simp;refine Zc (Z1s _ S Y _ (λj g h u s t d pt pf po nd e n=>?_));have D:=n.2 (2,64) I I;have B:=n.2 (1,48) I I;have y:=n.1;simp at D B y;simp[B];have p:Z0 d ((d.xV (d.p,128) [.nil,.nil,.nil]).w.xV (d.p,128) [j,g,h]) []:=((Z0.refl.xV (.inr (Y7 _))).w).xV (.inr (Y7 _));have K:Sc ((d.xV (d.p,128) [.nil,.nil,.nil]).w.xV (d.p,128) [j,g,h]) (d.p,128) S j g h (Z4 j u) (Z4 g s) (Z4 h t):=by
  refine⟨u,s,t,rfl,rfl,rfl,I,pt.frame λk b=>p.2 k (e k (by simp[b])).2 I,pf.frame λk b=>p.2 k (e k (by simp[b])).2 I,po.frame λk b=>p.2 k (e k (by simp[b])).2 I,?_,λk b=>?_⟩;rw[XF];exact⟨λb=>by have:=(e _ b).2;simp at this,nd⟩;rcases Y5.1 b with rfl|b;simp
  have:=(e k b).2;simp<;>omega
 have L:((d.xV (d.p,128) [.nil,.nil,.nil]).w.xV (d.p,128) [j,g,h]).a (2,64)=some [.nil,.nil,.nil]:=by simp[D]
 have z:∀k∈(d.p,128)::(Z4 j u++(Z4 g s++Z4 h t)),5<=k.1:=λk b=>by
  rcases Y5.1 b with rfl|b;exact y
  have:=(e k b).1;simpa using this
 refine Zc (Z0z _ x Z _ (λW H lx ox O l f _=>?_));have s2:=K.frame f;have V:H.a (2,64)=some [.nil,.nil,.nil]:=by rw[f.2 _ (by simp<;>omega) I];exact L
 simp;refine Zc (Z0y H (d.p,128) j g h W _ _ _ lx S w x J P s2 ox ⟨O,λk b=>⟨(l k b).2,λc=>by have:=K.lt k c;have:=(l k b).1;omega⟩⟩ _ ?_);intro X aw M o U;obtain⟨au,a1,ay,ar,az,ax,rfl,v⟩:=M.sc;have m:X.a (2,64)=some [.nil,.nil,.nil]:=by
  rw[o.2 _ (by have:=f.1;simp at this|-;omega) λc=>?_];exact V;simp only[Y5,Y3] at c;rcases c with c|c|c;simp at c
  have:=z (2,64) (by simp only[Y5,Y3];exact .inr c);simp at this
  have:=(l _ c).1;simp at this;omega
 have A:=v.a;simp;cases hq0:J !=0 with|true=>?_|false=>?_;simp only[hq0,cond_true] at a;obtain⟨rfl,rfl⟩:=ZU a;simp[m,ZS,ZK,ZX,W5];exact GN ⟨.data rfl,.data rfl,.data rfl,trivial⟩;simp only[hq0,cond_false] at a;have⟨F,Q,a⟩:=a.bind;simp[A];refine Zc (Z5.qD (K7 w F Q) ⟨.agg v.frz,trivial⟩ rfl ?_);simp;cases he30:F !=0 with|true=>?_|false=>?_;simp only[he30,cond_true] at a;obtain⟨rfl,rfl⟩:=ZU a;simp[m,ZS,ZK,ZX,W5];exact GN ⟨.data rfl,.data rfl,.data rfl,trivial⟩;simp only[he30,cond_false] at a;obtain⟨rfl,rfl⟩:=ZU a;simp[m,A,ZS,ZK,ZX,W5];refine GN ((v.rZ (lz:=[(2,64)]) (Z0.refl.w.xV (.inl I)) λk b c=>?_).frz);simp at b;subst b;simp only[Y5] at c;rcases c with c|c;simp at c;rcases U _ c with h8|h8;rcases Y3.1 h8 with h8|h8
 have:=z (2,64) (Yc _ h8);simp at this
 have:=(l _ h8).1;simp at this;omega
 have:=f.1;simp at this h8;omega
def N7(s_:List Cons):aB (List Cons):=some s_
def Tf(s_:List Cons)(r:List Cons)(hm:Is (N7 s_) r):Zq prog 83 [.one (.d (.sl (s_.map Cons.z)))] (.one (.fresh 0 7 (r.map Cons.z))):=by
 obtain rfl:=Zk hm;refine Jd ⟨_,func83,by kernel_rfl,by kernel_rfl⟩ (λhl=>?_);have hxs:∀x∈s_.map Cons.z,x.length=7:=by intro x hx;obtain⟨y,_,rfl⟩:=Yi.1 hx;rfl
 generalize s_.map Cons.z=xs at*;refine Zq.qM func83 rfl (by kernel_rfl) (n:=8) rfl rfl (by simp) ?_;simp;refine Gm Dv rfl (xs:=xs) rfl (λb hb=>?_);cases b with
 |true=>
   have:xs=[]:=Classical.byContradiction λh=>by simpa using hb h
   subst this;simp;exact BA (by simpa using US.nil)
 |false=>
   simp;refine EG (by simp) ?_;simp;refine UQ Dv (Zm.own (by simp) (by simp) (by simp)) rfl (by decide) (by decide) hxs (by simpa using hl) ?_;simp;exact BA (by simpa using US.app (by simp) (by simp) hxs rfl)
def K0(s_:List Col):aB (List Col):=some s_
def TX(s_:List Col)(r:List Col)(hm:Is (K0 s_) r):Zq prog 108 [.one (.d (.sl (s_.map Col.z)))] (.one (.fresh 0 3 (r.map Col.z))):=by
 obtain rfl:=Zk hm;refine Jd ⟨_,func108,by kernel_rfl,by kernel_rfl⟩ (λhl=>?_);have hxs:∀x∈s_.map Col.z,x.length=3:=by intro x hx;obtain⟨y,_,rfl⟩:=Yi.1 hx;rfl
 generalize s_.map Col.z=xs at*;refine Zq.qM func108 rfl (by kernel_rfl) (n:=8) rfl rfl (by simp) ?_;simp;refine Gm Zpu rfl (xs:=xs) rfl (λb hb=>?_);cases b with
 |true=>
   have:xs=[]:=Classical.byContradiction λh=>by simpa using hb h
   subst this;simp;exact BA (by simpa using US.nil)
 |false=>
   simp;refine EG (by simp) ?_;simp;refine UQ Zpu (Zm.own (by simp) (by simp) (by simp)) rfl (by decide) (by decide) hxs (by simpa using hl) ?_;simp;exact BA (by simpa using US.app (by simp) (by simp) hxs rfl)
instance Zgs(s_:List Col):Con (K0 s_) prog 108 [.one (.d (.sl (s_.map Col.z)))] (λr=>.one (.fresh 0 3 (r.map Col.z))):=⟨λr hm=>TX s_ r hm⟩
def El(s_:List Int):aB (List Int):=some s_
def Nu(s_:List Int)(r:List Int)(hm:Is (El s_) r):Zq prog 85 [.one (.d (.sl (s_.map Zg)))] (.one (.fresh 0 1 (r.map Zg))):=by
 obtain rfl:=Zk hm;refine Jd ⟨_,func85,by kernel_rfl,by kernel_rfl⟩ (λhl=>?_);have hxs:∀x∈s_.map Zg,x.length=1:=by intro x hx;obtain⟨y,_,rfl⟩:=Yi.1 hx;rfl
 generalize s_.map Zg=xs at*;refine Zq.qM func85 rfl (by kernel_rfl) (n:=8) rfl rfl (by simp) ?_;simp;refine Gm Zpr rfl (xs:=xs) rfl (λb hb=>?_);cases b with
 |true=>
   have:xs=[]:=Classical.byContradiction λh=>by simpa using hb h
   subst this;simp;exact BA (by simpa using US.nil)
 |false=>
   simp;refine EG (by simp) ?_;simp;refine UQ Zpr (Zm.own (by simp) (by simp) (by simp)) rfl (by decide) (by decide) hxs (by simpa using hl) ?_;simp;exact BA (by simpa using US.app (by simp) (by simp) hxs rfl)
instance Zhf(s_:List Int):Con (El s_) prog 85 [.one (.d (.sl (s_.map Zg)))] (λr=>.one (.fresh 0 1 (r.map Zg))):=⟨λr hm=>Nu s_ r hm⟩
def De(t:E):aB E:=
 Z1 (K0 t.j) λv3=>Z1 (El t.pk) λv4=>some (E.mk t.y v3 v4)
instance No(t:E):Con (De t) prog 84 [.agg t.z] (λr=>.agg (r.z.map RC.d)):=by unfold De;have p1:PH [1] (Y.qB [0,1,2,3,5,6,4,7,8,9] .done):=.intro;exact go 12 func84
def UG(s_:Sch):aB Sch:=
 Z1 (N7 s_.cons) λv3=>Zd (λ(i6:Nat) (x6:E) (s6:(List E)) next_6=>Z1 (De x6) λv8=>Wn s6 [v8] λ_=>next_6 (s6++[v8])) (λ(s6:(List E))=>Zd (λ(i12:Nat) (x12:Fk) (s12:(List Fk)) next_12=>Z1 (El x12.j) λv14=>Wn s12 [(Fk.mk x12.u v14 x12.ref)] λ_=>next_12 (s12++[(Fk.mk x12.u v14 x12.ref)])) (λ(s12:(List Fk))=>some (Sch.mk s6 s12 v3)) s_.b 0 []) s_.q 0 []
def Ki(s_:Sch)(r:Sch)(hm:Is (UG s_) r):Zq prog 47 [.agg s_.z] (.agg (r.z.map RC.d)):=by
 unfold UG at hm;refine Zq.qM func47 rfl (by kernel_rfl) (n:=46) rfl rfl (by simp) ?_
 try simp[*]
 refine AC (av:=[.one (.d (.sl (s_.cons.map Cons.z)))]) hm (λv hv=>Tf _ v hv) (by simp[*]) ?_;clear hm;intro v3 hvv3 hm
 try simp[*]
 intro hl5;replace hl5:s_.q.length<=2097152:=by simpa using hl5
 refine Z6.for (xs:=s_.q) (s0:=[]) (λi6 s6 e6 h6=>∃c6_0 c6_bb4_2:C,(e6.n=46/\e6.get 1=.one (.ptr (0,16) 0)/\e6.get 2=.one (.ptr (1,32) 0)/\e6.get 3=.one (.ptr (3,48) 0)/\e6.get 13=.one (.d (.sl (s_.q.map E.z)))/\e6.get 14=.one (.d (.int .i64 (s_.q.length:Int)))/\e6.get 15=.one (.d (.int .i64 (i6:Int)))/\h6.a (0,16)=some [.d (.sl (s_.q.map E.z)),.d (.sl (s_.b.map Fk.z)),.d (.sl (s_.cons.map Cons.z))]/\h6.a (1,32)=some [.nil,.nil,.nil]/\h6.a (3,48)=some [c6_0,.nil,c6_bb4_2]/\Zm h6 3 c6_0 (s6.map E.z)/\Zm h6 7 c6_bb4_2 (v3.map Cons.z))/\WM c6_0 c6_bb4_2) hm ⟨.nil,.own (2,161) (v3.map Cons.z),by simp(maxDischargeDepth:=20) [*],(by simp)⟩ ?_ ?_
 .rintro i6 s6 e6 h6 ⟨c6_0,c6_bb4_2,⟨hn6,h6_1,h6_2,h6_3,h6_13,h6_14,h6_15,hb6_b1,hb6_b2,hb6_b4,gc6_0,gc6_bb4_2⟩,apc6_0_c6_bb4_2⟩ hlt6 hm;have hlc6_0:=gc6_0.list;have hdc6_0:=gc6_0.toD;have hac6_0:=gc6_0.toA;have huc6_0:=gc6_0.qG;have hlc6_bb4_2:=gc6_bb4_2.list;have hdc6_bb4_2:=gc6_bb4_2.toD;have hac6_bb4_2:=gc6_bb4_2.toA;have huc6_bb4_2:=gc6_bb4_2.qG;have hw6:IntKind.i64.wrap ((i6:Int)+1)=(i6:Int)+1:=Y6 _ (by omega)
  try simp[*]
  refine Z6.of (Wy.draw (Y.qB aN .done) follows (by kernel_rfl) ?_)
  try simp[*]
  refine AC (av:=[.agg (s_.q[i6]).z]) hm (λv hv=>No _ v hv) (by simp[*]) ?_;clear hm;intro v8 hvv8 hm
  try simp[*]
  try refine⟨λ(_:Z2) (_:aD) hl=>hl,?_⟩
  refine CK (xs:=s6) (ys:=[v8]) (enc:=E.z) hm GJ (by first|exact Zm.nil|(simp(maxDischargeDepth:=20) [*];done)|(simp(maxDischargeDepth:=20) [*];refine⟨?_,by omega⟩;intro hq;subst hq;simp at hz2<;>omega)) (by simp[*]) (by decide) (by decide) (λ_=>rfl) ?_;clear hm;intro hl10 hm g9
  try simp[*]
  exact Zj.of (s6++[v8]) ⟨⟨.own (h6.p+3,384) ((s6++[v8]).map E.z),c6_bb4_2,by simp(maxDischargeDepth:=20) [*],(by first|(simp[*];done)|exact gc6_bb4_2.apart (by simp))⟩,hm⟩
 .rintro s6 e6 h6 ⟨c6_0,c6_bb4_2,⟨hn6,h6_1,h6_2,h6_3,h6_13,h6_14,h6_15,hb6_b1,hb6_b2,hb6_b4,gc6_0,gc6_bb4_2⟩,apc6_0_c6_bb4_2⟩ hm;have hlc6_0:=gc6_0.list;have hdc6_0:=gc6_0.toD;have hac6_0:=gc6_0.toA;have huc6_0:=gc6_0.qG;have hlc6_bb4_2:=gc6_bb4_2.list;have hdc6_bb4_2:=gc6_bb4_2.toD;have hac6_bb4_2:=gc6_bb4_2.toA;have huc6_bb4_2:=gc6_bb4_2.qG
  try simp[*]
  intro hl11;replace hl11:s_.b.length<=2097152:=by simpa using hl11
  refine Z6.for (xs:=s_.b) (s0:=[]) (λi12 s12 e12 h12=>∃c12_bb4_0 c12_0 c12_bb4_2:C,(e12.n=46/\e12.get 2=.one (.ptr (1,32) 0)/\e12.get 3=.one (.ptr (3,48) 0)/\e12.get 28=.one (.d (.sl (s_.b.map Fk.z)))/\e12.get 29=.one (.d (.int .i64 (s_.b.length:Int)))/\e12.get 30=.one (.d (.int .i64 (i12:Int)))/\h12.a (1,32)=some [.nil,.nil,.nil]/\h12.a (3,48)=some [c12_bb4_0,c12_0,c12_bb4_2]/\Zm h12 3 c12_bb4_0 (s6.map E.z)/\Zm h12 3 c12_0 (s12.map Fk.z)/\Zm h12 7 c12_bb4_2 (v3.map Cons.z))/\WM c12_bb4_0 c12_0/\WM c12_bb4_0 c12_bb4_2/\WM c12_0 c12_bb4_2) hm ⟨c6_0,.nil,c6_bb4_2,by simp(maxDischargeDepth:=20) [*],(by simp),(by first|assumption|exact WM.symm (by assumption)),(by simp)⟩ ?_ ?_
  .rintro i12 s12 e12 h12 ⟨c12_bb4_0,c12_0,c12_bb4_2,⟨hn12,h12_2,h12_3,h12_28,h12_29,h12_30,hb12_b2,hb12_b4,gc12_bb4_0,gc12_0,gc12_bb4_2⟩,apc12_bb4_0_c12_0,apc12_bb4_0_c12_bb4_2,apc12_0_c12_bb4_2⟩ hlt12 hm;have hlc12_bb4_0:=gc12_bb4_0.list;have hdc12_bb4_0:=gc12_bb4_0.toD;have hac12_bb4_0:=gc12_bb4_0.toA;have huc12_bb4_0:=gc12_bb4_0.qG;have hlc12_0:=gc12_0.list;have hdc12_0:=gc12_0.toD;have hac12_0:=gc12_0.toA;have huc12_0:=gc12_0.qG;have hlc12_bb4_2:=gc12_bb4_2.list;have hdc12_bb4_2:=gc12_bb4_2.toD;have hac12_bb4_2:=gc12_bb4_2.toA;have huc12_bb4_2:=gc12_bb4_2.qG;have hw12:IntKind.i64.wrap ((i12:Int)+1)=(i12:Int)+1:=Y6 _ (by omega)
   try simp[*]
   refine AC (av:=[.one (.d (.sl ((s_.b[i12].j).map Zg)))]) hm (λv hv=>Nu _ v hv) (by simp[*]) ?_;clear hm;intro v14 hvv14 hm
   try simp[*]
   refine CK (xs:=s12) (ys:=[(Fk.mk s_.b[i12].u v14 s_.b[i12].ref)]) (enc:=Fk.z) hm GH (by first|exact Zm.nil|(simp(maxDischargeDepth:=20) [*];done)|(simp(maxDischargeDepth:=20) [*];refine⟨?_,by omega⟩;intro hq;subst hq;simp at hz2<;>omega)) (by simp[*]) (by decide) (by decide) (λ_=>rfl) ?_;clear hm;intro hl16 hm g15
   try simp[*]
   exact Zj.of (s12++[(Fk.mk s_.b[i12].u v14 s_.b[i12].ref)]) ⟨⟨c12_bb4_0,.own (h12.p+3,672) ((s12++[(Fk.mk s_.b[i12].u v14 s_.b[i12].ref)]).map Fk.z),c12_bb4_2,by simp(maxDischargeDepth:=20) [*],(by first|(simp[*];done)|exact(gc12_bb4_0.apart (by simp)).symm),(by first|assumption|exact WM.symm (by assumption)),(by first|(simp[*];done)|exact gc12_bb4_2.apart (by simp))⟩,hm⟩
  .rintro s12 e12 h12 ⟨c12_bb4_0,c12_0,c12_bb4_2,⟨hn12,h12_2,h12_3,h12_28,h12_29,h12_30,hb12_b2,hb12_b4,gc12_bb4_0,gc12_0,gc12_bb4_2⟩,apc12_bb4_0_c12_0,apc12_bb4_0_c12_bb4_2,apc12_0_c12_bb4_2⟩ hm;have hlc12_bb4_0:=gc12_bb4_0.list;have hdc12_bb4_0:=gc12_bb4_0.toD;have hac12_bb4_0:=gc12_bb4_0.toA;have huc12_bb4_0:=gc12_bb4_0.qG;have hlc12_0:=gc12_0.list;have hdc12_0:=gc12_0.toD;have hac12_0:=gc12_0.toA;have huc12_0:=gc12_0.qG;have hlc12_bb4_2:=gc12_bb4_2.list;have hdc12_bb4_2:=gc12_bb4_2.toD;have hac12_bb4_2:=gc12_bb4_2.toA;have huc12_bb4_2:=gc12_bb4_2.qG
   try simp[*]
   obtain rfl:=Zk hm;exact U0 (vs:=[_]) (by simp[*];try exact rfl) (by simp[*])
instance Zi9(s_:Sch):Con (UG s_) prog 47 [.agg s_.z] (λr=>.agg (r.z.map RC.d)):=⟨λr hm=>Ki s_ r hm⟩
def Qw{α β:Type}{b:List α}{f:α->β}{Q:List β->Prop}{ρ:Type}{R:ρ->Prop}{a:Nat->α->List β->(List β->aB ρ)->aB ρ}{k:List β->aB ρ}(hl:b.length<=1048576)
  (e:∀i x s next,s.length<1048576->Wp (next (s++[f x])) R->Wp (a i x s next) R)(hk:Wp (k (b.map f)) R):Wp (Zd a k b 0 []) R:=by
 refine X6 (λi s=>s=(b.take i).map f) I ?_ ?_
 .intro i x s next c hm d g
  have hi:=(Y0.1 c).1;subst d;refine e i x _ next sO (g _ ?_)
  rw[List.take_add_one,c];simp
 intro s h
 rwa [h,Yl]
def I1(S:Sch)(c:S.q.length<=1048576)(d:S.b.length<=1048576):Wp (UG S) λr=>r=S:=by
 unfold UG;refine X0 (R:=λr=>r=S.cons) (X2 rfl) λo _ e=>?_;subst e;refine Qw (f:=id) (Q:=λ_=>True) c ?_ ?_
 .intro i x s next g a
  refine X0 (R:=λr=>r=x) (X2 (by cases x;rfl)) λy _ b=>?_;subst b;exact X8 sO a
 refine Qw (f:=id) (Q:=λ_=>True) d ?_ ?_
 .intro i x s next g a
  refine X0 (R:=λr=>r=x.j) (X2 rfl) λy _ b=>?_;subst b;exact X8 sO (by cases x;exact a)
 exact X2 (by cases S;simp)
def Sj{a b:aA}(h:(a==b)=true):a=b:=by
 cases a with
 |mk d=>cases b with
   |mk e=>
     have c:(d==e)=true:=h;rw[eq_of_beq c]
def NM(a b:List Col):Wp (E9 a b) λr=>r=true->a=b:=by
 unfold E9;refine X7 λh=>?_;have hl:a.length=b.length:=by simp at h;omega
 refine X6 (λi _=>∀j,j<i->a[j]?=b[j]?) (by intro j h;omega) (λi x s next f _ d n=>?_) λs d=>X2 λ_=>YU λj=>?_;have hi:=(Y0.1 f).1;refine X3 X X λy o _=>X7 λe=>n () λj hj=>?_;rcases Yx j i with c|c;exact d j c;obtain rfl:j=i:=X
 have g:b[j]?=some y:=by rw[<-o];congr 1
 rw[f,g];have⟨n1,k1,l1⟩:=x;have⟨n2,k2,l2⟩:=y;simp at e;have⟨k,l,m⟩:=e;rw[Sj k,l,m];rcases Yx j a.length with c|c;exact d j c;rw[Yq c,Yq X]
def Z24(a b:E):Wp (FK a b) λ_=>True:=by
 unfold FK HU;refine X0 (R:=λ_=>True) (X1 (λ_=>X0 (NM _ _) λ_ _ _=>X1 (λ_=>X0 (Gb _ _) λ_ _ _=>X2 trivial) λ_=>X2 trivial) λ_=>X2 trivial) λ_ _ _=>X2 trivial
def Nl(x:Stp):Wp (FL x) λe=>e=0->1<=x.g/\x.g<=16:=by
 unfold FL;refine X7 λa=>X7 λb=>X0 (R:=λ_=>True) ?_ λy _ _=>X0 (R:=λ_=>True) ?_ λ_ _ _=>X7 λ_=>X2 λ_=>⟨by simp at a;omega,by simp at b;omega⟩
 .unfold FF
  repeat' first|exact X2 trivial|refine X1 (λ_=>?_) λ_=>?_
 unfold HW
 repeat' first|exact X2 trivial|refine X0 (Gb _ _) λ_ _ _=>?_|refine X0 (Z24 _ _) λ_ _ _=>?_|refine X0 (FU _ _) λ_ _ _=>?_|refine X1 (λ_=>?_) λ_=>?_
def Kq(a:List Int)(v:Int):Wp (Cj a v) λk=>(k=-1/\v∉a)\/(0<=k/\k<a.length/\v∈a):=by
 unfold Cj;refine X6 (λi _=>∀(j:Nat) (y:Int),j<i->a[j]?=some y->y≠v) (by intro j y h;omega) ?_ ?_
 .intro i x s next c e b f
  have hi:=(Y0.1 c).1;refine X1 (λh=>X2 (.inr ⟨X,X,?_⟩)) λh=>f () (Ab b c ?_)
  have:v=x:=sU h
  rw[this];exact e;intro d;simp[d] at h
 intro s b;exact X2 (.inl ⟨rfl,λg=>BG b v g rfl⟩)
def C4(a:List Int)(v:Int):Wp (A3 a v) λb=>b=true↔v∈a:=by
 unfold A3;refine X0 (Kq a v) λk _ d=>X2 ?_;rcases d with⟨rfl,h⟩|⟨c,_,h⟩;simp[h];simp[h,c]
def KI(a b:List Int)(hl:a.length<=2097152):Wp (Df a b) λo=>o=0->∀v∈a,v∉b:=by
 unfold Df;refine X6 (λi s=>(0<=s/\s<=i)/\(s=0->∀(j:Nat) (v:Int),j<i->a[j]?=some v->v∉b)) ⟨I,λ_ j v h=>X⟩ ?_ ?_
 .rintro i x s next e hm ⟨⟨f,h1⟩,d⟩ hn
  have hi:=(Y0.1 e).1;refine X0 (C4 _ _) λc _ k=>X1 (λ_=>X4 ⟨X,X⟩ (hn _ ⟨⟨X,X⟩,λh=>X⟩)) λh=>hn _ ⟨⟨f,X⟩,λl=>Ab (d l) e λg=>by rw[k.2 g] at h;cases h⟩
 rintro s ⟨_,d⟩;exact X1 (λh=>X2 λ_=>BG (d (sU h))) λ_=>X7 λ_=>X2 I
def Z17(S:Sch)(c:Cons):Wp (Hu S c) λq=>q.1.q=S.q:=by
 unfold Hu E0;refine X0 (R:=λk=>k<S.cons.length) (X6 (λ_ _=>True) trivial (λi x s next b _ _ a=>X1 (λ_=>X2 ?_) λ_=>a () trivial) λ_ _=>X2 X) λk _ hk=>Wp.ite (λ_=>X2 rfl) λh=>X4 X (X2 rfl);have hi:=(Y0.1 b).1;omega
def Ny(S:Sch)(c:Fk):Wp (D3 S c) λq=>q.1.q=S.q/\q.1.cons=S.cons/\∀f∈q.1.b,f∈S.b:=by
 unfold D3 D1;refine X0 (Xc λx _=>?_) λk _ b=>Wp.ite (λ_=>X2 ⟨rfl,rfl,λ_ h=>h⟩) λh=>X4 (by have:=b.lt;omega) (X2 ⟨rfl,rfl,λf a=>?_⟩);unfold Zpx;exact X0 (FU _ _) λ_ _ _=>X2 trivial;simp only at a;rcases Y3.1 a with h1|h1;exact XE h1;exact List.mem_of_mem_drop h1
end
end Go.Am
section
namespace Go.Am
section
variable{α:Type}
def Zo(a:List Int):Nat->List α->List α
 |_,[]=>[]
 |i,x::xs=>if(i:Int)∈a then Zo a (i+1) xs else x::Zo a (i+1) xs
def KE(a:List Int)(x:α):∀(b:List α) (i:Nat),Zo a i (b++[x])=Zo a i b++(if((i+b.length:Nat):Int)∈a then[] else[x])
 |[],i=>by simp only[Yv,Zo,Y3a,Xl]
 |y::ys,i=>by have h:=KE a x ys (i+1);rw[show i+1+ys.length=i+(y::ys).length by simp;omega] at h;simp only[Yt,Zo,h];split;rfl;rfl
def Gd{a:List α}{i:Nat}{x:α}(h:a[i]?=some x):a.take (i+1)=a.take i++[x]:=by rw[List.take_add_one,h];rfl
def Dl(a:List Int){b:List α}{i:Nat}{x:α}(h:b[i]?=some x):Zo a 0 (b.take (i+1))=Zo a 0 (b.take i)++(if(i:Int)∈a then[] else[x]):=by have hi:=(Y0.1 h).1;rw[Gd h,KE,YA,Nat.min_eq_left X,XI]
end
def Ug(a:List Int)(v:Int):Int:=v-(a.filter λr=>decide (r<v)).length
def VX:Zz=2097152:=rfl
def S7(v:Int)(a:List Int)(h0:0<=v)(h1:v<2097152)(hl:a.length<=2097152):Wp (DZ v a) λr=>r=Ug a v:=by
 unfold DZ;refine X6 (λi s=>s=((a.take i).filter λr=>decide (r<v)).length) I ?_ ?_
 .rintro i x s next d hm rfl c
  have hi:=(Y0.1 d).1;have b:((a.take i).filter λr=>decide (r<v)).length<=i:=YE (XR _ _) sO;have e:((a.take (i+1)).filter λr=>decide (r<v)).length=((a.take i).filter λr=>decide (r<v)).length+(if x<v then 1 else 0):=by rw[Gd d,Y03,Ye];by_cases h:x<v<;>simp[h]
  refine X1 (λh=>X4 ⟨X,X⟩ (c _ ?_)) λh=>c _ ?_;have h:x<v:=sU h;rw[e,if_pos h];omega;have h:¬x<v:=sU h;rw[e,if_neg h];omega
 rintro s rfl;have b:=XR (λr=>decide (r<v)) (a.take a.length);rw[Yl] at b|-;exact X4 ⟨X,X⟩ (X2 rfl)
def ZW(T:E)(a:List Int):E:={T with j:=Zo a 0 T.j,pk:=T.pk.map (Ug a)}
def Z41{α:Type}{b:List α}{p:Nat->α->Prop}{i:Nat}{x:α}(h:∀(j:Nat) (y:α),j<i->b[j]?=some y->p j y)(d:b[i]?=some x)(c:p i x):∀(j:Nat) (y:α),j<i+1->b[j]?=some y->p j y:=by
 intro j y hj a;rcases Yx j i with h1|h1;exact h j y h1 a;obtain rfl:j=i:=X
 rw[d] at a;cases a;exact c
def H9(v:GV)(c:Col):Prop:=WE v=some 0/\(v.g=0->c.f=true)/\(v.g≠0->v.g=c.g)
def Zfa:Col:=⟨ByteArray.empty,0,false⟩
def Zf(T:E)(c:Int):Col:=(T.j[c.toNat]?).getD Zfa
structure SplitOK(T:E)(cs:List Int):Prop where
 ne:cs≠[]
 rng:∀v∈cs,0<=v/\v<T.j.length
 asc:∀(i:Nat) (a b:Int),cs[i]?=some a->cs[i+1]?=some b->a<b
 pk:∀v∈cs,v∉T.pk
inductive EvT(S:Sch)(ts:List E)(x:Stp):Prop
 |add {i:Nat} {T:E} (k:x.g=1) (hi:S.q[i]?=some T) (hn:Z9 T.y x.u=true) (hd:H9 x.value ⟨x.d,x.type,x.value.g==0⟩) (e:ts=S.q.set i {T with j:=T.j++[⟨x.d,x.type,x.value.g==0⟩]})
 |drop {i:Nat} {T:E} {c:Int} {col:Col} (k:x.g=2) (hi:S.q[i]?=some T) (hn:Z9 T.y x.u=true) (hc:W7 T x.d=some (c,true)) (hcol:T.j[c.toNat]?=some col) (hp:c∉T.pk) (hd:H9 x.value col) (e:ts=S.q.set i (ZW T [c]))
 |rencol {i:Nat} {T:E} {c:Int} {col:Col} (k:x.g=3) (hi:S.q[i]?=some T) (hn:Z9 T.y x.u=true) (hcol:T.j[c.toNat]?=some col) (e:ts=S.q.set i {T with j:=T.j.set c.toNat {col with y:=x.s}})
 |ren {i:Nat} {T:E} (k:x.g=4) (hi:S.q[i]?=some T) (hn:Z9 T.y x.u=true) (ho:∀U∈S.q,Z9 U.y x.s=false) (e:ts=WG Ur (S.q.length-1) 1 (S.q.take i++S.q.drop (i+1)++[{T with y:=x.s}]))
 |type {i:Nat} {T:E} {c:Int} {col:Col} (k:x.g=5) (hi:S.q[i]?=some T) (hn:Z9 T.y x.u=true) (hc:W7 T x.d=some (c,true)) (hcol:T.j[c.toNat]?=some col) (hp:c∉T.pk) (e:ts=S.q.set i {T with j:=T.j.set c.toNat {col with g:=x.type}})
 |split {i:Nat} {T:E} (k:x.g=6) (hi:S.q[i]?=some T) (hn:Z9 T.y x.u=true) (ho:∀U∈S.q,Z9 U.y x.o=false) (hs:SplitOK T x.j) (e:ts=WG Ur S.q.length 1 (S.q.set i (ZW T x.j)++[⟨x.o,(T.pk++x.j).map (Zf T),ZZ T.pk.length⟩]))
 |join {i j:Nat} {T O:E} (k:x.g=7) (hi:S.q[i]?=some T) (hn:Z9 T.y x.u=true) (hj:S.q[j]?=some O) (ho:Z9 O.y x.o=true) (hij:i≠j) (hp:O.pk=ZZ T.pk.length) (hk:∀(n:Nat) (v:Int),T.pk[n]?=some v->(Zf T v).g=(Zf O n).g) (e:ts=(S.q.set i {T with j:=T.j++O.j.drop T.pk.length}).take j++(S.q.set i {T with j:=T.j++O.j.drop T.pk.length}).drop (j+1))
 |part {i:Nat} {T:E} {c:Int} {col:Col} {b:Bool} (k:x.g=8) (hi:S.q[i]?=some T) (hn:Z9 T.y x.u=true) (hc:W7 T x.d=some (c,true)) (hcol:T.j[c.toNat]?=some col) (hq:Bt x.value x.op x.value=some (b,0)) (hv:WE x.value=some 0) (hk:x.value.g=col.g) (ho:∀U∈S.q,Z9 U.y x.o=false) (e:ts=WG Ur S.q.length 1 (S.q++[{T with y:=x.o}]))
 |merge {i j:Nat} {T O:E} (k:x.g=9) (hi:S.q[i]?=some T) (hn:Z9 T.y x.u=true) (hj:S.q[j]?=some O) (ho:Z9 O.y x.o=true) (hij:i≠j) (hc:T.j=O.j) (hp:T.pk=O.pk) (e:ts=(S.q.set i {T with pk:=T.pk++[(T.j.length:Int)],j:=T.j++[⟨x.d,2,false⟩]}).filter λt=>!Z9 t.y O.y)
 |create (k:x.g=10) (ho:∀U∈S.q,Z9 U.y x.v.y=false) (e:ts=WG Ur S.q.length 1 (S.q++[x.v]))
 |droptab (k:x.g=11) (ho:∃T∈S.q,Z9 T.y x.u=true) (e:ts=S.q.filter λt=>!Z9 t.y x.u)
 |concat {i:Nat} {T:E} {a b:Int} (k:x.g=12) (hi:S.q[i]?=some T) (hn:Z9 T.y x.u=true) (hx:x.j=[a,b]) (ha:0<=a) (hab:a<b) (hb:b<T.j.length) (hka:(Zf T a).g=3) (hkb:(Zf T b).g=3) (hp:a∉T.pk/\b∉T.pk) (e:ts=S.q.set i {ZW T x.j with j:=Zo x.j 0 T.j++[⟨x.d,3,(Zf T a).f&&(Zf T b).f⟩]})
 |rule (k:13<=x.g) (e:ts=S.q)
end Go.Am
end
section
namespace Go.Am
def I8(S T)(h:S.q.length<19):Wp (D7 S T) λa=>a.b=S.b/\a.cons=S.cons/\a.q=WG Ur S.q.length 1 (S.q++[T]):=by unfold D7;exact X4 h (X2 ⟨rfl,rfl,rfl⟩)
def Z22(S x)(h:S.q.length<19)(c:x.g=10):Wp (HE S x.v) λq=>q.2=0->EvT S q.1.q x:=by
 unfold HE;exact X0 (UH _ _) λv _ d=>X7 λb=>X0 (I8 S _ h) λ_ _ a=>X2 λ_=>.create c (d.2.2 b) a.2.2
def Z20(S)(i:Nat)(x)(h:S.q.length<19){T}(j:S.q[i]?=some T)(b:Z9 T.y x.u=true)(l:x.g=4):Wp (Hz S i x.s) λq=>q.2=0->EvT S q.1.q x:=by
 have hi:=(Y0.1 j).1;have a:(S.q.take i++S.q.drop (i+1)).length=S.q.length-1:=sO
 unfold Hz;refine X0 (UH _ _) λv _ r=>X7 λp=>X5 j (X0 (I8 _ _ (by show(S.q.take i++S.q.drop (i+1)).length<19;omega)) λd _ g=>?_);have e:=g.2.2;simp only at e;rw[a] at e;refine Xa (λ_ S2=>S2.b.length=d.b.length/\S2.q=d.q) ⟨rfl,rfl⟩ ?_ ?_
 .rintro k S2 next l ⟨a,m⟩ b
  refine X3 X X λf _ _=>?_
  repeat' first|exact b _ ⟨sU a,m⟩|refine X1 (λ_=>?_) λ_=>?_
 rintro S2 ⟨_,n⟩;refine Xa (λ_ c=>c.cons.length=S2.cons.length/\c.q=d.q) ⟨rfl,n⟩ ?_ λc o=>X2 λ_=>.ren l j b (r.2.2 p) (o.2.trans e);rintro k c next l ⟨a,m⟩ b
 refine X3 X X λf _ _=>?_
 repeat' first|exact b _ ⟨sU a,m⟩|refine X1 (λ_=>?_) λ_=>?_
def NK(S a D)(P:Int->Prop)(u:∀v,P v->Wp (D v) λ_=>True)
  (K:∀f∈S.b,Z9 f.u a=true->∀v∈f.j,P v)(L:∀c∈S.cons,Z9 c.u a=true->P c.left/\(0<=c.right->P c.right)):
  Wp (D5 S a D) λt=>t.q=S.q/\t.b.length=S.b.length/\t.cons.length=S.cons.length:=by
 unfold D5;refine Xa (λi n=>n.q=S.q/\n.cons=S.cons/\n.b.length=S.b.length/\∀j,i<=j->n.b[j]?=S.b[j]?) ⟨rfl,rfl,rfl,λ_ _=>rfl⟩ ?_ ?_
 .rintro i n next C ⟨q,o,r,x⟩ hn
  unfold PY;refine X3 X X λf z _=>?_;have E:S.b[i]?=some f:=by rw[<-x i (Y7 _),<-z];congr 1
  refine X1 (λm=>?_) λ_=>hn _ ⟨q,o,r,λj p=>x j X⟩;have s:=K f (Y2 E) m;refine Xa (λk S2=>S2.q=S.q/\S2.cons=S.cons/\S2.b.length=S.b.length/\(∀j,i+1<=j->S2.b[j]?=S.b[j]?)/\∃b,S2.b[i]?=some b/\b.j.length=f.j.length/\∀j,k<=j->b.j[j]?=f.j[j]?)
   ⟨q,o,r,λj p=>x j X,f,by rw[<-z];congr 1,rfl,λ_ _=>rfl⟩ ?_ ?_
  rintro k S2 next2 hk ⟨d,e,g,l,b,H,I,B⟩ hn2;refine X5 H (X3 X X λv M _=>?_);have F:f.j[k]?=some v:=by rw[<-B k (Y7 _),<-M];congr 1
  refine X0 (u v (s v (Y2 F))) λw _ _=>hn2 _ ⟨d,e,sU g,λj p=>?_,⟨b.u,b.j.set k w,b.ref⟩,?_,sU I,λj p=>?_⟩;rw[Ys X];exact l j p;rw[Yr X];simp only;rw[Ys X];exact B j X;rintro S2 ⟨d,e,g,l,_⟩;exact hn _ ⟨d,e,g,l⟩
 rintro n ⟨q,o,r,_⟩;refine Xa (λi S2=>S2.q=S.q/\S2.b.length=S.b.length/\S2.cons.length=S.cons.length/\∀j,i<=j->S2.cons[j]?=S.cons[j]?) ⟨q,r,by rw[o],λ_ _=>by rw[o]⟩ ?_ λS2 h=>X2 ⟨h.1,h.2.1,h.2.2.1⟩;rintro i S2 next C ⟨d,e,g,l⟩ hn
 unfold PX;have ag:i<S.cons.length:=by rw[<-o];exact C
 refine X3 X X λc J _=>?_;have G:S.cons[i]?=some c:=by rw[<-l i (Y7 _),<-J];congr 1
 refine X1 (λ_=>hn _ ⟨d,e,g,λj p=>l j X⟩) λm=>?_;have s:=L c (Y2 G) (sU m);have y:∀A,∀j,i+1<=j->(S2.cons.set i A)[j]?=S.cons[j]?:=λA j p=>by rw[Ys X];exact l j X
 refine X0 (u _ s.1) λv _ _=>X1 (λh=>X0 (u _ (s.2 (sU h))) λw _ _=>hn _ ⟨d,e,sU g,y _⟩) λ_=>hn _ ⟨d,e,sU g,y _⟩
def Kf(S)(i:Nat)(T)(a)(q:S.q[i]?=some T)(t:VT T)(z:a.length<=2097152)
  (C:∀f∈S.b,Z9 f.u T.y=true->∀v∈f.j,0<=v/\v<6)(A:∀c∈S.cons,Z9 c.u T.y=true->(0<=c.left/\c.left<6)/\c.right<6):
  Wp (E5 S i a) λp=>p.q=S.q.set i (ZW T a)/\p.b.length=S.b.length/\p.cons.length=S.cons.length:=by
 unfold E5;have y:=(Y0.1 q).1;have h6:=t.cols6;refine X5 q ?_;refine X6 (λk s=>s=Zo a 0 (T.j.take k)) rfl ?_ ?_
 .rintro k c s next o _ rfl n
  unfold Pe;refine X0 (C4 _ _) λb _ u=>X1 (λh=>n _ ?_) λh=>n _ ?_;rw[Dl a o,if_neg];exact λB=>by rw[u.2 B] at h;cases h
  rw[Dl a o,if_pos (u.1 (sU h)),Ym]
 rintro cols rfl;rw[Yl];refine Xa (λk g=>g.b=S.b/\g.cons=S.cons/\g.q=S.q.set i {T with pk:=(T.pk.take k).map (Ug a)++T.pk.drop k}) ⟨rfl,rfl,?_⟩ ?_ ?_;simp only[List.take_zero,Yf,Yv,XU];exact(EU q).symm
 .rintro k g next j ⟨l,m,e⟩ n
  unfold Pd;have o:=Y1 j;have D:=t.pk _ (Yh j);refine X5 (by rw[e,Yr y]) (X5 ?_ (X0 (S7 _ a D.1 X z) λv _ r=>n _ ⟨l,m,?_⟩));rw[YC sO];simp[Nat.min_eq_left (Nat.le_of_lt j)];subst r;simp only;rw[e,List.set_set,Gd o,YL]
  congr 2
  rw[List.set_append_right _ _ sO];simp[Nat.min_eq_left (Nat.le_of_lt j)];rw[YB j];rfl
 rintro g ⟨l,m,e⟩;rw[Yl,List.drop_length,Ym] at e;refine X5 (by rw[e,Yr y]) (X0 (NK _ _ _ (λv=>0<=v/\v<6) (λv r=>(S7 v a r.1 X z).mono λ_ _ _=>trivial) ?_ ?_) λS2 _ d=>X2 ⟨?_,?_,?_⟩);simp only[l];exact C;simp only[m];exact λc w x=>⟨(A c w x).1,λh=>⟨h,(A c w x).2⟩⟩;rw[d.1,e,List.set_set];rfl;rw[d.2.1];simp only[l];rw[d.2.2];simp only[m]
def NS(S T)(v:Int):Wp (E8 S T v) λe=>e=0->v∉T.pk:=by
 unfold E8 Hn Fu;refine X0 (C4 _ _) λb _ c=>X7 λa=>?_;have d:v∉T.pk:=λh=>by rw[c.2 h] at a;cases a
 refine X0 (Ep _ _ λx _=>?_) λ_ _ _=>X7 λ_=>X0 (R:=λ_=>True) (X0 (Xc λx _=>?_) λ_ _ _=>X2 trivial) λ_ _ _=>X7 λ_=>X2 λ_=>d;unfold FB;exact X1 (λ_=>X0 (C4 _ _) λ_ _ _=>X2 trivial) λ_=>X2 trivial;unfold FA;exact X1 (λ_=>X1 (λ_=>X2 trivial) λ_=>X2 trivial) λ_=>X2 trivial
def NL(v c):Wp (E7 v c) λe=>e=0->H9 v c:=by
 unfold E7;refine X0 (Eu _) λe g _=>X1 (λh=>X2 λi=>by simp[i] at h) λh=>?_;obtain rfl:e=0:=sU h;refine X1 (λb=>?_) λb=>?_;have a:v.g=0:=sU b;refine X7 λd=>X1 (λf=>by simp[a] at f) λ_=>X2 λ_=>⟨g,λ_=>sU d,λh=>absurd a h⟩;have a:v.g≠0:=sU b;refine X1 (λ_=>X7 λf=>X2 λ_=>⟨g,λh=>absurd h a,λ_=>sU f⟩) λd=>by simp[a] at d
section
variable{S:Sch}{i:Nat}{T:E}
def Z37(x)(b:S.q[i]?=some T)(c:VT T)(j:Z9 T.y x.u=true)(g:x.g=1):Wp (HQ S i x) λq=>q.2=0->EvT S q.1.q x:=by
 unfold HQ;have d:=c.cols0;have h2:=c.cols6;exact X0 (NL _ _) λe _ f=>X1 (λh=>X2 λa=>by simp only at a;simp[a] at h) λh=>X5 b (X4 ⟨d,by have:=VX;omega⟩ (X2 λ_=>.add g b j (f (sU h)) rfl))
def VS.hf(h:VS S)(b):∀f∈S.b,Z9 f.u b=true->∀v∈f.j,0<=v/\v<6:=λf a _=>(h.fk f a).2
def VS.ho(h:VS S)(b):∀c∈S.cons,Z9 c.u b=true->(0<=c.left/\c.left<6)/\c.right<6:=λc a _=>⟨(h.con c a).1,(h.con c a).2.2⟩
def Z23(x:Stp)(b:S.q[i]?=some T)(g:VS S)(j:Z9 T.y x.u=true)(v:x.g=2\/x.g=3\/x.g=5):Wp (HG S i x) λq=>q.2=0->EvT S q.1.q x:=by
 unfold HG;have t:=g.tab T (Y2 b);refine X5 b (X0 (AX _ _) λr p c=>X7 λh=>?_);have m:r.2=true:=sU h;have f:=c.2.1 m;have n:W7 T x.d=some (r.1,true):=by rw[p,<-m]
 refine X1 (λk=>X0 (AX _ _) λ_ _ _=>X7 λ_=>X3 c.1 f λ_ d _=>X2 λ_=>.rencol (sU k) b j d rfl) λk=>?_;refine X0 (NS _ _ _) λe _ o=>X1 (λh=>X2 λa=>by simp only at a;simp[a] at h) λa=>X1 (λl=>X3 c.1 f λ_ d _=>X2 λ_=>.type (sU l) b j n d (o (sU a)) rfl) λl=>X3 c.1 f λ_ d _=>?_;have w:=v.resolve_right λh=>h.elim (λh=>by simp[h] at k) λh=>by simp[h] at l
 exact X0 (NL _ _) λe _ u=>X1 (λh=>X2 λa=>by simp only at a;simp[a] at h) λs=>X0 (Kf S i T [r.1] b t I (g.hf _) (g.ho _)) λ_ _ c=>X2 λ_=>.drop w b j n d (o (sU a)) (u (sU s)) c.1
def Pg{α:Type}{b}:∀{a:List α} {i:Nat},(∃k,k<a.length/\((i+k:Nat):Int)∉b)->0<(Zo b i a).length
 |[],_,⟨k,h,_⟩=>by simp at h
 |x::a,i,⟨k,h,c⟩=>by
   unfold Zo;split;rename_i d;cases k with
   |zero=>exact absurd d c
   |succ k=>exact Pg ⟨k,by simpa using h,by rwa [show i+1+k=i+(k+1) by omega]⟩
   simp
def Lz{α:Type}{rm}:∀{xs:List α} {i:Nat},(Zo rm i xs).length<=xs.length
 |[],_=>Y7 _
 |x::xs,i=>by
   unfold Zo
   have:=Lz (rm:=rm) (xs:=xs) (i:=i+1)
   split<;>simp<;>omega
def Z1e(x:Stp)(l:S.q[i]?=some T)(r:VS S)(m:Z9 T.y x.u=true)(N:x.g=12):Wp (Hw S i x) λq=>q.2=0->EvT S q.1.q x:=by
 unfold Hw;have n:=r.tab T (Y2 l);have M:=(Y0.1 l).1;refine X5 l (X7 λK=>?_);have O:x.j.length=2:=by simp at K;omega
 obtain⟨a,b,p⟩:∃a b,x.j=[a,b]:=by
  match x.j,O with
  |[a,b],_=>exact⟨a,b,rfl⟩
 rw[p];refine X3 X I λa' G _=>X7 λC=>X3 X I λb' H _=>X7 λD=>X7 λE=>?_;simp at G H C D E;subst G H;refine X6 (λj w=>(∀k y,k<j->([a,b]:List Int)[k]?=some y->(Zf T y).g=3)/\w=(([a,b]:List Int).take j).all λy=>(Zf T y).f) ⟨by intro j y h;omega,rfl⟩ ?_ λw u=>?_
 .rintro j d s next o P ⟨f,rfl⟩ m
  have hc:d=a\/d=b:=sU P;refine X3 X X λc v _=>X7 λJ=>m _ ⟨Ab f o ?_,?_⟩;simpa[Zf,v] using J;rw[Gd o,List.all_append];simp[Zf,v]
 refine X6 (λi _=>∀j y,j<i->([a,b]:List Int)[j]?=some y->y∉T.pk) (by intro j y h;omega) ?_ λ_ f=>?_
 .intro j d _ next o _ f m
  exact X0 (NS _ _ _) λe _ L=>X1 (λh=>X2 λB=>by simp only at B;simp[B] at h) λh=>m () (Ab f o (L (sU h)))
 have t:=BG f;have F:=BG u.1;refine X0 (Kf S i T [a,b] l n I (r.hf _) (r.ho _)) λS1 _ g=>?_;have h6:=n.cols6;have ah:=Lz (rm:=[a,b]) (xs:=T.j) (i:=0);refine X5 (by rw[g.1,Yr M]) (X4 ⟨?_,by have:=VX;show(Zo _ _ _).length<_;omega⟩ (X2 λ_=>.concat N l m p C D E (F a I) (F b I) ⟨t a I,t b I⟩ ?_));have A:=n.pk0;have hp:=n.pk _ (Yh A);refine Pg ⟨(T.pk[0]).toNat,X,λz=>?_⟩;rw[show((0+(T.pk[0]).toNat:Nat):Int)=T.pk[0] by omega] at z;exact t _ z (Yh A);rw[u.2,p];simp only;rw[g.1,List.set_set];simp[ZW]
def Z36(x)(a:∃T∈S.q,Z9 T.y x.u=true)(b:x.g=11):Wp (HP S x.u) λq=>q.2=0->EvT S q.1.q x:=by
 unfold HP;refine X0 (Ep _ _ λx _=>?_) λ_ _ _=>Wp.ite (λ_=>X2 I) λ_=>X2 λ_=>.droptab b a rfl;unfold FE;exact X1 (λ_=>X2 trivial) λ_=>X2 trivial
end
end Go.Am
end
section
namespace Go.Am
def Z57{a b:aA}:Z9 a b=Z9 b a:=by
 unfold Z9
 first|exact Bool.beq_comm|exact BEq.comm|exact decide_eq_decide.2 eq_comm
section
variable{S:Sch}{i:Nat}{T:E}
def Z2o(x:Stp)(hl:x.j.length<=1048576):Wp (FG S T x) λe=>e=0->SplitOK T x.j/\∀t∈S.q,Z9 t.y x.o=false:=by
 have hL:=VX;unfold FG;refine X6 (λi _=>(∀(j:Nat) (y:Int),j<i->x.j[j]?=some y->0<=y/\y<T.j.length)/\∀(j:Nat) (a b:Int),j+1<i->x.j[j]?=some a->x.j[j+1]?=some b->a<b) ⟨by intro j y h;omega,by intro j a b h;omega⟩ ?_ ?_
 .rintro i y s next m hm ⟨k,l⟩ hn
  have hi:=(Y0.1 m).1;refine X7 λf=>X7 λu=>?_;have p:=Ab k m ⟨sU f,sU u⟩;refine X1 (λg=>?_) λg=>hn () ⟨p,λj a b B d c=>by simp at g;omega⟩;have ab:0<i:=sU g;refine X4 ⟨X,X⟩ (X3 X X λz q _=>X7 λw=>hn () ⟨p,λj a b B d c=>?_⟩);rcases Yx (j+1) i with h5|h5;exact l j a b h5 d c;obtain rfl:i=j+1:=X
  rw[m] at c;rw[show(((j+1:Nat):Int)-1).toNat=j by omega,d] at q;cases c;cases q;simpa using w
 rintro s ⟨k,l⟩;refine X7 λr=>X0 (KI _ _ X) λo _ C=>X7 λf=>X0 (UH _ _) λv _ D=>X7 λh=>X2 λ_=>⟨⟨λA=>by simp[A] at r,BG k,λn a b d c=>l n a b (Y0.1 c).1 d c,C (sU f)⟩,D.2.2 h⟩
def Kg(v n:Int)(x:Stp)(hl:x.j.length<=1048576)(h0:0<=n)(h6:n<=6):Wp (D4 v n x) λ_=>True:=by
 have hL:=VX;unfold D4;refine X0 (Kq _ _) λk _ a=>X4 ?_ (X2 trivial);rcases a with⟨rfl,_⟩|⟨h1,h2,_⟩;exact⟨X,X⟩;exact⟨X,X⟩
def SL(S:Sch)(a:aA)(b:Sch):Prop:=b.q=S.q/\b.cons=S.cons/\b.b.length=S.b.length/\∀f∈b.b,f.j.length<=6/\(f.u=a\/f∈S.b)
def LX{α:Type}{c:List α}{k:Nat}{a b:α}(h:b∈c.set k a):b∈c\/b=a:=YZ h
def Z2i(x:Stp)(H:S.q[i]?=some T)(u:VS S)(K:x.j.length<=1048576)(a:Z9 T.y x.u=true)(am:x.g=6):Wp (HJ S i x) λq=>q.2=0->EvT S q.1.q x:=by
 have al:=a;have hL:=VX;have J:=u.tab T (Y2 H);have ar:=J.pk6;have aq:=J.cols6;unfold HJ;refine X5 H (X0 (Z2o x K) λe _ he=>X1 (λh=>X2 λY=>by simp only at Y;simp[Y] at h) λak=>?_);have⟨Q,O⟩:=he (sU ak);have af:=Q.rng;have F:Z9 x.o T.y=false:=by rw[Z57];exact O T (Y2 H)
 refine Xa (λ_ G=>SL S x.o G) ⟨rfl,rfl,rfl,λf B=>⟨(u.fk f B).1,.inr B⟩⟩ ?_ ?_
 .rintro k G next hk ⟨C,t,D,z⟩ a
  unfold PV;refine X3 X X λf B ag=>X1 (λ_=>a _ ⟨C,t,D,z⟩) λ_=>?_;have aj:=(z f ag).1;refine X0 (KI _ _ X) λo _ _=>X7 λ_=>X1 (λ_=>?_) λ_=>a _ ⟨C,t,D,z⟩;refine Xa (λ_ S2=>SL S x.o S2/\∃n,S2.b[k]?=some n/\n.j.length=f.j.length/\n.u=x.o) ⟨⟨C,t,sU D,?_⟩,⟨x.o,f.j,f.ref⟩,Yr X,rfl,rfl⟩ ?_ λS2 h=>a _ h.1;intro g M;rcases LX M with h|rfl;exact z g h;exact⟨aj,.inl rfl⟩;rintro j S2 next2 hj ⟨⟨b,m,p,r⟩,n,g5,g6,W⟩ hn2;unfold PW;refine X5 g5 (X3 X X λv _ _=>X0 (Kg _ _ _ K X X) λw _ _=>hn2 _ ⟨⟨b,m,sU p,λg M=>?_⟩,⟨n.u,n.j.set j w,n.ref⟩,Yr X,sU g6,W⟩);rcases LX M with h|rfl;exact r g h;exact⟨sO,.inl W⟩
 rintro G ⟨C,t,D,z⟩;refine Xa (λ_ (S2:Sch)=>S2.q=S.q/\S2.b=G.b/\S2.cons.length=S.cons.length/\∀c∈S2.cons,c.u=x.o\/c∈S.cons) ⟨C,rfl,by rw[t],λc A=>.inr (t▸A)⟩ ?_ ?_
 .rintro k S2 next hk ⟨b,m,p,r⟩ a
  rw[t] at hk;unfold PU;refine X3 X X λc A ap=>X1 (λ_=>a _ ⟨b,m,p,r⟩) λ_=>?_;refine X0 (R:=λV=>V.length<=2) ?_ λV _ ao=>X0 (KI _ _ X) λo _ _=>X7 λ_=>X1 (λ_=>?_) λ_=>a _ ⟨b,m,p,r⟩;unfold Hp;exact X7 λ_=>X2 I;have N:∀L:Cons,L.u=x.o->∀d∈S2.cons.set k L,d.u=x.o\/d∈S.cons:=by intro L ah d hd;rcases LX hd with h|rfl;exact r d h;exact .inl ah
  refine X0 (Kg _ _ _ K X X) λv _ _=>X1 (λ_=>X0 (Kg _ _ _ K X X) λw _ _=>a _ ⟨b,m,sU p,N _ rfl⟩) λ_=>a _ ⟨b,m,sU p,N _ rfl⟩
 rintro S2 ⟨b,m,p,r⟩;refine X4 ?_ (X6 (λj s=>s=((T.pk++x.j).take j).map (Zf T)) rfl ?_ ?_);omega
 .rintro j l s next hx hm rfl a
  unfold Lt;have Z:0<=l/\l<T.j.length:=by rcases Y3.1 hm with h|h;exact J.pk l h;exact af l h
  refine X3 Z.1 Z.2 λc A _=>a _ ?_;rw[Gd hx,YL];simp[Zf,A]
 rintro oc rfl;unfold KC;refine X0 (Kf S2 i T x.j (by rwa [b]) J X ?_ ?_) λS3 _ y=>X0 (I8 S3 _ ?_) λS4 _ E=>X4 ?_ (X2 λ_=>.split am H al O Q ?_);intro f B U;rw[m] at B;rcases(z f B).2 with h|h;rw[h,F] at U;cases U;exact(u.fk f h).2;intro c A P;rcases r c A with h|h;rw[h,F] at P;cases P;exact⟨(u.con c h).1,(u.con c h).2.2⟩
 have:=u.t6;rw[y.1,b,Xf];omega
 have:=u.f8;rw[E.1,y.2.1,m,D];omega
 simp only;rw[E.2.2,y.1,b,Xf,Yl]
end
end Go.Am
end
section
namespace Go.Am
def VT.xS{T}(h:VT T):T.pk.length<=T.j.length:=by
 have:∀(n:Nat) v,T.pk[n]?=some v->n<=v:=by
  intro n
  induction n with
  |zero=>intro v a;have:=(h.pk v (Y2 a)).1;omega
  |succ n ih=>?_
  intro v a;have hn:=(Y0.1 a).1;have b:=ih _ (Y1 X);have c:=h.asc n _ v (Y1 X) a;omega
 have hp:=h.pk0;have b:=this (T.pk.length-1) _ (Y1 X);have c:=(h.pk _ (Yh (X:T.pk.length-1<T.pk.length))).2;omega
section
variable{S:Sch}{i:Nat}{T:E}
def Z1l(v:Int)(a:0<=v)(h6:v<6)(n:Nat)(b:n=T.pk.length)(m:Nat)(hm:m<=6)(aa:n<=6):Wp (FD v n T m) λ_=>True:=by
 subst b;unfold FD;refine X1 (λh=>?_) λ_=>X4 ⟨X,X⟩ (X4 ⟨X,X⟩ (X2 trivial));exact X3 a (sU h) λ_ _ _=>X2 trivial
def Z2k(x:Stp)(C:S.q[i]?=some T)(m:VS S)(g:Z9 T.y x.u=true)(W:x.g=7):Wp (HK S i x.o) λq=>q.2=0->EvT S q.1.q x:=by
 have R:=g;have hL:=VX;have t:=m.tab T (Y2 C);have Q:=t.pk6;have N:=t.cols6;have F:=t.cols0;unfold HK;refine X0 (UH S x.o) λv _ d=>X7 λu=>X5 C (X3 d.1 (d.2.1 (sU u)).1 λO K A=>X7 λZ=>X0 (Gb _ _) λb _ D=>X7 λU=>?_);have w:=m.tab O A;have H:=D (sU U);have V:T.pk.length<=O.j.length:=by
  have:=w.xS
  rw[H] at this;simpa[ZZ] using this
 have aq:=w.cols6;have P:=w.cols0;refine X6 (λi _=>∀n v,n<i->T.pk[n]?=some v->(Zf T v).g=(Zf O n).g) (by intro n v h;omega) ?_ λ_ y=>?_
 .intro j z s next M hm y g
  have hj:=(Y0.1 M).1;have L:=t.pk z hm;unfold M6;exact X3 L.1 L.2 λa ha _=>X3 X X λb D _=>X7 λap=>g () (Z41 y M (by simp only[Zf,ha,D,Option.getD_some];simpa using ap))
 refine X0 (Ny S _) λq _ G=>X7 λ_=>X0 (Ep _ _ λx _=>X2 I) λ_ _ _=>X7 λ_=>?_;refine X0 (NK q.1 x.o _ (λv=>0<=v/\v<6) (λv d=>Z1l v d.1 d.2 _ rfl _ N Q) (λf u _=>(m.fk f (G.2.2 f u)).2) (λc E _=>?_)) λS2 _ B=>?_;rw[G.2.1] at E;exact⟨(m.con c E).1,λh=>⟨h,(m.con c E).2.2⟩⟩;refine Xa (λ_ l=>l.b.length=S2.b.length/\l.q=S2.q) ⟨rfl,rfl⟩ ?_ λl h3=>Xa (λ_ r=>r.cons.length=l.cons.length/\r.q=S2.q) ⟨rfl,h3.2⟩ ?_ λr h4=>?_
 .rintro k l next hk ⟨o,p⟩ g
  unfold LZ;exact X3 X X λ_ _ _=>X1 (λ_=>g _ ⟨sU o,p⟩) λ_=>g _ ⟨o,p⟩
 .rintro k r next hk ⟨o,p⟩ g
  unfold LY;exact X3 X X λ_ _ _=>X1 (λ_=>g _ ⟨sU o,p⟩) λ_=>g _ ⟨o,p⟩
 unfold KR;have⟨_,O',J,Y⟩:=d.2.1 (sU u);rw[K] at J;cases J;refine X4 ⟨V,P,F,X⟩ (X2 λ_=>.join W C R K Y ?_ H (λn v d=>y n v (Y0.1 d).1 d) ?_);intro e
 have:i=v.1:=by have:=d.1;omega
 simp[this] at Z;simp only;rw[h4.2,B.1,G.1]
def Z16(x)(o:S.q[i]?=some T)(l:VS S)(a:Z9 T.y x.u=true)(A:x.g=8):Wp (Ht S i x) λq=>q.2=0->EvT S q.1.q x:=by
 have y:=a;have hL:=VX;have h6:=l.t6;have h8:=l.f8;have h9:=l.o8;unfold Ht;refine X5 o (X0 (AX _ _) λv t p=>X7 λh=>X0 (Ga _ _ _) λq G _=>X1 (λh=>X2 λd=>by simp only at d;simp[d] at h) λB=>X0 (Eu _) λe E _=>X1 (λh=>X2 λd=>by simp only at d;simp[d] at h) λz=>X3 p.1 (p.2.1 (sU h)) λcol r _=>X7 λu=>X0 (UH _ _) λw _ H=>X7 λm=>X0 (Ep _ _ λx _=>X2 trivial) λ_ _ _=>X7 λ_=>?_);have s:v.2=true:=sU h;obtain rfl:e=0:=sU z;have C:q.2=0:=sU B;refine X6 (λk b=>b.q=S.q/\b.cons=S.cons/\b.b.length<=S.b.length+k) ⟨rfl,rfl,X⟩ ?_ ?_
 .rintro k f b next n _ ⟨g,j,h3⟩ a
  have F:=(Y0.1 n).1;unfold M5;exact X1 (λ_=>X4 X (a _ ⟨g,j,sO⟩)) λ_=>a _ ⟨g,j,X⟩
 rintro b ⟨g,j,_⟩;refine X6 (λk S2=>S2.q=S.q/\S2.cons.length<=S.cons.length+k) ⟨g,by rw[j];omega⟩ ?_ ?_
 .rintro k f S2 next n _ ⟨c,g2⟩ a
  have F:=(Y0.1 n).1;unfold M4;exact X1 (λ_=>X4 X (a _ ⟨c,sO⟩)) λ_=>a _ ⟨c,X⟩
 rintro S2 ⟨c,_⟩;refine X0 (I8 _ _ (by rw[c];omega)) λ_ _ D=>X2 λ_=>.part A o y (by rw[t,<-s]) r (by rw[G,<-C]) E (sU u) (H.2.2 m) ?_;simp only;rw[D.2.2,c]
def Z1m(a b):Wp (Fv a b (λx y=>Bm x y)) λ_=>True:=by
 unfold Fv;refine X1 (λ_=>X2 trivial) λh=>?_;have hl:a.length=b.length:=by simp at h;omega
 refine X6 (λ_ _=>True) trivial (λi x _ next d _ _ c=>?_) λ_ _=>X2 trivial;have hi:=(Y0.1 d).1;exact X3 X X λ_ _ _=>X0 (FU _ _) λ_ _ _=>X1 (λ_=>X2 trivial) λ_=>c () trivial
def Z2p(a b):Wp (Fz a b) λ_=>True:=by
 unfold Fz;refine X1 (λ_=>X2 trivial) λh=>?_;have hl:a.length=b.length:=by simp at h;omega
 refine X6 (λ_ _=>True) trivial (λi x _ next d _ _ c=>?_) λ_ _=>X2 trivial;have hi:=(Y0.1 d).1;exact X3 X X λ_ _ _=>X1 (λ_=>X2 trivial) λ_=>c () trivial
def Z35(a b)(d:VS S):Wp (FI S a b) λ_=>True:=by
 have h8:=d.f8;have h9:=d.o8;unfold FI;refine X6 (λk s=>s.1.length<=k/\s.2.length<=k) I ?_ ?_
 .rintro k f s next c _ ⟨e,g⟩ hn
  have h:=(Y0.1 c).1;refine X1 (λ_=>X2 trivial) λ_=>X1 (λ_=>X2 trivial) λ_=>X1 (λ_=>X8 sO (hn _ ⟨sO,sO⟩)) λ_=>X1 (λ_=>X8 sO (hn _ ⟨sO,sO⟩)) λ_=>hn _ ⟨sO,sO⟩
 rintro s _;refine X0 (Z1m _ _) λ_ _ _=>X1 (λ_=>X2 trivial) λ_=>?_;refine X6 (λk s=>s.1.length<=k/\s.2.length<=k) I ?_ ?_
 .rintro k f s next c _ ⟨e,g⟩ hn
  have h:=(Y0.1 c).1;refine X1 (λ_=>X8 sO (hn _ ⟨sO,sO⟩)) λ_=>X1 (λ_=>X8 sO (hn _ ⟨sO,sO⟩)) λ_=>hn _ ⟨sO,sO⟩
 rintro s _;exact X0 (Z2p _ _) λ_ _ _=>X1 (λ_=>X2 trivial) λ_=>X2 trivial
def Z21(x:Stp)(f:S.q[i]?=some T)(m:VS S)(z:Z9 T.y x.u=true)(r:x.g=9):Wp (HD S i x) λq=>q.2=0->EvT S q.1.q x:=by
 have hL:=VX;have a:=m.tab T (Y2 f);have aj:=a.pk6;have s:=a.pk0;have ah:=a.cols6;have g:=a.cols0;unfold HD;refine X0 (UH S _) λv _ d=>X7 λn=>X5 f (X3 d.1 (d.2.1 (sU n)).1 λO l _=>X7 λu=>X0 (NM _ _) λb _ w=>X7 λp=>X0 (Gb _ _) λc _ y=>X7 λo=>X0 (Z35 _ _ m) λ_ _ _=>X1 (λh=>X2 λk=>by simp only at k;simp[k] at h) λ_=>X4 ⟨⟨s,X⟩,g,X⟩ (X2 λ_=>?_));have⟨_,O',j,t⟩:=d.2.1 (sU n);rw[l] at j;cases j;refine .merge r f z l t (λe=>?_) (w (sU p)) (y (sU o)) rfl
 have:i=v.1:=by have:=d.1;omega
 simp[this] at u
end
def Zat(S)(x:Stp)(b:VS S)(p:x.j.length<=1048576)(hk:1<=x.g/\x.g<=16):Wp (G0 S x) λq=>q.2=0->EvT S q.1.q x:=by
 have hL:=VX;have h6:=b.t6;have h8:=b.f8;have h9:=b.o8;have kk:∀{n:Int},(x.g==n)=true->x.g=n:=λh=>sU h;have a:∀{n:Int},(x.g==n)=false->x.g≠n:=λh=>sU h;unfold G0;refine X1 (λh=>X4 X (X2 λ_=>.rule (by have:=kk h;omega) rfl)) λk=>X1 (λh=>(Z17 _ _).mono λ_ _ e _=>.rule (by have:=kk h;omega) e) λl=>X1 (λh=>X4 X (X2 λ_=>.rule (by have:=kk h;omega) rfl)) λm=>X1 (λh=>(Ny _ _).mono λ_ _ e _=>.rule (by have:=kk h;omega) e.1) λg=>X1 (λh=>Z22 _ _ X (kk h)) λj=>?_;refine X0 (UH _ _) λv _ r=>X7 λo=>?_;have⟨_,T,c,d⟩:=r.2.1 (sU o);refine X1 (λh=>Z20 _ _ _ X c d (kk h)) λt=>X1 (λh=>Z2i x c b p d (kk h)) λu=>X1 (λh=>Z2k x c b d (kk h)) λw=>X1 (λh=>Z16 x c b d (kk h)) λy=>X1 (λh=>Z21 x c b d (kk h)) λz=>X1 (λh=>Z36 x ⟨T,Y2 c,d⟩ (kk h)) λf=>X1 (λh=>Z1e x c b d (kk h)) λi=>X1 (λh=>Z37 x c (b.tab T (Y2 c)) d (kk h)) λs=>Z23 x c b d ?_
 have:=a k;have:=a l;have:=a m;have:=a g;have:=a j;have:=a t;have:=a u;have:=a w;have:=a y;have:=a z;have:=a f;have:=a i;have:=a s
 omega
def U7(x:Stp):Prop:=x.j.length<=1048576/\x.v.j.length<=1048576/\x.v.pk.length<=1048576/\x.fk.j.length<=1048576
def Qx(S x)(l:U7 x):Wp (VR S x) λr=>r.2=0->VS r.1/\VS S/\EvT S r.1.q x:=by
 have hL:=VX;unfold VR;refine X0 (HV S) λe _ s=>X1 (λh=>X2 λg=>?_) λn=>X0 (Nl x) λe2 _ u=>X1 (λh=>X2 λg=>?_) λj=>?_;simp only at g;rw[g] at h;cases h;simp only at g;rw[g] at h;cases h;have i:=s (sU n);refine X4 ⟨⟨⟨by have:=i.t6;omega,by have:=i.f8;omega,by have:=i.o8;omega⟩,λT k=>⟨by have:=(i.tab T k).cols6;omega,by have:=(i.tab T k).pk6;omega⟩,λf t=>by have:=(i.fk f t).1;omega⟩,by have⟨a,b,c,d⟩:=l;exact⟨X,X,X,X⟩⟩ ?_;refine X0 (Zat S x i l.1 (u (sU j))) λq _ p=>X1 (λh=>X2 λg=>?_) λv=>X0 (HV q.1) λe3 _ m=>X1 (λh=>X2 λg=>?_) λo=>X2 λ_=>⟨m (sU o),i,p (sU v)⟩;simp only at g;rw[g] at h;cases h;simp only at g;rw[g] at h;cases h
end Go.Am
end
namespace Go.Am
section
instance Zho(s_:Sch)(step:Stp):Con (VR s_ step) prog 99 [.agg s_.z,.agg step.z] (λr=>.tup [.agg (r.1.z.map RC.d),.one (.d (.int .i64 r.2))]):=⟨λr hm=>Nx s_ step r hm⟩
set_option maxHeartbeats 4000000
def Bu(s_:Sch)(script:List Stp):aB ((List Sch)×Int):=
 bif decide (6<(script.length:Int)) then some ([],2) else Z1 (UE s_) λv4=>bif (v4 !=0) then some ([],v4) else Z1 (UG s_) λv6=>Zd (λ(i8:Nat) (x8:Stp) (s8:(List Sch)) next_8=>Za s8 (i8:Int) λx10=>Z1 (VR x10 x8) λv11=>bif (v11.2 !=0) then some ([],v11.2) else Wn s8 [v11.1] λ_=>next_8 (s8++[v11.1])) (λ(s8:(List Sch))=>some (s8,0)) script 0 [v6]
instance Nz(s_:Sch)(script:List Stp):Con (Bu s_ script) prog 68 [.agg s_.z,.one (.d (.sl (script.map Stp.z)))] (λr=>.tup [.one (.d (.sl (r.1.map Sch.z))),.one (.d (.int .i64 r.2))]):=by
 unfold Bu;have l1:LH (σ:=(List Sch)) 25 [23,24] [.g 7 3 (λs=>s.map Sch.z)]:=.intro;have p1:PH [10] (Y.qB [0,1,2,3,4] (.two 5 9 (Y.qB [6,7,8,9,10,11] .done) (Y.qB [5,6,7,8,10,11] .done))):=.intro;exact go 48 func68
def Cn(s_:Sch)(script:List Stp):aB (Sch×Int):=
 Z1 (Bu s_ script) λv3=>bif (v3.2 !=0) then some ((Sch.mk [] [] []),v3.2) else Zp (Wm ((v3.1.length:Int)-1)) (Za v3.1 ((v3.1.length:Int)-1) λx7=>some (x7,0))
instance Zie(s_:Sch)(script:List Stp):Con (Cn s_ script) prog 48 [.agg s_.z,.one (.d (.sl (script.map Stp.z)))] (λr=>.tup [.agg (r.1.z.map RC.d),.one (.d (.int .i64 r.2))]):=by unfold Cn;exact go 24 func48
set_option maxHeartbeats 4000000
def Ar(g_:Gr):aB ((List Sch)×Int):=
 bif decide (8<=(g_.n.length:Int)) then some ([],2) else Z1 (UE g_.base) λv4=>bif (v4 !=0) then some ([],v4) else Z1 (UG g_.base) λv6=>Zd (λ(i8:Nat) (x8:Edg) (s8:(List Sch)) next_8=>bif decide (x8.m<0) then some ([],1) else bif decide ((i8:Int)<x8.m) then some ([],1) else Za s8 x8.m λx12=>Z1 (Cn x12 x8.script) λv13=>bif (v13.2 !=0) then some ([],v13.2) else Wn s8 [v13.1] λ_=>next_8 (s8++[v13.1])) (λ(s8:(List Sch))=>some (s8,0)) g_.n 0 [v6]
instance Ns(g_:Gr):Con (Ar g_) prog 25 [.agg g_.z] (λr=>.tup [.one (.d (.sl (r.1.map Sch.z))),.one (.d (.int .i64 r.2))]):=by
 unfold Ar;have l1:LH (σ:=(List Sch)) 27 [25,26] [.g 5 3 (λs=>s.map Sch.z)]:=.intro;have p1:PH [12] (Y.qB aU (.two 7 11 (Y.qB [8,9,10,11,12,13] .done) (Y.qB [7,8,9,10,12,13] .done))):=.intro;exact go 61 func25
def Dh(g_:Gr)(version:Int):aB (Sch×Int):=
 Z1 (Ar g_) λv3=>bif (v3.2 !=0) then some ((Sch.mk [] [] []),v3.2) else bif decide (version<0) then some ((Sch.mk [] [] []),1) else bif decide ((v3.1.length:Int)<=version) then some ((Sch.mk [] [] []),1) else Za v3.1 version λx8=>some (x8,0)
instance Z11(g_:Gr)(version:Int):Con (Dh g_ version) prog 9 [.agg g_.z,.one (.d (.int .i64 version))] (λr=>.tup [.agg (r.1.z.map RC.d),.one (.d (.int .i64 r.2))]):=by unfold Dh;exact go 30 func9
def Q8{α:Type}{a:List α}{x y:α}{i:Nat}(h:(a++[x])[i]?=some y):a[i]?=some y\/(i=a.length/\y=x):=by
 rcases Yx i a.length with h1|h1;rw[Yu h1] at h;exact .inl h;have b:=(Y0.1 h).1;obtain rfl:i=a.length:=by simp at b;omega
 simp at h;exact .inr ⟨rfl,h.symm⟩
structure ScrOK(S:Sch)(script:List Stp)(all:List Sch):Prop where
 len:all.length=script.length+1
 l6:script.length<=6
 vs:∀T∈all,VS T
 fst:all[0]?=some S
 step:∀(i:Nat) (x:Stp) (y z:Sch),script[i]?=some x->all[i]?=some y->all[i+1]?=some z->VR y x=some (z,0)
def K8(S:Sch)(a:List Stp)(I:∀x∈a,U7 x):Wp (Bu S a) λr=>r.2=0->ScrOK S a r.1:=by
 have hL:=VX;unfold Bu;refine X7 λC=>X0 (HV S) λe _ E=>X1 (λh=>X2 λb=>?_) λB=>?_;simp only at b;rw[b] at h;cases h;have g:VS S:=E (by simpa using B);have F:a.length<=6:=by simp at C;omega
 refine X0 (I1 S (by have:=g.t6;omega) (by have:=g.f8;omega)) λv _ k=>?_;subst k;refine X6 (λi (s:List Sch)=>s.length=i+1/\(∀T∈s,VS T)/\s[0]?=some v/\∀(j:Nat) (x:Stp) (y z:Sch),a[j]?=some x->s[j]?=some y->s[j+1]?=some z->VR y x=some (z,0)) ⟨rfl,by simpa using g,rfl,λj x y z _ _ J=>by simp at J⟩ ?_ ?_
 .rintro i x s next o G ⟨q,m,l,f⟩ hn
  have hi:=(Y0.1 o).1;refine X3 X X λy t _=>X0 (Qx y x (I x G)) λr w H=>X1 (λh=>X2 λb=>?_) λp=>X8 sO (hn _ ⟨sO,λT D=>?_,by rw[Yu X];exact l,λj K u L c A n=>?_⟩);simp only at b;rw[b] at h;cases h;rcases Y3.1 D with h|h;exact m T h;rw[Yj.1 h];exact(H (by simpa using p)).1;have d:s[j]?=some u:=by
   rcases Q8 A with h|⟨h,_⟩;exact h
   have:=(Y0.1 n).1
   simp at this;omega
  rcases Q8 n with h|⟨h,rfl⟩;exact f j K u L c d h;obtain rfl:j=i:=X;simp only[Yn] at t;rw[o] at c;rw[t] at d;cases c;cases d;rw[w,<-show r.2=0 by simpa using p]
 rintro s ⟨q,m,l,f⟩;exact X2 λ_=>⟨q,F,m,l,f⟩
def NJ(S:Sch)(a:List Stp)(j:∀x∈a,U7 x):Wp (Cn S a) λr=>r.2=0->∃b,Bu S a=some (b,0)/\ScrOK S a b/\b[a.length]?=some r.1:=by
 unfold Cn;refine X0 (K8 S a j) λr f i=>X1 (λh=>X2 λd=>?_) λe=>?_;simp only at d;rw[d] at h;cases h;have c:=i (by simpa using e);have hl:=c.len;refine X4 ⟨by have:=c.l6;omega,by have:=c.l6;omega⟩ (X3 X X λT g _=>X2 λ_=>⟨r.1,by rw[f,<-show r.2=0 by simpa using e],c,?_⟩);rw[<-g];congr 1;omega
def ScrOK.last{S:Sch}{a:List Stp}{b:List Sch}(h:ScrOK S a b){T:Sch}(c:b[a.length]?=some T):VS T:=h.vs T (Y2 c)
def Zct(g:Gr):Prop:=∀(i:Nat) (e:Edg),g.n[i]?=some e->0<=e.m/\e.m<=i
structure VerOK(g:Gr)(Ss:List Sch):Prop where
 n:Zct g
 l7:g.n.length<=7
 len:Ss.length=g.n.length+1
 vs:∀T∈Ss,VS T
 edge:∀(i:Nat) (e:Edg) (P C:Sch),g.n[i]?=some e->Ss[e.m.toNat]?=some P->Ss[i+1]?=some C->Cn P e.script=some (C,0)
 fst:Ss[0]?=some g.base
def Z0k(g:Gr)(I:∀e∈g.n,∀x∈e.script,U7 x):Wp (Ar g) λr=>r.2=0->VerOK g r.1:=by
 have hL:=VX;unfold Ar;refine X7 λB=>X0 (HV _) λe _ a=>X1 (λh=>X2 λb=>?_) λz=>?_;simp only at b;rw[b] at h;cases h;have n:VS g.base:=a (by simpa using z);have p:g.n.length<=7:=by simp at B;omega
 refine X0 (I1 g.base (by have:=n.t6;omega) (by have:=n.f8;omega)) λS0 _ o=>?_;rw[o];refine X6 (λi (s:List Sch)=>s.length=i+1/\(∀T∈s,VS T)/\(∀(j:Nat) (e:Edg),j<i->g.n[j]?=some e->0<=e.m/\e.m<=j)/\(∀(j:Nat) (e:Edg) (P C:Sch),j<i->g.n[j]?=some e->s[e.m.toNat]?=some P->s[j+1]?=some C->Cn P e.script=some (C,0))/\s[0]?=some g.base)
  ⟨rfl,by simpa using n,by intro j e h;omega,by intro j e P C h;omega,rfl⟩ ?_ ?_
 .rintro i x s next l G ⟨q,t,f,m,hF⟩ hn
  have hi:=(Y0.1 l).1;refine X7 λc=>X7 λA=>?_;have u:0<=x.m:=by simpa using c
  have v:x.m<=i:=by simpa using A
  refine X3 X X λy J _=>X0 (NJ y x.script (I x G)) λr w H=>X1 (λh=>X2 λb=>?_) λc=>X8 sO (hn _ ⟨sO,λT D=>?_,λj e F a=>?_,λj e P C F a k d=>?_,by rw[Yu X];exact hF⟩);simp only at b;rw[b] at h;cases h;rcases Y3.1 D with h|h;exact t T h;rw[Yj.1 h];obtain⟨all,_,E,p⟩:=H (by simpa using c);exact E.last p;rcases Yx j i with h|h;exact f j e h a;obtain rfl:j=i:=X
  rw[l] at a;cases a;exact⟨u,v⟩;rcases Yx j i with h|h;have hp:=f j e h a;rw[Yu X] at k d;exact m j e P C h a k d;obtain rfl:j=i:=X
  rw[l] at a;cases a;rw[Yu X,J] at k;rw[YC X,q,Y3f] at d;cases k;cases d;rw[w,<-show r.2=0 by simpa using c]
 rintro s ⟨q,t,f,m,hF⟩;exact X2 λ_=>⟨λi e a=>f i e (Y0.1 a).1 a,p,q,t,λi e P C a=>m i e P C (Y0.1 a).1 a,hF⟩
def Aq(t:E)(row:aE):aB Int:=
 bif ((row.length:Int) !=(t.j.length:Int)) then some 3 else Zd (λ(i6:Nat) (x6:GV) (s6:Unit) next_6=>Z1 (WE x6) λv8=>bif (v8 !=0) then some v8 else bif (x6.g==0) then Za t.j (i6:Int) λx11=>(bif !x11.f then some 8 else bif (x6.g !=0) then bif (x6.g !=x11.g) then some 7 else(next_6 ()) else next_6 ()) else bif (x6.g !=0) then Za t.j (i6:Int) λx16=>(bif (x6.g !=x16.g) then some 7 else next_6 ()) else next_6 ()) (λ(s6:Unit)=>some 0) row 0 ()
instance Zgr(t:E)(row:aE):Con (Aq t row) prog 56 [.agg t.z,.one (.d (.sl (row.map GV.z)))] (λr=>.one (.d (.int .i64 r))):=by unfold Aq;have l1:LH (σ:=Unit) 16 [2,14,15] []:=.intro;have p1:PH [11] (Y.qB aL .done):=.intro;exact go 53 func56
def Eh(a:aE)(b:aE):aB Int:=
 WZ (λ(i3:Nat) (s3:Unit) next_3=>Za a (i3:Int) λx4=>Za b (i3:Int) λx5=>Z1 (Bw x4 x5) λv6=>bif (v6 !=0) then some v6 else Zp (Wm ((i3:Int)+1)) (next_3 ())) (λ(s3:Unit)=>Z1 (Ci (a.length:Int) (b.length:Int)) λv11=>some v11) (Int.toNat (if(b.length:Int)<(a.length:Int) then(b.length:Int) else(a.length:Int))) 0 ()
instance Zhb(a:aE)(b:aE):Con (Eh a b) prog 57 [.one (.d (.sl (a.map GV.z))),.one (.d (.sl (b.map GV.z)))] (λr=>.one (.d (.int .i64 r))):=by unfold Eh;have l1:LH (σ:=Unit) 12 [0,1,11] []:=.intro;have p1:PH [4] (Y.qB aJ .done):=.intro;exact go 33 func57
def VU(t:E)(row:aE):aB (aE):=
 Zd (λ(i3:Nat) (x3:Int) (s3:aE) next_3=>bif decide (0<=x3) then bif decide (x3<(row.length:Int)) then Za row x3 λx8=>(Wn s3 [x8] λ_=>next_3 (s3++[x8])) else(Wn s3 [(GV.mk 0 0 empty)] λ_=>next_3 (s3++[(GV.mk 0 0 empty)])) else Wn s3 [(GV.mk 0 0 empty)] λ_=>next_3 (s3++[(GV.mk 0 0 empty)])) (λ(s3:aE)=>some s3) t.pk 0 []
instance Aa(t:E)(row:aE):Con (VU t row) prog 58 [.agg t.z,.one (.d (.sl (row.map GV.z)))] (λr=>.one (.fresh 0 3 (r.map GV.z))):=by
 unfold VU;have l1:LH (σ:=aE) 12 [1,10,11] [.g 5 3 (λs=>s.map GV.z)]:=.intro;exact go 35 func58
def VE(s_:Sch)(inst:List J):aB Int:=
 bif ((inst.length:Int) !=(s_.q.length:Int)) then some 3 else Zd (λ(i6:Nat) (x6:J) (s6:Unit) next_6=>Za s_.q (i6:Int) λx8=>bif !(Z9 x6.u x8.y) then some 3 else bif decide (24<(x6.rows.length:Int)) then some 2 else Zd (λ(i14:Nat) (x14:aE) (s14:Unit) next_14=>Z1 (Aq x8 x14) λv15=>bif (v15 !=0) then some v15 else bif ((i14:Int)==0) then next_14 () else Zp (Wm ((i14:Int)-1)) (Za x6.rows ((i14:Int)-1) λx19=>Z1 (VU x8 x19) λv20=>Z1 (VU x8 x14) λv21=>Z1 (Eh v20 v21) λv22=>bif (v22==0) then some 9 else bif decide (0<v22) then some 6 else next_14 ())) (λ(s14:Unit)=>next_6 ()) x6.rows 0 ()) (λ(s6:Unit)=>some 0) inst 0 ()
instance FT(s_:Sch)(inst:List J):Con (VE s_ inst) prog 27 [.agg s_.z,.one (.d (.sl (inst.map J.z)))] (λr=>.one (.d (.int .i64 r))):=by unfold VE;have l1:LH (σ:=Unit) 20 [2,18,19] []:=.intro;have l2:LH (σ:=Unit) 42 [2,6,7,18,19,20,40,41] []:=.intro;have p1:PH [18] (Y.qB [0,1,2,3,4,5,6,8,9,7,10,11,12] .done):=.intro;exact go 75 func27
def WY(a b:Int):Int:=if a<b then-1 else if b<a then 1 else 0
def Kh(a b:Int):Ci a b=some (WY a b):=by unfold Ci WY;by_cases h1:a<b;simp[h1];by_cases h2:b<a<;>simp[h1,h2]
def Ws(a b:GV):Int:=if WY a.g b.g≠0 then WY a.g b.g else if WY a.int b.int≠0 then WY a.int b.int else DR a.text b.text
def Z62(a b:GV):Bw a b=some (Ws a b):=by unfold Bw Er Ws;rw[Kh,Kh];simp only[Z1];by_cases h1:WY a.g b.g=0;by_cases c:WY a.int b.int=0;simp[h1,c];have d:(WY a.int b.int !=0)=true:=sU c;simp[h1,c,d];have d:(WY a.g b.g !=0)=true:=sU h1;simp[h1,d]
def ZO:aE->aE->Int
 |[],[]=>0
 |[],_::_=>-1
 |_::_,[]=>1
 |x::xs,y::ys=>if Ws x y≠0 then Ws x y else ZO xs ys
def Kk(a b:aE)(ha:a.length<=2097152):Wp (Eh a b) λc=>c=ZO a b:=by
 unfold Eh;have m:(Int.toNat (if(b.length:Int)<(a.length:Int) then(b.length:Int) else(a.length:Int)))=min a.length b.length:=by
  split<;>omega
 rw[m];refine Xa (λi _=>ZO a b=ZO (a.drop i) (b.drop i)) I ?_ ?_
 .intro i s next hi d o
  have k:i<a.length:=X;have l:i<b.length:=X;refine X5 (Y1 k) (X5 (Y1 l) ?_);rw[YB k,YB l,ZO] at d;rw[Z62];refine X0 (R:=λv=>v=Ws a[i] b[i]) ⟨_,rfl,rfl⟩ λv _ j=>?_;subst j;refine X1 (λh=>X2 ?_) λh=>X4 ⟨X,X⟩ (o () ?_);have g:Ws a[i] b[i]≠0:=sU h;rw[d,if_pos g];have g:Ws a[i] b[i]=0:=sU h;rw[d,if_neg (by simp[g])]
 intro s d;rw[Kh];refine X0 (R:=λv=>v=WY a.length b.length) ⟨_,rfl,rfl⟩ λv _ j=>X2 ?_;subst j;rw[d];unfold WY;rcases Y06 a.length b.length with h|h|h;have e:a.drop (min a.length b.length)=[]:=YR X;rw[e,YB (X:min a.length b.length<b.length)];simp[ZO,h];have e:a.drop (min a.length b.length)=[]:=YR X;have f:b.drop (min a.length b.length)=[]:=YR X;rw[e,f];simp[ZO,h];have f:b.drop (min a.length b.length)=[]:=YR X;rw[f,YB (X:min a.length b.length<a.length)];have n:¬(a.length<b.length):=X
 simp[ZO,h,n]
def Wo:GV:=⟨0,0,empty⟩
def Zu(a:aE)(c:Int):GV:=if 0<=c then(a[c.toNat]?).getD Wo else Wo
def Z3(T:E)(a:aE):aE:=T.pk.map (Zu a)
def Gj{α β:Type}{a:List α}{i:Nat}{x:α}{f:α->β}(h:a[i]?=some x):(a.take (i+1)).map f=(a.take i).map f++[f x]:=by have⟨b,c⟩:=Y0.1 h;rw[Yg b,c];simp
def Ua(T:E)(a:aE)(hl:T.pk.length<=2097152):Wp (VU T a) λk=>k=Z3 T a:=by
 have hL:=VX;unfold VU;refine X6 (λi (s:aE)=>s=(T.pk.take i).map (Zu a)) I ?_ (λs j=>X2 (by rw[j,Yl];rfl));intro i x s next e hm d g
 have hi:=(Y0.1 e).1;have aa:s.length<=i:=by rw[d];simp;omega
 refine X1 (λc=>X1 (λf=>?_) λf=>?_) λc=>?_;have b:0<=x:=sU c;have h:x<a.length:=sU f;refine X3 b h λy l _=>X8 sO (g _ ?_);rw[Gj e,d];simp[Zu,b,l];have b:0<=x:=sU c;have h:¬(x<a.length):=sU f;refine X8 sO (g _ ?_);rw[Gj e,d]
 have:a[x.toNat]?=none:=Yq X
 simp[Zu,b,this,Wo];have b:¬(0<=x):=sU c;refine X8 sO (g _ ?_);rw[Gj e,d];simp[Zu,b,Wo]
structure CR(T:E)(row:List GV):Prop where
 len:row.length=T.j.length
 cell:∀(i:Nat) (x:GV) (c:Col),row[i]?=some x->T.j[i]?=some c->WE x=some 0/\(x.g=0->c.f=true)/\(x.g≠0->x.g=c.g)
def Kv{α β:Type}{e:List α}{f:List β}{p:α->β->Prop}{i:Nat}{x:α}{y:β}(h:∀(j:Nat) (a:α) (b:β),j<i->e[j]?=some a->f[j]?=some b->p a b)(k:e[i]?=some x)(l:f[i]?=some y)(g:p x y):
  ∀(j:Nat) (a:α) (b:β),j<i+1->e[j]?=some a->f[j]?=some b->p a b:=by
 intro j a b hj c d;rcases Yx j i with h1|h1;exact h j a b h1 c d;obtain rfl:j=i:=X
 rw[k] at c;rw[l] at d;cases c;cases d;exact g
def NT(T:E)(a:aE):Wp (Aq T a) λe=>e=0->CR T a:=by
 unfold Aq;refine X7 λr=>?_;have w:a.length=T.j.length:=by simp at r;omega
 refine X6 (λi _=>∀(j:Nat) (x:GV) (c:Col),j<i->a[j]?=some x->T.j[j]?=some c->WE x=some 0/\(x.g=0->c.f=true)/\(x.g≠0->x.g=c.g)) (by intro j x c h;omega) ?_ λs g=>X2 λ_=>⟨w,λi x c b u=>g i x c (Y0.1 b).1 b u⟩;intro i x s next b hm g o
 have hi:=(Y0.1 b).1;have n:i<T.j.length:=X
 have f:T.j[i]?=some T.j[i]:=Y1 n;generalize T.j[i]=c at f;refine X0 (Eu x) λv p _=>X1 (λh=>X2 (by intro q;simp[q] at h)) λt=>?_;obtain rfl:v=0:=sU t;refine X1 (λk=>?_) λk=>?_;have d:x.g=0:=sU k;refine X5 f (X7 λl=>X1 (λm=>?_) λ_=>o () (Kv g b f ⟨p,λ_=>sU l,λh=>absurd d h⟩));simp[d] at m;have d:x.g≠0:=sU k;refine X1 (λ_=>X5 f (X7 λl=>o () (Kv g b f ⟨p,λh=>absurd h d,λ_=>sU l⟩))) λm=>?_;simp[d] at m
def Hk(T:E)(c:List aE):Prop:=∀(i:Nat) (a b:aE),c[i]?=some a->c[i+1]?=some b->ZO (Z3 T a) (Z3 T b)<0
structure CF(S:Sch)(inst:List J):Prop where
 len:inst.length=S.q.length
 y:∀(i:Nat) (x:J) (T:E),inst[i]?=some x->S.q[i]?=some T->Z9 x.u T.y=true
 l24:∀x∈inst,x.rows.length<=24
 row:∀(i:Nat) (x:J) (T:E),inst[i]?=some x->S.q[i]?=some T->∀row∈x.rows,CR T row
 asc:∀(i:Nat) (x:J) (T:E),inst[i]?=some x->S.q[i]?=some T->Hk T x.rows
def Cp(S:Sch)(O:∀T∈S.q,T.pk.length<=6)(f:List J):Wp (VE S f) λe=>e=0->CF S f:=by
 unfold VE;refine X7 λy=>?_;have U:f.length=S.q.length:=by simp at y;omega
 refine X6 (λi _=>∀(j:Nat) (x:J) (T:E),j<i->f[j]?=some x->S.q[j]?=some T->Z9 x.u T.y=true/\x.rows.length<=24/\(∀d∈x.rows,CR T d)/\Hk T x.rows) (by intro j x c h;omega) ?_ ?_
 .intro i x s next g hm l V
  have B:=(Y0.1 g).1;have o:i<S.q.length:=X
  have v:S.q[i]?=some S.q[i]:=Y1 o;have H:=O _ (Yh o);generalize S.q[i]=T at v H;refine X5 v (X7 λI=>X7 λK=>?_);have F:x.rows.length<=24:=by simp at K;omega
  refine X6 (λi _=>(∀(j:Nat) (d:aE),j<i->x.rows[j]?=some d->CR T d)/\∀(j:Nat) (a b:aE),j+1<i->x.rows[j]?=some a->x.rows[j+1]?=some b->ZO (Z3 T a) (Z3 T b)<0) ⟨by intro j r h;omega,by intro j a b h;omega⟩ ?_ ?_;rintro k d s ae u ag ⟨q,A⟩ hn2;have hk:=(Y0.1 u).1;refine X0 (NT T d) λe _ Q=>X1 (λh=>X2 (by intro w;simp[w] at h)) λL=>?_;have D:=Q (sU L);refine X1 (λz=>hn2 () ⟨Ab q u D,?_⟩) λz=>X4 ⟨X,X⟩ ?_;have C:k=0:=by simp at z;omega
  intro j a b R;omega;have C:k≠0:=by simp at z;omega
  have G:k-1<x.rows.length:=X;have p:x.rows[k-1]?=some x.rows[k-1]:=Y1 G;rw[show(k:Int)-1=((k-1:Nat):Int) by omega];generalize x.rows[k-1]=row0 at p;refine X5 p (X0 (Ua T row0 X) λk0 _ w=>X0 (Ua T d X) λk1 _ y=>?_);subst w y;refine X0 (Kk _ _ (by simp[Z3];omega)) λc _ P=>X7 λM=>X7 λN=>hn2 () ⟨Ab q u D,?_⟩;have a6:c≠0:=sU M;have a7:¬(0<c):=sU N;intro j a b R t m;rcases Yx (j+1) k with h|h;exact A j a b h t m;obtain rfl:k=j+1:=X
  rw[u] at m;rw[show j+1-1=j by omega,t] at p;cases m;cases p;rw[<-P];omega;rintro s ⟨q,A⟩;exact V () (Kv l g v ⟨sU I,F,BG q,λi a b t m=>A i a b (Y0.1 m).1 t m⟩)
 intro s l;refine X2 λ_=>⟨U,λi x T g n=>(l i x T (Y0.1 g).1 g n).1,λx g=>?_,λi x T g n=>(l i x T (Y0.1 g).1 g n).2.2.1,λi x T g n=>(l i x T (Y0.1 g).1 g n).2.2.2⟩;obtain⟨i,B,rfl⟩:=Yo g;exact(l i _ _ B (Y1 B) (Y1 X)).2.1
def Zdx(S:Sch):Prop:=∀(i j:Nat) a b,S.q[i]?=some a->S.q[j]?=some b->Z9 a.y b.y=true->i=j
def Z34(S):Wp (UE S) λe=>e=0->(∀T∈S.q,A2 T=some 0)/\∀i a b,S.q[i]?=some a->S.q[i+1]?=some b->AA b.y a.y=false/\Z9 b.y a.y=false:=by
 unfold UE;refine X7 λu=>X7 λh2=>X7 λh3=>?_;have a1:S.q.length<=6:=by simp at u;omega
 refine X6 (λi _=>(∀j T,j<i->S.q[j]?=some T->VT T/\A2 T=some 0)/\∀j a b,j+1<i->S.q[j]?=some a->S.q[j+1]?=some b->AA b.y a.y=false/\Z9 b.y a.y=false) ⟨by intro j T h;omega,by intro j a b h;omega⟩ ?_ ?_
 .rintro i T _ next c _ ⟨n,o⟩ g
  have r:=(Y0.1 c).1;refine X0 (NC T) λe t z=>X1 (λh=>X2 (by intro k;simp[k] at h)) λv=>?_;obtain rfl:e=0:=sU v;have q:=Ab n c ⟨z rfl,t⟩;refine X1 (λm=>?_) λm=>g () ⟨q,λj a b A=>?_⟩;have ac:0<i:=sU m;refine X4 ⟨X,X⟩ (X3 X X λy s _=>X7 λw=>g () ⟨q,λj a b A l d=>?_⟩);rcases Yx (j+1) i with h|h;exact o j a b h l d;obtain rfl:i=j+1:=X
  rw[c] at d;rw[show(((j+1:Nat):Int)-1).toNat=j by omega,l] at s;cases d;cases s;simpa using w
  have:¬(0<i):=sU m
  omega
 rintro _ ⟨n,o⟩;have p:=BG n;refine X6 (λ_ _=>True) trivial ?_ ?_
 .intro i f _ next c _ _ g
  have r:=(Y0.1 c).1;refine X0 (Nj S (λT h=>(p T h).1) f) λe _ _=>X1 (λh=>X2 (by intro k;simp[k] at h)) λ_=>?_;refine X4 ⟨X,X,X⟩ (X0 (Ep _ _ λx _=>?_) λ_ _ _=>X7 λ_=>g () trivial);unfold Ei;exact X0 (FU _ _) λ_ _ _=>X2 trivial
 intro _ _;refine X6 (λ_ _=>True) trivial ?_ ?_
 .intro i f _ next c _ _ g
  have r:=(Y0.1 c).1;exact X0 (Nk S (λT h=>(p T h).1) f) λe _ _=>X1 (λh=>X2 (by intro k;simp[k] at h)) λ_=>(X4 ⟨X,X,X⟩ (X0 (ND _ _) λ_ _ _=>X7 λ_=>g () trivial))
 intro _ _;exact X2 λ_=>⟨λT h=>(p T h).2,λi a b l d=>o i a b (Y0.1 d).1 l d⟩
def Z5l:∀{a b c:List UInt8},Op.bytesLess a b=true->Op.bytesLess b c=true->Op.bytesLess a c=true:=by
 intro a
 induction a with|nil=>?_|cons x a ih=>?_
 intro b c d e;cases c with
 |nil=>cases b<;>simp[Op.bytesLess] at d e
 |cons z c=>simp[Op.bytesLess]
 intro b c d e;cases b with
 |nil=>simp[Op.bytesLess] at d
 |cons y b=>?_
 cases c with
 |nil=>simp[Op.bytesLess] at e
 |cons z c=>?_
 simp only[Op.bytesLess,XQ,YW,decide_eq_true_eq,beq_iff_eq] at d e|-;rcases d with d|⟨rfl,d⟩<;>rcases e with e|⟨rfl,e⟩;exact .inl (UInt8.lt_trans d e);exact .inl d;exact .inl e;exact .inr ⟨rfl,ih d e⟩
def Kt:∀a:List UInt8,Op.bytesLess a a=false
 |[]=>rfl
 |x::a=>by simp[Op.bytesLess,Kt a]
def OF:∀{a b:List UInt8},Op.bytesLess a b=false->a≠b->Op.bytesLess b a=true:=by
 intro a
 induction a with|nil=>?_|cons x a ih=>?_
 intro b c d;cases b with
 |nil=>exact absurd rfl d
 |cons y b=>simp[Op.bytesLess] at c
 intro b c d;cases b with
 |nil=>rfl
 |cons y b=>?_
 simp only[Op.bytesLess,Y38,Bool.and_eq_false_iff,decide_eq_false_iff_not,beq_eq_false_iff_ne] at c;simp only[Op.bytesLess,XQ,YW,decide_eq_true_eq,beq_iff_eq];by_cases hxy:x=y;subst hxy;exact .inr ⟨rfl,ih (c.2.resolve_left (λh=>h rfl)) (λh=>d (by rw[h]))⟩;refine .inl ?_;have h3:¬(x.toNat<y.toNat):=λh=>c.1 (UInt8.lt_iff_toNat_lt.2 h);have h4:x.toNat≠y.toNat:=λh=>hxy (UInt8.toNat_inj.1 h);exact UInt8.lt_iff_toNat_lt.2 X
def EJ{a b}:Z9 a b=true↔a.toList=b.toList:=by simp[Z9]
def Wf(c:List E):Prop:=c.Pairwise λa b=>AA a.y b.y=true
def Z9w{c}(h:∀i a b,c[i]?=some a->c[i+1]?=some b->AA b.y a.y=false/\Z9 b.y a.y=false):Wf c:=by
 have l:∀n i a b,c[i]?=some a->c[i+1+n]?=some b->AA a.y b.y=true:=by
  intro n
  induction n with|zero=>?_|succ n ih=>?_
  intro i a b k e;have⟨f,d⟩:=h i a b k e;refine OF f λg=>?_;rw[EJ.2 g] at d;cases d;intro i a b k e;have hl:=(Y0.1 e).1;have m:c[i+1+n]?=some c[i+1+n]:=Y1 X;refine Z5l (ih i a _ k m) ?_;have⟨f,d⟩:=h (i+1+n) _ b m e;refine OF f λg=>?_;rw[EJ.2 g] at d;cases d
 refine YK.2 λi j o p hij=>?_;refine l (j-(i+1)) i _ _ (Y1 o) ?_;rw[show i+1+(j-(i+1))=j by omega];exact Y1 p
def Wf.uniq{S}(h:Wf S.q):Zdx S:=by intro i j a b g k l;obtain⟨d,rfl⟩:=Y0.1 g;obtain⟨f,rfl⟩:=Y0.1 k;have e:=EJ.1 l;rcases Y06 i j with h1|h1|h1;have c:Op.bytesLess _ _=true:=YK.1 h i j d f h1;rw[e,Kt] at c;cases c;exact h1;have c:Op.bytesLess _ _=true:=YK.1 h j i f d h1;rw[<-e,Kt] at c;cases c
def VS.ord{S}(h:VS S):Wf S.q/\∀T∈S.q,A2 T=some 0:=by have⟨e,a,b⟩:=Z34 S;rw[h.ok] at a;cases a;exact⟨Z9w (b rfl).2,(b rfl).1⟩
def Rk{a b:Int}:WY a b<0↔a<b:=by
 unfold WY;split;simp[*]
 split<;>simp[*]
def Cv{a b:Int}:WY a b=0↔a=b:=by
 unfold WY;split
 simp;omega
 split
 simp;omega
 simp;omega
def Zcn:∀{a b:List UInt8},Lib.compareBytes a b=0->a=b:=by
 intro a
 induction a with
 |nil=>intro b h;cases b with
   |nil=>rfl
   |cons y b=>simp[Lib.compareBytes] at h
 |cons x a ih=>?_
 intro b h;cases b with
 |nil=>simp[Lib.compareBytes] at h
 |cons y b=>?_
 simp only[Lib.compareBytes] at h;split at h;simp at h;split at h;simp at h;rename_i c d;have h3:¬(x.toNat<y.toNat):=λh=>c (UInt8.lt_iff_toNat_lt.2 h);have h4:¬(y.toNat<x.toNat):=λh=>d (UInt8.lt_iff_toNat_lt.2 h)
 have:x=y:=UInt8.toNat_inj.1 X
 rw[this,ih h]
def Rl:∀a:List UInt8,Lib.compareBytes a a=0
 |[]=>rfl
 |x::a=>by
   have:¬(x<x):=λh=>XL _ (UInt8.lt_iff_toNat_lt.1 h)
   simp[Lib.compareBytes,this,Rl a]
def Zag:∀{a b c:List UInt8},Lib.compareBytes a b<0->Lib.compareBytes b c<0->Lib.compareBytes a c<0:=by
 intro a
 induction a with|nil=>?_|cons x a ih=>?_
 intro b c e d;cases c with
 |nil=>cases b<;>simp[Lib.compareBytes] at e d
 |cons z c=>simp[Lib.compareBytes]
 intro b c e d;cases b with
 |nil=>simp[Lib.compareBytes] at e
 |cons y b=>?_
 cases c with
 |nil=>simp[Lib.compareBytes] at d
 |cons z c=>?_
 simp only[Lib.compareBytes,UInt8.lt_iff_toNat_lt] at e d|-;split at e;split at d;rw[if_pos X];decide;split at d;simp at d;rw[if_pos X];decide;split at e;simp at e;split at d;rw[if_pos X];decide;split at d;simp at d;rw[if_neg X,if_neg X];exact ih e d
def Rj{a b}:Ws a b<0↔a.g<b.g\/(a.g=b.g/\(a.int<b.int\/(a.int=b.int/\DR a.text b.text<0))):=by
 unfold Ws;by_cases d:WY a.g b.g=0;have c:=Cv.1 d;by_cases f:WY a.int b.int=0;have e:=Cv.1 f;simp[c,e,WY];have e:a.int≠b.int:=λh=>f (Cv.2 h);rw[if_neg (by simp[d]),if_pos f,Rk];simp[c,e];have c:a.g≠b.g:=λh=>d (Cv.2 h);rw[if_pos d,Rk];simp[c]
def Iy{a b}(h:Ws a b=0):a=b:=by
 unfold Ws at h;by_cases h1:WY a.g b.g=0;by_cases h2:WY a.int b.int=0;rw[if_neg (by simp[h1]),if_neg (by simp[h2])] at h;have f:=Zcn h;have⟨k,n,t⟩:=a;have⟨k',n',g⟩:=b;have c:=Cv.1 h1;have e:=Cv.1 h2;simp only at c e f;subst c e
 have:t=g:=by
  cases t with
  |mk d=>cases g with
    |mk d'=>
      have:=Array.toList_inj.1 f
      rw[show d=d' from this]
 rw[this];rw[if_neg (by simp[h1]),if_pos h2] at h;exact absurd h h2;rw[if_pos h1] at h;exact absurd h h1
def Z63{a b c}(e:Ws a b<0)(d:Ws b c<0):Ws a c<0:=by rw[Rj] at e d|-;rcases e with e|⟨e1,e⟩;rcases d with d|⟨f,_⟩;exact .inl X;exact .inl X;rcases d with d|⟨f,d⟩;exact .inl X;refine .inr ⟨X,?_⟩;rcases e with e|⟨f1,e⟩;rcases d with d|⟨f2,_⟩;exact .inl X;exact .inl X;rcases d with d|⟨f2,d⟩;exact .inl X;exact .inr ⟨X,Zag e d⟩
def Dn:∀{a b c:aE},ZO a b<0->ZO b c<0->ZO a c<0:=by
 intro a
 induction a with|nil=>?_|cons x a ih=>?_
 intro b c e d;cases c with
 |nil=>cases b<;>simp[ZO] at e d
 |cons z c=>simp[ZO]
 intro b c e d;cases b with
 |nil=>simp[ZO] at e
 |cons y b=>?_
 cases c with
 |nil=>simp[ZO] at d
 |cons z c=>?_
 simp only[ZO] at e d|-;by_cases e1:Ws x y=0
 have:=Iy e1
 subst this;rw[if_neg (by simp[e1])] at e;by_cases e2:Ws x z=0;rw[if_neg (by simp[e2])] at d|-;exact ih e d;rw[if_pos e2] at d|-;exact d;rw[if_pos e1] at e;by_cases e2:Ws y z=0
 have:=Iy e2
 subst this
 rwa [if_pos e1]
 rw[if_pos e2] at d
 have:=Z63 e d
 rwa [if_pos X]
def Wv(T:E)(c:List aE):Prop:=c.Pairwise λa b=>ZO (Z3 T a) (Z3 T b)<0
def Hk.pw{T c}(h:Hk T c):Wv T c:=by
 have f:∀n i a b,c[i]?=some a->c[i+1+n]?=some b->ZO (Z3 T a) (Z3 T b)<0:=by
  intro n
  induction n with
  |zero=>intro i a b e d;exact h i a b e d
  |succ n ih=>?_
  intro i a b e d;have hl:=(Y0.1 d).1;have g:c[i+1+n]?=some c[i+1+n]:=Y1 X;exact Dn (ih i a _ e g) (h (i+1+n) _ b g d)
 refine YK.2 λi j k l hij=>?_;refine f (j-(i+1)) i _ _ (Y1 k) ?_;rw[show i+1+(j-(i+1))=j by omega];exact Y1 l
def Wv.asc{T c}(h:Wv T c):Hk T c:=by intro i a b f g;obtain⟨d,rfl⟩:=Y0.1 f;obtain⟨e,rfl⟩:=Y0.1 g;exact YK.1 h i (i+1) d e X
def Wp.eq{α:Type}{m}{v:α}(h:Wp m λr=>r=v):m=some v:=by obtain⟨r,a,rfl⟩:=h;exact a
def Z1v{T}{b:aE}(h:CR T b):Aq T b=some 0:=by
 refine Wp.eq ?_;unfold Aq;have o:=h.len;refine X1 (λf=>by simp[o] at f) λ_=>X6 (λ_ _=>True) trivial ?_ λ_ _=>X2 rfl;intro i x _ next n _ _ k
 have hi:=(Y0.1 n).1;have j:i<T.j.length:=X
 have e:=Y1 j;have⟨f,l,m⟩:=h.cell i x _ n e;generalize T.j[i]=c at e l m;rw[f];refine X0 ⟨_,rfl,rfl⟩ λv _ p=>?_;subst p;refine X1 (λh=>by simp at h) λ_=>X1 (λg=>?_) λg=>?_;have d:x.g=0:=sU g;refine X5 e (X1 (λa=>?_) λ_=>X1 (λa=>?_) λ_=>k () trivial);rw[l d] at a;cases a;simp[d] at a;have d:x.g≠0:=sU g;refine X1 (λ_=>X5 e (X1 (λa=>?_) λ_=>k () trivial)) λ_=>k () trivial;simp[m d] at a
def Ie{S d}(s:∀T∈S.q,T.pk.length<=6)(h:CF S d):VE S d=some 0:=by
 refine Wp.eq ?_;unfold VE;have w:=h.len;refine X1 (λb=>by simp[w] at b) λ_=>X6 (λ_ _=>True) trivial ?_ λ_ _=>X2 rfl;intro i x _ next g y _ z
 have hi:=(Y0.1 g).1;have f:i<S.q.length:=X
 have e:=Y1 f;have o:=s _ (Yh f);have aj:=h.l24 x y;generalize S.q[i]=T at e o;have A:=h.row i x T g e;have t:=h.asc i x T g e;refine X5 e (X1 (λb=>by rw[h.y i x T g e] at b;cases b) λ_=>X1 (λb=>?_) λ_=>?_)
 have:24<x.rows.length:=by simp at b;omega
 omega;refine X6 (λ_ _=>True) trivial ?_ λ_ _=>z () trivial;intro k a _ af m p _ l;have hk:=(Y0.1 m).1;rw[Z1v (A a p)];refine X0 ⟨_,rfl,rfl⟩ λv _ B=>?_;subst B;refine X1 (λh=>by simp at h) λ_=>X1 (λ_=>l () trivial) λr=>X4 ⟨X,X⟩ ?_;have hk0:k≠0:=by simp at r;omega
 have n:k-1<x.rows.length:=X;have j:=Y1 n;rw[show k-1=((k-1:Nat):Int) by omega];generalize x.rows[k-1]=row0 at j;have hlt:=t (k-1) row0 a j (by rwa [show k-1+1=k by omega]);refine X5 j (X0 (Ua T row0 X) λk0 _ q=>X0 (Ua T a X) λk1 _ b=>?_);subst q b;refine X0 (Kk _ _ (by simp[Z3];omega)) λc _ u=>?_;subst u;refine X1 (λh=>?_) λ_=>X1 (λh=>?_) λ_=>l () trivial
 have:ZO (Z3 T row0) (Z3 T a)=0:=sU h
 omega
 have:0<ZO (Z3 T row0) (Z3 T a):=sU h
 omega
def Zqx{T}{c:Int}(h:0<=c/\c<T.j.length):T.j[c.toNat]?=some (Zf T c):=by have a:c.toNat<T.j.length:=X;unfold Zf;rw[Y1 a];rfl
def Zta{a}{c:Int}(h:0<=c/\c<a.length):a[c.toNat]?=some (Zu a c):=by have b:c.toNat<a.length:=X;unfold Zu;rw[if_pos h.1,Y1 b];rfl
def L1{α:Type}{a:List (List α)}{i:Nat}{x:List α}(h:a[i]?=some x):(a.take (i+1)).flatten=(a.take i).flatten++x:=by obtain⟨b,c⟩:=Y0.1 h;rw[Yg b,c];simp
def Oh{h:HS}{a:aC}:ZI h (a.map C.d) a:=by
 induction a with
 |nil=>trivial
 |cons d a b=>exact⟨.data rfl,b⟩
def VJ{α:Type}(a:List (List α))(i:Nat):Nat:=(a.take i).flatten.length
def L2{α:Type}(a:List (List α))(i:Nat):(a.take i).flatten.length<=a.flatten.length:=by
 conv=>rhs;rw[<-Yy i a]
 rw[XN,Ye];omega
def Om{α:Type}{a:List (List α)}{i:Nat}{x:List α}(h:a[i]?=some x):VJ a (i+1)=VJ a i+x.length:=by unfold VJ;rw[L1 h,Ye]
def Pq{α:Type}(a:List (List α))(i:Nat):VJ a i<=a.flatten.length:=L2 a i
def OP{α:Type}(a:List (List α)):VJ a a.length=a.flatten.length:=by unfold VJ;rw[Yl]
def Ol{α:Type}(a:List (List α)):VJ a 0=0:=rfl
def TB(h:HS)(n:Nat)(hn:n<=2097152)(K:V->HS->Prop)
  (k:∀f e,MR e 1 f []->Z0 h e []->(∀l∈Z f,h.p<=l.1/\l.1<e.p)->K (.one f) e):
  Z5 prog 41 [.one .nil,.i (n:Int)] h K:=by
 refine Z5.ov func41 ?_;simp;have m:¬((n:Int)<0):=X
 have j:IntKind.i64.wrap ((n:Int)-0)=(n:Int):=by rw[Int.sub_zero];exact Y6 _ X
 have b:IntKind.i64.wrap 0=0:=Y6 _ X;have d:IntKind.i64.wrap (n:Int)=(n:Int):=Y6 _ X
 try simp[m]
 refine IK CC ?_;simp[j,b,d];refine Vy (λo=>?_) (λo=>?_);simp[j,b,d];refine IK CC ?_;simp[j,b,d];refine OW CC dE (kk:=.i64) rfl kR dE dE X (by show(n:Int)<=2097152;omega) (λa c=>?_);have g:0<a:=X
 simp at c;simp[b,d,g];refine k _ _ ⟨Zy.nil,I,.inr ⟨(h.p,352),a,List.replicate (a*1) .any,I,by simp[Zb],by simp[Zb]⟩⟩ ((Z0.refl.xV (.inr (Y7 _))).w) (by simp[Z]);simp;exact k _ _ MR.nil .refl (by simp[Z])
def Tm(h:HS)(c:C)(a:List (List aC))(Q:c=.d (.sl (a.map λu=>[.sl u]))\/∃o,c=.own o (a.map λu=>[.sl u]))(A:∀u∈a,∀x∈u,x.length=1)(hl:a.flatten.length<=2097152)(K:V->HS->Prop)
  (E:∀N f,MR f 1 N (a.flatten.map (·.map C.d))->Z0 h f []->(∀l∈Z N,h.p<=l.1/\l.1<f.p)->K (.one N) f):
  Z5 prog 20 [.one c] h K:=by
 refine Z5.ov func20 ?_;simp;have W:c.qE=some (a.map λu=>[.sl u]):=by rcases Q with rfl|⟨o,rfl⟩<;>rfl
 refine CD W (λP=>?_);simp only[Yd] at P;have aw:a.length<=2097152:=P;simp;refine Z6.rounds (λn e f=>∃i,n=a.length-i/\i<=a.length/\f=h/\e.n=36/\e.get 0=.one c/\e.get 9=.one c/\e.get 10=.i (a.length:Int)/\e.get 11=.i (i:Int)/\e.get 3=.i (VJ a i:Int)) a.length
  ⟨0,rfl,X,rfl,I,I,I,I,I,by simp[Ol]⟩ ?_
 rintro n e f ⟨i,rfl,Y,rfl,b,g,p,y,H,v⟩;simp[g,p,y,H,v,b];refine Vy (λs=>?_) (λB=>?_)
 .have M:IntKind.i64.wrap ((i:Int)+1)=(i:Int)+1:=Y6 _ X;obtain⟨x,w⟩:∃x,a[i]?=some x:=⟨_,Y1 s⟩;have j:=Pq a (i+1);have m:=Om w;have aq:IntKind.i64.wrap ((VJ a i:Int)+(x.length:Int))=(VJ a (i+1):Int):=by rw[m,Int.natCast_add];exact Y6 _ X
  have ak:¬((VJ a (i+1):Int)<0):=X;have q:(0:Int)<=(i:Int):=X;rcases Q with rfl|⟨o,rfl⟩
  all_goals
   simp[g,p,y,H,v,b,w,q];intro hxl;simp[g,p,y,H,v,b,M,aq,ak];exact AQ.of (n':=a.length-(i+1)) X ⟨i+1,rfl,X,rfl,by simp[b],by simp[g],by simp[p],by simp[y],I,I⟩
 obtain rfl:i=a.length:=X;have R:VJ a a.length<=2097152:=by rw[OP];exact hl
 simp[g,v,b];refine Zc (TB f (VJ a a.length) R _ (λc1 h1 ap al am=>?_));simp[g,b];refine CD W (λP=>?_);simp[g,b];refine Z6.rounds (λn e z=>∃(i:Nat) (J:C),n=a.length-i/\i<=a.length/\MR z 1 J ((a.take i).flatten.map (·.map C.d))/\Z0 f z []/\(∀l∈Z J,f.p<=l.1/\l.1<z.p)/\e.n=36/\e.get 25=.one c/\e.get 26=.i (a.length:Int)/\e.get 27=.i (i:Int)/\e.get 6=.one J) a.length ?_ ?_;exact⟨0,c1,rfl,X,(ap.frame (λ_ _=>rfl)),al,am,by simp[b],by simp[g,b],by simp[b],by simp[b],by simp[b]⟩;clear g p y H v b Y B;rintro n e z ⟨i,J,rfl,Y,t,j,r,b,G,F,L,O⟩;simp[G,F,L,O,b];refine Vy (λs=>?_) (λB=>?_)
 .have M:IntKind.i64.wrap ((i:Int)+1)=(i:Int)+1:=Y6 _ X;obtain⟨x,w⟩:∃x,a[i]?=some x:=⟨_,Y1 s⟩;have U:=L1 w;have ar:=L2 a (i+1);have au:(a.take (i+1)).flatten.length=(a.take i).flatten.length+x.length:=by rw[U,Ye]
  have q:(0:Int)<=(i:Int):=X;have T:Zr z 1 (.d (.sl x)) (x.map (·.map C.d)):=Zr.data (A x (Y2 w)) (by show x.length<=2097152;omega);rcases Q with rfl|⟨o,rfl⟩
  all_goals
   simp[G,F,L,O,b,w,q];refine Wl CC kR dE dE t T (by simp only[Yd];show _<=2097152;omega) (λc3 v S m ao=>?_);simp[G,F,L,b,M];refine AQ.of (n':=a.length-(i+1)) X ⟨i+1,c3,rfl,X,?_,j.trans' m (λk E=>.inr (r k E).1),?_,by simp[b],by simp[G],by simp[F],I,I⟩;rw[U,YL];exact S;intro k E;rcases ao k E with p|p
   have:=r k p
   have:=m.1
   omega
   have:=j.1
   omega
 obtain rfl:i=a.length:=X;rw[Yl] at t;simp[O,b];exact E _ _ t j r
def FC(a:List (List (List J))):aB (List (List J)):=Zp (a.flatten.length<=2097152) (some a.flatten)
def To(a:List (List (List J)))(r:List (List J))(c:Is (FC a) r):Zq prog 20 [.l (a.map (Z7 (Z7 J.z)))] (.l (r.map (Z7 J.z))):=by
 obtain⟨j,c⟩:=c.chk;obtain rfl:=Zk c;refine Zq.of_heap ?_;have h:a.map (Z7 (Z7 J.z))=(a.map (·.map (Z7 J.z))).map λf=>[D.sl f]:=by simp[Z7]
 have hF:(a.map (·.map (Z7 J.z))).flatten=a.flatten.map (Z7 J.z):=by simp[Y3i]
 refine Tm HS.init _ (a.map (·.map (Z7 J.z))) (.inl (by rw[<-h])) (λf g x b=>?_) (by rw[hF,Yd];exact j) _ (λc' h' e _ _=>?_);obtain⟨ys,_,rfl⟩:=Yi.1 g;obtain⟨y,_,rfl⟩:=Yi.1 b;rfl;rw[hF] at e;exact e.frz (Yd _) (λt d=>by obtain⟨y,_,rfl⟩:=Yi.1 d;rfl) (λi x t b d=>by rw[Y9] at b;rw[d] at b;simp only[Yp,Ya] at b;subst b;exact Oh)
def Z0a(h:HS)(n:Nat)(hn:n<=2097152)(K:V->HS->Prop)
  (k:∀f e,MR e 3 f []->Z0 h e []->(∀l∈Z f,h.p<=l.1/\l.1<e.p)->K (.one f) e):
  Z5 prog 228 [.one .nil,.i (n:Int)] h K:=by
 refine Z5.ov func228 ?_;simp;have m:¬((n:Int)<0):=X
 have j:IntKind.i64.wrap ((n:Int)-0)=(n:Int):=by rw[Int.sub_zero];exact Y6 _ X
 have b:IntKind.i64.wrap 0=0:=Y6 _ X;have d:IntKind.i64.wrap (n:Int)=(n:Int):=Y6 _ X
 try simp[m]
 refine IK QE ?_;simp[j,b,d];refine Vy (λo=>?_) (λo=>?_);simp[j,b,d];refine IK QE ?_;simp[j,b,d];refine OW QE dE (kk:=.i64) rfl kR dE dE X (by show(n:Int)<=2097152;omega) (λa c=>?_);have g:0<a:=X
 simp at c;simp[b,d,g];refine k _ _ ⟨Zy.nil,I,.inr ⟨(h.p,352),a,List.replicate (a*3) .any,I,by simp[Zb],by simp[Zb]⟩⟩ ((Z0.refl.xV (.inr (Y7 _))).w) (by simp[Z]);simp;exact k _ _ MR.nil .refl (by simp[Z])
def TO(h:HS)(c:C)(a:List (List aC))(Q:c=.d (.sl (a.map λu=>[.sl u]))\/∃o,c=.own o (a.map λu=>[.sl u]))(A:∀u∈a,∀x∈u,x.length=3)(hl:a.flatten.length<=2097152)(K:V->HS->Prop)
  (E:∀N f,MR f 3 N (a.flatten.map (·.map C.d))->Z0 h f []->(∀l∈Z N,h.p<=l.1/\l.1<f.p)->K (.one N) f):
  Z5 prog 210 [.one c] h K:=by
 refine Z5.ov func210 ?_;simp;have W:c.qE=some (a.map λu=>[.sl u]):=by rcases Q with rfl|⟨o,rfl⟩<;>rfl
 refine CD W (λP=>?_);simp only[Yd] at P;have aw:a.length<=2097152:=P;simp;refine Z6.rounds (λn e f=>∃i,n=a.length-i/\i<=a.length/\f=h/\e.n=36/\e.get 0=.one c/\e.get 9=.one c/\e.get 10=.i (a.length:Int)/\e.get 11=.i (i:Int)/\e.get 3=.i (VJ a i:Int)) a.length
  ⟨0,rfl,X,rfl,I,I,I,I,I,by simp[Ol]⟩ ?_
 rintro n e f ⟨i,rfl,Y,rfl,b,g,p,y,H,v⟩;simp[g,p,y,H,v,b];refine Vy (λs=>?_) (λB=>?_)
 .have M:IntKind.i64.wrap ((i:Int)+1)=(i:Int)+1:=Y6 _ X;obtain⟨x,w⟩:∃x,a[i]?=some x:=⟨_,Y1 s⟩;have j:=Pq a (i+1);have m:=Om w;have aq:IntKind.i64.wrap ((VJ a i:Int)+(x.length:Int))=(VJ a (i+1):Int):=by rw[m,Int.natCast_add];exact Y6 _ X
  have ak:¬((VJ a (i+1):Int)<0):=X;have q:(0:Int)<=(i:Int):=X;rcases Q with rfl|⟨o,rfl⟩
  all_goals
   simp[g,p,y,H,v,b,w,q];intro hxl;simp[g,p,y,H,v,b,M,aq,ak];exact AQ.of (n':=a.length-(i+1)) X ⟨i+1,rfl,X,rfl,by simp[b],by simp[g],by simp[p],by simp[y],I,I⟩
 obtain rfl:i=a.length:=X;have R:VJ a a.length<=2097152:=by rw[OP];exact hl
 simp[g,v,b];refine Zc (Z0a f (VJ a a.length) R _ (λc1 h1 ap al am=>?_));simp[g,b];refine CD W (λP=>?_);simp[g,b];refine Z6.rounds (λn e z=>∃(i:Nat) (J:C),n=a.length-i/\i<=a.length/\MR z 3 J ((a.take i).flatten.map (·.map C.d))/\Z0 f z []/\(∀l∈Z J,f.p<=l.1/\l.1<z.p)/\e.n=36/\e.get 25=.one c/\e.get 26=.i (a.length:Int)/\e.get 27=.i (i:Int)/\e.get 6=.one J) a.length ?_ ?_;exact⟨0,c1,rfl,X,(ap.frame (λ_ _=>rfl)),al,am,by simp[b],by simp[g,b],by simp[b],by simp[b],by simp[b]⟩;clear g p y H v b Y B;rintro n e z ⟨i,J,rfl,Y,t,j,r,b,G,F,L,O⟩;simp[G,F,L,O,b];refine Vy (λs=>?_) (λB=>?_)
 .have M:IntKind.i64.wrap ((i:Int)+1)=(i:Int)+1:=Y6 _ X;obtain⟨x,w⟩:∃x,a[i]?=some x:=⟨_,Y1 s⟩;have U:=L1 w;have ar:=L2 a (i+1);have au:(a.take (i+1)).flatten.length=(a.take i).flatten.length+x.length:=by rw[U,Ye]
  have q:(0:Int)<=(i:Int):=X;have T:Zr z 3 (.d (.sl x)) (x.map (·.map C.d)):=Zr.data (A x (Y2 w)) (by show x.length<=2097152;omega);rcases Q with rfl|⟨o,rfl⟩
  all_goals
   simp[G,F,L,O,b,w,q];refine Wl QE kR dE dE t T (by simp only[Yd];show _<=2097152;omega) (λc3 v S m ao=>?_);simp[G,F,L,b,M];refine AQ.of (n':=a.length-(i+1)) X ⟨i+1,c3,rfl,X,?_,j.trans' m (λk E=>.inr (r k E).1),?_,by simp[b],by simp[G],by simp[F],I,I⟩;rw[U,YL];exact S;intro k E;rcases ao k E with p|p
   have:=r k p
   have:=m.1
   omega
   have:=j.1
   omega
 obtain rfl:i=a.length:=X;rw[Yl] at t;simp[O,b];exact E _ _ t j r
def HM(a:List aE):aB aE:=Zp (a.flatten.length<=2097152) (some a.flatten)
def FJ(a:List aE)(r:aE)(c:Is (HM a) r):Zq prog 210 [.l (a.map (Z7 GV.z))] (.l (r.map GV.z)):=by
 obtain⟨j,c⟩:=c.chk;obtain rfl:=Zk c;refine Zq.of_heap ?_;have h:a.map (Z7 GV.z)=(a.map (·.map GV.z)).map λf=>[D.sl f]:=by simp[Z7]
 have hF:(a.map (·.map GV.z)).flatten=a.flatten.map GV.z:=by simp[Y3i]
 refine TO HS.init _ (a.map (·.map GV.z)) (.inl (by rw[<-h])) (λf g x b=>?_) (by rw[hF,Yd];exact j) _ (λc' h' e _ _=>?_);obtain⟨ys,_,rfl⟩:=Yi.1 g;obtain⟨y,_,rfl⟩:=Yi.1 b;rfl;rw[hF] at e;exact e.frz (Yd _) (λt d=>by obtain⟨y,_,rfl⟩:=Yi.1 d;rfl) (λi x t b d=>by rw[Y9] at b;rw[d] at b;simp only[Yp,Ya] at b;subst b;exact Oh)
def Z03(h:HS)(c:C)(a:List aD)(hr:Zr h 3 c a)(K:V->HS->Prop)
  (hk:∀c' h',MR h' 3 c' a->Z0 h h' []->(∀l∈Z c',h.p<=l.1/\l.1<h'.p)->ZG h h'->K (.one c') h'):
  Z5 prog 63 [.one c] h K:=by
 have F:=func63;have EL:=@QE;exact Gu
def Tt(h:HS)(c:C)(xs:List aD)(ts:List aC)(g:FuncId)(caps:List Cap)(o:List aC)(p:aC->Bool)(i0:Int)(hm:MR h 1 c xs)(hlab:∀k∈Z c,k.1<h.p)(hl:xs.length=ts.length)
  (ht:∀t∈ts,t.length=1)(hf:∀h',Z0 h h' (Z c)->∀(i:Nat) (x:aD) (t:aC),xs[i]?=some x->ts[i]?=some t->ZI h' x t)
  (hcv:∀h',Z0 h h' (Z c)->Uy h' (caps.map Vf) (Wu o))(hcf:LendC h (.fn g caps) (.fn g o))
  (hp:∀t∈ts,Zq prog g (Sk t::Wu o) (.b (p t)))
  (hidx:Zq prog 107 [.l ts,.one (.fn g o)] (.i i0))(hi0:i0=match ts.findIdx? p with|some i=>(i:Int)|none=>-1)(K:V->HS->Prop)
  (hk:∀c' h',MR h' 1 c' (keep p xs ts)->Z0 h h' (Z c)->Z c'=Z c->K (.one c') h'):
  Z5 prog 230 [.one c,.one (.fn g caps)] h K:=by
 have F:=func230;have EL:=@PG;have ZE:=@Zqg;obtain⟨B,hB⟩:∃B,B=Jo 1:=⟨_,rfl⟩;exact II
def Z0b(h:HS)(c:C)(xs:List aD)(i j:Nat)(hm:MR h 1 c xs)(hij:i<=j)(hj:j<=xs.length)(K:V->HS->Prop)
  (hk:∀c' b,MR b 1 c' (xs.take i++xs.drop j)->(∀l,l∉Z c->b.a l=h.a l)->b.p=h.p->b.arr=h.arr->Z c'=Z c->K (.one c') b):
  Z5 prog 66 [.one c,.i i,.i j] h K:=by
 have F:=func66;have EL:=@PG;have ZE:=@Zqg;exact GQ
def TN(h:HS)(c:C)(xs:List aD)(i j:Nat)(hm:MR h 3 c xs)(hij:i<=j)(hj:j<=xs.length)(K:V->HS->Prop)
  (hk:∀c' b,MR b 3 c' (xs.take i++xs.drop j)->(∀l,l∉Z c->b.a l=h.a l)->b.p=h.p->b.arr=h.arr->Z c'=Z c->K (.one c') b):
  Z5 prog 207 [.one c,.i i,.i j] h K:=by
 have F:=func207;have EL:=@QE;have ZE:=@Zav;exact GQ
def Z1r{h:HS}{d l:Z2}{m:List aC}{t A c k a:Nat}{j:aD}(q:h.arr d=some (t,A))(am:0<t)(r:h.a l=some j)(h0:0<j.length):
  Fg prog 95 [.one (.own d m),.one (.mrow l c k a)] h (.b false):=by
 intro Γ μ w vals hI hR;have⟨y,B⟩:=hR;have⟨F,M,Q⟩:=B 0 _ rfl;have⟨G,J,R⟩:=B 1 _ rfl;have P:vals=#[F,G]:=by
  apply XZ;intro i
  match i with
  |0=>simpa using M
  |1=>simpa using J
  |i+2=>rw[Xw (by simp at y;omega)];simp
 subst P;obtain⟨_,g,n,x,rfl⟩:=(show We μ (.own d m) F from Q);obtain⟨b,kk,E,rfl,_⟩:=(show We μ (.mrow l c k a) G from R);refine⟨.bool false,?_,RepD.bool _⟩;rw[run_callFunc_extern (fn:=f95) func95 kR kR kR (e:=Extern.SlicesOverlaps.overlaps #[64,64] #[4]) kR];have⟨b2,n2,I,CN,f,_,K,L,_⟩:=hI.a l j r;rw[E] at f;cases f;have⟨gc,v,u⟩:=hI.arr d A t q;rw[x] at v;cases v;cases g with|none=>?_|some g=>?_
 have:=(u.1 rfl).2
 omega;have⟨_,H,p,o,_⟩:=u.2 g rfl;have s:g≠b:=by
  rintro rfl
  have:=hI.inj d l g n kk (.inr (by rw[q];simp)) (.inl (by rw[r];simp)) x E
  subst this;exact hI.both d (by rw[r];simp) (by rw[q];simp)
 have al:CN.size=j.length:=L.1;have⟨i,z,O,N,y,_⟩:=Ae PG;show Result.andThen (Sem.run prog (Extern.SlicesOverlaps.overlaps #[64,64] #[4] #[.slice (some ⟨g,0,none⟩) m.length n,.slice (some ⟨b,c,none⟩) k a]) w) _=_;rw[Lib.run_overlaps_apart w 64 4 58 O i.size (λw=>by simp[sizeOf,typeInfo,N]) ⟨g,0,none⟩ ⟨b,c,none⟩ m.length n k a s H I p.size CN.size (by simp[World.shape?,o]) (by simp[World.shape?,K]) X (by simp[World.frozen?,o]) (by simp[World.frozen?,o])];rfl
def Zw(a:aD):List aD:=a.map λr=>[r]
def Pb:∀a:aD,(Zw a).flatten=a
 |[]=>rfl
 |r::a=>by
   have:=Pb a
   simp only[Zw] at this;simp[Zw,this]
def Z9v(b:aD):Zy 1 (Zw b):=by intro x a;obtain⟨y,_,rfl⟩:=Yi.1 a;rfl
def IE(a:aD):(Zw a).length=a.length:=by simp[Zw]
def GC(a b:aD):Zb (Zw a) b=a++b:=by rw[Zb,Pb]
def IX{h:HS}{l:Z2}{cap:Nat}{rs sp:aD}(hb:h.a l=some (rs++sp))(a:rs.length+sp.length=cap)(hlim:rs.length<=2097152):MR h 1 (.mrow l 0 rs.length cap) (Zw rs):=
 ⟨Z9v rs,by rwa [IE],.inr ⟨l,cap,sp,by rw[IE],by rwa [GC],by rw[GC];simp[a]⟩⟩
def Ky{h:HS}{l:Z2}{cs:aD}{a k b:Nat}(c:h.a l=some cs)(hk:a+k<=cs.length):Wz h 1 (.mrow l a k b)=some ((cs.drop a).take k):=by simp only[Wz,c,Zs,Y08];rw[if_pos sO]
def C6{a b c:aD}{n:Nat}(d:n=a.length):Zi (a++b) n c=a++c++b.drop c.length:=by subst d;simp[Zi,Yz]
def Cu{P:Program}{c p:TypeId}{n i a k b m mk:Nat}{l:Z2}{x:C}{h:HS}{new cs cs':aD}{f:V->HS->Prop}(g:ZC P c=some (p,n,i))(t:Wz h n x=some new)(s:Wd x=some m)(r:h.a l=some cs)(q:0<n)(e:new.length=m*n)(d:a+k*n<=cs.length)
  (j:min m k=mk)(o:Zi cs a (new.take (mk*n))=cs')(hk:f (WD .i64 (mk:Int)) (h.xV l cs')):H4 P c (.mrow l a k b) x h (K:=⟨f⟩):=by
 unfold H4 Ca;simp only[g,t,s,r];refine⟨⟨q,e,d⟩,?_⟩
 rwa [j,o]
set_option maxHeartbeats 2000000 in
def Z09(h:HS)(c:C)(rs:aD)(lv:Z2)(d:aC)(i:Nat)(J:MR h 1 c (Zw rs))(aw:∀k∈Z c,k.1<h.p)(G:i<=rs.length)(ha:h.arr lv=some (1,1))(hd:d.length=1)(hlim:rs.length+1<=2097152)(K:V->HS->Prop)
  (E:∀A h',MR h' 1 A (Zw (rs.take i++d.map C.d++rs.drop i))->Z0 h h' (Z c)->(∀k∈Z A,k∈Z c\/(h.p<=k.1/\k.1<h'.p))->K (.one A) h'):
  Z5 prog 65 [.one c,.i (i:Int),.one (.own lv [d])] h K:=by
 obtain⟨v,rfl⟩:∃v,d=[v]:=by
  match d,hd with
  |[v],_=>exact⟨v,rfl⟩
 refine Z5.ov func65 ?_;rcases J.2.2 with⟨q,ba⟩|⟨l,cap,sp,rfl,z,o⟩
 .have ay:rs=[]:=by simpa[Zw] using q
  subst ay;obtain rfl:i=0:=sU G;rcases ba with rfl|rfl
  all_goals
   simp;refine Wl PG kR dE dE J (Zr.qU rfl) (by simp[Zw]) (λA h' M N y=>?_);simp;exact E _ _ (by simpa[Zw] using M) N y
 rw[GC] at z o;rw[IE] at J E|-;simp only[Ye,Y08] at o;simp;refine V3 ⟨X,X⟩ (λ_=>?_) (λ_=>?_)
 all_goals
  simp;refine BJ (λW=>?_) (λW=>?_);have Q:i=rs.length:=by simp at W;omega
  subst Q;simp;refine Wl PG kR dE dE J (Zr.qU rfl) (by simp[Zw];omega) (λA h' M N y=>?_);simp;exact E _ _ (by simpa[Zw] using M) N y;have Q:i<rs.length:=by
   have:(i:Int)≠rs.length:=sU W
   omega
  have f:IntKind.i64.wrap ((rs.length:Int)+1)=(rs.length:Int)+1:=Y6 _ X;have j:IntKind.i64.wrap ((i:Int)+1)=(i:Int)+1:=Y6 _ X;simp[f];refine Pr PG ?_;simp[f,j];refine Vy (λhlt=>?_) (λhge=>?_);have bb:cap<rs.length+1:=X
  have B:i<=cap:=X;have U:0<cap:=X;have w:IntKind.i64.wrap ((rs.length:Int)+1-i)=(rs.length:Int)+1-i:=Y6 _ X;simp[f,j,w];refine V3 X (λ_=>?_) (λe=>absurd U (sU e));simp[f,j,w];have t:i+((rs.length:Int)+1-i).toNat=rs.length+1:=X
  refine OX PG dE (kk:=.i64) rfl kR dE dE X (by show(i:Int)+_<=2097152;omega) X (old:=rs.take i) (by rw[Ky z sO,XU,Xg G]) sO (λb am=>?_);rw[t] at am|-;have aq:i<b:=X
  simp[f,j,w];refine V3 X (λ_=>?_) (λe=>absurd aq (sU e));simp[f,j,w];have O:(rs.take i).length=i:=sO
  have g:(rs.take i++[C.d v]++rs.drop i).length=rs.length+1:=sO;have u:(0:Int)<=(i:Int)+1:=X;refine Cu (n:=1) (new:=[.d v]) (m:=1) (mk:=1) (cs':=rs.take i++[.d v]++List.replicate (b-i-1) .any) PG (by simp[Wz,C.qE]) (by simp[Wd,C.qE]) (by simp;rfl) dE rfl sO X (by rw[C6 O.symm];simp) ?_;simp[f,j,w];refine Z6.cu aG (λr q=>r.n=95/\r.get 9=.one (.mrow (h.p,640) 0 (rs.length+1) b)/\q.a (h.p,640)=some (rs.take i++[.d v]++rs.drop i++List.replicate (b-(rs.length+1)) .any)/\Z0 h q []/\h.p<q.p) ?_ ?_;simp[f,j,w];simp only[u,if_true];refine V3 sO (λ_=>?_) (λe=>absurd (X:i+1<b) (sU e));simp[f,j,w];refine V3 X (λ_=>?_) (λe=>absurd (X:i<cap) (sU e));simp[f,j,w];have ap:l.1<h.p:=aw l (by simp[Z]);have Y:l≠(h.p,640):=by rintro rfl;simp at ap
  have L:(rs.take i++[C.d v]).length=i+1:=sO;have a1:((rs++sp).drop i).take (rs.length-i)=rs.drop i:=by rw[Xv G,Xg I];exact YD I
  refine Cu (n:=1) (new:=rs.drop i) (m:=rs.length-i) (mk:=rs.length-i) (cs:=rs.take i++[.d v]++List.replicate (b-i-1) .any) (cs':=rs.take i++[.d v]++rs.drop i++List.replicate (b-(rs.length+1)) .any) PG
   (by rw[Ky (cs:=rs++sp) (by simp[Y,z]) sO,a1]) rfl I dE I sO X ?_ ?_
  have e9:b-i-1-(rs.length-i)=b-(rs.length+1):=X;have P:(rs.drop i).take ((rs.length-i)*1)=rs.drop i:=YD I;rw[P,C6 L.symm];simp[e9];refine Ze.of ?_;simp;exact(((Z0.refl.xV (.inr I)).w).xV (.inr I)).xV (.inr I);rintro r q ⟨F,e,S,R,bd⟩;simp[F,e];refine E _ _ ?_ (R.mn) (by simp[Z];exact .inr X)
  have:=IX (cap:=b) S sO sO
  rw[g] at this;simpa using this;have bc:rs.length+1<=cap:=X
  have B:i<cap:=X;have u:(0:Int)<=(rs.length:Int)+1:=X;have x:(0:Int)<=(i:Int)+1:=X;have t:((rs.length:Int)+1).toNat=rs.length+1:=X;simp[f,j,u,x,t];refine V3 X (λ_=>?_) (λe=>absurd (X:0<cap) (sU e));simp[f,j,u,x,t];refine V3 X (λ_=>?_) (λe=>absurd (X:i+1<cap) (sU e));simp[f,j,u,x,t];refine Rm (Z1r ha dE z sO) ?_;simp[f,j,u,x,t];obtain⟨p,a,a7⟩:∃p a,sp=p::a:=by
   match sp,o with
   |[],e=>simp at e;omega
   |p::a,_=>exact⟨p,a,rfl⟩
  subst a7;simp only[YM] at o;have ap:l.1<h.p:=aw l (by simp[Z]);have O:(rs.take i).length=i:=sO
  have L:(rs.take (i+1)).length=i+1:=sO;have au:((rs++p::a).drop i).take (rs.length+1-i)=rs.drop i++[p]:=by
   rw[Xv G,List.take_append];rw[YD sO]
   have:rs.length+1-i-(rs.drop i).length=1:=sO
   rw[this];rfl
  refine Z6.cu aG (λr q=>r.n=95/\r.get 0=.one (.mrow l 0 (rs.length+1) cap)/\r.get 1=.i (i:Int)/\r.get 2=.one (.own lv [[v]])/\q.a l=some (rs.take (i+1)++rs.drop i++a)/\Z0 h q [l]) ?_ ?_;simp[f,j,u,x,t];refine V3 X (λ_=>?_) (λe=>absurd (X:i+1<cap) (sU e));simp[f,j,u,x,t];refine V3 X (λ_=>?_) (λe=>absurd (X:i<cap) (sU e));simp[f,j,u,x,t];refine Cu (n:=1) (new:=rs.drop i++[p]) (m:=rs.length+1-i) (mk:=rs.length-i) (cs:=rs++p::a) (cs':=rs.take (i+1)++rs.drop i++a) PG
   (by rw[Ky (cs:=rs++p::a) (by simp[z]) sO,au]) rfl (by simp[z]) dE sO sO X ?_ ?_
  have P:(rs.drop i++[p]).take ((rs.length-i)*1)=rs.drop i:=by rw[Y08,Xg I,YD I]
  have ax:rs++p::a=rs.take (i+1)++(rs.drop (i+1)++p::a):=by rw[<-Yz,Yy]
  have a8:(rs.drop (i+1)++p::a).drop (rs.drop i).length=a:=by
   have:(rs.drop i).length=(rs.drop (i+1)).length+1:=sO
   rw[this,<-Xr,Y3r];rfl
  rw[P,ax,C6 L.symm,a8];refine Ze.of ?_;simp;exact Z0.refl.xV (.inl I);rintro r q ⟨F,T,ar,h2,S,R⟩;simp[F,T,ar,h2];refine V3 X (λ_=>?_) (λe=>absurd B (sU e));simp[F,T,ar,h2];refine Cu (n:=1) (new:=[.d v]) (m:=1) (mk:=1) (cs:=rs.take (i+1)++rs.drop i++a) (cs':=rs.take i++[.d v]++rs.drop i++a) PG (by simp[Wz,C.qE]) (by simp[Wd,C.qE]) (by simp[S]) dE rfl sO X ?_ ?_;have az:rs.take (i+1)++rs.drop i++a=rs.take i++(rs[i]::(rs.drop i++a)):=by rw[Yg Q,Yz,Yz];rfl
  rw[az,C6 O.symm];simp;simp[F,T];refine E _ _ ?_ ((R.xV (.inl I)).mono (by simp[Z])) (by simp[Z]);have g:(rs.take i++[C.d v]++rs.drop i).length=rs.length+1:=sO
  have:=IX (h:=q.xV l (rs.take i++[C.d v]++rs.drop i++a)) (l:=l) (cap:=cap) (rs:=rs.take i++[C.d v]++rs.drop i) (sp:=a) I (by rw[g];omega) (by rw[g];omega)
  rw[g] at this;simpa using this
def Ee(s_:aE):aB aE:=some s_
def Eg(s_:aE)(r:aE)(hm:Is (Ee s_) r):Zq prog 63 [.one (.d (.sl (s_.map GV.z)))] (.one (.fresh 0 3 (r.map GV.z))):=by
 obtain rfl:=Zk hm;refine Jd ⟨_,func63,by kernel_rfl,by kernel_rfl⟩ (λhl=>?_);have hxs:∀x∈s_.map GV.z,x.length=3:=by intro x hx;obtain⟨y,_,rfl⟩:=Yi.1 hx;rfl
 generalize s_.map GV.z=xs at*;refine Zq.qM func63 rfl (by kernel_rfl) (n:=8) rfl rfl (by simp) ?_;simp;refine Gm QE rfl (xs:=xs) rfl (λb hb=>?_);cases b with
 |true=>
   have:xs=[]:=Classical.byContradiction λh=>by simpa using hb h
   subst this;simp;exact BA (by simpa using US.nil)
 |false=>
   simp;refine EG (by simp) ?_;simp;refine UQ QE (Zm.own (by simp) (by simp) (by simp)) rfl (by decide) (by decide) hxs (by simpa using hl) ?_;simp;exact BA (by simpa using US.app (by simp) (by simp) hxs rfl)
instance Nm(s_:aE):Con (Ee s_) prog 63 [.one (.d (.sl (s_.map GV.z)))] (λr=>.one (.fresh 0 3 (r.map GV.z))):=⟨λr hm=>Eg s_ r hm⟩
def VG(rows:List aE):aB ((List aE)):=
 Zd (λ(i2:Nat) (x2:aE) (s2:(List aE)) next_2=>Z1 (Ee x2) λv3=>Wn s2 [v3] λ_=>next_2 (s2++[v3])) (λ(s2:(List aE))=>some s2) rows 0 []
instance Z1b(rows:List aE):Con (VG rows) prog 59 [.one (.d (.sl (rows.map (Z7 GV.z))))] (λr=>.one (.d (.sl (r.map (Z7 GV.z))))):=by
 unfold VG;have l1:LH (σ:=(List aE)) 8 [6,7] [.g 3 1 (λs=>s.map (Z7 GV.z))]:=.intro;exact go 19 func59
def A7(t:E)(rows:List aE)(key:aE):aB (Int×Bool):=
 Zd (λ(i3:Nat) (x3:aE) (s3:Unit) next_3=>Z1 (VU t x3) λv4=>Z1 (Eh v4 key) λv5=>bif decide (0<=v5) then some ((i3:Int),(v5==0)) else next_3 ()) (λ(s3:Unit)=>some ((rows.length:Int),false)) rows 0 ()
instance Ey(t:E)(rows:List aE)(key:aE):Con (A7 t rows key) prog 64 [.agg t.z,.one (.d (.sl (rows.map (Z7 GV.z)))),.one (.d (.sl (key.map GV.z)))] (λr=>.tup [.one (.d (.int .i64 r.1)),.one (.d (.bool r.2))]):=by unfold A7;have l1:LH (σ:=Unit) 13 [1,2,3,11,12] []:=.intro;exact go 31 func64
def rowc(a:aE):C:=.d (.sl (a.map GV.z))
def K9(h b p)(d:Is (VG b) p)(K)
  (f:∀c a,MR a 1 c (Zw (p.map rowc))->Z0 h a []->(∀k∈Z c,h.p<=k.1/\k.1<a.p)->K (.one c) a):
  Z5 prog 59 [.l (b.map (Z7 GV.z))] h K:=by
 unfold VG at d;refine Z5.qM func59 rfl kR rfl rfl I ?_;simp;intro af;refine Z6.for (λi s e a=>∃c,En e 19 [(3,.one c),(6,.l (b.map (Z7 GV.z))),(7,.i b.length),(8,.i i)]/\MR a 1 c (Zw (s.map rowc))/\Z0 h a []/\∀k∈Z c,h.p<=k.1/\k.1<a.p) d ⟨.nil,I,by simpa[Zw] using MR.nil,.refl,by simp[Z]⟩ ?_ ?_;rintro i s e a ⟨c,j,r,q,m⟩ hlt d;have z:IntKind.i64.wrap ((i:Int)+1)=(i:Int)+1:=Y6 _ X;have⟨g,u,d⟩:=d.bind;have⟨v,d⟩:=d.chk;simp[j,hlt];refine Zx (Eg _ g u) I ?_;simp[j];have n:Z0 a ((a.qC (a.p,225) (some (g.length,3))).w.qC (a.p+1,240) (some (1,1))).w []:=((Z0.refl.qC).w.qC).w;refine Wl PG kR dE dE (r.frame λk f=>n.2 k (m k f).2 I) (Zr.qU rfl) (by simpa[Zw] using v) (λy h2 t o w=>?_);simp[j,z];have x:=(q.trans n).trans' o λk f=>.inr (m k f).1;refine Zj.of (s++[g]) ⟨⟨y,by simp[j],?_,x,λk f=>?_⟩,d⟩;simpa[Zw,rowc] using t;rcases w k f with h9|h9
 have:=m k h9
 have:=o.1
 simp at this;omega
 have:=q.1
 simp at h9;omega;rintro s e a ⟨c,j,r,q,m⟩ d;obtain rfl:=Zk d;simp[j];exact f _ _ r q m
def PR{h c}{rows:List aE}{e}(j:MR h 1 c (Zw e))(g:e.length=rows.length)(f:∀(i:Nat) r a,e[i]?=some r->rows[i]?=some a->r.toD=some (.sl (a.map GV.z))):Frz h c (.sl (rows.map (Z7 GV.z))):=by
 refine j.frz (by simp[Zw,g]) (λt b=>by obtain⟨y,_,rfl⟩:=Yi.1 b;rfl) (λi x t d b=>?_);simp only[Zw,Y9] at d b;cases hr:e[i]? with
 |none=>rw[hr] at d;cases d
 |some r=>?_
 cases hw:rows[i]? with
 |none=>rw[hw] at b;cases b
 |some a=>?_
 rw[hr] at d;rw[hw] at b;cases d;cases b;exact⟨.data (f i r a hr hw),trivial⟩
def Dr{h}{c:C}{a:List aE}(d:MR h 1 c (Zw (a.map rowc))):Frz h c (.sl (a.map (Z7 GV.z))):=
 PR d I λi r row b e=>by rw[Y9,e] at b;cases b;rfl
def PQ{h:HS}{l}{a i:Nat}{rs sp x}(f:(rs++sp).length=a*1)(b:rs.length<=2097152)(c:i<rs.length):MR (h.xV l (Zi (rs++sp) i [x])) 1 (.mrow l 0 rs.length a) (Zw (rs.set i x)):=by
 have d:rs++sp=rs.take i++(rs[i]::(rs.drop (i+1)++sp)):=by rw[<-Yt,<-YB c,<-Yz,Yy]
 have e:Zi (rs++sp) i [x]=rs.set i x++sp:=by rw[d,C6 sO,Xz,if_pos c];simp
 rw[e]
 have:=IX (h:=h.xV l (rs.set i x++sp)) (l:=l) (rs:=rs.set i x) (sp:=sp) I (by simp at f|-;omega) (sU b)
 simpa using this
def A5(t:E)(c:List aE)(b:aE):aB (List aE):=
 Z1 (VG c) λa=>Z1 (VU t b) λk=>Z1 (A7 t a k) λq=>bif q.2 then Zp (0<=q.1/\q.1<a.length) (some (a.set q.1.toNat b)) else Zp (0<=q.1/\q.1<=a.length/\a.length+1<=2097152) (some (a.take q.1.toNat++[b]++a.drop q.1.toNat))
def G1(t:E)(rows:List aE)(a:aE)(r:List aE)(f:Is (A5 t rows a) r):
  Zq prog 31 [.agg t.z,.l (rows.map (Z7 GV.z)),.l (a.map GV.z)] (.l (r.map (Z7 GV.z))):=by
 unfold A5 at f;refine Zq.of_heap ?_;show Z5 _ _ [.agg (t.z.map C.d),.l (rows.map (Z7 GV.z)),.l (a.map GV.z)] HS.init _;refine Z5.qM func31 rfl kR rfl rfl I ?_;have⟨d,P,f⟩:=f.bind;have⟨k,R,f⟩:=f.bind;have⟨q,S,f⟩:=f.bind;have⟨p,K⟩:=q;simp only at f;simp;refine Zc (K9 _ rows d P _ (λc F B L M=>?_));have N:=L.2 (0,48) I I;have Q:=L.1;simp at N Q;simp;refine Zx (Eg a a rfl) I ?_;simp;refine Z6.cu aQ (λe G=>En e 34 [(7,.one c),(8,.i p),(9,.b K),(2,.one (.own (F.p,209) (a.map GV.z)))]/\Z0 F G []) ?_ ?_;simp[N];refine Zx (Aa t a k R) I ?_;simp;refine⟨λ_ _ x=>x,Zc (Z5.qD (Ey t d k (p,K) S) ⟨.agg (ZI.qK (ds:=t.z)),.one (.frz (Dr (B.frame λl _=>?_))),.one (.frz (.data rfl)),trivial⟩ rfl ?_)⟩;rfl;simp;refine⟨λ_ _ x=>x,Ze.of ?_⟩;simp;exact((Z0.refl.qC).w).qC.w.w;rintro e G ⟨z,v⟩;simp[z];have u:=B.frame λl H=>v.2 l (M l H).2 I;cases K with|true=>?_|false=>?_;simp only[cond_true] at f;have⟨⟨U,V⟩,f⟩:=f.chk;obtain rfl:=Zk f;obtain⟨j,rfl⟩:∃n:Nat,p=n:=⟨p.toNat,X⟩;have A:j<d.length:=X
 obtain⟨l,cap,sp,rfl,O,g⟩:=u.block (by simp[Zw];omega);rw[GC] at O g;simp[z,O,A,Zw];have m:=PQ (h:=G) (l:=l) (x:=C.own (F.p,209) (a.map GV.z)) g (by have:=B.2.1;simpa[Zw] using this) (sU A)
 have:=PR (rows:=d.set j a) (sU m) I (λi r w o y=>?_)
 refine⟨by simp at g;omega,?_⟩;show Frz _ _ _;simpa[Z7] using this;rw[XW] at o y;by_cases D:j=i;subst D;simp[A] at o y;subst o y;rfl;rw[if_neg D,Y9] at o;rw[if_neg D] at y;rw[y] at o;cases o;rfl;simp only[cond_false] at f;have⟨⟨U,V,s⟩,f⟩:=f.chk;obtain rfl:=Zk f;obtain⟨j,rfl⟩:∃n:Nat,p=n:=⟨p.toNat,X⟩;simp[z];refine Zc (Z09 _ c (d.map rowc) _ [.sl (a.map GV.z)] j ?_ (λl H=>?_) sO ?_ rfl (sU s) _ (λc' h3 J _ _=>?_));exact u.frame λl _=>I
 have:=M l H
 have:=v.1
 simp;omega;simp;simp[z];have T:Zw ((d.map rowc).take j++[C.d (.sl (a.map GV.z))]++(d.map rowc).drop j)=Zw ((d.take j++[a]++d.drop j).map rowc):=by simp[rowc]
 have m:=T▸J
 have:=Dr m
 show Frz _ _ _;simpa[Z7] using this
def FY(t:E)(b:List aE)(c:aE):aB (List aE×Bool):=
 Z1 (VG b) λa=>Z1 (A7 t a c) λq=>bif q.2 then Zp (0<=q.1/\q.1<a.length) (some (a.take q.1.toNat++a.drop (q.1.toNat+1),true)) else some (a,false)
def Z14(t d)(f:aE)(r:List aE×Bool)(e:Is (FY t d f) r):
  Zq prog 32 [.agg t.z,.l (d.map (Z7 GV.z)),.l (f.map GV.z)] (.tup [.l (r.1.map (Z7 GV.z)),.b r.2]):=by
 unfold FY at e;refine Zq.of_heap ?_;show Z5 _ _ [.agg (t.z.map C.d),.l (d.map (Z7 GV.z)),.l (f.map GV.z)] HS.init _;refine Z5.qM func32 rfl kR rfl rfl I ?_;have⟨a,v,e⟩:=e.bind;have⟨q,x,e⟩:=e.bind;have⟨o,u⟩:=q;simp only at e;simp;refine Zc (K9 _ d a v _ (λc z j p _=>?_));have s:=p.2 (0,48) I I;have w:=p.1;simp at s w;simp[s];refine Zc (Z5.qD (Ey t a f (o,u) x) ⟨.agg (ZI.qK (ds:=t.z)),.one (.frz (Dr j)),.one (.frz (.data rfl)),trivial⟩ rfl ?_);have i:MR z.w 1 c (Zw (a.map rowc)):=j.frame λl _=>I
 simp;cases u with|true=>?_|false=>?_;simp only[cond_true] at e;have⟨⟨ag,ah⟩,e⟩:=e.chk;obtain rfl:=Zk e;obtain⟨h,rfl⟩:∃n:Nat,o=n:=⟨o.toNat,X⟩;have g:=j.2.1;rw[IE] at g;have A:IntKind.i64.wrap ((h:Int)+1)=((h+1:Nat):Int):=Y6 _ (by simp at g;omega);simp[A];refine Zc (Z0b _ c (Zw (a.map rowc)) h (h+1) i X (by simp[Zw];omega) _ (λc' h3 k _ _ _ _=>?_));have y:(Zw (a.map rowc)).take h++(Zw (a.map rowc)).drop (h+1)=Zw ((a.take h++a.drop (h+1)).map rowc):=by simp[Zw]
 have m:=y▸k
 have:=Dr m
 simp[ZS,ZK,ZX,W5];refine⟨?_,Frz.data rfl,trivial⟩;show Frz _ _ _;simpa[Z7] using this;simp only[cond_false] at e;obtain rfl:=Zk e;simp[ZS,ZK,ZX,W5];exact⟨Dr i,Frz.data rfl,trivial⟩
def Vw(inst:List J):aB ((List J)):=
 Zd (λ(i2:Nat) (x2:J) (s2:(List J)) next_2=>Z1 (VG x2.rows) λv4=>Wn s2 [(J.mk x2.u v4)] λ_=>next_2 (s2++[(J.mk x2.u v4)])) (λ(s2:(List J))=>some s2) inst 0 []
instance Ev(inst:List J):Con (Vw inst) prog 28 [.one (.d (.sl (inst.map J.z)))] (λr=>.one (.d (.sl (r.map J.z)))):=by
 unfold Vw;have l1:LH (σ:=(List J)) 8 [6,7] [.g 3 2 (λs=>s.map J.z)]:=.intro;have p1:PH [5] (Y.qB aJ .done):=.intro;exact go 23 func28
instance Zhx  :ConF (λx=>Vw x) prog (λx=>.one (.d (.sl (x.map J.z)))) (λr=>.one (.d (.sl (r.map J.z)))) 28 []:=⟨λx=>(Ev x)⟩
def FZ(h:HS)(c:C)(x:D)(b:List Z2):Prop:=∀a,(∀l∈b,a.a l=h.a l)->Frz a c x
def FZ.frame{h h':HS}{c:C}{x:D}{a:List Z2}(f:FZ h c x a)(g:∀l∈a,h'.a l=h.a l):FZ h' c x a:=λe d=>f e λl b=>(d l b).trans (g l b)
def Hj(h:HS)(b:aD)(c:aC)(d:List Z2):Prop:=∀a,(∀l∈d,a.a l=h.a l)->ZI a b c
def Hj.frame{h h':HS}{b:aD}{c:aC}{a:List Z2}(f:Hj h b c a)(i:∀l∈a,h'.a l=h.a l):Hj h' b c a:=λg e=>f g λl d=>(e l d).trans (i l d)
abbrev NQ:=aD×aC×List Z2
structure NR(h:HS)(n:Nat)(c:C)(qs:List NQ):Prop where
 mr:MR h n c (qs.map (·.1))
 el:∀q∈qs,Hj h q.1 q.2.1 q.2.2/\q.2.1.length=n
 lt:∀q∈qs,∀k∈q.2.2,k.1<h.p/\k∉Z c
 lc:∀k∈Z c,k.1<h.p
def NR.nil{h:HS}{n:Nat}:NR h n .nil []:=⟨MR.nil,I,I,by simp[Z]⟩
def NR.frame{h h':HS}{n:Nat}{c:C}{qs:List NQ}{f:List Z2}(r:NR h n c qs)(e:Z0 h h' f)(g:∀k∈Z c,k∉f)(i:∀q∈qs,∀k∈q.2.2,k∉f):NR h' n c qs:=
 ⟨r.mr.frame λl b=>e.2 l (r.lc l b) (g l b),λq a=>⟨(r.el q a).1.frame λl b=>e.2 l (r.lt q a l b).1 (i q a l b),(r.el q a).2⟩,λq a k d=>⟨Y4 (r.lt q a k d).1 e.1,(r.lt q a k d).2⟩,λk d=>Y4 (r.lc k d) e.1⟩
def NR.put{h:HS}{n:Nat}{l:Z2}{a:Nat}{qs:List NQ}{d:aD}(r:NR h n (.mrow l 0 qs.length a) qs)(hb:h.a l=some (Zb (qs.map (·.1)) d))(c:(Zb (qs.map (·.1)) d).length=a*n){k:Nat}(hk:k<qs.length){q:NQ}(o:q.1.length=n)(g:q.2.1.length=n)
  (i:Hj (h.xV l (Zb ((qs.set k q).map (·.1)) d)) q.1 q.2.1 q.2.2)(m:∀j∈q.2.2,j.1<h.p/\j≠l):NR (h.xV l (Zb ((qs.set k q).map (·.1)) d)) n (.mrow l 0 (qs.set k q).length a) (qs.set k q):=by
 have f:Zy n ((qs.set k q).map (·.1)):=by rw[YJ];exact r.mr.1.set o
 refine⟨⟨f,sU r.mr.2.1,.inr ⟨l,a,d,I,I,?_⟩⟩,λp e=>?_,λp e j b=>?_,λj b=>sU (r.lc j (by simpa[Z] using b))⟩;rw[V2 f,Yd,Xf,<-c,V2 r.mr.1,Yd];rcases YZ e with h1|rfl;refine⟨(r.el p h1).1.frame λj b=>?_,(r.el p h1).2⟩
 have:=(r.lt p h1 j b).2
 simp only[Z,Yj] at this;simp[this];exact⟨i,g⟩;rcases YZ e with h1|rfl;simpa[Z] using r.lt p h1 j b;simpa[Z] using m j b
def V4(x:J):aD:=[.d (.str x.u),.d (.sl (x.rows.map (Z7 GV.z)))]
def Z0w(h:HS)(a t:List J)(g:Is (Vw a) t)(K:V->HS->Prop)
  (p:∀c b,MR b 2 c (t.map V4)->Z0 h b []->(∀k∈Z c,h.p<=k.1/\k.1<b.p)->K (.one c) b):
  Z5 prog 28 [.l (a.map J.z)] h K:=by
 unfold Vw at g;refine Z5.ov func28 ?_;simp;intro ah;refine Z6.for (xs:=a) (s0:=[]) (λi s e b=>∃c,En e 23 [(3,.one c),(6,.l (a.map J.z)),(7,.i (a.length:Int)),(8,.i (i:Int))]/\MR b 2 c (s.map V4)/\Z0 h b []/\∀k∈Z c,h.p<=k.1/\k.1<b.p) g ⟨.nil,I,sU MR.nil,.refl,by simp[Z]⟩ ?_ ?_;rintro i s e b ⟨c,f,n,m,j⟩ hlt g;have L:IntKind.i64.wrap ((i:Int)+1)=(i:Int)+1:=Y6 _ X;have⟨d,y,g⟩:=g.bind;have⟨A,g⟩:=g.chk;simp[*];refine Z6.cu aJ (λv u=>∃o,Ek e v [(3,.one o)] [6,7,8]/\
  MR u 2 o ((s++[J.mk a[i].u d]).map V4)/\Z0 h u []/\∀k∈Z o,h.p<=k.1/\k.1<u.p) ?_ ?_
 simp[f];have z:Z0 b ((b.xV (b.p,80) [C.d (D.str empty),C.nil]).w.xV (b.p,80) [C.d (D.str a[i].u),C.d (D.sl (List.map (Z7 GV.z) a[i].rows))]) []:=((Z0.refl.xV (.inr I)).w).xV (.inr I);refine Zx (Z1b _ d y) I ?_;simp[f];have q:=((z.w.qC (l:=(b.p+1+1,304)) (x:=some (1,2))).w);refine⟨λ_ _ x=>x,Wl CB kR dE dE (n.frame λl E=>q.2 l (j l E).2 I) (Zr.qU rfl) (sU A) (λG H w r B=>?_)⟩;simp[f];refine Ze.of ?_;have F:Z0 h H []:=(m.trans q).trans' r λk p=>.inr (j k p).1;refine⟨G,by simp[f],by simpa[V4] using w,F,λk p=>?_⟩;rcases B k p with h9|h9
 have:=j k h9
 have:=r.1
 simp at this;omega
 have:=m.1
 simp at h9;omega;rintro e1 u ⟨o,hF,n,m,j⟩;have f:=hF.an f;simp[f,L];exact Zj.of (s++[J.mk a[i].u d]) ⟨⟨o,by simp[f],n,m,j⟩,g⟩;rintro s e b ⟨c,f,n,m,j⟩ g;obtain rfl:=Zk g;simp[f];exact p c b n m j
def BZ(t:E)(key:aE):aB Int:=
 bif ((key.length:Int) !=(t.pk.length:Int)) then some 3 else Zd (λ(i6:Nat) (x6:GV) (s6:Unit) next_6=>Z1 (WE x6) λv8=>bif (v8 !=0) then some v8 else Za t.pk (i6:Int) λx10=>Za t.j x10 λx11=>bif (x6.g !=x11.g) then some 7 else next_6 ()) (λ(s6:Unit)=>some 0) key 0 ()
instance Zh7(t:E)(key:aE):Con (BZ t key) prog 60 [.agg t.z,.one (.d (.sl (key.map GV.z)))] (λr=>.one (.d (.int .i64 r))):=by unfold BZ;have l1:LH (σ:=Unit) 16 [2,14,15] []:=.intro;have p1:PH [9] (Y.qB aI .done):=.intro;exact go 40 func60
def Et(s_:Sch)(c:Chg):aB Int:=
 bif (c.g==1) then bif decide (0<c.key.length) then some 3 else(bif (c.g==2) then bif decide (0<c.row.length) then some 3 else(bif (c.g !=1) then bif (c.g !=2) then some 3 else(Z1 (Wg s_ c.u) λv11=>bif !v11.2 then some 4 else Za s_.q v11.1 λx13=>Z1 (Aq x13 c.row) λv14=>some v14) else Z1 (Wg s_ c.u) λv15=>bif !v15.2 then some 4 else Za s_.q v15.1 λx17=>Z1 (Aq x17 c.row) λv18=>some v18) else bif (c.g !=1) then bif (c.g !=2) then some 3 else(Z1 (Wg s_ c.u) λv21=>bif !v21.2 then some 4 else Za s_.q v21.1 λx23=>Z1 (Aq x23 c.row) λv24=>some v24) else Z1 (Wg s_ c.u) λv25=>bif !v25.2 then some 4 else Za s_.q v25.1 λx27=>Z1 (Aq x27 c.row) λv28=>some v28) else bif (c.g==2) then bif decide (0<c.row.length) then some 3 else(bif (c.g !=1) then bif (c.g !=2) then some 3 else(Z1 (Wg s_ c.u) λv34=>bif !v34.2 then some 4 else Za s_.q v34.1 λx36=>Z1 (BZ x36 c.key) λv37=>some v37) else Z1 (Wg s_ c.u) λv38=>bif !v38.2 then some 4 else Za s_.q v38.1 λx40=>Z1 (BZ x40 c.key) λv41=>some v41) else bif (c.g !=1) then bif (c.g !=2) then some 3 else(Z1 (Wg s_ c.u) λv44=>bif !v44.2 then some 4 else Za s_.q v44.1 λx46=>Z1 (BZ x46 c.key) λv47=>some v47) else Z1 (Wg s_ c.u) λv48=>bif !v48.2 then some 4 else Za s_.q v48.1 λx50=>Z1 (BZ x50 c.key) λv51=>some v51
instance Z15(s_:Sch)(c:Chg):Con (Et s_ c) prog 29 [.agg s_.z,.agg c.z] (λr=>.one (.d (.int .i64 r))):=by unfold Et;have p1:PH [7,8] (Y.qB aG .done):=.intro;exact go 65 func29
def Z9p{h c}{a:List J}(e:MR h 2 c (a.map V4)):Frz h c (.sl (a.map J.z)):=
 e.frz I (λt b=>by obtain⟨y,_,rfl⟩:=Yi.1 b;rfl) λi x t d b=>by
  rw[Y9] at d b;cases hq:a[i]? with
  |none=>rw[hq] at d;cases d
  |some q=>?_
  rw[hq] at d b;cases d;cases b;exact⟨.data rfl,.data rfl,trivial⟩
def Fe{ρ:Type}(s:Sch)(x:Chg)(c:List J)(next:List J->aB ρ)(b:Int->aB ρ):aB ρ:=
 Z1 (Et s x) λe=>bif e !=0 then b e else Z1 (Wg s x.u) λq=>Za s.q q.1 λT=>Za c q.1 λo=>
  bif x.g==1 then Z1 (A5 T o.rows x.row) λa=>bif decide ((24:Int)<a.length) then b 2 else next (c.set q.1.toNat ⟨o.u,a⟩)
  else Z1 (FY T o.rows x.key) λd=>bif !d.2 then b 9 else next (c.set q.1.toNat ⟨o.u,d.1⟩)
def Co(s:Sch)(a:List J)(c:List Chg):aB (List J×Int):=
 Z1 (UE s) λe=>bif e !=0 then some ([],e) else Z1 (VE s a) λd=>bif d !=0 then some ([],d) else bif decide ((24:Int)<c.length) then some ([],2) else
 Z1 (Vw a) λf=>Zd (λ(_:Nat) (x:Chg) (b:List J) next=>Fe s x b next λe=>some ([],e)) (λb=>some (b,0)) c 0 f
def NO(s w)(B:List Chg)(r)(g:Is (Co s w B) r):
  Zq prog 10 [.agg s.z,.l (w.map J.z),.l (B.map Chg.z)] (.tup [.l (r.1.map J.z),.i r.2]):=by
 unfold Co at g;refine Zq.of_heap ?_;show Z5 _ _ [.agg (s.z.map C.d),.l (w.map J.z),.l (B.map Chg.z)] HS.init _;refine Z5.ov func10 ?_;have⟨ev,bf,g⟩:=g.bind;simp;refine Zx (K7 s ev bf) I ?_;simp;refine ZP g ?_ ?_<;>clear g<;>intro a7 g;obtain rfl:=Zk g;simp[a7,ZS,ZK,ZX,W5];exact⟨Frz.data rfl,Frz.data rfl,trivial⟩;have⟨bj,ar,g⟩:=g.bind;simp[a7];refine Zx (FT s w bj ar) I ?_;simp;refine ZP g ?_ ?_<;>clear g<;>intro az g;obtain rfl:=Zk g;simp[az,ZS,ZK,ZX,W5];exact⟨Frz.data rfl,Frz.data rfl,trivial⟩;simp[az];intro bz;refine ZP g ?_ ?_<;>clear g<;>intro ap g;obtain rfl:=Zk g;simp at ap;simp[ap,ZS,ZK,ZX,W5];exact⟨Frz.data rfl,Frz.data rfl,trivial⟩;simp at ap;have⟨au,ak,g⟩:=g.bind;have bt:¬(24<B.length):=X
 simp;refine Zc (Z0w _ w au ak _ (λc N L hs O=>?_));have M:=hs.2 (0,48) I I;have a1:=hs.1;simp at M a1;have Q:∀k∈Z c,1<=k.1/\k.1<N.p:=λk R=>by have:=O k R;simp at this;omega
 simp;intro _;refine Z6.for (xs:=B) (s0:=au) (λi a e h=>∃c,MR h 2 c (a.map V4)/\(∀k∈Z c,1<=k.1/\k.1<h.p)/\1<=h.p/\h.a (0,48)=some (s.z.map C.d)/\e.n=101/\
  e.get 3=.p (0,48)/\e.get 10=.one c/\e.get 34=.l (B.map Chg.z)/\e.get 35=.i (B.length:Int)/\e.get 36=.i (i:Int)) g ?_ ?_ ?_
 exact⟨c,L,Q,X,by simpa[Sch.z] using M,I,I,I,I,I,I⟩
 .clear g a7 az L Q O hs M a1 ak c N bf ar ap;rintro i a e h ⟨c,L,O,a1,M,t,K,u,P,G,F⟩ hlt g;have hw:IntKind.i64.wrap ((i:Int)+1)=(i:Int)+1:=Y6 _ X;generalize hNx:(λs'=>Zd (λ(_:Nat) (x:Chg) (a:List J) next=>Fe s x a next λe=>some ([],e)) (λa=>some (a,0)) (List.drop (i+1) B) (i+1) s')=nextN at g;have al:∀o',Is (nextN o') r->Is (Zd (λ(_:Nat) (x:Chg) (a:List J) next=>Fe s x a next λe=>some ([],e)) (λa=>some (a,0)) (List.drop (i+1) B) (i+1) o') r:=λo' h'=>by rw[<-hNx] at h';exact h'
  clear hNx;generalize hx:B[i]=x at g;unfold Fe at g;have⟨bn,bd,g⟩:=g.bind;simp only[Sch.z,Yb,Yf] at M;simp[t,K,P,G,F,M,hlt,hx];refine Zx (Z15 s x bn bd) I ?_;simp[t];refine ZP g ?_ ?_<;>clear g<;>intro bh g;obtain rfl:=Zk g;simp[t,bh,ZS,ZK,ZX,W5];exact⟨Frz.data rfl,Frz.data rfl,trivial⟩;have⟨q,bm,g⟩:=g.bind;have⟨qi,qb⟩:=q;have⟨T,bp,hT,g⟩:=g.get;have⟨o,_,ho,g⟩:=g.get;simp only at bp hT ho g;obtain⟨A,rfl⟩:∃n:Nat,qi=n:=⟨qi.toNat,X⟩;simp only[Yn] at hT ho g;simp[t,K,M,bh];refine Zx (AU s x.u _ bm) I ?_;simp[t,K,M,hT];have S:A<a.length:=(Y0.1 ho).1;have ba:(a.map V4)[A]?=some (V4 o):=by rw[Y9,ho];rfl
  obtain⟨l,E,sp,rfl,hb,W⟩:=L.block (by simp<;>omega);rw[Yd] at O L u;have bw:=Ah (sp:=sp) L.1 (k:=A) (by simp<;>omega);have ax:∀j:List aE,Zi (Zb (a.map V4) sp) (A*2+1) [.d (.sl (j.map (Z7 GV.z)))]=Zb ((a.set A ⟨o.u,j⟩).map V4) sp:=λj=>by rw[BK L.1 ba I,YJ];simp[Zi,V4]
  have bc:Zs 1 ((Zb (a.map V4) sp).drop (A*2+1))=some [.d (.sl (o.rows.map (Z7 GV.z)))]:=by have h9:=VH (sp:=sp) (f:=1) (m:=1) L.1 ba I;simpa[Zs,V4] using h9
  have bb:=(O l (by simp[Z])).2;have Q:=(O l (by simp[Z])).1;have aq:((0,48):Z2)≠l:=by rintro rfl;simp at Q
  have D:∀a:List J,Zy 2 (a.map V4):=λa y hy=>by obtain⟨z,_,rfl⟩:=Yi.1 hy;rfl
  have Y:∀(H:HS) (j:List aE),MR (H.xV l (Zb ((a.set A ⟨o.u,j⟩).map V4) sp)) 2 (.mrow l 0 a.length E) ((a.set A ⟨o.u,j⟩).map V4):=λH j=>
   ⟨D _,sU L.2.1,.inr ⟨l,E,sp,I,I,by rw[V2 (D _),<-W,V2 (D _)];simp⟩⟩
  have af:l≠(h.p,192):=by rintro rfl;simp at bb
  have ae:l≠(h.p+1+1+1,256):=by rintro rfl;simp at bb;omega
  have a8:Z0 h ((((h.xV (h.p,192) [.d (.int .i64 0),.d (.str empty),.nil,.nil]).w.xV (h.p,192) [.d (.int .i64 x.g),.d (.str x.u),.d (.sl (x.key.map GV.z)),.d (.sl (x.row.map GV.z))]).w.w.xV (h.p+1+1+1,256) [.d (.str empty),.nil,.nil]).w.xV (h.p+1+1+1,256) [.d (.str T.y),.d (.sl (T.j.map Col.z)),.d (.sl (T.pk.map Zg))]) []:=
   ((((Z0.refl.xV (.inr I)).w.xV (.inr I)).w.w).xV (.inr (by simp<;>omega))).w.xV (.inr (by simp<;>omega))
  refine ZP g ?_ ?_<;>clear g<;>intro bg g;have⟨j,ay,g⟩:=g.bind;simp[bg];refine Z6.cu aL (λv N=>∃H,Z0 h H []/\N=H.xV l (Zb ((a.set A ⟨o.u,j⟩).map V4) sp)/\1<=N.p/\v.n=101/\v.get 3=.p (0,48)/\v.get 10=.one (.mrow l 0 a.length E)/\v.get 14=.i (A:Int)/\v.get 34=.l (B.map Chg.z)/\v.get 35=.i (B.length:Int)/\v.get 36=.i (i:Int)) ?_ ?_;simp[t,u,S,hb,af,ae,bc];refine Zx (G1 T o.rows x.row j ay) I ?_;simp[t,S,hb,af,ae];refine⟨λ_ _ x=>x,X,Ze.of ?_⟩;rw[ax];exact⟨_,a8.w,rfl,by simp<;>omega,by simp[t],by simp[K],by simp[u],I,by simp[P],by simp[G],by simp[F]⟩;have bu:=u;clear t K u P G F;rintro v N ⟨H,V,rfl,aj,t,K,u,bi,P,G,F⟩;have aw:Zs 1 ((Zb ((a.set A ⟨o.u,j⟩).map V4) sp).drop (A*2+1))=some [.d (.sl (j.map (Z7 GV.z)))]:=by have h9:=VH (sp:=sp) (f:=1) (m:=1) (D (a.set A ⟨o.u,j⟩)) (k:=A) (x:=V4 ⟨o.u,j⟩) (by rw[Y9,Yr S];rfl) I;simpa[Zs,V4] using h9
  simp only[YJ] at aw;simp[t,u,bi,S,aw];intro br;refine ZP g ?_ ?_<;>clear g<;>intro U g;obtain rfl:=Zk g;simp at U;simp[t,u,U,ZS,ZK,ZX,W5];exact⟨Frz.data rfl,Frz.data rfl,trivial⟩;simp at U;have bv:¬(24<j.length):=X
  simp[t,u,F,hw];have bq:h.a (0,48)=some (s.z.map C.d):=M;have ao:=Y H j;exact Zj.of (a.set A ⟨o.u,j⟩) ⟨⟨.mrow l 0 a.length E,by simpa only[YJ] using ao,λk R=>⟨(O k R).1,by have:=(O k R).2;have:=V.1;simp<;>omega⟩,aj,by simp[aq];rwa [V.2 _ (by simp<;>omega) I],by simp[t],by simp[K],by simp[u],by simp[P],by simp[G],I⟩,al _ g⟩;have⟨d,hd,g⟩:=g.bind;simp[t,bg];refine Z6.cu [0,1,2,3,4,5,6,7,8,9,10,11,12,14,15,13,16,17] (λv N=>∃H,Z0 h H []/\N=H.xV l (Zb ((a.set A ⟨o.u,d.1⟩).map V4) sp)/\1<=N.p/\v.n=101/\v.get 3=.p (0,48)/\v.get 10=.one (.mrow l 0 a.length E)/\v.get 17=.b d.2/\v.get 34=.l (B.map Chg.z)/\v.get 35=.i (B.length:Int)/\v.get 36=.i (i:Int)) ?_ ?_;simp[t,u,S,hb,af,ae,bc];refine Zx (Z14 T o.rows x.key d hd) I ?_;simp[t,S,hb,af,ae];refine⟨λ_ _ x=>x,X,Ze.of ?_⟩;rw[ax];exact⟨_,a8.w,rfl,by simp<;>omega,by simp[t],by simp[K],by simp[u],I,by simp[P],by simp[G],by simp[F]⟩;clear t K u P G F;rintro v N ⟨H,V,rfl,aj,t,K,u,bk,P,G,F⟩;simp[t,bk];refine ZP g ?_ ?_<;>clear g<;>intro U g;obtain rfl:=Zk g;simp[t,U,ZS,ZK,ZX,W5];exact⟨Frz.data rfl,Frz.data rfl,trivial⟩;simp[t,F,hw,U];have bq:h.a (0,48)=some (s.z.map C.d):=M;have ao:=Y H d.1;exact Zj.of (a.set A ⟨o.u,d.1⟩) ⟨⟨.mrow l 0 a.length E,by simpa only[YJ] using ao,λk R=>⟨(O k R).1,by have:=(O k R).2;have:=V.1;simp<;>omega⟩,aj,by simp[aq];rwa [V.2 _ (by simp<;>omega) I],by simp[t],by simp[K],by simp[u],by simp[P],by simp[G],I⟩,al _ g⟩
 rintro a e h ⟨c,L,_,_,_,t,_,u,_,G,F⟩ g;obtain rfl:=Zk g;simp[t,u,G,F,ZS,ZK,ZX,W5];refine⟨?_,Frz.data rfl,trivial⟩;show Frz _ _ _;exact Z9p L
def ED(a):Z9 a a=true:=EJ.2 rfl
def Cl(a)(h:a.length<=1048576):Wp (VG a) λr=>r=a:=by
 unfold VG;refine X6 (λi s=>s=a.take i) I ?_ (λs g=>X2 (by rw[g,Yl]));intro i x s next c _ b f
 have hi:=(Y0.1 c).1;refine X0 ⟨x,rfl,rfl⟩ λy _ j=>?_;subst j;refine X8 (by rw[b];simp;omega) (f _ ?_);have⟨d,e⟩:=Y0.1 c;rw[Yg d,e,b]
def Cm(a)(h:a.length<=1048576)(j:∀x∈a,x.rows.length<=1048576):Wp (Vw a) λr=>r=a:=by
 unfold Vw;refine X6 (λi s=>s=a.take i) I ?_ (λs k=>X2 (by rw[k,Yl]));intro i x s next c f b g
 have hi:=(Y0.1 c).1;refine X0 (Cl x.rows (j x f)) λy _ l=>?_;subst l;refine X8 (by rw[b];simp;omega) (g _ ?_);have⟨d,e⟩:=Y0.1 c;rw[Yg d,e,b]
def Sf{a b:GV}(h:(!(a.g==b.g)||(!(a.int==b.int)||!(a.text==b.text)))=false):a=b:=by have⟨k,n,t⟩:=a;have⟨k',n',t'⟩:=b;simp only[Y38,Bool.not_eq_false',beq_iff_eq] at h;have⟨c,d,e⟩:=h;rw[c,d,Sj e]
def Qj{a b:Int}:0<WY a b↔b<a:=by
 unfold WY;split
 simp;omega
 split<;>simp[*]
def Zdt:∀{a b:List UInt8},0<Lib.compareBytes a b->Lib.compareBytes b a<0:=by
 intro a
 induction a with
 |nil=>intro b h;cases b<;>simp[Lib.compareBytes] at h
 |cons x a ih=>?_
 intro b h;cases b with
 |nil=>simp[Lib.compareBytes]
 |cons y b=>?_
 simp only[Lib.compareBytes,UInt8.lt_iff_toNat_lt] at h|-;split at h;simp at h;split at h;rw[if_pos X];decide;rw[if_neg X,if_neg X];exact ih h
def Zaf{a b}(h:0<Ws a b):Ws b a<0:=by rw[Rj];unfold Ws at h;by_cases h1:WY a.g b.g=0;have c:=Cv.1 h1;rw[if_neg (by simp[h1])] at h;by_cases h2:WY a.int b.int=0;have d:=Cv.1 h2;rw[if_neg (by simp[h2])] at h;exact .inr ⟨c.symm,.inr ⟨d.symm,Zdt h⟩⟩;rw[if_pos h2] at h;exact .inr ⟨c.symm,.inl (Qj.1 h)⟩;rw[if_pos h1] at h;exact .inl (Qj.1 h)
def Po(a):Ws a a=0:=by unfold Ws;rw[if_neg (by simp[WY]),if_neg (by simp[WY])];exact Rl _
def Qi:∀{a b:aE},0<ZO a b->ZO b a<0:=by
 intro a
 induction a with
 |nil=>intro b h;cases b<;>simp[ZO] at h
 |cons x a ih=>?_
 intro b h;cases b with
 |nil=>simp[ZO]
 |cons y b=>?_
 simp only[ZO] at h|-;by_cases e:Ws x y=0
 have:=Iy e
 subst this;rw[if_neg (by simp[e])] at h|-;exact ih h;rw[if_pos e] at h;have h2:=Zaf h
 rwa [if_pos X]
def Gs:∀{a b:aE},ZO a b=0->a=b:=by
 intro a
 induction a with
 |nil=>intro b h;cases b with
   |nil=>rfl
   |cons y b=>simp[ZO] at h
 |cons x a ih=>?_
 intro b h;cases b with
 |nil=>simp[ZO] at h
 |cons y b=>?_
 simp only[ZO] at h;by_cases e:Ws x y=0;rw[if_neg (by simp[e])] at h;rw[Iy e,ih h];rw[if_pos e] at h;exact absurd h e
structure Mid(T:E)(rows:List (List GV))(k:List GV)(a b os:List (List GV)):Prop where
 eq:rows=a++(os++b)
 lo:∀x∈a,ZO (Z3 T x) k<0
 hi:∀x∈b,ZO k (Z3 T x)<0
 os:os=[]\/∃o,os=[o]/\Z3 T o=k
def GT(T b d)(hT:T.pk.length<=6):Wp (A7 T b d) λq=>∃i:Nat,q.1=i/\i<=b.length/\(∀j a,j<i->b[j]?=some a->ZO (Z3 T a) d<0)/\
  (q.2=true->∃a,b[i]?=some a/\ZO (Z3 T a) d=0)/\(q.2=false->∀a,b[i]?=some a->0<ZO (Z3 T a) d):=by
 unfold A7;refine X6 (λi _=>∀j a,j<i->b[j]?=some a->ZO (Z3 T a) d<0) (by intro j r h;omega) ?_ ?_
 .intro i x _ next f _ e o
  refine X0 (Ua T x X) λk _ n=>?_;subst n;refine X0 (Kk _ _ (by simp[Z3];omega)) λc _ m=>?_;subst m;refine X1 (λh=>X2 ⟨i,rfl,by have:=(Y0.1 f).1;omega,e,λg=>⟨x,f,sU g⟩,λg a l=>?_⟩) λh=>o () (Ab e f ?_);rw[f] at l;cases l;have h1:0<=ZO (Z3 T x) d:=sU h;have h2:ZO (Z3 T x) d≠0:=sU g;omega
  have:¬(0<=ZO (Z3 T x) d):=sU h
  omega
 intro _ e;exact X2 ⟨b.length,rfl,Y7 _,e,λh=>by simp at h,λ_ a h=>by rw[Yq (Y7 _)] at h;cases h⟩
def QK{α:Type}{a:List α}{i:Nat}{p:α->Prop}(h:∀j x,j<i->a[j]?=some x->p x):∀x∈a.take i,p x:=by intro x c;obtain⟨j,b,rfl⟩:=Yo c;simp only[YA] at b;rw[XX];exact h j _ X (Y1 X)
def KM{T:E}{a k}{i:Nat}{o}(h:Wv T a)(d:∀j b,j<i->a[j]?=some b->ZO (Z3 T b) k<0)(m:a[i]?=some o)(c:ZO (Z3 T o) k=0):Mid T a k (a.take i) (a.drop (i+1)) [o]:=by
 have⟨f,g⟩:=Y0.1 m;have e:a.drop i=o::a.drop (i+1):=by rw[YB f,g]
 refine⟨by rw[Y00,<-e,Yy],QK d,λx n=>?_,.inr ⟨o,rfl,Gs c⟩⟩;have l:Wv T (o::a.drop (i+1)):=by rw[<-e];exact List.Pairwise.sublist (List.drop_sublist _ _) h
 have:=(YT.1 l).1 x n
 rwa [Gs c] at this
def Ln{T:E}{a k}{i:Nat}(h:Wv T a)(g:∀j b,j<i->a[j]?=some b->ZO (Z3 T b) k<0)(l:∀b,a[i]?=some b->0<ZO (Z3 T b) k):Mid T a k (a.take i) (a.drop i) []:=by
 refine⟨by rw[Yv,Yy],QK g,λx c=>?_,.inl rfl⟩;rcases Yx i a.length with h1|h1;have e:=YB h1;have d:=Qi (l _ (Y1 h1));have f:Wv T (a.drop i):=List.Pairwise.sublist (List.drop_sublist _ _) h;rw[e] at c f;rcases Y5.1 c with rfl|h3;exact d;exact Dn d ((YT.1 f).1 x h3);rw[YR h1] at c;cases c
def Mid.parts{T c k a b f}(h:Mid T c k a b f)(e:Wv T c):Wv T a/\Wv T b:=by rw[h.eq] at e;have d:=Y3q.1 e;exact⟨d.1,(Y3q.1 d.2.1).2.1⟩
def Mid.put{T c k d}{a b m:List aE}(h:Mid T c k a b m)(i:Wv T c)(j:Z3 T d=k):Wv T (a++d::b):=by
 have⟨f,g⟩:=h.parts i;subst j;refine Y3q.2 ⟨f,YT.2 ⟨h.hi,g⟩,λx e y l=>?_⟩;rcases Y5.1 l with rfl|h3;exact h.lo x e;exact Dn (h.lo x e) (h.hi y h3)
def Mid.del{T c k a b j}(h:Mid T c k a b j)(f:Wv T c):Wv T (a++b):=by
 have⟨d,e⟩:=h.parts f;exact Y3q.2 ⟨d,e,λx g y i=>Dn (h.lo x g) (h.hi y i)⟩
def Z8a(T c d)(m:T.pk.length<=6)(hl:c.length<=24)(j:Wv T c):Wp (A5 T c d) λf=>∃a b w,Mid T c (Z3 T d) a b w/\f=a++d::b:=by
 unfold A5;refine X0 (Cl c X) λo _ s=>?_;subst s;refine X0 (Ua T d X) λk _ r=>?_;subst r;refine X0 (GT T o _ m) λq _ t=>?_;have⟨i,p,ab,g,u,n⟩:=t;rw[p];refine X1 (λh=>?_) λh=>?_;have⟨x,l,v⟩:=u h;have e:=(Y0.1 l).1;refine X4 ⟨X,X⟩ (X2 ⟨_,_,_,KM j g l v,?_⟩);rw[Yn,Xz,if_pos e];refine X4 ⟨X,X,X⟩ (X2 ⟨_,_,_,Ln j g (n h),?_⟩);simp
def Z8c(T c d)(j:T.pk.length<=6)(hl:c.length<=24)(k:Wv T c):Wp (FY T c d) λq=>q.2=true->∃a b o,Mid T c d a b [o]/\q.1=a++b:=by
 unfold FY;refine X0 (Cl c X) λo _ m=>?_;subst m;refine X0 (GT T o _ j) λq _ n=>?_;have⟨i,l,_,f,p,_⟩:=n;rw[l];refine X1 (λh=>?_) λ_=>X2 λg=>by simp at g
 have⟨x,e,r⟩:=p h;have hlt:=(Y0.1 e).1;exact X4 ⟨X,X⟩ (X2 λ_=>⟨_,_,_,KM k f e r,rfl⟩)
structure CS(S:Sch)(c:Chg)(out out':List J)(k:Nat)(T:E)(o:J)(rows:List (List GV)):Prop where
 ft:Wg S c.u=some ((k:Int),true)
 t:S.q[k]?=some T
 nm:Z9 T.y c.u=true
 ok:out[k]?=some o
 eq:out'=out.set k ⟨o.u,rows⟩
 up:c.g=1->CR T c.row/\∃a b os,Mid T o.rows (Z3 T c.row) a b os/\rows=a++c.row::b
 dl:c.g≠1->∃a b x,Mid T o.rows c.key a b [x]/\rows=a++b
 vd:Et S c=some 0
def CF.set{S d}{k:Nat}{T o b}(h:CF S d)(j:S.q[k]?=some T)(l:d[k]?=some o)(p:b.length<=24)(q:∀row∈b,CR T row)(m:Wv T b):CF S (d.set k ⟨o.u,b⟩):=by
 have e:∀(i:Nat) (x:J),(d.set k ⟨o.u,b⟩)[i]?=some x->(i=k/\x=⟨o.u,b⟩)\/(i≠k/\d[i]?=some x):=λi x c=>by
  rw[XW] at c;by_cases hk:k=i;subst hk
  have:=(Y0.1 l).1
  simp[this] at c;exact .inl ⟨rfl,c.symm⟩;rw[if_neg hk] at c;exact .inr ⟨λh=>hk h.symm,c⟩
 refine⟨sU h.len,λi x g c a=>?_,λx c=>?_,λi x g c a=>?_,λi x g c a=>?_⟩;rcases e i x c with⟨rfl,rfl⟩|⟨_,f⟩;exact h.y i o g l a;exact h.y i x g f a;obtain⟨i,n,rfl⟩:=Yo c;rcases e i _ (Y1 n) with⟨_,f⟩|⟨_,f⟩;rw[f];exact p;exact h.l24 _ (Y2 f);rcases e i x c with⟨rfl,rfl⟩|⟨_,f⟩;rw[j] at a;cases a;exact q;exact h.row i x g f a;rcases e i x c with⟨rfl,rfl⟩|⟨_,f⟩;rw[j] at a;cases a;exact m.asc;exact h.asc i x g f a
def Z1z{T}(d:VT T)(a):Wp (BZ T a) λ_=>True:=by
 unfold BZ;refine X1 (λ_=>X2 trivial) λh=>X6 (λ_ _=>True) trivial ?_ λ_ _=>X2 trivial;intro i x _ next f _ _ e
 have hl:a.length=T.pk.length:=by simp at h;omega
 have hi:=(Y0.1 f).1;have c:T.pk[i]?=some T.pk[i]:=Y1 X;have b:=d.pk _ (Y2 c);refine X0 (Eu _) λ_ _ _=>X1 (λ_=>X2 trivial) λ_=>X5 c (X3 b.1 b.2 λ_ _ _=>X1 (λ_=>X2 trivial) λ_=>e () trivial)
def Z3w{S}(s:VS S)(c):Wp (Et S c) λe=>e=0->∃(k:Nat) (T:E),Wg S c.u=some ((k:Int),true)/\S.q[k]?=some T/\Z9 T.y c.u=true/\(c.g=1->CR T c.row):=by
 have n:∀(K:E->aB Int),(∀T∈S.q,Wp (K T) λe=>e=0->c.g=1->CR T c.row)->Wp (Z1 (Wg S c.u) λv=>bif !v.2 then some 4 else Za S.q v.1 λx=>K x) λe=>e=0->∃(k:Nat) (T:E),Wg S c.u=some ((k:Int),true)/\S.q[k]?=some T/\Z9 T.y c.u=true/\(c.g=1->CR T c.row):=λK r=>by
  refine X0 (UH S c.u) λv q m=>X7 λh=>?_;have o:v.2=true:=sU h;have⟨l,T0,p,t⟩:=m.2.1 o;refine X3 m.1 l λT b i=>(r T i).mono λe _ j g=>⟨v.1.toNat,T,?_,b,?_,j g⟩;rw[q,Int.toNat_of_nonneg m.1,<-o];rw[p] at b;cases b;exact t
 have d:=n (λx=>Z1 (Aq x c.row) λv=>some v) λT _=>X0 (NT T c.row) λe _ j=>X2 λg _=>j g;have f:c.g≠1->_:=λh=>n (λx=>Z1 (BZ x c.key) λv=>some v) λT b=>X0 (Z1z (s.tab T b) c.key) λ_ _ _=>X2 λ_ a=>absurd a h;unfold Et;refine X1 (λ_=>X7 λ_=>X1 (λ_=>X7 λ_=>X1 (λ_=>X7 λ_=>d) λ_=>d) λ_=>X1 (λ_=>X7 λ_=>d) λ_=>d) λh=>?_;have a:c.g≠1:=sU h;exact X1 (λ_=>X7 λ_=>X1 (λ_=>X7 λ_=>f a) λ_=>f a) λ_=>X1 (λ_=>X7 λ_=>f a) λ_=>f a
def Ze0{ρ:Type}{Q:ρ->Prop}{S:Sch}(G:VS S)(c:Chg)(f:List J)(p:CF S f)(next)(s)(A:∀e,e≠0->Wp (s e) Q)
  (H:∀g k T o n,CS S c f g k T o n->CF S g->Wp (next g) Q):Wp (Fe S c f next s) Q:=by
 unfold Fe;refine X0 (Z3w G c) λe E L=>X1 (λh=>A e (sU h)) λI=>?_;obtain rfl:e=0:=sU I;have⟨k,T,w,l,F,C⟩:=L rfl;rw[w];show Wp (Za S.q (k:Int) _) _;have hk:=(Y0.1 l).1;have ak:=p.len;have m:f[k]?=some f[k]:=Y1 X;generalize f[k]=o at m;have B:=G.tab T (Y2 l);have D:=p.l24 o (Y2 m);have t:=(p.asc k o T m l).pw;have u:=p.row k o T m l;refine X5 l (X5 m (X1 (λy=>?_) λy=>?_));have r:c.g=1:=sU y;refine X0 (Z8a T o.rows c.row B.pk6 D t) λn _ q=>X1 (λ_=>A 2 dE) λz=>?_;obtain⟨a,b,M,j,rfl⟩:=q;refine H _ k T o _ ⟨w,l,F,m,rfl,λ_=>⟨C r,a,b,M,j,rfl⟩,λh=>absurd r h,E⟩ (p.set l m (by simp at z;simp;omega) (λi q=>?_) (j.put t rfl));rcases Y3.1 q with h3|h3;exact u i (by rw[j.eq];simp[h3]);rcases Y5.1 h3 with rfl|h4;exact C r;exact u i (by rw[j.eq];simp[h4]);have r:c.g≠1:=sU y;refine X0 (Z8c T o.rows c.key B.pk6 D t) λd _ K=>X1 (λ_=>A 9 dE) λz=>?_;have⟨a,b,x,j,v⟩:=K (sU z);have al:(a++b).length<=24:=by
  have:=congrArg List.length j.eq
  simp at this;simp;omega
 refine H _ k T o _ ⟨w,l,F,m,rfl,λh=>absurd h r,λ_=>⟨a,b,x,j,v⟩,E⟩ (p.set l m (by rwa [v]) (λi q=>?_) (by rw[v];exact j.del t));rw[v] at q;rcases Y3.1 q with h3|h3;exact u i (by rw[j.eq];simp[h3]);exact u i (by rw[j.eq];simp[h3])
inductive Runs(S:Sch)(o:List J):List Chg->List J->Prop
 |nil:Runs S o [] o
 |snoc {cs:List Chg} {o' o'':List J} {c:Chg} {k:Nat} {T:E} {x:J} {rows:List (List GV)} (h:Runs S o cs o') (s:CS S c o' o'' k T x rows):Runs S o (cs++[c]) o''
def Z3x{S:Sch}(g:VS S)(a)(j):Wp (Co S a j) λq=>q.2=0->CF S a/\VE S a=some 0/\CF S q.1/\Runs S a j q.1:=by
 unfold Co;rw[g.ok];show Wp (Z1 (VE S a) _) _;refine X0 (Cp S (λT y=>(g.tab T y).pk6) a) λe s m=>X1 (λh=>X2 λd=>by simp only at d;rw[d] at h;cases h) λd=>?_;obtain rfl:e=0:=sU d;have f:=m rfl;have hl:=f.len;have h6:=g.t6;refine X7 λ_=>X0 (Cm a X λx B=>by have:=f.l24 x B;omega) λo _ A=>?_;subst A;refine X6 (λi b=>CF S b/\Runs S o (j.take i) b) ⟨f,sU Runs.nil⟩ ?_ λb n=>X2 λ_=>⟨f,s,n.1,sU n.2⟩;rintro i c b next z _ ⟨t,u⟩ hn
 refine Ze0 g c b t _ _ (λe m=>X2 λh=>absurd h m) λp k T x rows l r=>hn p ⟨r,?_⟩;have⟨v,w⟩:=Y0.1 z;rw[Yg v,w];exact .snoc u l
end
end Go.Am
section
namespace Go.Am
section
variable{α β:Type}
def ZJ(κ:α->aE)(c:List α):Prop:=c.Pairwise λa b=>ZO (κ a) (κ b)<0
def Gt(a:aE):ZO a a=0:=by
 have b:¬ZO a a<0:=λh=>by
  induction a with
  |nil=>simp[ZO] at h
  |cons x xs ih=>?_
  simp only[ZO,Po] at h;exact ih (sU h)
 have h2:¬0<ZO a a:=λh=>b (Qi h);omega
def Uu{a:aE}:¬ZO a a<0:=by rw[Gt];omega
def ZJ.ext{κ:α->aE}:∀{a b:List α},ZJ κ a->ZJ κ b->(∀x,x∈a↔x∈b)->a=b
 |[],[],_,_,_=>rfl
 |[],y::_,_,_,h=>absurd ((h y).2 (Y8 ..)) (by simp)
 |x::_,[],_,_,h=>absurd ((h x).1 (Y8 ..)) (by simp)
 |x::xs,y::ys,i,j,h=>by
   have f:=YT.1 i;have c:=YT.1 j;have g:x=y:=by rcases Y5.1 ((h x).1 (Y8 ..)) with e|e;exact e;rcases Y5.1 ((h y).2 (Y8 ..)) with e2|e2;exact e2.symm;exact absurd (Dn (f.1 y e2) (c.1 x e)) Uu
   subst g;rw[ZJ.ext f.2 c.2 λz=>⟨λd=>?_,λd=>?_⟩];rcases Y5.1 ((h z).1 (Yc _ d)) with e|e;subst e;exact absurd (f.1 z d) Uu;exact e;rcases Y5.1 ((h z).2 (Yc _ d)) with e|e;subst e;exact absurd (c.1 z d) Uu;exact e
def ZJ.inj{κ:α->aE}:∀{c:List α},ZJ κ c->∀{a b:α},a∈c->b∈c->κ a=κ b->a=b
 |[],_,_,_,h,_,_=>absurd h (by simp)
 |x::xs,g,a,b,e,f,he=>by have d:=YT.1 g;rcases Y5.1 e with e1|e1<;>rcases Y5.1 f with e2|e2;rw[e1,e2];subst e1;exact absurd (d.1 b e2) (by rw[he];exact Uu);subst e2;exact absurd (d.1 a e1) (by rw[he];exact Uu);exact ZJ.inj d.2 e1 e2 he
def ZJ.map{κ:α->aE}{κ':β->aE}{f:α->β}{a:List α}(e:ZJ κ a)(b:∀r∈a,κ' (f r)=κ r):ZJ κ' (a.map f):=by
 unfold ZJ;rw[Y05];exact e.imp_of_mem λc d h=>by rw[b _ c,b _ d];exact h
def ZJ.filterMap{κ:α->aE}{κ':β->aE}{f:α->aB β}{a:List α}(h:ZJ κ a)(b:∀r∈a,∀x,f r=some x->κ' x=κ r):ZJ κ' (a.filterMap f):=by
 induction a with
 |nil=>exact List.Pairwise.nil
 |cons r rs ih=>?_
 have c:=YT.1 h;have d:=ih c.2 λr j=>b r (Yc _ j);rw[XH];cases i:f r with
 |none=>exact d
 |some x=>?_
 refine YT.2 ⟨λy k=>?_,d⟩;have⟨z,e,g⟩:=YS.1 k;rw[b r (Y8 ..) x i,b z (Yc _ e) y g];exact c.1 z e
def ZJ.filter{κ:α->aE}{p:α->Bool}{a:List α}(b:ZJ κ a):ZJ κ (a.filter p):=List.Pairwise.filter p b
def ZR(κ:α->aE)(a:List α)(k:aE):aB α:=a.find? λr=>ZO (κ r) k==0
def Ut{κ:α->aE}{a:List α}{k:aE}{r:α}(h:ZR κ a k=some r):r∈a/\κ r=k:=
 ⟨Y37 h,Gs (by have:=List.find?_some h;simpa using this)⟩
def Cs{κ:α->aE}{a:List α}{k:aE}:ZR κ a k=none↔∀r∈a,κ r≠k:=by
 unfold ZR;rw[Y3l];exact⟨λh r b e=>h r b (by rw[e,Gt];rfl),λh r b e=>h r b (Gs (sU e))⟩
def Z7i{κ:α->aE}{a:List α}(c:ZJ κ a){r:α}(b:r∈a):ZR κ a (κ r)=some r:=by
 cases h:ZR κ a (κ r) with
 |none=>exact absurd rfl (Cs.1 h r b)
 |some x=>rw[c.inj (Ut h).1 b (Ut h).2]
def I4{κ:α->aE}{κ':β->aE}{c:α->aB β}{a:List α}(l:ZJ κ a)(i:∀r∈a,∀e,c r=some e->κ' e=κ r){r:α}(d:r∈a):ZR κ' (a.filterMap c) (κ r)=c r:=by
 cases h:ZR κ' (a.filterMap c) (κ r) with|none=>?_|some e=>?_;cases f:c r with
 |none=>rfl
 |some e=>exact absurd (i r d e f) (Cs.1 h e (YS.2 ⟨r,d,f⟩))
 have⟨k,g⟩:=Ut h;have⟨z,j,b⟩:=YS.1 k;rw[i z j e b] at g;rw[l.inj j d g] at b;exact b.symm
end
end Go.Am
end
section
namespace Go.Am
section
abbrev Z8:=aE
def BI{α β:Type}{f g:α->aB β}:∀{a:List α},(∀x∈a,f x=g x)->a.filterMap f=a.filterMap g
 |[],_=>rfl
 |x::a,h=>by
   rw[XH,XH,h x (Y8 ..),BI λy b=>h y (Yc _ b)]
structure ColL(κ κ' κc:Z8->List GV)(F G:Option Z8->Z8->Z8×Option Z8)(V V' VC:Z8->Prop)(R:Z8->Option Z8->Z8->Prop):Prop where
 fok:∀r o,V r->(∀e,o=some e->VC e/\κc e=κ r)->R r (F o r).2 (F o r).1
 gok:∀r o,V' r->(∀e,o=some e->VC e/\κc e=κ' r)->R (G o r).1 (G o r).2 r
 fR:∀{r c r'},R r c r'->F c r=(r',c)
 gR:∀{r c r'},R r c r'->G c r'=(r,c)
 key:∀{r c r'},R r c r'->κ' r'=κ r/\∀e,c=some e->κc e=κ r
 val:∀{r c r'},R r c r'->V r/\V' r'/\∀e,c=some e->VC e
def UV(F:aB Z8->Z8->Z8×aB Z8)(κ κc:Z8->aE)(rows comp:List Z8):List Z8×List Z8:=
 (rows.map λr=>(F (ZR κc comp (κ r)) r).1,rows.filterMap λr=>(F (ZR κc comp (κ r)) r).2)
def CY(R:Z8->aB Z8->Z8->Prop)(κ:Z8->aE)(rows comp rows':List Z8):Prop:=
 ∃a:List (Z8×aB Z8×Z8),(∀t∈a,R t.1 t.2.1 t.2.2)/\ZJ (λt=>κ t.1) a/\rows=a.map (·.1)/\comp=a.filterMap (·.2.1)/\rows'=a.map (·.2.2)
variable{κ κ' κc:Z8->aE}{F G:aB Z8->Z8->Z8×aB Z8}{V V' VC:Z8->Prop}{R:Z8->aB Z8->Z8->Prop}{rows comp rows':List Z8}
def ColL.symm(h:ColL κ κ' κc F G V V' VC R):ColL κ' κ κc G F V' V VC (λa c b=>R b c a) where
 fok:=h.gok
 gok:=h.fok
 fR:=h.gR
 gR:=h.fR
 key:=λd=>⟨(h.key d).1.symm,λe f=>by rw[(h.key d).1];exact(h.key d).2 e f⟩
 val:=λd=>⟨(h.val d).2.1,(h.val d).1,(h.val d).2.2⟩
def CY.symm(h:ColL κ κ' κc F G V V' VC R)(g:CY R κ rows comp rows'):CY (λa c b=>R b c a) κ' rows' comp rows:=by
 obtain⟨j,e,f,rfl,rfl,rfl⟩:=g;refine⟨j.map λt=>(t.2.2,t.2.1,t.1),λt d=>?_,?_,?_,?_,?_⟩;obtain⟨u,i,rfl⟩:=Yi.1 d;exact e u i;exact ZJ.map f λt d=>(h.key (e t d)).1;rw[YY];rfl;rw[Y33];rfl;rw[YY];rfl
def ColL.ok(h:ColL κ κ' κc F G V V' VC R)(b:ZJ κ rows)(g:∀r∈rows,V r)(c:∀e∈comp,VC e):CY R κ rows (UV F κ κc rows comp).2 (UV F κ κc rows comp).1:=by
 refine⟨rows.map λr=>(r,(F (ZR κc comp (κ r)) r).2,(F (ZR κc comp (κ r)) r).1),λt f=>?_,ZJ.map b λr _=>rfl,?_,?_,?_⟩;obtain⟨r,d,rfl⟩:=Yi.1 f;exact h.fok r _ (g r d) λe a=>⟨c e (Ut a).1,(Ut a).2⟩;rw[YY]
 conv=>lhs;rw[<-Y3u rows]
 rfl;rw[Y33];rfl;rw[YY];rfl
def ColL.fix(h:ColL κ κ' κc F G V V' VC R)(i:CY R κ rows comp rows'):UV F κ κc rows comp=(rows',comp):=by
 obtain⟨f,b,g,rfl,rfl,rfl⟩:=i;have d:∀t∈f,F (ZR κc (f.filterMap (·.2.1)) (κ t.1)) t.1=(t.2.2,t.2.1):=λt a=>by
  rw[I4 (κ:=λt:Z8×aB Z8×Z8=>κ t.1) (κ':=κc) (c:=λt=>t.2.1) g (λt a e j=>(h.key (b t a)).2 e j) a];exact h.fR (b t a)
 unfold UV;rw[YY,Y33]
 congr 1
 exact YN λt a=>by simp only[Function.comp_def];rw[d t a]
 exact BI λt a=>by simp only[Function.comp_def];rw[d t a]
def CY.right(h:ColL κ κ' κc F G V V' VC R)(g:CY R κ rows comp rows'):ZJ κ' rows'/\(∀r∈rows',V' r)/\rows'.length=rows.length/\ZJ κc comp/\(∀e∈comp,VC e)/\comp.length<=rows.length:=by
 obtain⟨ts,b,d,rfl,rfl,rfl⟩:=g;refine⟨ZJ.map d λt a=>(h.key (b t a)).1,λr i=>?_,I,ZJ.filterMap d λt a e c=>(h.key (b t a)).2 e c,λe c=>?_,?_⟩;obtain⟨t,a,rfl⟩:=Yi.1 i;exact(h.val (b t a)).2.1;have⟨t,a,f⟩:=YS.1 c;exact(h.val (b t a)).2.2 e f;rw[Yd];exact List.length_filterMap_le _ _
end
end Go.Am
end
namespace Go.Am
section
def WJ(M:Mp)(b a:C):aD:=M.z.map C.d++[b,a,.d (.int .i64 M.err)]
def MR.lenK{h:HS}{n:Nat}{c:C}{b:List aD}{f:Nat->Prop}(m:MR h n c b)(a:f b.length):lenK c (k:=⟨f⟩):=by rcases m.2.2 with⟨rfl,rfl|rfl⟩|⟨l,cap,sp,rfl,-⟩;simpa using a;simpa using a;simpa using a
def VZ(h:HS)(c:C)(a:List J):Prop:=∃xs:List aD,MR h 2 c xs/\xs.map ZB=a.map λr=>some r.z
structure MpAt(h:HS)(l:Z2)(co cn:C)(M:Mp):Prop where
 a:h.a l=some (WJ M co cn)
 out:VZ h co M.out
 nc:VZ h cn M.nc
 lt:∀k∈l::(Z co++Z cn),k.1<h.p
 nl:l∉Z co/\l∉Z cn/\∀k∈Z co,k∉Z cn
def VZ.len{h:HS}{c:C}{j:List J}(r:VZ h c j):∃f:List aD,MR h 2 c f/\(f.map ZB=j.map λr=>some r.z)/\f.length=j.length/\∀(i:Nat) r,j[i]?=some r->∃l,f[i]?=some [.d (.str r.u),l]/\l.toD=some (.sl (r.rows.map (Z7 GV.z))):=by
 have⟨f,m,k⟩:=r;refine⟨f,m,k,by have:=congrArg List.length k;simpa using this,λi r o=>?_⟩;have g:=congrArg (λz=>z[i]?) k;simp only[Y9,o,Yp] at g;cases hx:f[i]? with
 |none=>rw[hx] at g;cases g
 |some x=>?_
 rw[hx] at g;have e:ZB x=some r.z:=Option.some.inj g;have n:x.length=2:=m.1 x (Y2 hx)
 match x,n with
 |[a,b],_=>
   simp only[ZB,J.z] at e;cases ha:a.toD with
   |none=>rw[ha] at e;cases e
   |some a'=>
     cases hb:b.toD with
     |none=>rw[ha,hb] at e;cases e
     |some b'=>
       rw[ha,hb] at e;simp at e;refine⟨b,?_,by rw[hb,e.2]⟩
       have:a=.d (.str r.u):=by
        obtain⟨rfl,rfl⟩:=e;cases a with
        |d x=>simp[C.toD] at ha;rw[ha]
        |_=>simp[C.toD] at ha
       rw[this]
def VZ.frame{h h':HS}{c:C}{a:List J}(r:VZ h c a)(b:∀l∈Z c,h'.a l=h.a l):VZ h' c a:=by have⟨e,m,d⟩:=r;exact⟨e,m.frame b,d⟩
def VZ.frz{h:HS}{c:C}{b:List J}(r:VZ h c b):Frz h c (.sl (b.map J.z)):=by
 obtain⟨xs,m,-,g,f⟩:=r.len;refine m.frz (by simp[g]) (λt a=>by obtain⟨y,_,rfl⟩:=Yi.1 a;rfl) λi x t j a=>?_;rw[Y9] at a;cases hq:b[i]? with
 |none=>rw[hq] at a;cases a
 |some q=>?_
 rw[hq] at a;cases a;have⟨c',d,e⟩:=f i q hq;rw[j] at d;cases d;exact⟨.data rfl,.data e,trivial⟩
def MpAt.frame{h h':HS}{l:Z2}{d c:C}{M:Mp}(m:MpAt h l d c M)(b:Z0 h h' []):MpAt h' l d c M:=
 ⟨by rw[b.2 l (m.lt l I) I];exact m.a,m.out.frame λk a=>b.2 k (m.lt k (by simp[a])) I,m.nc.frame λk a=>b.2 k (m.lt k (by simp[a])) I,
  λk a=>Y4 (m.lt k a) b.1,m.nl⟩
def Zt(t:aA)(a:List aE)(b:List J):List J:=b.map λr=>bif Z9 r.u t then⟨r.u,a⟩ else r
def Vz{t:aA}{b:List aE}{a:List J}:(Zt t b a).length=a.length:=by simp[Zt]
def Z74{t:aA}{b:List aE}{a:List J}{i:Nat}(e:i<a.length):
  (Zt t b (a.take i)++a.drop i)[i]?=some a[i]/\Zt t b (a.take (i+1))++a.drop (i+1)=bif Z9 a[i].u t then(Zt t b (a.take i)++a.drop i).set i ⟨a[i].u,b⟩ else Zt t b (a.take i)++a.drop i:=by
 have c:(Zt t b (a.take i)).length=i:=by rw[Vz,YA];omega
 have f:a.take (i+1)=a.take i++[a[i]]:=by rw[List.take_add_one];simp[e]
 have d:a.drop i=a[i]::a.drop (i+1):=YB e;refine⟨by rw[YC X,c,d];simp,?_⟩;rw[f];have g:Zt t b (a.take i++[a[i]])=Zt t b (a.take i)++[bif Z9 a[i].u t then⟨a[i].u,b⟩ else a[i]]:=by simp only[Zt,YL,Yb,Yf]
 rw[g,d];cases Z9 a[i].u t with
 |true=>simp only[cond_true];rw[List.set_append_right _ _ X,c,Y3f,List.set_cons_zero,Yz];rfl
 |false=>simp
def IW{l}{n e i:Nat}{c k}{m:List J}{r:J}{o f b}(a:Zy 2 c)(h:c.length=n)(j:c.length<=Zz)(g:(Zb c k).length=e*2)
  (u:c[i]?=some [.d (.str r.u),o])(s:f.toD=some (.sl (b.map (Z7 GV.z))))(q:c.map ZB=m.map λr=>some r.z)(H:HS):
  VZ (H.xV l (Zi (Zb c k) (i*2+1) [f])) (.mrow l 0 n e) (m.set i ⟨r.u,b⟩):=by
 have t:Zi (Zb c k) (i*2+1) [f]=Zb (c.set i [.d (.str r.u),f]) k:=by rw[BK a u I];simp[Zi]
 rw[t];refine⟨c.set i [.d (.str r.u),f],⟨a.set I,sU j,.inr ⟨l,e,k,by simp[h],I,?_⟩⟩,?_⟩;rw[V2 (a.set I),Xf,<-g,V2 a];rw[YJ,YJ,q];have p:ZB [.d (.str r.u),f]=some [.str r.u,.sl (b.map (Z7 GV.z))]:=by simp only[ZB,s];rfl
 rw[p];simp[J.z]
def Pk{ρ:Type}{t b}{k:List J->aB ρ}{a}:
  Zd (λi x s next=>bif Z9 x.u t then next (s.set i ⟨x.u,b⟩) else next s) k a 0 a=k (Zt t b a):=by
 have e:∀m i,a.length-i=m->i<=a.length->Zd (λi x s next=>bif Z9 x.u t then next (s.set i ⟨x.u,b⟩) else next s) k (a.drop i) i (Zt t b (a.take i)++a.drop i)=k (Zt t b a):=by
  intro m
  induction m with|zero=>?_|succ m ih=>?_
  intro i h g;obtain rfl:i=a.length:=X;simp[Zd];intro i h g;have d:i<a.length:=X
  have f:=YB d;have c:=ih (i+1) X X;rw[(Z74 d).2] at c;generalize Zt t b (a.take i)++a.drop i=s at c|-;rw[f];simp only[Zd];cases hb:Z9 a[i].u t with
  |true=>rw[hb] at c;exact c
  |false=>rw[hb] at c;exact c
 have:=e a.length 0 X X
 simpa[Zt] using this
def Ka(h:HS)(l:Z2)(o E F:C)(M)(t)(a:List aE)(m:MpAt h l o E M)(hr:F.toD=some (.sl (a.map (Z7 GV.z))))(K:V->HS->Prop)
  (L:∀n,MpAt n l o E {M with out:=Zt t a M.out}->Z0 h n (Z o)->K (.tup []) n):Z5 prog 205 [.p l,.s t,.one F] h K:=by
 refine Z5.qM func205 rfl kR rfl rfl I ?_;have P:=m.a;simp only[WJ,Mp.z,Stp.z,Yb,Yf,Yt,Yv] at P;obtain⟨xs,S,-,r,_⟩:=m.out.len;simp[P];refine MR.lenK S ?_;simp;have c:Is (Zd (λ(i:Nat) (x:J) (s:List J) next=>bif Z9 x.u t then next (s.set i ⟨x.u,a⟩) else next s) (λs=>some s) M.out 0 M.out) (Zt t a M.out):=Pk;refine Z6.for (λi s e n=>En e 34 [(0,.p l),(1,.s t),(2,.one F),(11,.i M.out.length),(12,.i i)]/\
  MpAt n l o E {M with out:=s}/\Z0 h n (Z o)/\s.length=M.out.length/\∀j,i<=j->s[j]?=M.out[j]?) c ⟨by simp[r],m,.refl,rfl,λ_ _=>rfl⟩ ?_ ?_
 rintro i s e h1 ⟨g,b,z,B,y⟩ u c;have Q:IntKind.i64.wrap ((i:Int)+1)=(i:Int)+1:=Y6 _ (by have:=S.2.1;simp at this;omega);have D:=b.a;simp only[WJ,Mp.z,Stp.z,Yb,Yf,Yt,Yv] at D;have⟨T,w,G,hyl,aj⟩:=b.out.len;have W:s[i]?=some M.out[i]:=by rw[y i (Y7 _)];exact Y1 u
 have⟨c',N,_⟩:=aj i _ W;have A:=(Y0.1 N).1;obtain⟨R,cap,sp,rfl,O,q⟩:=w.block X;have Y:Zs 1 ((Zb T sp).drop (i*2))=some [.d (.str M.out[i].u)]:=by have h9:=VH (sp:=sp) (f:=0) (m:=1) w.1 N I;simpa[Zs] using h9
 have ak:=Ah (sp:=sp) w.1 A;simp[g,u,D,A,O,Y];refine ZP c ?_ ?_<;>clear c<;>intro _ c;have v:=b.nl.1;simp[Z] at v;have ah:i*2+1+1<=(Zb T sp).length:=X
 simp[g,D,A,O,Q,ah];refine Zj.of (s.set i ⟨M.out[i].u,a⟩) ⟨⟨by simp[g],⟨?_,?_,?_,?_,b.nl⟩,?_,sU B,?_⟩,c⟩;simp[v];exact b.a;exact IW w.1 rfl w.2.1 q N hr G _;exact b.nc.frame λk U=>by
  have:=b.nl.2.2 R (by simp[Z])
  have:k≠R:=by rintro rfl;exact this U
  simp[this]
 intro k L;simpa using b.lt k L;exact z.trans (Z0.refl.xV (.inl (by simp[Z])));intro j H;rw[Ys X];exact y j X;simp[g,Q];exact Zj.of s ⟨⟨by simp[g],b,z,B,λj H=>y j X⟩,c⟩;rintro s e h1 ⟨g,b,z,B,y⟩ c;obtain rfl:=Zk c;simp[g];exact L _ b z
def K2(h:HS)(l:Z2)(E o F:C)(M)(t)(a:List aE)(m:MpAt h l E o M)(hr:F.toD=some (.sl (a.map (Z7 GV.z))))(K:V->HS->Prop)
  (L:∀n,MpAt n l E o {M with nc:=Zt t a M.nc}->Z0 h n (Z o)->K (.tup []) n):Z5 prog 206 [.p l,.s t,.one F] h K:=by
 refine Z5.qM func206 rfl kR rfl rfl I ?_;have P:=m.a;simp only[WJ,Mp.z,Stp.z,Yb,Yf,Yt,Yv] at P;obtain⟨xs,R,-,r,_⟩:=m.nc.len;simp[P];refine MR.lenK R ?_;simp;have c:Is (Zd (λ(i:Nat) (x:J) (s:List J) next=>bif Z9 x.u t then next (s.set i ⟨x.u,a⟩) else next s) (λs=>some s) M.nc 0 M.nc) (Zt t a M.nc):=Pk;refine Z6.for (λi s e n=>En e 34 [(0,.p l),(1,.s t),(2,.one F),(11,.i M.nc.length),(12,.i i)]/\
  MpAt n l E o {M with nc:=s}/\Z0 h n (Z o)/\s.length=M.nc.length/\∀j,i<=j->s[j]?=M.nc[j]?) c ⟨by simp[r],m,.refl,rfl,λ_ _=>rfl⟩ ?_ ?_
 rintro i s e h1 ⟨g,b,z,B,y⟩ u c;have Q:IntKind.i64.wrap ((i:Int)+1)=(i:Int)+1:=Y6 _ (by have:=R.2.1;simp at this;omega);have D:=b.a;simp only[WJ,Mp.z,Stp.z,Yb,Yf,Yt,Yv] at D;have⟨S,w,G,hyl,aj⟩:=b.nc.len;have U:s[i]?=some M.nc[i]:=by rw[y i (Y7 _)];exact Y1 u
 have⟨c',N,_⟩:=aj i _ U;have A:=(Y0.1 N).1;obtain⟨lo,cap,sp,rfl,O,q⟩:=w.block X;have W:Zs 1 ((Zb S sp).drop (i*2))=some [.d (.str M.nc[i].u)]:=by have h9:=VH (sp:=sp) (f:=0) (m:=1) w.1 N I;simpa[Zs] using h9
 have ak:=Ah (sp:=sp) w.1 A;simp[g,u,D,A,O,W];refine ZP c ?_ ?_<;>clear c<;>intro _ c;have v:=b.nl.2.1;simp[Z] at v;have Y:i*2+1+1<=(Zb S sp).length:=X
 simp[g,D,A,O,Q,Y];refine Zj.of (s.set i ⟨M.nc[i].u,a⟩) ⟨⟨by simp[g],⟨?_,?_,?_,?_,b.nl⟩,?_,sU B,?_⟩,c⟩;simp[v];exact b.a;exact b.out.frame λk T=>by
  have:=b.nl.2.2 k T
  have:k≠lo:=by rintro rfl;exact this (by simp[Z])
  simp[this]
 exact IW w.1 rfl w.2.1 q N hr G _;intro k L;simpa using b.lt k L;exact z.trans (Z0.refl.xV (.inl (by simp[Z])));intro j H;rw[Ys X];exact y j X;simp[g,Q];exact Zj.of s ⟨⟨by simp[g],b,z,B,λj H=>y j X⟩,c⟩;rintro s e h1 ⟨g,b,z,B,y⟩ c;obtain rfl:=Zk c;simp[g];exact L _ b z
def Zdv{a b:aA}(h:a.toList=b.toList):a=b:=by
 have e:∀x:aA,x.toList=x.data.toList:=λx=>Go.ByteArray.toList_eq x;rw[e,e] at h;cases a;cases b
 congr 1
 exact Array.toList_inj.1 h
def ZD{a b:aA}:Z9 a b=true↔a=b:=⟨λh=>Zdv (EJ.1 h),by rintro rfl;exact EJ.2 rfl⟩
abbrev RN:=aA->List aE
def upd(ρ:RN)(t:aA)(a:List aE):RN:=λn=>if n=t then a else ρ n
def mkI(S:Sch)(ρ:RN):List J:=S.q.map λT=>⟨T.y,ρ T.y⟩
def Vm(a:List J):RN:=λn=>match a.find? λx=>Z9 x.u n with
 |some x=>x.rows
 |none=>[]
def Fa(S:Sch)(n:aA):aB E:=S.q.find? λT=>Z9 T.y n
def W0{ρ:RN}{t:aA}{a:List aE}:upd ρ t a t=a:=if_pos rfl
def WW{ρ:RN}{t n:aA}{a:List aE}(h:n≠t):upd ρ t a n=ρ n:=if_neg h
def Wk{S:Sch}{ρ:RN}{t:aA}{a:List aE}:Zt t a (mkI S ρ)=mkI S (upd ρ t a):=by
 unfold Zt mkI;rw[YY];refine YN λT _=>?_;simp only[Function.comp_def,upd];by_cases h:T.y=t;rw[if_pos h,ZD.2 h];rfl
 have:Z9 T.y t=false:=by
  cases e:Z9 T.y t with
  |false=>rfl
  |true=>exact absurd (ZD.1 e) h
 rw[if_neg h,this];rfl
def Z70{S:Sch}{n:aA}{T:E}(h:Fa S n=some T):T∈S.q/\T.y=n:=
 ⟨Y37 h,ZD.1 (by have:=List.find?_some h;simpa using this)⟩
def C7{S:Sch}(c:Wf S.q){T:E}(h:T∈S.q):Fa S T.y=some T:=by
 cases e:Fa S T.y with
 |none=>exact absurd (ZD.2 rfl) (by have:=Y3l.1 e T h;simpa using this)
 |some U=>?_
 have⟨a,b⟩:=Z70 e;obtain⟨i,d,rfl⟩:=Yo h;obtain⟨j,f,rfl⟩:=Yo a;obtain rfl:=c.uniq j i _ _ (Y1 f) (Y1 d) (ZD.2 b);rfl
def Z56{S:Sch}{n:aA}:Fa S n=none↔∀T∈S.q,T.y≠n:=by
 unfold Fa;rw[Y3l];exact⟨λh T a e=>h T a (ZD.2 e),λh T a e=>h T a (ZD.1 e)⟩
def Rb{ρ:RN}{n:aA}:∀(a:List E),(∃T∈a,T.y=n)->(a.map λT=>(⟨T.y,ρ T.y⟩:J)).find? (λx=>Z9 x.u n)=some ⟨n,ρ n⟩
 |[],h=>by have⟨T,h,_⟩:=h;cases h
 |T::a,h=>by
   rw[Yb,List.find?_cons];cases e:Z9 T.y n with
   |true=>rw[ZD.1 e]
   |false=>?_
   have⟨U,b,c⟩:=h;rcases Y5.1 b with rfl|b;rw[ZD.2 c] at e;cases e;exact Rb a ⟨U,b,c⟩
def Oy{S:Sch}{ρ:RN}{T:E}(h:T∈S.q):Vm (mkI S ρ) T.y=ρ T.y:=by unfold Vm mkI;rw[Rb S.q ⟨T,h,rfl⟩]
def U3{S:Sch}{ρ ρ':RN}(h:∀T∈S.q,ρ T.y=ρ' T.y):mkI S ρ=mkI S ρ':=YN λT a=>by rw[h T a]
def QX{S:Sch}{ρ ρ':RN}(h:mkI S ρ=mkI S ρ'):∀T∈S.q,ρ T.y=ρ' T.y:=λT a=>by rw[<-Oy (ρ:=ρ) a,<-Oy (ρ:=ρ') a,h]
structure RO(T:E)(rows:List (List GV)):Prop where
 l24:rows.length<=24
 row:∀r∈rows,CR T r
 asc:ZJ (Z3 T) rows
def RI(S:Sch)(ρ:RN):Prop:=∀T∈S.q,RO T (ρ T.y)
def CF.jV{S:Sch}{ρ:RN}(h:RI S ρ):CF S (mkI S ρ):=by
 have c:∀(i:Nat) (x:J) (T:E),(mkI S ρ)[i]?=some x->S.q[i]?=some T->x=⟨T.y,ρ T.y⟩:=λi x T b a=>by simp only[mkI,Y9,a,Yp,Ya] at b;exact b.symm
 refine⟨by simp[mkI],λi x T b a=>by rw[c i x T b a];exact ZD.2 rfl,λx b=>?_,λi x T b a=>?_,λi x T b a=>?_⟩;obtain⟨T,a,rfl⟩:=Yi.1 b;exact(h T a).l24;rw[c i x T b a];exact(h T (Y2 a)).row;rw[c i x T b a];exact Wv.asc (h T (Y2 a)).asc
def CF.mkI{S:Sch}{a:List J}(h:CF S a)(q:Wf S.q):a=mkI S (Vm a)/\RI S (Vm a):=by
 have af:a.map J.u=S.q.map E.y:=by
  refine YU λi=>?_;rw[Y9,Y9];by_cases c:i<S.q.length;have f:i<a.length:=by rw[h.len];exact c
  have:=ZD.1 (h.y i _ _ (Y1 f) (Y1 c))
  rw[Y1 c,Y1 f,Yp,Yp,this];rw[Yq (by rw[h.len];omega),Yq X];rfl
 have g:∀(i:Nat) (x:J) (T:E),a[i]?=some x->S.q[i]?=some T->Vm a T.y=x.rows:=λi x T b d=>by
  have r:=ZD.1 (h.y i x T b d);unfold Vm;cases e:a.find? (λx=>Z9 x.u T.y) with
  |none=>exact absurd (Y3l.1 e x (Y2 b)) (by simp[ZD.2 r])
  |some y=>?_
  have s:=Y37 e;have o:=List.find?_some e;obtain⟨j,l,rfl⟩:=Yo s;have n:j<S.q.length:=by rw[<-h.len];exact l
  have m:S.q[j]?=some S.q[j]:=Y1 n;have p:=ZD.1 (h.y j _ _ (Y1 l) m);obtain rfl:=q.uniq j i _ _ m d (ZD.2 (by rw[<-p];exact ZD.1 (sU o)));rw[Y1 l] at b;cases b;rfl
 refine⟨YU λi=>?_,λT d=>?_⟩;simp only[Go.Am.mkI,Y9];by_cases c:i<S.q.length;have f:i<a.length:=by rw[h.len];exact c
 have b:=Y1 f;have d:=Y1 c
 have:=ZD.1 (h.y i _ _ b d)
 rw[b,d,Yp,g i _ _ b d,<-this];rw[Yq (by rw[h.len];omega),Yq X];rfl;obtain⟨i,c,rfl⟩:=Yo d;have f:i<a.length:=by rw[h.len];exact c
 have b:a[i]?=some a[i]:=Y1 f;have k:=Y1 c;rw[g i _ _ b k];exact⟨h.l24 _ (Y2 b),h.row i _ _ b k,(h.asc i _ _ b k).pw⟩
def Lo{b:List E}(k:Wf b){i:Nat}{T f:E}(c:b[i]?=some T)(U:E):U∈b.set i f↔U=f\/(U∈b/\U.y≠T.y):=by
 have g:=(Y0.1 c).1;constructor;intro h;have⟨j,a⟩:=Xs.1 h;by_cases e:i=j;subst e;rw[Yr g] at a;cases a;exact .inl rfl;rw[Ys e] at a;exact .inr ⟨Y2 a,λd=>e (Wf.uniq (S:=⟨b,[],[]⟩) k i j T U c a (ZD.2 d.symm))⟩;rintro(rfl|⟨h,d⟩);exact Xs.2 ⟨i,Yr g⟩;have⟨j,a⟩:=Xs.1 h;refine Xs.2 ⟨j,?_⟩;rw[Ys,a];rintro rfl;rw[c] at a;cases a;exact d rfl
def Lp{b:List E}(e:Wf b){i:Nat}{T:E}(d:b[i]?=some T)(U:E):U∈b.take i++b.drop (i+1)↔U∈b/\U.y≠T.y:=by
 have hi:=(Y0.1 d).1;constructor;intro h;rcases Y3.1 h with h|h;have⟨j,a⟩:=Xs.1 h;have f:=(Y0.1 a).1;simp only[YA] at f;rw[Y39 X] at a;exact⟨Y2 a,λc=>by have:=Wf.uniq (S:=⟨b,[],[]⟩) e i j T U d a (ZD.2 c.symm);omega⟩;have⟨j,a⟩:=Xs.1 h;rw[YO] at a;exact⟨Y2 a,λc=>by have:=Wf.uniq (S:=⟨b,[],[]⟩) e i _ T U d a (ZD.2 c.symm);omega⟩;rintro⟨h,c⟩;have⟨j,a⟩:=Xs.1 h;rcases Y06 j i with h1|h1|h1;exact YV _ (Xs.2 ⟨j,by rwa [Y39 h1]⟩);subst h1;rw[d] at a;cases a;exact absurd rfl c;exact Xj _ (Xs.2 ⟨j-(i+1),by rwa [YO,show i+1+(j-(i+1))=j by omega]⟩)
def C9{n:Nat}{a:List E}{T:E}(U:E):U∈WG Ur n 1 (a++[T])↔U=T\/U∈a:=by rw[(Ks Ur n 1 (a++[T])).mem_iff,Y3,Yj];exact Or.comm
def JE(S:Sch)(c:List E)(b:List aA)(a:List E):Prop:=∀U,U∈c↔U∈a\/(U∈S.q/\U.y∉b)
def JE.set{S:Sch}(a:Wf S.q){i:Nat}{T T':E}{n:aA}(b:S.q[i]?=some T)(c:Z9 T.y n=true):JE S (S.q.set i T') [n] [T']:=λU=>by rw[Lo a b,<-ZD.1 c];simp
def P0{c:List E}(g:Wf c){i:Nat}{T T':E}(h:c[i]?=some T)(j:T'.y=T.y):Wf (c.set i T'):=by
 have e:(c.set i T').map E.y=c.map E.y:=by rw[YJ,j];exact EU (by rw[Y9,h];rfl)
 have f:∀d:List E,Wf d↔(d.map E.y).Pairwise λa b=>AA a b=true:=λd=>by unfold Wf;rw[Y05]
 rw[f,e,<-f];exact g
def Bd(r:J):aD:=[.d (.str r.u),.nil]
def Zc9{h:HS}{c:C}{a:List J}(m:MR h 2 c (a.map Bd))(b:∀r∈a,r.rows=[]):VZ h c a:=⟨_,m,by
 rw[YY];refine YN λr d=>?_;simp[Bd,ZB,J.z,C.toD,b r d]⟩
def As(c:Sch):aB ((List J)):=
 (Zd (λ(i3:Nat) (b:E) (a:(List J)) next_3=>(Wn a [(J.mk b.y [])] λ_=>(next_3 (a++[(J.mk b.y [])])))) (λ(a:(List J))=>(some a)) c.q 0 [])
def Z0v(h:HS)(S:Sch)(g:List J)(b:Is (As S) g)(K:V->HS->Prop)
  (f:∀c a,MR a 2 c (g.map Bd)->(∀r∈g,r.rows=[])->Z0 h a []->(∀k∈Z c,h.p<=k.1/\k.1<a.p)->ZG h a->K (.one c) a):
  Z5 prog 37 [.agg (S.z.map C.d)] h K:=by
 refine Z5.jE func37 rfl kR λB=>?_;unfold As at b;refine Z5.ov func37 ?_;simp;intro ae;refine Z6.for (xs:=S.q) (s0:=[]) (λi s e a=>∃c,En e 21 [(3,.one c),(7,.l (S.q.map E.z)),(8,.i (S.q.length:Int)),(9,.i (i:Int))]/\MR a 2 c (s.map Bd)/\(∀r∈s,r.rows=[])/\Z0 h a []/\∀k∈Z c,h.p<=k.1/\k.1<a.p) b ⟨.nil,I,sU MR.nil,I,(Z0.refl.xV (.inr I)).w,by simp[Z]⟩ ?_ ?_;rintro i s e a ⟨c,j,q,t,n,m⟩ hlt b;have F:IntKind.i64.wrap ((i:Int)+1)=(i:Int)+1:=Y6 _ X;have⟨v,b⟩:=b.chk;simp[j,hlt];have o:Z0 a (((a.xV (a.p,80) [.d (.str empty),.nil,.nil]).w.xV (a.p,80) [.d (.str S.q[i].y),.d (.sl (S.q[i].j.map Col.z)),.d (.sl (S.q[i].pk.map Zg))]).xV (a.p+1,272) [.d (.str S.q[i].y),.nil]).w []:=(((Z0.refl.xV (.inr I)).w.xV (.inr I)).xV (.inr I)).w;refine Wl CB kR dE dE (q.frame λk f=>o.2 k (m k f).2 I) (Zr.jY (x:=Bd ⟨S.q[i].y,[]⟩) rfl (by simp[Bd])) (sU v) (λz A u p w=>?_);simp[j,F];have y:Z0 h A []:=(n.trans o).trans' p λk f=>.inr (m k f).1;refine Zj.of (s++[⟨S.q[i].y,[]⟩]) ⟨⟨z,by simp[j],?_,λr D=>?_,y,λk f=>?_⟩,b⟩;simpa using u;rcases Y3.1 D with h9|h9;exact t r h9;rw[Yj.1 h9];rcases w k f with h9|h9
 have:=m k h9
 have:=p.1
 simp at this;omega
 have:=n.1
 simp at h9;omega;rintro s e a ⟨c,j,q,t,n,m⟩ b;obtain rfl:=Zk b;simp[j];exact f _ _ q t n m (n.jA B)
def Kb(h:HS)(S:Sch)(b:List J)(f:Is (As S) b)(K:V->HS->Prop)
  (e:∀c a,VZ a c b->Z0 h a []->(∀k∈Z c,h.p<=k.1/\k.1<a.p)->ZG h a->K (.one c) a):
  Z5 prog 37 [.agg (S.z.map C.d)] h K:=
 Z0v h S b f K λc a g d=>e c a (Zc9 g d)
def Ke(S:Sch)(a:List J)(b:Is (As S) a):Zq prog 37 [.agg S.z] (.l (a.map J.z)):=
 Zq.of_heap (Kb HS.init S a b _ λc h' r hs hl hb=>r.frz)
abbrev SJ:List Sh:=[.d,.d,.d]
abbrev Bc:Sh:=.r SJ
def GO{α ρ:Type}{k:List α->aB ρ}:∀xs i s,Zd (λ_ x s next=>next (s++[x])) k xs i s=k (s++xs)
 |[],_,s=>by simp[Zd]
 |x::xs,i,s=>by simp[Zd,GO xs]
structure OwN(h h':HS)(ss:List Sh)(cs:List C)(ds:List D)(ls:List Z2):Prop where
 ow:Ow h' ss cs ds ls
 nd:ls.Nodup
 new:∀k∈ls,h.p<=k.1/\k.1<h'.p
 same:Z0 h h' []
def WT(h a:HS)(d:List Sh)(c:C)(b:List aC):Prop:=∃qs,Part a d c qs b/\(Z4 c qs).Nodup/\(∀k∈Z4 c qs,h.p<=k.1/\k.1<a.p)/\Z0 h a []
def WT.nil{h a}:WT h h a .nil []:=⟨[],⟨sU MR.nil,rfl,I⟩,by simp[Z4,Z],by simp[Z4,Z],.refl⟩
def WT.step{h f i j c e}(g:WT h f j c e)(d:Z0 f i []):WT h i j c e:=by
 have⟨qs,p,l,b,s⟩:=g;exact⟨qs,p.frame λk a=>d.2 k (b k a).2 I,l,λk a=>⟨(b k a).1,Y4 (b k a).2 d.1⟩,s.trans d⟩
def WT.app{P J F}{n D O:Nat}{h v i y c x u B d r K}(g:WT h v y c u)(A:Z0 v i [])(M:ZC P J=some (F,n,D))(X:(W3 P F).isSome=true)(Q:0<n)(R:D<=4096)
  (W:Zr i n x [B])(T:y.length=n)(U:Ow i y B d r)(L:r.Nodup)(j:∀k∈r,v.p<=k.1/\k.1<i.p)(o:u.length+1<=Zz)
  (a:∀t m,WT h m y t (u++[d])->Z0 i m (Z c)->K (.one t) m):Ud P J c x O i (K:=⟨K⟩):=by
 subst T;have⟨qs,Y,G,l,H⟩:=g;have p:=Y.frame λk a=>A.2 k (l k a).2 I;have w:∀k∈Z4 c qs,h.p<=k.1/\k.1<i.p:=λk a=>⟨(l k a).1,Y4 (l k a).2 A.1⟩;have s:=H.trans A;have q:=λk a=>(w k a).2;have V:qs.length=u.length:=by rw[<-p.ds];simp
 refine Wl M X Q R p.mr W (by simpa[V] using o) λt m S b z=>?_;have E:∀k∈Z c,h.p<=k.1:=λk a=>(w k (by simp[Z4,a])).1;have N:∀k∈Z c,k.1<v.p:=λk a=>(l k (by simp[Z4,a])).2;have C:∀k∈r,k∉Z c:=λk a e=>by have:=N k e;have:=(j k a).1;omega
 refine a t m ⟨qs++[(B,d,r)],p.add G q S b (U.frame λk a=>b.2 k (j k a).2 (C k a)),?_,λk a=>?_,s.trans' b λk a=>.inr (E k a)⟩ b;refine Iw G q (λk a=>(z k a).imp id λe=>e.1) L λk a=>⟨λe=>?_,λe=>?_⟩
 have:=(l k e).2;have:=(j k a).1;omega
 rcases z k e with f|f;exact C k a f
 have:=(j k a).2;omega
 rcases Bz a with e|e|e;rcases z k e with f|f;exact⟨E k f,Y4 (w k (by simp[Z4,f])).2 b.1⟩;exact⟨YE s.1 f.1,f.2⟩
 have:=w k (by simp only[Z4,Y3];exact .inr e)
 exact⟨this.1,Y4 this.2 b.1⟩
 have:=j k e
 exact⟨YE H.1 this.1,Y4 this.2 b.1⟩
def Qy{h c}{a:aE}(m:MR h 3 c ((a.map GV.z).map (·.map C.d))):Ow h [Bc] [c] [.sl (a.map GV.z)] (Z c):=by
 have d:(a.map λv=>((v.z.map C.d,v.z,[]):aD×aC×List Z2)).flatMap (·.2.2)=[]:=by rw[XT];intro q b;obtain⟨v,_,rfl⟩:=Yi.1 b;rfl
 have e:(a.map λv=>((v.z.map C.d,v.z,[]):aD×aC×List Z2)).map (·.2.1)=a.map GV.z:=by rw[YY];rfl
 have f:(a.map λv=>((v.z.map C.d,v.z,[]):aD×aC×List Z2)).map (·.1)=(a.map GV.z).map (·.map C.d):=by rw[YY,YY];rfl
 have:=Ow.row (es:=SJ) (by rwa [f]) (λq b=>by obtain⟨v,_,rfl⟩:=Yi.1 b;exact Ow.qK (ds:=v.z)) .nil
 rwa [d,e,Ym,Ym] at this
def TP(h:HS)(a:aE)(d:a.length<=2097152)(K)(g:∀c b,OwN h b [Bc] [c] [.sl (a.map GV.z)] (Z c)->MR b 3 c ((a.map GV.z).map (·.map C.d))->ZG h b->K (.one c) b):
  Z5 prog 63 [.l (a.map GV.z)] h K:=by
 refine Z03 h _ ((a.map GV.z).map (·.map C.d)) (Zr.data (λt j=>by obtain⟨z,_,rfl⟩:=Yi.1 j;rfl) (sU d)) K λc b e i d f=>?_;exact g c b ⟨Qy e,Vx,d,i⟩ e f
def Z0t(h)(a:List aE)(B:∀row∈a,row.length<=2097152)(K)
  (m:∀c g,WT h g [Bc] c (a.map (Z7 GV.z))->ZG h g->K (.one c) g):
  Z5 prog 59 [.l (a.map (Z7 GV.z))] h K:=by
 refine Z5.jE func59 rfl kR λF=>?_;refine Z5.qM func59 rfl kR rfl rfl I ?_;have n:Is (Zd (λ_ x s next=>next (s++[x])) (λs=>some s) a 0 []) a:=by rw[GO];rfl
 simp;intro ak;refine Z6.for (λi s e g=>∃c,En e 19 [(3,.one c),(6,.l (a.map (Z7 GV.z))),(7,.i a.length),(8,.i i)]/\WT h g [Bc] c (s.map (Z7 GV.z))/\s.length=i) n ⟨.nil,I,.nil,rfl⟩ ?_ ?_;rintro i s e g ⟨c,b,o,q⟩ hlt n;have z:IntKind.i64.wrap ((i:Int)+1)=(i:Int)+1:=Y6 _ X;have D:=B _ (Yh hlt);simp[b,hlt];refine Zc (TP _ _ D _ λw u f _ _=>?_);simp[b];have v:=f.same;refine DF (by simp only[ZB];cases w.toD<;>rfl) rfl (λd E=>?_) (λ_=>?_);obtain⟨rfl,A⟩:=f.ow.ofD E;simp[b];refine WT.app o (v.trans ((Z0.refl.qC).w)) PG kR dE dE (Zr.qU rfl) rfl (A _) I I (sU (by omega:s.length+1<=2097152)) λt C r _=>?_;simp[b,z];exact Zj.of (s++[a[i]]) ⟨⟨t,by simp[b],by simpa[Z7] using r,by simp[q]⟩,n⟩;simp[b];have j:Z0 u ((u.xV (u.p,240) [w]).w) []:=(Z0.refl.xV (.inr I)).w;refine WT.app o (v.trans j) PG kR dE dE (Zr.jY rfl I) rfl (f.ow.frame λk m=>j.2 k (f.new k m).2 I) f.nd (λk m=>⟨(f.new k m).1,Y4 (f.new k m).2 j.1⟩) (sU (by omega:s.length+1<=2097152)) λt C r _=>?_;simp[b,z];exact Zj.of (s++[a[i]]) ⟨⟨t,by simp[b],by simpa[Z7] using r,by simp[q]⟩,n⟩;rintro s e g ⟨c,b,o,q⟩ n;obtain rfl:=Zk n;simp[b];have⟨qs,p,H,G,y⟩:=o;exact m _ _ ⟨qs,p,H,G,y⟩ (y.jA F)
end
end Go.Am
section
namespace Go.Am
def MpAt.hf{h d l c b M}(a:HF h d)(m:MpAt h l c b M):MpAt d l c b M:=m.frame ⟨a.1,λk e _=>a.2 k e⟩
def Z0.hf{c h b d}(s:Z0 c h d)(a:HF h b):Z0 c b d:=s.trans ⟨a.1,λk e _=>a.2 k e⟩
class ConM{α:Type}(m:Option α)(M0:outParam Mp)(M1:outParam (α->Mp))(P:Program)(f:FuncId)(av:outParam (List AV))(er:outParam (α->V)):Prop where
 h:∀v,Is m v->∀h l co cn vs K,MpAt h l co cn M0->Wi h vs=some av->(∀h',MpAt h' l co cn (M1 v)->Z0 h h' (Z co++Z cn)->K (er v) h')->Z5 P f (.p l::vs) h K
def Zd8{Γ h μ w}(f:Am.Inv Γ h μ w){l d e}(i:h.a l=some d)(m:∀(j:Nat) x,e[j]?=some x->∃c,d[j]?=some c/\c.toD=some x){b n}(q:μ.loc l=some (some b,n)):Up μ.cell (WU w) e (.pointer (some ⟨b,0,none⟩)):=by
 obtain⟨b',n',T,conc,a,_,o,g,_⟩:=f.a l d i;rw[q] at a;simp only[Ya,YG] at a;obtain⟨rfl,rfl⟩:=a;refine⟨b,0,rfl,λj x p=>?_⟩;obtain⟨c,k,t⟩:=m j x p;obtain⟨u,s,r⟩:=g.2 j c k;refine⟨u,.inr ?_,Uj r t⟩;simp[WU,World.cell?,o,s]
def Z5.wE{P f B g k}{y:aD}{r h l}{K:V->HS->Prop}(d)(z:Zq P f (.one (.rp k)::g) r)(O:h.a l=some y)(Q:∀(j:Nat) x,k[j]?=some x->∃c,y[j]?=some c/\c.toD=some x)
  (m:Wi h B=some g)(R:K (r.toV h.p d) ((h.qL d r.fr).w)):Z5 P f (.p l::B) h K:=by
 refine⟨z.1,λΓ μ w vals hI hR=>?_⟩;obtain⟨N,G⟩:=Lf m;have D:CE μ.cell (WU w) (.one (.rp k)::g) vals:=by
  refine⟨by rw[hR.1];simp[N],λi x o=>?_⟩;cases i with|zero=>?_|succ i=>?_;simp at o;subst o;obtain⟨u,q,a⟩:=hR.2 0 _ rfl;obtain⟨b,n,e,rfl⟩:=(show∃b n,μ.loc l=some (some b,n)/\u=.pointer (some ⟨b,0,none⟩) from a);exact⟨_,q,Zd8 hI O Q e⟩;obtain⟨v,L,H⟩:=G i x (by simpa using o);obtain⟨u,q,a⟩:=hR.2 (i+1) v (by simpa using L);exact⟨u,q,LK hI a H⟩
 refine(z.2 w μ.cell (WU w) _ hI.glob hI.cell (Gf w) D).mono ?_;rintro en w1 ⟨v,A,t,rfl,s,F,E,I,a,J⟩;have M:Mem.Le μ (V9 μ h.p d A t):=⟨s,rfl,λl x e=>by
  have:=hI.lt l (by rw[e];simp)
  simp only[V9];rw[if_neg X];exact e⟩
 exact⟨v,_,_,V9 μ h.p d A t,rfl,R,hI.call d s F E I J,Jf a h.p d,M⟩
def MpAt.pre{h l f e M}(m:MpAt h l f e M):∃a,h.a l=some a/\∀(j:Nat) x,M.z[j]?=some x->∃c,a[j]?=some c/\c.toD=some x:=by
 refine⟨_,m.a,λj x b=>⟨.d x,?_,rfl⟩⟩;have g:=(Y0.1 b).1;rw[WJ,Yu (by simpa using g),Y9,b];rfl
def Ha:List AV->Prop
 |[]=>True
 | .one (.d (.bool _))::vs=>Ha vs
 | .one (.d (.int _ _))::vs=>Ha vs
 | .one (.d (.str _))::vs=>Ha vs
 |_=>False
def Gz{h}{v:V}{x}(e:∀g,x≠.sl g)(b:v.toA h=some (.one (.d x))):v=.one (.d x):=by
 cases v with
 |one c=>?_
 |agg cs=>cases hd:ZB cs<;>simp[V.toA,hd] at b
 |_=>simp[V.toA] at b
 cases hc:c.toA h with
 |none=>simp[V.toA,hc] at b
 |some a=>?_
 simp[V.toA,hc] at b;subst b;cases c with
 |d y=>simp[C.toA] at hc;rw[hc]
 |own l g=>simp[C.toA] at hc;exact absurd hc.symm (e _)
 |nil=>simp[C.toA] at hc;exact absurd hc.symm (e _)
 |z=>simp[C.toA] at hc;exact absurd hc.symm (e _)
 |ptr l off=>?_
 |fn f caps=>simp only[C.toA] at hc;cases hd:VK h caps<;>simp[hd] at hc
 |_=>simp[C.toA] at hc
 cases off with
 |succ n=>simp[C.toA] at hc
 |zero=>simp only[C.toA] at hc;cases hb:h.a l<;>simp[hb] at hc
def Z6z{h:HS}:∀{g:List AV} {f:List V},Ha g->Wi h f=some g->f=g.map AV.toV:=by
 intro g
 induction g with|nil=>?_|cons a g ih=>?_
 intro f _ c;cases f with
 |nil=>rfl
 |cons v f=>simp only[Wi] at c;split at c<;>cases c
 intro f i c;cases f with
 |nil=>simp[Wi] at c
 |cons v f=>?_
 simp only[Wi] at c;cases j:v.toA h with
 |none=>rw[j] at c;cases c
 |some x=>?_
 cases hxs:Wi h f with
 |none=>rw[j,hxs] at c;cases c
 |some xs=>?_
 rw[j,hxs] at c;simp at c;obtain⟨rfl,rfl⟩:=c;cases x with
 |agg ds=>exact i.elim
 |one y=>cases y with
   |d z=>cases z with
     |bool b=>rw[Gz (by intro _ e;cases e) j,ih i hxs];rfl
     |int k n=>rw[Gz (by intro _ e;cases e) j,ih i hxs];rfl
     |str s=>rw[Gz (by intro _ e;cases e) j,ih i hxs];rfl
     |_=>exact i.elim
   |_=>exact i.elim
def Zm.rA{h f c d a b x}(g:Zm h f c d)(k:∀n,WM (.own (a,b) n) c):Zm (h.qC (a,b) x) f c d:=by
 rcases g.1 with⟨rfl,rfl⟩|⟨l,rfl,i,j⟩;exact .nil;have e:l≠(a,b):=λm=>k d l d d (by rw[m]) rfl;exact .own (by simp only[HS.qC];rw[if_neg e];exact i) j g.2
section
variable{ρ α:Type}
def Zde{P f n j d e k h l s q M}{a:Env->HS->Prop}{b:α->RV}{m K}{r:ρ}(g:Is (Z1 m K) r)[i:Con m P f (.one (.rp M.z)::j) b]
  (z:MpAt k l s q M)(w:HF k h)(c:Wi h n=some j)
  (y:∀v,Is (K v) r->a (e.put (some d) ((b v).toV h.p d)) ((h.qL d (b v).fr).w)):Vb P f [] (.p l::n) d e h (K:=⟨a⟩):=by
 obtain⟨x,A,g⟩:=g.bind;obtain⟨cs,o,u⟩:=(MpAt.hf w z).pre;refine Zc (by simpa using Z5.wE (K:=λv t=>a (e.put (some d) v) t) d (i.h x A) o u c (y x g))
def Zch{P f n t d e w j h l b a q s o}{u:α->V}{m K}{r:ρ}(k:Is (Z1 m K) r)[i:ConM m q s P f t u]
  (D:MpAt j l b a q)(B:Z0 w j (Z b++Z a))(y:HF j h)(g:Wi h n=some t)
  (C:∀v c,MpAt c l b a (s v)->Z0 w c (Z b++Z a)->Z0 h c (Z b++Z a)->Is (K v) r->o (e.put (some d) (u v)) c):Vb P f [] (.p l::n) d e h (K:=⟨o⟩):=by
 obtain⟨x,E,k⟩:=k.bind;refine Zc (by simpa using i.h x E h l b a n _ (MpAt.hf y D) g λc A z=>C x c A ((Z0.hf B y).trans z) z k)
theorem SI{m M0 M1 P f fn c av}{er:α->V}{rs}(n)(hf:P.funcs[f]?=some fn)(hb:fn.body=some c)(am:(fn.name== "runtime.NumGoroutine")=false)(hn:fn.ntmps=n)(al:fn.results.toList=rs)(hsc:Ha av)(ak:av.length+1<=n)
  (hv:∀r,Is m r->∀h l co cn K,MpAt h l co cn M0->(∀h',MpAt h' l co cn (M1 r)->Z0 h h' (Z co++Z cn)->K (er r) h')->vc P c (ZS P rs K) (CV n (.p l::av.map AV.toV)) h:=by
   intro r hm h l co cn K hp hK;have aa:=hp.lt l (Y8 ..);have hS:Z0 h h (Z co++Z cn):=Z0.refl;have hne:=Zv aa;have hne':=W1 aa;have af:=hp.a;simp only[WJ,Mp.z,Stp.z,Yb,Yf,Yt,Yv] at af
   try simp(maxSteps:=1000000) [*]
   repeat' ((first
    | (with_reducible have hq:=Zk hm
       obtain rfl:=hq;refine hK _ (MpAt.hf ?_ hp) (Z0.hf hS ?_)
       all_goals
        repeat' (first|with_reducible exact HF.refl|with_reducible refine HF.w ?_|with_reducible refine HF.qC ?_|with_reducible refine HF.qH ?_|with_reducible refine HF.qL ?_|with_reducible refine HF.xV ?_ ?_|assumption|(apply HF.tr;assumption)|(simp(maxSteps:=1000000) [*];done)|(simp(maxSteps:=1000000) [*];omega)))
    | (with_reducible have hq:=Is.bind hm
       clear hq;refine Zde hm hp ?_ ?_ ?_
       .repeat' (first | with_reducible exact HF.refl | with_reducible refine HF.w ?_ | with_reducible refine HF.qC ?_ | with_reducible refine HF.qH ?_ | with_reducible refine HF.qL ?_ | with_reducible refine HF.xV ?_ ?_ | assumption | (apply HF.tr;assumption) | (simp (maxSteps:=1000000) [*];done) | (simp (maxSteps:=1000000) [*];omega))
       .simp (maxSteps:=1000000) [*];done
       clear hm;intro v hm)
    | (with_reducible have hq:=Is.bind hm
       clear hq;refine Zch hm hp hS ?_ ?_ ?_
       .repeat' (first | with_reducible exact HF.refl | with_reducible refine HF.w ?_ | with_reducible refine HF.qC ?_ | with_reducible refine HF.qH ?_ | with_reducible refine HF.qL ?_ | with_reducible refine HF.xV ?_ ?_ | assumption | (apply HF.tr;assumption) | (simp (maxSteps:=1000000) [*];done) | (simp (maxSteps:=1000000) [*];omega))
       .simp (maxSteps:=1000000) [*];done
       clear hm hp hS;intro v h hp hS aq hm;have aa:=hp.lt l (Y8 ..);have hne:=Zv aa;have hne':=W1 aa;have af:=hp.a;simp only[WJ,Mp.z,Stp.z,Yb,Yf,Yt,Yv] at af)
    | ((with_reducible refine ZP hm ?_ ?_)<;>(clear hm;intro hc hm))
    | (with_reducible have hq:=Is.bind hm
       clear hq;refine RH hm ?_ ?_
       .simp (maxSteps:=1000000) [*];done
       clear hm;intro v hm)
    | (with_reducible intro hl
       try simp only[Yd] at hl)
    | (with_reducible have hq:=Is.qQ hm
       clear hm;obtain⟨x,hx,hm⟩:=hq)
    | (with_reducible have hq:=Is.get hm
       clear hm;obtain⟨x,h0,hx,hm⟩:=hq
       try simp at h0
       try simp at hx)
    | (with_reducible have hq:=Is.app hm
       clear hq;refine Sd hm ?_ ?_ ?_ ?_
       .first
        | exact Zm.nil
        | (simp (maxDischargeDepth:=20) (maxSteps:=1000000) [*];done)
        | (simp (maxDischargeDepth:=20) (maxSteps:=1000000) [Zm.rA, *];done)
       .first | (simp (maxSteps:=1000000) [*];done) | (simp (maxSteps:=1000000) [GV.z, *];done)
       .decide
       clear hm;intro hl hm g)
    | (with_reducible have hq:=Is.chk hm
       clear hm;obtain⟨hw,hm⟩:=hq
       first
       | replace hw:=LL hw
       | (obtain⟨ha,hb,hd⟩:=hw
          have he:=hb
          try simp at he
          have hf:=hd
          try simp at hf)
       | (have ao:=hw
          try simp at ao))
    | ((with_reducible refine GB hm ?_ ?_)<;>(clear hm;intro hc hm))
    | ((with_reducible refine IC hm ?_ ?_)<;>(clear hm;intro hc hm))
    | (with_reducible have hq:=Is.bind hm
       clear hq;refine R8 hm ?_ ?_ ?_
       .simp (maxSteps:=1000000) [*];done
       .simp (maxSteps:=1000000) [*];done
       clear hm;intro v hm)
    | (with_reducible have hq:=Is.bind hm
       clear hq;refine R7 hm ?_ ?_ ?_
       .simp (maxSteps:=1000000) [*];done
       .simp (maxSteps:=1000000) [*];done
       clear hm;intro v hm)
    | (with_reducible have hq:=Is.chr hm
       clear hm;obtain⟨y,h0,hx,hm⟩:=hq)
    | (refine Zj.lr hm ⟨?_,?_,?_,?_⟩
       .simp (maxSteps:=1000000) [*];done
       .simp (maxSteps:=1000000) [Vq, *];done
       .repeat' (first | with_reducible exact HF.refl | with_reducible refine HF.w ?_ | with_reducible refine HF.qC ?_ | with_reducible refine HF.qH ?_ | with_reducible refine HF.qL ?_ | with_reducible refine HF.xV ?_ ?_ | assumption | (apply HF.tr;assumption) | (simp (maxSteps:=1000000) [*];done) | (simp (maxSteps:=1000000) [*];omega))
       .first | (simp (maxDischargeDepth:=20) (maxSteps:=1000000) [*,Vp];done) | (simp (maxDischargeDepth:=20) (maxSteps:=1000000) [Zm.rA, *,Vp];done))
    | (refine Zj.lr hm ⟨?_,?_,?_⟩
       .simp (maxSteps:=1000000) [Vq, *];done
       .repeat' (first | with_reducible exact HF.refl | with_reducible refine HF.w ?_ | with_reducible refine HF.qC ?_ | with_reducible refine HF.qH ?_ | with_reducible refine HF.qL ?_ | with_reducible refine HF.xV ?_ ?_ | assumption | (apply HF.tr;assumption) | (simp (maxSteps:=1000000) [*];done) | (simp (maxSteps:=1000000) [*];omega))
       .first | (simp (maxDischargeDepth:=20) (maxSteps:=1000000) [*,Vp];done) | (simp (maxDischargeDepth:=20) (maxSteps:=1000000) [Zm.rA, *,Vp];done))
    | ((first | refine Z6.jO l1 rfl hm ?_ ?_ ?_ ?_ ?_ ?_ | refine Z6.jO l2 rfl hm ?_ ?_ ?_ ?_ ?_ ?_ | refine Z6.jO l3 rfl hm ?_ ?_ ?_ ?_ ?_ ?_ | refine Z6.jO l4 rfl hm ?_ ?_ ?_ ?_ ?_ ?_ | refine Z6.jO l5 rfl hm ?_ ?_ ?_ ?_ ?_ ?_ | refine Z6.jO l6 rfl hm ?_ ?_ ?_ ?_ ?_ ?_)
       .first | assumption | omega | (simp at *;omega)
       .simp (maxSteps:=1000000) [*];done
       .simp (maxDischargeDepth:=20) (maxSteps:=1000000) [*,Vp];done
       .simp (maxSteps:=1000000) [AR,VD,UI,VI, *]<;>omega
       all_goals first
        | (skip
           clear hm
           with_reducible intro i s e h hk aj ab ae ah ad ag ap hw hlt hm
           try simp only[U8] at ab
           repeat obtain⟨_,ab⟩:=ab
           try simp only[Vq] at hk
           try simp (maxSteps:=1000000) [*] at hk
           have ac:=ad
           try simp at ac
           rcases Yx l.1 h.p with aa | aa;rotate_left
           .exfalso;omega
           have hne:=Zv aa;have hne':=W1 aa
           try simp (maxSteps:=1000000) [Uz,VD,UI,VI, *] at ae)
        | (skip
           clear hm
           with_reducible intro s e h hk aj ab ae ah ad ag hm
           try simp only[U8] at ab
           repeat obtain⟨_,ab⟩:=ab
           try simp only[Vq] at hk
           try simp (maxSteps:=1000000) [*] at hk
           have ac:=ad
           try simp at ac
           rcases Yx l.1 h.p with aa | aa;rotate_left
           .exfalso;omega
           have hne:=Zv aa;have hne':=W1 aa
           try simp (maxSteps:=1000000) [Uz,VD,UI,VI, *] at ae))
    | ((first | refine Z6.qY l1 rfl hm ?_ ?_ ?_ ?_ ?_ | refine Z6.qY l2 rfl hm ?_ ?_ ?_ ?_ ?_ | refine Z6.qY l3 rfl hm ?_ ?_ ?_ ?_ ?_ | refine Z6.qY l4 rfl hm ?_ ?_ ?_ ?_ ?_ | refine Z6.qY l5 rfl hm ?_ ?_ ?_ ?_ ?_ | refine Z6.qY l6 rfl hm ?_ ?_ ?_ ?_ ?_)
       .simp (maxSteps:=1000000) [*];done
       .simp (maxDischargeDepth:=20) (maxSteps:=1000000) [*,Vp];done
       .simp (maxSteps:=1000000) [AR,VD,UI,VI, *]<;>omega
       all_goals
         clear hm
         with_reducible intro i s e h hk aj ab ae ah ad ag hlt hm
         try simp only[U8] at ab
         repeat obtain⟨_,ab⟩:=ab
         try simp only[Vq] at hk
         try simp (maxSteps:=1000000) [*] at hk
         have ac:=ad
         try simp at ac
         rcases Yx l.1 h.p with aa | aa;rotate_left
         .exfalso;omega
         have hne:=Zv aa;have hne':=W1 aa
         try simp (maxSteps:=1000000) [Uz,VD,UI,VI, *] at ae
         try simp (maxSteps:=1000000) [*]
         first
         | (have hq:(i:Int) < _:=hlt
            refine Vy (λ_=>?_) (λhn=>absurd ?_ hn);rotate_left
            .first | omega | (simp at hlt |-;omega) | (simp at hlt |-;split at hlt<;>split<;>omega)
            simp (maxSteps:=1000000) [*])
         | (have hq:¬ (i:Int) < _:=hlt
            refine Vy (λhn=>absurd hn ?_) (λ_=>?_)
            .first | omega | (intro hn;simp at hlt hn;omega) | (intro hn;simp at hlt hn;split at hlt<;>split at hn<;>omega)
            simp (maxSteps:=1000000) [*])
         | skip)
    | ((first | refine Z6.qZ l1 hm ?_ ?_ ?_ | refine Z6.qZ l2 hm ?_ ?_ ?_ | refine Z6.qZ l3 hm ?_ ?_ ?_ | refine Z6.qZ l4 hm ?_ ?_ ?_ | refine Z6.qZ l5 hm ?_ ?_ ?_ | refine Z6.qZ l6 hm ?_ ?_ ?_)
       .simp (maxDischargeDepth:=20) (maxSteps:=1000000) [*,Vp];done
       .simp (maxSteps:=1000000) [AR,VD,UI,VI, *]<;>omega
       clear hm
       with_reducible intro n s e h hk ab ae ah ad ag hm
       try simp only[U8] at ab
       repeat obtain⟨_,ab⟩:=ab
       try simp only[Vq] at hk
       try simp (maxSteps:=1000000) [*] at hk
       have ac:=ad
       try simp at ac
       rcases Yx l.1 h.p with aa | aa;rotate_left
       .exfalso;omega
       have hne:=Zv aa;have hne':=W1 aa
       try simp (maxSteps:=1000000) [Uz,VD,UI,VI, *] at ae)
    | (first
       | (refine Z6.qX p1 ?_ (by kernel_rfl) follows ?_
          .decide)
       | (refine Z6.qX p2 ?_ (by kernel_rfl) follows ?_
          .decide)
       | (refine Z6.qX p3 ?_ (by kernel_rfl) follows ?_
          .decide)
       | (refine Z6.qX p4 ?_ (by kernel_rfl) follows ?_
          .decide)
       | (refine Z6.qX p5 ?_ (by kernel_rfl) follows ?_
          .decide)
       | (refine Z6.qX p6 ?_ (by kernel_rfl) follows ?_
          .decide)
       | (refine Z6.qX p7 ?_ (by kernel_rfl) follows ?_
          .decide)
       | (refine Z6.qX p8 ?_ (by kernel_rfl) follows ?_
          .decide))
    | (refine⟨λ_ _ hl=>hl,?_⟩)
    | (refine And.intro ?_ ?_)
    | (refine EG (by simp) ?_)
    | (refine CD (by assumption) (λhl=>?_);try simp only[Yd] at hl)
    | (refine Lk ?_ ?_
       .omega)
    | (rcases Rd.cases (by assumption) with hz | ⟨l,hz⟩ | ⟨hz,hy⟩ | ⟨hz,hy⟩
       all_goals
        subst hz
        first
        | (simp_all;done)
        | skip))<;>try simp (maxSteps:=1000000) [*])):ConM m M0 M1 P f av er:=
 ⟨λr hm h l co cn vs K hp has hK=>by obtain rfl:=Z6z hsc has;exact Z5.qM hf hb am hn al (by simpa using ak) (hv r hm h l co cn K hp hK)⟩
end
def Hv(M:Mp)(t:aA)(a:List aE):aB Mp:=some {M with out:=Zt t a M.out}
def JI(M:Mp)(t:aA)(a:List aE):aB Mp:=some {M with nc:=Zt t a M.nc}
def OY{h f a g}(b:Wi h f=some (a::g)):∃v c,f=v::c/\v.toA h=some a/\Wi h c=some g:=by
 cases f with
 |nil=>cases b
 |cons v c=>?_
 simp only[Wi] at b;cases d:v.toA h with
 |none=>rw[d] at b;cases b
 |some x=>?_
 cases e:Wi h c with
 |none=>rw[d,e] at b;cases b
 |some xs=>rw[d,e] at b;cases b;exact⟨v,c,rfl,d,e⟩
def Ld{h b}(a:Wi h b=some []):b=[]:=by
 cases b with
 |nil=>rfl
 |cons v ws=>simp only[Wi] at a;split at a<;>cases a
def PK{h c a b}(i:Wi h c=some [a,b]):∃v w,c=[v,w]/\v.toA h=some a/\w.toA h=some b:=by obtain⟨v,ws,rfl,d,e⟩:=OY i;obtain⟨w,us,rfl,f,g⟩:=OY e;obtain rfl:=Ld g;exact⟨v,w,rfl,d,f⟩
def Ru{h}{v:V}{e}(b:v.toA h=some (.l e)):∃c,v=.one c/\c.toD=some (.sl e):=by
 cases v with
 |one c=>?_
 |agg cs=>cases hd:ZB cs<;>simp(maxSteps:=1000000) [V.toA,hd] at b
 |_=>simp(maxSteps:=1000000) [V.toA] at b
 refine⟨c,rfl,?_⟩;cases hc:c.toA h with
 |none=>simp(maxSteps:=1000000) [V.toA,hc] at b
 |some a=>?_
 simp(maxSteps:=1000000) [V.toA,hc] at b;subst b;cases c with
 |d y=>simp(maxSteps:=1000000) [C.toA] at hc;rw[hc];rfl
 |own l ys=>simp(maxSteps:=1000000) [C.toA] at hc;rw[hc];rfl
 |nil=>simp(maxSteps:=1000000) [C.toA] at hc;rw[hc];rfl
 |z=>simp(maxSteps:=1000000) [C.toA] at hc;rw[hc];rfl
 |ptr l off=>?_
 |fn f caps=>simp only[C.toA] at hc;cases hd:VK h caps<;>simp(maxSteps:=1000000) [hd] at hc
 |_=>simp(maxSteps:=1000000) [C.toA] at hc
 cases off with
 |succ n=>simp(maxSteps:=1000000) [C.toA] at hc
 |zero=>simp only[C.toA] at hc;cases hb:h.a l<;>simp(maxSteps:=1000000) [hb] at hc
instance Zgc(M:Mp)(t:aA)(a:List aE):ConM (Hv M t a) M (λr=>r) Tryz.prog 205 [.s t,.l (a.map (Z7 GV.z))] (λ_=>.tup []):=⟨by
 intro r n h l f d vs K o b m;obtain rfl:=Zk n;obtain⟨v,w,rfl,p,q⟩:=PK b;obtain rfl:=Gz (by intro _ e;cases e) p;obtain⟨g,rfl,c⟩:=Ru q;exact Ka h l f d g M t a o c K λi j k=>m i j (k.mono (by simp+contextual))⟩
instance Zfp(M:Mp)(t:aA)(a:List aE):ConM (JI M t a) M (λr=>r) Tryz.prog 206 [.s t,.l (a.map (Z7 GV.z))] (λ_=>.tup []):=⟨by
 intro r n h l f d vs K o b m;obtain rfl:=Zk n;obtain⟨v,w,rfl,p,q⟩:=PK b;obtain rfl:=Gz (by intro _ e;cases e) p;obtain⟨g,rfl,c⟩:=Ru q;exact K2 h l f d g M t a o c K λi j k=>m i j (k.mono (by simp+contextual))⟩
end Go.Am
end
namespace Go.Am
section
def Vv(s_:Sch)(inst:List J)(name:aA):aB (E×(List aE)):=
 Z1 (Wg s_ name) λv3=>bif !v3.2 then some ((E.mk empty [] []),[]) else Za s_.q v3.1 λx5=>Z1 (De x5) λv6=>bif decide ((inst.length:Int)<=v3.1) then some (v6,[]) else Za inst v3.1 λx10=>Z1 (VG x10.rows) λv11=>some (v6,v11)
instance Z1c(s_:Sch)(inst:List J)(name:aA):Con (Vv s_ inst name) prog 77 [.agg s_.z,.one (.d (.sl (inst.map J.z))),.one (.d (.str name))] (λr=>.tup [.agg (r.1.z.map RC.d),.one (.d (.sl (r.2.map (Z7 GV.z))))]):=by unfold Vv;have p1:PH [7] (Y.qB aG .done):=.intro;exact go 38 func77
def WT.xO{h a:HS}{c:List Sh}(b:Z0 h a []):WT h a c .nil []:=WT.nil.step b
def WT.wQ{d h i e:HS}{l:List Sh}{c:C}{f:List aC}{ls:List Z2}(g:WT h i l c f)(j:Z0 i e ls)(q:∀k∈ls,k.1<h.p)(m:Z0 d e [])(o:d.p<=h.p):WT d e l c f:=by
 have⟨qs,p,r,b,s⟩:=g;exact⟨qs,p.frame λk a=>j.2 k (b k a).2 λn=>by have:=q k n;have:=(b k a).1;omega,r,λk a=>⟨YE o (b k a).1,Y4 (b k a).2 j.1⟩,m⟩
def WT.same{h a:HS}{d:List Sh}{c:C}{b:List aC}(g:WT h a d c b):Z0 h a []:=by have⟨_,_,_,_,s⟩:=g;exact s
def Nn{b c:List aE}(a:Is (VG b) c):c=b:=by
 unfold VG at a;have f:∀(d:List aE) (i:Nat) (s:List aE),Is (Zd (λ(i3:Nat) (j:aE) (e:List aE) next_3=>Z1 (Ee j) λg=>Wn e [g] λ_=>next_3 (e++[g])) (λe=>some e) d i s) c->c=s++d:=by
  intro d
  induction d with
  |nil=>intro i s a;simpa using(Zk a).symm
  |cons x d ih=>?_
  intro i s a;simp only[Zd] at a;have⟨v,h,a⟩:=a.bind;have⟨_,a⟩:=a.app
  have:=ih _ _ a
  have:v=x:=(Zk h).symm
  simp_all
 exact f b 0 [] a
def Z0u(h:HS)(S:Sch)(d:List J)(t:aA)(T:E)(b:List aE)(a:Is (Vv S d t) (T,b))(k:Int)(q:Is (Wg S t) (k,true))(F:∀row∈b,row.length<=2097152)(K:V->HS->Prop)
  (z:∀c h',WT h h' [Bc] c (b.map (Z7 GV.z))->ZG h h'->K (.tup [.agg (T.z.map C.d),.one c]) h'):
  Z5 prog 77 [.agg (S.z.map C.d),.l (d.map J.z),.s t] h K:=by
 refine Z5.jE func77 rfl kR λv=>?_;refine Z5.ov func77 ?_;unfold Vv at a;have⟨kk,G,a⟩:=a.bind;obtain rfl:kk=(k,true):=Option.some.inj (G.symm.trans q);simp;refine Zx ((AU S t).h (k,true) q) I ?_;simp;have⟨x,O,W,a⟩:=Is.get (show Is (Za S.q k _) _ from a);have⟨i,L,a⟩:=a.bind;simp[O,W];refine Zx ((No x).h i L) I ?_;simp;intro A;refine ZP a ?_ ?_<;>clear a<;>intro hc a;have n:=Zk a;obtain⟨rfl,rfl⟩:=Prod.mk.inj n;simp[ZS,ZK,ZX,W5];have f:∀h',Z0 h h' []->K (.tup [.agg (i.z.map C.d),.one .nil]) h':=λh' f=>z .nil h' (WT.xO f) (f.jA v);exact f _ sm;have⟨y,e,o,a⟩:=a.get;have⟨B,M,a⟩:=a.bind;have n:=Zk a;obtain⟨rfl,rfl⟩:=Prod.mk.inj n;simp;refine Z6.cu aG (λj e=>∃c,j.n=38/\j.get 6=.p (h.p+1,96)/\e.a (h.p+1,96)=some [C.d (D.str i.y),C.d (D.sl (List.map Col.z i.j)),C.d (D.sl (List.map Zg i.pk))]/\j.get 7=.one c/\WT h e [Bc] c (B.map (Z7 GV.z))) ?_ ?_;simp[e,o];obtain rfl:=Nn M;refine Zc (Z0t _ _ F _ λc h2 r m=>?_);have g:=r.same;have u:=g.2 (h.p+1,96) I I;simp at u;simp[e,o];refine⟨m,?_⟩;simp[e,o,u];refine Ze.of ⟨c,I,I,I,I,?_⟩;refine WT.wQ r (ls:=[(h.p+1,96)]) (Z0.refl.xV (.inl I)) I (Z0.xV (Z0.trans ?_ g) (.inr I)) (by simp<;>omega);exact sm;rintro j e ⟨c,U,P,R,Q,N⟩;simp[ZS,ZK,ZX,W5,U,P,R,Q];have⟨qs,p,X,A,f⟩:=N;exact z c _ ⟨qs,p,X,A,f⟩ (f.jA v)
def Kp(h:HS)(l:Z2)(A z:C)(M:Mp)(t:aA)(T:E)(a:List aE)(m:MpAt h l A z M)(H:Is (Vv M.src M.inp t) (T,a))(k:Int)(y:Is (Wg M.src t) (k,true))(w:∀row∈a,row.length<=2097152)(K:V->HS->Prop)
  (G:∀c g,WT h g [Bc] c (a.map (Z7 GV.z))->ZG h g->K (.tup [.agg (T.z.map C.d),.one c]) g):
  Z5 prog 201 [.p l,.s t] h K:=by
 refine Z5.jE func201 rfl kR λF=>?_;refine Z5.ov func201 ?_;have v:=m.a;have q:=m.lt l (Y8 ..);have n:=Zv q;have b:=W1 q;simp only[WJ,Mp.z,Stp.z,Yb,Yf,Yt,Yv] at v;simp;refine Z6.cu aL (λe i=>∃c,e.n=18/\e.get 4=.p (h.p,64)/\i.a (h.p,64)=some (T.z.map C.d)/\e.get 5=.one c/\WT h i [Bc] c (a.map (Z7 GV.z))) ?_ ?_;simp[v,n,b];refine Zc (Z0u _ M.src M.inp t T a H k y w _ λc h2 u j=>?_);have d:=u.same;have f:=d.2 (h.p,64) I I;simp at f;simp[f];refine⟨j,?_⟩
 try simp[f]
 refine Ze.of ⟨c,I,I,I,I,?_⟩;exact WT.wQ u (ls:=[(h.p,64)]) (Z0.refl.xV (.inl I)) I (Z0.xV (Z0.trans ((Z0.refl.xV (.inr I)).w) d) (.inr I)) I;rintro e i ⟨c,J,B,x,D,r⟩;have o:=x;simp only[E.z,Yb,Yf] at o;simp[ZS,ZK,ZX,W5,J,B,o,D];exact G c _ r (r.same.jA F)
def Z08{h:HS}{d l:Z2}{m:List aC}{t A c k a:Nat}{j:aD}(q:h.arr d=some (t,A))(am:0<t)(r:h.a l=some j)(h0:0<j.length):
  Fg prog 222 [.one (.own d m),.one (.mrow l c k a)] h (.b false):=by
 intro Γ μ w vals hI hR;have⟨y,B⟩:=hR;have⟨F,M,Q⟩:=B 0 _ rfl;have⟨G,J,R⟩:=B 1 _ rfl;have P:vals=#[F,G]:=by
  apply XZ;intro i
  match i with
  |0=>simpa using M
  |1=>simpa using J
  |i+2=>rw[Xw (by simp at y;omega)];simp
 subst P;obtain⟨_,g,n,x,rfl⟩:=(show We μ (.own d m) F from Q);obtain⟨b,kk,E,rfl,_⟩:=(show We μ (.mrow l c k a) G from R);refine⟨.bool false,?_,RepD.bool _⟩;rw[run_callFunc_extern (fn:=f222) func222 kR kR kR (e:=Extern.SlicesOverlaps.overlaps #[57,57] #[4]) kR];have⟨b2,n2,I,CN,f,_,K,L,_⟩:=hI.a l j r;rw[E] at f;cases f;have⟨gc,v,u⟩:=hI.arr d A t q;rw[x] at v;cases v;cases g with|none=>?_|some g=>?_
 have:=(u.1 rfl).2
 omega;have⟨_,H,p,o,_⟩:=u.2 g rfl;have s:g≠b:=by
  rintro rfl
  have:=hI.inj d l g n kk (.inr (by rw[q];simp)) (.inl (by rw[r];simp)) x E
  subst this;exact hI.both d (by rw[r];simp) (by rw[q];simp)
 have al:CN.size=j.length:=L.1;have⟨i,z,O,N,y,_⟩:=Ae QF;show Result.andThen (Sem.run prog (Extern.SlicesOverlaps.overlaps #[57,57] #[4] #[.slice (some ⟨g,0,none⟩) m.length n,.slice (some ⟨b,c,none⟩) k a]) w) _=_;rw[Lib.run_overlaps_apart w 57 4 97 O i.size (λw=>by simp[sizeOf,typeInfo,N]) ⟨g,0,none⟩ ⟨b,c,none⟩ m.length n k a s H I p.size CN.size (by simp[World.shape?,o]) (by simp[World.shape?,K]) X (by simp[World.frozen?,o]) (by simp[World.frozen?,o])];rfl
def Ra{h:HS}{n:Nat}{l:Z2}{a m:Nat}{d:List aD}{cs sp:aD}(b:Zy n d)(f:h.a l=some cs)(e:cs=d.flatten++sp)(g:cs.length=a*n)(i:d.length=m)(c:d.length<=2097152):MR h n (.mrow l 0 m a) d:=by subst e i;exact⟨b,c,.inr ⟨l,a,sp,rfl,f,g⟩⟩
def Ku{h:HS}{n:Nat}{l:Z2}{cs r:aD}{a k b:Nat}(c:h.a l=some cs)(hk:a+k*n<=cs.length)(d:(cs.drop a).take (k*n)=r):Wz h n (.mrow l a k b)=some r:=by simp only[Wz,c,Zs];rw[if_pos sO,d]
set_option maxHeartbeats 4000000 in
def TM(h:HS)(c:C)(b:List aD)(lv:Z2)(d:aC)(i:Nat)(O:MR h 3 c b)(a7:∀k∈Z c,k.1<h.p)(hi:i<=b.length)(ha:h.arr lv=some (1,3))(U:d.length=3)(hlim:b.length+1<=2097152)(K:V->HS->Prop)
  (Y:∀T h',MR h' 3 T (b.take i++[d.map C.d]++b.drop i)->Z0 h h' (Z c)->(∀k∈Z T,k∈Z c\/(h.p<=k.1/\k.1<h'.p))->K (.one T) h'):
  Z5 prog 204 [.one c,.i (i:Int),.one (.own lv [d])] h K:=by
 refine Z5.ov func204 ?_;have F:(d.map C.d).length=3:=by simp[U]
 have ag:Zy 3 (b.take i++[d.map C.d]++b.drop i):=by refine Zy.append.2 ⟨Zy.append.2 ⟨O.1.take,by intro x hx;rwa [Yj.1 hx]⟩,O.1.drop⟩
 rcases O.2.2 with⟨y,bf⟩|⟨l,g,sp,rfl,R,v⟩
 .subst y;obtain rfl:i=0:=sU hi;rcases bf with rfl|rfl
  all_goals
   simp;refine Oo Zq0 ?_;refine Wl QE kR dE dE O (Zr.qU U) I (λT h' ao ap N=>?_);simp;exact Y _ _ (sU ao) ap N
 obtain⟨A,hA⟩:∃A,(b.take i).flatten=A:=⟨_,rfl⟩;obtain⟨B,hB⟩:∃B,(b.drop i).flatten=B:=⟨_,rfl⟩;have j:A.length=i*3:=by rw[<-hA,(Zy.take O.1).flatten,YA,Nat.min_eq_left hi]
 have u:B.length=(b.length-i)*3:=by rw[<-hB,(Zy.drop O.1).flatten,Xm]
 have hF:b.flatten=A++B:=by rw[<-hA,<-hB,<-XN,Yy]
 have am:∀s:aD,(b.take i++[d.map C.d]++b.drop i).flatten++s=A++d.map C.d++B++s:=by intro s;rw[XN,XN,hA,hB];simp
 have S:(b.take i++[d.map C.d]++b.drop i).length=b.length+1:=sO;rw[Zb,hF] at R v;simp only[Ye,j,u] at v;generalize hV0:d.map C.d=V0 at Y F ag am S;simp;refine V3 ⟨X,X⟩ (λ_=>?_) (λ_=>?_)
 all_goals
  simp;refine BJ (λhe=>?_) (λhe=>?_);have az:i=b.length:=by simp at he;omega
  subst az;simp;refine Oo Zq0 ?_;refine Wl QE kR dE dE O (Zr.qU U) sO (λT h' ao ap N=>?_);simp;exact Y _ _ (by simpa[hV0] using ao) ap N;have az:i<b.length:=by
   have:(i:Int)≠b.length:=sU he
   omega
  have p:IntKind.i64.wrap ((b.length:Int)+1)=(b.length:Int)+1:=Y6 _ X;have q:IntKind.i64.wrap ((i:Int)+1)=(i:Int)+1:=Y6 _ X;simp[p];refine Pr QE ?_;simp[p,q];refine Vy (λhlt=>?_) (λhge=>?_);have bg:g<b.length+1:=X
  have W:i<=g:=X;have hc0:0<g:=X;have J:IntKind.i64.wrap ((b.length:Int)+1-i)=(b.length:Int)+1-i:=Y6 _ X;simp[p,q,J];refine V3 X (λ_=>?_) (λo=>absurd hc0 (sU o));simp[p,q,J];have E:i+((b.length:Int)+1-i).toNat=b.length+1:=X
  refine OX QE dE (kk:=.i64) rfl kR dE dE X (by show(i:Int)+_<=2097152;omega) X (old:=A) (Ku R (by simp only[Ye,j,u];omega) (by rw[XU,Yz,<-j];simp)) j (λf au=>?_);rw[E] at au|-;have ay:i<f:=X
  simp[p,q,J];refine V3 X (λ_=>?_) (λo=>absurd ay (sU o));simp[p,q,J];have G:(0:Int)<=(i:Int)+1:=X
  refine Pm Zq0 ?_;refine Cu (n:=3) (new:=V0) (m:=1) (mk:=1) (cs':=A++V0++List.replicate ((f-i)*3-3) .any) QE (by simp[Wz,C.qE,U,hV0]) (by simp[Wd,C.qE]) (by simp;rfl) dE (sU F) (by simp only[Ye,Xi,j];omega) X (by rw[YD X,C6 j.symm,F];simp) ?_;simp[p,q,J];refine Z6.cu aG (λz y=>z.n=95/\z.get 9=.one (.mrow (h.p,640) 0 (b.length+1) f)/\y.a (h.p,640)=some (A++V0++B++List.replicate ((f-(b.length+1))*3) .any)/\Z0 h y []/\h.p<y.p) ?_ ?_;simp[p,q,J];simp only[G,if_true];refine V3 sO (λ_=>?_) (λo=>absurd (X:i+1<f) (sU o));simp[p,q,J];refine V3 X (λ_=>?_) (λo=>absurd (X:i<g) (sU o));simp[p,q,J];have ax:l.1<h.p:=a7 l (by simp[Z]);have hne:l≠(h.p,640):=by rintro rfl;simp at ax
  refine Cu (n:=3) (new:=B) (m:=b.length-i) (mk:=b.length-i) (cs:=A++V0++List.replicate ((f-i)*3-3) .any) (cs':=A++V0++B++List.replicate ((f-(b.length+1))*3) .any) QE
   (Ku (cs:=A++B++sp) (by simp[hne,R]) (by simp only[Ye,j,u];omega) (by rw[Yz,<-j,Y3r,<-u,Y3s])) rfl I dE u (by simp only[Ye,Xi,j,F];omega) X ?_ ?_
  rw[<-u,YD (Y7 _),C6 (a:=A++V0) (by simp only[Ye,j,F];omega),u];have e9:(f-i)*3-3-(b.length-i)*3=(f-(b.length+1))*3:=X
  simp[e9];refine Ze.of ?_;simp;exact(((Z0.refl.xV (.inr I)).w).xV (.inr I)).xV (.inr I);rintro z y ⟨hn,o,aw,ar,bi⟩;simp[hn,o];refine Y _ _ ?_ (ar.mn) (by simp[Z];exact .inr X);exact Ra ag aw (am _).symm (by simp only[Ye,Xi,j,u,F];omega) S (by rw[S];omega);have bh:b.length+1<=g:=X
  have W:i<g:=X;have G:(0:Int)<=(b.length:Int)+1:=X;have M:(0:Int)<=(i:Int)+1:=X;have E:((b.length:Int)+1).toNat=b.length+1:=X;simp[p,q,G,M,E];refine V3 X (λ_=>?_) (λo=>absurd (X:0<g) (sU o));simp[p,q,G,M,E];refine V3 X (λ_=>?_) (λo=>absurd (X:i+1<g) (sU o));simp[p,q,G,M,E];refine Rm (Z08 ha dE R (by simp only[Ye,j,u];omega)) ?_;simp[p,q,G,M,E];obtain⟨t,e,rfl,P⟩:∃t e,sp=t++e/\t.length=3:=⟨sp.take 3,sp.drop 3,(Yy _ _).symm,by rw[YA];omega⟩;simp only[Ye,P] at v;have ax:l.1<h.p:=a7 l (by simp[Z]);obtain⟨r,w,rfl,Q⟩:∃r w,B=r++w/\r.length=3:=⟨B.take 3,B.drop 3,(Yy _ _).symm,by rw[YA];omega⟩;have aq:w.length=(b.length-i)*3-3:=by simp only[Ye,Q] at u;omega
  have L:=u;generalize hBB:r++w=BB at L am;refine Z6.cu aG (λz y=>z.n=95/\z.get 0=.one (.mrow l 0 (b.length+1) g)/\z.get 1=.i (i:Int)/\z.get 2=.one (.own lv [d])/\y.a l=some (A++r++BB++e)/\Z0 h y [l]) ?_ ?_;simp[p,q,G,M,E];refine V3 X (λ_=>?_) (λo=>absurd (X:i+1<g) (sU o));simp[p,q,G,M,E];refine V3 X (λ_=>?_) (λo=>absurd (X:i<g) (sU o));simp[p,q,G,M,E];refine Cu (n:=3) (new:=BB++t) (m:=b.length+1-i) (mk:=b.length-i) (cs:=A++(r++w)++(t++e)) (cs':=A++r++BB++e) QE
   (Ku (cs:=A++(r++w)++(t++e)) (by simp[R]) (by simp only[Ye,j,Q,aq,P];omega) (by
    rw[hBB,Yz,<-j,Y3r,<-Yz]
    have:(b.length+1-i)*3=(BB++t).length:=by simp only[Ye,L,P];omega
    rw[this,Y3s])) rfl (by simp[R]) dE (by simp only[Ye,L,P];omega) (by simp only[Ye,j,Q,aq,P];omega) X ?_ ?_
  have bc:(BB++t).take ((b.length-i)*3)=BB:=by rw[<-L,Y3s]
  have a8:A++(r++w)++(t++e)=(A++r)++(w++t++e):=I;have bd:(w++t++e).drop BB.length=e:=by
   have:BB.length=(w++t).length:=by rw[L];simp only[Ye,aq,P];omega
   rw[this,Y3r]
  rw[bc,a8,C6 (by simp only[Ye,j,Q];omega),bd];refine Ze.of ?_;simp;exact Z0.refl.xV (.inl I);rintro z y ⟨hn,h0,a1,h2,aw,ar⟩;simp[hn,h0,a1,h2];refine V3 X (λ_=>?_) (λo=>absurd W (sU o));simp[hn,h0,a1,h2];refine Pm Zq0 ?_;refine Cu (n:=3) (new:=V0) (m:=1) (mk:=1) (cs:=A++r++BB++e) (cs':=A++V0++BB++e) QE (by simp[Wz,C.qE,U,hV0]) (by simp[Wd,C.qE]) (by simp[aw]) dE (sU F) (by simp only[Ye,j,Q,L];omega) X ?_ ?_;have bb:A++r++BB++e=A++(r++BB++e):=I
  have ba:(r++BB++e).drop r.length=BB++e:=by rw[Yz,Y3r]
  rw[YD X,bb,C6 j.symm,F,<-Q,ba];simp;simp[hn,h0];refine Y _ _ ?_ ((ar.xV (.inl I)).mono (by simp[Z])) (by simp[Z]);exact Ra (cs:=A++V0++BB++e) (sp:=e) ag I (am _).symm (by simp only[Ye,j,L,F];omega) S (by rw[S];omega)
end
end Go.Am
section
namespace Go.Am
open Go.RowKit (Below)
section
variable{P:Program}{w:World}{a:Act}{e:Env}{h:HS}{μ:Mem}{Γ:Ctx}
def HS.only(h:HS)(b:List Z2):HS:={h with a:=λl=>if l∈b then h.a l else none,arr:=λ_=>none}
def HS.qP(h:HS)(b:List Z2):HS:={h with a:=λl=>if l∈b then none else h.a l}
open Classical in
noncomputable def Mem.frz (μ:Mem) (h:HS) (a:List Z2) (w:World):Mem:=
 {μ with cell:=λb o=>match μ.cell b o with
   |some v=>some v
   |none=>if∃l cs n,l∈a/\h.a l=some cs/\μ.loc l=some (some b,n) then w.cell? ⟨b,o,none⟩ else none}
def Mem.rF{c}{b o:Nat}{v}(a:(μ.frz h c w).cell b o=some v):μ.cell b o=some v\/((∃l cs n,l∈c/\h.a l=some cs/\μ.loc l=some (some b,n))/\w.cell? ⟨b,o,none⟩=some v):=by
 simp only[Mem.frz] at a;cases hx:μ.cell b o with
 |some y=>rw[hx] at a;exact .inl a
 |none=>?_
 rw[hx] at a;simp only at a;split at a;rename_i d;exact .inr ⟨d,a⟩;cases a
def Mem.rG{c}{b o:Nat}(d:μ.cell b o=none)(e:∀l a n,l∈c->h.a l=some a->μ.loc l=some (some b,n)->False):(μ.frz h c w).cell b o=none:=by simp only[Mem.frz,d];rw[if_neg];rintro⟨l,a,n,f,g,i⟩;exact e l a n f g i
def Mem.jG{d}:Mem.Le μ (μ.frz h d w):=⟨λb o v a=>by simp[Mem.frz,a],rfl,λ_ _ c=>c⟩
def Inv.only(c:Inv Γ h μ w)(e):Inv Γ (h.only e) μ w:=by
 have f:∀{l d},(h.only e).a l=some d->h.a l=some d:=by intro l d a;simp only[HS.only] at a;split at a;exact a;cases a
 have g:∀{l},(h.only e).live l->h.live l:=by
  rintro l (a|a);cases hx:(h.only e).a l with
  |none=>exact absurd hx a
  |some d=>exact .inl (by rw[f hx];simp)
  exact absurd rfl a
 exact⟨c.cell,c.tmp,c.tcell,c.told,c.ext,c.old,c.below,λl d a=>c.a l d (f a),λl es n a=>by simp[HS.only] at a,λl k b n m i j=>c.inj l k b n m (g i) (g j),c.lt,λl _ a=>a rfl⟩
def Inv.frz(a:Inv Γ h μ w)(i):Inv Γ (h.qP i) (μ.frz h i w) w:=by
 have x:∀{l e},(h.qP i).a l=some e->h.a l=some e/\l∉i:=by intro l e d;simp only[HS.qP] at d;split at d;cases d;exact⟨d,by assumption⟩
 have G:∀{l},(h.qP i).live l->h.live l:=by
  rintro l (d|d);cases hx:(h.qP i).a l with
  |none=>exact absurd hx d
  |some e=>exact .inl (by rw[(x hx).1];simp)
  exact .inr d
 refine⟨λb o v q=>?_,a.tmp,a.tcell,a.told,λb o v q=>Mem.jG.cell _ _ _ (a.ext _ _ _ q),λb o v z q=>?_,a.below,λl e d=>?_,λl E n d=>?_,λl r b n k c j=>a.inj l r b n k (G c) (G j),a.lt,λl c j=>?_⟩;rcases Mem.rF q with c|⟨_,c⟩;exact a.cell _ _ _ c;exact c;rcases Mem.rF q with c|⟨⟨l,e,n,_,m,A⟩,_⟩;exact a.old _ _ _ z c;have⟨b',k,T,f,c,j,_⟩:=a.a l e m;rw[A] at c;cases c;omega;have⟨c,j⟩:=x d;have⟨b,n,T,f,s,m,A,K,L⟩:=a.a l e c;refine⟨b,n,T,f,s,m,A,K.mono Mem.jG,λo=>Mem.rG (L o) λr t k B C D=>?_⟩
 have:=a.inj l r b n k (.inl (by rw[c];simp)) (.inl (by rw[C];simp)) s D
 subst this;exact j B;have⟨F,s,m⟩:=a.arr l E n d;refine⟨F,s,m.1,λg y=>?_⟩;have⟨B,T,u,C,D,M,N,O⟩:=m.2 g y;refine⟨B,T,u,C,D,M,N,λo J=>Mem.rG (O o J) λr t k s1 H P=>?_⟩;have p:h.arr l≠none:=by
  have:h.arr l=some (n,E):=d
  rw[this];simp
 have⟨g1,I⟩:=F;simp only at y;subst y
 have:=a.inj l r g I k (.inr p) (.inl (by rw[H];simp)) s P
 subst this;exact a.both l (by rw[H];simp) p;cases hx:(h.qP i).a l with
 |none=>exact c hx
 |some e=>exact a.both l (by rw[(x hx).1];simp) j
def Za7(g:Inv Γ h μ w)(d){c x v}(k:Frz (h.only d) c x)(j:We μ c v):RepD (μ.frz h d w).cell x v:=by
 refine Mb (g.only d) Mem.jG.cell (λl f b n o u a i hu=>?_) k j;simp only[HS.only] at a;split at a;rename_i m;have⟨b',n',T,conc,e,_,_,_,p⟩:=g.a l f a;rw[i] at e;simp only[Ya,YG] at e;obtain⟨rfl,_⟩:=e;simp only[Mem.frz,p o]
 rwa [if_pos ⟨l,f,n,m,a,i⟩]
 cases a
def CX(h:HS)(c a:C):Prop:=c=a\/∃x,a=.d x/\Frz h c x
def Aj(h:HS):aD->aD->Prop
 |[],[]=>True
 |c::cs,x::xs=>CX h c x/\Aj h cs xs
 |_,_=>False
def Uf(h:HS):V->V->Prop
 | .one c,.one c'=>CX h c c'
 | .agg a,.agg cs'=>Aj h a cs'
 |v,v'=>v=v'
def Cc(h:HS):List V->List V->Prop
 |[],[]=>True
 |v::vs,x::xs=>Uf h v x/\Cc h vs xs
 |_,_=>False
def Hh(h:HS):V->V->Prop
 | .tup a,.tup vs'=>Cc h a vs'
 |v,v'=>Uf h v v'
def Aj.get:∀{e a:aD},Aj h e a->e.length=a.length/\∀(i:Nat) d,a[i]?=some d->∃c,e[i]?=some c/\CX h c d
 |[],[],_=>⟨rfl,λi x b=>by simp at b⟩
 |c::e,y::xs,hr=>by
   have⟨f,g⟩:=Aj.get hr.2;refine⟨by simp[f],λi x b=>?_⟩;cases i with
   |zero=>simp at b;subst b;exact⟨c,I,hr.1⟩
   |succ i=>have⟨d,j,k⟩:=g i x (sU b);exact⟨d,sU j,k⟩
 |[],_::_,hr=>hr.elim
 |_::_,[],hr=>hr.elim
def Cc.get:∀{e a:List V},Cc h e a->e.length=a.length/\∀(i:Nat) d,a[i]?=some d->∃c,e[i]?=some c/\Uf h c d
 |[],[],_=>⟨rfl,λi x b=>by simp at b⟩
 |c::e,y::xs,hr=>by
   have⟨f,g⟩:=Cc.get hr.2;refine⟨by simp[f],λi x b=>?_⟩;cases i with
   |zero=>simp at b;subst b;exact⟨c,I,hr.1⟩
   |succ i=>have⟨d,j,k⟩:=g i x (sU b);exact⟨d,sU j,k⟩
 |[],_::_,hr=>hr.elim
 |_::_,[],hr=>hr.elim
def CX.rep(f:Inv Γ h μ w)(b){c d v}(a:CX (h.only b) c d)(e:We μ c v):We (μ.frz h b w) d v:=by rcases a with rfl|⟨x,rfl,a⟩;exact e.mono Mem.jG;exact Za7 f b a e
def Uf.wF(g:Inv Γ h μ w)(e){v b u}(a:Uf (h.only e) v b)(d:BO μ v u):BO (μ.frz h e w) b u:=by
 cases v with
 |one c=>cases b<;>first|exact CX.rep g e a d|cases a
 |agg cs=>?_
 |top=>cases b<;>first|trivial|cases a
 |undef=>cases b<;>first|exact d|cases a
 |tup j=>exact d.elim
 cases b with
 |agg cs'=>?_
 |_=>cases a
 have⟨j,l,f⟩:=d;have⟨m,n⟩:=Aj.get a;refine⟨j,l,by rw[f.1,m],λi k s=>?_⟩;have⟨c,o,p⟩:=n i k s;have⟨t,q,r⟩:=f.2 i c o;exact⟨t,q,p.rep g e r⟩
def Uf.rep(f:Inv Γ h μ w)(d){v b u}(a:Uf (h.only d) v b)(e:W6 μ v u):W6 (μ.frz h d w) b u:=by
 cases v with
 |tup vs=>cases b<;>first|(cases a;done)|(cases a;exact e.mono Mem.jG)
 |one c=>have:=Uf.wF f d a e;cases b<;>first|exact this|cases a
 |agg c=>have:=Uf.wF f d a e;cases b<;>first|exact this|cases a
 |top=>have:=Uf.wF (u:=u) f d a e;cases b<;>first|exact this|cases a
 |undef=>have:=Uf.wF f d a e;cases b<;>first|exact this|cases a
def Hh.rep(e:Inv Γ h μ w)(a){v b u}(d:Hh (h.only a) v b)(f:W6 μ v u):W6 (μ.frz h a w) b u:=by
 cases v with
 |tup vs=>?_
 |one c=>exact Uf.rep e a (by cases b<;>exact d) f
 |agg c=>exact Uf.rep e a (by cases b<;>exact d) f
 |top=>exact Uf.rep e a (by cases b<;>exact d) f
 |undef=>exact Uf.rep e a (by cases b<;>exact d) f
 cases b with
 |tup vs'=>?_
 |_=>cases d
 have⟨t,g,j,k⟩:=f;have⟨l,m⟩:=Cc.get d;refine⟨t,g,by rw[j,l],λi x r=>?_⟩;have⟨y,n,o⟩:=m i x r;have⟨s,p,q⟩:=k i y n;exact⟨s,p,o.wF e a q⟩
def CX.refl{c}:CX h c c:=.inl rfl
def Uf.refl{v}:Uf h v v:=by
 have b:∀a:aD,Aj h a a:=by intro a;induction a with|nil=>trivial|cons c a d=>exact⟨.refl,d⟩
 cases v<;>first|exact .inl rfl|exact b _|rfl
def Z5.jP{f:FuncId}{c vs' K}(a)(p:Cc (h.only a) c vs')(b:Z5 P f vs' (h.qP a) K):Z5 P f c h K:=by
 refine⟨b.1,λΓ μ w vals hI hR=>?_⟩;have⟨j,k⟩:=Cc.get p;refine(b.2 Γ (μ.frz h a w) w vals (hI.frz a) ⟨by rw[hR.1,j],λi x q=>?_⟩).mono ?_;have⟨y,l,m⟩:=k i x q;have⟨t,n,o⟩:=hR.2 i y l;exact⟨t,n,m.rep hI a o⟩;rintro en w' ⟨u,v,g,μ',rfl,r,d,s,e⟩;exact⟨u,v,g,μ',rfl,r,d,s,Mem.jG.trans e⟩
def Z5.rP{f:FuncId}{g}{K:V->HS->Prop}(e:Z5 P f g h (λv c=>∃a b,Hh (c.only a) v b/\K b (c.qP a))):Z5 P f g h K:=by
 refine⟨e.1,λΓ μ w vals hI hR=>?_⟩;refine(e.2 Γ μ w vals hI hR).mono ?_;rintro en w' ⟨u,v,c,μ',rfl,⟨a,b,j,k⟩,d,l,i⟩;exact⟨u,b,_,_,rfl,k,d.frz a,j.rep d a l,i.trans Mem.jG⟩
end
end Go.Am
end
namespace Go.Am
section
def AS(m:Mp)(table:aA):aB E:=
 Z1 (Wg m.dst table) λv2=>Za m.dst.q v2.1 λx3=>some x3
instance Zgo(m:Mp)(table:aA):Con (AS m table) prog 202 [.one (.rp m.z),.one (.d (.str table))] (λr=>.agg (r.z.map RC.d)):=by unfold AS;exact go 24 func202
def Bq(m:Mp)(key:aE):aB (aE×Bool):=
 Za m.cs.q 0 λx1=>Za m.comp 0 λx3=>Z1 (A7 x1 x3.rows key) λv4=>bif !v4.2 then some ([],false) else Za x3.rows v4.1 λx6=>Zp (0<=(x1.pk.length:Int)/\(x1.pk.length:Int)<=(x6.length:Int)/\(x6.length:Int)<=(x6.length:Int)) (Z1 (Ee ((x6.take x6.length).drop x1.pk.length)) λv9=>some (v9,true))
instance Zgp(m:Mp)(key:aE):Con (Bq m key) prog 203 [.one (.rp m.z),.one (.d (.sl (key.map GV.z)))] (λr=>.tup [.one (.d (.sl (r.1.map GV.z))),.one (.d (.bool r.2))]):=by unfold Bq;have p1:PH [6] (Y.qB aQ .done):=.intro;exact go 42 func203
def F7(a:List aE):Prop:=a.length<=2097152/\∀row∈a,row≠[]/\row.length<=2097152
instance(rows:List aE):Decidable (F7 rows):=inferInstanceAs (Decidable (_/\_))
abbrev WA(row:aE):List aD:=(row.map GV.z).map (·.map C.d)
def Zdb{h x a l}(o:Ow h [Bc] [x] [.sl (a.map GV.z)] l)(g:a≠[]):MR h 3 x (WA a)/\l=Z x:=by
 rcases o.jT with⟨c,cs,ds,_,e,_⟩|⟨c,qs,cs',ab,ls',i,e,r,k,s,t⟩;simp at e;exact absurd e.1 g;obtain⟨rfl,rfl,rfl⟩:=t.qV;simp only[List.cons.injEq,and_true,D.sl.injEq] at i e;subst i;have j:=λq b=>(s q b).flat (n:=3) rfl λd f=>by
  have:q.2.1∈a.map GV.z:=by rw[e];exact Yi.2 ⟨q,b,rfl⟩
  have⟨v,_,u⟩:=Yi.1 this;rw[<-u] at f;simp at f;rcases f with rfl|rfl|rfl<;>rfl
 have m:qs.map (·.1)=WA a:=by
  rw[WA,e,YY];exact YN λq b=>(j q b).1
 have p:qs.flatMap (·.2.2)=[]:=by
  rw[XT];exact λq b=>(j q b).2
 rw[m] at k;exact⟨k,by rw[r,p];simp⟩
def Dx{h c a}(m:MR h 3 c (WA a)):Frz h c (.sl (a.map GV.z)):=(Qy m).frz.1
structure Rest(h:HS)(c:C)(qs:List NQ)(rows:List (List GV))(i:Nat):Prop where
 mr:MR h 1 c (qs.map (·.1))
 ds:qs.map (·.2.1)=rows.map (Z7 GV.z)
 ow:∀j q,i<=j->qs[j]?=some q->Ow h [Bc] q.1 q.2.1 q.2.2
def Rest.of{h b c a}(g:WT h b [Bc] c (a.map (Z7 GV.z))):∃qs,Rest b c qs a 0/\(Z4 c qs).Nodup/\∀k∈Z4 c qs,h.p<=k.1/\k.1<b.p:=by
 have⟨qs,p,f,d,_⟩:=g;exact⟨qs,⟨p.mr,p.ds,λj q _ e=>p.ow q (Y2 e)⟩,f,d⟩
def Rest.frame{h h' c qs a}{i:Nat}(r:Rest h c qs a i)(d:∀k∈Z4 c qs,h'.a k=h.a k):Rest h' c qs a i:=
 ⟨r.mr.frame λl b=>d l (by simp[Z4,b]),r.ds,λj q f e=>(r.ow j q f e).frame λl b=>d l (UJ e b)⟩
def Rest.at{h c qs b}{i:Nat}(r:Rest h c qs b i)(y:(Z4 c qs).Nodup)(v:∀row∈b,row≠[])(hi):
  ∃lr cap sp x,qs[i]?.map (·.1)=some [x]/\c=.mrow lr 0 b.length cap/\h.a lr=some (Zb (qs.map (·.1)) sp)/\Zs 1 ((Zb (qs.map (·.1)) sp).drop (i*1))=some [x]/\MR h 3 x (WA b[i])/\(∀k∈Z x,k∈Z4 c qs/\k≠lr)/\
    ∀t,(∀k∈Z4 c qs,k∉Z x->t.a k=h.a k)->Rest t c qs b (i+1):=by
 have n:qs.length=b.length:=by have:=congrArg List.length r.ds;simpa using this
 have e:qs[i]?=some qs[i]:=Y1 X;have w:=r.ow i _ (Y7 _) e;have hd:qs[i].2.1=[.sl (b[i].map GV.z)]:=by
  have:=congrArg (λz=>z[i]?) r.ds
  simp only[Y9,e,Y1 hi,Yp,Ya] at this;exact this
 have⟨lr,cap,sp,hc,hb,hcap⟩:=r.mr.block sO;have A:qs[i].1.length=1:=r.mr.1 _ (Yi.2 ⟨_,Yh _,rfl⟩);obtain⟨x,hx⟩:∃x,qs[i].1=[x]:=by
  match _:qs[i].1,A with
  |[x],_=>exact⟨x,rfl⟩
 rw[hd,hx] at w;have⟨hm,s⟩:=Zdb w (v _ (Yh hi));have o:∀k∈Z x,k∈Z4 c qs/\k∉Z c:=λk u=>⟨UJ e (by rwa [s]),BC y e (by rwa [s])⟩;refine⟨lr,cap,sp,x,by rw[e,Yp,hx],by simpa[n] using hc,hb,?_,hm,λk u=>⟨(o k u).1,λhe=>(o k u).2 (by rw[hc];simp[Z,he])⟩,λt g=>⟨?_,r.ds,λj q hj p=>?_⟩⟩
 have:=VH (sp:=sp) (f:=0) (m:=1) r.mr.1 (by rw[Y9,e,Yp,hx]) I
 simpa[Zs] using this;exact r.mr.frame λl hl=>g l (by simp[Z4,hl]) λh9=>(o l h9).2 hl;exact(r.ow j q X p).frame λl hl=>g l (UJ p hl) λh9=>(Gc y e p X hl).2 (by rwa [s])
structure LM(h0 h3:HS)(bs:List (Z2×List C))(c:C)(qs:List NQ)(rows:List (List GV))(gs:List (C×List (List GV)))(i:Nat)(h:HS):Prop where
 a:∀b∈bs,h.a b.1=some b.2
 rest:Rest h c qs rows i
 row:∀g∈gs,MR h 1 g.1 (Zw (g.2.map rowc))
 same:Z0 h0 h []
 p:h3.p<=h.p
 lab:∀g∈gs,∀k∈Z g.1,h3.p<=k.1/\k.1<h.p
 dis:(gs.flatMap λg=>Z g.1).Nodup
 sb:∀b∈bs,b.1.1<h3.p/\b.1∉Z4 c qs
 sq:∀k∈Z4 c qs,h0.p<=k.1/\k.1<h3.p
 nd:(Z4 c qs).Nodup
 s0:h0.p<=h3.p
 ne:∀row∈rows,row≠[]
def LM.new{o q h h' l c qs d n}{i:Nat}(m:LM o q l c qs d n i h)(f:Z0 h h' []):LM o q l c qs d n i h' where
 a:=λb r=>(f.2 _ (Y4 (m.sb b r).1 m.p) I).trans (m.a b r)
 rest:=m.rest.frame λk e=>f.2 k (Y4 (m.sq k e).2 m.p) I
 row:=λg j=>(m.row g j).frame λk e=>f.2 k (m.lab g j k e).2 I
 same:=m.same.trans f
 p:=YE m.p f.1
 lab:=λg j k e=>⟨(m.lab g j k e).1,Y4 (m.lab g j k e).2 f.1⟩
 dis:=m.dis
 sb:=m.sb
 sq:=m.sq
 nd:=m.nd
 s0:=m.s0
 ne:=m.ne
def LM.at{g e h bs c qs}{b:List aE}{f:List (C×List aE)}{i:Nat}(m:LM g e bs c qs b f i h)(hi):
  ∃lr cap sp x,qs[i]?.map (·.1)=some [x]/\c=.mrow lr 0 b.length cap/\h.a lr=some (Zb (qs.map (·.1)) sp)/\Zs 1 ((Zb (qs.map (·.1)) sp).drop i)=some [x]/\MR h 3 x (WA b[i])/\∀k∈Z x,k.1<e.p:=by
 have⟨lr,cap,sp,x,hx,j,n,o,p,q,_⟩:=m.rest.at m.nd m.ne hi;exact⟨lr,cap,sp,x,hx,j,n,sU o,p,λk r=>(m.sq k (q k r).1).2⟩
def LM.jN{g j h bs c qs b f}{i:Nat}(m:LM g j bs c qs b f i h)(hi){x}(hx:qs[i]?.map (·.1)=some [x]):MR h 3 x (WA b[i]):=by have⟨_,_,_,x',e,_,_,_,k,_⟩:=m.at hi;rw[hx] at e;cases e;exact k
def LM.use{t u h p bs c qs f}{o:List (C×List aE)}{i:Nat}{x:C}(m:LM t u bs c qs f o i h)(hi:i<f.length)(hx:qs[i]?.map (·.1)=some [x])(n:Z0 h p (Z x)):LM t u bs c qs f o (i+1) p:=by
 have⟨lr,cap,sp,x',s,h1,h2,h4,h5,q,v⟩:=m.rest.at m.nd m.ne hi;rw[hx] at s;cases s;have r:∀g∈o,∀k∈Z g.1,k∉Z x:=λg r k e h9=>by
  have:=(m.lab g r k e).1
  have:=(m.sq k (q k h9).1).2
  omega
 exact⟨λb hb=>(n.2 _ (Y4 (m.sb b hb).1 m.p) λh9=>(m.sb b hb).2 (q _ h9).1).trans (m.a b hb),v p λk e w=>n.2 k (Y4 (m.sq k e).2 m.p) w,
  λg j=>(m.row g j).frame λk e=>n.2 k (m.lab g j k e).2 (r g j k e),m.same.trans' n λk e=>.inr (m.sq k (q k e).1).1,YE m.p n.1,
  λg j k e=>⟨(m.lab g j k e).1,Y4 (m.lab g j k e).2 n.1⟩,m.dis,m.sb,m.sq,m.nd,m.s0,m.ne⟩
def LM.skip{e f h b c qs a d}{i:Nat}(m:LM e f b c qs a d i h):LM e f b c qs a d (i+1) h:=
 {m with rest:=⟨m.rest.mr,m.rest.ds,λj q hj g=>m.rest.ow j q X g⟩}
def LM.set{Q K h J P c z qs x q}{v:List (C×List aE)}{i j:Nat}{g}(m:LM Q K P c qs x v i h)(M:v[j]?=some g)(Y:MR J 1 z (Zw (q.map rowc)))(E:Z0 h J (Z g.1))(N:∀k∈Z z,k∈Z g.1\/(h.p<=k.1/\k.1<J.p)):
  LM Q K P c qs x (v.set j (z,q)) i J:=by
 have W:=Y2 M;have V:=(Y0.1 M).1;have o:=m.lab g W;have T:∀(l r:Nat) d u,v[l]?=some d->v[r]?=some u->l≠r->∀k∈Z d.1,k∉Z u.1:=by
  have U:∀(p:List (C×List aE)),(p.flatMap λg=>Z g.1).Nodup->∀(l r:Nat) d u,p[l]?=some d->p[r]?=some u->l≠r->∀k∈Z d.1,k∉Z u.1:=by
   intro p
   induction p with
   |nil=>intro _ l r d u f;simp at f
   |cons y ys ih=>?_
   intro s l r d u f G D k n e;rw[YI,Yk] at s;cases l with|zero=>?_|succ l=>?_;cases r with
   |zero=>exact D rfl
   |succ r=>?_
   simp at f G;subst f;exact s.2.2 k n k (YH.2 ⟨u,Y2 G,e⟩) rfl;cases r with
   |zero=>?_
   |succ r=>exact ih s.2.1 l r d u (sU f) (sU G) X k n e
   simp at f G;subst G;exact s.2.2 k e k (YH.2 ⟨d,Y2 f,n⟩) rfl
  exact U v m.dis
 have O:∀l d,(v.set j (z,q))[l]?=some d->(l=j/\d=(z,q))\/(l≠j/\v[l]?=some d):=by
  intro l d f;rw[XW] at f;by_cases A:j=l;subst A;simp[V] at f;exact .inl ⟨rfl,f.symm⟩;rw[if_neg A] at f;exact .inr ⟨λe=>A e.symm,f⟩
 refine⟨λb w=>(E.2 _ (Y4 (m.sb b w).1 m.p) λe=>?_).trans (m.a b w),m.rest.frame λk n=>E.2 k (Y4 (m.sq k n).2 m.p) λe=>?_,λd t=>?_,m.same.trans' E λk n=>.inr ?_,YE m.p E.1,λd t k n=>?_,?_,m.sb,m.sq,m.nd,m.s0,m.ne⟩
 have:=(o _ e).1
 have:=(m.sb b w).1
 omega
 have:=(o _ e).1
 have:=(m.sq k n).2
 omega;have⟨l,F⟩:=Xh t;rcases O l d F with⟨_,rfl⟩|⟨D,f⟩;exact Y;exact(m.row d (Y2 f)).frame λk n=>E.2 k (m.lab d (Y2 f) k n).2 (T l j d g f M D k n)
 have:=(o k n).1
 have:=m.s0
 omega;have⟨l,F⟩:=Xh t;rcases O l d F with⟨_,rfl⟩|⟨_,f⟩;rcases N k n with e|e;exact⟨(o k e).1,Y4 (o k e).2 E.1⟩;exact⟨YE m.p e.1,e.2⟩
 have:=m.lab d (Y2 f) k n
 exact⟨this.1,Y4 this.2 E.1⟩
 
 have S:∀(p:List (C×List aE)) j,p[j]?=some g->(p.flatMap λg=>Z g.1).Nodup->(∀d∈p,∀k∈Z d.1,k.1<h.p)->((p.set j (z,q)).flatMap λg=>Z g.1).Nodup/\∀k∈((p.set j (z,q)).flatMap λg=>Z g.1),k∈(p.flatMap λg=>Z g.1)\/h.p<=k.1:=by
  intro p
  induction p with
  |nil=>intro j f;simp at f
  |cons y ys ih=>?_
  intro j f s B;rw[YI,Yk] at s;cases j with|zero=>?_|succ j=>?_;simp at f;subst f;rw[List.set_cons_zero,YI,YI];refine⟨Yk.2 ⟨Vx,s.2.1,λa L b w A=>?_⟩,λk n=>?_⟩;subst A;rcases N a L with e|e;exact s.2.2 a e a w rfl;have⟨d,t,F⟩:=YH.1 w
  have:=B d (by simp[t]) a F
  omega;rcases Y3.1 n with e|e;rcases N k e with H|H;exact .inl (YV _ H);exact .inr H.1;exact .inl (Xj _ e);rw[List.set_cons_succ,YI,YI];have⟨K,R⟩:=ih j (sU f) s.2.1 λd t=>B d (by simp[t]);refine⟨Yk.2 ⟨Vx,K,λa L b w A=>?_⟩,λk n=>?_⟩;subst A;rcases R a w with e|e;exact s.2.2 a L a e rfl
  have:=B y I a L
  omega;rcases Y3.1 n with e|e;exact .inl (YV _ e);exact(R k e).imp (λH=>Xj _ H) id
 exact(S v j M m.dis λd t k n=>(m.lab d t k n).2).1
def LM.app{P q k}{e u:Nat}{l n h f c r qs rows d}{i:Nat}{g row K}(j:Nat)(m:LM l n f c qs rows d i h)(o:d[j]?=some g)(s:ZC P q=some (k,1,e))(A:(W3 P k).isSome=true)(v:e<=4096)
  (z:Zr h 1 r [[rowc row]])(x:g.2.length+1<=Zz)(w:∀b a,LM l n f c qs rows (d.set j (b,g.2++[row])) i a->Z0 h a (Z g.1)->K (.one b) a):Ud P q g.1 r u h (K:=⟨K⟩):=by
 exact Wl s A dE v (m.row g (Y2 o)) z (by simpa[Zw] using x) λb a y p t=>(w b a (m.set o (by simpa[Zw] using y) p t) p)
def Zr.rowc{h l b a}(c:b=a.map GV.z):Zr h 1 (.own l [[.sl b]]) [[rowc a]]:=by subst c;exact Zr.qU rfl
def I5{d:Nat}{e h l f g c M t a n}(m:MpAt h l f g M)(v:MR h 1 c (Zw (a.map rowc)))(r:∀k∈Z c,k∉l::(Z f++Z g))
  (u:∀i,MpAt i l f g {M with out:=Zt t a M.out}->Z0 h i (Z c++Z f)->n (e.put (some d) (.tup [])) i):Vb prog 205 [] [.p l,.s t,.one c] d e h (K:=⟨n⟩):=by
 have x:Z0 h (h.qP (Z c)) (Z c):=⟨Y7 _,λk _ w=>by simp only[HS.qP];rw[if_neg w]⟩;have j:∀k∈l::(Z f++Z g),(h.qP (Z c)).a k=h.a k:=λk b=>by
  simp only[HS.qP];rw[if_neg λq=>r k q b]
 have y:MpAt (h.qP (Z c)) l f g M:=⟨by rw[j l I];exact m.a,m.out.frame λk b=>j k (by simp[b]),m.nc.frame λk b=>j k (by simp[b]),m.lt,m.nl⟩;refine Zc ?_;simp only[Yf,Ym];refine Z5.jP (vs':=[.p l,.s t,.l (a.map (Z7 GV.z))]) (Z c) ⟨.refl,.refl,.inr ⟨_,rfl,Dr (v.frame λk b=>by simp only[HS.only];rw[if_pos b])⟩,trivial⟩ (Ka _ l f g _ M t a y rfl _ λi z o=>?_);exact u i z ((x.mono (by simp+contextual)).trans (o.mono (by simp+contextual)))
def K5{d:Nat}{e h l g f c M t a n}(m:MpAt h l g f M)(v:MR h 1 c (Zw (a.map rowc)))(r:∀k∈Z c,k∉l::(Z g++Z f))
  (u:∀i,MpAt i l g f {M with nc:=Zt t a M.nc}->Z0 h i (Z c++Z f)->n (e.put (some d) (.tup [])) i):Vb prog 206 [] [.p l,.s t,.one c] d e h (K:=⟨n⟩):=by
 have x:Z0 h (h.qP (Z c)) (Z c):=⟨Y7 _,λk _ w=>by simp only[HS.qP];rw[if_neg w]⟩;have j:∀k∈l::(Z g++Z f),(h.qP (Z c)).a k=h.a k:=λk b=>by
  simp only[HS.qP];rw[if_neg λq=>r k q b]
 have y:MpAt (h.qP (Z c)) l g f M:=⟨by rw[j l I];exact m.a,m.out.frame λk b=>j k (by simp[b]),m.nc.frame λk b=>j k (by simp[b]),m.lt,m.nl⟩;refine Zc ?_;simp only[Yf,Ym];refine Z5.jP (vs':=[.p l,.s t,.l (a.map (Z7 GV.z))]) (Z c) ⟨.refl,.refl,.inr ⟨_,rfl,Dr (v.frame λk b=>by simp only[HS.only];rw[if_pos b])⟩,trivial⟩ (K2 _ l g f _ M t a y rfl _ λi z o=>?_);exact u i z ((x.mono (by simp+contextual)).trans (o.mono (by simp+contextual)))
def Ik(h x a v f)(n:Nat)(kk:Int)(r:kk=n)(w:MR h 3 x (WA a))(q:∀k∈Z x,k.1<h.p)(y:n<=a.length)(t:h.arr f=some (1,3))(b:a.length+1<=2097152)(K)
  (e:∀c,Z0 h c (Z x)->K (.l ((a.take n++[v]++a.drop n).map GV.z)) c):
  Z5 prog 204 [.one x,.i kk,.one (.own f [v.z])] h K:=by
 subst r;refine Z5.rP (TM h x (WA a) f v.z n w q (by simpa[WA] using y) t rfl (by simpa[WA] using b) _ λm c g o u=>?_);refine⟨Z m,.l ((a.take n++[v]++a.drop n).map GV.z),.inr ⟨_,rfl,Dx ?_⟩,e _ ⟨o.1,λk p j=>?_⟩⟩;have s:(WA a).take n++[v.z.map C.d]++(WA a).drop n=WA (a.take n++[v]++a.drop n):=by simp[WA,XP,Xy]
 rw[s] at g;exact g.frame λk e=>by simp only[HS.only];rw[if_pos e]
 have d:k∉Z m:=λd=>by rcases u k d with h8|h8;exact j h8;omega
 simp only[HS.qP];rw[if_neg d];exact o.2 k p j
def OK(h x a)(n:Nat)(kk j:Int)(o:kk=n)(c:j=(n+1:Nat))(s:MR h 3 x (WA a))(af:∀k∈Z x,k.1<h.p)(t:n+1<=a.length)(K)
  (e:∀d,Z0 h d (Z x)->K (.l ((a.take n++a.drop (n+1)).map GV.z)) d):
  Z5 prog 207 [.one x,.i kk,.i j] h K:=by
 subst o c;refine Z5.rP (TN h x (WA a) n (n+1) s X (by simpa[WA] using t) _ λg d f r m ae b=>?_);refine⟨Z g,.l ((a.take n++a.drop (n+1)).map GV.z),.inr ⟨_,rfl,Dx ?_⟩,e _ ⟨by simp[HS.qP,m],λk _ c=>?_⟩⟩;have p:(WA a).take n++(WA a).drop (n+1)=WA (a.take n++a.drop (n+1)):=by simp[WA,XP,Xy]
 rw[p] at f;exact f.frame λk e=>by simp only[HS.only];rw[if_pos e]
 have q:k∉Z g:=by rw[b];exact c
 simp only[HS.qP];rw[if_neg q];exact r k c
end
end Go.Am
