import Derived.Test.YtfhpobpaahhfbaaGreatDoorK4
import Derived.Shelf.Strconv.Itoa3
import Derived.Lib.AppendIntMem
import Derived.Shelf.Strings.Cut
import Derived.Shelf.Strings.Search3
import Derived.Shelf.Strconv.AtoiAll
set_option linter.all false
set_option maxRecDepth 20000
open Go Go.Proofs
open Go.Proofs.Tryz
open ByteArray(empty)
open Go.IntKind(i64)
namespace Go.Am
section
def V7{α:Type}{P:Program}{f:FuncId}{j:List V}{g:List AV}{d:Nat}{e:Env}{h:HS}{l:Z2}{o n:C}{M:Mp}{a:Env->HS->Prop}{b:α->RV}{m:aB α}{x:α}(u:Is m x)[i:Con m P f (.one (.rp M.z)::g) b]
  (t:MpAt h l o n M)(c:Wi h j=some g)(s:a (e.put (some d) ((b x).toV h.p d)) ((h.qL d (b x).fr).w)):Vb P f [] (.p l::j) d e h (K:=⟨a⟩):=by
 have⟨cs,k,r⟩:=t.pre;exact Zc (sU (Z5.wE (K:=λv q=>a (e.put (some d) v) q) d (i.h x u) k r c s))
def Il{a:Nat}{b:aE}:RV.flat (.one (.fresh a 3 (b.map GV.z)))=true:=by simp[RV.flat,RV1.flat,RC.flat,D.flat]
def Jt{ρ:Type}(a:aE×Bool)(d:GV)(k:GV->aB ρ):aB ρ:=bif a.2 then Za a.1 0 k else k d
def Z5r{ρ:Type}{b:aE×Bool}{d:GV}{k:GV->aB ρ}{r:ρ}(a:Is (Jt b d k) r):∃v,Is (k v) r/\(b.2=true->b.1[0]?=some v)/\(b.2=false->v=d):=by
 unfold Jt at a;cases hs:b.2 with|true=>?_|false=>?_;rw[hs] at a;have⟨v,_,c,a⟩:=Is.get a;exact⟨v,a,λ_=>(sU c),λh=>(by cases h)⟩;rw[hs] at a;exact⟨d,a,λh=>(by cases h),λ_=>rfl⟩
def Wx(a b:GV):Bool:=!(a.g==b.g)||(!(a.int==b.int)||!(a.text==b.text))
def A0(M:Mp):aB Mp:=
 Z1 (Vv M.src M.inp M.step.u) λq=>Z1 (Wg M.src M.step.u) λf=>Zp (f.2=true/\F7 q.2)<|
 Z1 (AS M M.step.u) λd=>Z1 (W7 d M.step.d) λb=>
 Zd (λ(i:Nat) (a:aE) (s:List aE×List aE) next=>
  Z1 (VU q.1 a) λc=>Z1 (Bq M c) λe=>Jt e M.step.value λv=>
  Zp (0<=b.1/\b.1<=a.length/\a.length+1<=2097152/\c.length+1<=2097152)
   (next (s.1++[a.take b.1.toNat++[v]++a.drop b.1.toNat],bif Wx v M.step.value then s.2++[c++[v]] else s.2)))
  (λs=>some {M with out:=Zt M.step.u s.1 M.out,nc:=Zt M.step.u s.2 M.nc}) q.2 0 ([],[])
def Z0d(h0:HS)(l:Z2)(co cn:C)(M M1:Mp)(hm:Is (A0 M) M1)(m:MpAt h0 l co cn M)(K:V->HS->Prop)
  (hK:∀h',MpAt h' l co cn M1->Z0 h0 h' (Z co++Z cn)->K (.tup []) h'):Z5 prog 172 [.p l] h0 K:=by
 refine Z5.ov func172 ?_;unfold A0 at hm;have⟨⟨T,g⟩,ht,hm⟩:=hm.bind;have⟨⟨k,f⟩,b1,hm⟩:=hm.bind;have⟨b5,ar⟩:=hm.chk;clear hm;obtain⟨rfl,ay⟩:=b5;have hm:=ar;clear ar;simp only at hm ay;have hb:=m.a;have bw:=m.lt l (Y8 ..);have hne:=Zv bw;have hne':=W1 bw;simp only[WJ,Mp.z,Stp.z,Yb,Yf,Yt,Yv] at hb;simp;refine Z6.cu aI (λe1 S=>∃W:Z2,En e1 91 [(0,.p l),(2,.s M.step.u),(3,.p W)]/\S.a W=some (M.step.value.z.map C.d)/\h0.p<=W.1/\W.1<S.p/\Z0 h0 S []) ?_ ?_;simp[hb,hne,hne'];refine Ze.of ⟨(h0.p,48),I,I,I,I,?_⟩;exact sm;rintro e1 S ⟨W,o,bd,cq,bf,bh⟩;simp[o];refine Zc (Kp _ l co cn M M.step.u T g (m.frame bh) ht k b1 (λrow hr=>(ay.2 row hr).2) _ λc h2 aw hb2=>?_);simp[o];obtain⟨cw,cg⟩:∃q,q=(h2.p,64):=⟨_,rfl⟩;have⟨T2,b3,hm⟩:=hm.bind;refine Z6.cu [0,1,3,4,5,6,7,2,8,9,10,11,12,13] (λP U=>∃j:Int×Bool,Is (W7 T2 M.step.d) j/\Ek e1 P [(4,.p (h2.p,64)),(5,.one c),(6,.i j.1)] [0,2,3]/\
  U.a W=some (M.step.value.z.map C.d)/\U.a (h2.p,64)=some (T.z.map C.d)/\Z0 h2 U []/\h2.p<U.p/\Z0 h0 U []) ?_ ?_
 .have⟨j,a7,hm⟩:=hm.bind;have hs2:=bh.trans aw.same;have m2:=m.frame hs2;have hb2:=m2.a;have bq:=aw.same.2 W bf I;rw[bd] at bq;simp only[WJ,Mp.z,Stp.z,Yb,Yf,Yt,Yv] at hb2;have hl2:=m2.lt l (Y8 ..);have bi:=Zv hl2;have ax:=W1 hl2;simp[bi,ax,o,hb2];refine V7 b3 (m2.frame ((Z0.refl.xV (.inr I)).w.xV (.inr I))) ?_ ?_;simp;simp[bi,ax,o,hb2];refine⟨λ_ _ x=>x,Zx ((FR T2 M.step.d).h j a7) I ?_⟩;simp[bi,ax,o,hb2];refine⟨λ_ _ x=>x,Ze.of ⟨j,a7,by simp[o],?_,I,?_,I,hs2.trans ?_⟩⟩;have ca:=Zv (l:=W) (n:=h2.p) (Y4 bf aw.same.1);simp[bq,ca]
  all_goals exact sm
 rintro E3 U ⟨j,a7,hF,bd,bt,bb,ch,hs3⟩;have o:=hF.an o;have⟨at2,bn,hm⟩:=hm.bind;obtain rfl:j=at2:=Option.some.inj (a7.symm.trans bn);simp[o];have⟨qs,r0,nd,a1⟩:=Rest.of aw;have r3:=r0.frame λk r=>bb.2 k (a1 k r).2 I;have cc:qs.length=g.length:=by have:=congrArg List.length r0.ds;simpa using this
 refine MR.lenK r3.mr ?_;simp[o,cc];have m3:LM h0 U [(W,M.step.value.z.map C.d),((h2.p,64),T.z.map C.d)] c qs g [(.nil,[]),(.nil,[])] 0 U:=
  ⟨by simpa using⟨bd,bt⟩,r3,by simp[Zw,MR.nil],hs3,Y7 _,by simp[Z],by simp[Z],?_,λk r=>?_,nd,?_,λrow hr=>(ay.2 row hr).1⟩
 .refine Z6.for (xs:=g) (s0:=([],[])) (λi s P h'=>∃cO cC,Ek E3 P [(8,.one cO),(9,.one cC),(44,.one c),(45,.i (g.length:Int)),(46,.i (i:Int))] [0,2,3,4,6]/\
   LM h0 U [(W,M.step.value.z.map C.d),((h2.p,64),T.z.map C.d)] c qs g [(cO,s.1),(cC,s.2)] i h'/\s.1.length=i/\s.2.length<=i) hm
   ⟨.nil,.nil,by simp[o],m3,rfl,I⟩ ?_ ?_
  .rintro i s e h' ⟨cO,cC,hF,D,az,b8⟩ t hm;have o:=hF.an o;have hw:IntKind.i64.wrap ((i:Int)+1)=(i:Int)+1:=Y6 _ (by have:=ay.1;omega);have⟨u,bc,hm⟩:=hm.bind;have⟨st,hst,hm⟩:=hm.bind;obtain⟨lr,cap,sp,x,al,rfl,b6,b2,bp,aq⟩:=D.at t;have bd:=D.a _ (Y8 ..);have bt:=D.a _ (Yc _ (Y8 ..));have cd:=D.p;simp only[GV.z,Yb,Yf,E.z] at bd bt;simp[o,bd,bt,t,b6,b2];refine Z6.cut (Y.qB [0,1,3] (.two 2 4 (Y.qB [4,5,6] .done) (Y.qB [2,5,6] .done))) follows kR (λP S=>∃lk aj:Z2,Ek e P [(11,.one x),(44,.one (.mrow lr 0 g.length cap))] [0,2,3,4,6,8,9,45,46]/\
    P.get 12=.one (.own lk (u.map GV.z))/\S.arr lk=some (u.length,3)/\lk.1<S.p/\P.get 13=.p aj/\S.a aj=some (M.step.value.z.map C.d)/\h'.p<=aj.1/\aj.1<S.p/\Z0 h' S []) ?_ ?_
   simp[o,bd,bt];refine⟨?_,?_⟩;refine Zc (Z5.qD ((Aa T g[i]).h u bc) ⟨.agg (ZI.qK (ds:=T.z)),.one (.frz (Dx bp)),trivial⟩ Il ?_);simp[o,bd,bt];refine⟨λ_ _ x=>x,Ze.of ⟨(h'.p,1),(h'.p+1,208),by simp[o],by simp[o],I,I,by simp[o],I,I,I,?_⟩⟩;exact sm;refine Zc (Z5.qD ((Aa T g[i]).h u bc) ⟨.agg (ZI.qK (ds:=T.z)),.one (.frz (Dx (bp.frame λk r=>?_))),trivial⟩ Il ?_)
   have:=Zv (l:=k) (n:=h'.p) (Y4 (aq k r) cd)
   simp[this];simp[o,bd,bt]
   first|refine⟨λ_ _ x=>x,Ze.of ?_⟩|refine Ze.of ?_
   refine⟨(h'.p+1,1),(h'.p,208),by simp[o],by simp[o],I,I,by simp[o],I,I,I,?_⟩;exact sm;rintro e1 S ⟨lk,aj,hF,B,bm,cb,A,ak,O,b0,F⟩;have o:=hF.an o;have m1:=D.new F;have J:=m1.a _ (Y8 ..);have G:=m1.a _ (Yc _ (Y8 ..));have N:(W=aj)=False:=eq_false (by rintro rfl;have:=(D.sb _ (Y8 ..)).1;simp at this;omega);have L:((h2.p,64)=aj)=False:=eq_false (by rintro rfl;have:=(D.sb _ (Yc _ (Y8 ..))).1;simp at this O;omega);simp only[GV.z,Yb,Yf,E.z] at J G ak;simp[o,B,A];refine V7 hst (m.frame m1.same) ?_ ?_;simp;simp[o,B,A];have⟨v,ar,b4,b9⟩:=Z5r hm;clear hm;have⟨ce,hm⟩:=Is.chk ar;clear ar;have⟨cm,ci,ba,cj⟩:=ce;have hn:j.1=(j.1.toNat:Int):=X
   have cp:=ay.1;have bu:=Zv cb;have a8:j.1.toNat<=g[i].length:=X
   refine BJ (λhc=>?_) (λhc=>?_)
   .have hv:=b4 hc;simp[o,B,A,hv,ak,J,G,N,L];refine BJ (λap=>?_) (λap=>?_)
    .have am:Wx v M.step.value=true:=ap;rw[am] at hm;simp[o,B,A,ak,J,G,N,L];refine UQ (xs:=u.map GV.z) (ys:=[v.z]) QE (Zm.own (by simp[bm,bu]) sO (by intro y hy;obtain⟨z,_,rfl⟩:=Yi.1 hy;rfl)) rfl dE dE I sO ?_;simp[o,B,A,ak,J,G,N,L];refine LM.app 1 (D.new ?_) rfl PG kR dE (row:=u++[v]) (Zr.rowc I) sO λc' h7 R bk=>?_
     .repeat' first|exact F|exact Z0.refl|apply Z0.w|apply Z0.qC|(refine Z0.xV ?_ (.inr O))
     have b7:=bk.2 aj sO (λh9=>by have:=(D.lab _ (Yc _ (Y8 ..)) aj h9).2;omega);simp[ak] at b7;simp[o,B,A,b7,J,G,N,L];refine Zc (Ik _ x g[i] v _ j.1.toNat _ hn ((LM.new R ?_).jN t al) (λk r=>?_) a8 ?_ ba _ λh9 ao=>?_)
     .repeat' first|exact F|exact Z0.refl|apply Z0.w|apply Z0.qC|(refine Z0.xV ?_ (.inr O))
     have:=aq k r
     have:=R.p
     simp at this|-;omega;simp;have m9:=(LM.new R ?_).use t al ao;rotate_left
     .repeat' first|exact F|exact Z0.refl|apply Z0.w|apply Z0.qC|(refine Z0.xV ?_ (.inr O))
     simp[o,B,A,J,G,N,L,hw];refine LM.app 0 (m9.new ?_) rfl PG kR dE (row:=g[i].take j.1.toNat++[v]++g[i].drop j.1.toNat) (Zr.rowc I) sO λc2 bg Q au=>?_
     .repeat' first|exact F|exact Z0.refl|apply Z0.w|apply Z0.qC|(refine Z0.xV ?_ (.inr O))
     simp[o,B,A,J,G,N,L,hw];refine Zj.of (s.1++[g[i].take j.1.toNat++[v]++g[i].drop j.1.toNat],s.2++[u++[v]]) ⟨⟨c2,c',by simp[o],Q,by simp[az],?_⟩,hm⟩;simp;omega
    have am:Wx v M.step.value=false:=ap;rw[am] at hm;have R:LM h0 U [(W,M.step.value.z.map C.d),((h2.p,64),T.z.map C.d)] (.mrow lr 0 g.length cap) qs g [(cO,s.1),(cC,s.2)] i (S.w.xV aj (v.z.map C.d)):=D.new ?_;rotate_left
    .repeat' first|exact F|exact Z0.refl|apply Z0.w|apply Z0.qC|(refine Z0.xV ?_ (.inr O))
    simp[o,B,A,ak,J,G,N,L];refine Zc (Ik _ x g[i] v _ j.1.toNat _ hn ((LM.new R ?_).jN t al) (λk r=>?_) a8 ?_ ba _ λh9 ao=>?_)
    .repeat' first|exact F|exact Z0.refl|apply Z0.w|apply Z0.qC|(refine Z0.xV ?_ (.inr O))
    have:=aq k r
    have:=R.p
    simp at this|-;omega;simp;have m9:=(LM.new R ?_).use t al ao;rotate_left
    .repeat' first|exact F|exact Z0.refl|apply Z0.w|apply Z0.qC|(refine Z0.xV ?_ (.inr O))
    simp[o,B,A,J,G,N,L,hw];refine LM.app 0 (m9.new ?_) rfl PG kR dE (row:=g[i].take j.1.toNat++[v]++g[i].drop j.1.toNat) (Zr.rowc I) sO λc2 bg Q au=>?_
    .repeat' first|exact F|exact Z0.refl|apply Z0.w|apply Z0.qC|(refine Z0.xV ?_ (.inr O))
    simp[o,B,A,J,G,N,L,hw];refine Zj.of (s.1++[g[i].take j.1.toNat++[v]++g[i].drop j.1.toNat],s.2) ⟨⟨c2,cC,by simp[o],Q,by simp[az],?_⟩,hm⟩;simp;omega
   have hv:=b9 hc;rw[<-hv] at ak;simp[o,B,A,ak,J,G,N,L];refine BJ (λap=>?_) (λap=>?_)
   .have am:Wx v M.step.value=true:=ap;rw[am] at hm;simp[o,B,A,ak,J,G,N,L];refine UQ (xs:=u.map GV.z) (ys:=[v.z]) QE (Zm.own (by simp[bm,bu]) sO (by intro y hy;obtain⟨z,_,rfl⟩:=Yi.1 hy;rfl)) rfl dE dE I sO ?_;simp[o,B,A,ak,J,G,N,L];refine LM.app 1 (D.new ?_) rfl PG kR dE (row:=u++[v]) (Zr.rowc I) sO λc' h7 R bk=>?_
    .repeat' first|exact F|exact Z0.refl|apply Z0.w|apply Z0.qC|(refine Z0.xV ?_ (.inr O))
    have b7:=bk.2 aj sO (λh9=>by have:=(D.lab _ (Yc _ (Y8 ..)) aj h9).2;omega);simp[ak] at b7;simp[o,B,A,b7,J,G,N,L];refine Zc (Ik _ x g[i] v _ j.1.toNat _ hn ((LM.new R ?_).jN t al) (λk r=>?_) a8 ?_ ba _ λh9 ao=>?_)
    .repeat' first|exact F|exact Z0.refl|apply Z0.w|apply Z0.qC|(refine Z0.xV ?_ (.inr O))
    have:=aq k r
    have:=R.p
    simp at this|-;omega;simp;have m9:=(LM.new R ?_).use t al ao;rotate_left
    .repeat' first|exact F|exact Z0.refl|apply Z0.w|apply Z0.qC|(refine Z0.xV ?_ (.inr O))
    simp[o,B,A,J,G,N,L,hw];refine LM.app 0 (m9.new ?_) rfl PG kR dE (row:=g[i].take j.1.toNat++[v]++g[i].drop j.1.toNat) (Zr.rowc I) sO λc2 bg Q au=>?_
    .repeat' first|exact F|exact Z0.refl|apply Z0.w|apply Z0.qC|(refine Z0.xV ?_ (.inr O))
    simp[o,B,A,J,G,N,L,hw];refine Zj.of (s.1++[g[i].take j.1.toNat++[v]++g[i].drop j.1.toNat],s.2++[u++[v]]) ⟨⟨c2,c',by simp[o],Q,by simp[az],?_⟩,hm⟩;simp;omega
   have am:Wx v M.step.value=false:=ap;rw[am] at hm;have R:LM h0 U [(W,M.step.value.z.map C.d),((h2.p,64),T.z.map C.d)] (.mrow lr 0 g.length cap) qs g [(cO,s.1),(cC,s.2)] i S.w:=D.new ?_;rotate_left
   .repeat' first|exact F|exact Z0.refl|apply Z0.w|apply Z0.qC|(refine Z0.xV ?_ (.inr O))
   simp[o,B,A,ak,J,G,N,L];refine Zc (Ik _ x g[i] v _ j.1.toNat _ hn ((LM.new R ?_).jN t al) (λk r=>?_) a8 ?_ ba _ λh9 ao=>?_)
   .repeat' first|exact F|exact Z0.refl|apply Z0.w|apply Z0.qC|(refine Z0.xV ?_ (.inr O))
   have:=aq k r
   have:=R.p
   simp at this|-;omega;simp;have m9:=(LM.new R ?_).use t al ao;rotate_left
   .repeat' first|exact F|exact Z0.refl|apply Z0.w|apply Z0.qC|(refine Z0.xV ?_ (.inr O))
   simp[o,B,A,J,G,N,L,hw];refine LM.app 0 (m9.new ?_) rfl PG kR dE (row:=g[i].take j.1.toNat++[v]++g[i].drop j.1.toNat) (Zr.rowc I) sO λc2 bg Q au=>?_
   .repeat' first|exact F|exact Z0.refl|apply Z0.w|apply Z0.qC|(refine Z0.xV ?_ (.inr O))
   simp[o,B,A,J,G,N,L,hw];refine Zj.of (s.1++[g[i].take j.1.toNat++[v]++g[i].drop j.1.toNat],s.2) ⟨⟨c2,cC,by simp[o],Q,by simp[az],?_⟩,hm⟩;simp;omega
  rintro s e h' ⟨cO,cC,hF,D,az,b8⟩ hm;have o:=hF.an o;obtain rfl:=Zk hm;simp[o];have bj:∀k∈l::(Z co++Z cn),k.1<h0.p:=m.lt;have cl:=hs3.1;have bz:=D.lab;have hO:∀k∈Z cO,U.p<=k.1/\k.1<h'.p:=bz _ (Y8 ..);have hC:∀k∈Z cC,U.p<=k.1/\k.1<h'.p:=bz _ (Yc _ (Y8 ..));have bv:∀k∈Z cC,k∉Z cO:=λk r h9=>by
   have:=D.dis
   simp only[YI,XS,Ym] at this;exact(Yk.1 this).2.2 k h9 k r rfl
  refine I5 (m.frame D.same) (D.row _ (Y8 ..)) (λk r h9=>by have:=bj k h9;have:=(hO k r).1;omega) λh4 m4 br=>?_;simp[o];refine K5 m4 ((D.row _ (Yc _ (Y8 ..))).frame λk r=>br.2 k (hC k r).2 λh9=>?_) (λk r h9=>by have:=bj k h9;have:=(hC k r).1;omega) λh5 m5 F=>?_;rcases Y3.1 h9 with h8|h8;exact bv k r h8
  have:=bj k (by simp[h8])
  have:=(hC k r).1
  omega;simp[o];refine hK h5 m5 (Z0.trans' (Z0.trans' (D.same.mn) br λk r=>?_) F λk r=>?_);rcases Y3.1 r with h8|h8;exact .inr (by have:=(hO k h8).1;omega);exact .inl (by simp[h8]);rcases Y3.1 r with h8|h8;exact .inr (by have:=(hC k h8).1;omega);exact .inl (by simp[h8])
 intro b hb;simp at hb;rcases hb with rfl|rfl;have ck:=aw.same.1;have cx:=bb.1;refine⟨sO,λh9=>?_⟩
 have:=(a1 _ h9).1
 simp at this;omega;refine⟨sO,λh9=>?_⟩
 have:=(a1 _ h9).2
 simp at this
 have:=a1 k r
 have:=bh.1
 omega
 have:=hs3.1
 omega
instance Zfw(M:Mp):ConM (A0 M) M (λr=>r) prog 172 [] (λ_=>.tup []):=⟨by intro r e h l c b vs K f a d;obtain rfl:=Ld a;exact Z0d h l c b M r e f K d⟩
def UY(M:Mp):aB Mp:=
 Z1 (Vv M.src M.inp M.step.u) λq=>Z1 (Wg M.src M.step.u) λf=>Zp (f.2=true/\F7 q.2)<|
 Z1 (W7 q.1 M.step.d) λb=>
 Zd (λ_ a (s:List aE×List aE) next=>Za a b.1 λv=>
  bif Wx v M.step.value then Z1 (VU q.1 a) λc=>Zp (c.length+1<=2097152) (next (s.1++[a.take b.1.toNat++a.drop (b.1.toNat+1)],s.2++[c++[v]]))
  else next (s.1++[a.take b.1.toNat++a.drop (b.1.toNat+1)],s.2))
  (λs=>some {M with out:=Zt M.step.u s.1 M.out,nc:=Zt M.step.u s.2 M.nc}) q.2 0 ([],[])
def Z0c(D l co cn M M1)(hm:Is (UY M) M1)(m:MpAt D l co cn M)(K)
  (hK:∀h',MpAt h' l co cn M1->Z0 D h' (Z co++Z cn)->K (.tup []) h'):Z5 prog 173 [.p l] D K:=by
 refine Z5.qM func173 rfl kR rfl rfl I ?_;unfold UY at hm;have⟨⟨T,g⟩,ht,hm⟩:=hm.bind;have⟨⟨k,f⟩,bh,hm⟩:=hm.bind;have⟨bp,ax⟩:=hm.chk;clear hm;obtain⟨rfl,S⟩:=bp;have hm:=ax;clear ax;simp only at hm S;have hb:=m.a;have bc:=m.lt l (Y8 ..);have hne:=Zv bc;have hne':=W1 bc;simp only[WJ,Mp.z,Stp.z,Yb,Yf,Yt,Yv] at hb;simp;refine Z6.cu aI (λe1 O=>∃G:Z2,En e1 79 [(0,.p l),(2,.s M.step.u),(3,.p G)]/\O.a G=some (M.step.value.z.map C.d)/\D.p<=G.1/\G.1<O.p/\Z0 D O []) ?_ ?_;simp[hb];refine Ze.of ⟨(D.p,48),I,I,I,I,?_⟩;exact sm;rintro e1 O ⟨G,j,U,b8,al,ap⟩;simp[j];refine Zc (Kp _ l co cn M M.step.u T g (m.frame ap) ht k bh (λrow hr=>(S.2 row hr).2) _ λc P W _=>?_);simp[j];refine Z6.cu aV (λr F=>∃o:Int×Bool,Is (W7 T M.step.d) o/\Ek e1 r [(4,.p (P.p,64)),(5,.one c),(6,.i o.1)] [0,2,3]/\
  F.a G=some (M.step.value.z.map C.d)/\F.a (P.p,64)=some (T.z.map C.d)/\Z0 P F []/\P.p<F.p/\Z0 D F []) ?_ ?_
 .have⟨o,af,_⟩:=hm.bind;have hs2:=ap.trans W.same;have m2:=m.frame hs2;have hb2:=m2.a;have a7:=W.same.2 G al I;rw[U] at a7;simp only[WJ,Mp.z,Stp.z,Yb,Yf,Yt,Yv] at hb2;have hl2:=m2.lt l (Y8 ..);have bu:=Zv hl2;have bz:=W1 hl2;simp[bu,j,hb2];refine Zx ((FR T M.step.d).h o af) I ?_;simp[j]
  first|refine⟨λ_ _ x=>x,Ze.of ?_⟩|refine Ze.of ?_
  refine⟨o,af,by simp[j],?_,I,?_,I,hs2.trans ?_⟩;have br:=Zv (Y4 al W.same.1);simp[a7,br]
  all_goals exact sm
 rintro E3 F ⟨o,af,hF,U,bt,aw,b0,Q⟩;have j:=hF.an j;have⟨at2,az,hm⟩:=hm.bind;obtain rfl:o=at2:=Option.some.inj (af.symm.trans az);simp[j];have⟨qs,r0,nd,ae⟩:=Rest.of W;have r3:=r0.frame λk q=>aw.2 k (ae k q).2 I;have bv:qs.length=g.length:=by have:=congrArg List.length r0.ds;simpa using this
 refine MR.lenK r3.mr ?_;simp[j,bv];have m3:LM D F [(G,M.step.value.z.map C.d),((P.p,64),T.z.map C.d)] c qs g [(.nil,[]),(.nil,[])] 0 F:=
  ⟨by simpa using⟨U,bt⟩,r3,by simp[Zw,MR.nil],Q,Y7 _,by simp[Z],by simp[Z],?_,λk q=>?_,nd,?_,λrow hr=>(S.2 row hr).1⟩
 refine Z6.for (λi s r h'=>∃cO cC,Ek E3 r [(8,.one cO),(9,.one cC),(38,.one c),(39,.i g.length),(40,.i i)] [0,2,3,4,6]/\
  LM D F [(G,M.step.value.z.map C.d),((P.p,64),T.z.map C.d)] c qs g [(cO,s.1),(cC,s.2)] i h'/\s.1.length=i/\s.2.length<=i) hm
  ⟨.nil,.nil,by simp[j],m3,rfl,I⟩ ?_ ?_
 rintro i s e h' ⟨cO,cC,hF,u,bf,b5⟩ t hm;have j:=hF.an j;have hw:IntKind.i64.wrap ((i:Int)+1)=(i:Int)+1:=Y6 _ (by have:=S.1;omega);have⟨v,b6,hv,hm⟩:=hm.get;obtain⟨lr,cap,sp,x,aj,rfl,bq,bj,ag,au⟩:=u.at t;have U:=u.a _ (Y8 ..);have bt:=u.a _ (Yc _ (Y8 ..));have b9:=u.p;simp only[GV.z,Yb,Yf,E.z] at U bt;have N:o.1=o.1.toNat:=X
 obtain⟨n,aq⟩:∃n:Nat,n=o.1.toNat:=⟨_,rfl⟩;rw[<-aq] at N hv;have ah:=(Y0.1 hv).1;have⟨lx,bw,spx,J,ao,bi⟩:=ag.block (by rw[WA,Yd,Yd];omega);have bn:(WA g[i])[n]?=some (v.z.map C.d):=by rw[WA,Y9,Y9,hv];rfl
 have V:=VH (sp:=spx) (f:=0) (m:=3) ag.1 bn I;have ba:Zs 3 ((v.z.map C.d).drop 0)=some (v.z.map C.d):=by simp[Zs]
 rw[ba,Xl] at V;have hxl:(WA g[i]).length=g[i].length:=by simp[WA]
 rw[hxl] at J;simp only[GV.z,Yb,Yf] at V;obtain⟨z,hz⟩:∃z,z=Zb (WA g[i]) spx:=⟨_,rfl⟩;rw[<-hz] at V ao;have b7:=S.1;have b2:=(S.2 _ (Yh t)).2;have ay:IntKind.i64.wrap (o.1+1)=o.1+1:=Y6 _ X;simp[j,t,bq,bj];refine Z6.cu aK (λr O=>O=h'/\Ek e r [(11,.one x),(38,.one (.mrow lr 0 g.length cap)),(49,.b (Wx v M.step.value))] [0,2,3,4,6,8,9,39,40]) ?_ ?_;simp[j,U,J,ao,N,ah,V];refine Ze.of ⟨rfl,?_⟩;simp[j,J,N,Wx];rintro e1 O ⟨rfl,hF⟩;have j:=hF.an j;simp[j];refine ZP hm ?_ ?_<;>clear hm<;>intro _ hm;have⟨A,ak,hm⟩:=hm.bind;have⟨b1,hm⟩:=hm.chk;simp;refine Z6.cut (Y.qB [0,1,2,4,5,6,7] (.two 3 8 (Y.qB [8,9,10,11,12] .done) (Y.qB [3,9,10,11,12] .done))) follows kR (λr a8=>∃L,Ek e1 r [(9,.one L)] [0,2,3,4,6,8,11,38,39,40]/\
  LM D F [(G,M.step.value.z.map C.d),((P.p,64),T.z.map C.d)] (.mrow lr 0 g.length cap) qs g [(cO,s.1),(L,s.2++[A++[v]])] i a8) ?_ ?_
 simp[j,bt,J,ao,N,ah,V];refine⟨?_,?_⟩;refine Zc (Z5.qD ((Aa T g[i]).h A ak) ⟨.agg (ZI.qK (ds:=T.z)),.one (.frz (by rw[<-J];exact Dx ag)),trivial⟩ Il ?_);simp[j];refine⟨λ_ _ x=>x,?_⟩;refine UQ QE (Zm.own I I (by intro y hy;obtain⟨z,_,rfl⟩:=Yi.1 hy;rfl)) rfl dE dE I sO ?_;simp[j];refine LM.app 1 (u.new ?_) rfl PG kR dE (row:=A++[v]) (Zr.rowc I) sO λL h7 B _=>?_;exact sm;simp[j];refine Ze.of ⟨L,by simp[j,J],B⟩;refine Zc (Z5.qD ((Aa T g[i]).h A ak) ⟨.agg (ZI.qK (ds:=T.z)),.one (.frz (by rw[<-J];exact Dx (ag.frame λk _=>I))),trivial⟩ Il ?_);simp[j]
 try refine⟨λ_ _ x=>x,?_⟩
 refine UQ QE (Zm.own I I (by intro y hy;obtain⟨z,_,rfl⟩:=Yi.1 hy;rfl)) rfl dE dE I sO ?_;simp[j];refine LM.app 1 (u.new ?_) rfl PG kR dE (row:=A++[v]) (Zr.rowc I) sO λL h7 B _=>?_;exact sm;simp[j];refine Ze.of ⟨L,by simp[j,J],B⟩;rintro e2 a8 ⟨L,hF,B⟩;have j:=hF.an j;simp[j,ay];refine Zc (OK _ x g[i] n _ _ N (by rw[N];simp) (B.jN t aj) (λk q=>?_) ah _ λh9 am=>?_)
 have:=au k q
 have:=B.p
 omega;have m9:=B.use t aj am;simp[j];refine LM.app 0 (m9.new ?_) rfl PG kR dE (row:=g[i].take n++g[i].drop (n+1)) (Zr.rowc I) sO λc2 bm R _=>?_;exact sm;simp[j,hw];refine Zj.of (s.1++[g[i].take n++g[i].drop (n+1)],s.2++[A++[v]]) ⟨⟨c2,L,by simp[j],R,by simp[bf],sO⟩,by subst aq;exact hm⟩;have B:=u;simp[j,ay];refine Zc (OK _ x g[i] n _ _ N (by rw[N];simp) (B.jN t aj) (λk q=>?_) ah _ λh9 am=>?_)
 have:=au k q
 have:=B.p
 omega;have m9:=B.use t aj am;simp[j];refine LM.app 0 (m9.new ?_) rfl PG kR dE (row:=g[i].take n++g[i].drop (n+1)) (Zr.rowc I) sO λc2 bm R _=>?_;exact sm;simp[j,hw];refine Zj.of (s.1++[g[i].take n++g[i].drop (n+1)],s.2) ⟨⟨c2,cC,by simp[j],R,by simp[bf],sO⟩,by subst aq;exact hm⟩;rintro s e h' ⟨cO,cC,hF,u,_,_⟩ hm;have j:=hF.an j;obtain rfl:=Zk hm;simp[j];have ar:=m.lt;have b4:=Q.1;have bg:=u.lab;have hO:=bg _ (Y8 ..);have hC:=bg _ (Yc _ (Y8 ..));have bb:=λk q h9=>by
  have:=u.dis
  simp only[YI,XS,Ym] at this;exact(Yk.1 this).2.2 k h9 k q rfl
 refine I5 (m.frame u.same) (u.row _ (Y8 ..)) (λk q h9=>by have:=ar k h9;have:=(hO k q).1;omega) λh4 m4 a1=>?_;simp[j];refine K5 m4 ((u.row _ (Yc _ (Y8 ..))).frame λk q=>a1.2 k (hC k q).2 λh9=>?_) (λk q h9=>by have:=ar k h9;have:=(hC k q).1;omega) λh5 m5 bk=>?_;rcases Y3.1 h9 with h8|h8;exact bb k q h8
 have:=ar k (by simp[h8])
 have:=(hC k q).1
 omega;simp;refine hK h5 m5 (Z0.trans' (Z0.trans' (u.same.mn) a1 λk q=>?_) bk λk q=>?_);rcases Y3.1 q with h8|h8;exact .inr (by have:=(hO k h8).1;omega);exact .inl (by simp[h8]);rcases Y3.1 q with h8|h8;exact .inr (by have:=(hC k h8).1;omega);exact .inl (by simp[h8]);intro b hb;simp at hb;rcases hb with rfl|rfl;have b3:=W.same.1;refine⟨sO,λh9=>?_⟩
 have:=(ae _ h9).1
 simp at this;omega;refine⟨sO,λh9=>?_⟩
 have:=(ae _ h9).2
 simp at this
 have:=ae k q
 have:=ap.1
 omega
 have:=Q.1
 omega
instance Zfu(M:Mp):ConM (UY M) M (λr=>r) prog 173 [] (λ_=>.tup []):=⟨by intro r e h l c b vs K f a d;obtain rfl:=Ld a;exact Z0c h l c b M r e f K d⟩
def MpAt.bx{h:HS}{l:Z2}{b a:C}{M:Mp}(m:MpAt h l b a M):h.a l=some [.d (.int .i64 M.step.g),.d (.str M.step.u),.d (.str M.step.o),.d (.str M.step.d),.d (.str M.step.s),.d (.int .i64 M.step.type),.d (.sl (M.step.j.map Zg)),.d (.str M.step.op),
  .d (.int .i64 M.step.value.g),.d (.int .i64 M.step.value.int),.d (.str M.step.value.text),.d (.str M.step.v.y),.d (.sl (M.step.v.j.map Col.z)),.d (.sl (M.step.v.pk.map Zg)),
  .d (.str M.step.cons.u),.d (.int .i64 M.step.cons.left),.d (.str M.step.cons.op),.d (.int .i64 M.step.cons.right),.d (.int .i64 M.step.cons.value.g),.d (.int .i64 M.step.cons.value.int),.d (.str M.step.cons.value.text),
  .d (.str M.step.fk.u),.d (.sl (M.step.fk.j.map Zg)),.d (.str M.step.fk.ref),
  .d (.bool M.fwd),.d (.sl (M.src.q.map E.z)),.d (.sl (M.src.b.map Fk.z)),.d (.sl (M.src.cons.map Cons.z)),.d (.sl (M.dst.q.map E.z)),.d (.sl (M.dst.b.map Fk.z)),.d (.sl (M.dst.cons.map Cons.z)),
  .d (.sl (M.cs.q.map E.z)),.d (.sl (M.cs.b.map Fk.z)),.d (.sl (M.cs.cons.map Cons.z)),.d (.sl (M.inp.map J.z)),.d (.sl (M.comp.map J.z)),b,a,.d (.int .i64 M.err)]:=m.a
abbrev R3:=List aE×List aE×List aE
def GK{c:C}{x:D}(a:c.toD=some x)(h:HS):c.toA h=some (.d x):=by
 cases c<;>simp[C.toD] at a<;>subst a<;>rfl
def Z5.xG{P:Program}{f:FuncId}{n:List V}{a:List AV}{r:RV}{h:HS}{K:V->HS->Prop}(d:Nat)(k:Zq P f a r)(b:Wi h n=some a)(E:K (r.toV h.p d) ((h.qL d r.fr).w)):Z5 P f n h K:=by
 refine⟨k.1,λΓ μ w vals hI hR=>?_⟩;have⟨C,s⟩:=Lf b;have o:CE μ.cell (WU w) a vals:=⟨by rw[hR.1];simp[C],λi x D=>by have⟨v,A,t⟩:=s i x D;have⟨u,F,c⟩:=hR.2 i v A;exact⟨u,F,LK hI c t⟩⟩
 refine(k.2 w μ.cell (WU w) _ hI.glob hI.cell (Gf w) o).mono ?_;rintro en w1 ⟨v,m,g,rfl,e,q,p,y,c,z⟩;have B:Mem.Le μ (V9 μ h.p d m g):=⟨e,rfl,λl x j=>by
  have:=hI.lt l (by rw[j];simp)
  simp only[V9];rw[if_neg X];exact j⟩
 exact⟨v,_,_,V9 μ h.p d m g,rfl,E,hI.call d e q p y z,Jf c h.p d,B⟩
def Z80{P:Program}{f:FuncId}{i vs':List V}{g:List AV}{r:RV}{d:Nat}{e:Env}{h:HS}{b:Env->HS->Prop}(a:List Z2)(k:Cc (h.only a) i vs')(m:Zq P f g r)(c:Wi (h.qP a) vs'=some g)
  (l:b (e.put (some d) (r.toV h.p d)) (((h.qP a).qL d r.fr).w)):Vb P f [] i d e h (K:=⟨b⟩):=
 Zc (sU (Z5.jP a k (Z5.xG (K:=λv j=>b (e.put (some d) v) j) d m c l)))
def Z0.qP{h:HS}{a:List Z2}:Z0 h (h.qP a) a:=⟨Y7 _,λk _ b=>by simp only[HS.qP];rw[if_neg b]⟩
structure GR(h0 h:HS)(gs:List (C×List (List GV))):Prop where
 row:∀g∈gs,MR h 1 g.1 (Zw (g.2.map rowc))
 lab:∀g∈gs,∀k∈Z g.1,h0.p<=k.1/\k.1<h.p
 dis:(gs.flatMap λg=>Z g.1).Nodup
def LM.gr{d l h:HS}{j:List (Z2×aD)}{c:C}{qs:List NQ}{a:List aE}{b:List (C×List aE)}{i:Nat}(m:LM d l j c qs a b i h):GR d h b:=
 ⟨m.row,λg e k f=>⟨YE m.s0 (m.lab g e k f).1,(m.lab g e k f).2⟩,m.dis⟩
def GR.step{c h f:HS}{g:C×List aE}{e:List (C×List aE)}{j:List Z2}(r:GR c h (g::e))(i:Z0 h f (Z g.1++j))(m:∀k∈j,k.1<c.p):GR c f e:=by
 have d:=r.dis;rw[YI,Yk] at d;refine⟨λx a=>(r.row x (by simp[a])).frame λk b=>i.2 k (r.lab x (by simp[a]) k b).2 λl=>?_,λx a k b=>⟨(r.lab x (by simp[a]) k b).1,Y4 (r.lab x (by simp[a]) k b).2 i.1⟩,d.2.1⟩;rcases Y3.1 l with h8|h8;exact d.2.2 k h8 k (YH.2 ⟨x,a,b⟩) rfl
 have:=m k h8
 have:=(r.lab x (by simp[a]) k b).1
 omega
def GR.same{b h c:HS}{g:C×List aE}{f:List (C×List aE)}{d a:List Z2}(r:GR b h (g::f))(l:Z0 h c (Z g.1++d))(e:Z0 b h a)(j:∀k∈d,k∈a):Z0 b c a:=
 e.trans' l λk i=>by rcases Y3.1 i with h8|h8;exact .inr (r.lab g (Y8 ..) k h8).1;exact .inl (j k h8)
def Cq{d:Nat}{e:Env}{c h:HS}{l:Z2}{i f:C}{M:Mp}{t:aA}{g:C×List aE}{q:List (C×List aE)}{j:List Z2}{n:Env->HS->Prop}(m:MpAt h l i f M)(o:∀k∈l::(Z i++Z f),k.1<c.p)(w:Z0 c h j)(r:GR c h (g::q))
  (a:∀b,MpAt b l i f {M with out:=Zt t g.2 M.out}->Z0 c b j->GR c b q->n (e.put (some d) (.tup [])) b)(u:∀k∈Z i++Z f,k∈j:=by first|exact λ_ h=>h|exact λ_ h=>Yc _ h):Vb prog 205 [] [.one (.ptr l 0),.s t,.one g.1] d e h (K:=⟨n⟩):=
 I5 m (r.row g (Y8 ..)) (λk a v=>by have:=o k v;have:=(r.lab g (Y8 ..) k a).1;omega) λb x p=>
  a b x (r.same p w λk a=>u k (by simp[a])) (r.step p λk a=>o k (by simp[a]))
def Gk{d:Nat}{e:Env}{c h:HS}{l:Z2}{i f:C}{M:Mp}{t:aA}{g:C×List aE}{q:List (C×List aE)}{j:List Z2}{n:Env->HS->Prop}(m:MpAt h l i f M)(o:∀k∈l::(Z i++Z f),k.1<c.p)(w:Z0 c h j)(r:GR c h (g::q))
  (a:∀b,MpAt b l i f {M with nc:=Zt t g.2 M.nc}->Z0 c b j->GR c b q->n (e.put (some d) (.tup [])) b)(u:∀k∈Z i++Z f,k∈j:=by first|exact λ_ h=>h|exact λ_ h=>Yc _ h):Vb prog 206 [] [.one (.ptr l 0),.s t,.one g.1] d e h (K:=⟨n⟩):=
 K5 m (r.row g (Y8 ..)) (λk a v=>by have:=o k v;have:=(r.lab g (Y8 ..) k a).1;omega) λb x p=>
  a b x (r.same p w λk a=>u k (by simp[a])) (r.step p λk a=>o k (by simp[a]))
def MpAt.rO{h:HS}{l:Z2}{b a:C}{M:Mp}(m:MpAt h l b a M)(k:Int):MpAt (h.xV l (WJ {M with err:=k} b a)) l b a {M with err:=k}:=
 ⟨I,m.out.frame λk d=>by simp[HS.xV,show k≠l from λc=>m.nl.1 (c▸d)],m.nc.frame λk d=>by simp[HS.xV,show k≠l from λc=>m.nl.2.1 (c▸d)],m.lt,m.nl⟩
abbrev LG(h0 h3:HS)(bs:List (Z2×aD))(gs:List (C×List aE))(h:HS):Prop:=LM h0 h3 bs .nil [] [] gs 0 h
def VQ(m:Mp)(table:aA):aB (E×(List aE)):=
 Z1 (Vv m.src m.inp table) λv2=>some (v2.1,v2.2)
instance Zgx(m:Mp)(table:aA):Con (VQ m table) prog 201 [.one (.rp m.z),.one (.d (.str table))] (λr=>.tup [.agg (r.1.z.map RC.d),.one (.d (.sl (r.2.map (Z7 GV.z))))]):=by unfold VQ;have p1:PH [1] (Y.qB aL .done):=.intro;exact go 18 func201
def Bn(m:Mp)(t:E)(row:aE):aB Bool:=
 Z1 (W7 t m.step.d) λv2=>Za row v2.1 λx3=>Z1 (Bt x3 m.step.op m.step.value) λv4=>some !v4.1
instance Zgi(m:Mp)(t:E)(row:aE):Con (Bn m t row) prog 214 [.one (.rp m.z),.agg t.z,.one (.d (.sl (row.map GV.z)))] (λr=>.one (.d (.bool r))):=by unfold Bn;have p1:PH [1] (Y.qB aV .done):=.intro;have p2:PH [2] (Y.qB aY .done):=.intro;exact go 41 func214
def Dk(b:Bool):aB GV:=
 bif b then some (GV.mk 2 1 empty) else some (GV.mk 2 0 empty)
instance I7(b:Bool):Con (Dk b) prog 215 [.one (.d (.bool b))] (λr=>.agg (r.z.map RC.d)):=by unfold Dk;exact go 8 func215
def Js(o:Bool)(a:aE)(s:R3):R3:=bif o then(s.1,s.2.1++[a],s.2.2) else(s.1++[a],s.2.1,s.2.2)
def KP(M:Mp)(T:E){ρ:Type}(_:Nat)(a:aE)(s:R3)(next:R3->aB ρ):aB ρ:=
 Z1 (VU T a) λd=>Z1 (Bn M T a) λo=>Z1 (Bq M d) λe=>
 Z1 (bif e.2 then Za e.1 0 λv=>Z1 (Dk o) λb=>some (Wx v b) else some false) λc=>
 bif c then Z1 (Dk (!o)) λb=>Zp (d.length+1<=2097152) (next (Js (!o) a (s.1,s.2.1,s.2.2++[d++[b]]))) else next (Js o a s)
def EA(M:Mp):aB Mp:=
 Z1 (VQ M M.step.u) λq=>Zp (q.2.length<=2097152)<|
 Zd (KP M q.1) (λs=>some {M with out:=Zt M.step.o s.2.1 (Zt M.step.u s.1 M.out),nc:=Zt M.step.u s.2.2 M.nc}) q.2 0 ([],[],[])
def Z3j(g:HS)(l:Z2)(co cn:C)(M M1:Mp)(f:Is (EA M) M1)(m:MpAt g l co cn M)(K:V->HS->Prop)
  (hK:∀h',MpAt h' l co cn M1->Z0 g h' (Z co++Z cn)->K (.tup []) h'):Z5 prog 178 [.p l] g K:=by
 refine Z5.ov func178 ?_;unfold EA at f;have⟨⟨T,a⟩,ht,f⟩:=f.bind;have⟨t,f⟩:=f.chk;simp only at t f;have S:=(m.lt l (Y8 ..));simp[m.bx,Zv S,W1 S];refine V7 ht m ?_ ?_;simp;simp[Zv S,W1 S];intro t;have F:Z0 g ((g.w.xV (g.p+1,32) [C.d (D.str empty),C.nil,C.nil]).w.xV (g.p+1,32) (T.z.map C.d)) []:=by exact sm
 obtain⟨r,Q⟩:∃r,r=(g.w.xV (g.p+1,32) [C.d (D.str empty),C.nil,C.nil]).w.xV (g.p+1,32) (T.z.map C.d):=⟨_,rfl⟩;have ak:r.a (g.p+1,32)=some (T.z.map C.d):=by rw[Q];simp
 have ag:g.p+1<r.p:=by rw[Q];simp
 have hh:=Q;simp only[E.z,Yb,Yf] at hh;rw[<-Q] at F;rw[<-hh];have m3:LM g r [((g.p+1,32),T.z.map C.d)] .nil [] [] [(.nil,[]),(.nil,[]),(.nil,[])] 0 r:=
  ⟨sU ak,⟨MR.nil,rfl,I⟩,by simp[Zw,MR.nil],F,Y7 _,by simp[Z],by simp[Z],by simpa[Z4,Z] using ag,by simp[Z4,Z],by simp[Z4,Z],F.1,I⟩
 refine Z6.for (xs:=a) (s0:=(([],[],[]):R3)) (λi s e h'=>∃A B L,En e 95 [(0,.p l),(2,.p (g.p+1,32)),(4,.one A),(5,.one B),(6,.one L),(23,.l (a.map (Z7 GV.z))),(24,.i (a.length:Int)),(25,.i (i:Int))]/\
   LM g r [((g.p+1,32),T.z.map C.d)] .nil [] [] [(A,s.1),(B,s.2.1),(L,s.2.2)] 0 h'/\s.1.length<=i/\s.2.1.length<=i/\s.2.2.length<=i) f
   ⟨.nil,.nil,.nil,I,m3,I,I,I⟩ ?_ ?_
 rintro i s e h' ⟨A,B,L,d,J,n1,n2,n3⟩ hlt f;have U:IntKind.i64.wrap ((i:Int)+1)=(i:Int)+1:=Y6 _ X;unfold KP at f;have⟨j,af,f⟩:=f.bind;have⟨o,ho,f⟩:=f.bind;have⟨st,hst,f⟩:=f.bind;have⟨c,n,f⟩:=f.bind;have P:=m.frame J.same;have N:=J.a _ (Y8 ..);simp only[E.z,Yb,Yf] at N;simp[d,hlt,N];refine Zx ((Aa T a[i]).h j af) I ?_;simp[d,N];refine V7 ho (P.frame Z0.refl.qC.w) I ?_;simp[d,N];refine V7 hst (P.frame Z0.refl.qC.w.w) I ?_;simp[d,N];refine Z6.cu aG (λeq0 R=>Ek e eq0 [(8,.l (a[i].map GV.z)),(9,.one (.own (h'.p,497) (j.map GV.z))),(10,.b o),(50,.b c)] [0,2,4,5,6,23,24,25]/\
  R.arr (h'.p,497)=some (j.length,3)/\Z0 h' R []/\h'.p<R.p) ?_ ?_
 simp[d];refine GB n ?_ ?_<;>clear n<;>intro W n;replace n:=Is.get n;obtain⟨v,-,hv,n⟩:=n;have⟨b,hb,n⟩:=n.bind;obtain rfl:=Zk n;simp at hv;simp[d,W,hv];refine Zx ((I7 o).h b hb) I ?_;simp[d,W,hv];refine⟨λ_ _ x=>x,Ze.of ?_⟩;simp[d,Wx];exact sm;obtain rfl:=Zk n;simp[d,W]
 first|refine Ze.of ?_|refine⟨λ_ _ x=>x,Ze.of ?_⟩
 simp[d];exact sm;rintro e1 R ⟨hF,ha,ah,ao⟩;have d:=hF.an d;have Y:=J.new ah;simp[d];refine ZP f ?_ ?_<;>clear f<;>intro aq f;have⟨b,hb,f⟩:=f.bind;have⟨ap,f⟩:=f.chk;simp[d];refine Zx ((I7 (!o)).h b hb) I ?_;simp[d];refine UQ (xs:=j.map GV.z) (ys:=[b.z]) QE (Zm.own (by simp[ha]) sO (by intro y hy;obtain⟨z,_,rfl⟩:=Yi.1 hy;rfl)) rfl dE dE I sO ?_;simp[d];refine LM.app 2 (Y.new ?_) rfl PG kR dE (row:=j++[b]) (Zr.rowc I) sO λae h2 O hs2=>?_;exact sm;replace O:LM g r [((g.p+1,32),T.z.map C.d)] .nil [] [] [(A,s.1),(B,s.2.1),(ae,s.2.2++[j++[b]])] 0 h2:=O;have n4:(s.2.2++[j++[b]]).length<=i+1:=sO
 generalize s.2.2++[j++[b]]=sC at f O n4;generalize hq:(!o)=q at f;simp[d,hq];cases q;simp[d];refine LM.app 0 (O.new Z0.refl.qC.w) rfl PG kR dE (row:=a[i]) (Zr.rowc rfl) sO λu h4 G ad=>?_;simp[d,U];exact Zj.of (s.1++[a[i]],s.2.1,sC) ⟨⟨u,B,ae,by simp[d],G,sO,sO,n4⟩,f⟩;simp[d];refine LM.app 1 (O.new Z0.refl.qC.w) rfl PG kR dE (row:=a[i]) (Zr.rowc rfl) sO λu h4 G ad=>?_;simp[d,U];exact Zj.of (s.1,s.2.1++[a[i]],sC) ⟨⟨A,u,ae,by simp[d],G,sO,sO,n4⟩,f⟩;simp[d];cases o;simp[d];refine LM.app 0 (Y.new Z0.refl.qC.w) rfl PG kR dE (row:=a[i]) (Zr.rowc rfl) sO λu h4 G ad=>?_;simp[d,U];exact Zj.of (s.1++[a[i]],s.2.1,s.2.2) ⟨⟨u,B,L,by simp[d],G,sO,sO,sO⟩,f⟩;simp[d];refine LM.app 1 (Y.new Z0.refl.qC.w) rfl PG kR dE (row:=a[i]) (Zr.rowc rfl) sO λu h4 G ad=>?_;simp[d,U];exact Zj.of (s.1,s.2.1++[a[i]],s.2.2) ⟨⟨A,u,L,by simp[d],G,sO,sO,sO⟩,f⟩;rintro s e h' ⟨A,B,L,d,J,-⟩ f;obtain rfl:=Zk f;have P:=m.frame J.same;simp[d,P.bx];refine Cq P m.lt (J.same.mn) J.gr λh5 m5 am g5=>?_;simp[d,m5.bx];refine Cq m5 m.lt am g5 λh6 m6 aj g6=>?_;simp[d,m6.bx];refine Gk m6 m.lt aj g6 λh7 m7 al _=>?_;simp[d];exact hK h7 m7 al
def UZ(m:Mp)(wide:E):aB ((List Int)):=
 bif (m.step.g==6) then some m.step.j else Za m.cs.q 0 λx3=>Zp (Wm ((x3.j.length:Int)-(x3.pk.length:Int))) (WZ (λ(i8:Nat) (s8:(List Int)) next_8=>Zp (Wm ((wide.j.length:Int)-((x3.j.length:Int)-(x3.pk.length:Int)))) (Zp (Wm (((wide.j.length:Int)-((x3.j.length:Int)-(x3.pk.length:Int)))+(i8:Int))) (Wn s8 [(((wide.j.length:Int)-((x3.j.length:Int)-(x3.pk.length:Int)))+(i8:Int))] λ_=>Zp (Wm ((i8:Int)+1)) (next_8 (s8++[(((wide.j.length:Int)-((x3.j.length:Int)-(x3.pk.length:Int)))+(i8:Int))]))))) (λ(s8:(List Int))=>some s8) (Int.toNat ((x3.j.length:Int)-(x3.pk.length:Int))) 0 [])
instance Zfv(m:Mp)(wide:E):Con (UZ m wide) prog 212 [.one (.rp m.z),.agg wide.z] (λr=>.one (.d (.sl (r.map Zg)))):=by
 unfold UZ;have l1:LH (σ:=(List Int)) 35 [3,6,34] [.g 7 1 (λs=>s.map Zg)]:=.intro;exact go 50 func212

def BY(s1:aE)(s2:aE):aB Bool:=
 bif ((s1.length:Int) !=(s2.length:Int)) then some false else Zd (λ(i5:Nat) (x5:GV) (s5:Unit) next_5=>Za s2 (i5:Int) λx6=>bif (!(x5.g==x6.g)||(!(x5.int==x6.int)||(!(x5.text==x6.text)))) then some false else next_5 ()) (λ(s5:Unit)=>some true) s1 0 ()
instance K3(s1:aE)(s2:aE):Con (BY s1 s2) prog 71 [.one (.d (.sl (s1.map GV.z))),.one (.d (.sl (s2.map GV.z)))] (λr=>.one (.d (.bool r))):=by unfold BY;have l1:LH (σ:=Unit) 13 [0,1,12] []:=.intro;have p1:PH [6] (Y.qB aG .done):=.intro;exact go 26 func71
def Ro{P i m}{e d:Nat}{h c a t}{xs zs:aE}{v K}(j:ZC P i=some (m,3,e))(o:e<=4096)(g:Zm h 3 c (xs.map GV.z))(f:Zm h 3 a (zs.map GV.z))(n:WM c a)(q:xs.length+1<=2097152)
  (p:∀c' b,Zm b 3 c' ((xs++[v]).map GV.z)->Zm b 3 a (zs.map GV.z)->WM c' a->Z0 h b []->K (.one c') b):Ud P i c (.own t [v.z]) d h (K:=⟨K⟩):=by
 have r:(C.qH h c).a=h.a/\(C.qH h c).p=h.p:=by cases c<;>exact⟨rfl,rfl⟩
 refine UQ j g rfl dE o (by simp[GV.z]) (sU q) ?_;have l:xs.map GV.z++[v.z]=(xs++[v]).map GV.z:=I
 rw[l];refine p _ _ (Zm.app r.2.symm λy s=>?_) ((f.qH n).qC I).w (f.apart (Y7 _)) ⟨I,λk _ _=>I⟩;obtain⟨z,_,rfl⟩:=Yi.1 s;rfl
def Ls{ρ:Type}(a:List Int)(c:aE)(k:aE×aE->aB ρ):aB ρ:=
 Zd (λi v s next=>Z1 (A3 a i) λb=>bif b then next (s.1++[v],s.2) else next (s.1,s.2++[v])) k c 0 ([],[])
def KB(M:Mp)(T:E)(f:List Int){ρ:Type}(_:Nat)(a:aE)(s:R3)(next:R3->aB ρ):aB ρ:=
 Zp (a.length<=2097151)<|Z1 (VU T a) λd=>Ls f a λe=>Z1 (Bq M d) λh=>
 Z1 (bif h.2 then Z1 (BY h.1 e.1) λb=>some b else some false) λc=>
 Z1 (HM [d,e.1]) λg=>bif c then next (s.1++[e.2],s.2.1,s.2.2++[g]) else next (s.1++[e.2],s.2.1++[g],s.2.2)
def Dy(M:Mp):aB Mp:=
 Z1 (VQ M M.step.u) λq=>Z1 (UZ M q.1) λa=>Zp (q.2.length<=2097152)<|
 Zd (KB M q.1 a) (λs=>some {M with out:=Zt M.step.o s.2.1 (Zt M.step.u s.1 M.out),nc:=Zt M.step.u s.2.2 M.nc}) q.2 0 ([],[],[])
def R9(n l)(co cn:C)(M M1:Mp)(a:Is (Dy M) M1)(m:MpAt n l co cn M)(K:V->HS->Prop)
  (hK:∀h',MpAt h' l co cn M1->Z0 n h' (Z co++Z cn)->K (.tup []) h'):Z5 prog 176 [.p l] n K:=by
 refine Z5.qM func176 rfl kR rfl rfl I ?_;unfold Dy at a;have⟨⟨T,f⟩,ht,a⟩:=a.bind;have⟨Q,ap,a⟩:=a.bind;have⟨hlim,a⟩:=a.chk;simp only at hlim a ap;have hl:=(m.lt l (Y8 ..));simp[m.bx];refine V7 ht m ?_ ?_;simp;simp;have o:Z0 n ((n.w.xV (n.p+1,32) [C.d (D.str empty),C.nil,C.nil]).w.xV (n.p+1,32) (T.z.map C.d)) []:=by exact sm
 obtain⟨t,N⟩:∃t,t=(n.w.xV (n.p+1,32) [C.d (D.str empty),C.nil,C.nil]).w.xV (n.p+1,32) (T.z.map C.d):=⟨_,rfl⟩;have aj:t.a (n.p+1,32)=some (T.z.map C.d):=by rw[N];simp
 have al:n.p+1<t.p:=by rw[N];simp
 have hh:=N;simp only[E.z,Yb,Yf] at hh;rw[<-N] at o;rw[<-hh];refine V7 ap (m.frame o) I ?_;simp;intro _;replace aj:t.w.a (n.p+1,32)=some (T.z.map C.d):=aj;replace al:n.p+1<t.w.p:=sO;replace o:=o.w;generalize t.w=t at o aj al|-;clear hh N;have m3:LG n t [((n.p+1,32),T.z.map C.d)] [(.nil,[]),(.nil,[]),(.nil,[])] t:=
  ⟨sU aj,⟨MR.nil,rfl,I⟩,by simp[Zw,MR.nil],o,Y7 _,by simp[Z],by simp[Z],by simpa[Z4,Z] using al,by simp[Z4,Z],by simp[Z4,Z],o.1,I⟩
 refine Z6.for (λi s e h'=>∃S A z,En e 113 [(0,.p l),(2,.p (n.p+1,32)),(4,.l (Q.map Zg)),(5,.one S),(6,.one A),(7,.one z),(30,.l (f.map (Z7 GV.z))),(31,.i f.length),(32,.i i)]/\
   LG n t [((n.p+1,32),T.z.map C.d)] [(S,s.1),(A,s.2.1),(z,s.2.2)] h'/\s.1.length<=i/\s.2.1.length<=i/\s.2.2.length<=i) a
   ⟨.nil,.nil,.nil,I,m3,I,I,I⟩ ?_ ?_
 rintro i s e h' ⟨S,A,z,d,v,n1,n2,n3⟩ hlt a;have hw:IntKind.i64.wrap ((i:Int)+1)=(i:Int)+1:=Y6 _ X;unfold KB at a;have⟨ax,a⟩:=a.chk;have⟨u,aq,a⟩:=a.bind;have bt:=v.a _ (Y8 ..);simp only[E.z,Yb,Yf] at bt;simp[d,hlt,bt];refine Zx ((Aa T f[i]).h u aq) I ?_;simp[d];intro _;have ar:=v.new (h':=(h'.qC (h'.p,16*38+1) (some (u.length,3))).w) Z0.refl.qC.w;refine Z6.for (λj q x r=>∃G J,Ek e x [(10,.one (.own (h'.p,609) (u.map GV.z))),(11,.one G),(12,.one J)] [0,2,4,5,6,7,30,31,32]/\
  x.get 39=.l (f[i].map GV.z)/\x.get 40=.i (f[i].length:Int)/\x.get 41=.i j/\LG n t [((n.p+1,32),T.z.map C.d)] [(S,s.1),(A,s.2.1),(z,s.2.2)] r/\Zm r 3 G (q.1.map GV.z)/\Zm r 3 J (q.2.map GV.z)/\WM G J/\q.1.length<=j/\q.2.length<=j) a
  ⟨.nil,.nil,by simp[d],I,I,I,ar,.nil,.nil,I,I,I⟩ ?_ ?_
 rintro j q e r ⟨G,J,hF,ag,O,P,v,Y,gR,hA,q1,q2⟩ hlj a;have d:=hF.an d;have ao:IntKind.i64.wrap ((j:Int)+1)=(j:Int)+1:=Y6 _ X;have⟨b,hb,a⟩:=a.bind;simp[d,ag,O,P,hlj];refine Zx ((HT Q j).h b hb) I ?_;simp;have hx:Z0 r ((r.xV (r.p,224) [C.d (D.int i64 0),C.d (D.int i64 0),C.d (D.str empty)]).w.xV (r.p,224) (f[i][j].z.map C.d)).w []:=((Z0.refl.xV (.inr I)).w.xV (.inr I)).w;have gx:∀{c:C} {xs:List aC},Zm r 3 c xs->Zm (((r.xV (r.p,224) [C.d (D.int i64 0),C.d (D.int i64 0),C.d (D.str empty)]).w.xV (r.p,224) (f[i][j].z.map C.d)).w) 3 c xs:=λg=>(g.xV.w.xV).w;simp only[GV.z,Yb,Yf] at hx gx;refine ZP a ?_ ?_<;>clear a<;>intro _ a;simp[d];refine Ro (xs:=q.1) (zs:=q.2) QE dE ?_ ?_ hA X λc2 h5 U W am L=>?_;exact((gx Y).qC I).w;exact((gx gR).qC I).w;simp[d,P,ao];refine Zj.of (q.1++[f[i][j]],q.2) ⟨⟨c2,J,by simp[d],by simp[ag],by simp[O],I,(v.new (hx.trans ?_)).new L,U,W,am,sO,sO⟩,a⟩;exact Z0.refl.qC.w;simp[d];refine Ro (xs:=q.2) (zs:=q.1) QE dE ?_ ?_ hA.symm X λc2 h5 U W am L=>?_;exact((gx gR).qC I).w;exact((gx Y).qC I).w;simp[d,P,ao];refine Zj.of (q.1,q.2++[f[i][j]]) ⟨⟨G,c2,by simp[d],by simp[ag],by simp[O],I,(v.new (hx.trans ?_)).new L,W,U,am.symm,sO,sO⟩,a⟩;exact Z0.refl.qC.w;rintro q e r ⟨G,J,hF,ag,O,P,v,Y,gR,_,_,_⟩ a;have d:=hF.an d;have⟨st,hst,a⟩:=a.bind;have⟨c,B,a⟩:=a.bind;have⟨F,ak,a⟩:=a.bind;have dR:=gR.toD;have dM:=Y.toD;have aM:=Y.toA;simp[d,O,P,dR];refine LM.app 0 (v.new Z0.refl.qC.w) rfl PG kR dE (Zr.rowc rfl) sO λah h5 y _=>?_
 replace y:LG n t [((n.p+1,32),T.z.map C.d)] [(ah,s.1++[q.2]),(A,s.2.1),(z,s.2.2)] h5:=y;simp[d];refine V7 hst (m.frame y.same) I ?_;simp[d];refine GB B ?_ ?_<;>clear B<;>intro hs2 B;have⟨b,hb,B⟩:=B.bind;obtain rfl:=Zk B;simp[d,hs2];refine Zx ((K3 st.1 q.1).h b hb) (by simp[aM]) ?_;simp[d];refine ZP a ?_ ?_<;>clear a<;>intro _ a;simp[d,dM];refine Zx ((FJ [u,q.1] F ak)) (by simp[Z7]) ?_;simp[d];refine LM.app 2 (y.new ?_) rfl PG kR dE (Zr.rowc rfl) sO λR h9 m9 _=>?_;exact sm;simp[d,hw];exact Zj.of (s.1++[q.2],s.2.1,s.2.2++[F]) ⟨⟨ah,A,R,by simp[d],m9,sO,sO,sO⟩,a⟩;simp[d,dM];refine Zx ((FJ [u,q.1] F ak)) (by simp[Z7]) ?_;simp[d];refine LM.app 1 (y.new ?_) rfl PG kR dE (Zr.rowc rfl) sO λR h9 m9 _=>?_;exact sm;simp[d,hw];exact Zj.of (s.1++[q.2],s.2.1++[F],s.2.2) ⟨⟨ah,R,z,by simp[d],m9,sO,sO,sO⟩,a⟩;obtain rfl:=Zk B;simp only[cond_false] at a;simp[d,hs2];simp[d,dM];refine Zx ((FJ [u,q.1] F ak)) (by simp[Z7]) ?_;simp[d];refine LM.app 1 (y.new ?_) rfl PG kR dE (Zr.rowc rfl) sO λR h9 m9 _=>?_;exact sm;simp[d,hw];exact Zj.of (s.1++[q.2],s.2.1++[F],s.2.2) ⟨⟨ah,R,z,by simp[d],m9,sO,sO,sO⟩,a⟩;rintro s e h' ⟨S,A,z,d,v,-⟩ a;obtain rfl:=Zk a;have mM:=m.frame v.same;simp[d,mM.bx];refine Cq mM m.lt (v.same.mn) v.gr λh5 y L U=>?_;simp[d,y.bx];refine Cq y m.lt L U λh6 m6 au W=>?_;simp[d,m6.bx];refine Gk m6 m.lt au W λh7 m7 aw _=>?_;simp;exact hK h7 m7 aw
def Vi(kind:Int)(nullable:Bool):aB GV:=
 bif nullable then some (GV.mk 0 0 empty) else bif decide (kind<1) then some (GV.mk 0 0 empty) else bif decide (3<kind) then some (GV.mk 0 0 empty) else some (GV.mk kind 0 empty)
instance Zis(kind:Int)(nullable:Bool):Con (Vi kind nullable) prog 225 [.one (.d (.int .i64 kind)),.one (.d (.bool nullable))] (λr=>.agg (r.z.map RC.d)):=by unfold Vi;exact go 17 func225
def D6(m:Mp)(key:aE)(wide:E)(at_:List Int):aB (aE):=
 Z1 (Bq m key) λv2=>bif v2.2 then some v2.1 else Zd (λ(i5:Nat) (x5:Int) (s5:aE) next_5=>Za wide.j x5 λx6=>Z1 (Vi x6.g x6.f) λv7=>Wn s5 [v7] λ_=>next_5 (s5++[v7])) (λ(s5:aE)=>some s5) at_ 0 []
instance Zgh(m:Mp)(key:aE)(wide:E)(at_:List Int):Con (D6 m key wide at_) prog 213 [.one (.rp m.z),.one (.d (.sl (key.map GV.z))),.agg wide.z,.one (.d (.sl (at_.map Zg)))] (λr=>.one (.d (.sl (r.map GV.z)))):=by
 unfold D6;have l1:LH (σ:=aE) 24 [6,22,23] [.g 11 3 (λs=>s.map GV.z)]:=.intro;have p1:PH [8] (Y.qB aF .done):=.intro;exact go 46 func213
def By(row:aE)(removed:List Int)(inserted:List Int)(values:aE)(width:Int):aB (aE):=
 Zd (λ(i2:Nat) (x2:GV) (s2:aE) next_2=>Z1 (A3 removed (i2:Int)) λv4=>bif !v4 then Wn s2 [x2] λ_=>(next_2 (s2++[x2])) else next_2 s2) (λ(s2:aE)=>WZ (λ(i8:Nat) (s8:aE×aE) next_8=>Z1 (Cj inserted (i8:Int)) λv9=>bif decide (0<=v9) then Za values v9 λx11=>(Wn s8.1 [x11] λ_=>Zp (Wm ((i8:Int)+1)) (next_8 ((s8.1++[x11]),s8.2))) else Za s8.2 0 λx15=>Wn s8.1 [x15] λ_=>Zp (0<=1/\1<=(s8.2.length:Int)/\(s8.2.length:Int)<=(s8.2.length:Int)) (Zp (Wm ((i8:Int)+1)) (next_8 ((s8.1++[x15]),((s8.2.take s8.2.length).drop 1))))) (λ(s8:aE×aE)=>some s8.1) (Int.toNat width) 0 ([],s2)) row 0 []
instance I6(row:aE)(removed:List Int)(inserted:List Int)(values:aE)(width:Int):Con (By row removed inserted values width) prog 211 [.one (.d (.sl (row.map GV.z))),.one (.d (.sl (removed.map Zg))),.one (.d (.sl (inserted.map Zg))),.one (.d (.sl (values.map GV.z))),.one (.d (.int .i64 width))] (λr=>.one (.d (.sl (r.map GV.z)))):=by
 unfold By;have l1:LH (σ:=aE) 19 [1,2,3,4,17,18] [.g 11 3 (λs=>s.map GV.z)]:=.intro;have l2:LH (σ:=aE×aE) 34 [2,3,33] [.g 14 3 (λs=>s.1.map GV.z),.r 11 (λs=>s.2.map GV.z)]:=.intro;exact go 59 func211
abbrev N2:=Nat×List aE×List aE
def KQ(M:Mp)(T O:E)(e:List aE)(W:E)(a:List Int){ρ:Type}(_:Nat)(c:aE)(s:N2)(next:N2->aB ρ):aB ρ:=
 Z1 (VU T c) λb=>Z1 (A7 O e b) λf=>
 bif f.2 then Za e f.1 λy=>Zp (T.pk.length<=y.length/\y.length<=2097152)<|Z1 (By c [] a (y.drop T.pk.length) W.j.length) λr=>next (s.1+1,s.2.1++[r],s.2.2)
 else Z1 (D6 M b W a) λd=>Z1 (HM [b,d]) λg=>Z1 (By c [] a d W.j.length) λr=>next (s.1,s.2.1++[r],s.2.2++[g])
def DC(M:Mp):aB Mp:=
 Z1 (VQ M M.step.u) λq=>Z1 (VQ M M.step.o) λp=>Z1 (AS M M.step.u) λW=>Z1 (UZ M W) λa=>Zp (q.2.length<=2097152)<|
 Zd (KQ M q.1 p.1 p.2 W a) (λs=>some {M with out:=Zt M.step.u s.2.1 M.out,nc:=Zt M.step.u s.2.2 M.nc,err:=bif decide (s.1<p.2.length) then 12 else M.err}) q.2 0 (0,[],[])
def RJ(d l B A M M1)(c:Is (DC M) M1)(m:MpAt d l B A M)(K)
  (R:∀h',MpAt h' l B A M1->Z0 d h' (l::(Z B++Z A))->K (.tup []) h'):Z5 prog 177 [.p l] d K:=by
 refine Z5.qM func177 rfl kR rfl rfl I ?_;unfold DC at c;have⟨⟨T,n⟩,ht,c⟩:=c.bind;have⟨⟨O,os⟩,ho,c⟩:=c.bind;have⟨W,hW,c⟩:=c.bind;have⟨q,ah,c⟩:=c.bind;have⟨L,c⟩:=c.chk;simp only at L c ah;have hl:=(m.lt l (Y8 ..));have N:=Zv hl;have hne':=W1 hl;have S:∀{a b:Nat} {cs J:aD} {h:HS},Z0 d h []->h.p=a->Z0 d ((h.xV (a,b) cs).w.xV (a,b) J) []:=λ{a b cs J h} s e=>by subst e;exact s.trans ((Z0.refl.xV (.inr I)).w.xV (.inr I))
 simp[m.bx];refine V7 ht m I ?_;simp[m.bx,N];refine V7 ho (m.frame (S Z0.refl.w I)) I ?_;simp[m.bx,N];refine V7 hW (m.frame (S (S Z0.refl.w I).w I)) I ?_;simp;refine V7 ah (m.frame (S (S (S Z0.refl.w I).w I).w I)) I ?_;simp;intro _ _;generalize hH:HS.w _=h3;have P:Z0 d h3 []:=by rw[<-hH];exact sm
 have b1:h3.a (d.p+1,32)=some (T.z.map C.d):=by rw[<-hH];simp
 have b2:h3.a (d.p+1+1+1,64)=some (O.z.map C.d):=by rw[<-hH];simp
 have b3:h3.a (d.p+1+1+1+1+1,96)=some (W.z.map C.d):=by rw[<-hH];simp
 have ap:d.p+6<h3.p:=by rw[<-hH];simp
 obtain⟨G,u⟩:∃G,G=[((d.p+1,32),T.z.map C.d),((d.p+1+1+1,64),O.z.map C.d),((d.p+1+1+1+1+1,96),W.z.map C.d)]:=⟨_,rfl⟩;have m3:LG d h3 G [(.nil,[]),(.nil,[])] h3:=
  ⟨by rw[u];simpa using⟨b1,b2,b3⟩,⟨MR.nil,rfl,I⟩,by simp[Zw,MR.nil],P,Y7 _,by simp[Z],by simp[Z],by rw[u];simp[Z4,Z];omega,by simp[Z4,Z],by simp[Z4,Z],P.1,I⟩
 clear hH;refine Z6.for (λi s e h'=>∃z x,En e 123 [(0,.p l),(2,.p (d.p+1,32)),(4,.p (d.p+1+1+1,64)),(5,.l (os.map (Z7 GV.z))),(6,.p (d.p+1+1+1+1+1,96)),(7,.l (q.map Zg)),(8,.i T.pk.length),(9,.i s.1),(10,.one z),(11,.one x)]/\
   e.get 51=.l (n.map (Z7 GV.z))/\e.get 52=.i n.length/\e.get 53=.i i/\LG d h3 G [(z,s.2.1),(x,s.2.2)] h'/\s.1<=i/\s.2.1.length<=i/\s.2.2.length<=i) c
   ⟨.nil,.nil,I,I,I,I,m3,I,I,I⟩ ?_ ?_
 rintro i s e h' ⟨z,x,j,af,D,F,o,n0,n1,n2⟩ hlt c;have hw:IntKind.i64.wrap ((i:Int)+1)=(i:Int)+1:=Y6 _ X;have am:IntKind.i64.wrap ((s.1:Int)+1)=(s.1:Int)+1:=Y6 _ X;unfold KQ at c;have⟨t,ag,c⟩:=c.bind;have⟨f,hf,c⟩:=c.bind;have c1:=o.a _ (by rw[u];simp;exact .inl rfl);have c2:=o.a _ (by rw[u];simp;exact .inr (.inl rfl));have v:=o.a _ (by rw[u];simp;exact .inr (.inr rfl));simp only[E.z,Yb,Yf] at c1 c2 v;simp[j,af,D,F,hlt,c1];refine Zx ((Aa T n[i]).h t ag) I ?_;simp[j,c2];refine Zx ((Ey O os t).h f hf) I ?_;simp[j];refine ZP c ?_ ?_<;>clear c<;>intro _ c;have⟨y,ao,hy,c⟩:=c.get;have⟨⟨hyl,_⟩,c⟩:=c.chk;have⟨r,hr,c⟩:=c.bind;simp[j,am,ao,hy,hyl];refine Zx (Eg (y.drop T.pk.length) _ rfl) (by simp[Xy]) ?_;simp[j,v];intro _;refine Zx ((I6 n[i] [] q (y.drop T.pk.length) W.j.length).h r hr) (by simp[Xy]) ?_;simp[j];refine LM.app 0 (o.new ?_) rfl PG kR dE (Zr.rowc rfl) sO λc9 h9 m9 _=>?_;exact sm;simp[j,F,hw];exact Zj.of (s.1+1,s.2.1++[r],s.2.2) ⟨⟨c9,x,by simp[j],by simp[af],by simp[D],I,m9,sO,sO,sO⟩,c⟩;have⟨mv,aj,c⟩:=c.bind;have⟨r2,al,c⟩:=c.bind;have⟨r,hr,c⟩:=c.bind;simp[j,v];refine V7 aj (m.frame (o.same.trans Z0.refl.qC.w.w)) I ?_;simp[j];refine Zx (FJ [t,mv] r2 al) (by simp[Z7]) ?_;simp[j];refine LM.app 1 (o.new ?_) rfl PG kR dE (Zr.rowc rfl) sO λc8 h8 U _=>?_;exact sm;replace U:LG d h3 G [(z,s.2.1),(c8,s.2.2++[r2])] h8:=U;have v:=U.a _ (by rw[u];simp;exact .inr (.inr rfl));simp only[E.z,Yb,Yf] at v;simp[j,v];intro _;refine Zx ((I6 n[i] [] q mv W.j.length).h r hr) I ?_;simp[j];refine LM.app 0 (U.new ?_) rfl PG kR dE (Zr.rowc rfl) sO λc9 h9 m9 _=>?_
 exact sm;simp[j,F,hw];exact Zj.of (s.1,s.2.1++[r],s.2.2++[r2]) ⟨⟨c9,c8,by simp[j],by simp[af],by simp[D],I,m9,sO,sO,sO⟩,c⟩;rintro s e h' ⟨z,x,j,_,D,F,o,-⟩ c;obtain rfl:=Zk c;have V:=m.frame o.same;simp[j,D,F];intro _;refine BJ (λhb=>?_) (λhb=>?_);simp only[hb,cond_true] at R;have ak:Z0 d (h'.xV l (WJ {M with err:=12} B A)) (l::(Z B++Z A)):=(o.same.mn).xV (.inl I);have gx:GR d (h'.xV l (WJ {M with err:=12} B A)) [(z,s.2.1),(x,s.2.2)]:=⟨λg hg=>(o.gr.row g hg).frame λk hk=>by simp[HS.xV,show k≠l from λhe=>by have:=(o.gr.lab g hg k hk).1;rw[he] at this;omega],o.gr.lab,o.gr.dis⟩;simp[j,V.bx];refine Cq (V.rO 12) m.lt ak gx λh6 Q Y g6=>?_;simp[j,Q.bx];refine Gk Q m.lt Y g6 λh7 m7 ae _=>?_;simp;exact R h7 m7 ae;simp only[hb,cond_false] at R;simp[j,V.bx];refine Cq V m.lt (o.same.mn) o.gr λh6 Q Y g6=>?_;simp[j,Q.bx];refine Gk Q m.lt Y g6 λh7 m7 ae _=>?_;simp;exact R h7 m7 (ae.mono (by simp+contextual))

def Rz{d:Nat}{e h l f g c M t a i}(m:MpAt h l f g M)(j:c.toD=some (.sl (a.map (Z7 GV.z))))
  (k:∀b,MpAt b l f g {M with out:=Zt t a M.out}->Z0 h b (Z f)->i (e.put (some d) (.tup [])) b):Vb prog 205 [] [.p l,.s t,.one c] d e h (K:=⟨i⟩):=
 Zc (sU (Ka h l f g c M t a m j _ λb o n=>k b o n))
def JF{ρ:Type}(M:Mp)(t:aA)(k:E×List aE->aB ρ):aB ρ:=
 Z1 (Vv M.src M.inp t) λq=>Z1 (Wg M.src t) λf=>Zp (f.2=true/\F7 q.2) (k q)
def Zf8{ρ:Type}{M t k}{r:ρ}(b:Is (JF M t k) r):∃T a i,Is (Vv M.src M.inp t) (T,a)/\Is (Wg M.src t) (i,true)/\F7 a/\Is (k (T,a)) r:=by unfold JF at b;replace b:=b.bind;have⟨⟨T,a⟩,g,b⟩:=b;replace b:=b.bind;have⟨⟨i,f⟩,d,b⟩:=b;replace b:=b.chk;obtain⟨⟨c,e⟩,b⟩:=b;simp only at c;subst c;exact⟨T,a,i,g,d,e,b⟩
def Gg(W:E)(b:Bool){ρ:Type}(_:Nat)(a:aE)(s:List aE)(next:List aE->aB ρ):aB ρ:=
 Z1 (Dk b) λv=>Zp (a.length+1<=2097152)<|Z1 (A5 W s (a++[v])) next
def KD(M:Mp)(W:E){ρ:Type}(i:Nat)(t:aA)(s:List aE)(next:List aE->aB ρ):aB ρ:=
 JF M t λq=>Zd (Gg W ((i:Int)==1)) next q.2 0 s
def GL(M:Mp):aB Mp:=
 Z1 (AS M M.step.u) λW=>Zd (KD M W) (λs=>some {M with out:=Zt M.step.u s M.out}) [M.step.u,M.step.o] 0 []
def Zcj(n l co cn)(M M1:Mp)(hm:Is (GL M) M1)(m:MpAt n l co cn M)(K:V->HS->Prop)
  (hK:∀h',MpAt h' l co cn M1->Z0 n h' (Z co++Z cn)->K (.tup []) h'):Z5 prog 180 [.p l] n K:=by
 refine Z5.ov func180 ?_;unfold GL at hm;replace hm:=hm.bind;have⟨W,hW,hm⟩:=hm;have hl:=(m.lt l (Y8 ..));have hne:=Zv hl;have hne':=W1 hl;simp[m.bx];refine V7 hW m I ?_;simp;refine Z6.cu [0,5,12,1,2,3,4,6,7,8,9,10,11] (λe1 J=>En e1 65 [(0,.p l),(2,.p (n.p+1,32)),(3,.one .nil),(27,.one (.own (n.p+1+1,432) [[.str M.step.u],[.str M.step.o]])),(28,.i 2),(29,.i 0)]/\
  J.a (n.p+1,32)=some (W.z.map C.d)/\n.p+1<J.p/\Z0 n J []) ?_ ?_
 simp[m.bx,hne];refine Ze.of ⟨I,I,I,?_⟩;exact sm;rintro e1 J ⟨g,G,P,B⟩;simp;refine Z6.for (xs:=[M.step.u,M.step.o]) (s0:=([]:List aE)) (λi s r h=>∃o,Ek e1 r [(3,.one o),(29,.i (i:Int))] [0,2,27,28]/\
  o.toD=some (.sl (s.map (Z7 GV.z)))/\h.a (n.p+1,32)=some (W.z.map C.d)/\n.p+1<h.p/\Z0 n h []) hm
  ⟨.nil,by simp[g],rfl,G,P,B⟩ ?_ ?_
 .rintro i s e h ⟨o,hF,F,G,P,B⟩ hlt hm;have g:=hF.an g;have hw:IntKind.i64.wrap ((i:Int)+1)=(i:Int)+1:=Y6 _ (by simp at hlt;omega);have⟨T,f,k,ag,ak,aj,hm⟩:=Zf8 hm;obtain⟨t,hx,ht⟩:∃t:aA,[[D.str M.step.u],[D.str M.step.o]][i]?=some [D.str t]/\t=[M.step.u,M.step.o][i]:=by simp at hlt;rcases(by omega:i=0\/i=1) with rfl|rfl<;>exact⟨_,rfl,rfl⟩
  rw[<-ht] at ag ak;have m1:=m.frame B;have aq:(i:Int)<2:=by simp at hlt;omega
  simp[g,aq,hx];refine Zc (Kp _ l co cn M t T f m1 ag k ak (λO hr=>(aj.2 O hr).2) _ λc L am _=>?_);have N:=am.same;have al:=N.2 (n.p+1,32) (sU P) I;rw[G] at al;simp[g];have⟨qs,r0,nd,Q⟩:=Rest.of am;have bf:qs.length=f.length:=by have:=congrArg List.length r0.ds;simpa using this
  have ao:Z0 L ((L.xV (L.p,96) [C.d (D.str empty),C.nil,C.nil]).w.xV (L.p,96) (T.z.map C.d)) []:=(Z0.refl.xV (.inr I)).w.xV (.inr I);generalize hH:HS.xV (L.xV (L.p,96) _).w _ _=h3;have R:Z0 L h3 []:=by rw[<-hH];exact ao
  clear hH ao;refine MR.lenK r0.mr ?_;simp[g,bf];have ah:=N.trans R;have m3:LM h h3 [((n.p+1,32),W.z.map C.d)] c qs f [] 0 h3:=
   ⟨sU ((R.2 _ (Y4 P N.1) I).trans al),r0.frame λk y=>R.2 k (Q k y).2 I,I,ah,Y7 _,I,I,by intro b hb;simp at hb;subst hb;exact⟨by have:=ah.1;simp;omega,λh9=>by have:=(Q _ h9).1;simp at this;omega⟩,λk y=>⟨(Q k y).1,Y4 (Q k y).2 R.1⟩,nd,ah.1,λO hr=>(aj.2 O hr).1⟩
  refine Z6.for (xs:=f) (s0:=s) (λj q r h'=>∃o,Ek e r [(3,.one o),(4,.i (i:Int)),(40,.one c),(41,.i (f.length:Int)),(42,.i (j:Int))] [0,2,27,28,29]/\
   o.toD=some (.sl (q.map (Z7 GV.z)))/\LM h h3 [((n.p+1,32),W.z.map C.d)] c qs f [] j h') hm
   ⟨o,by simp[g],F,m3⟩ ?_ ?_
  .rintro j q e h' ⟨o,hF,F,A⟩ S hm;have g:=hF.an g;have az:IntKind.i64.wrap ((j:Int)+1)=(j:Int)+1:=Y6 _ (by have:=aj.1;omega);unfold Gg at hm;replace hm:=hm.bind;have⟨v,hv,hm⟩:=hm;replace hm:=hm.chk;have⟨_,hm⟩:=hm;replace hm:=hm.bind;have⟨u,ar,hm⟩:=hm;obtain⟨lr,cap,sp,x,ap,rfl,bb,ay,a8,_⟩:=A.at S;have G:=A.a _ (Y8 ..);simp only[E.z,Yb,Yf] at G;simp[g,S,bb,ay];refine Z6.jS (λi=>i==5) (Y.qB [1,2,3,4] (.two 0 5 (Y.qB [5,6,7,8,9] .done) (Y.qB [] (.two 0 6 (Y.qB [6,7,8,9] .done) (Y.qB [] (.two 0 7 (Y.qB [7,8,9] .done) (Y.qB [0,8,9] .done))))))) follows kR (λr J=>∃U,Ek e r [(3,.one U),(40,.one (.mrow lr 0 f.length cap))] [0,2,4,27,28,29,41,42]/\
    U.toD=some (.sl (u.map (Z7 GV.z)))/\Z0 h' J (Z x)) ?_ ?_
   .simp[V8,g,G]
    repeat' (first
     | (refine Zx ((I7 ((i:Int)==1)).h v hv) I ?_
        simp[g,G])
     | (refine Wl QE kR dE dE (a8.frame λ_ _=>rfl) (Zr.qU rfl) (by simp[WA];omega) λc8 h8 bg ba ax=>?_
        have aw:Z0 h' h8 (Z x):=Z0.trans (Z0.mono (ls:=[]) sm I) ba;have au:=(A.use S ap aw).a _ (Y8 ..);simp only[E.z,Yb,Yf] at au;simp[g,au])
     |refine⟨λ_ _ x=>x,?_⟩
     |with_reducible refine And.intro ?_ ?_)
    all_goals
     refine Z80 (Z c8) (vs':=[.agg (W.z.map C.d),.one o,.l ((f[j]++[v]).map GV.z)]) ⟨.refl,.refl,.inr ⟨_,rfl,Dx (c:=c8) ?_⟩,trivial⟩ (G1 W q (f[j]++[v]) u ar) (by simp[GK F]) ?_;have e9:WA f[j]++[v.z.map C.d]=WA (f[j]++[v]):=by simp[WA]
     rw[<-e9];exact bg.frame λk y=>by simp only[HS.only];rw[if_pos y]
     simp[g];refine Ze.of ⟨.d (.sl (u.map (Z7 GV.z))),by simp[g],rfl,(aw.trans' Z0.qP λk y=>?_).w⟩;rcases ax k y with h9|h9;exact .inl h9;refine .inr ?_;simp at h9;omega
   rintro e1 J ⟨U,hF,bc,a1⟩;have g:=hF.an g;simp[g,az];exact Zj.of u ⟨⟨U,by simp[g],bc,A.use S ap a1⟩,hm⟩
  rintro q e h' ⟨o,hF,F,A⟩ hm;have g:=hF.an g;simp[g,hw];have a7:=A.a _ (Y8 ..);exact Zj.of q ⟨⟨o,by simp[g],F,a7,by have:=A.same.1;omega,B.trans A.same⟩,hm⟩
 rintro s e h ⟨o,hF,F,_,_,B⟩ hm;have g:=hF.an g;obtain rfl:=Zk hm;have m1:=m.frame B;simp[g,m1.bx];refine Rz m1 F λh6 m6 bd=>?_;simp;exact hK h6 m6 ((B.mn).trans (bd.mono (by simp+contextual)))
def LG.put{d e h:HS}{c:List (Z2×aD)}{i:List (C×List aE)}{l:Z2}{n:aD}(m:LG d e c i h)(o:d.p<=l.1)(h2:l.1<e.p)(q:∀b∈c,b.1≠l):LG d e c i (h.xV l n) where
 a:=λb f=>by simp[HS.xV,q b f];exact m.a b f
 rest:=⟨MR.nil,rfl,I⟩
 row:=λg j=>(m.row g j).frame λk r=>by
  have:k≠l:=by rintro rfl;have:=(m.lab g j k r).1;omega
  simp[HS.xV,this]
 same:=m.same.xV (.inr o)
 p:=m.p
 lab:=m.lab
 dis:=m.dis
 sb:=m.sb
 sq:=m.sq
 nd:=m.nd
 s0:=m.s0
 ne:=m.ne
def Zcu:W3 prog 260=some [.nil,.nil]:=kR
def Lq{ρ:Type}(_:Nat)(a:aE)(s:List aE×List aE)(next:List aE×List aE->aB ρ):aB ρ:=
 Zp (a.length<=2097152)<|Za a (a.length-1:Int) λv=>bif v.int==0 then next (s.1++[a.take (a.length-1)],s.2) else Zp (v.int=1) (next (s.1,s.2++[a.take (a.length-1)]))
def Gn(M:Mp):aB Mp:=
 Z1 (VQ M M.step.u) λq=>Zp (q.2.length<=2097152)<|Zd Lq (λs=>some {M with out:=Zt M.step.o s.2 (Zt M.step.u s.1 M.out)}) q.2 0 ([],[])
def Z7r(d:HS)(l:Z2)(u y:C)(M M1:Mp)(b:Is (Gn M) M1)(m:MpAt d l u y M)(K:V->HS->Prop)
  (hK:∀h',MpAt h' l u y M1->Z0 d h' (Z u++Z y)->K (.tup []) h'):Z5 prog 181 [.p l] d K:=by
 refine Z5.ov func181 ?_;unfold Gn at b;have⟨⟨T,a⟩,ht,b⟩:=b.bind;have⟨G,b⟩:=b.chk;simp only at G b;have R:=(m.lt l (Y8 ..));simp[m.bx,Zv R,W1 R];refine V7 ht m I ?_;simp[m.bx,Zv R,W1 R,Zcu];intro _;generalize hH:HS.w _=h3;have L:Z0 d h3 []:=by rw[<-hH];exact sm
 have o:h3.a (d.p+1+1,64)=some [.nil,.nil]:=by rw[<-hH];simp
 have ak:d.p+2<h3.p:=by rw[<-hH];simp
 clear hH;have m3:LG d h3 [] [(.nil,[]),(.nil,[])] h3:=
  ⟨I,⟨MR.nil,rfl,I⟩,by simp[Zw,MR.nil],L,Y7 _,by simp[Z],by simp[Z],I,by simp[Z4,Z],by simp[Z4,Z],L.1,I⟩
 refine Z6.for (xs:=a) (s0:=(([],[]):List aE×List aE)) (λi s e h'=>∃j q,En e 64 [(0,.p l),(4,.p (d.p+1+1,64)),(18,.l (a.map (Z7 GV.z))),(19,.i (a.length:Int)),(20,.i (i:Int))]/\
   h'.a (d.p+1+1,64)=some [j,q]/\LG d h3 [] [(j,s.1),(q,s.2)] h'/\s.1.length<=i/\s.2.length<=i) b
   ⟨.nil,.nil,I,o,m3,I,I⟩ ?_ ?_
 .rintro i s e h' ⟨j,q,c,o,f,n1,n2⟩ hlt b;have hw:IntKind.i64.wrap ((i:Int)+1)=(i:Int)+1:=Y6 _ X;unfold Lq at b;have⟨ao,b⟩:=b.chk;have⟨v,al,B,b⟩:=b.get;have am:IntKind.i64.wrap ((a[i].length:Int)-1)=(a[i].length:Int)-1:=Y6 _ X;obtain⟨n,J⟩:∃n:Nat,(a[i].length:Int)-1=(n:Int):=⟨a[i].length-1,X⟩;have ag:a[i].length-1=n:=X
  have O:IntKind.i64.wrap (n:Int)=(n:Int):=Y6 _ X;rw[J] at B;rw[ag] at b;simp at B;have P:n<=a[i].length:=X
  simp[c,hlt];intro _;cases hvi0:v.int==0 with
  |true=>
    rw[hvi0] at b;simp only[cond_true] at b;have D:v.int=0:=sU hvi0;refine Z6.cut (Y.qB [0,1,2,3,5,6,7,8,9,10,11,12,13,14] (.two 4 15 (Y.qB [15,16,17,18] .done) (Y.qB [] (.two 4 16 (Y.qB [16,17,18] .done) (Y.qB [4,17,18] .done))))) follows kR (λt z=>∃r,Ek e t [] [0,4,18,19,20]/\
     z.a (d.p+1+1,64)=some [r,q]/\LG d h3 [] [(r,s.1++[a[i].take n]),(q,s.2)] z) ?_ ?_
    .simp[c,O,J,B,D,P,o];have af:=f.p;refine⟨?_,?_,?_⟩
     all_goals
      refine LM.app 0 (f.new Z0.refl.qC.w) rfl PG kR dE (row:=a[i].take n) (Zr.rowc (by simp[XP])) sO λr F m9 S=>?_;have U:F.a (d.p+1+1,64)=some [j,q]:=(S.2 _ sO λg=>by have:=(f.lab (j,s.1) I _ g).1;simp at this<;>omega).trans o;simp[c,O,J,B,D,P,U];refine Ze.of ⟨r,by simp[c],I,LG.put m9 (by simp<;>omega) (by simp<;>omega) I⟩
    rintro e1 z ⟨r,hF,o,f⟩;have c:=hF.an c;simp[c,hw];exact Zj.of (s.1++[a[i].take n],s.2) ⟨⟨_,_,by simp[c],o,f,sO,sO⟩,b⟩
  |false=>?_
  rw[hvi0] at b;simp only[cond_false] at b;have⟨D,b⟩:=b.chk;refine Z6.cut (Y.qB [0,1,2,3,5,6,7,8,9,10,11,12,13,14] (.two 4 15 (Y.qB [15,16,17,18] .done) (Y.qB [] (.two 4 16 (Y.qB [16,17,18] .done) (Y.qB [4,17,18] .done))))) follows kR (λt z=>∃r,Ek e t [] [0,4,18,19,20]/\
   z.a (d.p+1+1,64)=some [j,r]/\LG d h3 [] [(j,s.1),(r,s.2++[a[i].take n])] z) ?_ ?_
  .simp[c,O,J,B,D,P,o];have af:=f.p;refine⟨?_,?_,?_⟩
   all_goals
    refine LM.app 1 (f.new Z0.refl.qC.w) rfl PG kR dE (row:=a[i].take n) (Zr.rowc (by simp[XP])) sO λr F m9 S=>?_;have U:F.a (d.p+1+1,64)=some [j,q]:=(S.2 _ sO λg=>by have:=(f.lab (q,s.2) I _ g).1;simp at this<;>omega).trans o;simp[c,O,J,B,D,P,U];refine Ze.of ⟨r,by simp[c],I,LG.put m9 (by simp<;>omega) (by simp<;>omega) I⟩
  rintro e1 z ⟨r,hF,o,f⟩;have c:=hF.an c;simp[c,hw];exact Zj.of (s.1,s.2++[a[i].take n]) ⟨⟨_,_,by simp[c],o,f,sO,sO⟩,b⟩
 rintro s e h' ⟨j,q,c,o,f,-⟩ b;obtain rfl:=Zk b;have mM:=m.frame f.same;have af:=f.p;have Q:=f.gr;have ah:(d.p+1+1,64)∉Z j++Z u:=λg=>by
  rcases Y3.1 g with g|g
  have:=(f.lab (j,s.1) I _ g).1;simp at this<;>omega
  have:=m.lt _ (Yc _ (YV _ g));simp at this<;>omega
 simp[c];refine Z6.jS (λ_=>false) (Y.qB [0,1,6,7,2,3,4,5,8] .done) follows kR (λt E=>Ek e t [] [0,4]/\E.a (d.p+1+1,64)=some [j,q]/\MpAt E l u y {M with out:=Zt M.step.u s.1 M.out}/\Z0 d E (Z u++Z y)/\GR d E [(q,s.2)]) ?_ ?_;simp[V8,c,o,mM.bx];refine I5 mM (Q.row (j,s.1) I) (λk g F=>by have:=m.lt k F;have:=(Q.lab (j,s.1) I k g).1;omega) λA N x=>?_;simp[V8];exact Ze.of ⟨by simp[c],(x.2 _ sO ah).trans o,N,Q.same x (f.same.mn) λk g=>by simp[g],Q.step x λk g=>m.lt k (by simp[g])⟩;rintro e1 E ⟨hF,b4,W,aj,g4⟩;have c:=hF.an c;simp[c,b4,W.bx];refine Z6.jS (λ_=>false) (Y.qB [0,1,6,7,2,3,4,5,8] .done) follows kR (λe5 A=>MpAt A l u y {M with out:=Zt M.step.o s.2 (Zt M.step.u s.1 M.out)}/\Z0 d A (Z u++Z y)) ?_ ?_;simp[V8,c,b4,W.bx];refine Cq W m.lt aj g4 λA N x _=>?_;simp[V8];exact Ze.of ⟨N,x⟩;rintro e5 A ⟨N,x⟩;simp;exact hK A N x
def EW(M:Mp)(T:E)(a:List aE)(d:aE)(o:Bool):aB (List aE):=
 Z1 (Bn M T d) λb=>bif b !=o then Za M.cs.q 0 λe=>Z1 (VU T d) λc=>Z1 (Dk o) λv=>Zp (c.length+1<=2097152) (Z1 (A5 e a (c++[v])) some) else some a
def Q7(h:HS)(t u g l:Z2)(O N q:C)(M:Mp)(T:E)(c r:List aE)(j:aE)(o:Bool)(a:Is (EW M T c j o) r)(m:MpAt h l O N M)(D:h.a t=some [.ptr l 0])(n:h.a u=some (T.z.map C.d))(k:h.a g=some [q])(A:q.toD=some (.sl (c.map (Z7 GV.z))))
  (s:t.1<h.p/\u.1<h.p/\g.1<h.p)(K:V->HS->Prop)(F:∀h' e,e.toD=some (.sl (r.map (Z7 GV.z)))->h'.a g=some [e]->Z0 h h' [g]->K (.tup []) h'):
  Z5 prog 216 [.l (j.map GV.z),.b o,.p t,.p u,.p g] h K:=by
 refine Z5.ov func216 ?_;unfold EW at a;have⟨b,W,a⟩:=a.bind;have n1:=Zv s.1;have n2:=Zv s.2.1;have n3:=Zv s.2.2;have L:=m.bx;simp only[E.z,Yb,Yf] at n;simp[D,n];refine V7 W m I ?_;simp;refine ZP a ?_ ?_<;>clear a<;>intro hc a;replace a:=Is.get a;obtain⟨P,-,B,a⟩:=a;have⟨f,J,a⟩:=a.bind;have⟨v,X,a⟩:=a.bind;have⟨af,a⟩:=a.chk;have⟨i,G,a⟩:=a.bind;obtain rfl:=Zk a;simp at B;refine Z6.jS (λ_=>true) (Y.qB [0,1,2,3,4,5,6,7,8,9,11,10,12,13,14,15,16] .done) follows kR (λQ h'=>∃e,e.toD=some (.sl (i.map (Z7 GV.z)))/\h'.a g=some [e]/\Z0 h h' [g]) ?_ ?_;simp[V8,D,n,k,L,B];refine Zx ((Aa T j).h f J) I ?_;simp[V8];refine⟨λ_ _ x=>x,?_⟩;refine Zx ((I7 o).h v X) I ?_;simp[V8];refine⟨λ_ _ x=>x,?_⟩;refine UQ (xs:=f.map GV.z) (ys:=[v.z]) QE (Zm.own I I (by intro y Z;obtain⟨z,_,rfl⟩:=Yi.1 Z;rfl)) rfl dE dE I sO ?_;simp[V8];refine⟨λ_ _ x=>x,?_⟩;refine Zx (G1 P c (f++[v]) i G) (by simp[GK A]) ?_;simp[V8,k];refine⟨λ_ _ x=>x,Ze.of ⟨.d (.sl (i.map (Z7 GV.z))),rfl,I,Z0.xV ?_ (.inl I)⟩⟩;exact sm;rintro Q h' ⟨e,R,S,U⟩;simp;exact F h' e R S U;obtain rfl:=Zk a;simp;exact F _ q A k Z0.refl.w
def Zd6{d:Nat}{e:Env}{h:HS}{l:Z2}{g f c:C}{M:Mp}{t:aA}{a:List aE}{i:Env->HS->Prop}(m:MpAt h l g f M)(j:c.toD=some (.sl (a.map (Z7 GV.z))))
  (k:∀b,MpAt b l g f {M with nc:=Zt t a M.nc}->Z0 h b (Z f)->i (e.put (some d) (.tup [])) b):Vb prog 206 [] [.p l,.s t,.one c] d e h (K:=⟨i⟩):=
 Zc (sU (K2 h l g f c M t a m j _ λb o n=>k b o n))
def Lr(M:Mp)(T:E)(c:List aE)(_:Nat)(a:aE)(s:List aE×List aE)(next:List aE×List aE->aB Mp):aB Mp:=
 Z1 (VU T a) λd=>Z1 (A7 T c d) λf=>bif f.2 then some {M with err:=13} else
 Z1 (EW M T s.2 a true) λb=>Z1 (A5 T s.1 a) λe=>next (e,b)
def EY(M:Mp):aB Mp:=
 Z1 (VQ M M.step.u) λq=>Z1 (VQ M M.step.o) λp=>Zp (q.2.length<=2097152/\p.2.length<=2097152)<|
 Zd (λ(_:Nat) (a:aE) (s:List aE) next=>Z1 (EW M q.1 s a false) next)
  (λs=>Zd (Lr M q.1 q.2) (λs=>some {M with out:=Zt M.step.u s.1 M.out,nc:=Zt M.step.u s.2 M.nc}) p.2 0 (q.2,s)) q.2 0 []
def Zci(n:HS)(l:Z2)(z J:C)(M M1:Mp)(c:Is (EY M) M1)(m:MpAt n l z J M)(K:V->HS->Prop)
  (hK:∀h',MpAt h' l z J M1->Z0 n h' (l::(Z z++Z J))->K (.tup []) h'):Z5 prog 179 [.p l] n K:=by
 refine Z5.ov func179 ?_;unfold EY at c;have⟨⟨T,g⟩,ht,c⟩:=c.bind;have⟨⟨O,N⟩,ho,c⟩:=c.bind;have⟨⟨bd,hl2⟩,c⟩:=c.chk;simp only at bd hl2 c;have hl:=(m.lt l (Y8 ..));simp[m.bx,Zv hl,W1 hl];refine Z6.cut (Y.qB aK (.two 6 10 (Y.qB [7,8,9,10,11,12] .done) (Y.qB [6,7,8,9,11,12] .done))) follows kR (λe h=>∃A:Z2,En e 90 [(1,.p (n.p,16)),(2,.p A),(3,.l (g.map (Z7 GV.z)))]/\h.a (n.p,16)=some [.ptr l 0]/\h.a A=some (T.z.map C.d)/\A.1<h.p/\n.p<h.p/\Z0 n h []) ?_ ?_
 .simp[m.bx,Zv hl,W1 hl];refine⟨?_,?_⟩
  all_goals
   refine V7 ht (m.frame ?_) I ?_;exact sm;simp;refine⟨λ_ _ x=>x,Ze.of ⟨_,by simp;rfl,I,I,I,I,?_⟩⟩;exact sm
 rintro e h1 ⟨A,a,bm,bt,hlt,a7,ax⟩;have m1:=m.frame ax;have hl':=(m1.lt l (Y8 ..));simp[a,bm];refine Z6.cut (Y.qB aK (.two 6 10 (Y.qB [7,8,9,10,11,12] .done) (Y.qB [6,7,8,9,11,12] .done))) follows kR (λj h=>Ek e j [(5,.l (N.map (Z7 GV.z)))] [1,2,3]/\Z0 h1 h []) ?_ ?_
 .simp[a,bm,m1.bx,Zv hl',W1 hl'];refine⟨?_,?_⟩
  all_goals
   refine V7 ho (m1.frame ?_) I ?_;exact sm;simp[a];refine⟨λ_ _ x=>x,Ze.of ⟨by simp[a],?_⟩⟩;exact sm
 rintro e o ⟨hF,q⟩;have a:=hF.an a;have m2:=m1.frame q;have bb:=(q.2 (n.p,16) a7 I).trans bm;have bf:=(q.2 A hlt I).trans bt;have al:=Y4 hlt q.1;have az:=Y4 a7 q.1;simp[a];intro _;obtain⟨L,ak⟩:∃L,L=(o.xV (o.p,96) [.nil]).w:=⟨_,rfl⟩;have S:Z0 o L []:=by rw[ak];exact(Z0.refl.xV (.inr I)).w
 have bh:L.a (o.p,96)=some [.nil]:=by rw[ak];simp
 have bi:o.p<L.p:=by rw[ak];simp
 have a8:=(ax.trans q).trans S;rw[<-ak];clear ak;have u:∀h',Z0 L h' [(o.p,96)]->MpAt h' l z J M/\h'.a (n.p,16)=some [.ptr l 0]/\h'.a A=some (T.z.map C.d)/\Z0 n h' []/\((n.p,16):Z2).1<h'.p/\A.1<h'.p/\o.p<h'.p:=λh' hs=>by
  have U:Z0 n h' []:=a8.trans' hs λk hk=>.inr (by simp at hk;subst hk;exact(ax.trans q).1)
  have:=hs.1
  exact⟨m.frame U,(hs.2 _ (by simp<;>omega) (by intro r;simp at r<;>omega)).trans ((S.2 _ az I).trans bb),(hs.2 _ X (by intro r;simp at r;rw[r] at al;exact absurd al I)).trans ((S.2 _ al I).trans bf),U,sO,X,X⟩
 refine Z6.for (xs:=g) (s0:=([]:List aE)) (λi s j h'=>∃t,Ek e j [(6,.p (o.p,96)),(7,.one (.fn 216 [.lab (n.p,16),.lab A,.lab (o.p,96)])),(36,.l (g.map (Z7 GV.z))),(37,.i (g.length:Int)),(38,.i (i:Int))] [1,2,3,5]/\h'.a (o.p,96)=some [t]/\t.toD=some (.sl (s.map (Z7 GV.z)))/\Z0 L h' [(o.p,96)]) c
  ⟨.nil,by simp[a],bh,rfl,.refl⟩ ?_ ?_
 rintro i s e h' ⟨t,hF,R,Q,y⟩ hlt9 c;have a:=hF.an a;have hw:IntKind.i64.wrap ((i:Int)+1)=(i:Int)+1:=Y6 _ X;have⟨s',U,c⟩:=c.bind;have⟨B,F,G,aj,l1,l2,l3⟩:=u h' y;simp[a,hlt9];refine Zc ?_;simp[Vf];refine Q7 h' (n.p,16) A (o.p,96) l z J t M T s s' g[i] false U B F G R Q ⟨l1,l2,l3⟩ _ λh5 c' aw ar P=>?_;simp[a,hw];exact Zj.of s' ⟨⟨c',by simp[a],ar,aw,y.trans P⟩,c⟩;rintro s e h' ⟨t,hF,R,Q,y⟩ c;have a:=hF.an a;simp[a];intro _;refine Z6.for (xs:=N) (s0:=((g,s):List aE×List aE)) (λi s j h'=>∃am t,Ek e j [(10,.one am),(47,.l (N.map (Z7 GV.z))),(48,.i (N.length:Int)),(49,.i (i:Int))] [1,2,3,6,7]/\am.toD=some (.sl (s.1.map (Z7 GV.z)))/\h'.a (o.p,96)=some [t]/\t.toD=some (.sl (s.2.map (Z7 GV.z)))/\Z0 L h' [(o.p,96)]) c
  ⟨.d (.sl (g.map (Z7 GV.z))),t,by simp[a],rfl,R,Q,y⟩ ?_ ?_
 rintro i s e h' ⟨am,t,hF,au,R,Q,y⟩ hlt9 c;have a:=hF.an a;have hw:IntKind.i64.wrap ((i:Int)+1)=(i:Int)+1:=Y6 _ X;unfold Lr at c;have⟨key,ay,c⟩:=c.bind;have⟨f,hf,c⟩:=c.bind;have⟨B,F,G,aj,l1,l2,l3⟩:=u h' y;have D:=G;simp only[E.z,Yb,Yf] at D;simp[a,hlt9];refine Z6.cu aQ (λj r=>Ek e j [(12,.l (N[i].map GV.z)),(14,.b f.2)] [1,2,3,6,7,10,47,48,49]/\Z0 h' r []) ?_ ?_;simp[a,D];refine Zx ((Aa T N[i]).h key ay) I ?_;simp[a,D];refine⟨λ_ _ x=>x,?_⟩;refine Zx ((Ey T g key).h f hf) I ?_;simp[a,D];refine⟨λ_ _ x=>x,Ze.of ⟨by simp[a],Z0.refl.qC.w.w⟩⟩;rintro e r ⟨hF,W⟩;have a:=hF.an a;have ap:=y.trans (W.mn);have⟨B,F,G,aj,l1,l2,l3⟩:=u r ap;have aq:=(W.2 (o.p,96) (by have:=y.1;simp;omega) I).trans R;have D:=G;simp only[E.z,Yb,Yf] at D;simp[a];refine ZP c ?_ ?_<;>clear c<;>intro bj c;obtain rfl:=Zk c;simp[a,F,B.bx];exact hK _ (B.rO 13) ((aj.mn).xV (.inl I));have⟨s',U,c⟩:=c.bind;have⟨v,a1,c⟩:=c.bind;simp[a];refine Zc ?_;simp[Vf];refine Q7 r (n.p,16) A (o.p,96) l z J t M T s.2 s' N[i] true U B F G aq Q ⟨l1,l2,l3⟩ _ λh5 c' aw ar P=>?_;have ao:=ap.trans P;have⟨B,F,G,aj,l1,l2,l3⟩:=u h5 ao;have D:=G;simp only[E.z,Yb,Yf] at D;simp[a,D];refine Zx (G1 T s.1 N[i] v a1) (by simp[GK au]) ?_;simp[a,hw];exact Zj.of (v,s') ⟨⟨.d (.sl (v.map (Z7 GV.z))),c',by simp[a],rfl,ar,aw,ao.trans Z0.refl.w⟩,c⟩;rintro s e h' ⟨am,t,hF,au,R,Q,y⟩ c;have a:=hF.an a;obtain rfl:=Zk c;have⟨B,F,G,aj,l1,l2,l3⟩:=u h' y;simp[a];refine Z6.jS (λ_=>false) (Y.qB aN .done) follows kR (λj r=>Ek e j [] [1,6]/\MpAt r l z J {M with out:=Zt M.step.u s.1 M.out}/\Z0 h' r (Z z)) ?_ ?_;simp[V8,a,F,B.bx]
 refine Rz B au λh5 m5 P=>?_;simp[V8,a];exact Ze.of ⟨by simp[a],m5,P⟩;rintro e r ⟨hF,m9,W⟩;have a:=hF.an a;have nl:∀k:Z2,n.p<=k.1->k∉Z z:=λk hk h8=>by
  have:=m.lt k (by simp[h8])
  omega
 have ba:=(W.2 (n.p,16) sO (nl _ I)).trans F;have aq:=(W.2 (o.p,96) sO (nl _ sO)).trans R;simp[a];refine Z6.jS (λ_=>false) (Y.qB aN .done) follows kR (λe h7=>MpAt h7 l z J {M with out:=Zt M.step.u s.1 M.out,nc:=Zt M.step.u s.2 M.nc}/\Z0 r h7 (Z J)) ?_ ?_;simp[V8,a,ba,aq,m9.bx];refine Zd6 m9 Q λh5 m5 P=>?_;simp[V8,a];exact Ze.of ⟨m5,P⟩;rintro e h7 ⟨m7,bg⟩;simp;exact hK h7 m7 (((aj.mn).trans (W.mono (by simp+contextual))).trans (bg.mono (by simp+contextual)))
def Bl(m:Mp):aB ((List Int)×(List Int)):=
 Z1 (VQ m m.step.u) λv1=>Z1 (AS m m.step.u) λv3=>Z1 (W7 v1.1 m.step.d) λv5=>Z1 (W7 v3 m.step.d) λv6=>bif (m.step.g==5) then some ([v5.1],[v6.1]) else bif m.fwd then Zp (Wm ((v3.j.length:Int)-1)) (some (m.step.j,[((v3.j.length:Int)-1)])) else Zp (Wm ((v1.1.j.length:Int)-1)) (some ([((v1.1.j.length:Int)-1)],m.step.j))
instance Zfl(m:Mp):Con (Bl m) prog 208 [.one (.rp m.z)] (λr=>.tup [.one (.d (.sl (r.1.map Zg))),.one (.d (.sl (r.2.map Zg)))]):=by unfold Bl;have p1:PH [3,4] (Y.qB aV .done):=.intro;have p2:PH [8] (Y.qB [0,1,2,3,4,5,6,7,8,10,9,11] .done):=.intro;have p3:PH [9] (Y.qB [0,1,2,3,5,6,7,8,9,4,10,11] .done):=.intro;exact go 82 func208
end
end Go.Am
namespace Go.Proofs
section
open Go.Shelf
def Tryz.jX:Go.Shelf.Ren:=⟨λ|171=>200|243=>221|246=>236|283=>244|284=>245|285=>246|286=>247|129=>255|317=>254|318=>256|319=>257|320=>258|337=>262|338=>263|n=>n,λ|3=>3|9=>9|2=>2|4=>4|171=>284|0=>0|53=>285|37=>185|5=>5|173=>288|212=>296|51=>297|20=>20|213=>298|46=>189|232=>310|233=>311|n=>n,λ|17=>1|18=>2|19=>3|n=>n⟩
def Tryz.rK:Go.Proofs.LaysM.n171 Tryz.prog Tryz.jX:={
 mixed:=kR
 f129:=func255.trans (congrArg some kR)
 f171:=func200.trans (congrArg some kR)
 f243:=func221.trans (congrArg some kR)
 f246:=func236.trans (congrArg some kR)
 f283:=func244.trans (congrArg some kR)
 f284:=func245.trans (congrArg some kR)
 f285:=func246.trans (congrArg some kR)
 f286:=func247.trans (congrArg some kR)
 f317:=func254.trans (congrArg some kR)
 f318:=func256.trans (congrArg some kR)
 f319:=func257.trans (congrArg some kR)
 f320:=func258.trans (congrArg some kR)
 f337:=func262.trans (congrArg some kR)
 f338:=func263.trans (congrArg some kR)
 t0:=Tryz.underlying0
 a0:=Tryz.isAgg0
 z0:=Tryz.sizeOf0
 v0:=Tryz.zeroValue0
 t2:=Tryz.underlying2
 a2:=Tryz.isAgg2
 z2:=Tryz.sizeOf2
 v2:=Tryz.zeroValue2
 t3:=Tryz.underlying3
 a3:=Tryz.isAgg3
 z3:=Tryz.sizeOf3
 v3:=Tryz.zeroValue3
 t4:=Tryz.underlying4
 a4:=Tryz.isAgg4
 z4:=Tryz.sizeOf4
 v4:=Tryz.zeroValue4
 t5:=Tryz.underlying5
 a5:=Tryz.isAgg5
 z5:=Tryz.sizeOf5
 v5:=Tryz.zeroValue5
 t9:=Tryz.underlying9
 a9:=Tryz.isAgg9
 z9:=Tryz.sizeOf9
 v9:=Tryz.zeroValue9
 t20:=Tryz.underlying20
 a20:=Tryz.isAgg20
 z20:=Tryz.sizeOf20
 v20:=Tryz.zeroValue20
 t37:=Tryz.underlying185
 a37:=Tryz.isAgg185
 z37:=Tryz.sizeOf185
 v37:=Tryz.zeroValue185
 t46:=Tryz.underlying189
 a46:=Tryz.isAgg189
 z46:=Tryz.sizeOf189
 v46:=Tryz.zeroValue189
 t51:=Tryz.underlying297
 a51:=Tryz.isAgg297
 z51:=Tryz.sizeOf297
 v51:=Tryz.zeroValue297
 t53:=Tryz.underlying285
 a53:=Tryz.isAgg285
 z53:=Tryz.sizeOf285
 v53:=Tryz.zeroValue285
 t171:=Tryz.underlying284
 a171:=Tryz.isAgg284
 z171:=Tryz.sizeOf284
 v171:=Tryz.zeroValue284
 t173:=Tryz.underlying288
 a173:=Tryz.isAgg288
 z173:=Tryz.sizeOf288
 v173:=Tryz.zeroValue288
 t212:=Tryz.underlying296
 a212:=Tryz.isAgg296
 z212:=Tryz.sizeOf296
 v212:=Tryz.zeroValue296
 t213:=Tryz.underlying298
 a213:=Tryz.isAgg298
 z213:=Tryz.sizeOf298
 t232:=Tryz.underlying310
 a232:=Tryz.isAgg310
 z232:=Tryz.sizeOf310
 v232:=Tryz.zeroValue310
 t233:=Tryz.underlying311
 a233:=Tryz.isAgg311
 z233:=Tryz.sizeOf311
 v233:=Tryz.zeroValue311
 g17:=kR
 g18:=kR
 g19:=kR
 i0:=kR
 i2:=kR
 i3:=kR
 i4:=kR
 i5:=kR
 i9:=kR
 i20:=kR
 i37:=kR
 i46:=kR
 i51:=kR
 i53:=kR
 i171:=kR
 i173:=kR
 i212:=kR
 i232:=kR
 i233:=kR
 m17:=kR
 m18:=kR
 m19:=by kernel_rfl}
def Tryz.rI:Go.Shelf.Ren:=⟨λ|144=>241|143=>251|219=>261|217=>269|225=>270|224=>271|267=>272|266=>276|314=>277|n=>n,λ|9=>9|4=>4|3=>3|5=>5|46=>189|146=>318|51=>297|n=>n,λ|1=>0|n=>n⟩
def Tryz.wJ:Go.Proofs.Lays.n144 Tryz.prog Tryz.rI:={
 mixed:=kR
 f143:=func251.trans (congrArg some kR)
 f144:=func241.trans (congrArg some kR)
 f217:=func269.trans (congrArg some kR)
 f219:=func261.trans (congrArg some kR)
 f224:=func271.trans (congrArg some kR)
 f225:=func270.trans (congrArg some kR)
 f266:=func276.trans (congrArg some kR)
 f267:=func272.trans (congrArg some kR)
 f314:=func277.trans (congrArg some kR)
 t3:=Tryz.underlying3
 a3:=Tryz.isAgg3
 z3:=Tryz.sizeOf3
 v3:=Tryz.zeroValue3
 t4:=Tryz.underlying4
 a4:=Tryz.isAgg4
 z4:=Tryz.sizeOf4
 v4:=Tryz.zeroValue4
 t5:=Tryz.underlying5
 a5:=Tryz.isAgg5
 z5:=Tryz.sizeOf5
 v5:=Tryz.zeroValue5
 t9:=Tryz.underlying9
 a9:=Tryz.isAgg9
 z9:=Tryz.sizeOf9
 v9:=Tryz.zeroValue9
 t46:=Tryz.underlying189
 a46:=Tryz.isAgg189
 z46:=Tryz.sizeOf189
 v46:=Tryz.zeroValue189
 t51:=Tryz.underlying297
 a51:=Tryz.isAgg297
 z51:=Tryz.sizeOf297
 v51:=Tryz.zeroValue297
 t146:=Tryz.underlying318
 a146:=Tryz.isAgg318
 z146:=Tryz.sizeOf318
 v146:=Tryz.zeroValue318
 g1:=by kernel_rfl}
def Tryz.rJ:Go.Shelf.Ren:=⟨λ|145=>242|220=>252|219=>261|217=>269|225=>270|224=>271|267=>272|266=>276|314=>277|n=>n,λ|9=>9|4=>4|59=>282|3=>3|5=>5|46=>189|146=>318|51=>297|n=>n,λ|1=>0|n=>n⟩
def Tryz.wK:Go.Proofs.Lays.n145 Tryz.prog Tryz.rJ:={
 mixed:=kR
 f145:=func242.trans (congrArg some kR)
 f217:=func269.trans (congrArg some kR)
 f219:=func261.trans (congrArg some kR)
 f220:=func252.trans (congrArg some kR)
 f224:=func271.trans (congrArg some kR)
 f225:=func270.trans (congrArg some kR)
 f266:=func276.trans (congrArg some kR)
 f267:=func272.trans (congrArg some kR)
 f314:=func277.trans (congrArg some kR)
 t3:=Tryz.underlying3
 a3:=Tryz.isAgg3
 z3:=Tryz.sizeOf3
 v3:=Tryz.zeroValue3
 t4:=Tryz.underlying4
 a4:=Tryz.isAgg4
 z4:=Tryz.sizeOf4
 v4:=Tryz.zeroValue4
 t5:=Tryz.underlying5
 a5:=Tryz.isAgg5
 z5:=Tryz.sizeOf5
 v5:=Tryz.zeroValue5
 t9:=Tryz.underlying9
 a9:=Tryz.isAgg9
 z9:=Tryz.sizeOf9
 v9:=Tryz.zeroValue9
 t46:=Tryz.underlying189
 a46:=Tryz.isAgg189
 z46:=Tryz.sizeOf189
 v46:=Tryz.zeroValue189
 t51:=Tryz.underlying297
 a51:=Tryz.isAgg297
 z51:=Tryz.sizeOf297
 v51:=Tryz.zeroValue297
 t59:=Tryz.underlying282
 a59:=Tryz.isAgg282
 z59:=Tryz.sizeOf282
 v59:=Tryz.zeroValue282
 t146:=Tryz.underlying318
 a146:=Tryz.isAgg318
 z146:=Tryz.sizeOf318
 v146:=Tryz.zeroValue318
 g1:=by kernel_rfl}
def Tryz.jL:Go.Shelf.Ren:=⟨λ|172=>250|244=>259|245=>260|247=>264|279=>265|280=>266|281=>267|282=>268|287=>273|316=>274|171=>200|205=>275|321=>278|322=>279|243=>221|246=>236|283=>244|284=>245|285=>246|286=>247|129=>255|317=>254|318=>256|319=>257|320=>258|337=>262|338=>263|n=>n,λ|9=>9|3=>3|75=>292|76=>293|4=>4|5=>5|167=>303|37=>185|0=>0|85=>304|2=>2|168=>306|53=>285|175=>312|46=>189|210=>316|127=>321|145=>324|143=>322|21=>21|171=>284|173=>288|212=>296|51=>297|20=>20|213=>298|232=>310|233=>311|80=>325|n=>n,λ|15=>4|16=>5|17=>1|18=>2|19=>3|n=>n⟩
def Tryz.jQ:Go.Proofs.LaysC.n172 Tryz.prog Tryz.jL:={
 mixed:=kR
 f129:=func255.trans (congrArg some kR)
 f171:=func200.trans (congrArg some kR)
 f172:=func250.trans (congrArg some kR)
 f205:=func275.trans (congrArg some kR)
 f243:=func221.trans (congrArg some kR)
 f244:=func259.trans (congrArg some kR)
 f245:=func260.trans (congrArg some kR)
 f246:=func236.trans (congrArg some kR)
 f247:=func264.trans (congrArg some kR)
 f279:=func265.trans (congrArg some kR)
 f280:=func266.trans (congrArg some kR)
 f281:=func267.trans (congrArg some kR)
 f282:=func268.trans (congrArg some kR)
 f283:=func244.trans (congrArg some kR)
 f284:=func245.trans (congrArg some kR)
 f285:=func246.trans (congrArg some kR)
 f286:=func247.trans (congrArg some kR)
 f287:=func273.trans (congrArg some kR)
 f316:=func274.trans (congrArg some kR)
 f317:=func254.trans (congrArg some kR)
 f318:=func256.trans (congrArg some kR)
 f319:=func257.trans (congrArg some kR)
 f320:=func258.trans (congrArg some kR)
 f321:=func278.trans (congrArg some kR)
 f322:=func279.trans (congrArg some kR)
 f337:=func262.trans (congrArg some kR)
 f338:=func263.trans (congrArg some kR)
 t0:=Tryz.underlying0
 a0:=Tryz.isAgg0
 z0:=Tryz.sizeOf0
 v0:=Tryz.zeroValue0
 t2:=Tryz.underlying2
 a2:=Tryz.isAgg2
 z2:=Tryz.sizeOf2
 v2:=Tryz.zeroValue2
 t3:=Tryz.underlying3
 a3:=Tryz.isAgg3
 z3:=Tryz.sizeOf3
 v3:=Tryz.zeroValue3
 t4:=Tryz.underlying4
 a4:=Tryz.isAgg4
 z4:=Tryz.sizeOf4
 v4:=Tryz.zeroValue4
 t5:=Tryz.underlying5
 a5:=Tryz.isAgg5
 z5:=Tryz.sizeOf5
 v5:=Tryz.zeroValue5
 t9:=Tryz.underlying9
 a9:=Tryz.isAgg9
 z9:=Tryz.sizeOf9
 v9:=Tryz.zeroValue9
 t20:=Tryz.underlying20
 a20:=Tryz.isAgg20
 z20:=Tryz.sizeOf20
 v20:=Tryz.zeroValue20
 t21:=Tryz.underlying21
 a21:=Tryz.isAgg21
 z21:=Tryz.sizeOf21
 v21:=Tryz.zeroValue21
 t37:=Tryz.underlying185
 a37:=Tryz.isAgg185
 z37:=Tryz.sizeOf185
 v37:=Tryz.zeroValue185
 t46:=Tryz.underlying189
 a46:=Tryz.isAgg189
 z46:=Tryz.sizeOf189
 v46:=Tryz.zeroValue189
 t51:=Tryz.underlying297
 a51:=Tryz.isAgg297
 z51:=Tryz.sizeOf297
 v51:=Tryz.zeroValue297
 t53:=Tryz.underlying285
 a53:=Tryz.isAgg285
 z53:=Tryz.sizeOf285
 v53:=Tryz.zeroValue285
 t75:=Tryz.underlying292
 a75:=Tryz.isAgg292
 z75:=Tryz.sizeOf292
 v75:=Tryz.zeroValue292
 t76:=Tryz.underlying293
 a76:=Tryz.isAgg293
 z76:=Tryz.sizeOf293
 v76:=Tryz.zeroValue293
 t85:=Tryz.underlying304
 a85:=Tryz.isAgg304
 z85:=Tryz.sizeOf304
 v85:=Tryz.zeroValue304
 t127:=Tryz.underlying321
 a127:=Tryz.isAgg321
 z127:=Tryz.sizeOf321
 v127:=Tryz.zeroValue321
 t143:=Tryz.underlying322
 a143:=Tryz.isAgg322
 z143:=Tryz.sizeOf322
 v143:=Tryz.zeroValue322
 t145:=Tryz.underlying324
 a145:=Tryz.isAgg324
 z145:=Tryz.sizeOf324
 v145:=Tryz.zeroValue324
 t167:=Tryz.underlying303
 a167:=Tryz.isAgg303
 z167:=Tryz.sizeOf303
 v167:=Tryz.zeroValue303
 t168:=Tryz.underlying306
 a168:=Tryz.isAgg306
 z168:=Tryz.sizeOf306
 v168:=Tryz.zeroValue306
 t171:=Tryz.underlying284
 a171:=Tryz.isAgg284
 z171:=Tryz.sizeOf284
 v171:=Tryz.zeroValue284
 t173:=Tryz.underlying288
 a173:=Tryz.isAgg288
 z173:=Tryz.sizeOf288
 v173:=Tryz.zeroValue288
 t175:=Tryz.underlying312
 a175:=Tryz.isAgg312
 z175:=Tryz.sizeOf312
 v175:=Tryz.zeroValue312
 t210:=Tryz.underlying316
 a210:=Tryz.isAgg316
 z210:=Tryz.sizeOf316
 v210:=Tryz.zeroValue316
 t212:=Tryz.underlying296
 a212:=Tryz.isAgg296
 z212:=Tryz.sizeOf296
 v212:=Tryz.zeroValue296
 t213:=Tryz.underlying298
 a213:=Tryz.isAgg298
 z213:=Tryz.sizeOf298
 t232:=Tryz.underlying310
 a232:=Tryz.isAgg310
 z232:=Tryz.sizeOf310
 v232:=Tryz.zeroValue310
 t233:=Tryz.underlying311
 a233:=Tryz.isAgg311
 z233:=Tryz.sizeOf311
 v233:=Tryz.zeroValue311
 g15:=kR
 g16:=kR
 g17:=kR
 g18:=kR
 g19:=kR
 t80:=Tryz.underlying325
 a80:=Tryz.isAgg325
 z80:=Tryz.sizeOf325
 v80:=Tryz.zeroValue325
 i0:=kR
 i2:=kR
 i3:=kR
 i4:=kR
 i5:=kR
 i9:=kR
 i20:=kR
 i21:=kR
 i37:=kR
 i46:=kR
 i51:=kR
 i53:=kR
 i75:=kR
 i76:=kR
 i80:=kR
 i85:=kR
 i127:=kR
 i143:=kR
 i145:=kR
 i167:=kR
 i168:=kR
 i171:=kR
 i173:=kR
 i175:=kR
 i210:=kR
 i212:=kR
 i232:=kR
 i233:=kR
 m15:=kR
 m16:=kR
 m17:=kR
 m18:=kR
 m19:=kR
 c0:=kR
 c2:=kR
 c3:=kR
 c4:=kR
 c5:=kR
 c9:=kR
 c20:=kR
 c21:=kR
 c37:=kR
 c46:=kR
 c51:=kR
 c53:=kR
 c75:=kR
 c76:=kR
 c80:=kR
 c85:=kR
 c127:=kR
 c143:=kR
 c145:=kR
 c167:=kR
 c168:=kR
 c171:=kR
 c173:=kR
 c175:=kR
 c210:=kR
 c212:=kR
 c213:=kR
 c232:=kR
 c233:=by kernel_rfl}
end
end Go.Proofs
namespace Go.Am
section
open Go.RowKit (Below)
def Zq.jM{P f d r v}(l:JD P f)(q:∀m,BP m (λ_=>(none,0)) r v)(n:r.fr=[])
  (h:∀w m t a,BV w->CE m t d a->Calls P f a w λe j=>e=.returned v/\Below w.heap.size w j):Zq P f d r:=by
 refine⟨l,λw m t a p i _ k=>(h w m t a p k).mono ?_⟩;rintro e j ⟨rfl,g⟩;refine⟨v,m,λ_=>(none,0),rfl,WL.refl _,λ_ _ _ _ h=>h,i.of_heap λb o v s=>g.block b (i.lt s),g,q m,?_⟩;rw[n];exact⟨λx c=>by simp at c,λx c=>by simp at c⟩
def Qq{m t}{av:List AV}{a b u}(h:CE m t [a] b)(f:∀v,DN m t a v->v=u):b=#[u]:=by
 have⟨e,d⟩:=h;have⟨j,c,g⟩:=d 0 _ rfl
 have:=f j g
 subst this;apply XZ;intro i
 match i with
 |0=>simpa using c
 |i+1=>rw[Xw (by simp at e;omega)];simp
def Rv{P w a}{g:Nat}{b}(h:∃T l,w.heap[g]?=some (.cells (b.map λz=>Value.int .u64 z).toArray T l))(c:P.globalNamed a=some g):Lib.TabIs P w a .u64 b:=by have⟨T,l,q⟩:=h;unfold Lib.TabIs World.var?;rw[c];simp[q]
def C5(i:Int):aB aA:=Zp (Wm i) (some ⟨(Lib.itoa i).toArray⟩)
def NN(i:Int)(r:aA)(a:Is (C5 i) r):Zq prog 200 [.i i] (.s r):=by
 have⟨b,a⟩:=a.chk;obtain rfl:=Zk a;refine Zq.jM ⟨_,func200,kR,kR⟩ (λm=>RepD.str _) rfl λw m t vals d c=>?_;obtain rfl:=Qq (av:=[]) c λv f=>RepD.qO f;refine(Any.strconv_Itoa Tryz.rK i b.1 b.2 w (Rv d.2.1 kR)).mono ?_;rintro e w' ⟨rfl,k,os,rfl⟩;exact⟨rfl,Lib.below_grow _ _ (Y7 _) _ _⟩
def Qp{m t}{av:List AV}{a b c u v}(h:CE m t [a,b] c)(l:∀x,DN m t a x->x=u)(n:∀x,DN m t b x->x=v):c=#[u,v]:=by
 have⟨k,d⟩:=h;have⟨q,g,o⟩:=d 0 _ rfl;have⟨r,j,p⟩:=d 1 _ rfl;have e:=l q o;have f:=n r p;subst e f;apply XZ;intro i
 match i with
 |0=>simpa using g
 |1=>simpa using j
 |i+2=>rw[Xw (by simp at k;omega)];simp
def Zc8(m e a b c):BP m e (.tup [.s a,.s b,.b c]) (.tuple #[.string a,.string b,.bool c]):=by
 refine⟨_,rfl,rfl,λi x d=>?_⟩
 match i,d with
 |0,d=>cases d;exact⟨_,rfl,RepD.str _⟩
 |1,d=>cases d;exact⟨_,rfl,RepD.str _⟩
 |2,d=>cases d;exact⟨_,rfl,RepD.bool _⟩
def Kl(s a:aA):aB (aA×aA×Bool):=Zp (s.size<4294967281) (some (⟨(Lib.cut s.data.toList a.data.toList).1.toArray⟩,⟨(Lib.cut s.data.toList a.data.toList).2.1.toArray⟩,(Lib.cut s.data.toList a.data.toList).2.2))
def Z2f(s a:aA)(r)(c:Is (Kl s a) r):Zq prog 242 [.s s,.s a] (.tup [.s r.1,.s r.2.1,.b r.2.2]):=by
 have⟨i,c⟩:=c.chk;obtain rfl:=Zk c;refine Zq.jM ⟨_,func242,kR,kR⟩ (λm=>Zc8 m _ _ _ _) rfl λw m t vals h f=>?_;obtain rfl:=Qp (av:=[]) f (λv d=>RepD.qR d) (λv d=>RepD.qR d);have⟨j,g⟩:=h.2.2.2.2;refine(Any.strings_Cut Tryz.wK s a j w i g).mono ?_;rintro e w' ⟨rfl,n,rfl⟩;exact⟨rfl,rfl,rfl,rfl,Y7 _,λ_ _=>rfl⟩
def Nr(s a:aA):aB Bool:=Zp (s.size<4294967281) (some (Lib.contains s.data.toList a.data.toList))
def Z0m(s a:aA)(r)(c:Is (Nr s a) r):Zq prog 241 [.s s,.s a] (.b r):=by
 have⟨i,c⟩:=c.chk;obtain rfl:=Zk c;refine Zq.jM ⟨_,func241,kR,kR⟩ (λm=>RepD.bool _) rfl λw m t vals h f=>?_;obtain rfl:=Qp (av:=[]) f (λv d=>RepD.qR d) (λv d=>RepD.qR d);have⟨j,g⟩:=h.2.2.2.2;refine(Any.strings_Contains Tryz.wJ s a j w i g).mono ?_;rintro e w' ⟨rfl,rfl⟩;exact⟨rfl,Go.RowKit.Below.refl _ _⟩
end
section
instance Zi8(i:Int):Con (C5 i) prog 200 [.one (.d (.int .i64 i))] (λr=>.one (.d (.str r))):=⟨λr hm=>NN i r hm⟩
def JJ(b:Bool):aB aA:=
 bif b then some ({data:=#[116,114,117,101]}) else some ({data:=#[102,97,108,115,101]})
instance Zfq(b:Bool):Con (JJ b) prog 249 [.one (.d (.bool b))] (λr=>.one (.d (.str r))):=by unfold JJ;exact go 4 func249
def Ec(b:Bool):aB aA:=
 Z1 (JJ b) λv1=>some v1
instance Zh2(b:Bool):Con (Ec b) prog 238 [.one (.d (.bool b))] (λr=>.one (.d (.str r))):=by unfold Ec;exact go 5 func238
def C2(s_:aA):aB (GV×Bool):=
 bif Z9 s_ ({data:=#[116,114,117,101]}) then some ((GV.mk 2 1 empty),true) else bif Z9 s_ ({data:=#[102,97,108,115,101]}) then some ((GV.mk 2 0 empty),true) else some ((GV.mk 0 0 empty),false)
instance Zhp(s_:aA):Con (C2 s_) prog 239 [.one (.d (.str s_))] (λr=>.tup [.agg (r.1.z.map RC.d),.one (.d (.bool r.2))]):=by unfold C2;exact go 12 func239
end
section
open Go.RowKit (Below)
def VP(s:aA):GV×Bool:=match Lib.atoiAll s.data.toList with
 | .ok n=>if Lib.itoa n=s.toList/\-1000000000000<=n/\n<=1000000000000 then(⟨1,n,empty⟩,true) else(GV.zero,false)
 |_=>(GV.zero,false)
def G2(s:aA):aB (GV×Bool):=Zp (s.size<=281474976710656) (some (VP s))
def Z83(w:World)(o):(w.alloc o).heap[w.heap.size]?=some o:=by show(w.heap.push o)[w.heap.size]?=_;rw[Array.getElem?_push,if_pos rfl]
def OT{w:World}{o}{b k:Nat}{v}(a:b<w.heap.size)(c:w.cell? ⟨b,k,none⟩=some v):(w.alloc o).cell? ⟨b,k,none⟩=some v:=
 ((Below.refl w.heap.size w).alloc (Y7 _) o).cell (p:=⟨b,k,none⟩) a▸c
def Jc{w d:World}{a b c T}(e:Below (w.alloc (.cells #[a,b,c] T)).heap.size (w.alloc (.cells #[a,b,c] T)) d):
  (d.cell? ⟨w.heap.size,0,none⟩=some a/\d.cell? ⟨w.heap.size,1,none⟩=some b/\d.cell? ⟨w.heap.size,2,none⟩=some c)/\d.frozen? ⟨w.heap.size,0,none⟩=false/\d.frozen? ⟨w.heap.size,1,none⟩=false/\d.frozen? ⟨w.heap.size,2,none⟩=false:=by
 have h:=(e.block w.heap.size I).trans (Z83 w (Obj.cells #[a,b,c] T));simp[World.cell?,World.frozen?,h]
def Z1w(s:aA)(H:s.size<=281474976710656)(w)(i:BV w):
  Calls prog 240 #[.string s] w λe f=>e=.returned (.tuple #[.agg #[.int .i64 (VP s).1.g,.int .i64 (VP s).1.int,.string (VP s).1.text],.bool (VP s).2])/\Below w.heap.size w f:=by
 have p:∀{f:World} {a b c:Value} {T:TypeId} {x y z:Value},Below (w.alloc (.cells #[a,b,c] T)).heap.size (w.alloc (.cells #[a,b,c] T)) f->Below w.heap.size w (((f.setCell ⟨w.heap.size,0,none⟩ x).setCell ⟨w.heap.size,1,none⟩ y).setCell ⟨w.heap.size,2,none⟩ z):=λd=>
  (((((Below.refl _ _).alloc (Y7 _) _).trans (d.mono I)).setCell (Y7 _) _).setCell (Y7 _) _).setCell (Y7 _) _
 rcases h:Lib.atoiAll s.data.toList with n|_|_
 .have⟨Q,M⟩:=Lib.atoiAll_bounds h;have O:∀{a:World} {f:World},(f=a\/∃t,f=Lib.bytesWorld a (Tryz.jL.t 5) t)->Below a.heap.size a f:=λR=>R.elim (λe=>e▸Below.refl _ _) λ⟨t,e⟩=>e▸Lib.bytesWorld_below _ _ _;have L:∀{o:Obj} {b:World},Below (w.alloc o).heap.size (w.alloc o) b->∀k j,Below (w.alloc o).heap.size (w.alloc o) (Go.Sort.grow (b.drewN k) j):=λd k j=>d.trans (Lib.below_grow _ _ d.size k j);have P:∀{o:Obj} {f:World},Below (w.alloc o).heap.size (w.alloc o) f->BV f:=λd=>i.below (((Below.refl _ _).alloc (Y7 _) _).trans (d.mono I));have K:¬(Lib.itoa n=s.toList/\-1000000000000<=n/\n<=1000000000000)->VP s=(GV.zero,false):=λE=>by simp only[VP,h,if_neg E]
  have J:(Lib.itoa n=s.toList/\-1000000000000<=n/\n<=1000000000000)->VP s=(⟨1,n,empty⟩,true):=λE=>by simp only[VP,h,if_pos E]
  go_enter func240,Tryz.ntmps240
  go_wp2_with (first
   |(go_at_call 250;refine(Any.strconv_Atoi_ok Tryz.jQ s X n h _).mono ?_;rintro e f ⟨rfl,G⟩;have d:=O G;clear G;have⟨⟨_,_,_⟩,_,_,_⟩:=Jc d)
   |(go_at_call 200;refine(Any.strconv_Itoa Tryz.rK n Q M _ (Rv (P (by assumption)).2.1 kR)).mono ?_;rintro e w2 ⟨rfl,k,j,F⟩;have g:=L (by assumption) k j;rw[<-F] at g;clear F;have⟨⟨d0,d1,d2⟩,g0,g1,g2⟩:=Jc g))
  all_goals first
   | (refine bodyPost_ret (v:=.tuple #[.agg #[.int .i64 0,.int .i64 0,.string empty],.bool false]) ?_ rfl ⟨?_,p g⟩
      .simp[results,Tryz.results240,go_sem,d0,d1,d2];done
      .rw[K]
       .rfl
       .rintro⟨x1,x2,x3⟩
        first
        |omega
        |contradiction)
   | (refine bodyPost_ret (v:=.tuple #[.agg #[.int .i64 1,.int .i64 n,.string empty],.bool true]) ?_ rfl ⟨?_,p g⟩
      .simp[results,Tryz.results240,go_sem,d0,d1,d2];done
      .rw[J];refine⟨?_,?_,?_⟩
       .assumption
       .omega
       .omega)
 .have⟨m,l,D⟩:=i.2.2.1;have C:VP s=(GV.zero,false):=by simp[VP,h]
  go_enter func240,Tryz.ntmps240
  go_wp2_with (go_at_call 250;refine(Any.strconv_Atoi_syntax Tryz.jQ s H h (.iface m l) _ ?_ (.inr ⟨m,l,rfl⟩)).mono ?_;rotate_left;rintro e f ⟨N,rfl,A,B,d⟩;have⟨⟨q,r,u⟩,f0,f1,f2⟩:=Jc d;clear B A)
  .exact bodyPost_ret (v:=.tuple #[.agg #[.int .i64 0,.int .i64 0,.string empty],.bool false]) (by simp[results,Tryz.results240,go_sem,q,r,u]) rfl ⟨by rw[C];rfl,p d⟩
  .exact OT (Y4 dE i.1) D
 .have⟨m,l,D⟩:=i.2.2.2.1;have C:VP s=(GV.zero,false):=by simp[VP,h]
  go_enter func240,Tryz.ntmps240
  go_wp2_with (go_at_call 250;refine(Any.strconv_Atoi_range Tryz.jQ s H h (.iface m l) _ ?_ (.inr ⟨m,l,rfl⟩)).mono ?_;rotate_left;rintro e f ⟨N,rfl,A,B,d⟩;have⟨⟨q,r,u⟩,f0,f1,f2⟩:=Jc d;clear B A;generalize Lib.atoiSat s.data.toList=sat)
  .exact bodyPost_ret (v:=.tuple #[.agg #[.int .i64 0,.int .i64 0,.string empty],.bool false]) (by simp[results,Tryz.results240,go_sem,q,r,u]) rfl ⟨by rw[C];rfl,p d⟩
  .exact OT (Y4 dE i.1) D
def Zd7(m e)(v:GV)(c):BP m e (.tup [.agg (v.z.map RC.d),.b c]) (.tuple #[.agg #[.int .i64 v.g,.int .i64 v.int,.string v.text],.bool c]):=by
 refine⟨_,rfl,rfl,λi x d=>?_⟩
 match i,d with
 |0,d=>
   cases d;refine⟨_,rfl,_,rfl,rfl,λj c a=>?_⟩
   match j,a with
   |0,a=>cases a;exact⟨_,rfl,RepD.int _ _⟩
   |1,a=>cases a;exact⟨_,rfl,RepD.int _ _⟩
   |2,a=>cases a;exact⟨_,rfl,RepD.str _⟩
 |1,d=>cases d;exact⟨_,rfl,RepD.bool _⟩
def Z19(s:aA)(r:GV×Bool)(a:Is (G2 s) r):Zq prog 240 [.s s] (.tup [.agg (r.1.z.map RC.d),.b r.2]):=by
 have⟨e,a⟩:=a.chk;obtain rfl:=Zk a;refine Zq.jM ⟨_,func240,kR,kR⟩ (λm=>Zd7 m _ _ _) rfl λw m t vals d c=>?_;obtain rfl:=Qq (av:=[]) c λv f=>RepD.qR f;exact Z1w s e w d
end
section
instance Zhs(s_:aA):Con (G2 s_) prog 240 [.one (.d (.str s_))] (λr=>.tup [.agg (r.1.z.map RC.d),.one (.d (.bool r.2))]):=⟨λr hm=>Z19 s_ r hm⟩
def Vr(v_:GV)(kind:Int):aB (GV×Bool):=
 Z1 (WE v_) λv3=>bif (v3 !=0) then some ((GV.mk 0 0 empty),false) else bif decide (kind<1) then some ((GV.mk 0 0 empty),false) else bif decide (3<kind) then some ((GV.mk 0 0 empty),false) else bif (v_.g==0) then some (v_,true) else bif (v_.g==kind) then some (v_,true) else bif (kind==3) then bif (v_.g==1) then Z1 (C5 v_.int) λv11=>(some ((GV.mk kind 0 v11),true)) else(Z1 (Ec (v_.int==1)) λv12=>some ((GV.mk kind 0 v12),true)) else bif (v_.g==3) then bif (kind==2) then Z1 (C2 v_.text) λv15=>(some (v15.1,v15.2)) else(Z1 (G2 v_.text) λv16=>some (v16.1,v16.2)) else bif (v_.int==0) then some ((GV.mk kind v_.int empty),true) else bif (v_.int==1) then some ((GV.mk kind v_.int empty),true) else some ((GV.mk 0 0 empty),false)
instance Zi3(v_:GV)(kind:Int):Con (Vr v_ kind) prog 224 [.agg v_.z,.one (.d (.int .i64 kind))] (λr=>.tup [.agg (r.1.z.map RC.d),.one (.d (.bool r.2))]):=by unfold Vr;exact go 86 func224

def Au(a:aE)(b:Bool):aB (aE×Bool):=
 Za a 0 λx=>Za a 1 λy=>bif x.g==0&&(y.g==0&&b) then some ([⟨0,0,empty⟩],true) else
 Zp (x.text.size+({data:=#[32]}:aA).size<=9223372036854775807/\(x.text++({data:=#[32]}:aA)).size+y.text.size<=9223372036854775807)<|Z1 (Nr x.text {data:=#[32]}) λc=>
 some ([⟨3,0,(x.text++({data:=#[32]}:aA)++y.text).extract 0 (if 24<(x.text++({data:=#[32]}:aA)++y.text).size then 24 else(x.text++({data:=#[32]}:aA)++y.text).size)⟩],
  x.g==3&&(y.g==3&&(decide ((x.text++({data:=#[32]}:aA)++y.text).size<=24)&&!c)))
set_option maxHeartbeats 1000000 in
instance Z2g(d:aE)(h:Bool):Con (Au d h) prog 226 [.l (d.map GV.z),.b h] (λr=>.tup [.l (r.1.map GV.z),.b r.2]):=⟨by
 intro r a;replace a:=Is.get a;obtain⟨x,-,e,a⟩:=a;replace a:=Is.get a;obtain⟨y,-,f,a⟩:=a;simp at e f;refine Zq.qM func226 rfl kR (n:=68) rfl rfl I ?_;simp[e,f];cases h1:x.g==0<;>cases m:y.g==0<;>cases h<;>simp only[h1,m,Bool.and_true,Y07,cond_true,cond_false] at a<;>simp[h1,m,e,f]
 all_goals first
  | (obtain rfl:=Zk a
     refine MD ?_;simp
     done)
  | (replace a:=a.chk
     have⟨⟨u,p⟩,a⟩:=a;have⟨c,v,a⟩:=a.bind;obtain rfl:=Zk a;refine Z6.qX (PH.intro:PH [3] (Y.qB aQ .done)) dE kR follows ?_;have g:=p;rw[ByteArray.size_append] at g;simp[e,f,u,p,g];generalize hs:x.text++({data:=#[32]}:aA)++y.text=s;obtain⟨b,j,o⟩:∃b,decide (s.size<=24)=b/\decide ((s.size:Int)<=24)=b:=⟨_,rfl,decide_eq_decide.2 X⟩;have k:(if(24:Int)<s.size then(24:Int) else s.size)=((if 24<s.size then 24 else s.size:Nat):Int):=by split<;>split<;>omega
     have t:(if 24<s.size then 24 else s.size)<=s.size:=by split<;>omega
     generalize(if 24<s.size then 24 else s.size)=q at k t|-;cases h3:x.g==3<;>cases i:y.g==3<;>cases b<;>simp[h3,i,j,o,e,f]
     all_goals
      try
       refine Zx (Z0m x.text _ c v) I ?_;simp[e,f]
      rw[k];refine Lk ⟨X,X⟩ ?_;simp[h3,i,j,o,e,f];refine MD ?_;simp[h3,i,j,e,f]
      done)⟩
instance Zik(values:aE)(nullable:Bool):Con (Au values nullable) prog 226 [.one (.d (.sl (values.map GV.z))),.one (.d (.bool nullable))] (λr=>.tup [.one (.d (.sl (r.1.map GV.z))),.one (.d (.bool r.2))]):=⟨λr hm=>Z2g values nullable r hm⟩
instance Zij(s_:aA)(sep:aA):Con (Kl s_ sep) prog 242 [.one (.d (.str s_)),.one (.d (.str sep))] (λr=>.tup [.one (.d (.str r.1)),.one (.d (.str r.2.1)),.one (.d (.bool r.2.2))]):=⟨λr hm=>Z2f s_ sep r hm⟩
def Aw(v_:GV)(firstNullable:Bool)(secondNullable:Bool):aB (aE×Bool):=
 bif (v_.g==0) then Z1 (Vi 3 firstNullable) λv3=>(Z1 (Vi 3 secondNullable) λv4=>bif firstNullable then some ([v3,v4],secondNullable) else some ([v3,v4],false)) else Z1 (Kl v_.text ({data:=#[32]})) λv6=>bif !v6.2.2 then Z1 (Vi 3 secondNullable) λv9=>(some ([(GV.mk 3 0 v6.1),v9],v6.2.2)) else some ([(GV.mk 3 0 v6.1),(GV.mk 3 0 v6.2.1)],v6.2.2)
instance Zjt(v_:GV)(firstNullable:Bool)(secondNullable:Bool):Con (Aw v_ firstNullable secondNullable) prog 227 [.agg v_.z,.one (.d (.bool firstNullable)),.one (.d (.bool secondNullable))] (λr=>.tup [.one (.d (.sl (r.1.map GV.z))),.one (.d (.bool r.2))]):=by unfold Aw;exact go 42 func227
set_option maxHeartbeats 4000000
def Ap(m:Mp)(values:aE):aB (aE×Bool):=
 Za m.cs.q 0 λx1=>Zp (0<=(x1.pk.length:Int)/\(x1.pk.length:Int)<=(x1.j.length:Int)/\(x1.j.length:Int)<=(x1.j.length:Int)) (bif (m.step.g==5) then Za ((x1.j.take x1.j.length).drop x1.pk.length) 0 λx6=>(bif m.fwd then Za ((x1.j.take x1.j.length).drop x1.pk.length) 1 λx9=>(Za values 0 λx10=>Z1 (Vr x10 x9.g) λv11=>bif v11.2 then some ([v11.1],true) else Z1 (Vi x9.g x9.f) λv14=>some ([v14],false)) else Za values 0 λx1015=>Z1 (Vr x1015 x6.g) λv1016=>bif v1016.2 then some ([v1016.1],true) else Z1 (Vi x6.g x6.f) λv1019=>some ([v1019],false)) else bif m.fwd then Za ((x1.j.take x1.j.length).drop x1.pk.length) 2 λx2021=>(Z1 (Au values x2021.f) λv2022=>some (v2022.1,v2022.2)) else Za values 0 λx2023=>Za ((x1.j.take x1.j.length).drop x1.pk.length) 0 λx2024=>Za ((x1.j.take x1.j.length).drop x1.pk.length) 1 λx2025=>Z1 (Aw x2023 x2024.f x2025.f) λv2026=>some (v2026.1,v2026.2))
instance Zgj(m:Mp)(values:aE):Con (Ap m values) prog 209 [.one (.rp m.z),.one (.d (.sl (values.map GV.z)))] (λr=>.tup [.one (.d (.sl (r.1.map GV.z))),.one (.d (.bool r.2))]):=by unfold Ap;have p1:PH [7] (Y.qB [0,1,2,3,4] (.two 5 9 (Y.qB [6,7,8,9,10,11] .done) (Y.qB [5,6,7,8,10,11] .done))):=.intro;have p2:PH [13] (Y.qB aZ .done):=.intro;exact go 84 func209
abbrev R2:=List aE×List aE
def Zcr{P f l}{e d:Nat}{h c r a v K}(i:ZC P f=some (l,3,e))(m:e<=4096)(g:Zm h 3 c (a.map GV.z))(o:a.length+1<=2097152)
  (n:∀c' b,Zm b 3 c' ((a++[v]).map GV.z)->Z0 h b []->K (.one c') b):Ud P f c (.own r [v.z]) d h (K:=⟨K⟩):=by
 have p:(C.qH h c).a=h.a/\(C.qH h c).p=h.p:=by cases c<;>exact⟨rfl,rfl⟩
 refine UQ i g rfl dE m (by simp[GV.z]) (sU o) ?_;have j:a.map GV.z++[v.z]=(a++[v]).map GV.z:=I
 rw[j];refine n _ _ (Zm.app p.2.symm λy q=>?_) ⟨I,λk _ _=>I⟩;obtain⟨z,_,rfl⟩:=Yi.1 q;rfl
def sw{α:Type}(b:Bool)(x y:α):α×α:=bif b then(x,y) else(y,x)
def Lu(c:Bool)(n:Nat)(g:aE)(d a:aE×Bool):aB (aE×Bool):=
 bif a.2 then Zp (n<=a.1.length)<|Z1 (BY (sw c (a.1.take n) (a.1.drop n)).1 g) λe=>bif e then
  Z1 (bif d.2 then Z1 (BY d.1 (sw c (a.1.take n) (a.1.drop n)).2) λb=>some b else some false) λf=>some ((sw c (a.1.take n) (a.1.drop n)).2,f)
 else some d else some d
def Lv{ρ:Type}(a:List Int)(b:aE)(k:aE->aB ρ):aB ρ:=
 Zd (λ_ j s next=>Za b j λv=>next (s++[v])) k a 0 []
def M7(M:Mp)(T:E)(e f:List Int)(w:Nat)(n:Nat){ρ:Type}(_:Nat)(a:aE)(s:R2)(next:R2->aB ρ):aB ρ:=
 Z1 (VU T a) λc=>Lv e a λd=>Z1 (Ap M d) λg=>Z1 (Bq M c) λh=>Z1 (Lu M.fwd n d g h) λp=>
 Z1 (bif !p.2 then Z1 (HM [c,(sw M.fwd d p.1).1,(sw M.fwd d p.1).2]) λr=>some (s.2++[r]) else some s.2) λb=>
 Z1 (By a e f p.1 w) λr=>next (s.1++[r],b)
def Dj(M:Mp):aB Mp:=
 Z1 (VQ M M.step.u) λq=>Z1 (Bl M) λa=>Za M.cs.q 0 λb=>Z1 (AS M M.step.u) λW=>
 Zp (q.2.length<=2097152/\a.1.length<=2097152/\b.pk.length+1<=b.j.length/\b.j.length<=2097152)<|
 Zd (M7 M q.1 a.1 a.2 W.j.length (b.j.length-b.pk.length-1)) (λs=>some {M with out:=Zt M.step.u s.1 M.out,nc:=Zt M.step.u s.2 M.nc}) q.2 0 ([],[])
set_option maxHeartbeats 2000000 in
def HY(u l co cn M M1)(c:Is (Dj M) M1)(m:MpAt u l co cn M)(K)
  (hK:∀h',MpAt h' l co cn M1->Z0 u h' (Z co++Z cn)->K (.tup []) h'):Z5 prog 175 [.p l] u K:=by
 refine Z5.qM func175 rfl kR rfl rfl I ?_;unfold Dj at c;replace c:=c.bind;have⟨⟨T,g⟩,ht,c⟩:=c;replace c:=c.bind;have⟨⟨D,U⟩,ha,c⟩:=c;replace c:=Is.get c;obtain⟨z,-,ah,c⟩:=c;replace c:=c.bind;have⟨W,hW,c⟩:=c;replace c:=c.chk;have⟨⟨ar,hl2,az,ay⟩,c⟩:=c;simp only at ar hl2 c;simp at ah;have hl:=(m.lt l (Y8 ..));have hne:=Zv hl;have hne':=W1 hl;have S:∀{a b:Nat} {cs G:aD} {h:HS},Z0 u h []->h.p=a->Z0 u ((h.xV (a,b) cs).w.xV (a,b) G) []:=λ{a b cs G h} s e=>by subst e;exact s.trans ((Z0.refl.xV (.inr I)).w.xV (.inr I))
 have aq:IntKind.i64.wrap ((z.j.length:Int)-z.pk.length)=(z.j.length:Int)-z.pk.length:=Y6 _ X;have ae:IntKind.i64.wrap (z.j.length-z.pk.length-1)=((z.j.length-z.pk.length-1:Nat):Int):=by rw[Y6 _ X];omega
 generalize z.j.length-z.pk.length-1=n at c ae;simp[m.bx];refine V7 ht m I ?_;simp;refine V7 ha (m.frame (S Z0.refl.w I)) I ?_;simp[m.bx,hne,ah];refine V7 hW (m.frame (S (S Z0.refl.w I).w I)) I ?_;simp[aq,ae];intro _ _ _ _;generalize hH:HS.w _=h3;have J:Z0 u h3 []:=by rw[<-hH];exact sm
 have b1:h3.a (u.p+1,48)=some (T.z.map C.d):=by rw[<-hH];simp
 have ax:u.p+2<h3.p:=by rw[<-hH];simp
 clear hH;have m3:LG u h3 [((u.p+1,48),T.z.map C.d)] [(.nil,[]),(.nil,[])] h3:=
  ⟨sU b1,⟨MR.nil,rfl,I⟩,by simp[Zw,MR.nil],J,Y7 _,by simp[Z],by simp[Z],by simp[Z4,Z];omega,by simp[Z4,Z],by simp[Z4,Z],J.1,I⟩
 refine Z6.for (λi s e h'=>∃F B,En e 159 [(0,.p l),(2,.s M.step.u),(3,.p (u.p+1,48)),(5,.l (D.map Zg)),(6,.l (U.map Zg)),(8,.i W.j.length),(9,.i n),(10,.one F),(11,.one B),(62,.l (g.map (Z7 GV.z))),(63,.i g.length),(64,.i i)]/\LG u h3 [((u.p+1,48),T.z.map C.d)] [(F,s.1),(B,s.2)] h'/\s.1.length<=i/\s.2.length<=i) c
   ⟨.nil,.nil,I,m3,I,I⟩ ?_ ?_
 .rintro i s e h' ⟨F,B,f,x,n1,n2⟩ hlt c;have hw:IntKind.i64.wrap ((i:Int)+1)=(i:Int)+1:=Y6 _ X;unfold M7 at c;replace c:=c.bind;have⟨A,ag,c⟩:=c;have bt:=x.a _ (Y8 ..);simp only[E.z,Yb,Yf] at bt;simp[f,hlt,bt];refine Zx ((Aa T g[i]).h A ag) I ?_;simp[f];intro _;have am:=x.new (h':=(h'.qC (h'.p,1121) (some (A.length,3))).w) Z0.refl.qC.w;refine Z6.for (λj q eq0 N=>∃P,Ek e eq0 [(13,.l (g[i].map GV.z)),(14,.one (.own (h'.p,1121) (A.map GV.z))),(15,.one P),(71,.l (D.map Zg)),(72,.i D.length),(73,.i j)] [0,2,3,5,6,8,9,10,11,62,63,64]/\
    LG u h3 [((u.p+1,48),T.z.map C.d)] [(F,s.1),(B,s.2)] N/\Zm N 3 P (q.map GV.z)/\q.length<=j) c
    ⟨.nil,by simp[f],am,.nil,I⟩ ?_ ?_
  .rintro j q e N ⟨P,hF,x,Q,q1⟩ au c;have f:=hF.an f;have hwj:IntKind.i64.wrap ((j:Int)+1)=(j:Int)+1:=Y6 _ X;replace c:=c.get;have⟨v,ap,hv,c⟩:=c;simp[f,au,ap,hv];refine Zcr QE dE (Q.qC I).w X λc2 h5 g5 R=>?_;simp[f,hwj];exact Zj.of (q++[v]) ⟨⟨c2,by simp[f],(x.new Z0.refl.qC.w).new R,g5,sO⟩,c⟩
  .rintro q e N ⟨P,hF,x,Q,_⟩ c;have f:=hF.an f;replace c:=c.bind;have⟨cv,hcv,c⟩:=c;replace c:=c.bind;have⟨st,hst,c⟩:=c;replace c:=c.bind;have⟨p,t,c⟩:=c;replace c:=c.bind;have⟨comp,d,c⟩:=c;replace c:=c.bind;obtain⟨r,hr,c⟩:=c;have aH:=Q.toA;have dH:=Q.toD;have L:=m.frame x.same;have af:=L.bx;simp[f];refine V7 hcv L (by simp[aH]) ?_;simp[f];refine V7 hst (L.frame Z0.refl.w) I ?_;simp[f];unfold Lu at t;have FW:M.fwd=true\/M.fwd=false:=by cases M.fwd<;>simp
   cases hok:st.2<;>rcases FW with O|O<;>simp only[hok,O,sw,cond_true,cond_false] at t d<;>simp[f]
   all_goals first
    | (with_reducible have y:=Zk t
       subst y)
    | (replace t:=t.chk
       have⟨hn,t⟩:=t;replace t:=t.bind;have⟨eq,al,t⟩:=t;refine Z6.of (Wy.draw (Y.qB aN .done) follows kR ?_);simp[f,hn,af,O];refine Zx ((K3 _ q).h eq al) (by simp[aH,XP,Xy]) ?_;simp;cases eq
       all_goals first
        | (simp only[cond_false] at t
           have y:=Zk t;subst y;simp[f])
        | (simp only[cond_true] at t
           replace t:=t.bind;have ⟨ex,o,t⟩:=t;have y:=Zk t;subst y;simp[f];refine GB o ?_ ?_<;>clear o<;>intro aj o
           all_goals first
            | (have y:=Zk o
               subst y;simp[f,aj])
            | (replace o:=o.bind
               have ⟨b,hb,o⟩:=o;obtain rfl:=Zk o;simp[f,aj];refine Zx ((K3 cv.1 _).h b hb) (by simp[XP,Xy]) ?_;simp[f])
           all_goals
            first
             | (refine Zx (Eg (st.1.drop n) _ rfl) ?_ ?_
                .simp[Xy];done)
             | (refine Zx (Eg (st.1.take n) _ rfl) ?_ ?_
                .simp[XP];done)
            simp[f]))
   all_goals first
    | (with_reducible refine ZP d ?_ ?_<;>clear d<;>intro _ d)
    | (simp only[XO,cond_true] at d)
   all_goals first
    | (have y:=Zk d
       subst y;simp[f];refine Zx ((I6 g[i] D U _ W.j.length).h r hr) I ?_;simp[f];refine LM.app 0 (x.new ?_) rfl PG kR dE (Zr.rowc rfl) sO λV h9 m9 _=>?_
       .exact sm
       simp[f,hw];exact Zj.of (s.1++[r],s.2) ⟨⟨V,B,by simp[f],m9,sO,sO⟩,c⟩)
    | (replace d:=d.bind
       have ⟨ac,ak,d⟩:=d;have y:=Zk d;subst y
       try simp[f,af,O,dH]
       refine Zx (FJ _ ac ak) (by simp[Z7]) ?_;simp[f];refine LM.app 1 (x.new ?_) rfl PG kR dE (Zr.rowc rfl) sO λc8 h8 m8 _=>?_
       .exact sm
       simp[f];refine Zx ((I6 g[i] D U _ W.j.length).h r hr) I ?_;simp[f];refine LM.app 0 (m8.new ?_) rfl PG kR dE (Zr.rowc rfl) sO λV h9 m9 _=>?_
       .exact sm
       simp[f,hw];exact Zj.of (s.1++[r],s.2++[ac]) ⟨⟨V,c8,by simp[f],m9,sO,sO⟩,c⟩)
 .rintro s e h' ⟨F,B,f,x,-⟩ c;obtain rfl:=Zk c;have L:=m.frame x.same;simp[f];refine Cq L m.lt (x.same.mn) x.gr λh5 m5 R g5=>?_;simp[f];refine Gk m5 m.lt R g5 λh7 m7 aw _=>?_;simp;exact hK h7 m7 aw
def Z6.skip{P:Program}{c:Code}{Q:Exit->Env->HS->Prop}{e:Env}{h:HS}(a:vc P c (Vn (λ_ _=>H8) Q) e h):Z6 P (c:=⟨.loop c⟩) (Q:=⟨Q⟩) e h:=by
 refine Wy.rQ (λn b d=>n=0/\b=e/\d=h) 0 ⟨rfl,rfl,rfl⟩ ?_;rintro n b d ⟨rfl,rfl,rfl⟩;exact(UL _ _ _ _ a).mono (EC λ_ _ f=>(f:False).elim)
def S2{h:HS}{b:Nat}{cs cs':aD}:Z0 h ((h.xV (h.p,b) cs).w.xV (h.p,b) cs') []:=by exact sm
def Sb{c:C}{f:Nat->Prop}(h:c.toD=some (.sl []))(a:f 0):lenK c (k:=⟨f⟩):=by
 cases c<;>simp[C.toD] at h<;>(try subst h)<;>simpa using a
def Z2z(h:HS)(c v:C)(b:c.toD=some (.sl []))(K:V->HS->Prop)(d:∀a,Z0 h a []->ZG h a->K (.i (-1)) a):
  Z5 prog 107 [.one c,.one v] h K:=by
 refine Z5.jE func107 rfl kR λhg=>?_;refine Z5.ov func107 ?_;simp;refine Sb b ?_;simp;refine Z6.skip ?_;simp;exact d h .refl λ_ _ x=>x
def Z27(h:HS)(c v:C)(d:c.toD=some (.sl []))(K:V->HS->Prop)(e:∀a,Z0 h a []->ZG h a->K (.one c) a):
  Z5 prog 230 [.one c,.one v] h K:=by
 refine Z5.jE func230 rfl kR λhg=>?_;refine Z5.ov func230 ?_;simp;refine Zc (Z2z _ c v d _ λa f b=>?_);simp;exact e a f b
def MpAt.wW{h h':HS}{l:Z2}{i e c:C}{M:Mp}{o:List J}(m:MpAt h l i e M)(s:Z0 h h' [])(r:VZ h' c o)(f:∀k∈Z c,h.p<=k.1/\k.1<h'.p):
  MpAt (h'.xV l (WJ {M with out:=o} c e)) l c e {M with out:=o}/\Z0 h (h'.xV l (WJ {M with out:=o} c e)) [l]:=by
 have b:=m.lt;have aa:=s.1;have g:∀k∈Z c,k≠l:=λk a d=>by subst d;have:=(f k a).1;have:=b k (Y8 ..);omega
 refine⟨⟨I,r.frame λk a=>by simp[g k a],(m.frame s).nc.frame λk a=>?_,λk a=>?_,λd=>g l d rfl,m.nl.2.1,λk a d=>?_⟩,(s.mn).xV (.inl I)⟩
 have:k≠l:=λd=>m.nl.2.1 (d▸a)
 simp[this];simp only[Y5,Y3] at a;simp;rcases a with rfl|a|a
 have:=b k (Y8 ..);omega
 exact(f k a).2
 have:=b k (by simp[a]);omega
 have:=(f k a).1
 have:=b k (by simp[d])
 omega
abbrev GI:=aA×C×List aE
structure IR(h0 h:HS)(c:C)(gs:List GI):Prop where
 mr:MR h 2 c (gs.map λg=>[.d (.str g.1),g.2.1])
 row:∀g∈gs,(g.2.1.toD=some (.sl [])/\g.2.2=[])\/MR h 1 g.2.1 (Zw (g.2.2.map rowc))
 lc:∀k∈Z c,h0.p<=k.1/\k.1<h.p
 lg:∀g∈gs,∀k∈Z g.2.1,h0.p<=k.1/\k.1<h.p/\k∉Z c
 dis:(gs.flatMap λg=>Z g.2.1).Nodup
 same:Z0 h0 h []
def IR.nil{h:HS}:IR h h .nil []:=⟨MR.nil,I,by simp[Z],I,I,.refl⟩
def IR.new{f h h':HS}{c:C}{e:List GI}(r:IR f h c e)(d:Z0 h h' []):IR f h' c e:=
 ⟨r.mr.frame λk a=>d.2 k (r.lc k a).2 I,λg b=>(r.row g b).imp id λm=>m.frame λk a=>d.2 k (r.lg g b k a).2.1 I,λk a=>⟨(r.lc k a).1,Y4 (r.lc k a).2 d.1⟩,λg b k a=>⟨(r.lg g b k a).1,Y4 (r.lg g b k a).2.1 d.1,(r.lg g b k a).2.2⟩,r.dis,r.same.trans d⟩
def IR.app{P:Program}{E B:TypeId}{A d:Nat}{D h o:HS}{c x c1:C}{y:List GI}{t:aA}{rows:List aE}{K:V->HS->Prop}(r:IR D h c y)(J:Z0 h o [])(F:ZC P E=some (B,2,A))(M:(W3 P B).isSome=true)(H:A<=4096)(L:Zr o 2 x [[.d (.str t),c1]])
  (I:(c1.toD=some (.sl [])/\rows=[])\/MR o 1 c1 (Zw (rows.map rowc)))(u:∀k∈Z c1,h.p<=k.1/\k.1<o.p)(s:y.length+1<=2097152)(e:∀v w,IR D w v (y++[(t,c1,rows)])->K (.one v) w):Ud P E c x d o (K:=⟨K⟩):=by
 have f:=r.new J;refine Wl F M dE H f.mr L (sU s) λv w m l j=>e v w ⟨sU m,?_,?_,?_,?_,?_⟩;intro g q;rcases Y3.1 q with h2|h2;exact(f.row g h2).imp id λm=>m.frame λk e=>l.2 k (f.lg g h2 k e).2.1 (f.lg g h2 k e).2.2;obtain rfl:=Yj.1 h2;refine I.imp id λm=>m.frame λk e=>l.2 k (u k e).2 λp=>?_
 have:=(r.lc k p).2
 have:=(u k e).1
 omega;intro k e;rcases j k e with h2|h2;exact⟨(f.lc k h2).1,Y4 (f.lc k h2).2 l.1⟩;exact⟨YE f.same.1 h2.1,h2.2⟩;intro g q k e;rcases Y3.1 q with h2|h2;have i:=f.lg g h2 k e;refine⟨i.1,Y4 i.2.1 l.1,λp=>?_⟩;rcases j k p with n|n;exact i.2.2 n;omega;obtain rfl:=Yj.1 h2;have i:=u k e;refine⟨YE r.same.1 i.1,Y4 i.2 l.1,λp=>?_⟩;rcases j k p with n|n
 have:=(r.lc k n).2
 omega;omega;rw[List.flatMap_append,Yk];refine⟨r.dis,sU Vx,λa G b z=>?_⟩;rintro rfl;have⟨g,q,e⟩:=YH.1 G;have i:=(r.lg g q a e).2.1;have n:=(u a (sU z)).1;omega;exact f.same.trans' l λk e=>.inr (f.lc k e).1
def Wj(a:List GI):List J:=a.map λg=>⟨g.1,g.2.2⟩
def Zco{x:aD}{f:List aC->Prop}{g:aD->Prop}{a:aB (List aC)}{b:aB aD}(i:a=(DH x).map λd=>[d])(j:b=some x)(c:∀d,ZB x=some d->f [d])(e:g x):Fm a b (k:=⟨f⟩) (q:=⟨g⟩):=by
 subst i j;cases h:DH x with
 |none=>exact e
 |some d=>exact c d (PZ h)
def Z0x(h:HS)(a:List J)(Y:∀r∈a,Is (VG r.rows) r.rows)(hlen:a.length<=2097152)(K:V->HS->Prop)
  (m:∀c f j,IR h f c j->Wj j=a->ZG h f->K (.one c) f):
  Z5 prog 28 [.l (a.map J.z)] h K:=by
 refine Z5.jE func28 rfl kR λW=>?_;refine Z5.ov func28 ?_;have v:Is (Zd (λ(_:Nat) x s next=>next (s++[x])) (λs=>some s) a 0 []) a:=by rw[GO];rfl
 simp;intro ap;refine Z6.for (xs:=a) (s0:=[]) (λi s e f=>∃c j,En e 23 [(3,.one c),(6,.l (a.map J.z)),(7,.i (a.length:Int)),(8,.i (i:Int))]/\IR h f c j/\Wj j=s/\s.length=i) v ⟨.nil,[],I,.nil,rfl,rfl⟩ ?_ ?_;rintro i s e f ⟨c,j,b,g,q,B⟩ hlt v;have hw:IntKind.i64.wrap ((i:Int)+1)=(i:Int)+1:=Y6 _ X;have ar:j.length=i:=by rw[<-B,<-q];simp[Wj]
 simp[b,hlt];refine Z6.cu aJ (λG n=>∃z y,Ek e G [(3,.one z)] [6,7,8]/\IR h n z y/\Wj y=s++[a[i]]) ?_ ?_;simp[b];have H:Z0 f ((f.xV (f.p,80) [C.d (D.str empty),C.nil]).w.xV (f.p,80) [C.d (D.str a[i].u),C.d (D.sl (List.map (Z7 GV.z) a[i].rows))]) []:=S2;refine Zc (Z5.jE func59 rfl kR λS=>K9 _ a[i].rows a[i].rows (Y _ (Yh hlt)) _ λc1 n A w O=>?_);have P:=w.jA S;simp[b];refine⟨P,?_⟩;have L:=H.trans w;have o:∀k∈Z c1,f.p<=k.1/\k.1<n.p:=λk m=>by have:=O k m;have:=H.1;omega
 have M:Wj (j++[(a[i].u,c1,a[i].rows)])=s++[a[i]]:=by simp[Wj] at q|-;exact q
 refine Zco (x:=[.d (.str a[i].u),c1]) (by cases hz:CZ [.d (.str a[i].u),c1]<;>simp[DH,hz,ZB]<;>cases c1.toD<;>rfl) rfl (λd u=>?_) ?_;have U:c1.toD=some (.sl [])/\a[i].rows=[]/\d=[.str a[i].u,.sl []]:=by rcases A.2.2 with⟨N,rfl|rfl⟩|⟨lo,cap,sp,rfl,-,-⟩;simp[ZB,C.toD] at u;exact⟨rfl,by simpa[Zw] using N,u.symm⟩;simp[ZB,C.toD] at u;exact⟨rfl,by simpa[Zw] using N,u.symm⟩;simp[ZB,C.toD] at u
 obtain⟨aq,Q,rfl⟩:=U;simp[b];refine IR.app (t:=a[i].u) (c1:=.d (.sl [])) (rows:=[]) g (L.trans ((Z0.refl.qC).w)) CB kR dE (Zr.qU rfl) (.inl ⟨rfl,rfl⟩) (by simp[Z]) X λF R E=>?_;simp[b];refine Ze.of ⟨F,_,by simp[b],E,?_⟩;rw[<-M,Q];simp[Wj];simp[b];have p:Z0 n ((n.xV (n.p,304) [.d (.str a[i].u),c1]).w) []:=(Z0.refl.xV (.inr I)).w;refine IR.app (t:=a[i].u) (c1:=c1) (rows:=a[i].rows) g (L.trans p) CB kR dE (Zr.jY rfl I) (.inr (A.frame λk m=>p.2 k (o k m).2 I)) (λk m=>⟨(o k m).1,Y4 (o k m).2 p.1⟩) X λF R E=>?_;simp[b];exact Ze.of ⟨F,_,by simp[b],E,M⟩;rintro e1 n ⟨z,y,hF,A,T⟩;have b:=hF.an b;simp[b,hw];exact Zj.of (s++[a[i]]) ⟨⟨z,y,by simp[b],A,T,by simp[B]⟩,v⟩;rintro s e f ⟨c,j,b,g,q,B⟩ v;obtain rfl:=Zk v;simp[b];exact m _ _ _ g q (g.same.jA W)
def BW(x:aE)(k0:aE):aB Bool:=
 Z1 (BY x k0) λv1=>some v1
instance SV(x:aE)(k0:aE):Con (BW x k0) prog 232 [.one (.d (.sl (x.map GV.z))),.one (.rp [.sl (k0.map GV.z)])] (λr=>.one (.d (.bool r))):=by unfold BW;exact go 7 func232
instance Zfo(k0:aE):ConF (λx=>BW x k0) prog (λx=>.one (.d (.sl (x.map GV.z)))) (λr=>.one (.d (.bool r))) 232 [[.sl (k0.map GV.z)]]:=⟨λx=>(SV x k0)⟩
def D8(s_:List aE)(f:aE->aB Bool):aB Int:=
 Zd (λ(i2:Nat) (x2:aE) (s2:Unit) next_2=>Z1 (f x2) λv3=>bif v3 then some (i2:Int) else next_2 ()) (λ(s2:Unit)=>some (-1)) s_ 0 ()
instance TA(s_:List aE)(f:aE->aB Bool){g:FuncId}{caps:List aC}[ConF f prog (λx=>.one (.d (.sl (x.map GV.z)))) (λv=>.one (.d (.bool v))) g caps]:Con (D8 s_ f) prog 107 [.one (.d (.sl (s_.map (Z7 GV.z)))),.one (.fn g caps)] (λr=>.one (.d (.int .i64 r))):=by unfold D8;have l1:LH (σ:=Unit) 8 [0,1,7] []:=.intro;exact go 19 func107
def TG(s_:List aE)(g:FuncId)(caps:List aC)(f:aE->aB Bool)(hf:∀xa v,Is (f xa) v->Zq prog g (.one (.d (.sl (xa.map GV.z)))::Wu caps) (.one (.d (.bool v))))(r:Int)(hm:Is (D8 s_ f) r):Zq prog 107 [.one (.d (.sl (s_.map (Z7 GV.z)))),.one (.fn g caps)] (.one (.d (.int .i64 r))):=
 haveI:ConF f prog (λx=>.one (.d (.sl (x.map GV.z)))) (λv=>.one (.d (.bool v))) g caps:=⟨hf⟩
 (TA s_ f).h r hm
def BX(s_:List aE)(f:aE->aB Bool):aB Bool:=
 Z1 (D8 s_ f) λv1=>some (decide (0<=v1))
instance Zg5(s_:List aE)(f:aE->aB Bool){g:FuncId}{caps:List aC}[ConF f prog (λx=>.one (.d (.sl (x.map GV.z)))) (λv=>.one (.d (.bool v))) g caps]:Con (BX s_ f) prog 78 [.one (.d (.sl (s_.map (Z7 GV.z)))),.one (.fn g caps)] (λr=>.one (.d (.bool r))):=by unfold BX;exact go 9 func78
def A1(row:aE)(k0:List aE):aB Bool:=
 Z1 (BX k0 (λxa_=>BW xa_ row)) λv2=>some v2
instance N4(row:aE)(k0:List aE):Con (A1 row k0) prog 231 [.one (.d (.sl (row.map GV.z))),.one (.rp [.sl (k0.map (Z7 GV.z))])] (λr=>.one (.d (.bool r))):=by unfold A1;exact go 7 func231
def SG:aC->GV
 |[.int _ k,.int _ n,.str t]=>⟨k,n,t⟩
 |_=>⟨0,0,empty⟩
def Hi:aC->aE
 |[.sl xs]=>xs.map SG
 |_=>[]
def LO(a:aE):Hi [.sl (a.map GV.z)]=a:=by simp[Hi,Function.comp_def,SG,GV.z]
def Pf(q:aE->Bool):∀rows:List aE,keep (λt=>q (Hi t)) (Zw (rows.map rowc)) (rows.map (Z7 GV.z))=Zw ((rows.filter λr=>!q r).map rowc)
 |[]=>rfl
 |row::rows=>by have a:=Pf q rows;simp only[Zw] at a|-;simp only[Yb,keep,Z7,LO];cases h:q row;simp[h,<-a,Z7];simp[h,<-a,Z7]
def Pj{f:aE->aB Bool}{p:aE->Bool}:∀(a:List aE) (i:Nat),(∀x∈a,f x=some (p x))->Zd (λ(c:Nat) (g:aE) (d:Unit) next_2=>(Z1 (f g) λe=>(bif e then(some (c:Int)) else(next_2 ())))) (λ(d:Unit)=>(some (-1))) a i ()=some (match a.findIdx? p with|some j=>((i+j:Nat):Int)|none=>-1)
 |[],i,_=>by simp[Zd]
 |x::a,i,hf=>by
   rw[Zd,hf x (by simp),List.findIdx?_cons];show(bif p x then some (i:Int) else _)=_;cases hp:p x with
   |true=>simp
   |false=>?_
   have:=Pj a (i+1) λy b=>hf y (by simp[b])
   simp only[cond_false];rw[this];cases hx:a.findIdx? p with
   |none=>simp
   |some j=>simp only[Yp];rw[show i+1+j=i+(j+1) by omega];rfl
def WC(b:List aE)(a:aE):Bool:=(A1 a b).getD false
def Vg(h:HS)(c:C)(a:List aE):Prop:=(c.toD=some (.sl [])/\a=[])\/MR h 1 c (Zw (a.map rowc))
def Vg.lenK{h:HS}{c:C}{a:List aE}{f:Nat->Prop}(r:Vg h c a)(b:f a.length):lenK c (k:=⟨f⟩):=by rcases r with⟨d,rfl⟩|m;exact Sb d b;exact MR.lenK m (by simpa[Zw] using b)
def Z2x(h:HS)(b:Z2)(c B:C)(a e:List aE)(p:h.a b=some [B])(A:∀h',Z0 h h' (Z c)->Frz h' B (.sl (e.map (Z7 GV.z))))(L:b.1<h.p)(N:b∉Z c)(I:∀k∈Z c,k.1<h.p)(r:Vg h c a)(g:∀d∈a,(A1 d e).isSome=true)(K:V->HS->Prop)
  (F:∀f h',Vg h' f (a.filter λx=>!WC e x)->Z0 h h' (Z c)->Z f=Z c->K (.one f) h'):
  Z5 prog 230 [.one c,.one (.fn 231 [.lab b])] h K:=by
 rcases r with⟨D,rfl⟩|m;exact Z27 h c _ D K λh' o p=>F c h' (.inl ⟨D,rfl⟩) (o.mn) rfl;have w:∀d∈a,A1 d e=some (WC e d):=λd n=>by
  have:=g d n
  unfold WC;cases h9:A1 d e with
  |none=>rw[h9] at this;cases this
  |some b=>rfl
 refine Tt h c (Zw (a.map rowc)) (a.map (Z7 GV.z)) 231 [.lab b] [[.sl (e.map (Z7 GV.z))]] (λt=>WC e (Hi t)) _ m I
  (by simp[Zw]) (by simp[Z7]) ?_ ?_ ?_ ?_ (TG a 231 [[.sl (e.map (Z7 GV.z))]] (λd=>A1 d e) (λP v O=>(N4 P e).h v O) _ (Pj a 0 w)) ?_ _ (λf h' z J u=>?_)
 intro h' _ i y t l j;simp only[Zw,Y9] at l j;cases n:a[i]? with
 |none=>rw[n] at l;cases l
 |some d=>?_
 rw[n] at l j;cases l;cases j;exact⟨.data rfl,trivial⟩;intro h' o;exact⟨.one (.ptr ((o.2 _ L N).trans p) ⟨A h' o,trivial⟩),trivial⟩;refine .fn rfl λi cp ds q E=>?_
 match i with
 |0=>
   simp at q E;subst q E;exact⟨_,p,A h .refl,trivial⟩
 |i+1=>simp at q
 intro t j;obtain⟨d,G,rfl⟩:=Yi.1 j;simp only[Z7,Sk,LO];exact(N4 d e).h _ (w d G);rw[List.findIdx?_map];have M:((λt=>WC e (Hi t))∘Z7 GV.z)=WC e:=by funext d;simp only[Function.comp_def,Z7,LO]
 rw[M];cases a.findIdx? (WC e)<;>simp;rw[Pf (WC e)] at z;exact F f h' (.inr z) J u
def IR.apart{m h:HS}{c:C}{a:List GI}(r:IR m h c a){i j:Nat}(f:i<a.length)(g:j<a.length)(b:i≠j):∀k∈Z a[i].2.1,k∉Z a[j].2.1:=by have e:=(YK.1 (Y3o.1 r.dis).2);intro k l d;rcases Nat.lt_or_gt_of_ne b with h2|h2;exact e i j f g h2 k l k d rfl;exact e j i g f h2 k d k l rfl
def Vg.frame{h h':HS}{c:C}{a:List aE}(r:Vg h c a)(b:∀k∈Z c,h'.a k=h.a k):Vg h' c a:=r.imp id λm=>m.frame b
def IR.put{K h u:HS}{t:Z2}{n i:Nat}{sp:aD}{c:List GI}{o:C}{f:List aE}(r:IR K h (.mrow t 0 c.length n) c)(F:i<c.length)(z:Z0 h u (t::Z c[i].2.1))
  (bo:u.a t=some (Zb ((c.map λg=>[.d (.str g.1),g.2.1]).set i [.d (.str c[i].1),o]) sp))(w:(Zb (c.map λg=>[C.d (.str g.1),g.2.1]) sp).length=n*2)(O:Vg u o f)(L:∀k∈Z o,k∈Z c[i].2.1\/(h.p<=k.1/\k.1<u.p)):
  IR K u (.mrow t 0 c.length n) (c.set i (c[i].1,o,f)):=by
 have v:=r.mr.1.set (k:=i) (x:=[.d (.str c[i].1),o]) rfl;have J:∀g∈c.set i (c[i].1,o,f),g=(c[i].1,o,f)\/∃j,∃e:j<c.length,j≠i/\g=c[j]:=λg s=>by
  have⟨j,e,E⟩:=Yo s;rw[List.getElem_set] at E;rw[Xf] at e;split at E;exact .inl E.symm;rename_i l;exact .inr ⟨j,e,λN=>l N.symm,E.symm⟩
 have M:=r.lc t (by simp[Z]);refine⟨⟨by rwa [YJ],by have:=r.mr.2.1;simpa using this,.inr ⟨t,n,sp,I,by rwa [YJ],?_⟩⟩,?_,λk m=>⟨(r.lc k m).1,Y4 (r.lc k m).2 z.1⟩,?_,?_,?_⟩;rw[YJ,V2 v,Xf,<-V2 (sp:=sp) r.mr.1,w];intro g s;rcases J g s with rfl|⟨j,e,D,rfl⟩;exact O;refine Vg.frame (r.row _ (Yh e)) λk m=>z.2 k (r.lg _ (Yh e) k m).2.1 λl=>?_;rcases Y5.1 l with rfl|l;exact(r.lg _ (Yh e) k m).2.2 (by simp[Z]);exact r.apart e F D k m l;intro g s k m;rcases J g s with rfl|⟨j,e,D,rfl⟩;rcases L k m with h2|h2;have p:=r.lg _ (Yh F) k h2;exact⟨p.1,Y4 p.2.1 z.1,p.2.2⟩;exact⟨YE r.same.1 h2.1,h2.2,λl=>by have:=(r.lc k l).2;omega⟩;have p:=r.lg _ (Yh e) k m;exact⟨p.1,Y4 p.2.1 z.1,p.2.2⟩;have B:∀j (e:j<c.length),j≠i->∀x∈Z o,x∉Z c[j].2.1:=λj e D x q l=>by
  rcases L x q with h2|h2;exact r.apart F e (Ne.symm D) x h2 l
  have:=(r.lg _ (Yh e) x l).2.1;omega
 refine Y3o.2 ⟨λg s=>Vx,YK.2 λa b G H ad x q y A=>?_⟩;rw[Xf] at G H;simp only[List.getElem_set] at q A;split at q<;>split at A;omega;rintro rfl;exact B b H X x q A;rintro rfl;exact B a G X x A q;rintro rfl;exact r.apart G H X x q A;refine r.same.trans' z λk m=>.inr ?_;rcases Y5.1 m with rfl|l;exact M.1;exact(r.lg _ (Yh F) k l).1
def Z7s(h0 h:HS)(t:Z2)(c z:C)(a:List GI)(E:List aE)(i:Nat)(al:h.a t=some [c])(L:t.1<h.p)(aq:t∉Z c)(au:∀g∈a,t∉Z g.2.1)(r:IR h0 h c a)(u:i<a.length)
  (ar:∀h',Z0 h h' (Z a[i].2.1)->Frz h' z (.sl (E.map (Z7 GV.z))))(R:∀row∈a[i].2.2,(A1 row E).isSome=true)(K:V->HS->Prop)
  (q:∀h' e,IR h0 h' c (a.set i (a[i].1,e,a[i].2.2.filter λx=>!WC E x))->h'.a t=some [c]->Z0 h h' (Z c++Z a[i].2.1)->Z e=Z a[i].2.1->K (.b (decide ((a[i].2.2.filter λx=>!WC E x).length<a[i].2.2.length))) h'):
  Z5 prog 229 [.i (i:Int),.one z,.p t] h K:=by
 refine Z5.ov func229 ?_;have⟨n,y,sp,hc,hb,S⟩:=r.mr.block sO;rw[Yd] at hc;subst hc;obtain⟨o,J⟩:∃o:List aD,o=a.map λg=>[.d (.str g.1),g.2.1]:=⟨_,rfl⟩;have N:=r.mr;rw[<-J] at hb S N;have hxl:o.length=a.length:=by simp[J]
 have hx:o[i]?=some [.d (.str a[i].1),a[i].2.1]:=by simp[J,u]
 have t1:=VH (sp:=sp) (f:=1) (m:=1) N.1 hx I;have ay:=Ah (sp:=sp) N.1 (k:=i) X;have M:=(r.lc n (by simp[Z])).2;have ak:Vg h a[i].2.1 a[i].2.2:=r.row _ (Yh u);have U:=r.lg _ (Yh u);have ax:=au _ (Yh u);have aj:n∉Z a[i].2.1:=λA=>(U n A).2.2 (by simp[Z]);have ao:t≠n:=λA=>aq (by simp[Z,A]);replace t1:Zs 1 ((Zb o sp).drop (i*2+1))=some [a[i].2.1]:=by rw[t1];rfl
 simp[al,Zv L,W1 L,hb,u,t1,Zv M,W1 M];refine ak.lenK ?_;simp;have W:Z0 h (h.xV (h.p,64) [z]).w []:=by exact sm
 have aw:Vg (h.xV (h.p,64) [z]).w a[i].2.1 a[i].2.2:=ak.imp id λm=>m.frame λk q=>W.2 k (U k q).2.1 I;have D:∀(j:HS),Z0 (h.xV (h.p,64) [z]).w j (Z a[i].2.1)->j.a t=some [C.mrow n 0 a.length y]/\j.a n=some (Zb o sp)/\Z0 h j (Z a[i].2.1):=λj hs=>by have B:Z0 h j (Z a[i].2.1):=(W.mn).trans hs;exact⟨(B.2 t L ax).trans al,(B.2 n M aj).trans hb,B⟩
 have put:∀(e:C),Zi (Zb o sp) (i*2+1) [e]=Zb (o.set i [.d (.str a[i].1),e]) sp:=λe=>BK (sp:=sp) (f:=1) (vs:=[e]) N.1 hx I;have P:∀(T:V->HS->Prop),(∀e j,Vg j e (a[i].2.2.filter λx=>!WC E x)->Z0 h j (Z a[i].2.1)->Z e=Z a[i].2.1->j.a t=some [C.mrow n 0 a.length y]->j.a n=some (Zb o sp)->T (.one e) j)->Z5 prog 230 [.one a[i].2.1,.one (.fn 231 [.lab (h.p,64)])] (h.xV (h.p,64) [z]).w T:=λT hK'=>
  Z2x _ (h.p,64) a[i].2.1 z a[i].2.2 E I (λh' v=>ar h' ((W.mn).trans v)) I (λA=>by have:=(U _ A).2.1;simp at this) (λk q=>Y4 (U k q).2.1 W.1) aw R T λe j F v l=>hK' e j F (D j v).2.2 l (D j v).1 (D j v).2.1
 refine Z6.jS (λk=>k !=8) (Y.qB [1,2,3,4,5,6,7] (.two 0 8 (Y.qB [8,9,10,11] .done) (Y.qB [0,9,10,11] .done))) follows kR (λQ G=>∃e,Q.n=32/\Q.get 0=.i (i:Int)/\Q.get 2=.p t/\Q.get 6=.i (a[i].2.2.length:Int)/\G.a t=some [.mrow n 0 a.length y]/\G.a n=some (Zb (o.set i [.d (.str a[i].1),e]) sp)/\Vg G e (a[i].2.2.filter λx=>!WC E x)/\Z e=Z a[i].2.1/\Z0 h G (n::Z a[i].2.1)) ?_ ?_
 .simp[V8,al,Zv L,W1 L,hb,u,t1,Zv M,W1 M];constructor
  all_goals
   refine Zc (P _ λe j F v l O bo=>?_);simp[V8,O,bo,u];refine⟨X,?_⟩;rw[put];have hb2:∀k∈Z e,(j.xV n (Zb (o.set i [.d (.str a[i].1),e]) sp)).a k=j.a k:=λk q=>by simp[HS.xV,show k≠n from λA=>aj (by rwa [<-l,<-A])]
   exact Ze.of ⟨e,I,I,I,I,by simp[HS.xV,ao,O],I,F.frame hb2,l,Z0.xV (v.mono λk q=>Yc _ q) (.inl I)⟩
 rintro Q G ⟨e,en,e0,e2,e6,O,bo,F,l,hs⟩;have ap:(o.set i [C.d (.str a[i].1),e])[i]?=some [.d (.str a[i].1),e]:=by simp[hxl,u]
 have am:=N.1.set (k:=i) (x:=[C.d (.str a[i].1),e]) rfl;have t2:=VH (sp:=sp) (f:=1) (m:=1) am ap I;replace t2:Zs 1 ((Zb (o.set i [C.d (.str a[i].1),e]) sp).drop (i*2+1))=some [e]:=by rw[t2];rfl
 simp[en,e0,e2,e6,O,bo,u,t2];refine F.lenK ?_;simp[en,e0,e2,e6];have h8:=q G e (IR.put r u hs (by rwa [<-J]) (by rwa [<-J]) F λk q=>.inl (l▸q)) O (hs.mono λk q=>by simpa[Z] using q) l;simpa using h8
def D9(s_:Sch)(inst:List J)(fk:Fk)(row:aE):aB Bool:=
 Z1 (Vv s_ inst fk.ref) λv3=>Zd (λ(i6:Nat) (x6:Int) (s6:aE) next_6=>bif decide (x6<0) then some true else bif decide ((row.length:Int)<=x6) then some true else Za row x6 λx10=>bif (x10.g==0) then some true else Wn s6 [x10] λ_=>next_6 (s6++[x10])) (λ(s6:aE)=>Z1 (A7 v3.1 v3.2 s6) λv14=>some v14.2) fk.j 0 []
instance Z01(s_:Sch)(inst:List J)(fk:Fk)(row:aE):Con (D9 s_ inst fk row) prog 80 [.agg s_.z,.one (.d (.sl (inst.map J.z))),.agg fk.z,.one (.d (.sl (row.map GV.z)))] (λr=>.one (.d (.bool r))):=by
 unfold D9;have l1:LH (σ:=aE) 27 [3,9,10,25,26] [.g 11 3 (λs=>s.map GV.z)]:=.intro;exact go 63 func80
def Dc(c:Cons)(row:aE):aB Bool:=
 bif decide (c.left<0) then some true else bif decide ((row.length:Int)<=c.left) then some true else bif decide ((row.length:Int)<=c.right) then some true else bif decide (0<=c.right) then Za row c.right λx9=>(Za row c.left λx10=>Z1 (Bt x10 c.op x9) λv11=>bif v11.1 then some true else some (v11.2 !=0)) else Za row c.left λx13=>Z1 (Bt x13 c.op c.value) λv14=>bif v14.1 then some true else some (v14.2 !=0)
instance Z06(c:Cons)(row:aE):Con (Dc c row) prog 82 [.agg c.z,.one (.d (.sl (row.map GV.z)))] (λr=>.one (.d (.bool r))):=by unfold Dc;have p1:PH [6] (Y.qB aL .done):=.intro;exact go 52 func82
def Vg.frz{h:HS}{c:C}{a:List aE}(r:Vg h c a):Frz h c (.sl (a.map (Z7 GV.z))):=by
 rcases r with⟨e,rfl⟩|m;exact .data e;refine m.frz (by simp[Zw]) (by simp[Z7]) λi y t b d=>?_;simp only[Zw,Y9] at b d;cases hr:a[i]? with
 |none=>rw[hr] at b;cases b
 |some row=>?_
 rw[hr] at b d;cases b;cases d;exact⟨.data rfl,trivial⟩
def IR.frz{e h:HS}{c:C}{d:List GI}(r:IR e h c d):Frz h c (.sl ((Wj d).map J.z)):=by
 refine r.mr.frz (by simp[Wj]) (λt a=>by obtain⟨y,_,rfl⟩:=Yi.1 a;rfl) λi y t b a=>?_;simp only[Wj,Y9] at b a;cases hr:d[i]? with
 |none=>rw[hr] at b;cases b
 |some g=>?_
 rw[hr] at b a;cases b;cases a;exact⟨.data rfl,Vg.frz (r.row g (Y2 hr)),trivial⟩
def IG(S:Sch)(a:List J)(t:aA)(b:aE)(f:Fk)(s:Bool):aB Bool:=
 bif s then some true else bif Z9 f.u t then Z1 (D9 S a f b) λv=>some !v else some false
def KN{ρ:Type}(S:Sch)(a:List J)(t:aA)(c:aE)(b:Bool)(k:Bool->aB ρ):aB ρ:=
 Zd (λ(_:Nat) (f:Fk) (s:Bool) next=>Z1 (IG S a t c f s) next) k S.b 0 b
def EN(M:Mp)(S:Sch)(c:List J)(t:aA){ρ:Type}(_:Nat)(a:aE)(s:List aE)(next:List aE->aB ρ):aB ρ:=
 Z1 (bif (M.step.g==13||M.step.g==14)&&Z9 M.step.cons.u t then Z1 (Dc M.step.cons a) λv=>some !v else some false) λb=>
 KN S c t a b λb=>bif b then next (s++[a]) else next s
def BM(M:Mp)(S:Sch)(b:List J)(t:aA)(a:List aE):aB (List aE):=
 Zp (a.length<=2097152)<|Zd (EN M S b t) (λs=>some s) a 0 []
def Z2w(h0 h:HS)(l:Z2)(co cn c:C)(M:Mp)(S:Sch)(a:List GI)(i:Nat)(out:List aE)(m:MpAt h l co cn M)(r:IR h0 h c a)(J:i<a.length)(t:Is (BM M S (Wj a) a[i].1 a[i].2.2) out)(K:V->HS->Prop)
  (z:∀E h',MR h' 1 E (Zw (out.map rowc))->Z0 h h' []->(∀k∈Z E,h.p<=k.1/\k.1<h'.p)->K (.one E) h'):
  Z5 prog 233 [.p l,.agg (S.z.map C.d),.one c,.i (i:Int)] h K:=by
 refine Z5.ov func233 ?_;have⟨hlim,t⟩:=t.chk;have hl:=m.lt l (Y8 ..);have⟨lo,A,sp,hc,hb,hcap⟩:=r.mr.block sO;rw[Yd] at hc;subst hc;have hx:(a.map λg=>[C.d (.str g.1),g.2.1])[i]?=some [.s a[i].1,a[i].2.1]:=by simp[J]
 have t1:Zs 1 ((Zb (a.map λg=>[C.d (.str g.1),g.2.1]) sp).drop (i*2+1))=some [a[i].2.1]:=by rw[VH (f:=1) (m:=1) r.mr.1 hx I];rfl
 have t0:Zs 1 ((Zb (a.map λg=>[C.d (.str g.1),g.2.1]) sp).drop (i*2))=some [.s a[i].1]:=by have:=VH (sp:=sp) (f:=0) (m:=1) r.mr.1 hx I;rw[Xl] at this;rw[this];rfl
 have R:=(r.lc lo (by simp[Z])).2;have aw:Vg h a[i].2.1 a[i].2.2:=r.row _ (Yh J);obtain⟨kd,ao⟩:∃kd,(M.step.g==13||M.step.g==14)=kd:=⟨_,rfl⟩;have ah:Z0 h (h.xV (h.p,80) (S.z.map C.d)).w []:=by exact sm
 obtain⟨O,af⟩:∃O,O=(h.xV (h.p,80) (S.z.map C.d)).w:=⟨_,rfl⟩;have b5:O.a (h.p,80)=some (S.z.map C.d):=by rw[af];simp
 have e5:h.p<O.p:=by rw[af];simp
 rw[<-af] at ah;have hh:=af;simp only[Sch.z,Yb,Yf] at hh b5;rcases Bool.eq_false_or_eq_true (M.step.g==13) with ae|ae
 all_goals
  simp[m.bx,Zv hl,W1 hl,ae,hb,J,t1,Zv R,W1 R];refine aw.lenK ?_;simp;rw[<-hh];refine Z6.for (xs:=a[i].2.2) (s0:=[]) (λj s e h'=>∃E,En e 99 [(0,.p l),(2,.one (.mrow lo 0 a.length A)),(3,.i (i:Int)),(5,.p (h.p,80)),(9,.b kd),(10,.one E),(34,.one a[i].2.1),(35,.i (a[i].2.2.length:Int)),(36,.i (j:Int))]/\
   MR h' 1 E (Zw (s.map rowc))/\Z0 O h' []/\(∀k∈Z E,O.p<=k.1/\k.1<h'.p)/\s.length<=j) t ⟨.nil,by simp[<-ao,ae],by simpa[Zw] using MR.nil,.refl,by simp[Z],I⟩ ?_ ?_
  rintro j s e h' ⟨E,d,mc,u,N,a8⟩ B t;have hw:IntKind.i64.wrap ((j:Int)+1)=(j:Int)+1:=Y6 _ X;have hS:=ah.trans u;have m':=m.frame hS;have r':=r.new hS;have hb':=(hS.2 lo R I).trans hb;have bg:=(u.2 (h.p,80) e5 I).trans b5;obtain⟨T,U,aq,aj,ba,az⟩:∃T A sp,a[i].2.1=.mrow T 0 a[i].2.2.length A/\h'.a T=some (Zb (Zw (a[i].2.2.map rowc)) sp)/\(Zb (Zw (a[i].2.2.map rowc)) sp).length=A*1:=by rcases r'.row _ (Yh J) with⟨-,P⟩|P;rw[P] at B;simp at B;have⟨T,A,sp,O,W,F⟩:=P.block (by simp[Zw];omega);exact⟨T,A,sp,by rw[O];simp[Zw],W,F⟩
  rw[aj] at d;have ay:(Zw (a[i].2.2.map rowc))[j]?=some [rowc a[i].2.2[j]]:=by simp[Zw,B]
  have tr:=VH (sp:=aq) (f:=0) (m:=1) ((r'.row _ (Yh J)).elim (λP=>by rw[P.2] at B;simp at B) λP=>P.1) ay I;replace tr:Zs 1 ((Zb (Zw (a[i].2.2.map rowc)) aq).drop j)=some [rowc a[i].2.2[j]]:=by simpa[Zs] using tr
  unfold EN at t;have⟨b,o,t⟩:=t.bind;simp[d,B,ba,tr];have bj:=m'.lt l (Y8 ..);have bi:=Y4 R hS.1;rw[ao] at o;refine Z6.cu [0,1,2,8,9,10,11,12,3,4,5,6,7,13,14,15,16,21,17,18,19,20,22,23,24,25] (λG W=>Ek e G [(12,.one (rowc a[i].2.2[j])),(13,.b b),(34,.one (.mrow T 0 a[i].2.2.length U))] [0,2,3,5,9,10,35,36]/\Z0 h' W []) ?_ ?_;cases kd with|false=>?_|true=>?_;obtain rfl:=Zk o;simp[d];exact⟨λ_ _ x=>x,Ze.of ⟨by simp[d],.refl⟩⟩;cases hst:Z9 M.step.cons.u a[i].1 with|false=>?_|true=>?_;rw[hst] at o;obtain rfl:=Zk o;simp[d,m'.bx,hb',J,t0,hst];exact⟨λ_ _ x=>x,Ze.of ⟨by simp[d],.refl⟩⟩;rw[hst] at o;replace o:=Is.bind (m:=Dc M.step.cons a[i].2.2[j]) o;have⟨v,hv,o⟩:=o;obtain rfl:=Zk o;simp[d,m'.bx,hb',J,t0,hst];refine Zx ((Z06 M.step.cons a[i].2.2[j]).h v hv) (by simp[rowc]) ?_;simp[d];exact⟨λ_ _ x=>x,Ze.of ⟨by simp[d],Z0.refl.w⟩⟩;clear o;rintro e1 W ⟨hF,y⟩;have d:=hF.an d;have am:=(y.2 (h.p,80) (Y4 e5 u.1) I).trans bg;simp[d,am];intro bk;unfold KN at t;refine Z6.for (xs:=S.b) (s0:=b) (λq s2 G F=>Ek e1 G [(13,.b s2),(66,.l (S.b.map Fk.z)),(67,.i (S.b.length:Int)),(68,.i (q:Int))] [0,2,3,5,9,10,12,34,35,36]/\Z0 W F []) t ⟨by simp[d],.refl⟩ ?_ ?_;clear t;rintro q s2 e F ⟨hF,L⟩ hlq t;have d:=hF.an d;have a1:IntKind.i64.wrap ((q:Int)+1)=(q:Int)+1:=Y6 _ X;have⟨s3,n,t⟩:=t.bind;have Q:=(hS.trans y).trans L;have r3:=r.new Q;have bh:=(Q.2 lo R I).trans hb;have bf:=(L.2 (h.p,80) (Y4 (Y4 e5 u.1) y.1) I).trans am;have ap:=Y4 R Q.1;have bb:h.p<F.p:=Y4 (Y4 (Y4 e5 u.1) y.1) L.1;simp[d,hlq];obtain⟨Y,ag⟩:∃Y,Y=(F.xV (F.p,240) [C.d (D.str empty),C.nil,C.d (D.str empty)]).w.xV (F.p,240) (S.b[q].z.map C.d):=⟨_,rfl⟩
  have hA:Z0 F Y []:=by rw[ag];exact S2
  have ak:Y.a (F.p,240)=some (S.b[q].z.map C.d):=by rw[ag];simp
  have ar:=(hA.2 lo ap I).trans bh;have ax:=(hA.2 (h.p,80) bb I).trans bf;have r4:=r3.new hA;simp only[Fk.z,Yb,Yf] at ag ak
  try simp only[Fk.z,Yb,Yf]
  rw[<-ag];refine Z6.cu aY (λG h5=>Ek e G [(13,.b s3)] [0,2,3,5,9,10,12,34,35,36,66,67,68]/\Z0 Y h5 []) ?_ ?_;cases s2 with|true=>?_|false=>?_;obtain rfl:=Zk n;simp[d];exact⟨λ_ _ x=>x,Ze.of ⟨by simp[d],.refl⟩⟩;cases hst:Z9 S.b[q].u a[i].1 with|false=>?_|true=>?_;unfold IG at n;rw[hst] at n;obtain rfl:=Zk n;simp[d,ak,ax,ar,J,t0,hst];exact⟨λ_ _ x=>x,Ze.of ⟨by simp[d],.refl⟩⟩;unfold IG at n;rw[hst] at n;replace n:=Is.bind (m:=D9 S (Wj a) S.b[q] a[i].2.2[j]) n;have⟨v,hv,n⟩:=n;obtain rfl:=Zk n;simp[d,ak,ax,ar,J,t0,hst];refine Zc (Z5.qD ((Z01 S (Wj a) S.b[q] a[i].2.2[j]).h v hv) ⟨.agg (ZI.qK (ds:=S.z)),.one (.frz r4.frz),.agg (ZI.qK (ds:=S.b[q].z)),.one (.frz (.data rfl)),trivial⟩ (by simp[RV.flat,RV1.flat,RC.flat,D.flat]) ?_);simp[d];exact⟨λ_ _ x=>x,Ze.of ⟨by simp[d],Z0.refl.w⟩⟩;rintro e1 h5 ⟨hF,bd⟩;have d:=hF.an d;simp[d,a1];exact Zj.of s3 ⟨⟨by simp[d],(L.trans hA).trans bd⟩,t⟩;rintro s2 e F ⟨hF,L⟩ t;have d:=hF.an d;have au:MR F 1 E (Zw (s.map rowc)):=mc.frame λk z=>(y.trans L).2 k (N k z).2 I;have Q:=(u.trans y).trans L;have bc:=(y.trans L).1;simp[d];refine ZP t ?_ ?_<;>clear t<;>intro hb2 t;subst hb2;simp[d,rowc,C.toD];refine Wl (xs:=Zw (s.map rowc)) (ys:=[[rowc a[i].2.2[j]]]) PG kR dE dE (au.frame λk z=>rfl) (Zr.rowc rfl) (by simp[Zw];omega) λc2 h5 m5 al a7=>?_;simp[d,hw];refine Zj.of (s++[a[i].2.2[j]]) ⟨⟨c2,by simp[d,aj],by simpa[Zw] using m5,?_,?_,sO⟩,t⟩;exact(Q.trans Z0.refl.qC.w).trans' al λk z=>.inr (N k z).1;intro k z;have h8:=al.1;have P:=Q.1;simp at h8;rcases a7 k z with h7|h7
  have:=N k h7
  omega;simp at h7;omega;subst hb2;simp[d,hw];exact Zj.of s ⟨⟨E,by simp[d,aj],au,Q,λk z=>⟨(N k z).1,Y4 (N k z).2 bc⟩,X⟩,t⟩;rintro s e h' ⟨E,d,mc,u,N,a8⟩ t;obtain rfl:=Zk t;simp[d];exact z E h' mc (ah.trans u) λk z=>⟨YE ah.1 (N k z).1,(N k z).2⟩
structure VisJ(h h1:HS)(lb l:Z2)(co cn c:C)(M:Mp)(S:Sch)(gs:List GI)(h':HS):Prop where
 b5:h'.a (h.p,80)=some (S.z.map C.d)
 b9:h'.a lb=some [c]
 r:IR h1 h' c gs
 m:MpAt h l co cn M
 s:Z0 h h' []
 e:h.p<h1.p
 e9:lb.1<h'.p
 n9:lb∉Z c
 g9:∀g∈gs,lb∉Z g.2.1
def VisJ.step{h e f g i l b a c M S d}(v:VisJ h e i l b a c M S d f)(s:Z0 f g []):VisJ h e i l b a c M S d g:=
 ⟨by rw[s.2 _ (Y4 v.e v.r.same.1) I,v.b5],by rw[s.2 _ v.e9 I,v.b9],v.r.new s,v.m,v.s.trans s,v.e,Y4 v.e9 s.1,v.n9,v.g9⟩
def CQ(a:List J)(i:Int)(b:List aE):aB (List J×Bool):=
 Za a i λx=>Zp (∀row∈x.rows,(A1 row b).isSome=true) (some (a.set i.toNat ⟨x.u,x.rows.filter λx=>!WC b x⟩,decide ((x.rows.filter λx=>!WC b x).length<x.rows.length)))
def VisJ.rem{h s m o l A z c r M S a y}{i:Nat}{q}(v:VisJ h s o l A z c M S a m)(f:Is (CQ (Wj a) (i:Int) y) q)(K)
  (C:∀e:i<a.length,∀d,Z0 m d (Z a[i].2.1)->Frz d r (.sl (y.map (Z7 GV.z))))(u:∀gs' d,Wj gs'=q.1->VisJ h s o l A z c M S gs' d->K (.b q.2) d):
  Z5 prog 229 [.i (i:Int),.one r,.p o] m K:=by
 replace f:=Is.get f;obtain⟨x,-,n,f⟩:=f;have⟨j,f⟩:=f.chk;obtain rfl:=Zk f;simp at n;have e:i<a.length:=by
  have:=(Y0.1 n).1
  simpa[Wj] using this
 obtain rfl:(⟨a[i].1,a[i].2.2⟩:J)=x:=by
  have:(Wj a)[i]?=some ⟨a[i].1,a[i].2.2⟩:=by simp[Wj,e]
  rw[this] at n;exact Option.some.inj n
 refine Z7s s m o c r a y i v.b9 v.e9 v.n9 v.g9 v.r e (C e) j K λd c' F B w E=>?_;refine u _ d (by simp[Wj,YJ]) ⟨?_,B,F,v.m,?_,v.e,Y4 v.e9 w.1,v.n9,λg D=>?_⟩;refine(w.2 _ (Y4 v.e v.r.same.1) λt=>?_).trans v.b5;rcases Y3.1 t with h8|h8
 have:=(v.r.lc _ h8).1
 have:=v.e
 simp at*;omega
 have:=(v.r.lg _ (Yh e) _ h8).1
 have:=v.e
 simp at*;omega;refine v.s.trans' w λk u=>.inr ?_
 have:=v.e
 rcases Y3.1 u with h8|h8
 have:=(v.r.lc _ h8).1
 omega
 have:=(v.r.lg _ (Yh e) _ h8).1
 omega;rcases YZ D with t|rfl;exact v.g9 g t;rw[E];exact v.g9 _ (Yh e)
def KA(M:Mp)(S:Sch)(s:List J×Bool)(next:List J×Bool->aB (List J)):aB (List J):=
 bif s.2 then Zd (λi _ q a=>Za q.1 i λx=>Z1 (BM M S q.1 x.u x.rows) λb=>Z1 (CQ q.1 i b) λz=>a (z.1,bif z.2 then true else q.2)) next s.1 0 (s.1,false) else some s.1
def EM(M:Mp)(S:Sch)(a hid:List J):aB (List J):=
 Zp (a.length<=2097152/\∀r∈a,(VG r.rows).isSome=true)<|
 Zd (λi x s next=>Z1 (CQ s i x.rows) λq=>next q.1) (λs=>AB (KA M S) Fp (s,true)) hid 0 a
def Z7q(h l G F M S j hid Q)(d:Is (EM M S j hid) Q)(m:MpAt h l G F M)(K)
  (U:∀c u h' a,Wj a=Q->h.p<=u.p->IR u h' c a->Z0 h h' []->ZG h h'->K (.one c) h'):
  Z5 prog 218 [.p l,.agg (S.z.map C.d),.l (j.map J.z),.l (hid.map J.z)] h K:=by
 refine Z5.jE func218 rfl kR λhg=>?_;refine Z5.qM func218 rfl kR rfl rfl I ?_;have⟨⟨O,ak⟩,d⟩:=d.chk;have af:∀r∈j,Is (VG r.rows) r.rows:=λr hr=>by
  have:=ak r hr
  have⟨o,ho⟩:=Option.isSome_iff_exists.1 this;have A:=ho
  have:=Nn A
  rwa [this] at A
 have hl:=m.lt l (Y8 ..);simp;have hA:Z0 h (h.xV (h.p,80) (S.z.map C.d)).w []:=by exact sm
 obtain⟨u,N⟩:∃u,u=(h.xV (h.p,80) (S.z.map C.d)).w:=⟨_,rfl⟩;have b5:u.a (h.p,80)=some (S.z.map C.d):=by rw[N];simp
 have W:h.p<u.p:=by rw[N];simp
 rw[<-N] at hA
 try simp only[Sch.z,Yb,Yf] at N
 rw[<-N];refine Zc (Z0x _ j af O _ λc y a L t _=>?_);have al:=(L.same.2 _ W I).trans b5;simp;intro ar;obtain⟨Y,T⟩:∃Y,Y=(y.xV (y.p,144) [C.nil]).w.xV (y.p,144) [c]:=⟨_,rfl⟩;rw[<-T];have Z:=T▸S2;have v3:VisJ h u (y.p,144) l G F c M S a Y:=
  ⟨(Z.2 _ (Y4 W L.same.1) I).trans al,by rw[T];simp,L.new Z,m,(hA.trans L.same).trans Z,W,by rw[T];simp,λA=>by have:=(L.lc _ A).2;simp at this,λg hg A=>by have:=(L.lg g hg _ A).2.1;simp at this⟩
 refine Z6.for (λi s e h'=>∃a,En e 47 [(0,.p l),(5,.p (h.p,80)),(9,.p (y.p,144)),(10,.one (.fn 229 [.lab (y.p,144)])),(18,.l (hid.map J.z)),(19,.i hid.length),(20,.i i)]/\Wj a=s/\VisJ h u (y.p,144) l G F c M S a h') d ⟨a,I,t,v3⟩ ?_ ?_;rintro i s e h' ⟨a,f,rfl,v⟩ E d;have V:IntKind.i64.wrap ((i:Int)+1)=(i:Int)+1:=Y6 _ X;have⟨q,hq,d⟩:=d.bind;simp[f,E,J.z];refine Zc ?_;simp[Vf];have hS:=S2 (h:=h') (b:=192) (cs:=[C.d (D.str empty),C.nil]) (cs':=[C.d (D.str hid[i].u),C.d (D.sl (List.map (Z7 GV.z) hid[i].rows))]);refine(v.step hS).rem hq _ (λ_ _ _=>.data rfl) λR h4 ap v4=>?_;simp[f,V];refine Zj.of q.1 ⟨⟨R,by simp[f],ap,v4⟩,d⟩;rintro s e h' ⟨a,f,t,v⟩ d;simp[f];refine Z6.rU (λs B h'=>∃a,Ek e B [(13,.b s.2)] [0,5,9,10]/\Wj a=s.1/\VisJ h u (y.p,144) l G F c M S a h') d ⟨a,by simp[f],t,v⟩ ?_;clear d t v a;rintro n s e h' ⟨a,hF,t,v⟩ d;have f:=hF.an f;simp[f];unfold KA at d;refine ZP d ?_ ?_<;>clear d<;>intro hb d;simp[f,v.b9];refine MR.lenK v.r.mr ?_;have aj:a.length=s.1.length:=by rw[<-t];simp[Wj]
 have aq:s.1.length<=2097152:=by have:=v.r.mr.2.1;simp at this;omega
 simp[f,aj];refine Z6.for (λi q B h'=>∃a,Ek e B [(13,.b q.2),(33,.i s.1.length),(34,.i i)] [0,5,9,10]/\Wj a=q.1/\VisJ h u (y.p,144) l G F c M S a h') d ⟨a,by simp[f],t,v⟩ ?_ ?_;clear d t v aj a;rintro i q e h' ⟨a,hF,t,v⟩ E d;have f:=hF.an f;have V:IntKind.i64.wrap ((i:Int)+1)=(i:Int)+1:=Y6 _ X;replace d:=Is.get d;obtain⟨x,-,P,d⟩:=d;have⟨ws,ae,d⟩:=d.bind;have⟨z,hz,d⟩:=d.bind;simp at P;rw[<-t] at P ae hz;have hi:i<a.length:=by
  have:=(Y0.1 P).1
  simpa[Wj] using this
 obtain rfl:(⟨a[i].1,a[i].2.2⟩:J)=x:=by
  have:(Wj a)[i]?=some ⟨a[i].1,a[i].2.2⟩:=by simp[Wj,hi]
  rw[this] at P;exact Option.some.inj P
 simp[f,E,v.b5,v.b9]
 try simp[v.b5,Sch.z]
 refine Zc (Z2w u _ l G F c M S a i ws (v.m.frame v.s) v.r hi ae _ λcw h4 mw ao ah=>?_);have v4:=v.step ao;simp[f];refine Zc ?_;simp[Vf];refine v4.rem hz _ (λ_ h5 am=>Vg.frz (.inr (mw.frame λk U=>am.2 k (ah k U).2 λA=>?_))) λR h6 ag v6=>?_
 have:=(v.r.lg _ (Yh hi) k A).2.1
 have:=(ah k U).1
 omega;have⟨z1,z2⟩:=z;cases z2 with|true=>?_|false=>?_;simp[f,V];refine Zj.of (z1,true) ⟨⟨R,by simp[f],ag,v6⟩,d⟩;simp[f,V];refine Zj.of (z1,q.2) ⟨⟨R,by simp[f],ag,v6⟩,d⟩;rintro q e h' ⟨a,hF,t,v⟩ d;have f:=hF.an f;simp[f];refine Zj.of q ⟨⟨a,by simp[f],t,v⟩,d⟩;obtain rfl:=Zk d;simp[f,hb,v.b9];exact U c u h' a t X v.r v.s (v.s.jA hg)
def Inv.wV{Γ:Ctx}{h:HS}{μ:Mem}{w:World}(p:Inv Γ h μ w)(e:List Z2){d:Z2}{j f:aD}(q:h.a d=some j)(v:d∉e)(y:∀a,ZL μ j a->ZL (μ.frz h e w) f a):Inv Γ ((h.qP e).xV d f) (μ.frz h e w) w:=by
 have c:=p.frz e;have m:(h.qP e).a d=some j:=by simp only[HS.qP];rw[if_neg v];exact q
 have r:∀{l},((h.qP e).xV d f).live l->(h.qP e).live l:=by rintro l (g|g);by_cases he:l=d;subst he;exact .inl (by rw[m];simp);exact .inl (by simpa[he] using g);exact .inr g
 refine⟨c.cell,c.tmp,c.tcell,c.told,c.ext,c.old,c.below,λl x g=>?_,c.arr,λl z b n s i k=>c.inj l z b n s (r i) (r k),c.lt,λl i k=>?_⟩;by_cases he:l=d;subst he;simp at g;subst g;have⟨b,n,T,a,i,k,u,q4,D⟩:=c.a l j m;have⟨b',s,T',conc',A,p2,t,B,p5⟩:=p.a l j q;have o:μ.loc l=some (some b,n):=i;rw[A] at o;cases o;rw[u] at t;cases t;exact⟨b,n,T,a,i,k,u,y _ B,D⟩;exact c.a l x (by simpa[he] using g);refine c.both l ?_ k;by_cases he:l=d;subst he;rw[m];simp;simpa[he] using i
def Z5.jW{P:Program}{f:FuncId}{p:List V}{h:HS}{K:V->HS->Prop}(o:Z5 P f p h (λv d=>K v d\/∃(a:List Z2) (g:Z2) (j b:aD),d.a g=some j/\g∉a/\Aj (d.only a) j b/\Hh (d.only a) v v/\K v ((d.qP a).xV g b))):Z5 P f p h K:=by
 refine⟨o.1,λΓ μ w vals hI hR=>?_⟩;refine(o.2 Γ μ w vals hI hR).mono ?_;rintro en w' ⟨u,v,d,μ',rfl,k|⟨a,g,j,b,B,q,D,F,k⟩,e,n,l⟩;exact⟨u,v,_,_,rfl,k,e,n,l⟩;exact⟨u,v,_,_,rfl,k,e.wV a B q (λconc m=>by
  have⟨s,t⟩:=Aj.get D;refine⟨by rw[m.1,s],λi r E=>?_⟩;have⟨c,x,y⟩:=t i r E;have⟨G,z,A⟩:=m.2 i c x;exact⟨G,z,y.rep e a A⟩),F.rep e a n,l.trans Mem.jG⟩
def IR.rE{l h:HS}{c:C}{e:List GI}(r:IR l h c e):∀(b:List GI),(∀g∈b,g∈e)->∀a,Aj (h.only (e.flatMap λg=>Z g.2.1)) (Zb (b.map λg=>[C.d (.str g.1),g.2.1]) a) (Zb (b.map λg=>[C.d (.str g.1),.d (.sl (g.2.2.map (Z7 GV.z)))]) a)
 |[],_,a=>by
   show Aj _ (Zb [] a) (Zb [] a);simp only[Zb,Y3t,Yv]
   induction a with
   |nil=>trivial
   |cons c cs f=>exact⟨.refl,f⟩
 |g::b,j,a=>by
   have f:=IR.rE r b (λy o=>j y (Yc _ o)) a;have i:=j g (Y8 ..);refine⟨.refl,.inr ⟨_,rfl,Vg.frz ((r.row g i).imp id λm=>m.frame λk n=>?_)⟩,f⟩;simp only[HS.only];rw[if_pos (YH.2 ⟨g,i,n⟩)]
def IR.rel{q h:HS}{c:C}{e:List GI}(r:IR q h c e)(y:e≠[]):∃(j:List Z2) (a:Z2) (n f:aD),h.a a=some n/\a∉j/\Aj (h.only j) n f/\a∈Z c/\(∀k∈j,∃g∈e,k∈Z g.2.1)/\VZ ((h.qP j).xV a f) c (Wj e):=by
 obtain⟨a,l,o,rfl,t,i⟩:=r.mr.block (sU (Y3g.2 y));have v:a∉e.flatMap λg=>Z g.2.1:=λs=>by have⟨g,m,p⟩:=YH.1 s;exact(r.lg g m a p).2.2 (by simp[Z])
 have b:Zy 2 (e.map λg=>[C.d (.str g.1),.d (.sl (g.2.2.map (Z7 GV.z)))]):=λx w=>by obtain⟨g,_,rfl⟩:=Yi.1 w;rfl
 refine⟨_,a,_,_,t,v,r.rE e (λ_ m=>m) o,by simp[Z],λk u=>YH.1 u,_,⟨b,by have:=r.mr.2.1;simpa using this,.inr ⟨a,l,o,I,I,?_⟩⟩,?_⟩;rw[V2 b,Yd,<-i,V2 r.mr.1,Yd];simp[Wj,ZB,J.z,C.toD]
def OI(h:HS)(l:Z2)(u t:C)(M:Mp)(S:Sch)(a hid d:List J)(F:Is (EM M S a hid) d)(m:MpAt h l u t M)(K:V->HS->Prop)
  (b:∀c e,VZ e c d->Z0 h e []->(∀k∈Z c,h.p<=k.1/\k.1<e.p)->K (.one c) e):
  Z5 prog 218 [.p l,.agg (S.z.map C.d),.l (a.map J.z),.l (hid.map J.z)] h K:=by
 refine Z5.jW (Z7q h l u t M S a hid d F m _ λc h1 e z s B r o bl=>?_);by_cases hz:z=[]
 left
 subst hz;refine b c e ⟨[],sU r.mr,by rw[<-s];rfl⟩ o λk b=>⟨YE B (r.lc k b).1,(r.lc k b).2⟩
 right
 have⟨v,q,y,i,A,G,D,f,x,H⟩:=r.rel hz;have f:=r.lc q f;refine⟨v,q,y,i,A,G,D,.inl rfl,b _ _ (s▸H) ?_ λk b=>?_⟩;refine⟨by simpa[HS.qP] using o.1,λk b _=>?_⟩;have n:k≠q:=λn=>by have:=f.1;subst n;omega
 have j:k∉v:=λj=>by
  have⟨g,E,w⟩:=x k j
  have:=(r.lg g E k w).1
  omega
 simp[n];simp only[HS.qP];rw[if_neg j];exact o.2 k b I
 have:=r.lc k b
 exact⟨X,by simpa[HS.qP] using this.2⟩
def isRow:C->Bool
 | .nil=>true
 | .z=>true
 | .mrow _ _ _ _=>true
 |_=>false
def MR.isRow{h:HS}{n:Nat}{c:C}{a:List aD}(m:MR h n c a):Go.Am.isRow c=true:=by rcases m.2.2 with⟨-,rfl|rfl⟩|⟨l,cap,sp,rfl,-⟩<;>rfl
def Vg.mr{h:HS}{c:C}{a:List aE}(r:Vg h c a)(d:isRow c=true):MR h 1 c (Zw (a.map rowc)):=by rcases r with⟨b,rfl⟩|m;cases c<;>simp[isRow,C.toD] at d b;exact MR.nil;exact MR.z;exact m
structure MpI(h1 h:HS)(l:Z2)(co cn:C)(M:Mp)(gs:List GI):Prop where
 a:h.a l=some (WJ M co cn)
 out:VZ h co M.out
 ir:IR HS.init h cn gs
 gi:Wj gs=M.nc
 ng:∀g∈gs,(∀k∈Z g.2.1,h1.p<=k.1)/\isRow g.2.1=true
 e1:∀k∈l::(Z co++Z cn),k.1<h1.p
 s:Z0 h1 h (Z co++Z cn)
 nl:l∉Z co/\l∉Z cn/\∀k∈Z co,k∉Z cn
def MpI.of{h:HS}{l:Z2}{e d:C}{M:Mp}(m:MpAt h l e d M)(hN:MR h 2 d (M.nc.map Bd))(f:∀r∈M.nc,r.rows=[]):MpI h h l e d M (M.nc.map λr=>(r.u,.nil,[])):=by
 have b:∀g∈(M.nc.map λr=>((r.u,.nil,[]):GI)),g.2.1=.nil/\g.2.2=[]:=λg b=>by obtain⟨r,-,rfl⟩:=Yi.1 b;exact⟨rfl,rfl⟩
 refine⟨m.a,m.out,⟨by rwa [YY],λg a=>.inr (by rw[(b g a).1,(b g a).2];exact MR.nil),λk c=>⟨Y3y _,m.lt k (by simp[c])⟩,λg a k c=>by simp[(b g a).1,Z] at c,?_,⟨Y3y _,λk c=>absurd c (XB _)⟩⟩,?_,λg a=>by simp[(b g a).1,Z,isRow],m.lt,.refl,m.nl⟩;rw[show((M.nc.map λr=>((r.u,.nil,[]):GI)).flatMap λg=>Z g.2.1)=[] from XT.2 λg a=>by rw[(b g a).1];rfl];exact .nil;simp only[Wj,YY];exact(YN λr i=>by simp[<-f r i]).trans (Y3u _)
def MpI.frame{f h h':HS}{l:Z2}{c b:C}{M:Mp}{e:List GI}(m:MpI f h l c b M e)(a:Z0 h h' []):MpI f h' l c b M e:=
 have g:∀k∈l::(Z c++Z b),k.1<h.p:=λk d=>Y4 (m.e1 k d) m.s.1
 ⟨by rw[a.2 l (g l I) I];exact m.a,m.out.frame λk d=>a.2 k (g k (by simp[d])) I,m.ir.new a,m.gi,m.ng,m.e1,m.s.trans (a.mn),m.nl⟩
def MpI.put{t h n:HS}{l j:Z2}{q p:C}{M:Mp}{a:List GI}{f i:Nat}{y:aD}{e:List aE}(m:MpI t h l q (.mrow j 0 a.length f) M a)(r:i<a.length)(s:Z0 h n (j::Z a[i].2.1))
  (bo:n.a j=some (Zb ((a.map λg=>[.d (.str g.1),g.2.1]).set i [.d (.str a[i].1),p]) y))(o:(Zb (a.map λg=>[C.d (.str g.1),g.2.1]) y).length=f*2)(v:MR n 1 p (Zw (e.map rowc)))(u:∀k∈Z p,k∈Z a[i].2.1\/(h.p<=k.1/\k.1<n.p)):
  MpI t n l q (.mrow j 0 a.length f) {M with nc:=M.nc.set i ⟨a[i].1,e⟩} (a.set i (a[i].1,p,e)):=by
 have w:∀k∈l::(Z q++Z (.mrow j 0 a.length f)),k.1<h.p:=λk b=>Y4 (m.e1 k b) m.s.1;have x:∀k∈l::Z q,k∉j::Z a[i].2.1:=λk b c=>by rcases Y5.1 c with rfl|c;rcases Y5.1 b with rfl|b;exact m.nl.2.1 (by simp[Z]);exact m.nl.2.2 k b (by simp[Z]);have h3:=(m.ng _ (Yh r)).1 k c;have h4:=m.e1 k (by rcases Y5.1 b with rfl|b<;>simp[*]);omega
 refine⟨by rw[s.2 l (w l I) (x l I)];exact m.a,m.out.frame λk b=>s.2 k (w k (by simp[b])) (x k (by simp[b])),m.ir.put r s bo o (.inr v) u,by simp[Wj,YJ,<-m.gi],λg z=>?_,m.e1,m.s.trans' s λk b=>?_,m.nl⟩;rcases YZ z with c|rfl;exact m.ng g c;refine⟨λk b=>?_,v.isRow⟩;rcases u k b with c|c;exact(m.ng _ (Yh r)).1 k c;exact YE m.s.1 c.1;rcases Y5.1 b with rfl|c;exact .inl (by simp[Z]);exact .inr ((m.ng _ (Yh r)).1 k c)
def MpI.done{q h:HS}{l:Z2}{j i:C}{M:Mp}{t:List GI}{K:V->HS->Prop}(m:MpI q h l j i M t)(u:∀p,MpAt p l j i M->Z0 q p (Z j++Z i)->K (.tup []) p):
  K (.tup []) h\/∃(c:List Z2) (f:Z2) (n a:aD),h.a f=some n/\f∉c/\Aj (h.only c) n a/\Hh (h.only c) (.tup []) (.tup [])/\K (.tup []) ((h.qP c).xV f a):=by
 have v:∀k∈l::(Z j++Z i),k.1<h.p:=λk b=>Y4 (m.e1 k b) m.s.1;by_cases hz:t=[]
 left
 subst hz;exact u h ⟨m.a,m.out,⟨[],sU m.ir.mr,by rw[<-m.gi];rfl⟩,v,m.nl⟩ m.s
 right
 have⟨c,f,n,a,y,B,z,o,x,D⟩:=m.ir.rel hz;have e:∀k,k.1<q.p->k≠f->((h.qP c).xV f a).a k=h.a k:=λk b d=>by
  have r:k∉c:=λr=>by
   have⟨g,A,w⟩:=x k r
   have:=(m.ng g A).1 k w
   omega
  simp[d];simp only[HS.qP];rw[if_neg r]
 refine⟨c,f,n,a,y,B,z,trivial,u _ ⟨?_,?_,m.gi▸D,λk b=>by simpa[HS.qP] using v k b,m.nl⟩ ⟨by simpa[HS.qP] using m.s.1,λk b s=>?_⟩⟩;rw[e l (m.e1 l I) λd=>m.nl.2.1 (d▸o)];exact m.a;exact m.out.frame λk b=>e k (m.e1 k (by simp[b])) λd=>m.nl.2.2 k b (d▸o);rw[e k b λd=>s (by simp[d,o])];exact m.s.2 k b s
def JM(s1:List J)(s2:List J)(eq:J->J->aB Bool):aB Bool:=
 bif ((s1.length:Int) !=(s2.length:Int)) then some false else Zd (λ(i5:Nat) (x5:J) (s5:Unit) next_5=>Za s2 (i5:Int) λx7=>Z1 (eq x5 x7) λv9=>bif !v9 then some false else next_5 ()) (λ(s5:Unit)=>some true) s1 0 ()
instance Zfy(s1:List J)(s2:List J)(eq:J->J->aB Bool){g:FuncId}{caps:List aC}[ConG eq prog (λx=>.agg x.z) (λx=>.agg x.z) (λv=>.one (.d (.bool v))) g caps]:Con (JM s1 s2 eq) prog 118 [.one (.d (.sl (s1.map J.z))),.one (.d (.sl (s2.map J.z))),.one (.fn g caps)] (λr=>.one (.d (.bool r))):=by unfold JM;have l1:LH (σ:=Unit) 17 [1,2,15,16] []:=.intro;exact go 32 func118
def JY(s1:List aE)(s2:List aE)(eq:aE->aE->aB Bool):aB Bool:=
 bif ((s1.length:Int) !=(s2.length:Int)) then some false else Zd (λ(i5:Nat) (x5:aE) (s5:Unit) next_5=>Za s2 (i5:Int) λx6=>Z1 (eq x5 x6) λv7=>bif !v7 then some false else next_5 ()) (λ(s5:Unit)=>some true) s1 0 ()
instance Zgk(s1:List aE)(s2:List aE)(eq:aE->aE->aB Bool){g:FuncId}{caps:List aC}[ConG eq prog (λx=>.one (.d (.sl (x.map GV.z)))) (λx=>.one (.d (.sl (x.map GV.z)))) (λv=>.one (.d (.bool v))) g caps]:Con (JY s1 s2 eq) prog 142 [.one (.d (.sl (s1.map (Z7 GV.z)))),.one (.d (.sl (s2.map (Z7 GV.z)))),.one (.fn g caps)] (λr=>.one (.d (.bool r))):=by unfold JY;have l1:LH (σ:=Unit) 17 [1,2,15,16] []:=.intro;exact go 32 func142
def FX(x:aE)(y:aE):aB Bool:=
 Z1 (BY x y) λv1=>some v1
instance Z0o(x:aE)(y:aE):Con (FX x y) prog 143 [.one (.d (.sl (x.map GV.z))),.one (.d (.sl (y.map GV.z)))] (λr=>.one (.d (.bool r))):=by unfold FX;exact go 8 func143
instance Zhi  :ConG (λx y=>FX x y) prog (λx=>.one (.d (.sl (x.map GV.z)))) (λx=>.one (.d (.sl (x.map GV.z)))) (λr=>.one (.d (.bool r))) 143 []:=⟨λx y=>(Z0o x y)⟩
def G3(a:List aE)(b:List aE):aB Bool:=
 Z1 (JY a b (λxa_ xb_=>FX xa_ xb_)) λv1=>some v1
instance Zhy(a:List aE)(b:List aE):Con (G3 a b) prog 120 [.one (.d (.sl (a.map (Z7 GV.z)))),.one (.d (.sl (b.map (Z7 GV.z))))] (λr=>.one (.d (.bool r))):=by unfold G3;exact go 8 func120
def Em(x:J)(y:J):aB Bool:=
 bif Z9 x.u y.u then Z1 (G3 x.rows y.rows) λv4=>(some v4) else some false
instance Z0p(x:J)(y:J):Con (Em x y) prog 119 [.agg x.z,.agg y.z] (λr=>.one (.d (.bool r))):=by unfold Em;exact go 17 func119
instance Zhj  :ConG (λx y=>Em x y) prog (λx=>.agg x.z) (λx=>.agg x.z) (λr=>.one (.d (.bool r))) 119 []:=⟨λx y=>(Z0p x y)⟩
def C3(a:List J)(b:List J):aB Bool:=
 Z1 (JM a b (λxa_ xb_=>Em xa_ xb_)) λv1=>some v1
instance NB(a:List J)(b:List J):Con (C3 a b) prog 101 [.one (.d (.sl (a.map J.z))),.one (.d (.sl (b.map J.z)))] (λr=>.one (.d (.bool r))):=by unfold C3;exact go 8 func101
instance Zhw  :ConG (λx y=>C3 x y) prog (λx=>.one (.d (.sl (x.map J.z)))) (λx=>.one (.d (.sl (x.map J.z)))) (λr=>.one (.d (.bool r))) 101 []:=⟨λx y=>(NB x y)⟩
def MpI.app{G C}{B d i:Nat}{D h p l z v x M a row K}(m:MpI D h l z v M a)(y)(T:Z0 h p [])
  (O:ZC prog G=some (C,1,B))(V:(W3 prog C).isSome=true)(J:B<=4096)(U:Zr p 1 x [[rowc row]])(t:a[i].2.2.length+1<=2097152)
  (e:∀j c f o u,v=.mrow f 0 a.length o->c.a l=some (WJ M z v)->c.a f=some (Zb (a.map λg=>[.s g.1,g.2.1]) u)->
   MpI D (c.xV f (Zb ((a.map λg=>[.s g.1,g.2.1]).set i [.s a[i].1,j]) u)) l z v {M with nc:=M.nc.set i ⟨a[i].1,a[i].2.2++[row]⟩} (a.set i (a[i].1,j,a[i].2.2++[row]))->Z0 p c (Z a[i].2.1)->(∀k∈Z j,k∈Z a[i].2.1\/p.p<=k.1)->K (.one j) c):
  Ud prog G a[i].2.1 x d p (K:=⟨K⟩):=by
 have n:=m.frame T;have⟨f,o,u,E,S,r⟩:=n.ir.mr.block sO;rw[Yd] at E;subst E;have A:=m.ng _ (Yh y);have Q:=n.ir.lg _ (Yh y);have N:=n.ir.lc f (by simp[Z]);have W:=λk e=>Y4 (n.e1 k e) n.s.1;have Y:l∉Z a[i].2.1:=λb=>by
  have:=A.1 l b
  have:=m.e1 l I
  omega
 have no:=λb=>(Q f b).2.2 (by simp[Z]);refine J2 O V dE J (Vg.mr (n.ir.row _ (Yh y)) A.2) U (by simpa[Zw] using t) λj c X F=>?_;have w:Z0 p c (Z a[i].2.1):=by rcases F with⟨b,-⟩|⟨b,-⟩;exact b;exact b.mn
 have q:∀k∈Z j,k∈Z a[i].2.1\/(p.p<=k.1/\k.1<c.p):=λk e=>by rcases F with⟨-,b⟩|⟨-,b⟩;exact .inl (b▸e);exact .inr (b k e)
 have P:∀k∈Z j,k≠f:=λk L b=>by subst b;rcases q _ L with h8|h8;exact no h8;omega
 have R:c.a f=some (Zb (a.map λg=>[.s g.1,g.2.1]) u):=by rw[w.2 f N.2 no,S]
 refine e j c f o u rfl (by rw[w.2 l (W l I) Y,n.a]) R (n.put y ((w.mono (by simp+contextual)).xV (.inl I)) I r ?_ q) w λk e=>(q k e).imp id (·.1);rw[show Zw ((a[i].2.2++[row]).map rowc)=Zw (a[i].2.2.map rowc)++[[rowc row]] by simp[Zw]];exact X.frame λk e=>by simp[P k e]
def B8{h:HS}{l b a M}(c:h.a l=some (WJ M b a)):h.a l=some (M.z.map C.d++[b,a,.i M.err]):=c
def VZ.at_{h c j}{i:Nat}{o}(r:VZ h c j)(u:j[i]?=some o):∃g b f a d,c=.mrow g 0 a.length b/\a.length=j.length/\MR h 2 c a/\h.a g=some (Zb a f)/\a[i]?=some [.s o.u,d]/\Zs 1 ((Zb a f).drop (i*2+1))=some [d]/\d.toD=some (.sl (o.rows.map (Z7 GV.z)))/\i<a.length/\(Zb a f).length=b*2/\a.map ZB=j.map λr=>some r.z:=by have⟨a,m,t,v,w⟩:=r.len;have⟨d,k,n⟩:=w i o u;have l:=(Y0.1 k).1;have⟨g,b,f,q,p,e⟩:=m.block X;exact⟨g,b,f,a,d,q,v,m,p,k,by rw[VH m.1 k I];rfl,n,l,e,t⟩
def KS(T:E)(d:List J)(i:Nat){ρ:Type}(_:Nat)(a:aE)(N:List J)(e:List J->aB ρ):aB ρ:=
 Za d i λo=>Z1 (VU T a) λb=>Z1 (A7 T o.rows b) λq=>bif !q.2 then
 Za N i λc=>Zp (c.rows.length+1<=2097152) (e (N.set i ⟨c.u,c.rows++[a]⟩)) else e N
def EF(M:Mp):aB Mp:=
 Z1 (EM M M.dst M.inp M.comp) λa=>
 Zd (λi t N next=>Za M.inp i λx=>Zd (KS t a i) next x.rows 0 N) (λN=>some {M with out:=a,nc:=N}) M.src.q 0 M.nc
def Ij(h0:HS)(l:Z2)(co P:C)(M M1:Mp)(n:Is (EF M) M1)(m:MpAt h0 l co P M)(hN:MR h0 2 P (M.nc.map Bd))(he:∀r∈M.nc,r.rows=[])(K)
  (hK:∀h' co' bm,MpAt h' l co' bm M1->Z0 h0 h' (l::(Z co++Z P))->K (.tup []) h'):Z5 prog 183 [.p l] h0 K:=by
 refine Z5.jW ?_;refine Z5.qM func183 rfl kR rfl rfl I ?_;have⟨u,ho,n⟩:=n.bind;simp;refine Z6.cu aP (λe h=>∃c,En e 88 [(0,.p l)]/\MpAt h l c P {M with out:=u}/\MR h 2 P (M.nc.map Bd)/\Z0 h0 h (l::(Z co++Z P))/\∀k∈Z c,h0.p<=k.1) ?_ ?_;simp[m.bx];refine Zc (Z5.jE func218 rfl kR λA=>OI _ l co P M M.dst M.inp M.comp u ho m _ λc U r y ak=>?_);simp[(m.frame y).bx];refine⟨y.jA A,?_⟩;have hn:=m.wW y r ak;refine Ze.of ⟨c,I,hn.1,?_,hn.2.mono (by simp+contextual),λk V=>(ak k V).1⟩;refine(hN.frame λk V=>y.2 k (m.lt k (by simp[V])) I).frame λk V=>?_
 have:k≠l:=λv=>m.nl.2.1 (v▸V)
 simp[this];rintro e h1 ⟨c,d,m1,bi,bk,ak⟩;simp[d,m1.bx];intro bv;refine Z6.for (λi N e h'=>∃a,En e 88 [(0,.p l),(29,.l (M.src.q.map E.z)),(30,.i M.src.q.length),(31,.i i)]/\MpI h1 h' l c P {M with out:=u,nc:=N} a) n ⟨_,by simp[d],MpI.of m1 bi he⟩ ?_ ?_
 .clear n;rintro i N e h' ⟨a,d,t⟩ hlt n;have hw:IntKind.i64.wrap ((i:Int)+1)=(i:Int)+1:=Y6 _ X;obtain⟨x,-,hx,n⟩:=Is.get n;simp at hx;have ba:=(Y0.1 hx).1;have bc:=(Y0.1 hx).2;have bp:=Y4 (t.e1 l I) t.s.1;have bn:=t.s.1;have R:=B8 t.a;simp only[Mp.z,Stp.z,Yb,Yf,Yt,Yv] at R;simp[d,hlt,R,Zv bp,E.z,ba,bc,J.z];intro hxl;obtain⟨U,af⟩:∃U,U=(h'.xV (h'.p,48) [C.d (D.str empty),C.nil,C.nil]).w.xV (h'.p,48) [C.d (D.str M.src.q[i].y),C.d (D.sl (List.map Col.z M.src.q[i].j)),C.d (D.sl (List.map Zg M.src.q[i].pk))]:=⟨_,rfl⟩;rw[<-af];have hS:=af▸S2;have b2:U.a (h'.p,48)=some [C.d (D.str M.src.q[i].y),C.d (D.sl (List.map Col.z M.src.q[i].j)),C.d (D.sl (List.map Zg M.src.q[i].pk))]:=by rw[af];simp
  have e2:h'.p<U.p:=by rw[af];simp
  clear af;refine Z6.for (λj N e h3=>∃a,En e 88 [(0,.p l),(2,.i i),(3,.p (h'.p,48)),(29,.l (M.src.q.map E.z)),(30,.i M.src.q.length),(31,.i i),(43,.l (x.rows.map (Z7 GV.z))),(44,.i x.rows.length),(45,.i j)]/\MpI h1 h3 l c P {M with out:=u,nc:=N} a/\h3.a (h'.p,48)=some [C.d (D.str M.src.q[i].y),C.d (D.sl (List.map Col.z M.src.q[i].j)),C.d (D.sl (List.map Zg M.src.q[i].pk))]/\h'.p<h3.p/\∀g∈a,(h'.p,48)∉Z g.2.1) n ⟨a,by simp[d],t.frame hS,b2,e2,λg A v=>by have:=(t.ir.lg g A _ v).2.1;simp at this⟩ ?_ ?_
  .clear n d;rintro j N e h3 ⟨a,d,t,b3,e3,n3⟩ hj n;have au:IntKind.i64.wrap ((j:Int)+1)=(j:Int)+1:=Y6 _ X;unfold KS at n;obtain⟨o,-,a7,n⟩:=Is.get n;have⟨B,ax,n⟩:=n.bind;have⟨q,hq,n⟩:=n.bind;simp at a7;obtain⟨lo,cap,sp,xs,c9,bh,-,mr,bf,b1,t1,bj,a1,hcap,-⟩:=t.out.at_ a7;subst bh;have b0:=Y4 (t.e1 l I) t.s.1;have bt:=Y4 (t.e1 lo (by simp[Z])) t.s.1;have R:=B8 t.a;simp only[Mp.z,Stp.z,Yb,Yf,Yt,Yv] at R;simp[d,hj];refine Z6.cu aP (λe z=>En e 88 [(0,.p l),(2,.i i),(3,.p (h'.p,48)),(5,.l (x.rows[j].map GV.z)),(7,.b q.2),(29,.l (M.src.q.map E.z)),(30,.i M.src.q.length),(31,.i i),(43,.l (x.rows.map (Z7 GV.z))),(44,.i x.rows.length),(45,.i j)]/\Z0 h3 z []) ?_ ?_;simp[d,R,b3,bf,t1,a1];refine Zx ((Aa M.src.q[i] x.rows[j]).h B ax) I ?_;simp[d];refine⟨λ_ _ x=>x,?_⟩;refine Zx ((Ey M.src.q[i] o.rows B).h q hq) (by simp[GK bj]) ?_;simp[d];refine⟨λ_ _ x=>x,Ze.of ⟨by simp[d],?_⟩⟩;exact sm;rintro e z ⟨d,al⟩;have F:=t.frame al;have b4:=(al.2 _ e3 I).trans b3;have e4:=Y4 e3 al.1;simp[d];refine ZP n ?_ ?_<;>clear n<;>intro hf n
   .obtain⟨g,-,A,n⟩:=Is.get n;have⟨ay,n⟩:=n.chk;simp at A;have bb:Wj a=N:=F.gi;rw[<-bb] at A;have L:i<a.length:=by
     have:=(Y0.1 A).1
     simpa[Wj] using this
    obtain rfl:(⟨a[i].1,a[i].2.2⟩:J)=g:=by
     have:(Wj a)[i]?=some ⟨a[i].1,a[i].2.2⟩:=by simp[Wj,L]
     rw[this] at A;exact Option.some.inj A
    have R:=B8 F.a;simp only[Mp.z,Stp.z,Yb,Yf,Yt,Yv] at R;have⟨ln,a8,aw,ar,bq,bg⟩:=F.ir.mr.block sO;rw[Yd] at ar;subst ar;have hxn:(a.map λg=>[C.d (.str g.1),g.2.1])[i]?=some [.s a[i].1,a[i].2.1]:=by simp[L]
    have tn:=VH (sp:=aw) (f:=1) (m:=1) F.ir.mr.1 hxn I;replace tn:Zs 1 ((Zb (a.map λg=>[C.d (.str g.1),g.2.1]) aw).drop (i*2+1))=some [a[i].2.1]:=by rw[tn];rfl
    have B:∀(Q T:HS) (O:C) (G:aD),Z0 z Q []->Z0 Q T (Z a[i].2.1)->(∀k∈Z O,k∈Z a[i].2.1\/Q.p<=k.1)->i*2+1+1<=(Zb (a.map λg=>[C.d (.str g.1),g.2.1]) G).length/\Zi (Zb (a.map λg=>[C.d (.str g.1),g.2.1]) G) (i*2+1) [O]=Zb ((a.map λg=>[C.d (.str g.1),g.2.1]).set i [.s a[i].1,O]) G/\
      (∀cs,(T.xV ln cs).a (h'.p,48)=some [C.d (D.str M.src.q[i].y),C.d (D.sl (List.map Col.z M.src.q[i].j)),C.d (D.sl (List.map Zg M.src.q[i].pk))])/\(∀cs,h'.p<(T.xV ln cs).p)/\∀g∈a.set i (a[i].1,O,a[i].2.2++[x.rows[j]]),(h'.p,48)∉Z g.2.1:=λQ T O G S W ag=>by
     have bz:=Ah (sp:=G) F.ir.mr.1 (sU L);have hne:((h'.p,48):Z2)≠ln:=λv=>by
      have:=F.e1 ln (by simp[Z])
      have:=t.s.1
      have:=bn
      rw[<-v] at*;simp at*;omega
     have az:=n3 _ (Yh L);have bu:=S.1;have bw:=W.1;refine⟨X,BK F.ir.mr.1 hxn I,λcs=>?_,λcs=>?_,λg A v=>?_⟩;simp only[HS.xV,if_neg hne];exact(W.2 _ sO az).trans ((S.2 _ e4 I).trans b4);simp;omega;rcases YZ A with h8|rfl;exact n3 g h8 v;rcases ag _ v with h8|h8;exact az h8;simp at h8;omega
    simp[d,hf];refine Z6.jS (λk=>k !=16) (Y.qB [0,1,2,4,5,6,7,8,9,10,11,12,13] (.two 3 14 (Y.qB [14,15,16,17,18,19] .done) (.two 3 15 (Y.qB [15,16,17,18,19] .done) (.two 3 16 (Y.qB [16,17,18,19] .done) (Y.qB [3,17,18,19] .done))))) follows kR (λe Q=>∃aj,En e 88 [(0,.p l),(2,.i i),(3,.p (h'.p,48)),(29,.l (M.src.q.map E.z)),(30,.i M.src.q.length),(31,.i i),(43,.l (x.rows.map (Z7 GV.z))),(44,.i x.rows.length),(45,.i j)]/\MpI h1 Q l (.mrow lo 0 xs.length cap) (.mrow ln 0 a.length a8) {M with out:=u,nc:=N.set i ⟨a[i].1,a[i].2.2++[x.rows[j]]⟩} aj/\Q.a (h'.p,48)=some [C.d (D.str M.src.q[i].y),C.d (D.sl (List.map Col.z M.src.q[i].j)),C.d (D.sl (List.map Zg M.src.q[i].pk))]/\h'.p<Q.p/\∀g∈aj,(h'.p,48)∉Z g.2.1) ?_ ?_
    .simp[V8,d,R,bq,tn,L];refine⟨?_,?_⟩
     all_goals
      refine Zx ((Nm x.rows[j]).h x.rows[j] rfl) I ?_;simp[d,R]
     refine⟨λ_ _ x=>x,?_⟩;have S:Z0 z ((z.qC (z.p,1297) (some (x.rows[j].length,3))).w.qC (z.p+1,1312) (some (1,1))).w []:=Z0.refl.qC.w.qC.w;refine F.app L S PG kR dE (Zr.qU rfl) ay λO T br cap2 G am ao aq ap W ag=>?_;cases am;have⟨k1,k2,k3,k4,k5⟩:=B _ T O G S W ag;have ah:=B8 ao;simp only[Mp.z,Stp.z,Yb,Yf,Yt,Yv] at ah;simp[d,aq,L];refine⟨k1,?_⟩;rw[k2];exact Ze.of ⟨_,by simp[d],ap,k3 _,k4 _,k5⟩;refine⟨λ_ _ x=>x,?_,?_,?_⟩
     all_goals
      have S:Z0 z ((z.qC (z.p,1297) (some (x.rows[j].length,3))).w.qC (z.p+1,1312) (some (1,1))).w []:=Z0.refl.qC.w.qC.w;refine F.app L S PG kR dE (Zr.qU rfl) ay λO T br cap2 G am ao aq ap W ag=>?_;cases am;have⟨k1,k2,k3,k4,k5⟩:=B _ T O G S W ag;have ah:=B8 ao;simp only[Mp.z,Stp.z,Yb,Yf,Yt,Yv] at ah;simp[d,ah,aq,L];refine⟨k1,?_⟩;rw[k2];exact Ze.of ⟨_,by simp[d],ap,k3 _,k4 _,k5⟩
    rintro e Q ⟨aj,d,bd,b5,e5,n5⟩;simp[d,au];exact Zj.of (N.set i ⟨a[i].1,a[i].2.2++[x.rows[j]]⟩) ⟨⟨aj,by simp[d],bd,b5,e5,n5⟩,n⟩
   simp[d,hf,au];exact Zj.of N ⟨⟨a,by simp[d],F,b4,e4,n3⟩,n⟩
  clear n d;rintro N e h3 ⟨a,d,t,_,_,_⟩ n;simp[d,hw];exact Zj.of N ⟨⟨a,by simp[d],t⟩,n⟩
 clear n;rintro N e h' ⟨a,d,t⟩ n;obtain rfl:=Zk n;have v:=t.done λU m2 y=>hK U _ _ m2 (bk.trans' y λk V=>by rcases Y3.1 V with v|v;exact .inr (ak k v);exact .inl (by simp[v]))
 simpa[d] using v
def MpI.xT{x h l b t B u M w c v}{f i:Nat}{o:J}{e}(m:MpI x h l (.mrow b 0 c.length f) t M w)(n:Zy 2 c)(q:c.length<=Zz)(p:(Zb c v).length=f*2)
  (E:c[i]?=some [.d (.str o.u),B])(D:u.toD=some (.sl (e.map (Z7 GV.z))))(C:c.map ZB=M.out.map λr=>some r.z):
  MpI x (h.xV b (Zi (Zb c v) (i*2+1) [u])) l (.mrow b 0 c.length f) t {M with out:=M.out.set i ⟨o.u,e⟩} w:=by
 have hl:=m.e1 b (by simp[Z]);have z:l≠b:=λj=>m.nl.1 (by simp[Z,j]);have s:∀k,k≠b->(h.xV b (Zi (Zb c v) (i*2+1) [u])).a k=h.a k:=λk a=>by simp[a]
 have A:∀k∈Z t,k≠b:=λk a j=>m.nl.2.2 b (by simp[Z]) (j▸a);refine⟨by rw[s l z];exact m.a,IW n rfl q p E D C _,⟨m.ir.mr.frame λk a=>s k (A k a),λg y=>Vg.frame (m.ir.row g y) λk a=>s k λj=>?_,m.ir.lc,m.ir.lg,m.ir.dis,⟨Y3y _,λk a=>absurd a (XB _)⟩⟩,m.gi,m.ng,m.e1,m.s.xV (.inl (by simp[Z])),m.nl⟩
 have:=(m.ng g y).1 k a
 subst j;omega
def KO(T:E)(b:List J)(i:Nat){ρ:Type}(_:Nat)(a:aE)(s:List J×List J)(e:List J×List J->aB ρ):aB ρ:=
 Za b i λo=>Z1 (VU T a) λd=>Z1 (A7 T o.rows d) λq=>bif !q.2 then
 Za s.2 i λc=>Zp (c.rows.length+1<=2097152) (Za s.1 i λu=>Z1 (A5 T u.rows a) λf=>e (s.1.set i ⟨u.u,f⟩,s.2.set i ⟨c.u,c.rows++[a]⟩)) else e s
def EE(M:Mp):aB Mp:=
 Z1 (As M.src) λz=>Z1 (EM M M.src M.inp z) λv=>Z1 (C3 v M.inp) λq=>bif !q then some {M with err:=12} else
 Zd (λi t s next=>Za M.comp i λx=>Zd (KO t M.inp i) next x.rows 0 s) (λs=>some {M with out:=s.1,nc:=s.2}) M.src.q 0 (M.out,M.nc)
def Ii(V l co cn M M1)(a:Is (EE M) M1)(m:MpAt V l co cn M)(hN:MR V 2 cn (M.nc.map Bd))(he:∀r∈M.nc,r.rows=[])(K)
  (hK:∀h' co' bq,MpAt h' l co' bq M1->Z0 V h' (l::(Z co++Z cn))->K (.tup []) h'):Z5 prog 184 [.p l] V K:=by
 refine Z5.jW ?_;refine Z5.qM func184 rfl kR rfl rfl I ?_;have⟨z,hz,a⟩:=a.bind;have⟨v,hv,a⟩:=a.bind;have⟨q,hq,a⟩:=a.bind;simp;refine Z6.cu [0,1,2,3,4,5,6,7,8,9,10,11,12,15,16,17,18,13,14,19,20] (λe h=>En e 113 [(0,.p l),(28,.b (!q))]/\Z0 V h []) ?_ ?_;simp[m.bx];refine Zx (Ke M.src z hz) I ?_;simp;refine⟨λ_ _ x=>x,?_⟩;have hA:Z0 V V.w []:=.w .refl;refine Zc (Z5.jE func218 rfl kR λG=>OI _ l co cn M M.src M.inp z v hv (m.frame hA) _ λc W r T _=>?_);simp;refine⟨T.jA G,?_⟩;refine Zc (Z5.qD ((NB v M.inp).h q hq) ⟨.one (.frz r.frz),.one (.frz (.data rfl)),trivial⟩ (by simp[RV.flat,RV1.flat,RC.flat,D.flat]) ?_);simp;refine⟨λ_ _ x=>x,Ze.of ⟨I,(hA.trans T).w⟩⟩;rintro e h1 ⟨t,ao⟩;have m1:=m.frame ao;have bm:=hN.frame λk hk=>ao.2 k (m.lt k (by simp[hk])) I;simp[t];refine ZP a ?_ ?_<;>clear a<;>intro b1 a;obtain rfl:=Zk a;simp[t,m1.bx];exact .inl (hK _ _ _ (m1.rO 12) ((ao.mn).xV (.inl I)));simp[t,m1.bx];intro b8;refine Z6.for (λi s e h'=>∃n,En e 113 [(0,.p l),(36,.l (M.src.q.map E.z)),(37,.i M.src.q.length),(38,.i i)]/\MpI h1 h' l co cn {M with out:=s.1,nc:=s.2} n) a ⟨_,by simp[t],MpI.of m1 bm he⟩ ?_ ?_
 .clear a;rintro i s e h' ⟨n,t,y⟩ hlt a;have hw:IntKind.i64.wrap ((i:Int)+1)=(i:Int)+1:=Y6 _ X;obtain⟨x,-,hx,a⟩:=Is.get a;simp at hx;have bf:=(Y0.1 hx).1;have bh:=(Y0.1 hx).2;have bt:=Y4 (y.e1 l I) y.s.1;have bc:=y.s.1;have B:=B8 y.a;simp only[Mp.z,Stp.z,Yb,Yf,Yt,Yv] at B;simp[t,hlt,B,Zv bt,E.z,bf,bh,J.z];intro hxl;obtain⟨W,ah⟩:∃W,W=(h'.xV (h'.p,48) [C.d (D.str empty),C.nil,C.nil]).w.xV (h'.p,48) [C.d (D.str M.src.q[i].y),C.d (D.sl (List.map Col.z M.src.q[i].j)),C.d (D.sl (List.map Zg M.src.q[i].pk))]:=⟨_,rfl⟩;rw[<-ah];have hS:=ah▸S2;have b2:W.a (h'.p,48)=some [C.d (D.str M.src.q[i].y),C.d (D.sl (List.map Col.z M.src.q[i].j)),C.d (D.sl (List.map Zg M.src.q[i].pk))]:=by rw[ah];simp
  have e2:h'.p<W.p:=by rw[ah];simp
  clear ah;refine Z6.for (λj s e h3=>∃n,En e 113 [(0,.p l),(2,.i i),(3,.p (h'.p,48)),(36,.l (M.src.q.map E.z)),(37,.i M.src.q.length),(38,.i i),(50,.l (x.rows.map (Z7 GV.z))),(51,.i x.rows.length),(52,.i j)]/\MpI h1 h3 l co cn {M with out:=s.1,nc:=s.2} n/\h3.a (h'.p,48)=some [C.d (D.str M.src.q[i].y),C.d (D.sl (List.map Col.z M.src.q[i].j)),C.d (D.sl (List.map Zg M.src.q[i].pk))]/\h'.p<h3.p/\∀g∈n,(h'.p,48)∉Z g.2.1) a ⟨n,by simp[t],y.frame hS,b2,e2,λg G O=>by have:=(y.ir.lg g G _ O).2.1;simp at this⟩ ?_ ?_
  .clear a t;rintro j s e h3 ⟨n,t,y,b3,e3,n3⟩ hj a;have a1:IntKind.i64.wrap ((j:Int)+1)=(j:Int)+1:=Y6 _ X;unfold KO at a;obtain⟨o,-,ax,a⟩:=Is.get a;have⟨L,a8,a⟩:=a.bind;have⟨q,hq,a⟩:=a.bind;simp at ax;have bw:=(Y0.1 ax).1;have bu:=(Y0.1 ax).2;have ca:=Y4 (y.e1 l I) y.s.1;have B:=B8 y.a;simp only[Mp.z,Stp.z,Yb,Yf,Yt,Yv] at B;simp[t,hj];refine Z6.cu aP (λe F=>En e 113 [(0,.p l),(2,.i i),(3,.p (h'.p,48)),(5,.l (x.rows[j].map GV.z)),(7,.b q.2),(36,.l (M.src.q.map E.z)),(37,.i M.src.q.length),(38,.i i),(50,.l (x.rows.map (Z7 GV.z))),(51,.i x.rows.length),(52,.i j)]/\Z0 h3 F []) ?_ ?_;simp[t,B,b3,bw,bu,J.z];refine Zx ((Aa M.src.q[i] x.rows[j]).h L a8) I ?_;simp[t];refine⟨λ_ _ x=>x,?_⟩;refine Zx ((Ey M.src.q[i] o.rows L).h q hq) I ?_;simp[t];refine⟨λ_ _ x=>x,Ze.of ⟨by simp[t],?_⟩⟩;exact sm;rintro e F ⟨t,aq⟩;have N:=y.frame aq;have b4:=(aq.2 _ e3 I).trans b3;have e4:=Y4 e3 aq.1;simp[t];refine ZP a ?_ ?_<;>clear a<;>intro hf a
   .obtain⟨g,-,G,a⟩:=Is.get a;have⟨ba,a⟩:=a.chk;obtain⟨u,-,hu,a⟩:=Is.get a;have⟨rs,bi,a⟩:=a.bind;simp at G hu;have bg:Wj n=s.2:=N.gi;rw[<-bg] at G;have Q:i<n.length:=by
     have:=(Y0.1 G).1
     simpa[Wj] using this
    obtain rfl:(⟨n[i].1,n[i].2.2⟩:J)=g:=by
     have:(Wj n)[i]?=some ⟨n[i].1,n[i].2.2⟩:=by simp[Wj,Q]
     rw[this] at G;exact Option.some.inj G
    have B:=B8 N.a;simp only[Mp.z,Stp.z,Yb,Yf,Yt,Yv] at B;have⟨ln,ap,a7,ay,bv,bj⟩:=N.ir.mr.block sO;rw[Yd] at ay;subst ay;have hxn:(n.map λg=>[C.d (.str g.1),g.2.1])[i]?=some [.d (.str n[i].1),n[i].2.1]:=by simp[Q]
    have tn:=VH (sp:=a7) (f:=1) (m:=1) N.ir.mr.1 hxn I;replace tn:Zs 1 ((Zb (n.map λg=>[C.d (.str g.1),g.2.1]) a7).drop (i*2+1))=some [n[i].2.1]:=by rw[tn];rfl
    have L:∀(S A:HS) (R:C) (P:aD),Z0 F S []->Z0 S A (Z n[i].2.1)->(∀k∈Z R,k∈Z n[i].2.1\/S.p<=k.1)->i*2+1+1<=(Zb (n.map λg=>[C.d (.str g.1),g.2.1]) P).length/\Zi (Zb (n.map λg=>[C.d (.str g.1),g.2.1]) P) (i*2+1) [R]=Zb ((n.map λg=>[C.d (.str g.1),g.2.1]).set i [.d (.str n[i].1),R]) P/\
      (∀cs,(A.xV ln cs).a (h'.p,48)=some [C.d (D.str M.src.q[i].y),C.d (D.sl (List.map Col.z M.src.q[i].j)),C.d (D.sl (List.map Zg M.src.q[i].pk))])/\(∀cs,h'.p<(A.xV ln cs).p)/\∀g∈n.set i (n[i].1,R,n[i].2.2++[x.rows[j]]),(h'.p,48)∉Z g.2.1:=λS A R P U af aj=>by
     have bn:=Ah (sp:=P) N.ir.mr.1 (sU Q);have hne:((h'.p,48):Z2)≠ln:=λO=>by
      have:=N.e1 ln (by simp[Z])
      have:=y.s.1
      have:=bc
      rw[<-O] at*;simp at*;omega
     have bb:=n3 _ (Yh Q);have b7:=U.1;have b9:=af.1;refine⟨X,BK N.ir.mr.1 hxn I,λcs=>?_,λcs=>?_,λg G O=>?_⟩;simp only[HS.xV,if_neg hne];exact(af.2 _ sO bb).trans ((U.2 _ e4 I).trans b4);simp;omega;rcases YZ G with h8|rfl;exact n3 g h8 O;rcases aj _ O with h8|h8;exact bb h8;simp at h8;omega
    simp[t,hf];refine Z6.jS (λk=>k !=16) (Y.qB [0,1,2,4,5,6,7,8,9,10,11,12,13] (.two 3 14 (Y.qB [14,15,16,17,18,19] .done) (.two 3 15 (Y.qB [15,16,17,18,19] .done) (.two 3 16 (Y.qB [16,17,18,19] .done) (Y.qB [3,17,18,19] .done))))) follows kR (λe S=>∃ag,En e 113 [(0,.p l),(2,.i i),(3,.p (h'.p,48)),(5,.l (x.rows[j].map GV.z)),(36,.l (M.src.q.map E.z)),(37,.i M.src.q.length),(38,.i i),(50,.l (x.rows.map (Z7 GV.z))),(51,.i x.rows.length),(52,.i j)]/\MpI h1 S l co (.mrow ln 0 n.length ap) {M with out:=s.1,nc:=s.2.set i ⟨n[i].1,n[i].2.2++[x.rows[j]]⟩} ag/\S.a (h'.p,48)=some [C.d (D.str M.src.q[i].y),C.d (D.sl (List.map Col.z M.src.q[i].j)),C.d (D.sl (List.map Zg M.src.q[i].pk))]/\h'.p<S.p/\∀g∈ag,(h'.p,48)∉Z g.2.1) ?_ ?_
    .simp[V8,t,B,bv,tn,Q];refine⟨?_,?_⟩
     all_goals
      refine Zx ((Nm x.rows[j]).h x.rows[j] rfl) I ?_;simp[t,B]
     refine⟨λ_ _ x=>x,?_⟩;have U:Z0 F ((F.qC (F.p,1409) (some (x.rows[j].length,3))).w.qC (F.p+1,1424) (some (1,1))).w []:=Z0.refl.qC.w.qC.w;refine N.app Q U PG kR dE (Zr.qU rfl) ba λR A bz cap2 P ar au aw al af aj=>?_;cases ar;have⟨k1,k2,k3,k4,k5⟩:=L _ A R P U af aj;have am:=B8 au;simp only[Mp.z,Stp.z,Yb,Yf,Yt,Yv] at am;simp[t,aw,Q];refine⟨k1,?_⟩;rw[k2];exact Ze.of ⟨_,by simp[t],al,k3 _,k4 _,k5⟩;refine⟨λ_ _ x=>x,?_,?_,?_⟩
     all_goals
      have U:Z0 F ((F.qC (F.p,1409) (some (x.rows[j].length,3))).w.qC (F.p+1,1424) (some (1,1))).w []:=Z0.refl.qC.w.qC.w;refine N.app Q U PG kR dE (Zr.qU rfl) ba λR A bz cap2 P ar au aw al af aj=>?_;cases ar;have⟨k1,k2,k3,k4,k5⟩:=L _ A R P U af aj;have am:=B8 au;simp only[Mp.z,Stp.z,Yb,Yf,Yt,Yv] at am;simp[t,am,aw,Q];refine⟨k1,?_⟩;rw[k2];exact Ze.of ⟨_,by simp[t],al,k3 _,k4 _,k5⟩
    rintro e S ⟨ag,t,ae,b5,e5,n5⟩;obtain⟨lo,cap,sp,xs,c9,bk,-,mr,az,br,t1,bp,ak,hcap,bd⟩:=ae.out.at_ (show s.1[i]?=some u from hu);subst bk;have B:=B8 ae.a;simp only[Mp.z,Stp.z,Yb,Yf,Yt,Yv] at B;have b0:=Y4 (ae.e1 lo (by simp[Z])) ae.s.1;have bn:=Ah (sp:=sp) mr.1 ak;have hne:((h'.p,48):Z2)≠lo:=λO=>by
     have:=ae.e1 lo (by simp[Z])
     have:=bc
     rw[<-O] at*;simp at*;omega
    simp;refine Z6.cu bA (λe A=>En e 113 [(0,.p l),(2,.i i),(3,.p (h'.p,48)),(36,.l (M.src.q.map E.z)),(37,.i M.src.q.length),(38,.i i),(50,.l (x.rows.map (Z7 GV.z))),(51,.i x.rows.length),(52,.i j)]/\MpI h1 A l (.mrow lo 0 xs.length cap) (.mrow ln 0 n.length ap) {M with out:=s.1.set i ⟨u.u,rs⟩,nc:=s.2.set i ⟨n[i].1,n[i].2.2++[x.rows[j]]⟩} ag/\A.a (h'.p,48)=some [C.d (D.str M.src.q[i].y),C.d (D.sl (List.map Col.z M.src.q[i].j)),C.d (D.sl (List.map Zg M.src.q[i].pk))]/\h'.p<A.p) ?_ ?_;simp[t,B,az,t1,ak,b5];refine Zx (G1 M.src.q[i] u.rows x.rows[j] rs bi) (by simp[GK bp]) ?_;simp[t,az,ak];refine⟨λ_ _ x=>x,X,Ze.of ⟨by simp[t],(ae.frame (Z0.refl.w)).xT mr.1 mr.2.1 hcap br rfl bd,?_,sO⟩⟩;simp only[HS.xV,if_neg hne];exact b5;rintro e A ⟨t,al,b6,e6⟩;simp[t,a1];exact Zj.of (s.1.set i ⟨u.u,rs⟩,s.2.set i ⟨n[i].1,n[i].2.2++[x.rows[j]]⟩) ⟨⟨ag,by simp[t],al,b6,e6,n5⟩,a⟩
   simp[t,hf,a1];exact Zj.of s ⟨⟨n,by simp[t],N,b4,e4,n3⟩,a⟩
  clear a t;rintro s e h3 ⟨n,t,y,_,_,_⟩ a;simp[t,hw];exact Zj.of s ⟨⟨n,by simp[t],y⟩,a⟩
 clear a;rintro s e h' ⟨n,t,y⟩ a;obtain rfl:=Zk a;have O:=y.done λW m2 T=>hK W _ _ m2 ((ao.mn).trans (T.mono (by simp+contextual)));simpa[t] using O
def Tu(h:HS)(c:C)(a:List aD)(hr:Zr h 2 c a)(K:V->HS->Prop)
  (hk:∀c' h',MR h' 2 c' a->Z0 h h' []->(∀l∈Z c',h.p<=l.1/\l.1<h'.p)->ZG h h'->K (.one c') h'):
  Z5 prog 145 [.one c] h K:=by
 have F:=func145;have EL:=@CB;exact Gu

def D2(m:Mp):aB Mp:=
 bif !m.fwd then Z1 (VQ m m.step.s) λv2=>(Z1 (Hv m m.step.u v2.2) λv4=>some v4) else Z1 (VQ m m.step.u) λv5=>Z1 (Hv m m.step.s v5.2) λv7=>some v7
instance Zg2(m:Mp):ConM (D2 m) m (λr=>r) prog 174 [] (λ_=>.tup []):=by unfold D2;have p1:PH [0] (Y.qB aV .done):=.intro;exact SI 33 func174 rfl (by kernel_rfl) rfl rfl trivial (by simp)

def Ea(step:Stp):aB aA:=
 bif (step.g==10) then some step.v.y else some step.u
instance Zgy(step:Stp):Con (Ea step) prog 217 [.agg step.z] (λr=>.one (.d (.str r))):=by unfold Ea;exact go 11 func217
def Ao(m:Mp)(hide:Bool):aB Mp:=
 Z1 (Ea m.step) λv1=>bif hide then Z1 (VQ m v1) λv3=>(Z1 (JI m v1 v3.2) λv5=>some v5) else Z1 (Vv m.cs m.comp v1) λv6=>Z1 (Hv m v1 v6.2) λv8=>Z1 (VG v6.2) λv9=>Z1 (JI v8 v1 v9) λv10=>some v10
instance Zgd(m:Mp)(hide:Bool):ConM (Ao m hide) m (λr=>r) prog 182 [.one (.d (.bool hide))] (λ_=>.tup []):=by unfold Ao;have p1:PH [4] (Y.qB aG (.two 9 13 (Y.qB [10,11,12,13,14,15] .done) (Y.qB [9,10,11,12,14,15] .done))):=.intro;exact SI 47 func182 rfl (by kernel_rfl) rfl rfl trivial (by simp)
def ZN(M:Mp):aB Mp:=Zp (1<=M.step.g/\M.step.g<=16)<|
 if M.step.g=1 then(if M.fwd then A0 M else UY M)
 else if M.step.g=2 then(if M.fwd then UY M else A0 M)
 else if M.step.g=3 then some M
 else if M.step.g=4 then D2 M
 else if M.step.g=5 then Dj M
 else if M.step.g=6 then(if M.fwd then Dy M else DC M)
 else if M.step.g=7 then(if M.fwd then DC M else Dy M)
 else if M.step.g=8 then(if M.fwd then EA M else EY M)
 else if M.step.g=9 then(if M.fwd then GL M else Gn M)
 else if M.step.g=10 then Ao M (!M.fwd)
 else if M.step.g=11 then Ao M M.fwd
 else if M.step.g=12 then Dj M
 else if M.step.g=13\/M.step.g=15 then(if M.fwd then EF M else EE M)
 else(if M.fwd then EE M else EF M)
def ZQ(f:FuncId)(g:List V)(a:HS)(l:Z2)(e d:C)(b:Mp):Prop:=
 ∀K:V->HS->Prop,(∀h' co' c,MpAt h' l co' c b->Z0 a h' (l::(Z e++Z d))->K (.tup []) h')->Z5 prog f (.p l::g) a K
def ZQ.of{f:FuncId}{g:List V}{d:HS}{l:Z2}{c b:C}{e:Mp}(H:∀K:V->HS->Prop,(∀a,MpAt a l c b e->Z0 d a (Z c++Z b)->K (.tup []) a)->Z5 prog f (.p l::g) d K):ZQ f g d l c b e:=
 λK h=>H K λa j i=>h a c b j (i.mono (by simp+contextual))
def ZQ.of'{f:FuncId}{g:List V}{d:HS}{l:Z2}{c b:C}{e:Mp}(H:∀K:V->HS->Prop,(∀a,MpAt a l c b e->Z0 d a (l::(Z c++Z b))->K (.tup []) a)->Z5 prog f (.p l::g) d K):ZQ f g d l c b e:=
 λK h=>H K λa j i=>h a c b j i
def ZQ.con{f:FuncId}{e:List V}{g:List AV}{a:HS}{l:Z2}{d c:C}{M b:Mp}{m1:aB Mp}[i:ConM m1 M (λr=>r) prog f g (λ_=>.tup [])](j:Is m1 b)(m:MpAt a l d c M)(k:Wi a e=some g):ZQ f e a l d c b:=
 .of λK h=>i.h b j a l d c e K m k h
def ZQ.call{f:FuncId}{m:List V}{h:HS}{l:Z2}{k j:C}{i:Mp}{d:Nat}{e:Env}{K:V->HS->Prop}{b:Env->HS->Prop}(H:ZQ f m h l k j i)(n:∀a g c,MpAt a l g c i->Z0 h a (l::(Z k++Z j))->K (.tup []) a)
  (o:∀a,K (.tup []) a->b (e.put (some d) (.tup [])) a):Vb prog f [] (.p l::m) d e h (K:=⟨b⟩):=
 Zc (sU (H (λv a=>b (e.put (some d) v) a) λa g c r q=>o a (n a g c r q)))
def NG(e:HS)(l:Z2)(g f:C)(M h:Mp)(b:Is (ZN M) h)(m:MpAt e l g f M)(j:MR e 2 f (M.nc.map Bd))(k:∀r∈M.nc,r.rows=[])(K:V->HS->Prop)
  (d:∀c co' n,MpAt c l co' n h->Z0 e c (l::(Z g++Z f))->K (.tup []) c):Z5 prog 144 [.p l] e K:=by
 refine Z5.ov func144 ?_;unfold ZN at b;have⟨i,b⟩:=b.chk;have s:=m.bx;have o:M.fwd=true\/M.fwd=false:=by cases M.fwd<;>simp
 have q:M.step.g=1\/M.step.g=2\/M.step.g=3\/M.step.g=4\/M.step.g=5\/M.step.g=6\/M.step.g=7\/M.step.g=8\/M.step.g=9\/M.step.g=10\/M.step.g=11\/M.step.g=12\/M.step.g=13\/M.step.g=14\/M.step.g=15\/M.step.g=16:=X;rcases q with i|i|i|i|i|i|i|i|i|i|i|i|i|i|i|i<;>rcases o with hf|hf<;>simp[i,hf] at b<;>simp[s,i,hf];exact ZQ.call (ZQ.con (m1:=A0 M) b m rfl) d λc a=>sU a;exact ZQ.call (ZQ.con (m1:=UY M) b m rfl) d λc a=>sU a;exact ZQ.call (ZQ.con (m1:=UY M) b m rfl) d λc a=>sU a;exact ZQ.call (ZQ.con (m1:=A0 M) b m rfl) d λc a=>sU a;obtain rfl:=Zk b;exact d e g f m .refl;obtain rfl:=Zk b;exact d e g f m .refl;exact ZQ.call (ZQ.con (m1:=D2 M) b m rfl) d λc a=>sU a;exact ZQ.call (ZQ.con (m1:=D2 M) b m rfl) d λc a=>sU a;exact ZQ.call (ZQ.of (HY e l g f M h b m)) d λc a=>sU a;exact ZQ.call (ZQ.of (HY e l g f M h b m)) d λc a=>sU a;exact ZQ.call (ZQ.of (R9 e l g f M h b m)) d λc a=>sU a;exact ZQ.call (ZQ.of' (RJ e l g f M h b m)) d λc a=>sU a;exact ZQ.call (ZQ.of' (RJ e l g f M h b m)) d λc a=>sU a;exact ZQ.call (ZQ.of (R9 e l g f M h b m)) d λc a=>sU a;exact ZQ.call (ZQ.of (Z3j e l g f M h b m)) d λc a=>sU a;exact ZQ.call (ZQ.of' (Zci e l g f M h b m)) d λc a=>sU a;exact ZQ.call (ZQ.of (Zcj e l g f M h b m)) d λc a=>sU a;exact ZQ.call (ZQ.of (Z7r e l g f M h b m)) d λc a=>sU a;exact ZQ.call (ZQ.con (m1:=Ao M false) b m I) d λc a=>sU a;exact ZQ.call (ZQ.con (m1:=Ao M true) b m I) d λc a=>sU a;exact ZQ.call (ZQ.con (m1:=Ao M true) b m I) d λc a=>sU a;exact ZQ.call (ZQ.con (m1:=Ao M false) b m I) d λc a=>sU a;exact ZQ.call (ZQ.of (HY e l g f M h b m)) d λc a=>sU a;exact ZQ.call (ZQ.of (HY e l g f M h b m)) d λc a=>sU a;exact ZQ.call (Ij e l g f M h b m j k) d λc a=>sU a;exact ZQ.call (Ii e l g f M h b m j k) d λc a=>sU a;exact ZQ.call (Ii e l g f M h b m j k) d λc a=>sU a;exact ZQ.call (Ij e l g f M h b m j k) d λc a=>sU a
 exact ZQ.call (Ij e l g f M h b m j k) d λc a=>sU a;exact ZQ.call (Ii e l g f M h b m j k) d λc a=>sU a;exact ZQ.call (Ii e l g f M h b m j k) d λc a=>sU a;exact ZQ.call (Ij e l g f M h b m j k) d λc a=>sU a
end
end Go.Am
section
namespace Go.Am
def Cz{S:Sch}(c:Wf S.q){T:E}(d:T∈S.q):∃i:Nat,Wg S T.y=some ((i:Int),true)/\S.q[i]?=some T:=by
 have⟨f,k,h0,h,j⟩:=UH S T.y;have a:f.2=true:=by
  cases a:f.2 with
  |true=>rfl
  |false=>have:=j a T d;rw[ED] at this;cases this
 have⟨h3,U,e,g⟩:=h a;have l:=Y2 e;have b:=C7 c d;rw[<-ZD.1 g,C7 c l] at b;cases b;refine⟨f.1.toNat,?_,e⟩;rw[k]
 congr 1
 exact Prod.ext sO a
def U6{S:Sch}{ρ:RN}{i:Nat}{T:E}(h:S.q[i]?=some T):(mkI S ρ)[i]?=some ⟨T.y,ρ T.y⟩:=by simp[mkI,h]
def Vk{S:Sch}{ρ:RN}:(mkI S ρ).length=S.q.length:=by simp[mkI]
def Ww{α:Type}{m:aB α}{x:α}(h:Wp m λr=>r=x):m=some x:=by obtain⟨r,a,rfl⟩:=h;exact a
def Wb{α:Type}{m:aB α}{x:α}(h:m=some x):Wp m λr=>r=x:=⟨x,h,rfl⟩
def Ml{S:Sch}{ρ:RN}(c:Wf S.q){T:E}(d:T∈S.q)(e:(ρ T.y).length<=1048576):Vv S (mkI S ρ) T.y=some (T,ρ T.y):=by
 have⟨i,b,a⟩:=Cz c d;have hi:=(Y0.1 a).1;refine Ww ?_;unfold Vv;refine Xb b ?_;refine X1 (λh=>by simp at h) λ_=>X5 a (X0 (R:=λy=>y=T) ⟨_,rfl,by cases T;rfl⟩ λy _ g=>?_);subst g;refine X1 (λh=>?_) λ_=>X5 (U6 a) (X0 (Cl _ e) λr _ f=>X2 (by rw[f]));simp[Vk] at h;omega
structure LI(M:Mp)(ρ σ:RN):Prop where
 a:VS M.src
 b:VS M.dst
 inp:M.inp=mkI M.src ρ
 ri:RI M.src ρ
 comp:M.comp=mkI M.cs σ
 rc:RI M.cs σ
 ck:∀T∈M.cs.q,T.pk.length<=6/\T.j.length<=100
 cn:Wf M.cs.q
variable{M:Mp}{ρ σ:RN}
def LI.tab(L:LI M ρ σ){T:E}(a:T∈M.src.q):Vv M.src M.inp T.y=some (T,ρ T.y):=by rw[L.inp];exact Ml L.a.ord.1 a (by have:=(L.ri T a).l24;omega)
def LI.input(L:LI M ρ σ){T:E}(a:T∈M.src.q):VQ M T.y=some (T,ρ T.y):=by unfold VQ;rw[L.tab a];rfl
def LI.out(L:LI M ρ σ){T:E}(c:T∈M.dst.q):AS M T.y=some T:=by have⟨i,a,b⟩:=Cz L.b.ord.1 c;refine Ww ?_;unfold AS;refine Xb a ?_;exact X5 b (X2 rfl)
def Gq(T:E)(a:List aE)(b:aE)(j:T.pk.length<=6)(e:ZJ (Z3 T) a):Wp (A7 T a b) λq=>∃i:Nat,q.1=i/\(q.2=true->∃r,a[i]?=some r/\ZR (Z3 T) a b=some r)/\(q.2=false->ZR (Z3 T) a b=none):=by
 refine(GT T a b j).mono λq _ o=>?_;have⟨i,m,ab,g,p,l⟩:=o;refine⟨i,m,λh=>?_,λh=>?_⟩;have⟨r,c,n⟩:=p h;refine⟨r,c,?_⟩;rw[<-Gs n];exact Z7i e (Y2 c);have d:=Ln (T:=T) (k:=b) e g (l h);refine Cs.2 λr c f=>?_;rw[d.eq] at c;rcases Y3.1 c with h1|h1
 have:=d.lo r h1
 rw[f,Gt] at this;omega
 have:=d.hi r (sU h1)
 rw[f,Gt] at this;omega
def Ch(c:E)(a:List aE)(b:aE):aE×Bool:=match ZR (Z3 c) a b with
 |some e=>(e.drop c.pk.length,true)
 |none=>([],false)
def LI.jU(L:LI M ρ σ){a:E}(e:M.cs.q=[a])(hp:a.pk.length<=a.j.length)(b:aE):Bq M b=some (Ch a (σ a.y) b):=by
 have c:a∈M.cs.q:=by rw[e];simp
 have d:M.cs.q[0]?=some a:=by rw[e];rfl
 have g:=L.ck a c;refine Ww ?_;unfold Bq;refine X5 (i:=0) d (X5 (i:=0) (by rw[L.comp];exact U6 d) (X0 (Gq a _ b g.1 (L.rc a c).asc) λq _ n=>?_));have⟨i,l,j,k⟩:=n;refine X1 (λh=>X2 ?_) λh=>?_;unfold Ch;rw[k (sU h)];have⟨r,f,m⟩:=j (sU h);have hlen:=((L.rc a c).row r (Y2 f)).len;rw[l];refine X5 f (X4 ⟨X,X,X⟩ (X0 (R:=λv=>v=(r.take r.length).drop a.pk.length) (X2 rfl) λv _ o=>X2 ?_));unfold Ch;rw[m,o,Yl]
end Go.Am
end
section
namespace Go.Am
def ME{ρ':Type}{Q:ρ'->Prop}(F:Z8->Z8×aB Z8){a:List Z8}{step:Nat->Z8->List Z8×List Z8->(List Z8×List Z8->aB ρ')->aB ρ'}{c:List Z8×List Z8->aB ρ'}
  (k:∀i b (s:List Z8×List Z8) next,b∈a->i<a.length->s.1.length=i->s.2.length<=i->Wp (next (s.1++[(F b).1],s.2++(F b).2.toList)) Q->Wp (step i b s next) Q)
  (g:Wp (c (a.map λr=>(F r).1,a.filterMap λr=>(F r).2)) Q):Wp (Zd step c a 0 ([],[])) Q:=by
 refine X6 (λi (s:List Z8×List Z8)=>s=((a.take i).map λr=>(F r).1,(a.take i).filterMap λr=>(F r).2)) I ?_ λs d=>by rw[d,Yl];exact g
 intro i b s next l h d j
 have⟨e,f⟩:=Y0.1 l;refine k i b s next h e (by rw[d];simp;omega) (by rw[d];exact YE (List.length_filterMap_le _ _) sO) (j _ ?_)
 rw[d,Yg e,f];simp only[YL,Y32,Yb,Yf,XH,List.filterMap_nil];cases(F b).2<;>rfl
def Zcp(a:aA):(a==a)=true:=by
 cases a with
 |mk d=>exact(beq_self_eq_true d:(d==d)=true)
def IN{a b:GV}:Wx a b=true↔a≠b:=by
 constructor;rintro h rfl;simp[Wx,Zcp] at h;intro h;cases e:Wx a b with
 |true=>rfl
 |false=>exact absurd (Sf (by simpa[Wx] using e)) h
def Vs{T:E}{r:Z8}:(Z3 T r).length=T.pk.length:=by simp[Z3]
variable{M:Mp}{ρ σ:RN}
def LI.rM(L:LI M ρ σ){T:E}(c:T∈M.src.q):F7 (ρ T.y)/\(∀r∈ρ T.y,r.length=T.j.length/\1<=r.length/\r.length<=6):=by
 have h:=L.ri T c;have d:=L.a.tab T c;have h6:=d.cols6;have h0:=d.cols0;have aa:=h.l24;have a:∀r∈ρ T.y,r.length=T.j.length/\1<=r.length/\r.length<=6:=λr a=>by have:=(h.row r a).len;omega
 exact⟨⟨X,λr b=>⟨λe=>by have:=a r b;simp[e] at this,by have:=a r b;omega⟩⟩,a⟩
def AJ(n:Nat)(d:GV):aB Z8->GV
 |some e=>(e[n]?).getD Wo
 |none=>d
def DQ(κ:Z8->aE)(a n:Nat)(d:GV)(o:aB Z8)(r:Z8):Z8×aB Z8:=
 (r.take a++[AJ n d o]++r.drop a,bif Wx (AJ n d o) d then some (κ r++[AJ n d o]) else none)
def CP(κ:Z8->aE)(a:Nat)(d:GV)(r:Z8):Z8×aB Z8:=
 (r.take a++r.drop (a+1),bif Wx (Zu r a) d then some (κ r++[Zu r a]) else none)
def Z7o(L:LI M ρ σ){T g b:E}{a:Nat}{A:Bool}(h:T∈M.src.q)(o:T.y=M.step.u)(y:g∈M.dst.q)(x:g.y=M.step.u)(z:W7 g M.step.d=some ((a:Int),A))(aj:a<=T.j.length)
  (n:M.cs.q=[b])(F:b.pk.length=T.pk.length)(hc:b.j.length=T.pk.length+1):
  A0 M=some {M with out:=Zt M.step.u (UV (DQ (Z3 T) a T.pk.length M.step.value) (Z3 T) (Z3 b) (ρ T.y) (σ b.y)).1 M.out,nc:=Zt M.step.u (UV (DQ (Z3 T) a T.pk.length M.step.value) (Z3 T) (Z3 b) (ρ T.y) (σ b.y)).2 M.nc}:=by
 have⟨t,H⟩:=L.rM h;have⟨i,l,C⟩:=Cz L.a.ord.1 h;have ah:=(L.a.tab T h).pk6;refine Ww ?_;unfold A0;have p:AS M T.y=some g:=by rw[o,<-x];exact L.out y
 rw[<-o];refine X0 (Wb (L.tab h)) λq _ G=>X0 (Wb l) λf _ l=>?_;subst G l;refine X4 ⟨rfl,t⟩ (Xb p ?_);refine Xb z ?_;refine ME (λr=>DQ (Z3 T) a T.pk.length M.step.value (ZR (Z3 b) (σ b.y) (Z3 T r)) r) ?_ (X2 rfl);intro i r s next D C _ _ c
 have h1:=H r D;refine X0 (Ua T r X) λk _ u=>X0 (Wb (L.jU n X k)) λst _ m=>?_;subst u m;have d:∀v,v=AJ T.pk.length M.step.value (ZR (Z3 b) (σ b.y) (Z3 T r))->Wp (Zp (0<=(a:Int)/\(a:Int)<=r.length/\r.length+1<=2097152/\(Z3 T r).length+1<=2097152)
  (next (s.1++[r.take (a:Int).toNat++[v]++r.drop (a:Int).toNat],bif Wx v M.step.value then s.2++[Z3 T r++[v]] else s.2))) _:=λv j=>by
  refine X4 ⟨X,X,X,by rw[Vs];omega⟩ ?_;subst j;simp only[DQ] at c;rw[Yn];cases j:Wx (AJ T.pk.length M.step.value (ZR (Z3 b) (σ b.y) (Z3 T r))) M.step.value with
  |true=>rw[j] at c;exact c
  |false=>rw[j] at c;simp only[cond_false,Option.toList_none,Ym] at c;exact c
 unfold Jt Ch;cases hl:ZR (Z3 b) (σ b.y) (Z3 T r) with
 |none=>exact d _ (by rw[hl];rfl)
 |some e=>?_
 have w:b∈M.cs.q:=by rw[n];simp
 have hlen:=((L.rc b w).row e (Ut hl).1).len;have B:(e.drop b.pk.length)[0]?=some ((e[T.pk.length]?).getD Wo):=by rw[YO,F,Xl,Y1 X];rfl
 exact X5 (i:=0) B (d _ (by rw[hl];rfl))
def Z77(L:LI M ρ σ){T:E}{a:Nat}{l:Bool}(c:T∈M.src.q)(p:T.y=M.step.u)(j:W7 T M.step.d=some ((a:Int),l))(ae:a<T.j.length):
  UY M=some {M with out:=Zt M.step.u ((ρ T.y).map λr=>(CP (Z3 T) a M.step.value r).1) M.out,nc:=Zt M.step.u ((ρ T.y).filterMap λr=>(CP (Z3 T) a M.step.value r).2) M.nc}:=by
 have⟨h,u⟩:=L.rM c;have⟨i,d,n⟩:=Cz L.a.ord.1 c;have ad:=(L.a.tab T c).pk6;refine Ww ?_;unfold UY;rw[<-p];refine X0 (Wb (L.tab c)) λq _ t=>X0 (Wb d) λf _ d=>?_;subst t d;refine X4 ⟨rfl,h⟩ (Xb j ?_);refine ME (CP (Z3 T) a M.step.value) ?_ (X2 rfl);intro i r s next o n _ _ b
 have h1:=u r o;have m:r[a]?=some (Zu r a):=by simp only[Zu,Int.natCast_nonneg,if_true,Yn];rw[Y1 X];rfl
 refine X5 m ?_;rw[Yn];simp only[CP] at b;refine X1 (λe=>X0 (Ua T r X) λk _ g=>X4 ?_ ?_) λe=>?_;rw[g,Vs];omega;subst g;rw[e] at b;exact b;rw[e] at b;simp only[cond_false,Option.toList_none,Ym] at b;exact b
end Go.Am
end
namespace Go.Am
section
def A4(t:E)(columns:List Col):aB E:=
 Zd (λ(i5:Nat) (x5:Int) (s5:(List Col)×(List Int)) next_5=>Za t.j x5 λx6=>Z1 (C5 (i5:Int)) λv8=>Zp (({data:=#[107]}:aA).size+v8.size<=9223372036854775807) (Wn s5.1 [(Col.mk (({data:=#[107]}:aA)++v8) x6.g x6.f)] λ_=>Wn s5.2 [(i5:Int)] λ_=>next_5 ((s5.1++[(Col.mk (({data:=#[107]}:aA)++v8) x6.g x6.f)]),(s5.2++[(i5:Int)])))) (λ(s5:(List Col)×(List Int))=>Wn s5.1 columns λ_=>some (E.mk t.y (s5.1++columns) s5.2)) t.pk 0 ([],[])
def Z0q(t:E)(columns:List Col)(r:E)(hm:Is (A4 t columns) r):Zq prog 169 [.agg t.z,.one (.d (.sl (columns.map Col.z)))] (.agg (r.z.map RC.d)):=by
 unfold A4 at hm;refine Zq.qM func169 rfl (by kernel_rfl) (n:=48) rfl rfl (by simp) ?_
 try simp[*]
 intro hl4;replace hl4:t.pk.length<=2097152:=by simpa using hl4
 refine Z6.for (xs:=t.pk) (s0:=([],[])) (λi5 s5 e5 h5=>∃c5_0 c5_1:C,(e5.n=48/\e5.get 1=.one (.d (.sl (columns.map Col.z)))/\e5.get 2=.one (.ptr (0,32) 0)/\e5.get 4=.one (.ptr (1,64) 0)/\e5.get 5=.one (.ptr (2,80) 0)/\e5.get 13=.one (.d (.sl (t.pk.map Zg)))/\e5.get 14=.one (.d (.int .i64 (t.pk.length:Int)))/\e5.get 15=.one (.d (.int .i64 (i5:Int)))/\h5.a (0,32)=some [.d (.str t.y),.d (.sl (t.j.map Col.z)),.d (.sl (t.pk.map Zg))]/\h5.a (1,64)=some [.d (.str empty),.nil,.nil]/\h5.a (2,80)=some [.d (.str t.y),c5_0,c5_1]/\Zm h5 3 c5_0 (s5.1.map Col.z)/\Zm h5 1 c5_1 (s5.2.map Zg))/\WM c5_0 c5_1) hm ⟨.nil,.nil,by simp(maxDischargeDepth:=20) [*],(by simp)⟩ ?_ ?_
 .rintro i5 s5 e5 h5 ⟨c5_0,c5_1,⟨hn5,h5_1,h5_2,h5_4,h5_5,h5_13,h5_14,h5_15,hb5_b1,hb5_b2,hb5_b3,gc5_0,gc5_1⟩,apc5_0_c5_1⟩ hlt5 hm;have hlc5_0:=gc5_0.list;have hdc5_0:=gc5_0.toD;have hac5_0:=gc5_0.toA;have huc5_0:=gc5_0.qG;have hlc5_1:=gc5_1.list;have hdc5_1:=gc5_1.toD;have hac5_1:=gc5_1.toA;have huc5_1:=gc5_1.qG;have hw5:IntKind.i64.wrap ((i5:Int)+1)=(i5:Int)+1:=Y6 _ (by omega)
  try simp[*]
  replace hm:=hm.get;obtain⟨x6,h0x6,hxx6,hm⟩:=hm
  try simp[*]
  refine AC (av:=[.one (.d (.int .i64 (i5:Int)))]) hm (λv hv=>NN _ v hv) (by simp[*]) ?_;clear hm;intro v8 hvv8 hm
  try simp[*]
  replace hm:=hm.chk;obtain⟨hw9,hm⟩:=hm;have hw92:=hw9
  try simp at hw92
  try simp[*]
  refine CK (xs:=s5.1) (ys:=[(Col.mk (({data:=#[107]}:aA)++v8) x6.g x6.f)]) (enc:=Col.z) hm Zpu (by first|exact Zm.nil|(simp(maxDischargeDepth:=20) [*];done)|(simp(maxDischargeDepth:=20) [*];refine⟨?_,by omega⟩;intro hq;subst hq;simp at hz2<;>omega)) (by simp[*]) (by decide) (by decide) (λ_=>rfl) ?_;clear hm;intro hl11 hm g10
  try simp[*]
  refine CK (xs:=s5.2) (ys:=[(i5:Int)]) (enc:=Zg) hm Zpr (by first|exact Zm.nil|(simp(maxDischargeDepth:=20) [*];done)|(simp(maxDischargeDepth:=20) [*];refine⟨?_,by omega⟩;intro hq;subst hq;simp at hz2<;>omega)) (by simp[*]) (by decide) (by decide) (λ_=>rfl) ?_;clear hm;intro hl13 hm g12
  try simp[*]
  exact Zj.of ((s5.1++[(Col.mk (({data:=#[107]}:aA)++v8) x6.g x6.f)]),(s5.2++[(i5:Int)])) ⟨⟨.own (h5.p+3,528) ((s5.1++[(Col.mk (({data:=#[107]}:aA)++v8) x6.g x6.f)]).map Col.z),.own (h5.p+5,624) ((s5.2++[(i5:Int)]).map Zg),by simp(maxDischargeDepth:=20) [*],(by simp)⟩,hm⟩
 .rintro s5 e5 h5 ⟨c5_0,c5_1,⟨hn5,h5_1,h5_2,h5_4,h5_5,h5_13,h5_14,h5_15,hb5_b1,hb5_b2,hb5_b3,gc5_0,gc5_1⟩,apc5_0_c5_1⟩ hm;have hlc5_0:=gc5_0.list;have hdc5_0:=gc5_0.toD;have hac5_0:=gc5_0.toA;have huc5_0:=gc5_0.qG;have hlc5_1:=gc5_1.list;have hdc5_1:=gc5_1.toD;have hac5_1:=gc5_1.toA;have huc5_1:=gc5_1.qG
  try simp[*]
  refine CK (xs:=s5.1) (ys:=columns) (enc:=Col.z) hm Zpu (by first|exact Zm.nil|(simp(maxDischargeDepth:=20) [*];done)|(simp(maxDischargeDepth:=20) [*];refine⟨?_,by omega⟩;intro hq;subst hq;simp at hz2<;>omega)) (by simp[*]) (by decide) (by decide) (λ_=>rfl) ?_;clear hm;intro hl15 hm g14
  try simp[*]
  obtain rfl:=Zk hm;exact U0 (vs:=[_]) (by simp[*];try exact rfl) (by simp[*])
instance Zhh(t:E)(columns:List Col):Con (A4 t columns) prog 169 [.agg t.z,.one (.d (.sl (columns.map Col.z)))] (λr=>.agg (r.z.map RC.d)):=⟨λr hm=>Z0q t columns r hm⟩
def AT(c:Col)(name:aA):aB Col:=
 some (Col.mk name c.g c.f)
instance Zh6(c:Col)(name:aA):Con (AT c name) prog 170 [.agg c.z,.one (.d (.str name))] (λr=>.agg (r.z.map RC.d)):=by unfold AT;exact go 8 func170
def Eb(columns:List Col):aB ((List Col)):=
 Zd (λ(i2:Nat) (x2:Col) (s2:(List Col)) next_2=>Z1 (C5 (i2:Int)) λv4=>Zp (({data:=#[98]}:aA).size+v4.size<=9223372036854775807) (Z1 (AT x2 (({data:=#[98]}:aA)++v4)) λv6=>Wn s2 [v6] λ_=>next_2 (s2++[v6]))) (λ(s2:(List Col))=>some s2) columns 0 []
instance Zh0(columns:List Col):Con (Eb columns) prog 171 [.one (.d (.sl (columns.map Col.z)))] (λr=>.one (.d (.sl (r.map Col.z)))):=by
 unfold Eb;have l1:LH (σ:=(List Col)) 8 [6,7] [.g 3 3 (λs=>s.map Col.z)]:=.intro;have p1:PH [5] (Y.qB aG .done):=.intro;exact go 23 func171
set_option maxHeartbeats 4000000
def Ck(s_:Sch)(target:Sch)(step:Stp):aB E:=
 bif (step.g==10) then Z1 (De step.v) λv6=>(some v6) else Z1 (Wg s_ step.u) λv7=>Za s_.q v7.1 λx8=>bif (step.g==11) then Z1 (De x8) λv11=>(some v11) else Z1 (Wg target step.u) λv12=>Za target.q v12.1 λx13=>Zp (Wm ((x13.j.length:Int)-1)) (Za x13.j ((x13.j.length:Int)-1) λx16=>Z1 (W7 x8 step.d) λv18=>bif (step.g==1) then Z1 (AT x16 ({data:=#[111,108,100]})) λv20=>(Z1 (A4 x8 [v20]) λv21=>some v21) else bif (step.g==2) then Za x8.j v18.1 λx23=>(Z1 (AT x23 ({data:=#[111,108,100]})) λv24=>Z1 (A4 x8 [v24]) λv25=>some v25) else bif (step.g==5) then Za x8.j v18.1 λx27=>(Za x13.j v18.1 λx28=>Z1 (AT x27 ({data:=#[111,108,100]})) λv29=>Z1 (AT x28 ({data:=#[110,101,119]})) λv30=>Z1 (A4 x8 [v29,v30]) λv31=>some v31) else bif (step.g==12) then Za step.j 0 λx33=>(Za x8.j x33 λx34=>Za step.j 1 λx35=>Za x8.j x35 λx36=>Z1 (AT x34 ({data:=#[111,108,100,48]})) λv37=>Z1 (AT x36 ({data:=#[111,108,100,49]})) λv38=>Z1 (AT x16 ({data:=#[110,101,119]})) λv39=>Z1 (A4 x8 [v37,v38,v39]) λv40=>some v40) else bif (step.g==8) then Z1 (A4 x8 [(Col.mk ({data:=#[111,116,104,101,114]}) 2 false)]) λv42=>(some v42) else bif (step.g==7) then Zp (0<=(x8.j.length:Int)/\(x8.j.length:Int)<=(x13.j.length:Int)/\(x13.j.length:Int)<=(x13.j.length:Int)) (Z1 (Eb ((x13.j.take x13.j.length).drop x8.j.length)) λv46=>Z1 (A4 x8 v46) λv47=>some v47) else Zd (λ(i49:Nat) (x49:Col) (s49:(List Col)) next_49=>Z1 (A3 step.j (i49:Int)) λv51=>bif v51 then Wn s49 [x49] λ_=>(next_49 (s49++[x49])) else next_49 s49) (λ(s49:(List Col))=>Z1 (Eb s49) λv55=>Z1 (A4 x8 v55) λv56=>some v56) x8.j 0 [])
instance Zhl(s_:Sch)(target:Sch)(step:Stp):Con (Ck s_ target step) prog 141 [.agg s_.z,.agg target.z,.agg step.z] (λr=>.agg (r.z.map RC.d)):=by
 unfold Ck;have l1:LH (σ:=(List Col)) 148 [5,6,9,146,147] [.g 16 3 (λs=>s.map Col.z)]:=.intro;have p1:PH [13] (Y.qB aK .done):=.intro;have p2:PH [15] (Y.qB aJ .done):=.intro;have p3:PH [17] (Y.qB [0,1,2,3,4,5,7,8,9,10,6,11,12,13,14] .done):=.intro;have p4:PH [19] (Y.qB [0,1,2,3,4,5,6,7,8,10,11,12,13,14,15,16,17,19,9,18,20,21,22,23] .done):=.intro;have p5:PH [23] (Y.qB aG .done):=.intro;have p6:PH [31] (Y.qB [0,1,2,3,4] .done):=.intro;exact go 166 func141
def FQ(s_:Sch)(step:Stp):aB (Sch×Int):=
 Z1 (VR s_ step) λv4=>bif (v4.2 !=0) then some ((Sch.mk [] [] []),v4.2) else bif (step.g==13) then Z1 (UG s_) λv8=>(some ((Sch.mk v8.q [] []),0)) else bif (step.g==14) then Z1 (UG s_) λv10=>(some ((Sch.mk v10.q [] []),0)) else bif (step.g==15) then Z1 (UG s_) λv12=>(some ((Sch.mk v12.q [] []),0)) else bif (step.g==16) then Z1 (UG s_) λv14=>(some ((Sch.mk v14.q [] []),0)) else bif (step.g==3) then some ((Sch.mk [] [] []),0) else bif (step.g==4) then some ((Sch.mk [] [] []),0) else bif (step.g==9) then some ((Sch.mk [] [] []),0) else Z1 (Ck s_ v4.1 step) λv18=>some ((Sch.mk [v18] [] []),0)
instance Z0j(s_:Sch)(step:Stp):Con (FQ s_ step) prog 117 [.agg s_.z,.agg step.z] (λr=>.tup [.agg (r.1.z.map RC.d),.one (.d (.int .i64 r.2))]):=by unfold FQ;exact go 40 func117
def Bx(s_:Sch)(step:Stp):aB (Sch×Sch×Int):=
 Z1 (VR s_ step) λv5=>bif (v5.2 !=0) then some ((Sch.mk [] [] []),(Sch.mk [] [] []),v5.2) else Z1 (FQ s_ step) λv8=>some (v5.1,v8.1,v8.2)
def Kj(s_:Sch)(step:Stp)(r:Sch×Sch×Int)(hm:Is (Bx s_ step) r):Zq prog 100 [.agg s_.z,.agg step.z] (.tup [.agg (r.1.z.map RC.d),.agg (r.2.1.z.map RC.d),.one (.d (.int .i64 r.2.2))]):=by
 unfold Bx at hm;refine Zq.qM func100 rfl (by kernel_rfl) (n:=30) rfl rfl (by simp) ?_
 try simp[*]
 refine AC (av:=[.agg s_.z,.agg step.z]) hm (λv hv=>Nx _ _ v hv) (by simp[*]) ?_;clear hm;intro v5 hvv5 hm
 try simp[*]
 refine ZP hm ?_ ?_<;>clear hm<;>intro hc7 hm
 .try simp[*]
  obtain rfl:=Zk hm;exact U0 (vs:=[_,_,_]) (by simp[*];try exact⟨rfl,rfl,rfl⟩) (by simp[*])
 .try simp[*]
  refine AC (av:=[.agg s_.z,.agg step.z]) hm (λv hv=>Z0j _ _ v hv) (by simp[*]) ?_;clear hm;intro v8 hvv8 hm
  try simp[*]
  refine Z6.cut (Y.qB [0,2] (.two 1 3 (Y.qB [3,4,5] .done) (Y.qB [1,4,5] .done))) follows (by kernel_rfl) (λe10 h10=>e10.n=30/\e10.get 4=.one (.ptr (2,64) 0)/\e10.get 5=.one (.ptr (3,80) 0)/\e10.get 6=.one (.d (.int .i64 v8.2))/\h10.a (2,64)=some [.d (.sl (v5.1.q.map E.z)),.d (.sl (v5.1.b.map Fk.z)),.d (.sl (v5.1.cons.map Cons.z))]/\h10.a (3,80)=some [.d (.sl (v8.1.q.map E.z)),.d (.sl (v8.1.b.map Fk.z)),.d (.sl (v8.1.cons.map Cons.z))]) ?_ ?_
  .try simp[*]
   repeat' (first|with_reducible refine And.intro ?_ ?_|(refine Ze.of ?_;simp[*];done))
  .rintro e10 h10 ⟨hn10,h10_4,h10_5,h10_6,hb10_b3,hb10_b4⟩
   try simp[*]
   obtain rfl:=Zk hm;exact U0 (vs:=[_,_,_]) (by simp[*];try exact⟨rfl,rfl,rfl⟩) (by simp[*])
instance Zia(s_:Sch)(step:Stp):Con (Bx s_ step) prog 100 [.agg s_.z,.agg step.z] (λr=>.tup [.agg (r.1.z.map RC.d),.agg (r.2.1.z.map RC.d),.one (.d (.int .i64 r.2.2))]):=⟨λr hm=>Kj s_ step r hm⟩
def Za5:∀i:Fin 100,(Lib.itoa (i.val:Int)).length<=1000:=by decide+kernel
def Rr(i:Nat)(h:i<100):Wp (C5 (i:Int)) λv=>v.size<=1000:=by
 unfold C5;refine X4 (by simp only[Wm];omega) (X2 ?_)
 have:=Za5 ⟨i,h⟩
 simpa[ByteArray.size] using this
def kn(c:Col):Int×Bool:=(c.g,c.f)
structure CT(T:E)(ks:List (Int×Bool))(ct:E):Prop where
 y:ct.y=T.y
 pk:ct.pk=ZZ T.pk.length
 j:ct.j.map kn=T.pk.map (λp=>kn (Zf T p))++ks
def P5(n:Nat):ZZ (n+1)=ZZ n++[(n:Int)]:=by simp[ZZ,List.range_succ]
def Cy(n:Nat):(ZZ n).length=n:=by simp[ZZ]
def VA{T:E}{c:Int}{x:Col}(h0:0<=c)(a:T.j[c.toNat]?=some x):Zf T c=x:=by simp[Zf,a]
def CT.lens{T a:E}{b:List (Int×Bool)}(h:CT T b a):a.pk.length=T.pk.length/\a.j.length=T.pk.length+b.length:=by
 refine⟨by rw[h.pk,Cy],?_⟩
 have:=congrArg List.length h.j
 simpa using this
def Zar{T:E}(f:VT T)(hp:T.pk.length<=6)(a:List Col)(hc:a.length<=50):Wp (A4 T a) λr=>CT T (a.map kn) r:=by
 have hL:=VX;unfold A4;refine X6 (λi (s:List Col×List Int)=>s.1.map kn=(T.pk.take i).map (λp=>kn (Zf T p))/\s.2=ZZ i/\s.1.length=i) ⟨rfl,rfl,rfl⟩ ?_ ?_
 .intro i x s next l j b k
  have⟨h,g⟩:=Y0.1 l;have d:=f.pk x j;refine X3 d.1 d.2 λc e _=>X0 (Rr i X) λv _ hv=>X4 ?_ (X8 (by rw[b.2.2];simp;omega) (X8 (by rw[b.2.1,Cy];simp;omega) (k _ ⟨?_,?_,?_⟩)))
  have:(({data:=#[107]}:aA).size:Nat)=1:=rfl
  omega;simp only;rw[Yg h,g,YL,YL,b.1,Yb,Yf,Yb,Yf,VA d.1 e];rfl;simp only;rw[b.2.1,P5];simp[b.2.2]
 intro s b;refine X8 X (X2 ⟨rfl,b.2.1,?_⟩);simp only[YL];rw[b.1,Yl]
def Ou(a:List Col)(d:a.length<=50):Wp (Eb a) λr=>r.map kn=a.map kn:=by
 have hL:=VX;unfold Eb;refine X6 (λi (s:List Col)=>s.map kn=(a.take i).map kn/\s.length=i) ⟨rfl,rfl⟩ ?_ λs b=>X2 (by rw[b.1,Yl]);intro i x s next h hm b g
 have⟨f,e⟩:=Y0.1 h;refine X0 (Rr i X) λv _ hv=>X4 ?_ (X0 (R:=λc=>kn c=kn x) (X2 rfl) λc _ d=>X8 (by rw[b.2];simp;omega) (g _ ⟨?_,by simp[b.2]⟩))
 have:(({data:=#[98]}:aA).size:Nat)=1:=rfl
 omega;rw[YL,b.1,Yg f,e,YL,Yb,Yf,d];rfl
def Iq{i:Nat}:∀{a:List Int},a.Pairwise (·<·)->((i:Int)∈a->a.filter (λv=>decide (v<(i:Int)+1))=a.filter (λv=>decide (v<(i:Int)))++[(i:Int)])/\((i:Int)∉a->a.filter (λv=>decide (v<(i:Int)+1))=a.filter (λv=>decide (v<(i:Int))))
 |[],_=>⟨λh=>by simp at h,λ_=>rfl⟩
 |c::a,h=>by
   have⟨j,k⟩:=YT.1 h;have⟨l,m⟩:=Iq (i:=i) k;have g:∀(b:Int),b<=c+1->a.filter (λv=>decide (v<b))=[]:=λb hb=>Y3k.2 λv n=>by have:=j v n;simp;omega
   refine⟨λd=>?_,λd=>?_⟩;rcases Y5.1 d with he|d;subst he;rw[XG,XG,if_pos sO,if_neg I,g _ X,g _ X];rfl
   have:=j _ d
   rw[XG,XG,if_pos sO,if_pos (sU this),l d];rfl;have hc:(i:Int)≠c:=λe=>d (by simp[e]);rw[XG,XG,m λf=>d (by simp[f])];by_cases f:c<(i:Int);rw[if_pos sO,if_pos (sU f)];rw[if_neg sO,if_neg (sU f)]
def Je{c:List Int}(h:∀(i:Nat) (a b:Int),c[i]?=some a->c[i+1]?=some b->a<b):c.Pairwise (·<·):=by
 have f:∀(n i:Nat) (a b:Int),c[i]?=some a->c[i+1+n]?=some b->a<b:=by
  intro n
  induction n with
  |zero=>intro i a b e d;exact h i a b e d
  |succ n ih=>?_
  intro i a b e d;have hl:=(Y0.1 d).1;have g:c[i+1+n]?=some c[i+1+n]:=Y1 X;have h1:=ih i a _ e g;have h2:=h (i+1+n) _ b g d;omega
 refine YK.2 λi j k l hij=>?_;refine f (j-(i+1)) i _ _ (Y1 k) ?_;rw[show i+1+(j-(i+1))=j by omega];exact Y1 l
structure Two(S S':Sch)(x:Stp)(T T':E):Prop where
 s:T∈S.q
 s':T'∈S'.q
 n:T.y=x.u
 n':T'.y=x.u
def Zpv(T:E):Col:=Zf T (T.j.length-1)
def JC(x:Stp)(T e:E)(d:List (Int×Bool)):Prop:=
 (x.g=1->d=[kn (Zpv e)])/\(x.g=2->∃c,W7 T x.d=some (c,true)/\0<=c/\c<T.j.length/\d=[kn (Zf T c)])/\
 (x.g=5->∃c,W7 T x.d=some (c,true)/\0<=c/\c<T.j.length/\c<e.j.length/\d=[kn (Zf T c),kn (Zf e c)])/\
 (x.g=12->∃a b,x.j=[a,b]/\0<=a/\a<T.j.length/\0<=b/\b<T.j.length/\d=[kn (Zf T a),kn (Zf T b),kn (Zpv e)])/\
 (x.g=8->d=[(2,false)])/\(x.g=7->d=(e.j.drop T.j.length).map kn)/\(x.g=6->d=x.j.map λc=>kn (Zf T c))
def Zap{S O:Sch}{x:Stp}(hS:VS S)(ae:VS O)(hk:x.g=1\/x.g=2\/5<=x.g/\x.g<=8\/x.g=12){T j:E}(t:Two S O x T j)
  (u:x.g=2\/x.g=5->∃c,W7 T x.d=some (c,true)/\0<=c/\c<T.j.length/\(x.g=5->c<j.j.length))
  (H:x.g=12->∃a b,x.j=[a,b]/\0<=a/\a<T.j.length/\0<=b/\b<T.j.length)(M:x.g=7->T.j.length<=j.j.length)(L:x.g=6->SplitOK T x.j):
  Wp (Ck S O x) λr=>∃G,CT T G r/\JC x T j G:=by
 have hL:=VX;have W:=hS.tab T t.s;have ag:=ae.tab j t.s';have ar:=ag.cols6;have g:=ag.cols0;have c6:=W.cols6;have⟨i,hf,hi⟩:=Cz hS.ord.1 t.s;have⟨i',J,ap⟩:=Cz ae.ord.1 t.s';rw[t.n] at hf;rw[t.n'] at J;unfold Ck;refine X1 (λh=>by clear u H M L;simp at h;omega) λ_=>Xb hf ?_;refine X5 hi (X1 (λh=>by clear u H M L;simp at h;omega) λ_=>X0 (Wb J) λf' _ J=>?_);subst J;refine X5 ap (X4 (by simp only[Wm];omega) (X3 X X λam aj _=>X0 (R:=λv=>W7 T x.d=some v) ?_ λau _ f=>?_));have⟨r,N,_⟩:=AX T x.d;exact⟨r,N,N⟩;have af:am=Zpv j:=(VA X aj).symm;have o:∀(c:Col) (n:aA),Wp (AT c n) λr=>kn r=kn c:=λ_ _=>X2 rfl;have e:∀(d:List Col),d.length<=50->JC x T j (d.map kn)->Wp (Z1 (A4 T d) λv=>some v) λr=>∃G,CT T G r/\JC x T j G:=λd h hk=>X0 (Zar W W.pk6 d h) λr _ N=>X2 ⟨_,N,hk⟩;refine X1 (λh=>X0 (o _ _) λa _ l=>e _ I ?_) λh1=>?_;have h:x.g=1:=sU h;exact⟨λ_=>by simp[l,af],X,X,X,X,X,X⟩;refine X1 (λh=>?_) λal=>?_;have h:x.g=2:=sU h;obtain⟨c,m,g,q,-⟩:=u (.inl h);rw[f] at m;cases m;exact X3 g q λy F _=>X0 (o _ _) λa _ l=>e _ I ⟨X,λ_=>⟨c,f,g,q,by simp[l,VA g F]⟩,X,X,X,X,X⟩;refine X1 (λh=>?_) λak=>?_;have h:x.g=5:=sU h;have⟨c,m,g,q,c2⟩:=u (.inr h);rw[f] at m;cases m;exact X3 g q λy F _=>X3 g (c2 h) λz hz _=>X0 (o _ _) λa _ l=>X0 (o _ _) λb _ p=>e _ I ⟨X,X,λ_=>⟨c,f,g,q,c2 h,by simp[l,p,VA g F,VA g hz]⟩,X,X,X,X⟩;refine X1 (λh=>?_) λah=>?_;have h:x.g=12:=sU h;have⟨a,b,D,P,a1,U,b1⟩:=H h;rw[D];refine X5 (i:=0) rfl (X3 P a1 λy F _=>X5 (i:=1) rfl (X3 U b1 λz hz _=>X0 (o _ _) λa' _ l=>X0 (o _ _) λb' _ p=>X0 (o _ _) λc' _ m=>e _ I ⟨X,X,X,λ_=>⟨a,b,D,P,a1,U,b1,by simp[l,p,m,af,VA P F,VA U hz]⟩,X,X,X⟩))
 refine X1 (λh=>?_) λw=>?_;have h:x.g=8:=sU h;exact e _ I ⟨X,X,X,X,λ_=>rfl,X,X⟩;refine X1 (λh=>?_) λao=>?_;have h:x.g=7:=sU h
 have:=M h
 refine X4 X (X0 (Ou _ sO) λns _ k=>e _ ?_ ?_)
 have:=congrArg List.length k
 simp at this;omega;rw[k,Yl];exact⟨X,X,X,X,X,λ_=>rfl,X⟩;have aq:x.g=6:=by clear u H M L;simp at h1 al ak ah w ao;omega
 have C:=L aq;have K:=Je C.asc;refine X6 (λi (s:List Col)=>s=(x.j.filter λv=>decide (v<(i:Int))).map (Zf T)) ?_ ?_ ?_;rw[Y3k.2 λv f=>by have:=(C.rng v f).1;simp;omega];rfl
 .intro i c s next D hm V k
  have⟨hi,he⟩:=Y0.1 D;have Y:Zf T (i:Int)=c:=VA X (sU D);have hlen:s.length<=x.j.length:=by rw[V,Yd];exact XR _ _
  have Z:x.j.length<=6:=by
   have A:x.j.Nodup:=K.imp λh=>X;have w:x.j.length<=(ZZ T.j.length).length:=List.Nodup.length_le_of_subset A λv f=>by
    have:=C.rng v f
    simp only[ZZ,Yi,XV];exact⟨v.toNat,X,X⟩
   rw[Cy] at w;omega
  refine X0 (C4 x.j (i:Int)) λb _ p=>X1 (λh=>X8 sO (k _ ?_)) λh=>k _ ?_;have Q:(i:Int)∈x.j:=p.1 h;rw[show((i+1:Nat):Int)=(i:Int)+1 by omega,(Iq K).1 Q,V,YL,Yb,Yf,Y];have Q:(i:Int)∉x.j:=λA=>by rw[p.2 A] at h;cases h
  rw[show((i+1:Nat):Int)=(i:Int)+1 by omega,(Iq K).2 Q,V]
 rintro s rfl;have B:(x.j.filter λv=>decide (v<(T.j.length:Int)))=x.j:=XM.2 λv f=>by have:=(C.rng v f).2;simpa using this
 rw[B];have Z:x.j.length<=6:=by
  have A:x.j.Nodup:=K.imp λh=>X;have w:x.j.length<=(ZZ T.j.length).length:=List.Nodup.length_le_of_subset A λv f=>by
   have:=C.rng v f
   simp only[ZZ,Yi,XV];exact⟨v.toNat,X,X⟩
  rw[Cy] at w;omega
 refine X0 (Ou _ sO) λns _ k=>e _ ?_ ?_
 have:=congrArg List.length k
 simp at this;omega;rw[k,YY];exact⟨X,X,X,X,X,X,λ_=>rfl⟩
def DA{v:GV}(h:WE v=some 0):0<=v.g/\v.g<=3/\-1000000000000<=v.int/\v.int<=1000000000000/\v.text.size<=24/\(v.g=2->v.int=0\/v.int=1):=by
 have he:Z9 v.text empty=true->v.text.size<=24:=λh=>by rw[ZD.1 h];decide
 unfold WE at h;simp only[cond_eq_ite] at h
 repeat' split at h
 all_goals first
  |(exfalso;simp at h;done)
  | (simp at*
     try simp_all
     try omega)
def Z67(v:GV)(k:Int):Wp (Vr v k) λ_=>True:=by
 unfold Vr;refine X0 (R:=λe=>WE v=some e) (by have⟨r,a,_⟩:=Eu v;exact⟨r,a,a⟩) λe _ d=>X1 (λ_=>X2 trivial) λh=>?_;obtain rfl:e=0:=sU h;obtain⟨-,-,h1,h2,h3,-⟩:=DA d;have f:Wp (C5 v.int) λ_=>True:=X4 (by simp only[Wm];omega) (X2 trivial);have c:∀b,Wp (Ec b) λ_=>True:=λb=>by cases b<;>exact⟨_,rfl,trivial⟩
 have g:Wp (G2 v.text) λ_=>True:=X4 X (X2 trivial);have i:Wp (C2 v.text) λ_=>True:=by
  unfold C2
  repeat' first|exact X2 trivial|refine X1 (λ_=>?_) λ_=>?_
 repeat' first|exact X2 trivial|refine X1 (λ_=>?_) λ_=>?_|refine X0 f λ_ _ _=>?_|refine X0 (c _) λ_ _ _=>?_|refine X0 g λ_ _ _=>?_|refine X0 i λ_ _ _=>?_
def J4(k:Int)(b:Bool):Wp (Vi k b) λ_=>True:=by
 unfold Vi
 repeat' first|exact X2 trivial|refine X1 (λ_=>?_) λ_=>?_
def EO(a b:aE):Wp (BY a b) λr=>r=true↔a=b:=by
 unfold BY;refine X1 (λh=>X2 ?_) λh=>?_
 have:a.length≠b.length:=by simp at h;omega
 simp only[YX,false_iff];exact λd=>this (by rw[d]);have k:a.length=b.length:=by simp at h;omega
 refine X6 (λi _=>a.take i=b.take i) rfl ?_ λs c=>X2 ?_
 .intro i x s next m hm c l
  have⟨j,e⟩:=Y0.1 m;have g:b[i]?=some b[i]:=Y1 X;refine X5 g (X1 (λh=>X2 ?_) λh=>l () ?_);simp only[YX,false_iff];intro d;have f:x=b[i]:=by rw[<-e];simp[d]
  exact IN.1 (show Wx x b[i]=true from h) f;rw[Yg j,Yg (X:i<b.length),c,e,Sf h]
 rw[Yl,k,Yl] at c;simp[c]
def V1(l:List Int)(i:Nat):Nat:=(l.filter λv=>decide (v<(i:Int))).length
def IJ{l:List Int}(h:l.Pairwise (·<·))(i:Nat):((i:Int)∈l->V1 l (i+1)=V1 l i+1)/\((i:Int)∉l->V1 l (i+1)=V1 l i):=by
 have b:=Iq (i:=i) h;unfold V1;rw[show((i+1:Nat):Int)=(i:Int)+1 by omega];exact⟨λa=>by rw[b.1 a];simp,λa=>by rw[b.2 a]⟩
def LF{l:List Int}(h:∀v∈l,0<=v):V1 l 0=0:=by
 unfold V1;rw[Y3k.2 λv a=>by have:=h v a;simp;omega];rfl
def Md{l:List Int}{w:Nat}(h:∀v∈l,v<(w:Int)):V1 l w=l.length:=by
 unfold V1;rw[XM.2 λv a=>by have:=h v a;simpa using this]
def RT{l:List Int}(h:l.Pairwise (·<·))(i:Nat):∀k,V1 l (i+k)<=V1 l i+k
 |0=>Y7 _
 |k+1=>by
   have h1:=RT h i k;have a:=IJ h (i+k);by_cases hm:((i+k:Nat):Int)∈l
   have:=a.1 hm
   rw[show i+(k+1)=i+k+1 by omega];omega
   have:=a.2 hm
   rw[show i+(k+1)=i+k+1 by omega];omega
def Ir(T:E)(c:List aE)(f:aE)(r:T.pk.length<=6)(hl:c.length<=1000)(l:Wv T c):Wp (A5 T c f) λd=>Wv T d/\d.length<=c.length+1/\∃a b j,Mid T c (Z3 T f) a b j/\d=a++f::b:=by
 unfold A5;refine X0 (Cl c X) λo _ v=>?_;subst v;refine X0 (Ua T f X) λk _ u=>?_;subst u;have g:∀{a b j:List aE} {d:List aE},Mid T o (Z3 T f) a b j->d=a++f::b->Wv T d/\d.length<=o.length+1/\∃a b j,Mid T o (Z3 T f) a b j/\d=a++f::b:=λh e=>by
  subst e;refine⟨h.put l rfl,?_,_,_,_,h,rfl⟩
  have:=congrArg List.length h.eq
  simp at this|-;omega
 refine X0 (GT T o _ r) λq _ w=>?_;have⟨i,t,ab,n,y,s⟩:=w;rw[t];refine X1 (λh=>?_) λh=>?_;have⟨x,p,z⟩:=y h;have m:=(Y0.1 p).1;refine X4 ⟨X,X⟩ (X2 (g (KM l n p z) ?_));rw[Yn,Xz,if_pos m];refine X4 ⟨X,X,X⟩ (X2 (g (Ln l n (s h)) ?_));simp
end
end Go.Am
section
namespace Go.Am
def SK(M:Mp)(m:aB Mp):Prop:=Wp m λa=>a.out.length=M.out.length/\a.nc.length=M.nc.length
def SK.ret{M a}(b:a.out.length=M.out.length)(c:a.nc.length=M.nc.length):SK M (some a):=X2 ⟨b,c⟩
variable{M:Mp}{ρ σ:RN}
def LI.xN(L:LI M ρ σ){a}(f:M.cs.q=[a])(i:a.pk.length<=a.j.length)(b):Wp (Bq M b) λd=>d.2=true->d.1.length=a.j.length-a.pk.length:=by
 refine(Wb (L.jU f i b)).mono λd _ c h=>?_;subst c;unfold Ch at h|-;cases hl:ZR (Z3 a) (σ a.y) b with
 |none=>rw[hl] at h;cases h
 |some e=>?_
 have g:a∈M.cs.q:=by rw[f];simp
 have:=((L.rc a g).row e (Ut hl).1).len
 simp[this]
def Z5s{T}{c:Int}{b}(e:W7 T M.step.d=some (c,b))(d:0<=c){a}(h:c<a.length):Wp (Bn M T a) λ_=>True:=by
 unfold Bn;refine X0 (Wb e) λq _ f=>?_;subst f;exact X3 d h λx _ _=>X0 (Ga _ _ _) λ_ _ _=>X2 trivial
def LI.row(L:LI M ρ σ){T}(a:T∈M.src.q):(ρ T.y).length<=24/\T.pk.length<=6/\T.j.length<=6/\Wv T (ρ T.y)/\∀r∈ρ T.y,r.length=T.j.length:=
 ⟨(L.ri T a).l24,(L.a.tab T a).pk6,(L.a.tab T a).cols6,(L.ri T a).asc,λr b=>((L.ri T a).row r b).len⟩
def AE(L:LI M ρ σ){T}(a:T∈M.src.q){t}(b:T.y=t):Wp (VQ M t) λq=>q=(T,ρ T.y):=by subst b;exact Wb (L.input a)
def DP(L:LI M ρ σ){T}(a:T∈M.dst.q){t}(b:T.y=t):Wp (AS M t) λq=>q=T:=by subst b;exact Wb (L.out a)
def Z73(L:LI M ρ σ){W d a}(k:M.cs.q=[d])(hp:d.j.length=d.pk.length+a.length)(l:∀v∈a,0<=v/\v<(W.j.length:Int))(h6:a.length<=100)(b):Wp (D6 M b W a) λr=>r.length=a.length:=by
 unfold D6;refine X0 (L.xN k X b) λst _ f=>X1 (λh=>X2 (by rw[f (by simpa using h)];omega)) λ_=>?_;refine X6 (λi s=>s.length=i) rfl ?_ λs e=>X2 e;intro i v s next o m e n
 have hi:=(Y0.1 o).1;obtain⟨g,j⟩:=l v m;exact X3 g j λc _ _=>X0 (J4 _ _) λz _ _=>X8 sO (n _ (by simp[e]))
end Go.Am
end
section
namespace Go.Am
variable{M:Mp}{ρ σ:RN}
def Mj{S a}(c:∀T∈S.q,T.pk.length<=6)(e:∀r∈a,r.rows.length<=24)(n):Wp (Vv S a n) λq=>q.1.pk.length<=6/\q.2.length<=24:=by
 unfold Vv;refine X0 (UH S n) λf _ b=>X1 (λ_=>X2 ⟨I,I⟩) λk=>?_;obtain⟨i,T,_,-⟩:=b.2.1 (sU k);refine X3 b.1 i λT hT d=>X0 (R:=λy=>y=T) ⟨_,rfl,by cases T;rfl⟩ λy _ l=>?_;subst l;refine X1 (λ_=>X2 ⟨c _ d,I⟩) λj=>X3 b.1 (by simp at j;omega) λx _ g=>X0 (Cl x.rows (by have:=e x g;omega)) λr _ h=>X2 ⟨c _ d,by rw[h];exact e x g⟩
def NZ{S:Sch}{a:List J}(c:∀T∈S.q,T.pk.length<=6)(j:∀r∈a,r.rows.length<=24){f}(hf:f.j.length<=6)(b):Wp (D9 S a f b) λ_=>True:=by
 unfold D9;refine X0 (Mj c j f.ref) λq _ h=>X6 (λi s=>s.length<=i) (Y7 _) ?_ λs _=>X0 (GT _ _ _ h.1) λ_ _ _=>X2 trivial;intro i v s next k _ hs g
 have hi:=(Y0.1 k).1;exact X1 (λ_=>X2 trivial) λd=>X1 (λ_=>X2 trivial) λe=>(X3 (by simp at d;omega) (by simp at e;omega) λy _ _=>X1 (λ_=>X2 trivial) λ_=>X8 sO (g _ sO))
def Pz(c a):Wp (Dc c a) λ_=>True:=by
 unfold Dc;refine X1 (λ_=>X2 trivial) λe=>X1 (λ_=>X2 trivial) λf=>X1 (λ_=>X2 trivial) λg=>?_;have b:0<=c.left:=sU e;have d:c.left<a.length:=by simp at f;omega
 refine X1 (λh=>X3 (sU h) (by simp at g;omega) λx _ _=>X3 b d λy _ _=>X0 (Ga _ _ _) λq _ _=>X1 (λ_=>X2 trivial) λ_=>X2 trivial) λ_=>X3 b d λy _ _=>X0 (Ga _ _ _) λq _ _=>X1 (λ_=>X2 trivial) λ_=>X2 trivial
def Zcw{S a}(e:VS S)(m:∀r∈a,r.rows.length<=24)(t){c:List aE}(hl:c.length<=24):Wp (BM M S a t c) λ_=>True:=by
 unfold BM;refine X4 X (X6 (λ_ _=>True) trivial ?_ λ_ _=>X2 trivial);intro i d s next _ _ _ g
 unfold EN;refine X0 (R:=λ_=>True) (X1 (λ_=>X0 (Pz _ _) λ_ _ _=>X2 trivial) λ_=>X2 trivial) λb _ _=>?_;unfold KN;refine X6 (λ_ _=>True) trivial ?_ λb _=>X1 (λ_=>g _ trivial) λ_=>g _ trivial;intro j f b nx _ h _ k;refine X0 (R:=λ_=>True) ?_ λv _ _=>k _ trivial;unfold IG;exact X1 (λ_=>X2 trivial) λ_=>X1 (λ_=>X0 (NZ (λT l=>(e.tab T l).pk6) m (e.fk f h).1 d) λ_ _ _=>X2 trivial) λ_=>X2 trivial
def Zf3(a b):Wp (A1 a b) λ_=>True:=by
 unfold A1 BX D8;exact X0 (R:=λ_=>True) (X0 ((Xc λx _=>by unfold BW;exact X0 (EO x a) λ_ _ _=>X2 trivial)) λ_ _ _=>X2 trivial) λ_ _ _=>X2 trivial
def Vo(a:List J):Nat:=(a.map λr=>r.rows.length).sum
def QM:∀(l:List Nat) i a b,l[i]?=some a->(l.set i b).sum+a=l.sum+b
 |[],i,a,b,h=>by simp at h
 |x::l,0,a,b,h=>by
   simp at h;subst h;simp;omega
 |x::l,i+1,a,b,h=>by
   have:=QM l i a b (sU h)
   simp;omega
def Z7e{a}{i:Nat}{x}(h:a[i]?=some x)(y):Vo (a.set i y)+x.rows.length=Vo a+y.rows.length:=by unfold Vo;rw[YJ];exact QM _ i _ _ (by rw[Y9,h];rfl)
structure Less(a b:List J):Prop where
 len:b.length=a.length
 at_:∀(i:Nat) x y,a[i]?=some x->b[i]?=some y->y.u=x.u/\y.rows.Sublist x.rows
def Less.refl{a}:Less a a:=⟨rfl,λi x y c b=>by rw[c] at b;cases b;exact⟨rfl,.refl _⟩⟩
def Less.trans{a b c}(e:Less a b)(d:Less b c):Less a c:=⟨d.len.trans e.len,λi x z l g=>by
 have k:i<b.length:=by have:=(Y0.1 g).1;rw[<-d.len];exact this
 have f:b[i]?=some b[i]:=Y1 k;have⟨h,m⟩:=e.at_ i x _ l f;have⟨j,n⟩:=d.at_ i _ z f g;exact⟨j.trans h,n.trans m⟩⟩
def Less.le{a b}(h:Less a b)(e:∀r∈a,r.rows.length<=24):∀r∈b,r.rows.length<=24:=λr f=>by
 obtain⟨i,d,rfl⟩:=Yo f;have c:i<a.length:=by rw[<-h.len];exact d
 have:=(h.at_ i _ _ (Y1 c) (Y1 d)).2.length_le
 have:=e _ (Yh c)
 omega
def Zf2{a}{i:Nat}(hi:i<a.length)(b):Wp (CQ a (i:Int) b) λq=>Less a q.1/\Vo q.1<=Vo a/\(q.2=true->Vo q.1<Vo a):=by
 unfold CQ;refine X3 X X λx d _=>X4 (λg _=>by obtain⟨r,h,-⟩:=Zf3 g b;rw[h];rfl) (X2 ?_);have d:a[i]?=some x:=sU d;have h1:Vo (a.set i ⟨x.u,x.rows.filter λx=>!WC b x⟩)+x.rows.length=Vo a+(x.rows.filter λx=>!WC b x).length:=Z7e d ⟨x.u,x.rows.filter λx=>!WC b x⟩;have h2:=XR (λx=>!WC b x) x.rows;simp only[Yn];refine⟨⟨I,λj y z f c=>?_⟩,X,λh=>by have:=of_decide_eq_true h;omega⟩;rw[XW] at c;split at c;rename_i e;subst e;rw[d] at f;cases f;cases c;exact⟨rfl,XY⟩;rw[f] at c;cases c;exact⟨rfl,.refl _⟩
def PS:∀{a:List J},(∀r∈a,r.rows.length<=24)->Vo a<=24*a.length
 |[],_=>by simp[Vo]
 |x::xs,h=>by
   have b:=PS λr c=>h r (Yc _ c);have h2:=h x (Y8 ..);simp only[Vo,Yb,List.sum_cons,YM] at b|-;omega
end Go.Am
end
section
namespace Go.Am
variable{M:Mp}{ρ σ:RN}
def My{α:Type}{eq:α->α->aB Bool}{a b:List α}(k:∀x y,Wp (eq x y) λr=>r=true↔x=y):
  Wp (bif ((a.length:Int) !=(b.length:Int)) then(some false) else(Zd (λ(i:Nat) (x:α) (_:Unit) next=>(Za b (i:Int) λy=>(Z1 (eq x y) λv=>(bif !v then(some false) else(next ()))))) (λ(_:Unit)=>(some true)) a 0 ())) λr=>r=true↔a=b:=by
 refine X1 (λh=>X2 ?_) λh=>?_
 have:a.length≠b.length:=by simp at h;omega
 simp only[YX,false_iff];exact λd=>this (by rw[d]);have m:a.length=b.length:=by simp at h;omega
 refine X6 (λi _=>a.take i=b.take i) rfl ?_ λs c=>X2 ?_
 .intro i x s next o hm c n
  have⟨l,e⟩:=Y0.1 o;have j:b[i]?=some b[i]:=Y1 X;refine X5 j (X0 (k x b[i]) λv _ f=>X1 (λh=>X2 ?_) λh=>n () ?_);simp only[YX,false_iff];intro d;have g:x=b[i]:=by rw[<-e];simp[d]
  rw[f.2 g] at h;cases h;rw[Yg l,Yg (X:i<b.length),c,e,f.1 (sU h)]
 rw[Yl,m,Yl] at c;simp[c]
def Zaq(a b:List aE):Wp (G3 a b) λr=>r=true↔a=b:=by
 unfold G3;refine X0 (My (eq:=λx y=>FX x y) λx y=>?_) λr _ c=>X2 c;exact X0 (EO x y) λr _ c=>X2 c
def ER(a b:List J):Wp (C3 a b) λr=>r=true↔a=b:=by
 unfold C3;refine X0 (My (eq:=λx y=>Em x y) λx y=>?_) λr _ c=>X2 c;unfold Em;refine X1 (λh=>X0 (Zaq _ _) λr _ c=>X2 ?_) λh=>X2 ?_;rw[c]
 have:=ZD.1 h
 exact⟨λd=>by cases x;cases y;simp_all,λd=>by rw[d]⟩;simp only[YX,false_iff];rintro rfl;rw[ED] at h;cases h
def L7(S:Sch)(h:S.q.length<=1048576):Wp (As S) λr=>r=mkI S λ_=>[]:=by
 have hL:=VX;unfold As;refine X6 (λi (s:List J)=>s=(S.q.take i).map λT=>⟨T.y,[]⟩) rfl ?_ λs a=>X2 (by rw[a,Yl];rfl);intro i T s next e hm a d
 have⟨c,b⟩:=Y0.1 e;refine X8 (by rw[a];simp;omega) (d _ ?_);rw[a,Yg c,b];simp
def LI.xC(L:LI M ρ σ):M.inp.length=M.src.q.length/\(∀r∈M.inp,r.rows.length<=24)/\M.comp.length=M.cs.q.length/\∀r∈M.comp,r.rows.length<=24:=by
 rw[L.inp,L.comp];refine⟨Vk,λr b=>?_,Vk,λr b=>?_⟩;obtain⟨T,a,rfl⟩:=Yi.1 b;exact(L.ri T a).l24;obtain⟨T,a,rfl⟩:=Yi.1 b;exact(L.rc T a).l24
end Go.Am
end
namespace Go.Am
section
def UK{α:Type}{a}(h:a.Pairwise (·<·)){xs:List α}(f:∀v∈a,0<=v/\v<(xs.length:Int)):(Zo a 0 xs).length+a.length=xs.length:=by
 have d:∀i,i<=xs.length->(Zo a 0 (xs.take i)).length+V1 a i=i:=by
  intro i
  induction i with
  |zero=>intro _;rw[LF λv c=>(f v c).1];rfl
  |succ i ih=>?_
  intro hi;have h1:=ih X;have g:xs[i]?=some xs[i]:=Y1 X;rw[Dl a g,Ye];have e:=IJ h i;by_cases b:(i:Int)∈a;rw[e.1 b,if_pos b];simp;omega;rw[e.2 b,if_neg b];simp;omega
 have:=d xs.length (Y7 _)
 rwa [Yl,Md λv c=>(f v c).2] at this
def Jh{S:Sch}(b:Wf S.q){i j:Nat}{T O}(c:S.q[i]?=some T)(d:S.q[j]?=some O)(a:i≠j):T.y≠O.y:=λh=>a (b.uniq i j T O c d (ZD.2 h))
def CG{b:List E}{i:Nat}{T a}(h:b[i]?=some T):a∈b.set i a:=by have⟨c,_⟩:=Y0.1 h;exact Y2 (i:=i) (by simp[c])
inductive Sh2(S S':Sch)(x:Stp):Prop
 |add {T T':E} (k:x.g=1) (t:Two S S' x T T') (h:T'.j.length=T.j.length+1)
 |drop {T T':E} {c:Int} (k:x.g=2) (t:Two S S' x T T') (hc:W7 T x.d=some (c,true)) (h0:0<=c/\c<T.j.length) (h:T'.j.length+1=T.j.length) (hp:T'.pk.length=T.pk.length)
 |type {T T':E} {c:Int} (k:x.g=5) (t:Two S S' x T T') (hc:W7 T x.d=some (c,true)) (h0:0<=c/\c<T.j.length) (h:T'.j.length=T.j.length)
 |split {T T' O:E} (k:x.g=6) (t:Two S S' x T T') (hs:SplitOK T x.j) (h:T'.j.length+x.j.length=T.j.length) (hp:T'.pk.length=T.pk.length) (o:O∈S'.q) (on:O.y=x.o) (oc:O.j.length=T.pk.length+x.j.length)
 |join {T T' O:E} (k:x.g=7) (t:Two S S' x T T') (o:O∈S.q) (on:O.y=x.o) (op:O.pk=ZZ T.pk.length) (hc:T'.j=T.j++O.j.drop T.pk.length)
 |part {T O:E} (k:x.g=8) (t:Two S S' x T T) (o:O∈S'.q) (on:O.y=x.o) (oc:O.j=T.j)
 |merge {T T' O:E} (k:x.g=9) (t:Two S S' x T T') (o:O∈S.q) (on:O.y=x.o) (hc:T'.j=T.j++[⟨x.d,2,false⟩])
 |concat {T T':E} {a b:Int} (k:x.g=12) (t:Two S S' x T T') (hx:x.j=[a,b]) (h0:0<=a/\a<b/\b<T.j.length) (h:T'.j.length+1=T.j.length)
 |create (k:x.g=10) (n:x.v∈S'.q)
 |droptab {T:E} (k:x.g=11) (t:T∈S.q) (tn:T.y=x.u)
 |same (k:13<=x.g) (e:S'.q=S.q)
 |name (k:x.g=3\/x.g=4)
def LV{T:E}{rm:List Int}(h:rm.Pairwise (·<·))(a:∀v∈rm,0<=v/\v<(T.j.length:Int)):(ZW T rm).j.length+rm.length=T.j.length/\(ZW T rm).pk.length=T.pk.length:=⟨UK h a,by simp[ZW]⟩
def Zfe{S n:Sch}{x:Stp}(A:VS S)(z:EvT S n.q x):Sh2 S n x:=by
 have p:=A.ord.1;have two:∀{i:Nat} {T T':E},S.q[i]?=some T->Z9 T.y x.u=true->n.q=S.q.set i T'->T'.y=T.y->Two S n x T T':=λd f e q=>
  ⟨Y2 d,e▸CG d,ZD.1 f,by rw[q];exact ZD.1 f⟩
 have g:∀{T:E} {c:Int} {g:Col},W7 T x.d=some (c,true)->T.j[c.toNat]?=some g->0<=c/\c<T.j.length:=λ{T c g} hc hcol=>by
  have⟨r,u,o⟩:=AX T x.d;rw[hc] at u;cases u
  have:=(Y0.1 hcol).1
  have:=o.1
  omega
 cases z with
 |add k d f hd e=>exact .add k (two d f e rfl) I
 |drop k d f hc hcol hp hd e=>?_
 |rencol k d f hcol e=>exact .name (.inl k)
 |ren k d f ho e=>exact .name (.inr k)
 |type k d f hc hcol hp e=>exact .type k (two d f e rfl) hc (g hc hcol) I
 |split k d f ho hs e=>?_
 |join k d f hj ho hij hp hk e=>?_
 |part k d f hc hcol hq m hk ho e=>?_
 |merge k d f hj ho hij hc hp e=>?_
 |create k ho e=>exact .create k (by rw[e];exact(C9 _).2 (.inl rfl))
 |droptab k ho e=>?_
 |concat k d f hx B s C hka hkb hp e=>?_
 |rule k e=>exact .same k e
 have o:=g hc hcol;have l:=LV (Xt _ _) (λv m=>by rwa [Yj.1 m]);exact .drop k (two d f e rfl) hc o l.1 l.2;rename_i i T;have l:=LV (Je hs.asc) hs.rng;refine .split (T':=ZW T x.j) (O:=⟨x.o,(T.pk++x.j).map (Zf T),ZZ T.pk.length⟩) k ⟨Y2 d,?_,ZD.1 f,ZD.1 f⟩ hs l.1 l.2 ?_ rfl I;rw[e];exact(C9 _).2 (.inr (CG d));rw[e];exact(C9 _).2 (.inl rfl);rename_i i j T O;have w:(S.q.set i {T with j:=T.j++O.j.drop T.pk.length})[j]?=some O:=by rw[Ys hij];exact hj
 refine .join (T':={T with j:=T.j++O.j.drop T.pk.length}) k ⟨Y2 d,?_,ZD.1 f,ZD.1 f⟩ (Y2 hj) (ZD.1 ho) hp rfl;rw[e];exact(Lp (P0 (T':={T with j:=T.j++O.j.drop T.pk.length}) p d rfl) w _).2 ⟨CG d,λh=>Jh p d hj hij (show T.y=O.y from h)⟩;rename_i i T c g b;refine .part (O:={T with y:=x.o}) k ⟨Y2 d,?_,ZD.1 f,ZD.1 f⟩ ?_ rfl rfl;rw[e];exact(C9 _).2 (.inr (Y2 d));rw[e];exact(C9 _).2 (.inl rfl);rename_i i j T O;refine .merge (T':={T with pk:=T.pk++[(T.j.length:Int)],j:=T.j++[⟨x.d,2,false⟩]}) k ⟨Y2 d,?_,ZD.1 f,ZD.1 f⟩ (Y2 hj) (ZD.1 ho) rfl;rw[e];refine Y3b.2 ⟨CG d,?_⟩;cases h:Z9 T.y O.y with
 |false=>simp
 |true=>exact absurd (ZD.1 h) (Jh p d hj hij)
 have⟨T,q,f⟩:=ho;exact .droptab k q (ZD.1 f);rename_i i T a b;have l:=LV (T:=T) (rm:=x.j) (by rw[hx];simp[s]) (λv m=>by rw[hx] at m;simp at m;omega);refine .concat k (two d f e rfl) hx ⟨B,s,C⟩ ?_;have t:=l.1;rw[hx] at t;simp only[ZW,Ye,YM,Y3a] at t|-;rw[hx];omega
structure COK(S S':Sch)(x:Stp)(C:Sch):Prop where
 t6:C.q.length<=6
 ck:∀T∈C.q,T.pk.length<=6/\T.j.length<=100
 nm:Wf C.q
 one:x.g=1\/x.g=2\/5<=x.g/\x.g<=8\/x.g=12->∃ct ks,C.q=[ct]/\∀T T',Two S S' x T T'->CT T ks ct/\JC x T T' ks
 all:13<=x.g->C.q=S.q
 nil:x.g=3\/x.g=4\/x.g=9->C.q=[]
 cre:x.g=10->C.q=[x.v]
 dro:x.g=11->∃T∈S.q,T.y=x.u/\C.q=[T]
def Pc(T):Wf [T]:=Xt _ _
def Two.uniq{S a}(i:VS S)(d:VS a){x T b U c}(t:Two S a x T b)(u:Two S a x U c):U=T/\c=b:=by have e:=C7 i.ord.1 t.s;have f:=C7 i.ord.1 u.s;have g:=C7 d.ord.1 t.s';have h:=C7 d.ord.1 u.s';rw[t.n] at e;rw[u.n,e] at f;rw[t.n'] at g;rw[u.n',g] at h;exact⟨(Option.some.inj f).symm,(Option.some.inj h).symm⟩
def R0{S b x}(h:Is (VR S x) (b,0)):1<=x.g/\x.g<=16:=by
 unfold VR at h;have⟨e,he,h⟩:=h.bind;cases h1:(e !=0) with
 |true=>rw[h1] at h;cases h;simp at h1
 |false=>?_
 rw[h1] at h;have⟨a,c,h⟩:=Is.bind h;cases h2:(a !=0) with
 |true=>rw[h2] at h;cases h;simp at h2
 |false=>?_
 have⟨r,f,d⟩:=Nl x;obtain rfl:a=r:=Option.some.inj (c.symm.trans f);exact d (sU h2)
def Z2n{S m:Sch}{x:Stp}(K:VR S x=some (m,0))(j:VS S)(C:VS m)(ev:EvT S m.q x):Wp (FQ S x) λq=>q.2=0/\COK S m x q.1:=by
 have h6:=j.t6;have h8:=j.f8;have B:∀{k:Int},x.g=k->13<=k->Wp (Z1 (UG S) λv=>some (Sch.mk v.q [] [],(0:Int))) λq=>q.2=0/\COK S m x q.1:=λ{k} he hk1=>
  X0 (I1 S X X) λv _ p=>X2 ⟨rfl,by subst p;exact⟨h6,λT A=>⟨(j.tab T A).pk6,by have:=(j.tab T A).cols6;omega⟩,j.ord.1,X,λ_=>rfl,X,X,X⟩⟩
 have none:x.g=3\/x.g=4\/x.g=9->COK S m x (Sch.mk [] [] []):=λh=>⟨I,I,.nil,X,X,λ_=>rfl,X,X⟩;have Z:∀{T:E},(x.g=10/\T=x.v)\/(x.g=11/\T∈S.q/\T.y=x.u)->VT T->COK S m x (Sch.mk [T] [] []):=λ{T} l A=>⟨I,λU F=>by rw[Yj.1 F];exact⟨A.pk6,by have:=A.cols6;omega⟩,Pc _,X,X,X,λh=>by rcases l with l|l;rw[l.2];omega,λh=>by rcases l with l|l;omega;exact⟨T,l.2.1,l.2.2,rfl⟩⟩;have sh:=Zfe j ev;unfold FQ;refine X0 ⟨_,K,rfl⟩ λv _ p=>?_;subst p;refine X1 (λh=>by simp at h) λ_=>X1 (λh=>B (sU h) X) λah=>X1 (λh=>B (sU h) X) λaj=>X1 (λh=>B (sU h) X) λak=>X1 (λh=>B (sU h) X) λag=>?_;refine X1 (λh=>X2 ⟨rfl,none (.inl (sU h))⟩) λn3=>X1 (λh=>X2 ⟨rfl,none (.inr (.inl (sU h)))⟩) λn4=>X1 (λh=>X2 ⟨rfl,none (.inr (.inr (sU h)))⟩) λn9=>?_;simp at ah aj ak ag n3 n4 n9;have f:∀{T z:E} (_:Two S m x T z),(x.g=1\/x.g=2\/5<=x.g/\x.g<=8\/x.g=12)->(x.g=2\/x.g=5->∃c,W7 T x.d=some (c,true)/\0<=c/\c<T.j.length/\(x.g=5->c<z.j.length))->
   (x.g=12->∃a b,x.j=[a,b]/\0<=a/\a<T.j.length/\0<=b/\b<T.j.length)->(x.g=7->T.j.length<=z.j.length)->(x.g=6->SplitOK T x.j)->Wp (Z1 (Ck S m x) λv=>some (Sch.mk [v] [] [],(0:Int))) λq=>q.2=0/\COK S m x q.1:=by
  intro T z t l r g s d;refine X0 (Zap j C l t r g s d) λct _ D=>X2 ⟨rfl,?_⟩;obtain⟨Y,D,J⟩:=D;have hl:=D.lens;have M:=(j.tab T t.s).pk6;have ao:=(j.tab T t.s).cols6;have al:=(C.tab z t.s').cols6;have am:Y.length<=20:=by
   have⟨N,O,P,H,W,V,Q⟩:=J;rcases show x.g=1\/x.g=2\/x.g=5\/x.g=6\/x.g=7\/x.g=8\/x.g=12 by clear r g s d N O P H W V Q;omega with h|h|h|h|h|h|h
   rw[N h];simp;obtain⟨c,-,-,-,h⟩:=O h;rw[h];simp;obtain⟨c,-,-,-,-,h⟩:=P h;rw[h];simp
   have:=UK (Je (d h).asc) (d h).rng
   rw[Q h,Yd];omega;rw[V h,Yd,Xm];omega;rw[W h];simp;obtain⟨a,b,-,-,-,-,-,h⟩:=H h;rw[h];simp
  refine⟨I,λU F=>by rw[Yj.1 F];omega,Pc _,λ_=>⟨ct,Y,rfl,λU U' u=>?_⟩,by clear r g s d;omega,by clear r g s d;omega,by clear r g s d;omega,by clear r g s d;omega⟩;obtain⟨rfl,rfl⟩:=t.uniq j C u;exact⟨D,J⟩
 cases sh with
 |add k t h=>exact f t X X X X X
 |drop k t w h0 h M=>exact f t X (λ_=>⟨_,w,h0.1,h0.2,X⟩) X X X
 |type k t w h0 h=>exact f t X (λ_=>⟨_,w,h0.1,h0.2,X⟩) X X X
 |split k t hs h M o on oc=>exact f t X X X X (λ_=>hs)
 |join k t o on op w=>exact f t X X X (λ_=>by rw[w];simp) X
 |part k t o on oc=>exact f t X X X X X
 |concat k t hx h0 h=>exact f t X X (λ_=>⟨_,_,hx,X,X,X,X⟩) X X
 |merge k t o on w=>omega
 |create k n=>?_
 |droptab k t tn=>?_
 |same k e=>have:=(R0 K).2;omega
 |name k=>omega
 refine X0 (R:=λv=>v=x.v) ?_ λv _ p=>X2 ⟨rfl,by rw[p];exact Z (.inl ⟨k,rfl⟩) (C.tab _ n)⟩;unfold Ck;refine X1 (λ_=>X0 ⟨_,rfl,by cases x.v;rfl⟩ λy _ G=>X2 G) λh=>by simp at h;omega
 rename_i T;have⟨i,L,hi⟩:=Cz j.ord.1 t;rw[tn] at L;refine X0 (R:=λv=>v=T) ?_ λv _ p=>X2 ⟨rfl,by rw[p];exact Z (.inr ⟨k,t,tn⟩) (j.tab _ t)⟩;unfold Ck;refine X9 sO<|Xb L ?_;refine X5 hi (X1 (λ_=>X0 ⟨_,rfl,by cases T;rfl⟩ λy _ G=>X2 G) λh=>by simp at h;omega)
end
end Go.Am
section
namespace Go.Am
variable{M:Mp}{ρ σ:RN}
def Z78(n k:Nat):((List.range n).map λi=>((k+i:Nat):Int)).Pairwise (·<·):=by
 rw[Y05];exact List.pairwise_lt_range.imp λh=>X
def Z88{W a:E}{n:Nat}(c:M.cs.q=[a])(d:M.step.g≠6)(hl:a.j.length=a.pk.length+n)(aa:n<=W.j.length)(h6:W.j.length<=100):UZ M W=some ((List.range n).map λi=>((W.j.length-n+i:Nat):Int)):=by
 have hL:=VX;refine Ww ?_;unfold UZ;refine X1 (λh=>absurd (sU h) d) λ_=>?_;refine X5 (i:=0) (show M.cs.q[0]?=some a by rw[c];rfl) (X4 (by simp only[Wm];omega) ?_);rw[show((a.j.length:Int)-(a.pk.length:Int)).toNat=n by omega];refine Xa (λi (s:List Int)=>s=(List.range i).map λi=>((W.j.length-n+i:Nat):Int)) rfl ?_ λs b=>X2 b;intro i s next hi b e
 refine X4 (by simp only[Wm];omega) (X4 (by simp only[Wm];omega) (X8 (by rw[b];simp;omega) (X4 (by simp only[Wm];omega) (e _ ?_))));rw[b,List.range_succ,YL];simp;omega
end Go.Am
end
