import Derived.Test.YtbicbojfaghjcaaGreatDoorJ6
import Derived.Test.YtbicbojfaghjcaaGreatDoorCards
import Derived.Test.YtbicbojfaghjcaaGreatDoorTie
import Derived.ProofKit
import Derived.OpenShut
import Derived.Lay
import Derived.Deep.DeepWitnessRowRef
set_option linter.all false
set_option maxRecDepth 20000
open Go Go.Proofs
open Go.Proofs.Tryz
open ByteArray(empty)
namespace Go.Am
section
abbrev Zpb(e:Edg):List C:=e.z.map C.d
def Zqg(h:HS)(g:Gr)(r:Gr)(j:Is (Zpl g) r)(K:V->HS->Prop)(f:∀c a,MR a 2 c (r.n.map Zpb)->(∀k∈Z c,h.p<=k.1/\k.1<a.p)->Z0 h a []->ZG h a->K (.agg [.d (.sl (r.base.q.map E.z)),.d (.sl (r.base.b.map Fk.z)),.d (.sl (r.base.cons.map Cons.z)),c]) a):
  Z5 prog 26 [.agg (g.z.map C.d)] h K:=by
 refine Z5.jE func26 rfl kR λhg=>?_;refine Z5.ov func26 ?_;unfold Zpl at j;obtain⟨b,W,j⟩:=j.bind;simp;refine Zx (Ki g.base b W) I ?_;simp;intro ak;refine Z6.for (λi s e a=>∃c,En e 30 [(2,.p (h.p+1,32)),(3,.p (h.p+1+1+1,48)),(11,.l (g.n.map Edg.z)),(12,.i (g.n.length:Int)),(13,.i (i:Int))]/\a.a (h.p+1,32)=some [.nil,.nil,.nil,.nil]/\a.a (h.p+1+1+1,48)=some [.d (.sl (b.q.map E.z)),.d (.sl (b.b.map Fk.z)),.d (.sl (b.cons.map Cons.z)),c]/\MR a 2 c (s.map Zpb)/\s.length=i/\Z0 h a []/\h.p+1+1+1<a.p/\∀k∈Z c,h.p+1+1+1<k.1/\k.1<a.p) j
  ⟨.nil,I,I,I,MR.nil,rfl,?_,I,by simp[Z]⟩ ?_ ?_
 .repeat' first|exact Z0.refl|apply Z0.w|apply Z0.qC|(refine Z0.qA ?_ (.inr (by first|(simp;done)|(simp;omega))))
 .rintro i s e a ⟨c,q,z,u,M,O,A,y,m⟩ hlt j;have hw:IntKind.i64.wrap ((i:Int)+1)=(i:Int)+1:=Y6 _ X;obtain⟨v,hv,j⟩:=j.bind;obtain⟨-,j⟩:=j.chk;have Q:=Zv (l:=(h.p+1+1+1,48)) y;have N:=W1 (l:=(h.p+1+1+1,48)) y;have n1:=Zv (l:=(h.p+1,32)) (n:=a.p) sO;simp[q,hlt];refine Z6.of (Wy.draw (Y.qB [0,1,2,3,4,5,6,7,8,9,10,11] .done) follows kR ?_);simp[Y.qB,vcPlan,planOps,isCallAt,callKind,q,u,Q,N];refine Zx (Zqj g.n[i].script v hv) I ?_;simp[Y.qB,vcPlan,planOps,isCallAt,callKind,q,u,Q,N];refine⟨λ_ _ x=>x,?_⟩;have B:Z0 a (((a.qA (a.p,80) [C.d (D.int IntKind.i64 0),C.nil]).w.qA (a.p,80) [C.d (D.int IntKind.i64 g.n[i].m),C.d (D.sl (List.map Stp.z g.n[i].script))]).w.qC (a.p+1+1,400) (some (1,2))).w []:=by
   repeat' first|exact Z0.refl|apply Z0.w|apply Z0.qC|(refine Z0.qA ?_ (.inr (by first|(simp;done)|(simp;omega))))
  refine Wl QI kR dE dE (M.frame λk f=>B.2 k (m k f).2 I) (Zr.qU rfl) sO λF w J o H=>?_;have aj:∀k∈Z c,a.p<=k.1\/h.p+1+1+1<k.1:=λk f=>.inr (m k f).1;have S:w.a (h.p+1+1+1,48)=some [.d (.sl (b.q.map E.z)),.d (.sl (b.b.map Fk.z)),.d (.sl (b.cons.map Cons.z)),c]:=by
   rw[o.2 _ sO (λt=>by have:=(m _ t).1;simp at this),B.2 _ y I,u]
  have U:w.a (h.p+1,32)=some [.nil,.nil,.nil,.nil]:=by
   rw[o.2 _ sO (λt=>by have:=(m _ t).1;simp at this;omega),B.2 _ sO I,z]
  have R:=o.1;simp at R;have L:Z0 h w []:=Z0.trans' (A.trans B) o λk f=>.inr (by have:=(m k f).1;omega);simp[q,hw,S];have P:∀k∈Z F,h.p+1+1+1<k.1/\k.1<w.p:=λk f=>by
   rcases H k f with t|t
   have:=m k t
   omega;simp at t;omega
  have T:MR w 2 F ((s++[(⟨g.n[i].m,v⟩:Edg)]).map Zpb):=by rw[YL];exact J
  refine Zj.of (s++[⟨g.n[i].m,v⟩]) ⟨⟨F,by simp[q],by simp[U],I,T.frame λk f=>?_,by simp[O],?_,sO,λk f=>?_⟩,j⟩;have G:k≠(h.p+1+1+1,48):=by rintro rfl;have:=(P _ f).1;simp at this
  simp[G];exact L.qA (.inr I)
  have:=P k f
  simp;omega
 rintro s e a ⟨c,q,z,u,M,O,A,y,m⟩ j;obtain rfl:=Zk j;simp[q,z,u];simp[ZS,ZK,ZX,W5,q,z,u];refine f c _ (M.frame λk f=>?_) (λk f=>?_) (A.qA (.inr I)) ((A.qA (.inr I)).jA hg);have G:k≠(h.p+1,32):=by rintro rfl;have:=(m _ f).1;simp at this;omega
 simp[G]
 have:=m k f
 simp;omega
def Zpd(e_:Int):Option (Gr×Db×Int):=
 some ((Gr.mk (Sch.mk [] [] []) []),(Db.mk [] []),e_)
instance Zpg(e_:Int):Con (Zpd e_) prog 33 [.one (.d (.int .i64 e_))] (λr=>.tup [.agg (r.1.z.map RC.d),.agg (r.2.1.z.map RC.d),.one (.d (.int .i64 r.2.2))]):=by unfold Zpd;exact go 8 func33
instance Zhu(s_:Sch):Con (As s_) prog 92 [.agg s_.z] (λr=>.one (.d (.sl (r.map J.z)))):=⟨λr hm=>Ke s_ r hm⟩
def JZ(s_:Sch)(step:Stp):Option ((List J)×Int):=
 Z1 (Bx s_ step) λv3=>bif (v3.2.2 !=0) then some ([],v3.2.2) else Z1 (As v3.2.1) λv7=>some (v7,0)
instance Zgq(s_:Sch)(step:Stp):Con (JZ s_ step) prog 62 [.agg s_.z,.agg step.z] (λr=>.tup [.one (.d (.sl (r.1.map J.z))),.one (.d (.int .i64 r.2))]):=by unfold JZ;exact go 21 func62
def JQ(s_:Sch)(script:List Stp):Option ((List (List J))×Int):=
 Z1 (Bu s_ script) λv2=>bif (v2.2 !=0) then some ([],v2.2) else Zd (λ(i5:Nat) (x5:Stp) (s5:(List (List J))) next_5=>Za v2.1 (i5:Int) λx7=>Z1 (JZ x7 x5) λv8=>bif (v8.2 !=0) then some ([],v8.2) else Wn s5 [v8.1] λ_=>next_5 (s5++[v8.1])) (λ(s5:(List (List J)))=>some (s5,0)) script 0 []
instance Tg(s_:Sch)(script:List Stp):Con (JQ s_ script) prog 35 [.agg s_.z,.one (.d (.sl (script.map Stp.z)))] (λr=>.tup [.one (.d (.sl (r.1.map (Z7 J.z)))),.one (.d (.int .i64 r.2))]):=by
 unfold JQ;have l1:LH (σ:=(List (List J))) 24 [6,22,23] [.g 8 1 (λs=>s.map (Z7 J.z))]:=.intro;have p1:PH [8] (Y.qB [0,1,2,3,4,5,6,7,8,9,10] .done):=.intro;exact go 47 func35
def Zpn(g:Gr)(b:Db)(a:Int)(f:List Stp):Option (Gr×Db×Int):=
 Z1 (C0 g b) λe=>bif e !=0 then Zpd e else
 bif (b.insts.length:Int)==8 then Zpd 18 else
 bif decide (a<0)||decide ((b.insts.length:Int)<=a) then Zpd 4 else
 Z1 (Zpl g) λc=>Z1 (Zpo f) λh=>Zp (c.n.length+1<=2097152)<|
 Z1 (Ar ⟨c.base,c.n++[⟨a,h⟩]⟩) λq=>bif q.2 !=0 then Zpd q.2 else
 Za q.1 a λS=>Z1 (JQ S f) λd=>bif d.2 !=0 then Zpd d.2 else
 Za b.insts a λx=>Z1 (UF S f x d.1) λr=>bif r.2.2 !=0 then Zpd r.2.2 else
 Za q.1 ((q.1.length:Int)-1) λL=>Z1 (Bs L r.1) λi=>bif i !=0 then Zpd i else
 Zp (MV b/\b.insts.length+1<=2097152/\b.comps.length+1<=2097152)<|some (⟨c.base,c.n++[⟨a,h⟩]⟩,⟨b.insts++[r.1],b.comps++[r.2.1]⟩,0)
def Z5.xV{P:Program}{f:FuncId}{r vs':List V}{h:HS}{K:V->HS->Prop}(a:List Z2)(m:Z2)(o b:List C)(G:h.a m=some o)(s:m∉a)(z:Aj (h.only a) o b)(H:Cc (h.only a) r vs')(q:Z5 P f vs' ((h.qP a).qA m b) K):Z5 P f r h K:=by
 refine⟨q.1,λΓ μ w vals hI hR=>?_⟩;obtain⟨d,e⟩:=Cc.get H;refine(q.2 Γ (μ.frz h a w) w vals (hI.wV a G s (λconc p=>by
  obtain⟨E,d⟩:=Aj.get z;refine⟨by rw[p.1,E],λi B l=>?_⟩;obtain⟨c,e,g⟩:=d i B l;obtain⟨n,j,k⟩:=p.2 i c e;exact⟨n,j,g.rep hI a k⟩)) ⟨by rw[hR.1,d],λi x l=>?_⟩).mono ?_
 obtain⟨y,g,j⟩:=e i x l;obtain⟨n,k,F⟩:=hR.2 i y g;exact⟨n,k,j.rep hI a F⟩;rintro en w' ⟨u,v,D,μ',rfl,I,t,J,A⟩;exact⟨u,v,D,μ',rfl,I,t,J,Mem.jG.trans A⟩
def Zq4{h:HS}{c:C}{l:List Edg}(m:MR h 2 c (l.map Zpb)):Frz h c (.sl (l.map Edg.z)):=
 m.frz I (λt a=>by obtain⟨y,_,rfl⟩:=Yi.1 a;rfl) λi x t b a=>by
  rw[Y9] at b a;cases hq:l[i]? with
  |none=>rw[hq] at b;cases b
  |some q=>?_
  rw[hq] at b a;cases b;cases a;exact Oh
set_option maxHeartbeats 2000000 in
def Zrj(g:Gr)(G:Db)(c:Int)(sc:List Stp)(r:Gr×Db×Int)(j:Is (Zpn g G c sc) r):
  Zq prog 12 [.agg g.z,.agg G.z,.i c,.l (sc.map Stp.z)] (.tup [.agg (r.1.z.map RC.d),.agg (r.2.1.z.map RC.d),.i r.2.2]):=by
 unfold Zpn at j;refine Zq.of_heap ?_;show Z5 _ _ [.agg (g.z.map C.d),.agg (G.z.map C.d),.i c,.l (sc.map Stp.z)] HS.init _;refine Z5.ov func12 ?_;obtain⟨e,he,j⟩:=j.bind;simp;refine Zx ((Z0i g G).h e he) I ?_;simp;refine ZP j ?_ ?_<;>clear j<;>intro hc j;simp;refine Zx ((Zpg e).h r j) I ?_;obtain rfl:=Zk j;simp[ZS,ZK,ZX,W5];exact⟨⟨.data rfl,.data rfl,.data rfl,.data rfl,trivial⟩,⟨.data rfl,.data rfl,trivial⟩,.data rfl,trivial⟩;simp;intro cd;refine ZP j ?_ ?_<;>clear j<;>intro cb j;simp;refine Zx ((Zpg 18).h r j) I ?_;obtain rfl:=Zk j;simp[ZS,ZK,ZX,W5];exact⟨⟨.data rfl,.data rfl,.data rfl,.data rfl,trivial⟩,⟨.data rfl,.data rfl,trivial⟩,.data rfl,trivial⟩;by_cases hv0:c<0;simp only[hv0,decide_true,Bool.true_or,cond_true] at j;simp[hv0];refine Zx ((Zpg 4).h r j) I ?_;obtain rfl:=Zk j;simp[ZS,ZK,ZX,W5];exact⟨⟨.data rfl,.data rfl,.data rfl,.data rfl,trivial⟩,⟨.data rfl,.data rfl,trivial⟩,.data rfl,trivial⟩;have au:decide (c<0)=false:=by simp[hv0]
 rw[au,Bool.false_or] at j;simp[hv0]
 try (intro bz)
 try simp[hv0]
 refine ZP j ?_ ?_<;>clear j<;>intro cj j;simp;refine Zx ((Zpg 4).h r j) I ?_;obtain rfl:=Zk j;simp[ZS,ZK,ZX,W5];exact⟨⟨.data rfl,.data rfl,.data rfl,.data rfl,trivial⟩,⟨.data rfl,.data rfl,trivial⟩,.data rfl,trivial⟩;obtain⟨o,br,j⟩:=j.bind;obtain⟨K,bb,j⟩:=j.bind;obtain⟨b6,j⟩:=j.chk;obtain⟨q,hq,j⟩:=j.bind;simp;refine Zc (Zqg _ g o br _ λce n mE y ak _=>?_);have b0:=ak.2 (0,64) I I;have b1:=ak.2 (1,80) I I;have b2:=ak.2 (2,128) I I;have b3:=ak.2 (3,144) I I;have ar:=ak.1;simp at b0 b1 b2 b3 ar;have y:∀k∈Z ce,5<=k.1/\k.1<n.p:=λk m=>by
  have:=y k m
  simp at this;exact this
 clear ak;simp;refine Z6.cu [0,1,2,3,4,5,6,7,8,9] (λe1 t=>∃z,En e1 152 [(2,.i c),(3,.l (sc.map Stp.z)),(4,.p (0,64)),(5,.p (1,80)),(8,.p (2,128)),(9,.p (3,144)),(10,.i 0),(11,.one (.fn 33 [])),(13,.p (n.p,208))]/\
  t.a (0,64)=some (g.z.map C.d)/\t.a (1,80)=some (G.z.map C.d)/\t.a (2,128)=some [.nil,.nil,.nil,.nil]/\t.a (3,144)=some [.nil,.nil]/\t.a (n.p,208)=some [.d (.sl (o.base.q.map E.z)),.d (.sl (o.base.b.map Fk.z)),.d (.sl (o.base.cons.map Cons.z)),z]/\MR t 2 z ((o.n++[(⟨c,K⟩:Edg)]).map Zpb)/\n.p<t.p/\∀k∈Z z,3<k.1/\k.1≠n.p/\k.1<t.p) ?_ ?_
 .simp[Y.qB,vcPlan,planOps,isCallAt,callKind];refine Zx (Zqj sc K bb) I ?_;simp[Y.qB,vcPlan,planOps,isCallAt,callKind];refine⟨λ_ _ x=>x,?_⟩;have s0:Z0 n (((n.qA (n.p,208) [C.nil,C.nil,C.nil,C.nil]).w.qA (n.p,208) [C.d (D.sl (List.map E.z o.base.q)),C.d (D.sl (List.map Fk.z o.base.b)),C.d (D.sl (List.map Cons.z o.base.cons)),ce]).w.qC (n.p+1+1,1008) (some (1,2))).w []:=by
   repeat' first|exact Z0.refl|apply Z0.w|apply Z0.qC|(refine Z0.qA ?_ (.inr (by first|(simp;done)|(simp;omega))))
  refine Wl QI kR dE dE (mE.frame λk m=>s0.2 k (y k m).2 I) (Zr.qU rfl) sO λz t hm2 B hl2=>?_;have a7:=B.1;simp at a7;have n8:=B.2 (n.p,208) (by first|(simp;done)|(simp;omega)) λf=>by have:=(y _ f).2;simp at this
  have n0:=B.2 (0,64) (by first|(simp;done)|(simp;omega)) λf=>by have:=(y _ f).1;simp at this
  have n1:=B.2 (1,80) (by first|(simp;done)|(simp;omega)) λf=>by have:=(y _ f).1;simp at this
  have n2:=B.2 (2,128) (by first|(simp;done)|(simp;omega)) λf=>by have:=(y _ f).1;simp at this
  have n3:=B.2 (3,144) (by first|(simp;done)|(simp;omega)) λf=>by have:=(y _ f).1;simp at this
  have u:∀a b,a<=3->((a,b)=(n.p,208))=False:=λa b ha=>eq_false (by intro f;simp at f;omega);simp[u] at n0 n1 n2 n3 n8;rw[b0] at n0;rw[b1] at n1;rw[b2] at n2;rw[b3] at n3;have az:∀k∈Z z,3<k.1/\k.1≠n.p/\k.1<t.p:=λk m=>by
   rcases hl2 k m with f|f
   have:=y k f
   omega;simp at f;omega
  have bq:MR t 2 z ((o.n++[(⟨c,K⟩:Edg)]).map Zpb):=by rw[YL];exact hm2
  simp[n8];refine Ze.of ⟨z,I,by simp[u,n0,Gr.z],by simp[u,n1,Db.z],by simp[u,n2],by simp[u,n3],I,bq.frame λk m=>?_,sO,λk m=>by simpa using az k m⟩;have F:k≠(n.p,208):=by rintro rfl;have:=(az _ m).2.1;simp at this
  simp[F]
 rintro e1 t ⟨z,s,b0,b1,b2,b3,b8,mE,cg,y⟩;have am:3<n.p:=X
 simp[s,b8];refine Zc (Z5.xV (Z z) (n.p,208) _ [.d (.sl (o.base.q.map E.z)),.d (.sl (o.base.b.map Fk.z)),.d (.sl (o.base.cons.map Cons.z)),.d (.sl ((o.n++[(⟨c,K⟩:Edg)]).map Edg.z))] b8 (λf=>(y _ f).2.1 rfl) ⟨.refl,.refl,.refl,.inr ⟨_,rfl,Zq4 (mE.frame λk m=>by simp only[HS.only];rw[if_pos m])⟩,trivial⟩
  (vs':=[.agg [.d (.sl (o.base.q.map E.z)),.d (.sl (o.base.b.map Fk.z)),.d (.sl (o.base.cons.map Cons.z)),.d (.sl ((o.n++[(⟨c,K⟩:Edg)]).map Edg.z))]]) ⟨?_,trivial⟩ (Z5.xG 68 ((Ns ⟨o.base,o.n++[⟨c,K⟩]⟩).h q hq) I ?_))
 exact⟨.refl,.refl,.refl,.inr ⟨_,rfl,Zq4 (mE.frame λk m=>by simp only[HS.only];rw[if_pos m])⟩,trivial⟩;have sn:∀lo,lo∉Z z->(t.qP (Z z)).a lo=t.a lo:=λlo N=>by simp only[HS.qP];rw[if_neg N]
 have u:∀a b,a<=3->((a,b)=(n.p,208))=False:=λa b ha=>eq_false (by intro f;simp at f;omega);have N:∀a b,a<=3->(a,b)∉Z z:=λa b ha f=>by have:=(y _ f).1;simp at this;omega
 generalize T:(((t.qP (Z z)).qA (n.p,208) [.d (.sl (o.base.q.map E.z)),.d (.sl (o.base.b.map Fk.z)),.d (.sl (o.base.cons.map Cons.z)),.d (.sl ((o.n++[(⟨c,K⟩:Edg)]).map Edg.z))]).qL 68 (RV.tup [.l (q.1.map Sch.z),.i q.2]).fr).w=F;have c0:F.a (0,64)=some (g.z.map C.d):=by rw[<-T,<-b0,<-sn _ (N 0 64 X)];simp[u]
 have c1:F.a (1,80)=some (G.z.map C.d):=by rw[<-T,<-b1,<-sn _ (N 1 80 X)];simp[u]
 have V:F.a (2,128)=some [.nil,.nil,.nil,.nil]:=by rw[<-T,<-b2,<-sn _ (N 2 128 X)];simp[u]
 have W:F.a (3,144)=some [.nil,.nil]:=by rw[<-T,<-b3,<-sn _ (N 3 144 X)];simp[u]
 have c8:F.a (n.p,208)=some [.d (.sl (o.base.q.map E.z)),.d (.sl (o.base.b.map Fk.z)),.d (.sl (o.base.cons.map Cons.z)),.d (.sl ((o.n++[(⟨c,K⟩:Edg)]).map Edg.z))]:=by rw[<-T];simp
 have ah:n.p<F.p:=by rw[<-T];simp[HS.qP];omega
 clear T sn N mE y b0 b1 b2 b3 b8;simp only[Db.z,Yb,Yf] at c1;simp[s];refine ZP j ?_ ?_<;>clear j<;>intro b9 j;simp[s];refine Zx ((Zpg q.2).h r j) I ?_;obtain rfl:=Zk j;simp[ZS,ZK,ZX,W5,s,V,W];exact⟨⟨.data rfl,.data rfl,.data rfl,.data rfl,trivial⟩,⟨.data rfl,.data rfl,trivial⟩,.data rfl,trivial⟩;obtain⟨S,ba,hS,j⟩:=j.get;obtain⟨em,bg,j⟩:=j.bind;simp[s,ba,hS];refine Zx ((Tg S sc).h em bg) I ?_;simp[s];refine ZP j ?_ ?_<;>clear j<;>intro b5 j;simp[s];refine Zx ((Zpg em.2).h r j) I ?_;obtain rfl:=Zk j;simp[ZS,ZK,ZX,W5,s,V,W];exact⟨⟨.data rfl,.data rfl,.data rfl,.data rfl,trivial⟩,⟨.data rfl,.data rfl,trivial⟩,.data rfl,trivial⟩;obtain⟨x,-,hx,j⟩:=j.get;obtain⟨v,bj,j⟩:=j.bind;refine Z6.cu [0,1,2,3,4,5,6,7,8,9,10,11,12,13,14,15,16,17,18] (λe2 h4=>En e2 152 [(5,.p (1,80)),(8,.p (2,128)),(9,.p (3,144)),(10,.i 0),(11,.one (.fn 33 [])),(13,.p (n.p,208)),(14,.l (q.1.map Sch.z)),(15,.i v.2.2),(17,.l (v.1.map J.z)),(18,.l (v.2.1.map (Z7 J.z)))]/\Z0 F h4 []) ?_ ?_;simp[Y.qB,vcPlan,planOps,isCallAt,callKind,s,ba,hS,c1,hx];refine Zx (NA S sc x em.1 v bj) I ?_;simp[Y.qB,vcPlan,planOps,isCallAt,callKind,s]
 try refine⟨λ_ _ x=>x,?_⟩
 refine Ze.of ⟨by simp[s],?_⟩;exact sm;rintro e2 h4 ⟨s,ap⟩;have ld:∀{a b:Nat},a<=3->h4.a (a,b)=F.a (a,b):=λ{a b} ha=>ap.2 _ sO I;have c1:=(ld (a:=1) (b:=80) X).trans c1;have V:=(ld (a:=2) (b:=128) X).trans V;have W:=(ld (a:=3) (b:=144) X).trans W;have c8:=(ap.2 (n.p,208) ah I).trans c8;have ah:n.p<h4.p:=Y4 ah ap.1;simp[s];refine ZP j ?_ ?_<;>clear j<;>intro ch j;simp[s];refine Zx ((Zpg v.2.2).h r j) I ?_;obtain rfl:=Zk j;simp[ZS,ZK,ZX,W5,s,V,W];exact⟨⟨.data rfl,.data rfl,.data rfl,.data rfl,trivial⟩,⟨.data rfl,.data rfl,trivial⟩,.data rfl,trivial⟩;obtain⟨L,bd,hL,j⟩:=j.get;obtain⟨e9,bi,j⟩:=j.bind;simp[s,bd,hL];intro ck;have bk:IntKind.i64.wrap ((q.1.length:Int)-1)=(q.1.length:Int)-1:=Y6 _ X;have bv:q.1[q.1.length-1]?=some L:=by rw[<-hL];congr 1;omega
 have bh:(1:Int)<=q.1.length:=X;simp[s,bk,bh,bv];refine Zx ((Z0h L v.1).h e9 bi) I ?_;simp[s];refine ZP j ?_ ?_<;>clear j<;>intro ca j;simp[s];refine Zx ((Zpg e9).h r j) I ?_;obtain rfl:=Zk j;simp[ZS,ZK,ZX,W5,s,V,W];exact⟨⟨.data rfl,.data rfl,.data rfl,.data rfl,trivial⟩,⟨.data rfl,.data rfl,trivial⟩,.data rfl,trivial⟩;obtain⟨aq,j⟩:=j.chk;obtain rfl:=Zk j;simp[s,c1];refine Zc (Z10 _ G (λx hx=>NV (aq.1.1 x hx)) (λl hl=>Z3i (aq.1.2 l hl).1 (aq.1.2 l hl).2) _ λci cc A mI mC hl hd ao=>?_);simp[s];have k1:=(ao.2 (2,128) sO I).trans V;have k2:=(ao.2 (3,144) sO I).trans W;have k8:=(ao.2 (n.p,208) sO I).trans c8;have bw:n.p<A.p:=Y4 ah (by have:=ao.1;simp at this;omega);refine Z6.cut (Y.qB [0,1,2,5,7] (.three 3 6 8 (Y.qB [] (.three 4 6 8 (Y.qB [6,10,8,9,11,12,13] .done) (Y.qB [] (.two 4 8 (Y.qB [10,8,9,11,12,13] .done) (Y.qB [4,10,9,11,12,13] .done))) (Y.qB [] (.two 4 6 (Y.qB [6,10,9,11,12,13] .done) (Y.qB [4,10,9,11,12,13] .done))))) (Y.qB [] (.two 3 8 (Y.qB [] (.two 4 8 (Y.qB [10,8,9,11,12,13] .done) (Y.qB [4,10,9,11,12,13] .done))) (Y.qB [3,4,10,9,11,12,13] .done))) (Y.qB [] (.two 3 6 (Y.qB [] (.two 4 6 (Y.qB [6,10,9,11,12,13] .done) (Y.qB [4,10,9,11,12,13] .done))) (Y.qB [3,4,10,9,11,12,13] .done))))) follows kR (λe3 Q=>∃O P,En e3 152 [(8,.p (2,128)),(9,.p (3,144)),(13,.p (n.p,208)),(20,.p (A.p,320))]/\
  Wt Q O ((G.insts++[v.1]).map Wq)/\Wt Q P ((G.comps++[v.2.1]).map Um)/\Q.a (A.p,320)=some [O,P]/\Q.a (n.p,208)=A.a (n.p,208)/\Q.a (2,128)=some [.nil,.nil,.nil,.nil]/\Q.a (3,144)=some [.nil,.nil]/\∀k∈Z O++Z P,3<k.1) ?_ ?_
 .have⟨rs,mi,ei⟩:=mI;have⟨ss,mc,ec⟩:=mC;have b4:rs.length=G.insts.length:=by have:=congrArg List.length ei;simpa using this
  have b7:ss.length=G.comps.length:=by have:=congrArg List.length ec;simpa using this
  have aj:∀k∈Z ci,3<k.1/\n.p<k.1/\k.1<A.p:=λk m=>by
   have:=hl k (by simp[m])
   simp at this;omega
  have U:∀k∈Z cc,3<k.1/\n.p<k.1/\k.1<A.p:=λk m=>by
   have:=hl k (by simp[m])
   simp at this;omega
  simp[Y.qB,vcPlan,planOps,isCallAt,callKind,s]
  and_intros
  all_goals
   refine Wl CC kR dE dE (mi.frame λk m=>?_) (Zr.qU rfl) (by simp[Zw];omega) λO R bm M bp=>?_
   have:=(aj k m).2
   have f:k≠(A.p,320):=by rintro rfl;simp at this
   simp[f];have bn:=M.1;simp at bn;have a4:=M.2 (A.p,320) (by first|(simp;done)|(simp;omega)) λf=>by have:=(aj _ f).2.2;simp at this
   have a1:=M.2 (n.p,208) (by first|(simp;done)|(simp;omega)) λf=>by have:=(aj _ f).2.1;simp at this
   have a2:=M.2 (2,128) (by first|(simp;done)|(simp;omega)) λf=>by have:=(aj _ f).1;simp at this
   have a3:=M.2 (3,144) (by first|(simp;done)|(simp;omega)) λf=>by have:=(aj _ f).1;simp at this
   have a8:∀k∈Z O,k.1<R.p/\3<k.1/\n.p<k.1/\k≠(A.p,320)/\k∉Z cc:=λk m=>by
    rcases bp k m with f|f;have b:=aj k f;exact⟨X,b.1,b.2.1,λe=>by rw[e] at b;simp at b,hd k f⟩;simp at f;exact⟨f.2,X,X,λe=>by rw[e] at f;simp at f;omega,λe=>by have:=(U k e).2.2;omega⟩
   have u:∀a b,a<=n.p->((a,b)=(A.p,320))=False:=λa b ha=>eq_false (by intro f;simp at f;omega);simp[u,am,Y03] at a1 a2 a3 a4;simp[Y.qB,vcPlan,planOps,isCallAt,callKind,s,a4];refine Wl IP kR dE dE (mc.frame λk m=>?_) (Zr.qU rfl) (by simp[Zw];omega) λP h8 bu aw bc=>?_
   .have b:=(U k m).2.2;have f:k≠(A.p,320):=by rintro rfl;simp at b
    have h8:=M.2 k (by first|(simp;done)|(simp;omega)) λf=>hd k f m;simp[f] at h8;simpa using h8
   have al:Z0 R h8 (Z cc):=⟨by have:=aw.1;first|exact this|(simp at this;omega),λk m N=>by have:=aw.2 k (by first|exact m|(simp;omega)) N;simpa using this⟩;have n1:=(al.2 (n.p,208) X λf=>by have:=(U _ f).2.1;simp at this).trans a1;have n2:=(al.2 (2,128) sO λf=>by have:=(U _ f).1;simp at this).trans a2;have n3:=(al.2 (3,144) sO λf=>by have:=(U _ f).1;simp at this).trans a3;have n4:=(al.2 (A.p,320) sO λf=>by have:=(U _ f).2.2;simp at this).trans a4;have ax:∀k∈Z P,3<k.1/\n.p<k.1/\k≠(A.p,320):=λk m=>by
    have f:k∈Z cc\/R.p<=k.1:=by rcases bc k m with f|f;exact .inl f;exact .inr (by have:=f.1;first|exact this|(simp at this;omega))
    rcases f with f|f;have b:=U k f;exact⟨b.1,b.2.1,λe=>by rw[e] at b;simp at b⟩;exact⟨X,X,λe=>by rw[e] at f;simp at f;omega⟩
   simp[Y.qB,vcPlan,planOps,isCallAt,callKind,s,n4];refine Ze.of ⟨O,P,by simp[s],⟨rs++[.d (.sl (v.1.map J.z))],?_,?_⟩,⟨ss++[.d (.sl (v.2.1.map (Z7 J.z)))],?_,?_⟩,I,by simp[u,n1],by simp[u,am,Y03,n2,k1],by simp[u,am,Y03,n3,k2],λk m=>?_⟩;rw[show Zw (rs++[C.d (D.sl (v.1.map J.z))])=Zw rs++[List.map C.d [D.sl (v.1.map J.z)]] from by simp[Zw]];exact bm.frame λk m=>by have b:=a8 k m;simp[b.2.2.2.1];exact al.2 k b.1 b.2.2.2.2
   rw[YL,ei];simp[Wq,C.toD];rw[show Zw (ss++[C.d (D.sl (v.2.1.map (Z7 J.z)))])=Zw ss++[List.map C.d [D.sl (v.2.1.map (Z7 J.z))]] from by simp[Zw]];exact bu.frame λk m=>by simp[(ax k m).2.2]
   rw[YL,ec];simp[Um,C.toD];rcases Y3.1 m with f|f;exact(a8 k f).2.1;exact(ax k f).1
 rintro e3 Q ⟨O,P,s,bt,bf,g4,g8,g2,g3,ay⟩;have f8:=g8.trans k8;refine Z6.cut (Y.qB [0] (.two 1 2 (Y.qB [2,3,4] .done) (Y.qB [1,3,4] .done))) follows kR (λe4 R=>En e4 152 [(8,.p (2,128)),(9,.p (3,144)),(10,.i 0)]/\R.a (2,128)=some [.d (.sl (o.base.q.map E.z)),.d (.sl (o.base.b.map Fk.z)),.d (.sl (o.base.cons.map Cons.z)),.d (.sl ((o.n++[(⟨c,K⟩:Edg)]).map Edg.z))]/\R.a (3,144)=some [O,P]/\∀k:Z2,3<k.1->R.a k=Q.a k) ?_ ?_;simp[Y.qB,vcPlan,planOps,isCallAt,callKind,s,g4,f8,g2,g3];refine Ze.of ⟨by simp[s],I,I,λk m=>?_⟩;have t:k≠(2,128):=by rintro rfl;simp at m
 have F:k≠(3,144):=by rintro rfl;simp at m
 simp[t,F];rintro e4 R ⟨s,j2,j3,M⟩;simp[ZS,ZK,ZX,W5,s,j2,j3];have fI:=Z7n (bt.frame λk m=>M k (ay k (by simp[m])));have fC:=Z7x (bf.frame λk m=>M k (ay k (by simp[m])));simp[Z7] at fI fC;exact⟨⟨.data rfl,.data rfl,.data rfl,.data rfl,trivial⟩,⟨fI,fC,trivial⟩,.data rfl,trivial⟩
def Zqi(a:List Stp)(h:a.length<=2097152):Wp (Zpo a) λr=>r=a:=by
 have hL:=VX;unfold Zpo;refine X6 (λi s=>s=a.take i) I ?_ λs c=>X2 (by rw[c,Yl]);intro i x s next d _ c e
 have b:=Y0.1 d;subst c;refine X0 (Z0r x) λy _ f=>X8 (by have:=b.1;simp;omega) (e _ ?_);rw[Yg b.1,b.2,f]
def Zqk{g:Gr}{b}(o:F6 g)(a:VerOK g b):Wp (Zpl g) λr=>r=g:=by
 have hL:=VX;have j:=a.vs g.base (Y2 a.fst);have h7:=a.l7;have hl:=a.len;unfold Zpl;refine X0 (I1 g.base (by have:=j.t6;omega) (by have:=j.f8;omega)) λS _ c=>?_;refine X6 (λi s=>s=g.n.take i) I ?_ λs h=>X2 (by rw[h,Yl,c]);intro i e s next d l h n
 have f:=Y0.1 d;have ac:=f.1;have hp:=a.n i e d;have⟨r,k,m⟩:=NJ (b[e.m.toNat]'X) e.script (o e l);rw[a.edge i e _ _ d (Y1 (X:e.m.toNat<b.length)) (Y1 (X:i+1<b.length))] at k;cases k;have⟨_,_,q,_⟩:=m rfl;have h6:=q.l6;subst h;refine X0 (Zqi e.script X) λy _ p=>X8 sO (n _ ?_);rw[Yg f.1,f.2,p]
def Ztl{g:Gr}{e:Edg}{b a:List Sch}(c:VerOK g b)(d:VerOK ⟨g.base,g.n++[e]⟩ a):∃C,a=b++[C]:=by
 have hl:=c.len;have k:=d.len;simp only[Ye,Y34] at k;have f:∀n i:Nat,i<=n->i<b.length->a[i]?=b[i]?:=λn=>by
  induction n with|zero=>?_|succ n ih=>?_
  intro i h _;obtain rfl:i=0:=X;rw[c.fst,d.fst];intro i h s;cases i with
  |zero=>rw[c.fst,d.fst]
  |succ i=>?_
  have j:=Y1 (l:=g.n) (i:=i) X;have hp:=c.n i _ j;have r:=Y1 (l:=b) (i:=(g.n[i]).m.toNat) X;have m:=ih _ (X:(g.n[i]).m.toNat<=n) X;rw[r] at m;have o:=Y1 s;have p:=Y1 (l:=a) (i:=i+1) X;have q:=c.edge i _ _ _ j r o;rw[d.edge i _ _ _ (by simp only;rw[Yu X];exact j) m p] at q;rw[o,p,(Prod.mk.inj (Option.some.inj q)).1]
 refine⟨a[b.length]'X,YU λi=>?_⟩;rcases Y01 i b.length with h|h|h;rw[Yu h];exact f i i (Y7 _) h;subst h;rw[YC (Y7 _),Y3f,Y1 X];rfl;rw[Yq X,Yq sO]
def Zsz(S x)(c:U7 x):Wp (JZ S x) λ_=>True:=by
 unfold JZ;refine X0 (Zsj S x c) λq _ b=>X1 (λ_=>X2 trivial) λh=>?_;have⟨_,_,_,a,_⟩:=b (sU h);exact X0 (L7 q.2.1 (by have:=a.t6;omega)) λ_ _ _=>X2 trivial
def Zsl(S a)(d:∀x∈a,U7 x):Wp (JQ S a) λ_=>True:=by
 have hL:=VX;unfold JQ;refine X0 (K8 S a d) λq _ j=>X1 (λ_=>X2 trivial) λh=>?_;have b:=j (sU h);have hl:=b.len;have h6:=b.l6;refine X6 (λi (s:List (List J))=>s.length=i) rfl ?_ λs c=>X2 trivial;intro i x s next e f c g
 have hi:=(Y0.1 e).1;exact X3 X X λy _ _=>X0 (Zsz y x (d x f)) λr _ _=>X1 (λ_=>X2 trivial) λ_=>X8 sO (g _ (by simp[c]))
structure EvE(g:Gr)(db:Db)(parent:Int)(sc:List Stp)(Ss:List Sch)(S C:Sch)(x b:List J)(em c:List (List J))(q:Gr×Db×Int):Prop where
 d:DbV g db Ss
 p0:0<=parent
 p1:parent<Ss.length
 sS:Ss[parent.toNat]?=some S
 sx:db.insts[parent.toNat]?=some x
 hem:JQ S sc=some (em,0)
 fw:UF S sc x em=some (b,c,0)
 gr:q.1=⟨g.base,g.n++[⟨parent,sc⟩]⟩
 hdb:q.2.1=⟨db.insts++[b],db.comps++[c]⟩
 d':DbV ⟨g.base,g.n++[⟨parent,sc⟩]⟩ ⟨db.insts++[b],db.comps++[c]⟩ (Ss++[C])
def Zql{g:Gr}(f:F6 g){a:Int}{c:List Stp}(b:∀x∈c,U7 x):F6 ⟨g.base,g.n++[⟨a,c⟩]⟩:=λe d=>by rcases Y3.1 d with h|h;exact f e h;rw[Yj.1 h];exact b
def Zsk{g}(M:F6 g)(F)(f:Int){n:List Stp}(r:∀x∈n,U7 x)(h8:n.length<=8):Wp (Zpn g F f n) λq=>(q.2.2≠0->q.2.1=⟨[],[]⟩)/\(q.2.2=0->∃l S C x b p c,EvE g F f n l S C x b p c q):=by
 have j:∀{e:Int},e≠0->Wp (Zpd e) λq=>(q.2.2≠0->q.2.1=⟨[],[]⟩)/\(q.2.2=0->∃l S C x b p c,EvE g F f n l S C x b p c q):=λh=>by
  unfold Zpd;exact X2 ⟨λ_=>rfl,λh0=>absurd h0 h⟩
 unfold Zpn;refine X0 (Z2l M F) λe _ he=>X1 (λh=>j (sU h)) λh=>?_;have⟨l,d⟩:=he (sU h);have T:=d.ver.len;have J:=d.li;have N:=d.lc;have h7:=d.ver.l7;refine X1 (λ_=>j dE) λ_=>X1 (λ_=>j dE) λz=>?_;have z:0<=f/\f<l.length:=by simp at z;omega
 refine X0 (Zqk M d.ver) λgc _ W=>X0 (Zqi n X) λau _ V=>?_;rw[W,V];refine X4 X (X0 (Z0k _ (Zql M r)) λq aq hq=>X1 (λh=>j (sU h)) λh=>?_);have Q:q.2=0:=sU h;have t:=hq Q;have⟨C,R⟩:=Ztl d.ver t;have Y:Ar ⟨g.base,g.n++[⟨f,n⟩]⟩=some (l++[C],0):=by rw[aq,<-Q,<-R]
 rw[R] at t|-;refine X3 z.1 sO λS G hSm=>?_;rw[Yu X] at G;refine X0 (Zsl S n r) λp H _=>X1 (λh=>j (sU h)) λao=>X3 z.1 X λx O _=>X0 (J6 S n r x p.1) λu E _=>X1 (λh=>j (sU h)) λZ=>X3 (by simp<;>omega) (by simp<;>omega) λL B K=>?_;obtain rfl:L=C:=by rw[show(((l++[C]).length:Int)-1).toNat=l.length by simp<;>omega,YC (Y7 _),Y3f] at B;exact(Option.some.inj B).symm
 refine X0 (O8 (t.vs L K) u.1) λe2 ap D=>X1 (λh=>j (sU h)) λh2=>X4 ⟨d.ok,X,X⟩ (X2 ⟨λh=>absurd rfl h,λ_=>⟨l,S,L,x,u.1,p.1,u.2.1,?_⟩⟩);obtain rfl:e2=0:=sU h2;have H:JQ S n=some (p.1,0):=by rw[H,<-show p.2=0 from sU ao]
 have E:UF S n x p.1=some (u.1,u.2.1,0):=by rw[E,<-show u.2.2=0 from sU Z]
 have B:(l++[L])[l.length]?=some L:=I;refine⟨d,z.1,z.2,G,O,H,E,rfl,rfl,t,Y,by simp[J],by simp[N],λi U x' o m=>?_,λi e P a b' c' s A v w y=>?_⟩;simp only at m;rcases Yx i l.length with h9|h9;rw[Yu h9] at o;rw[Yu X] at m;exact d.inst i U x' o m
 have:=(Y0.1 o).1
 simp at this;obtain rfl:i=l.length:=X;rw[B] at o;rw[<-J] at m;simp at m;cases o;subst m;exact⟨ap,D rfl⟩;have hi:=(Y0.1 s).1;have ar:=t.n i e s;simp only[Ye,Y34] at hi s v w y;rw[Yu X] at A v;rcases Yx i g.n.length with h9|h9;rw[Yu h9] at s;rw[Yu X] at w y;exact d.edge i e P a b' c' s A v w y;obtain rfl:i=g.n.length:=X
 have am:=t.edge g.n.length ⟨f,n⟩ S L I (by rw[Yu (by simp only;omega)];exact G) (by rw[<-T];exact B);simp at s;subst s;simp only at A v;rw[G] at A;rw[O] at v;rw[<-T,<-J] at w;rw[<-N] at y;simp at w y;cases A;cases v;subst w y;exact Z58 (k:=false) r am (show EZ false S n x p.1=_ from E) (D rfl).1
def Zrb(h:HS)(c:C)(xs:List (List C))(i j:Nat)(hm:MR h 1 c xs)(hij:i<=j)(hj:j<=xs.length)(K:V->HS->Prop)
  (hk:∀c' b,MR b 1 c' (xs.take i++xs.drop j)->(∀l,l∉Z c->b.a l=h.a l)->b.p=h.p->b.arr=h.arr->Z c'=Z c->K (.one c') b):
  Z5 prog 30 [.one c,.i i,.i j] h K:=by
 have F:=func30;have EL:=@IP;have ZE:=@Zqu;exact GQ
def Zre(h:HS)(c:C)(xs:List (List C))(i j:Nat)(hm:MR h 2 c xs)(hij:i<=j)(hj:j<=xs.length)(K:V->HS->Prop)
  (hk:∀c' b,MR b 2 c' (xs.take i++xs.drop j)->(∀l,l∉Z c->b.a l=h.a l)->b.p=h.p->b.arr=h.arr->Z c'=Z c->K (.one c') b):
  Z5 prog 28 [.one c,.i i,.i j] h K:=by
 have F:=func28;have EL:=@QI;have ZE:=@Zqs;exact GQ
def Zrc(h:HS)(c:C)(xs:List (List C))(i j:Nat)(hm:MR h 1 c xs)(hij:i<=j)(hj:j<=xs.length)(K:V->HS->Prop)
  (hk:∀c' b,MR b 1 c' (xs.take i++xs.drop j)->(∀l,l∉Z c->b.a l=h.a l)->b.p=h.p->b.arr=h.arr->Z c'=Z c->K (.one c') b):
  Z5 prog 29 [.one c,.i i,.i j] h K:=by
 have F:=func29;have EL:=@CC;have ZE:=@Zqt;exact GQ
def Zpm(edge:Edg)(k0:Int):Option Bool:=
 some (edge.m==k0)
instance Zrh(edge:Edg)(k0:Int):Con (Zpm edge k0) prog 25 [.agg edge.z,.one (.rp [.int .i64 k0])] (λr=>.one (.d (.bool r))):=by unfold Zpm;exact go 8 func25
def Zpu(s_:List Edg)(f:Edg->Option Bool):Option Int:=
 Zd (λ(i2:Nat) (x2:Edg) (s2:Unit) next_2=>Z1 (f x2) λv3=>bif v3 then some (i2:Int) else next_2 ()) (λ(s2:Unit)=>some (-1)) s_ 0 ()
instance Zui(s_:List Edg)(f:Edg->Option Bool){g:FuncId}{caps:List (List D)}[ConF f prog (λx=>.agg x.z) (λv=>.one (.d (.bool v))) g caps]:Con (Zpu s_ f) prog 56 [.one (.d (.sl (s_.map Edg.z))),.one (.fn g caps)] (λr=>.one (.d (.int .i64 r))):=by unfold Zpu;have l1:LH (σ:=Unit) 8 [0,1,7] []:=.intro;exact go 19 func56
def Zpj(s_:List Edg)(f:Edg->Option Bool):Option Bool:=
 Z1 (Zpu s_ f) λv1=>some (decide (0<=v1))
instance Zr9(s_:List Edg)(f:Edg->Option Bool){g:FuncId}{caps:List (List D)}[ConF f prog (λx=>.agg x.z) (λv=>.one (.d (.bool v))) g caps]:Con (Zpj s_ f) prog 24 [.one (.d (.sl (s_.map Edg.z))),.one (.fn g caps)] (λr=>.one (.d (.bool r))):=by unfold Zpj;exact go 9 func24
def Zra(s_:List Edg)(g:FuncId)(caps:List (List D))(f:Edg->Option Bool)(hf:∀xa v,Is (f xa) v->Zq prog g (.agg xa.z::Wu caps) (.one (.d (.bool v))))(r:Bool)(hm:Is (Zpj s_ f) r):Zq prog 24 [.one (.d (.sl (s_.map Edg.z))),.one (.fn g caps)] (.one (.d (.bool r))):=
 haveI:ConF f prog (λx=>.agg x.z) (λv=>.one (.d (.bool v))) g caps:=⟨hf⟩
 (Zr9 s_ f).h r hm
def T0(v:Int)(e:Edg):Edg:=⟨bif decide (v<e.m) then e.m-1 else e.m,e.script⟩
def Zph(g:Gr)(a:Db)(v:Int):Option (Gr×Db×Int):=
 Z1 (C0 g a) λe=>bif e !=0 then some (⟨⟨[],[],[]⟩,[]⟩,⟨[],[]⟩,e) else
 bif decide (v<1)||decide ((g.n.length:Int)<v) then some (⟨⟨[],[],[]⟩,[]⟩,⟨[],[]⟩,4) else
 Z1 (Zpj g.n λx=>Zpm x v) λb=>bif b then some (⟨⟨[],[],[]⟩,[]⟩,⟨[],[]⟩,15) else
 Z1 (Zpl g) λc=>Zp (MV a/\c.n.length=g.n.length/\v<a.insts.length/\v<=a.comps.length/\∀e∈c.n,-2097152<=e.m/\e.m<=2097152)<|
 some (⟨c.base,(c.n.take (v.toNat-1)++c.n.drop v.toNat).map (T0 v)⟩,⟨a.insts.take v.toNat++a.insts.drop (v.toNat+1),a.comps.take (v.toNat-1)++a.comps.drop v.toNat⟩,0)
def Zr1{a:List Edg}:Zy 2 (a.map Zpb):=λx b=>by obtain⟨y,_,rfl⟩:=Yi.1 b;rfl
def Zri(h:HS)(d:Db)(i:∀x∈d.insts,Is (Vw x) x)(j:∀x∈d.comps,Is (Dg x) x)(K:V->HS->Prop)(l:∀c b a,Wt a c (d.insts.map Wq)->Wt a b (d.comps.map Um)->(∀k∈Z c++Z b,h.p<=k.1/\k.1<a.p)->(∀k∈Z c,k∉Z b)->Z0 h a []->ZG h a->K (.agg [c,b]) a):
  Z5 prog 27 [.agg (d.z.map C.d)] h K:=
 Z5.jE func27 rfl kR λf=>Z10 h d i j K λc b a n o m g e=>l c b a n o m g e (e.jA f)
def Zps(e:Env)(f:Z2->Z2->Prop):Prop:=match e.get 10,e.get 11 with| .one (.ptr a 0),.one (.ptr b 0)=>f a b|_,_=>False
def Zps.of{e:Env}{f:Z2->Z2->Prop}(h:Zps e f):∃a b,e.get 10=.p a/\e.get 11=.p b/\f a b:=by unfold Zps at h;split at h;exact⟨_,_,by assumption,by assumption,h⟩;exact h.elim
def Zq5{k:Z2}{n j:Nat}(h:k.1≠n):(k=(n,j))=False:=eq_false λa=>h (by rw[a])
def Zug{j l:Z2}{g f e:C}(p:j≠l)(o:∀k∈Z g++Z f++Z e,k≠j/\k≠l)(n:∀k∈Z g,k∉Z f++Z e)(q:∀k∈Z f,k∉Z e):(j::l::(Z g++Z f++Z e)).Nodup:=by
 have m:∀c:C,(Z c).Nodup:=λc=>by cases c<;>simp[Z]
 refine XF.2 ⟨λd=>?_,XF.2 ⟨λd=>(o _ d).2 rfl,Yk.2 ⟨Yk.2 ⟨m g,m f,λa i b h d=>n a i (by simp[d▸h])⟩,m e,λa i b h d=>?_⟩⟩⟩;rcases Y5.1 d with h8|h8;exact p h8;exact(o _ h8).1 rfl;subst d;rcases Y3.1 i with h8|h8;exact n a h8 (by simp[h]);exact q a h8 h
structure DropM(h:HS)(g gc:Gr)(db:Db)(v:Int)(ce ci cc:C)(l3 l4:Z2):Prop where
 b2:h.a (2,80)=some [.d (.int .i64 v)]
 b3:h.a (3,96)=some [.nil,.nil,.nil,.nil]
 b4:h.a (4,112)=some [.nil,.nil]
 bg:h.a l3=some [.d (.sl (gc.base.q.map E.z)),.d (.sl (gc.base.b.map Fk.z)),.d (.sl (gc.base.cons.map Cons.z)),ce]
 bd:h.a l4=some [ci,cc]
 mE:MR h 2 ce (gc.n.map Zpb)
 mI:Wt h ci (db.insts.map Wq)
 mC:Wt h cc (db.comps.map Um)
 nd:(l3::l4::(Z ce++Z ci++Z cc)).Nodup
 lo:∀k∈l3::l4::(Z ce++Z ci++Z cc),4<k.1/\k.1<h.p
def DropM.mk'{c b H:HS}{g n:Gr}{p:Db}{v:Int}{m j i:C}{e f:Z2}{E0 h:Nat}(t:H.a (2,80)=some [.d (.int .i64 v)])(u:H.a (3,96)=some [.nil,.nil,.nil,.nil])(w:H.a (4,112)=some [.nil,.nil])
  (y:H.a e=some [.d (.sl (n.base.q.map E.z)),.d (.sl (n.base.b.map Fk.z)),.d (.sl (n.base.cons.map Cons.z)),m])(x:H.a f=some [j,i])
  (D:MR c 2 m (n.n.map Zpb))(o:∀k∈Z m,E0<=k.1/\k.1<c.p)(F:Wt b j (p.insts.map Wq))(B:Wt b i (p.comps.map Um))(l:∀k∈Z j++Z i,h<=k.1/\k.1<b.p)(A:∀k∈Z j,k∉Z i)
  (h4:4<E0/\E0<=c.p)(hE:c.p<=h/\h<=b.p)(f1:∀k:Z2,E0<=k.1->k.1<c.p->H.a k=c.a k)(f2:∀k:Z2,h<=k.1->k.1<b.p->H.a k=b.a k)(ad:b.p<=H.p)
  (r3:4<e.1/\e.1<H.p/\(e.1<E0\/(c.p<=e.1/\e.1<h)\/b.p<=e.1))(r4:4<f.1/\f.1<H.p/\(f.1<E0\/(c.p<=f.1/\f.1<h)\/b.p<=f.1))(s:e≠f):DropM H g n p v m j i e f:=by
 have r:∀k∈Z m++Z j++Z i,(E0<=k.1/\k.1<c.p)\/(h<=k.1/\k.1<b.p):=λk a=>by rw[Yz] at a;exact(Y3.1 a).imp (o k) (l k)
 refine⟨t,u,w,y,x,D.frame λk a=>f1 k (o k a).1 (o k a).2,F.frame λk a=>f2 k (l k (by simp[a])).1 (l k (by simp[a])).2,B.frame λk a=>f2 k (l k (by simp[a])).1 (l k (by simp[a])).2,Zug s (λk a=>?_) (λk a z=>?_) A,λk a=>?_⟩;have q:=r k a
 constructor<;>(rintro rfl;omega)
 have:=o k a
 have:=l k z
 omega;rcases Y5.1 a with rfl|h8;omega;rcases Y5.1 h8 with rfl|h8;omega;have q:=r k h8;omega
set_option maxHeartbeats 2000000 in
def Zrk(g:Gr)(Q:Db)(v:Int)(r:Gr×Db×Int)(s:Is (Zph g Q v) r):
  Zq prog 9 [.agg g.z,.agg Q.z,.i v] (.tup [.agg (r.1.z.map RC.d),.agg (r.2.1.z.map RC.d),.i r.2.2]):=by
 unfold Zph at s;refine Zq.of_heap ?_;show Z5 _ _ [.agg (g.z.map C.d),.agg (Q.z.map C.d),.i v] HS.init _;refine Z5.ov func9 ?_;obtain⟨e,he,s⟩:=s.bind;simp;refine Zx ((Z0i g Q).h e he) I ?_;simp;refine ZP s ?_ ?_<;>clear s<;>intro hc s;obtain rfl:=Zk s;simp[ZS,ZK,ZX,W5];exact⟨⟨.data rfl,.data rfl,.data rfl,.data rfl,trivial⟩,⟨.data rfl,.data rfl,trivial⟩,.data rfl,trivial⟩;simp;by_cases hv0:v<1;simp only[hv0,decide_true,Bool.true_or,cond_true] at s;obtain rfl:=Zk s;simp[hv0,ZS,ZK,ZX,W5];exact⟨⟨.data rfl,.data rfl,.data rfl,.data rfl,trivial⟩,⟨.data rfl,.data rfl,trivial⟩,.data rfl,trivial⟩;have bu:decide (v<1)=false:=sO
 rw[bu,Bool.false_or] at s;simp[hv0];intro dk
 try simp[hv0]
 refine ZP s ?_ ?_<;>clear s<;>intro ck s;obtain rfl:=Zk s;simp[ZS,ZK,ZX,W5];exact⟨⟨.data rfl,.data rfl,.data rfl,.data rfl,trivial⟩,⟨.data rfl,.data rfl,trivial⟩,.data rfl,trivial⟩;obtain⟨b,hb,s⟩:=s.bind;simp;refine Zx (Zra g.n 25 [[.int .i64 v]] (λx=>Zpm x v) (λxa w hw=>(Zrh xa v).h w hw) b hb) I ?_;simp;refine ZP s ?_ ?_<;>clear s<;>intro dy s;obtain rfl:=Zk s;simp[ZS,ZK,ZX,W5];exact⟨⟨.data rfl,.data rfl,.data rfl,.data rfl,trivial⟩,⟨.data rfl,.data rfl,trivial⟩,.data rfl,trivial⟩;obtain⟨S,b9,s⟩:=s.bind;obtain⟨⟨ap,dp,dw,d6,aj⟩,s⟩:=s.chk;obtain rfl:=Zk s;clear s;simp;refine Z6.cut (Y.qB [0,2] (.three 1 4 5 (Y.qB [] (.three 3 4 5 (Y.qB [] (.two 4 5 (Y.qB [5,6,7] .done) (Y.qB [4,6,7] .done))) (Y.qB [] (.two 3 5 (Y.qB [5,6,7] .done) (Y.qB [3,6,7] .done))) (Y.qB [] (.two 3 4 (Y.qB [4,6,7] .done) (Y.qB [3,6,7] .done))))) (Y.qB [] (.two 1 5 (Y.qB [] (.two 3 5 (Y.qB [5,6,7] .done) (Y.qB [3,6,7] .done))) (Y.qB [1,3,6,7] .done))) (Y.qB [] (.two 1 4 (Y.qB [] (.two 3 4 (Y.qB [4,6,7] .done) (Y.qB [3,6,7] .done))) (Y.qB [1,3,6,7] .done))))) follows kR (λe1 B=>∃G P A t u,e1.get 10=.p t/\e1.get 11=.p u/\En e1 89 [(5,.p (2,80)),(6,.p (3,96)),(7,.p (4,112)),(8,.i 0)]/\DropM B g S Q v G P A t u) ?_ ?_
 .simp[Y.qB,vcPlan,planOps,isCallAt,callKind]
  repeat' with_reducible refine And.intro ?_ ?_
  all_goals
   refine Zc (Zqg _ g S b9 _ λG B mE cb ab dm=>?_);have a2:=ab.2 (2,80) I I;have a3:=ab.2 (3,96) I I;have a4:=ab.2 (4,112) I I;have a1:=ab.2 (1,64) I I;have c5:=λk=>ab.2 (7,k);have c6:=λk=>ab.2 (8,k);simp at a1 a2 a3 a4 c5 c6;simp[Y.qB,vcPlan,planOps,isCallAt,callKind,a1,c5,c6]
   repeat' with_reducible refine And.intro ?_ ?_
   all_goals first|exact dm|skip
   all_goals refine Zc (Zri _ Q (λx hx=>NV (ap.1 x hx)) (λl hl=>Z3i (ap.2 l hl).1 (ap.2 l hl).2) _ λP A h2 mI mC hl hd z hb2=>?_)
   all_goals have dc:=ab.1
   all_goals have cn:=z.1
   all_goals simp at dc cn
   all_goals have l5:6<B.p:=X
   all_goals have d2:=z.2 (2,80) (by first|(simp;done)|(simp;omega)) I
   all_goals have d3:=z.2 (3,96) (by first|(simp;done)|(simp;omega)) I
   all_goals have d4:=z.2 (4,112) (by first|(simp;done)|(simp;omega)) I
   all_goals have c7:=λk=>z.2 (B.p,k)
   all_goals have c8:=λk=>z.2 (B.p+1,k)
   all_goals have e5:=λk=>z.2 (7,k)
   all_goals have e6:=λk=>z.2 (8,k)
   all_goals have ne:∀a b k:Nat,a<B.p->((a,b)=(B.p,k))=False:=λa b k ha=>eq_false (by intro j;simp at j;omega)
   all_goals have ax:∀a b k:Nat,a<B.p->((a,b)=(B.p+1,k))=False:=λa b k ha=>eq_false (by intro j;simp at j;omega)
   all_goals have t2:2<B.p/\3<B.p/\4<B.p:=X
   all_goals simp[a2,a3,a4,ne,ax,t2] at d2 d3 d4
   all_goals try simp at c7
   all_goals try simp at c8
   all_goals first|(have l7:7<B.p:=X;try simp[c5,c6,l7,ne,ax,Nat.lt_succ_of_lt] at e5)|clear e5 c5
   all_goals first|(have l8:8<B.p:=X;try simp[c5,c6,l8,ne,ax,Nat.lt_succ_of_lt] at e6)|clear e6 c6
   all_goals simp[Y.qB,vcPlan,planOps,isCallAt,callKind, *]
   all_goals repeat' with_reducible refine And.intro ?_ ?_
   all_goals first|exact hb2|skip
   all_goals try refine Ze.of ⟨G,P,A,Zps.of ?_⟩
   all_goals try simp[Zps,d2,d3,d4]
   all_goals refine DropM.mk' (by simp[d2]) (by simp[d3]) (by simp[d4]) I I mE cb mI mC hl hd (by simp<;>omega) (by simp<;>omega) (λk U k2=>?_) (λk U k2=>?_) (by simp<;>omega) (by simp<;>omega) (by simp<;>omega) I
   all_goals try simp at U
   all_goals first
   | (have q2:=z.2 k (by first|omega|(simp;done)|(simp;omega)) I
      try simp (disch:=omega) [Zq5] at q2
      simp (disch:=omega) [Zq5,q2]
      done)
   | (simp (disch:=omega) [Zq5]
      done)
 rintro e1 H ⟨G,P,A,t,u,aw,a7,hE,M⟩;have dv:1<=v:=X
 have dt:v<=g.n.length:=by have:=of_decide_eq_false ck;omega
 obtain⟨n,rfl⟩:∃ n:Nat,v=(n:Int)+1:=⟨v.toNat - 1,X⟩;have ea:g.n.length<=2097152:=dk;have wn:IntKind.i64.wrap (n:Int)=(n:Int):=Y6 _ X;have cy:IntKind.i64.wrap ((n:Int)+1+1)=(n:Int)+1+1:=Y6 _ X;have i2:=M.b2;have ig:=M.bg;have bk:=M.bd;have R:=M.lo;have ag:=M.nd;have dd:t≠(2,80):=λj=>by have:=(R t I).1;rw[j] at this;simp at this
 have dz:u≠(2,80):=λj=>by have:=(R u I).1;rw[j] at this;simp at this
 simp[hE,aw,a7,i2,ig,wn];have ah:=Zre H G (S.n.map Zpb) n (n+1) M.mE X sO;rw[show ((n+1:Nat):Int)=(n:Int)+1 from rfl] at ah;refine Zc (ah _ λc2 h2 m2 f2 d0 eb ae=>?_);have bj:t ∉ Z G:=λj=>by have:=(XF.1 ag).1;exact this (by simp[j])
 have da:u ∉ Z G:=λj=>by have:=(XF.1 (XF.1 ag).2).1;exact this (by simp[j])
 have cg:=(f2 t bj).trans ig;have d8:=(f2 u da).trans bk;simp[hE,aw,a7,cg];generalize hD:S.n.take n++S.n.drop (n+1)=D;have d1:D.length=g.n.length - 1:=by rw[<- hD];simp;omega
 have cd:∀ e ∈ D,-2097152<=e.m/\e.m<=2097152:=λe he=>by rw[<- hD] at he;rcases Y3.1 he with j | j;exact aj e (XE j);exact aj e (Y02 j)
 have m2:MR h2 2 c2 (D.map Zpb):=by rw[<- hD,YL,XP,Xy];exact m2
 have al:t ∉ Z c2:=by rw[ae];exact bj
 refine MR.lenK m2 ?_;simp;have ac:u≠t:=λj=>(XF.1 ag).1 (by simp[j]);refine⟨by simp[hE],Z6.rounds (λq e h'=>∃ i:Nat,q=D.length - i/\i<=D.length/\e.get 10=.p t/\e.get 11=.p u/\En e 89 [(5,.p (2,80)),(6,.p (3,96)),(7,.p (4,112)),(8,.i 0),(51,.i D.length),(52,.i i)] /\
  h'.a t=some [.d (.sl (S.base.q.map E.z)),.d (.sl (S.base.b.map Fk.z)),.d (.sl (S.base.cons.map Cons.z)),c2]/\MR h' 2 c2 (((D.take i).map (T0 ((n:Int)+1))++D.drop i).map Zpb)/\(∀ k,k ∉ Z c2->k≠t->h'.a k=h2.a k)/\h'.p=h2.p) D.length ⟨0,X,X,by simp[aw],by simp[a7],by simp[hE],I,?_,λk U k2=>by simp[k2],I⟩ ?_⟩
 simp;exact m2.frame λk o=>by
  have:k≠t:=λj=>al (j ▸ o)
  simp[this]
 rintro q e h' ⟨i,rfl,hi,J,K,W,ad,mi,fi,ei⟩;simp[W];refine Vy (λN=>?_) (λhge=>?_);have hb2:h'.a (2,80)=some [.d (.int .i64 ((n:Int)+1))]:=by
  have k9:(2,80) ∉ Z G:=λj=>by have:=(R (2,80) (by simp[j])).1;simp at this
  rw[fi _ (by rw[ae];exact k9) (Ne.symm dd),f2 _ k9,i2]
 have hx:((D.take i).map (T0 ((n:Int)+1))++D.drop i)[i]? = some D[i]:=by rw[YC sO];simp;rw[Y04 X];simp[N]
 have T:((D.take i).map (T0 ((n:Int)+1))++D.drop i).length=D.length:=sO;have br:IntKind.i64.wrap ((i:Int)+1)=(i:Int)+1:=Y6 _ X;have hdr:D.drop i=D[i]::D.drop (i+1):=YB N;have bm:∀ y,((D.take i).map (T0 ((n:Int)+1))++D.drop i).set i y=(D.take i).map (T0 ((n:Int)+1))++y::D.drop (i+1):=λy=>by rw[List.set_append_right _ _ sO,hdr,show i - ((D.take i).map (T0 ((n:Int)+1))).length=0 by simp;omega];rfl
 have bv:(D.take (i+1)).map (T0 ((n:Int)+1))++D.drop (i+1)=(D.take i).map (T0 ((n:Int)+1))++T0 ((n:Int)+1) D[i]::D.drop (i+1):=by rw[Yg N,YL,Yz];rfl
 have ak:(D.take i).map (T0 ((n:Int)+1))++D.drop i=(D.take i).map (T0 ((n:Int)+1))++D[i]::D.drop (i+1):=by rw[hdr]
 generalize ((D.take i).map (T0 ((n:Int)+1))++D.drop i)=L at mi hx T bm ak;obtain⟨L2,ar⟩:∃ L2,(D.take (i+1)).map (T0 ((n:Int)+1))++D.drop (i+1)=L2:=⟨_,rfl⟩;have ao:L2.length=D.length:=by rw[<- ar];simp;omega
 have bq:(L.map Zpb)[i]? = some (Zpb D[i]):=by rw[Y9,hx];rfl
 have F:=mi.1;obtain⟨l,cap,sp,bn,bh,hcap⟩:=mi.block sO;simp only[Yd,T] at bn;have af:=VH (sp:=sp) (f:=0) (m:=1) F bq X;simp[Zpb,Edg.z] at af;have d5:=Ah (sp:=sp) F (sO:i < (L.map Zpb).length);have bf:i * 2+1<=(Zb (L.map Zpb) sp).length:=X
 change Zs 1 ((Zb (L.map Zpb) sp).drop (i * 2))=_ at af;subst bn;simp[W];refine Z6.cu [0,1,2,3,4,5,6,7] (λe2 h3=>h3=h'/\e2.get 10=.p t/\e2.get 11=.p u/\En e2 89 [(5,.p (2,80)),(6,.p (3,96)),(7,.p (4,112)),(8,.i 0),(51,.i D.length),(52,.i i),(12,.i i),(62,.b (decide ((n:Int)+1 < D[i].m)))]) ?_ ?_;simp[J,K,W,ad,hb2,bh,N,af,Y.qB,vcPlan,planOps,isCallAt,callKind];exact Ze.of (by simp[J,K,W]);rintro e2 h3 ⟨rfl,au,ay,hK⟩;simp[hK];refine Vy (λcl=>?_) (λb1=>?_);have hp:=cd D[i] (Yh N);have dn:IntKind.i64.wrap (D[i].m - 1)=D[i].m - 1:=Y6 _ X;have am:=BK (sp:=sp) (f:=0) (vs:=[.d (.int .i64 (D[i].m - 1))]) F bq I;have aq:T0 ((n:Int)+1) D[i]=⟨D[i].m - 1,D[i].script⟩:=by unfold T0;simp[cl]
 have hsc:Zi (Zpb D[i]) 0 [.d (.int .i64 (D[i].m - 1))]=Zpb (T0 ((n:Int)+1) D[i]):=by rw[aq];rfl
 rw[hsc,<- YJ,bm,<- bv,ar,Xl] at am;simp[hK,au,ay,ad,bh,N,af,dn,br,am,bf];have ch:t≠l:=by simpa[Z] using al
 have b0:(Zb (L2.map Zpb) sp).length=cap * 2:=by rw[V2 Zr1,<- hcap,V2 F,Yd,Yd,ao,T]
 refine AQ.of (n':=D.length - (i+1)) X ⟨i+1,rfl,X,by simp[au],by simp[ay],by simp[hK],by simp[ch,ad],?_,λk U k2=>?_,by simp[ei]⟩;rw[ar];exact⟨Zr1,sO,.inr ⟨l,cap,sp,by simp[ao],I,b0⟩⟩;have k3:=U;simp[Z] at U;simp[U,fi k k3 k2];have aq:T0 ((n:Int)+1) D[i]=D[i]:=by unfold T0;simp[b1]
 simp[hK,br];refine AQ.of (n':=D.length - (i+1)) X ⟨i+1,rfl,X,by simp[au],by simp[ay],by simp[hK],ad,?_,fi,ei⟩;rw[bv,aq,<- ak];exact mi;obtain rfl:i=D.length:=X;have dg:((n:Int)+1).toNat=n+1:=X;obtain⟨n3,bt⟩:=XF.1 ag;obtain⟨n4,bp⟩:=XF.1 bt;obtain⟨bw,-,dA⟩:=Yk.1 bp;obtain⟨-,-,dB⟩:=Yk.1 bw;have pi:∀ k ∈ Z P,k ∉ Z G/\k ∉ Z A/\k≠t/\k≠u/\4 < k.1:=λk o=>⟨λj=>dB k j k o rfl,λj=>dA k (by simp[o]) k j rfl,λj=>n3 (by rw[<- j];simp[o]),λj=>n4 (by rw[<- j];simp[o]),(R k (by simp[o])).1⟩;have pc:∀ k ∈ Z A,k ∉ Z G/\k ∉ Z P/\k≠t/\k≠u/\4 < k.1:=λk o=>⟨λj=>dA k (by simp[j]) k o rfl,λj=>dA k (by simp[j]) k o rfl,λj=>n3 (by rw[<- j];simp[o]),λj=>n4 (by rw[<- j];simp[o]),(R k (by simp[o])).1⟩;have pe:∀ k ∈ Z c2,k ∉ Z P/\k ∉ Z A/\k≠t/\k≠u/\4 < k.1:=λk o=>by
  rw[ae] at o;exact⟨λj=>dB k o k j rfl,λj=>dA k (by simp[o]) k j rfl,λj=>n3 (by rw[<- j];simp[o]),λj=>n4 (by rw[<- j];simp[o]),(R k (by simp[o])).1⟩
 have O:∀ k,k ∉ Z G->k≠t->h'.a k=H.a k:=λk U k2=>(fi k (by rw[ae];exact U) k2).trans (f2 k U);have cx:u ∉ Z G:=λj=>n4 (by simp[j]);have cw:u ∉ Z P:=λj=>n4 (by simp[j]);have cq:u ∉ Z A:=λj=>n4 (by simp[j]);have b7:t ∉ Z P:=λj=>n3 (by simp[j]);have di:t ∉ Z A:=λj=>n3 (by simp[j]);have Ze1:∀ a b:Nat,a<=4->(a,b) ∉ Z G/\(a,b) ∉ Z P/\(a,b) ∉ Z A/\(a,b)≠t/\(a,b)≠u:=λa b ha=>by
  refine⟨λj=>?_,λj=>?_,λj=>?_,λj=>?_,λj=>?_⟩
  have:=(R (a,b) (by simp[j])).1;simp at this;omega
  have:=(R (a,b) (by simp[j])).1;simp at this;omega
  have:=(R (a,b) (by simp[j])).1;simp at this;omega
  have:=(R (a,b) (by simp[j])).1;simp at this;omega
  have:=(R (a,b) (by simp[j])).1;simp at this;omega
 have o2:=(O (2,80) (Ze1 2 80 X).1 (Ze1 2 80 X).2.2.2.1).trans i2;have o3:=(O (3,96) (Ze1 3 96 X).1 (Ze1 3 96 X).2.2.2.1).trans M.b3;have o4:=(O (4,112) (Ze1 4 112 X).1 (Ze1 4 112 X).2.2.2.1).trans M.b4;have oi:=(O u cx ac).trans bk;obtain⟨rs,cm,a8⟩:=M.mI;obtain⟨V,df,bc⟩:=M.mC;have d7:rs.length=Q.insts.length:=by have:=congrArg List.length a8;simpa using this
 have dx:V.length=Q.comps.length:=by have:=congrArg List.length bc;simpa using this
 have b6:MR h' 1 P (Zw rs):=cm.frame λk o=>O k (pi k o).1 (pi k o).2.2.1;have dj:MR h' 1 A (Zw V):=df.frame λk o=>O k (pc k o).1 (pc k o).2.2.1;simp[W,J,K,oi,o2,cy];have bb:=Zrc h' P (Zw rs) (n+1) (n+1+1) b6 X (by simp[Zw];omega);rw[show ((n+1:Nat):Int)=(n:Int)+1 from rfl,show ((n+1+1:Nat):Int)=(n:Int)+1+1 from rfl] at bb;refine Zc (bb _ λc3 h3 m3 f3 dq d9 b5=>?_);have b8:=(f3 u cw).trans oi;have cp:=(f3 (2,80) (Ze1 2 80 X).2.1).trans o2;have s2:=(Ze1 2 80 X).2.2.2.2;have s3:=(Ze1 3 96 X).2.2.2.2;have s4:=(Ze1 4 112 X).2.2.2.2;have dl:=(f3 t b7).trans ad;have cz:=(f3 (3,96) (Ze1 3 96 X).2.1).trans o3;have de:=(f3 (4,112) (Ze1 4 112 X).2.1).trans o4;have ca:MR h3 1 A (Zw V):=dj.frame λk o=>f3 k (pc k o).2.1;have cj:MR h3 2 c2 (((D.take D.length).map (T0 ((n:Int)+1))++D.drop D.length).map Zpb):=mi.frame λk o=>f3 k (pe k o).1;simp[W,J,K,b8,s2,cp,wn];have ba:=Zrb (h3.qA u [c3,A]) A (Zw V) n (n+1) (ca.frame λk o=>by simp[(pc k o).2.2.2.1]) X (by simp[Zw];omega);rw[show ((n+1:Nat):Int)=(n:Int)+1 from rfl] at ba;refine Zc (ba _ λc4 h4 m4 f4 ec dr dh=>?_);have q4:=f4 u cq;have q3:=f4 t di;have bz:=f4 (3,96) (Ze1 3 96 X).2.2.1;have bi:=f4 (4,112) (Ze1 4 112 X).2.2.1;simp[Ne.symm ac,dl,s3,s4,cz,de] at q4 q3 bz bi;simp[W,J,K,q4];refine Z6.cut (Y.qB [0] (.two 1 2 (Y.qB [2,3,4] .done) (Y.qB [1,3,4] .done))) follows kR (λe4 h7=>En e4 89 [(6,.p (3,96)),(7,.p (4,112)),(8,.i 0)]/\h7.a (3,96)=some [.d (.sl (S.base.q.map E.z)),.d (.sl (S.base.b.map Fk.z)),.d (.sl (S.base.cons.map Cons.z)),c2]/\h7.a (4,112)=some [c3,c4]/\∀ k:Z2,4 < k.1->k≠u->h7.a k=h4.a k) ?_ ?_
 .simp[Y.qB,vcPlan,planOps,isCallAt,callKind,W,J,K,q3,bz,bi,ac,Ne.symm ac,s3,s4,Ne.symm s3,Ne.symm s4]
  repeat' with_reducible refine And.intro ?_ ?_
  all_goals
   refine Ze.of ⟨by simp[W],I,I,λk o k4=>?_⟩;have h2:k≠(3,96):=by rintro rfl;simp at o
   have h3:k≠(4,112):=by rintro rfl;simp at o
   simp[h2,h3,k4]
 rintro e4 h7 ⟨hR,j3,j4,az⟩;simp[ZS,ZK,ZX,W5,hR,j3,j4,dg];have fE:=Zq4 (cj.frame (h':=h7) λk o=>by rw[az k (pe k o).2.2.2.2 (pe k o).2.2.2.1,f4 k (pe k o).2.1];simp[(pe k o).2.2.2.1]);have fI:=Z7n (h:=h7) (c:=c3) (l:=Q.insts.take (n+1)++Q.insts.drop (n+1+1)) ⟨rs.take (n+1)++rs.drop (n+1+1),?_,?_⟩;have fC:=Z7x (h:=h7) (c:=c4) (l:=Q.comps.take n++Q.comps.drop (n+1)) ⟨V.take n++V.drop (n+1),?_,?_⟩;rw[Yl,List.drop_length,Ym,<- hD] at fE;simp[Z7] at fE fI fC |-;exact⟨⟨.data rfl,.data rfl,.data rfl,fE,trivial⟩,⟨fI,fC,trivial⟩,.data rfl,trivial⟩;rw[show Zw (V.take n++V.drop (n+1))=(Zw V).take n++(Zw V).drop (n+1) by simp[Zw]];exact m4.frame λk o=>by rw[dh] at o;exact az k (pc k o).2.2.2.2 (pc k o).2.2.2.1
 rw[YL,XP,Xy,bc];simp;rw[show Zw (rs.take (n+1)++rs.drop (n+1+1))=(Zw rs).take (n+1)++(Zw rs).drop (n+1+1) by simp[Zw]];exact m3.frame λk o=>by rw[b5] at o;rw[az k (pi k o).2.2.2.2 (pi k o).2.2.2.1,f4 k (pi k o).2.1];simp[(pi k o).2.2.2.1]
 rw[YL,XP,Xy,a8];simp
def er{α:Type}(v:Nat)(a:List α):List α:=a.take v++a.drop (v+1)
def Zq7(v:Nat)(g:Gr):Gr:=⟨g.base,(er (v-1) g.n).map (T0 v)⟩
def Zq6(v:Nat)(a:Db):Db:=⟨er v a.insts,er (v-1) a.comps⟩
def Ztj{a:List Edg}{v:Int}(h:∀e∈a,e.m≠v):Wp (Zpj a λx=>Zpm x v) λb=>b=false:=by
 unfold Zpj Zpu;refine X0 (Xc λx _=>⟨_,rfl,trivial⟩) λk _ f=>X2 ?_;rcases f with⟨rfl,_⟩|⟨i,x,rfl,d,c⟩;rfl;have g:=Y2 d;unfold Zpm at c;exact absurd (by simpa using c) (h x g)
def Zsy{g a b}{v:Nat}(k:F6 g)(d:DbV g a b)(h0:0<v)(h1:v<=g.n.length)(f:∀e∈g.n,e.m≠v):Zph g a v=some (Zq7 v g,Zq6 v a,0):=by
 have hl:=d.ver.len;have ac:=d.li;have ab:=d.lc;have h7:=d.ver.l7;refine Ww ?_;unfold Zph;refine Xb (Z3d d) ?_;refine X9 rfl<|X9 sO<|X0 (Ztj f) λz _ l=>X9 l<|X0 (Zqk k d.ver) λgc _ c=>?_;rw[c];refine X4 ⟨d.ok,rfl,X,X,λe h=>?_⟩ (X2 ?_);obtain⟨i,j,rfl⟩:=Yo h
 have:=d.ver.n i _ (Y1 j)
 omega;unfold Zq7 Zq6 er;rw[Yn,show v-1+1=v by omega]
instance Zum(g_:Gr)(db:Db)(parent:Int)(sc:List Stp):Con (Zpn g_ db parent sc) prog 12 [.agg g_.z,.agg db.z,.one (.d (.int .i64 parent)),.one (.d (.sl (sc.map Stp.z)))] (λr=>.tup [.agg (r.1.z.map RC.d),.agg (r.2.1.z.map RC.d),.one (.d (.int .i64 r.2.2))]):=⟨λr hm=>Zrj g_ db parent sc r hm⟩
def Zpf(r_:List GV)(k0:List GV):Option Bool:=
 Z1 (BY r_ k0) λv1=>some v1
instance Zrd(r_:List GV)(k0:List GV):Con (Zpf r_ k0) prog 39 [.one (.d (.sl (r_.map GV.z))),.one (.rp [.sl (k0.map GV.z)])] (λr=>.one (.d (.bool r))):=by unfold Zpf;exact go 7 func39
instance Zuj(k0:List GV):ConF (λx=>Zpf x k0) prog (λx=>.one (.d (.sl (x.map GV.z)))) (λr=>.one (.d (.bool r))) 39 [[.sl (k0.map GV.z)]]:=⟨λx=>(Zrd x k0)⟩
instance Zun(g_:Gr)(db:Db)(v_:Int):Con (Zph g_ db v_) prog 9 [.agg g_.z,.agg db.z,.one (.d (.int .i64 v_))] (λr=>.tup [.agg (r.1.z.map RC.d),.agg (r.2.1.z.map RC.d),.one (.d (.int .i64 r.2.2))]):=⟨λr hm=>Zrk g_ db v_ r hm⟩
def Zpp(g_:Gr)(db:Db)(v_:Int):Option (Int×Int):=
 Z1 (Zph g_ db v_) λv3=>bif (v3.2.2 !=0) then some (0,v3.2.2) else Zp (Wm (v_-1)) (Za g_.n (v_-1) λx8=>Z1 (Dh g_ x8.m) λv10=>bif (v10.2 !=0) then some (0,v10.2) else Z1 (JQ v10.1 x8.script) λv13=>bif (v13.2 !=0) then some (0,v13.2) else Za db.insts x8.m λx15=>Z1 (UF v10.1 x8.script x15 v13.1) λv16=>bif (v16.2.2 !=0) then some (0,v16.2.2) else Za db.insts v_ λx18=>Zd (λ(i20:Nat) (x20:J) (s20:Int) next_20=>Zd (λ(i23:Nat) (x23:List GV) (s23:Int) next_23=>Za v16.1 (i20:Int) λx25=>Z1 (BX x25.rows (λxa_=>Zpf xa_ x23)) λv26=>bif !v26 then Zp (Wm (s23+1)) (next_23 (s23+1)) else next_23 s23) (λ(s23:Int)=>next_20 s23) x20.rows 0 s20) (λ(s20:Int)=>some (s20,0)) x18 0 0)
instance Zuk(g_:Gr)(db:Db)(v_:Int):Con (Zpp g_ db v_) prog 13 [.agg g_.z,.agg db.z,.one (.d (.int .i64 v_))] (λr=>.tup [.one (.d (.int .i64 r.1)),.one (.d (.int .i64 r.2))]):=by
 unfold Zpp;have l1:LH (σ:=Int) 83 [15,81,82] [.d 17 (λs=>.int .i64 s)]:=.intro;have l2:LH (σ:=Int) 91 [15,18,81,82,83,89,90] [.d 17 (λs=>.int .i64 s)]:=.intro;have p1:PH [11] (Y.qB [0,1,2,3,4,5,6,7,8,9,10,11,12,13,14,15,16,17] .done):=.intro;exact go 108 func13
def I2(n:Int):Option GV:=
 some (GV.mk 1 n empty)
instance Zid(n:Int):Con (I2 n) prog 41 [.one (.d (.int .i64 n))] (λr=>.agg (r.z.map RC.d)):=by unfold I2;exact go 5 func41
def JX:Option Gr:=
 Z1 (I2 5) λv2=>some (Gr.mk (Sch.mk [(E.mk ({data:=#[116]}) [(Col.mk ({data:=#[105,100]}) 1 false),(Col.mk ({data:=#[110]}) 1 false)] [0])] [] []) [(Edg.mk 0 [(Stp.mk 1 ({data:=#[116]}) empty ({data:=#[120]}) empty 1 [] empty v2 (E.mk empty [] []) (Cons.mk empty 0 empty 0 (GV.mk 0 0 empty)) (Fk.mk empty [] empty))])])
instance Zgm  :Con (JX) prog 15 [] (λr=>.agg (r.z.map RC.d)):=by unfold JX;exact go 16 func15
def Zpc(b:Bool):C:=.d (.bool b)
def Zr0{u:List Bool}{i:Nat}{b:Bool}(h:u[i]?=some b):Zs 1 ((u.map Zpc).drop i)=some [Zpc b]:=by obtain⟨a,c⟩:=Y0.1 h;rw[YB (by simpa using a)];simp[Zs,c]
def Zu4{u:List Bool}{i:Nat}{b:Bool}(h:i<u.length):Zi (u.map Zpc) i [Zpc b]=(u.set i b).map Zpc:=by simp only[Zi,YJ,Y34];rw[Xz];simp[h]
def Zqh(g:Gr){ρ:Type}(k:List Bool->Option ρ):Nat->Int×List Bool->Option ρ:=
 AB λs next=>Za s.2 s.1 λb=>bif b then k s.2 else Za g.n (s.1-1) λe=>next (e.m,s.2.set s.1.toNat true)
def Zpv(g:Gr)(a:List Int):Option (List Int×Int):=
 Z1 (Zpy g) λv=>bif v !=0 then some ([],v) else
 Zp (g.n.length+1<=2097152) (Zd (λ_ x (u:List Bool) next=>bif decide (x<0) then some ([],4) else bif decide ((g.n.length:Int)<x) then some ([],4) else
   Zqh g next (g.n.length+2) (x,u))
  (λu=>WZ (λi (s:List Int) next=>Za u ((g.n.length:Int)-i) λb=>bif b then next s else Wn s [(g.n.length:Int)-i] λ_=>next (s++[(g.n.length:Int)-i]))
   (λs=>some (s,0)) g.n.length 0 []) a 0 (true::List.replicate g.n.length false))
def Zrg(g:Gr)(vs:List Int)(r:List Int×Int)(a:Is (Zpv g vs) r):Zq prog 8 [.agg g.z,.l (vs.map Zg)] (.tup [.l (r.1.map Zg),.i r.2]):=by
 unfold Zpv at a;refine Zq.qM func8 rfl kR (n:=72) rfl rfl I ?_
 try simp[*]
 refine AC (av:=[.agg g.z]) a (λv hv=>Zrf _ v hv) (by simp[*]) ?_;clear a;intro v4 bg a
 try simp[*]
 refine ZP a ?_ ?_<;>clear a<;>intro bz a
 try simp[*]
 obtain rfl:=Zk a;exact U0 (vs:=[_,_]) (by simp[*];try exact⟨rfl,rfl⟩) (by simp[*])
 try simp[*]
 replace a:=a.chk;obtain⟨hlen,a⟩:=a;intro bq;have q:IntKind.i64.wrap ((g.n.length:Int)+1)=(g.n.length:Int)+1:=Y6 _ X;have U:(0:Int)<(g.n.length:Int)+1:=X
 have H:(0:Int)<=(g.n.length:Int)+1:=X;have F:(g.n.length:Int)+1<=2097152:=X;have G:((g.n.length:Int)+1).toNat=g.n.length+1:=X;simp only[q];refine⟨⟨H,F⟩,?_⟩;simp[q,U,G,H,F];intro b7;refine Z6.for (xs:=vs) (s0:=true::List.replicate g.n.length false) (λi u e h=>e.n=72/\e.get 2=.p (0,32)/\e.get 7=.one (.mrow (2,336) 0 (g.n.length+1) (g.n.length+1))/\e.get 24=.l (vs.map Zg)/\e.get 25=.i (vs.length:Int)/\e.get 26=.i (i:Int)/\h.a (0,32)=some (g.z.map C.d)/\h.a (2,336)=some (u.map Zpc)/\u.length=g.n.length+1/\3<=h.p) a ?_ ?_ ?_;simp[q,G,Gr.z];rw[Y3v];simp[Zi,Zpc];rintro i u e h ⟨hn,h2,h7,W,S,L,hb,hu,T,O⟩ hlt a;have b8:IntKind.i64.wrap ((i:Int)+1)=(i:Int)+1:=Y6 _ X
 try simp[*]
 refine IC a ?_ ?_<;>clear a<;>intro bd a
 try simp[*]
 obtain rfl:=Zk a;exact U0 (vs:=[_,_]) (by simp[*];try exact⟨rfl,rfl⟩) (by simp[*])
 try simp[*]
 refine ZP a ?_ ?_<;>clear a<;>intro Y a
 try simp[*]
 obtain rfl:=Zk a;exact U0 (vs:=[_,_]) (by simp[*];try exact⟨rfl,rfl⟩) (by simp[*])
 try simp[*]
 have hx0:0<=vs[i]:=by simpa using bd
 have b1:vs[i]<=(g.n.length:Int):=by simpa using Y
 unfold Zqh at a;refine Z6.rU (s0:=(vs[i],u)) (λs e h=>e.n=72/\e.get 2=.p (0,32)/\e.get 7=.one (.mrow (2,336) 0 (g.n.length+1) (g.n.length+1))/\e.get 24=.l (vs.map Zg)/\e.get 25=.i (vs.length:Int)/\e.get 26=.i (i:Int)/\e.get 9=.i s.1/\h.a (0,32)=some (g.z.map C.d)/\h.a (2,336)=some (s.2.map Zpc)/\s.2.length=g.n.length+1/\3<=h.p) a ?_ ?_;simp[*];clear a;rintro m ⟨y,w⟩ J j ⟨D,b0,E,bm,bj,bf,R,b5,k,A,B⟩ a;simp only at R k A a;replace a:=a.get;obtain⟨b,bb,f,a⟩:=a;have P:y.toNat<g.n.length+1:=by rw[<-A];exact(Y0.1 f).1
 have o:=Zr0 f;simp only[Zpc] at o;cases b with|true=>?_|false=>?_;simp only[cond_true] at a
 try simp[*]
 exact Zj.of w ⟨by simp[*],a⟩;simp only[cond_false] at a;replace a:=a.get;obtain⟨K,br,bc,a⟩:=a;have x:=Zu4 (b:=true) (X:y.toNat<w.length);simp only[Zpc] at x;have bw:IntKind.i64.wrap (y-1)=y-1:=Y6 _ X;have bk:y<=(g.n.length:Int):=X
 have bu:1<=y:=X;have bh:g.n[y.toNat-1]?=some K:=by rw[<-bc];congr 1;omega
 have bv:¬(g.n.length+1<=y.toNat):=X
 try simp[*]
 exact Zj.of (K.m,w.set y.toNat true) ⟨by simp[*],a⟩;rintro u e h ⟨hn,h2,h7,W,S,L,hb,hu,T,O⟩ a
 try simp[*]
 refine Z6.count (N:=(g.n.length:Int)) (s0:=[]) (λi s e h=>∃c:C,i<=g.n.length/\e.n=72/\e.get 7=.one (.mrow (2,336) 0 (g.n.length+1) (g.n.length+1))/\e.get 10=.one c/\e.get 11=.i ((g.n.length:Int)-i)/\h.a (2,336)=some (u.map Zpc)/\3<=h.p/\Zm h 1 c (s.map Zg)) (by simpa using a) ⟨.nil,by simp(maxDischargeDepth:=20) [*]⟩ ?_ ?_
 .rintro i s J j ⟨c,hi,D,E,Q,z,k,B,d⟩ hlt a;replace a:=a.get;obtain⟨b,bb,f,a⟩:=a;have M:=d.list;have V:=d.toD;have t:=d.toA;have b4:=d.qG;have Z:((g.n.length:Int)-i).toNat=g.n.length-i:=X
  have hp:0<(g.n.length:Int)-i:=X;have b2:(i:Int)<(g.n.length:Int):=X;have b6:IntKind.i64.wrap ((g.n.length:Int)-i-1)=(g.n.length:Int)-i-1:=Y6 _ X;have bt:(g.n.length:Int)-i-1=(g.n.length:Int)-(i+1):=X
  have b3:IntKind.i64.wrap ((g.n.length:Int)-(i+1))=(g.n.length:Int)-(i+1):=Y6 _ X;have bp:i+1<=g.n.length:=X
  have bi:1<=j.p:=X;have o:=Zr0 f;simp only[Zpc,Z] at o;have P:g.n.length-i<g.n.length+1:=X
  cases b with|true=>?_|false=>?_;simp only[cond_true] at a
  try simp[*]
  exact Zj.of s ⟨⟨c,by simp(maxDischargeDepth:=20) [*]⟩,a⟩;simp only[cond_false] at a
  try simp[*]
  refine CK (xs:=s) (ys:=[(g.n.length:Int)-i]) (enc:=Zg) a QH (by first|exact Zm.nil|(simp(maxDischargeDepth:=20) [*];done)) (by simp[*]) dE dE (λ_=>rfl) ?_;clear a;intro bn a g14
  try simp[*]
  exact Zj.of (s++[(g.n.length:Int)-i]) ⟨⟨.own (j.p+1,1120) ((s++[(g.n.length:Int)-i]).map Zg),by simp(maxDischargeDepth:=20) [*]⟩,a⟩
 rintro i s J j ⟨c,hi,D,E,Q,z,k,B,d⟩ hlt a;have hx:(g.n.length:Int)-i=0:=X
 have M:=d.list;have V:=d.toD;have t:=d.toA;rw[hx] at z
 try simp[*]
 obtain rfl:=Zk a;exact U0 (vs:=[_,_]) (by simp[*];try exact⟨rfl,rfl⟩) (by simp[*])
instance Zul(g_:Gr)(used:List Int):Con (Zpv g_ used) prog 8 [.agg g_.z,.one (.d (.sl (used.map Zg)))] (λr=>.tup [.one (.d (.sl (r.1.map Zg))),.one (.d (.int .i64 r.2))]):=⟨λr hm=>Zrg g_ used r hm⟩
def Zpe:Option Bool:=
 Z1 (JX) λv1=>Z1 (Zpv v1 [0]) λv2=>bif (v2.2==0) then Z1 (C1 v2.1 [1]) λv4=>(some v4) else some false
instance Zuh  :Con (Zpe) prog 5 [] (λr=>.one (.d (.bool r))):=by unfold Zpe;exact go 16 func5
def Zpt(g_:Gr)(db:Db)(parent:Int)(sc:List Stp):Option Bool:=
 Z1 (Zpe) λv3=>bif !v3 then Z1 (Zpe) λv5=>(some v5) else Z1 (Dd g_ db []) λv6=>bif !v6 then Z1 (Zpe) λv8=>(some v8) else bif decide (8<(sc.length:Int)) then Z1 (Zpe) λv11=>(some v11) else Z1 (Zpn g_ db parent sc) λv12=>bif (v12.2.2 !=0) then some true else Z1 (Zpp v12.1 v12.2.1 (db.insts.length:Int)) λv17=>Z1 (Zph v12.1 v12.2.1 (db.insts.length:Int)) λv18=>bif (v17.2==0) then bif (v17.1==0) then bif (v18.2.2==0) then bif ((v18.1.n.length:Int)==(g_.n.length:Int)) then Z1 (Nc v18.2.1 db) λv27=>(some v27) else(some false) else(some false) else(some false) else some false
instance Zr8(g_:Gr)(db:Db)(parent:Int)(sc:List Stp):Con (Zpt g_ db parent sc) prog 4 [.agg g_.z,.agg db.z,.one (.d (.int .i64 parent)),.one (.d (.sl (sc.map Stp.z)))] (λr=>.one (.d (.bool r))):=by unfold Zpt;exact go 84 func4
set_option maxRecDepth 100000 in
def Zqo:Zpe=some true:=by decide+kernel
def Zr5:Wp (Z1 Zpe λv=>some v) λr=>r=true:=X0 (Wb Zqo) λ_ _ h=>X2 h
def Ztm{v:Int}{e:Edg}(h:e.m<=v):T0 v e=e:=by unfold T0;rw[show decide (v<e.m)=false by simp;omega];rfl
def Zqp{g f}{a:Int}{k r S C x b t c q}(u:F6 g)(m:∀x∈k,U7 x)(w:EvE g f a k r S C x b t c q):Zph ⟨g.base,g.n++[⟨a,k⟩]⟩ ⟨f.insts++[b],f.comps++[c]⟩ f.insts.length=some (g,f,0):=by
 have ab:=w.d.li;have ac:=w.d.lc;have hl:=w.d.ver.len;have o:∀(e:Edg),e∈g.n++[⟨a,k⟩]->e.m<f.insts.length:=λe j=>by
  obtain⟨i,p,rfl⟩:=Yo j
  have:=w.d'.ver.n i _ (Y1 p)
  simp at p;omega
 rw[Zsy (Zql u m) w.d' X sO λe j=>by have:=o e j;omega];have d:∀{α:Type} (l:List α) (y:α) (n:Nat),n=l.length->er n (l++[y])=l:=λl y n h=>by unfold er;rw[Y3e h.symm,YR sO,Ym]
 unfold Zq7 Zq6;simp only;rw[d _ _ _ X,d _ _ _ rfl,d _ _ _ X];have s:g.n.map (T0 f.insts.length)=g.n:=by
  conv=>rhs;rw[<-Y3u g.n]
  exact YN λe j=>Ztm (by have:=o e (by simp[j]);omega)
 rw[s]
def Zu7{c:List (List GV)}{a:List GV}(h:a∈c):Wp (BX c λr=>Zpf r a) λb=>b=true:=by
 unfold BX D8;refine X0 (Xc λr _=>by unfold Zpf;exact X0 (EO r a) λ_ _ _=>X2 trivial) λk _ g=>X2 ?_;rcases g with⟨rfl,j⟩|⟨i,x,rfl,hi,hx⟩;have d:Zpf a a=some false:=j a h;unfold Zpf at d;have⟨b,f,e⟩:=EO a a;rw[f,e.2 rfl] at d;cases d;simp
def Ztk{g f}{a:Int}{o u S C x b v c q}(B:F6 g)(n:∀x∈o,U7 x)(w:EvE g f a o u S C x b v c q):Zpp ⟨g.base,g.n++[⟨a,o⟩]⟩ ⟨f.insts++[b],f.comps++[c]⟩ f.insts.length=some (0,0):=by
 have ac:=w.d.li;have hl:=w.d.ver.len;have h7:=w.d.ver.l7;have t:=w.p0;have p1:=w.p1;refine Ww ?_;unfold Zpp;refine Xb (Zqp B n w) ?_;refine X9 rfl<|X4 (by simp only[Wm];omega) ?_;refine X3 X sO λe l _=>?_;rw[show((f.insts.length:Int)-1).toNat=g.n.length by omega] at l;simp at l;subst l;refine Xb (Z75 w.d'.sch t (S:=S) (by rw[Yu X];exact w.sS)) ?_;refine X9 rfl<|Xb w.hem ?_;refine X9 rfl<|X3 t sO λx9 k _=>?_;simp only at k;rw[Yu X,w.sx] at k;cases k;refine Xb w.fw ?_;refine X9 rfl<|X3 X (by simp only[Ye,Y34];omega) λb9 p _=>?_;simp at p;subst p;refine X6 (λ_ (s:Int)=>s=0) rfl ?_ λs d=>X2 (by rw[d]);intro i r s next A _ d m
 refine X6 (λ_ (s:Int)=>s=0) d ?_ λs d=>m s d;intro j row s next _ y d m
 refine X5 A (X0 (Zu7 y) λz _ D=>X1 (λh=>by rw[D] at h;cases h) λ_=>m s d)
def Zu8(g e)(a:Int)(j)(i:F6 g)(k:e.comps.flatten.length+e.insts.length<=2097152)(d:∀x∈j,U7 x):Zpt g e a j=some true:=by
 refine Ww ?_;unfold Zpt;refine Xb Zqo ?_;refine X9 rfl<|X0 (Z3y g e [] k) λb _ _=>X1 (λ_=>Zr5) λ_=>X1 (λ_=>Zr5) λf=>?_;have f:j.length<=8:=by simp at f;omega
 refine X0 (Zsk i e a d f) λq _ ⟨_,l⟩=>X1 (λ_=>X2 rfl) λh=>?_;have⟨Ss,S,C,x,b,em,c,w⟩:=l (sU h);rw[w.gr,w.hdb];refine Xb (Ztk i d w) ?_;refine Xb (Zqp i d w) ?_;exact X1 (λ_=>X1 (λ_=>X1 (λ_=>X1 (λ_=>X0 (Zoi e) λr _ m=>X2 m) λh=>by simp at h) λh=>by simp at h) λh=>by simp at h) λh=>by simp at h
def Zc1{P:Program}{B n:Nat}{t:TypeId}{a:List D}(c:P.underlying t=some (.int .i64))(h:ZY P B n t a):∃v:Int,a=Zg v:=by
 cases n with
 |zero=>cases h
 |succ n=>simp only[ZY,c] at h;obtain⟨v,b,_⟩:=h;exact⟨v,b⟩
def Z9i{P:Program}{B n:Nat}{t:TypeId}{a:List D}(b:P.underlying t=some .bool)(h:ZY P B n t a):∃v:Bool,a=Jw v:=by
 cases n with
 |zero=>cases h
 |succ n=>simp only[ZY,b] at h;exact h
def Z55{P:Program}{B n:Nat}{t:TypeId}{a:List D}(b:P.underlying t=some .string)(h:ZY P B n t a):∃v:ByteArray,a=Hf v:=by
 cases n with
 |zero=>cases h
 |succ n=>simp only[ZY,b] at h;exact h
def Ac{P:Program}{B n:Nat}{t e:TypeId}{b:List D}(g:P.underlying t=some (.slice e))(h:ZY P B n t b):∃m a,b=[.sl a]/\a.length<=B/\∀x∈a,ZY P B m e x:=by
 cases n with
 |zero=>cases h
 |succ n=>simp only[ZY,g] at h;obtain⟨a,c,d,f⟩:=h;exact⟨n,a,c,d,f⟩
def Av{P:Program}{B n:Nat}{t:TypeId}{b:Array Field}{a:List D}(c:P.underlying t=some (.struct b))(h:ZY P B n t a):∃m,Jp (ZY P B m) b.toList a:=by
 cases n with
 |zero=>cases h
 |succ n=>simp only[ZY,c] at h;exact⟨n,h⟩
def UM{α:Type}{enc:α->List D}{S:α->Prop}:∀{b:List (List D)},(∀x∈b,∃v,x=enc v/\S v)->∃a:List α,b=a.map enc/\a.length=b.length/\∀v∈a,S v
 |[],_=>⟨[],rfl,rfl,by simp⟩
 |x::b,h=>by
   obtain⟨v,c,d⟩:=h x I;obtain⟨a,e,f,g⟩:=UM λy i=>h y (Yc _ i);exact⟨v::a,by simp[c,<-e],by simp[f],by simpa using⟨d,g⟩⟩
def Bg{B n:Nat}{a:List D}(h:ZY prog B n 3 a):∃v:Int,a=Zg v/\True:=by obtain⟨v,b⟩:=Zc1 Tryz.underlying3 h;exact⟨v,b,trivial⟩
def UU{B n:Nat}{a:List D}(h:ZY prog B n 9 a):∃v:ByteArray,a=Hf v/\True:=by obtain⟨v,b⟩:=Z55 Tryz.underlying9 h;exact⟨v,b,trivial⟩
def Zpr(B:Nat)(x:GV):Prop:=True/\True/\True
def Zq8{B n:Nat}{b:List D}(h:ZY prog B n 95 b):∃v:GV,b=v.z/\Zpr B v:=by obtain⟨m,a⟩:=Av Tryz.underlying95 h;obtain⟨a0,r0,f,t0,a⟩:=a;obtain⟨l,q,c⟩:=Bg t0;obtain⟨a1,r1,g,t1,a⟩:=a;obtain⟨o,r,d⟩:=Bg t1;obtain⟨a2,k,i,t2,a⟩:=a;obtain⟨p,s,e⟩:=UU t2;have j:k=[]:=a;subst q r s;refine⟨⟨l,o,p⟩,?_,c,d,e⟩;rw[f,g,i,j];rfl
def Zf9{B n:Nat}{a:List D}(h:ZY prog B n 4 a):∃v:Bool,a=Jw v/\True:=by obtain⟨v,b⟩:=Z9i Tryz.underlying4 h;exact⟨v,b,trivial⟩
def Zqa(B:Nat)(x:Col):Prop:=True/\True/\True
def Zua{B n:Nat}{b:List D}(h:ZY prog B n 98 b):∃v:Col,b=v.z/\Zqa B v:=by obtain⟨m,a⟩:=Av Tryz.underlying98 h;obtain⟨a0,r0,f,t0,a⟩:=a;obtain⟨l,q,c⟩:=UU t0;obtain⟨a1,r1,g,t1,a⟩:=a;obtain⟨o,r,d⟩:=Bg t1;obtain⟨a2,k,i,t2,a⟩:=a;obtain⟨p,s,e⟩:=Zf9 t2;have j:k=[]:=a;subst q r s;refine⟨⟨l,o,p⟩,?_,c,d,e⟩;rw[f,g,i,j];rfl
def Zr6(B:Nat)(a:List Col):Prop:=a.length<=B/\∀x∈a,Zqa B x
def Zu9{B n:Nat}{a:List D}(h:ZY prog B n 99 a):∃v:List Col,a=[.sl (v.map Col.z)]/\Zr6 B v:=by
 obtain⟨m,xs,rfl,d,e⟩:=Ac Tryz.underlying99 h;obtain⟨f,rfl,h1,c⟩:=UM (enc:=Col.z) (S:=λx=>Zqa B x) λx b=>Zua (e x b);exact⟨f,rfl,by simpa using d,c⟩
def Zfb(B:Nat)(a:List Int):Prop:=a.length<=B/\∀x∈a,True
def Zer{B n:Nat}{a:List D}(h:ZY prog B n 34 a):∃v:List Int,a=[.sl (v.map Zg)]/\Zfb B v:=by
 obtain⟨m,xs,rfl,d,e⟩:=Ac Tryz.underlying34 h;obtain⟨f,rfl,h1,c⟩:=UM (enc:=Zg) (S:=λx=>True) λx b=>Bg (e x b);exact⟨f,rfl,by simpa using d,c⟩
def Zpx(B:Nat)(x:E):Prop:=True/\Zr6 B x.j/\Zfb B x.pk
def Zr3{B n:Nat}{b:List D}(h:ZY prog B n 101 b):∃v:E,b=v.z/\Zpx B v:=by obtain⟨m,a⟩:=Av Tryz.underlying101 h;obtain⟨a0,r0,f,t0,a⟩:=a;obtain⟨l,q,c⟩:=UU t0;obtain⟨a1,r1,g,t1,a⟩:=a;obtain⟨o,r,d⟩:=Zu9 t1;obtain⟨a2,k,i,t2,a⟩:=a;obtain⟨p,s,e⟩:=Zer t2;have j:k=[]:=a;subst q r s;refine⟨⟨l,o,p⟩,?_,c,d,e⟩;rw[f,g,i,j];rfl
def Zpw(B:Nat)(x:Fk):Prop:=True/\Zfb B x.j/\True
def Zr2{B n:Nat}{b:List D}(h:ZY prog B n 106 b):∃v:Fk,b=v.z/\Zpw B v:=by obtain⟨m,a⟩:=Av Tryz.underlying106 h;obtain⟨a0,r0,f,t0,a⟩:=a;obtain⟨l,q,c⟩:=UU t0;obtain⟨a1,r1,g,t1,a⟩:=a;obtain⟨o,r,d⟩:=Zer t1;obtain⟨a2,k,i,t2,a⟩:=a;obtain⟨p,s,e⟩:=UU t2;have j:k=[]:=a;subst q r s;refine⟨⟨l,o,p⟩,?_,c,d,e⟩;rw[f,g,i,j];rfl
def Si(B:Nat)(x:Cons):Prop:=True/\True/\True/\True/\Zpr B x.value
def Zdo{B n:Nat}{b:List D}(h:ZY prog B n 104 b):∃v:Cons,b=v.z/\Si B v:=by obtain⟨m,a⟩:=Av Tryz.underlying104 h;obtain⟨a0,r0,i,t0,a⟩:=a;obtain⟨r,x,c⟩:=UU t0;obtain⟨a1,r1,j,t1,a⟩:=a;obtain⟨s,y,d⟩:=Bg t1;obtain⟨a2,r2,k,t2,a⟩:=a;obtain⟨t,z,e⟩:=UU t2;obtain⟨a3,r3,l,t3,a⟩:=a;obtain⟨u,A,f⟩:=Bg t3;obtain⟨a4,q,o,t4,a⟩:=a;obtain⟨w,C,g⟩:=Zq8 t4;have p:q=[]:=a;subst x y z A C;refine⟨⟨r,s,t,u,w⟩,?_,c,d,e,f,g⟩;rw[i,j,k,l,o,p];rfl
def SC(B:Nat)(a:List E):Prop:=a.length<=B/\∀x∈a,Zpx B x
def Zez{B n:Nat}{a:List D}(h:ZY prog B n 22 a):∃v:List E,a=[.sl (v.map E.z)]/\SC B v:=by
 obtain⟨m,xs,rfl,d,e⟩:=Ac Tryz.underlying22 h;obtain⟨f,rfl,h1,c⟩:=UM (enc:=E.z) (S:=λx=>Zpx B x) λx b=>Zr3 (e x b);exact⟨f,rfl,by simpa using d,c⟩
def SA(B:Nat)(a:List Fk):Prop:=a.length<=B/\∀x∈a,Zpw B x
def Zey{B n:Nat}{a:List D}(h:ZY prog B n 23 a):∃v:List Fk,a=[.sl (v.map Fk.z)]/\SA B v:=by
 obtain⟨m,xs,rfl,d,e⟩:=Ac Tryz.underlying23 h;obtain⟨f,rfl,h1,c⟩:=UM (enc:=Fk.z) (S:=λx=>Zpw B x) λx b=>Zr2 (e x b);exact⟨f,rfl,by simpa using d,c⟩
def Sz(B:Nat)(a:List Cons):Prop:=a.length<=B/\∀x∈a,Si B x
def Zex{B n:Nat}{a:List D}(h:ZY prog B n 24 a):∃v:List Cons,a=[.sl (v.map Cons.z)]/\Sz B v:=by
 obtain⟨m,xs,rfl,d,e⟩:=Ac Tryz.underlying24 h;obtain⟨f,rfl,h1,c⟩:=UM (enc:=Cons.z) (S:=λx=>Si B x) λx b=>Zdo (e x b);exact⟨f,rfl,by simpa using d,c⟩
def Sy(B:Nat)(x:Sch):Prop:=SC B x.q/\SA B x.b/\Sz B x.cons
def Zew{B n:Nat}{b:List D}(h:ZY prog B n 26 b):∃v:Sch,b=v.z/\Sy B v:=by obtain⟨m,a⟩:=Av Tryz.underlying26 h;obtain⟨a0,r0,f,t0,a⟩:=a;obtain⟨l,q,c⟩:=Zez t0;obtain⟨a1,r1,g,t1,a⟩:=a;obtain⟨o,r,d⟩:=Zey t1;obtain⟨a2,k,i,t2,a⟩:=a;obtain⟨p,s,e⟩:=Zex t2;have j:k=[]:=a;subst q r s;refine⟨⟨l,o,p⟩,?_,c,d,e⟩;rw[f,g,i,j];rfl
def Zq9(B:Nat)(x:Stp):Prop:=True/\True/\True/\True/\True/\True/\Zfb B x.j/\True/\Zpr B x.value/\Zpx B x.v/\Si B x.cons/\Zpw B x.fk
def Zu6{B n:Nat}{b:List D}(h:ZY prog B n 108 b):∃v:Stp,b=v.z/\Zq9 B v:=by obtain⟨m,a⟩:=Av Tryz.underlying108 h;obtain⟨a0,r0,A,t0,a⟩:=a;obtain⟨M,W,p⟩:=Bg t0;obtain⟨a1,r1,C,t1,a⟩:=a;obtain⟨N,X,q⟩:=UU t1;obtain⟨a2,r2,E,t2,a⟩:=a;obtain⟨O,Y,r⟩:=UU t2;obtain⟨a3,r3,F,t3,a⟩:=a;obtain⟨P,Z,s⟩:=UU t3;obtain⟨a4,r4,G,t4,a⟩:=a;obtain⟨Q,w4,t⟩:=UU t4;obtain⟨a5,r5,H,t5,a⟩:=a;obtain⟨R,w5,u⟩:=Bg t5;obtain⟨a6,r6,I,t6,a⟩:=a;obtain⟨S,w6,w⟩:=Zer t6;obtain⟨a7,r7,J,t7,a⟩:=a;obtain⟨T,w7,x⟩:=UU t7;obtain⟨a8,r8,K,t8,a⟩:=a;obtain⟨U,w8,y⟩:=Zq8 t8;obtain⟨a9,r9,L,t9,a⟩:=a;obtain⟨V,w9,z⟩:=Zr3 t9;obtain⟨ao,am,k,t10,a⟩:=a;obtain⟨d,j,i⟩:=Zdo t10;obtain⟨al,o,c,t11,a⟩:=a;obtain⟨f,e,g⟩:=Zr2 t11;have l:o=[]:=a;subst W X Y Z w4 w5 w6 w7 w8 w9 j e;refine⟨⟨M,N,O,P,Q,R,S,T,U,V,d,f⟩,?_,p,q,r,s,t,u,w,x,y,z,i,g⟩;rw[A,C,E,F,G,H,I,J,K,L,k,c,l];rfl
def Zqe(B:Nat)(a:List Stp):Prop:=a.length<=B/\∀x∈a,Zq9 B x
def Zr4{B n:Nat}{a:List D}(h:ZY prog B n 49 a):∃v:List Stp,a=[.sl (v.map Stp.z)]/\Zqe B v:=by
 obtain⟨m,xs,rfl,d,e⟩:=Ac Tryz.underlying49 h;obtain⟨f,rfl,h1,c⟩:=UM (enc:=Stp.z) (S:=λx=>Zq9 B x) λx b=>Zu6 (e x b);exact⟨f,rfl,by simpa using d,c⟩
def Zqc(B:Nat)(x:Edg):Prop:=True/\Zqe B x.script
def Zuc{B n:Nat}{b:List D}(h:ZY prog B n 69 b):∃v:Edg,b=v.z/\Zqc B v:=by obtain⟨m,a⟩:=Av Tryz.underlying69 h;obtain⟨a0,r0,e,t0,a⟩:=a;obtain⟨j,l,c⟩:=Bg t0;obtain⟨a1,i,f,t1,a⟩:=a;obtain⟨k,o,d⟩:=Zr4 t1;have g:i=[]:=a;subst l o;refine⟨⟨j,k⟩,?_,c,d⟩;rw[e,f,g];rfl
def Sx(B:Nat)(a:List Edg):Prop:=a.length<=B/\∀x∈a,Zqc B x
def Zev{B n:Nat}{a:List D}(h:ZY prog B n 27 a):∃v:List Edg,a=[.sl (v.map Edg.z)]/\Sx B v:=by
 obtain⟨m,xs,rfl,d,e⟩:=Ac Tryz.underlying27 h;obtain⟨f,rfl,h1,c⟩:=UM (enc:=Edg.z) (S:=λx=>Zqc B x) λx b=>Zuc (e x b);exact⟨f,rfl,by simpa using d,c⟩
def Sw(B:Nat)(x:Gr):Prop:=Sy B x.base/\Sx B x.n
def Zeu{B n:Nat}{b:List D}(h:ZY prog B n 29 b):∃v:Gr,b=v.z/\Sw B v:=by obtain⟨m,a⟩:=Av Tryz.underlying29 h;obtain⟨a0,r0,e,t0,a⟩:=a;obtain⟨j,l,c⟩:=Zew t0;obtain⟨a1,i,f,t1,a⟩:=a;obtain⟨k,o,d⟩:=Zev t1;have g:i=[]:=a;subst l o;refine⟨⟨j,k⟩,?_,c,d⟩;rw[e,f,g];rfl
def Zqb(B:Nat)(a:List GV):Prop:=a.length<=B/\∀x∈a,Zpr B x
def Zub{B n:Nat}{a:List D}(h:ZY prog B n 91 a):∃v:List GV,a=[.sl (v.map GV.z)]/\Zqb B v:=by
 obtain⟨m,xs,rfl,d,e⟩:=Ac Tryz.underlying91 h;obtain⟨f,rfl,h1,c⟩:=UM (enc:=GV.z) (S:=λx=>Zpr B x) λx b=>Zq8 (e x b);exact⟨f,rfl,by simpa using d,c⟩
def Zr7(B:Nat)(a:List (List GV)):Prop:=a.length<=B/\∀x∈a,Zqb B x
def Zue{B n:Nat}{a:List D}(h:ZY prog B n 60 a):∃v:List (List GV),a=[.sl (v.map (Z7 GV.z))]/\Zr7 B v:=by
 obtain⟨m,xs,rfl,d,e⟩:=Ac Tryz.underlying60 h;obtain⟨f,rfl,h1,c⟩:=UM (enc:=(Z7 GV.z)) (S:=λx=>Zqb B x) λx b=>Zub (e x b);exact⟨f,rfl,by simpa using d,c⟩
def Zqd(B:Nat)(x:J):Prop:=True/\Zr7 B x.rows
def Zud{B n:Nat}{b:List D}(h:ZY prog B n 62 b):∃v:J,b=v.z/\Zqd B v:=by obtain⟨m,a⟩:=Av Tryz.underlying62 h;obtain⟨a0,r0,e,t0,a⟩:=a;obtain⟨j,l,c⟩:=UU t0;obtain⟨a1,i,f,t1,a⟩:=a;obtain⟨k,o,d⟩:=Zue t1;have g:i=[]:=a;subst l o;refine⟨⟨j,k⟩,?_,c,d⟩;rw[e,f,g];rfl
def Zqf(B:Nat)(a:List J):Prop:=a.length<=B/\∀x∈a,Zqd B x
def Zuf{B n:Nat}{a:List D}(h:ZY prog B n 44 a):∃v:List J,a=[.sl (v.map J.z)]/\Zqf B v:=by
 obtain⟨m,xs,rfl,d,e⟩:=Ac Tryz.underlying44 h;obtain⟨f,rfl,h1,c⟩:=UM (enc:=J.z) (S:=λx=>Zqd B x) λx b=>Zud (e x b);exact⟨f,rfl,by simpa using d,c⟩
def JB(B:Nat)(a:List (List J)):Prop:=a.length<=B/\∀x∈a,Zqf B x
def Sg{B n:Nat}{a:List D}(h:ZY prog B n 30 a):∃v:List (List J),a=[.sl (v.map (Z7 J.z))]/\JB B v:=by
 obtain⟨m,xs,rfl,d,e⟩:=Ac Tryz.underlying30 h;obtain⟨f,rfl,h1,c⟩:=UM (enc:=(Z7 J.z)) (S:=λx=>Zqf B x) λx b=>Zuf (e x b);exact⟨f,rfl,by simpa using d,c⟩
def Sv(B:Nat)(a:List (List (List J))):Prop:=a.length<=B/\∀x∈a,JB B x
def Zet{B n:Nat}{a:List D}(h:ZY prog B n 31 a):∃v:List (List (List J)),a=[.sl (v.map (Z7 (Z7 J.z)))]/\Sv B v:=by
 obtain⟨m,xs,rfl,d,e⟩:=Ac Tryz.underlying31 h;obtain⟨f,rfl,h1,c⟩:=UM (enc:=(Z7 (Z7 J.z))) (S:=λx=>JB B x) λx b=>Sg (e x b);exact⟨f,rfl,by simpa using d,c⟩
def Zfc(B:Nat)(x:Db):Prop:=JB B x.insts/\Sv B x.comps
def Zes{B n:Nat}{b:List D}(h:ZY prog B n 33 b):∃v:Db,b=v.z/\Zfc B v:=by obtain⟨m,a⟩:=Av Tryz.underlying33 h;obtain⟨a0,r0,e,t0,a⟩:=a;obtain⟨j,l,c⟩:=Sg t0;obtain⟨a1,i,f,t1,a⟩:=a;obtain⟨k,o,d⟩:=Zet t1;have g:i=[]:=a;subst l o;refine⟨⟨j,k⟩,?_,c,d⟩;rw[e,f,g];rfl
def Gh{P:Program}{w:World}:∀{l:List (String×DataW Unit)} {c:List MemPlace},DataW.LaidVars P w l c->∀n d,(n,d)∈l->
  ∃g t a b p,P.globalNamed n=some g/\(P.globals[g]?).map (·.type)=some t/\w.var? P n=some a/\DataW.trod (λ_=>()) P w 0 (λ_=>true) false b t a.toList=some (d,p)
 |[],_,_,_,_,hm=>by cases hm
 |(n',d')::r,c,h,n,d,hm=>by obtain⟨g,t,a,b,p,q,f,i,j,k,m,_⟩:=h;rcases Y5.1 hm with e|e;cases e;exact⟨g,t,a,b,p,f,i,j,k⟩;exact Gh m n d e
def It{P:Program}{w:World}{n:String}{g:Nat}{a:Array Value}(b:P.globalNamed n=some g)(h:w.var? P n=some a):∃T l,w.heap[g]?=some (.cells a T l):=by unfold World.var? at h;rw[b] at h;simp only[Option.bind_some] at h;split at h;cases h;exact⟨_,_,by assumption⟩;cases h
def OR{w:World}{g:Nat}{v:Value}{T:TypeId}{l:Nat×Nat}{a:Array Value}(h:w.heap[g]?=some (.cells a T l))(b:a.toList=[v]):w.cell? ⟨g,0,none⟩=some v:=by
 have:a[0]?=some v:=by rw[<-Array.getElem?_toList,b];rfl
 unfold World.cell?;simp[h,this]
def Dw{α:Type}{x:Option α}{a b:α}(h:x=some a)(k:x=some b):b=a:=Option.some.inj (k.symm.trans h)
def Zdf{W:World}{l:List (String×DataW Unit)}(A:l=Proofs.YtbicbojfaghjcaaGreatDoor.Rows.retentionNewVersionLosesNothingUptoRow.laid)(h:laidMetH prog l W)(n:W.ShapedOpen prog):BV W:=by
 subst A;rw[MakeChecks.laidMetH_plain _ _ _ kR] at h;obtain⟨_,b,_⟩:=h;obtain⟨ga,ta,ca,_,_,c,_,j,_⟩:=Gh b _ _ (.tail _ (.head _));obtain rfl:=Dw (a:=5) kR c;obtain⟨Ta,la,k⟩:=It c j;obtain⟨gb,tb,cb,fb,pb,d,p,q,r⟩:=Gh b _ _ (.tail _ (.tail _ (.head _)));obtain rfl:=Dw (a:=1) kR d;obtain rfl:=Dw (a:=278) kR p;obtain⟨i,C,s⟩:=It d q;have x:=Lib.cells_of_tab (zs:=Lib.pow10Tab) Tryz.underlying278 Tryz.underlying270 kR kR r;obtain⟨gc,tc,cc,fc,pc,e,u,v,w⟩:=Gh b _ _ (.tail _ (.tail _ (.tail _ (.tail _ (.head _)))));obtain rfl:=Dw (a:=2) kR e;obtain rfl:=Dw (a:=265) kR u;obtain⟨Tc,lc,f⟩:=It e v;obtain⟨_,D,vc,y,_⟩:=iface_of_trod Tryz.underlying265 w;obtain⟨gd,td,cd,fd,pd,d1,d2,d3,d4⟩:=Gh b _ _ (.tail _ (.tail _ (.tail _ (.head _))));obtain rfl:=Dw (a:=3) kR d1;obtain rfl:=Dw (a:=265) kR d2;obtain⟨Td,ld,d5⟩:=It d1 d3;obtain⟨_,E,F,z,_⟩:=iface_of_trod Tryz.underlying265 d4;obtain⟨m,B⟩:=cell_of_shapedOpen_int (P:=prog) (g:=0) (t:=3) (zero:=#[.int .i64 0]) n (of_decide_eq_true kR) kR rfl kR kR Tryz.underlying3;have o:6<=W.heap.size:=by
  have:=(YQ.1 k).1
  have:=(YQ.1 f).1
  have:=(YQ.1 d5).1
  omega
 refine⟨o,⟨i,C,?_⟩,⟨D,vc,OR f y⟩,⟨E,F,OR d5 z⟩,⟨m,B⟩⟩;rw[s,<-x]
end
end Go.Am
namespace Go.Proofs.YtbicbojfaghjcaaGreatDoor.retentionNewVersionLosesNothing
section
open Go Go.Am Go.ChangeShapes Go.WideShapes Go.ChangeAt Go.RowKit
theorem own:ownKnob Tryz.prog.godebug=none:=kR
theorem laid:laidOutB Tryz.prog=true:=kR
def Ze5:List TypeId:=[29,26,22,101,9,99,98,3,4,34,23,106,24,104,95,27,69,49,108,33,30,44,62,60,91,31]
theorem ID:RF Tryz.prog Ze5=true:=kR
theorem Ze1{g:Gr}(h:Sw 1048576 g):∀e∈g.n,∀x∈e.script,U7 x:=by intro e d x i;have b:=(h.2.2 e d).2.2 x i;obtain⟨_,_,_,_,_,_,c,_,_,a,_,f⟩:=b;exact⟨c.1,a.2.1.1,a.2.2.1,f.2.1.1⟩
theorem Zu3{b:List Stp}(h:Zqe 1048576 b):∀x∈b,U7 x:=by intro x f;have c:=h.2 x f;obtain⟨_,_,_,_,_,_,d,_,_,a,_,e⟩:=c;exact⟨d.1,a.2.1.1,a.2.2.1,e.2.1.1⟩
theorem Qb:∀(l:List (List (List J))),l.flatten.length<=AM (l.map (Z7 (Z7 J.z)))
 |[]=>by simp
 |y::l=>by have h1:=Qb l;have a:=L4 (y.map (Z7 J.z));simp only[Yb,AM,Z7,WQ,DT,XC,Ye,Yd] at a|-;omega
theorem Zff{a:Db}(k:WQ a.z+1<=1048576):a.comps.flatten.length+a.insts.length<=2097152:=by have e1:=Qb a.comps;have b:=L4 (a.insts.map (Z7 J.z));have e3:WQ a.z=AM (a.insts.map (Z7 J.z))+(AM (a.comps.map (Z7 (Z7 J.z)))+0):=rfl;rw[Yd] at b;omega
set_option maxRecDepth 100000 in
theorem Zae(H:Type)(m:TypeId×Value->H)(W:World)(aj:Nat)(b:Array Value)(D Y:List (DataW H))(d:List MemPlace)
  (r:∀(j:Nat) t v,f4.params[j]?=some t->b[j]?=some v->Value.okWide Tryz.prog W .any aj t v)
  (E:DataW.Whole m Tryz.prog f4.params.toList Rows.retentionNewVersionLosesNothingSpec.vars false W b.toList D Y d)(hk:Rows.uptoSmall H (D++Y)=true)(hL:laidMetH Tryz.prog Rows.retentionNewVersionLosesNothingUptoRow.laid W)(bg:W.ShapedOpen Tryz.prog):
  Calls Tryz.prog 4 b W λe N=>∃v,e=.returned v/\Rows.retentionNewVersionLosesNothingSpec.post m Tryz.prog f4 false true false false W b v N:=by
 have ba:=E;have f:=E.lt;obtain⟨p,q,ay,hV,rfl,bz,bv⟩:=E;have hA:DataW.TrodAll m Tryz.prog W 0 (λ_=>true) true f4.params.toList b.toList D p:=ay;rw[params4] at hA r;obtain⟨v0,bw,d0,bp,J,q0,a7,rfl,rfl,Z,r0⟩:=trodAll_cons hA;obtain⟨v1,bn,d1,bu,K,q1,rfl,rfl,rfl,h1,r1⟩:=trodAll_cons r0;obtain⟨v2,br,d2,b0,L,q2,rfl,rfl,rfl,h2,r2⟩:=trodAll_cons r1;obtain⟨v3,bq,d3,bm,M,q3,rfl,rfl,rfl,h3,r3⟩:=trodAll_cons r2;obtain⟨rfl,rfl,rfl⟩:=trodAll_nil r3;obtain rfl:b=#[v0,v1,v2,v3]:=by cases b;simp_all
 obtain⟨rfl,rfl⟩:=trodVars_none hV;have hb:=of_decide_eq_true hk;simp only[Ym,Rows.uptoBulkAll] at hb;obtain⟨l,rfl,_⟩:=okWide_struct Tryz.underlying29 (r 0 29 v0 rfl rfl);obtain⟨C,rfl,_⟩:=okWide_struct Tryz.underlying33 (r 1 33 v1 rfl rfl);obtain⟨I,rfl⟩:=okWide_int Tryz.underlying3 (r 2 3 v2 rfl rfl);obtain⟨z,A,c,rfl⟩:=okWide_slice Tryz.underlying49 (r 3 49 v3 rfl rfl);have aw:=Z;have az:=h1;have ax:=h2;have ar:=h3;obtain⟨n0,bj⟩:=Z;obtain⟨n1,au⟩:=h1;obtain⟨n2,bd⟩:=h2;obtain⟨n3,a1⟩:=h3;obtain⟨T,Q,bk,y⟩:=Iv (B:=1048576) ID dE n0 29 _ _ dE bj (by simp only;omega);have k0:WQ T+1<=1048576:=by simp only at y;omega
 obtain⟨U,R,a8,P⟩:=Iv (B:=1048576) ID dE n1 33 _ _ dE au (by simp only;omega);have k1:WQ U+1<=1048576:=by simp only at P;omega
 obtain⟨V,aq,bc,O⟩:=Iv (B:=1048576) ID dE n2 3 _ _ dE bd (by simp only;omega);have k2:WQ V+1<=1048576:=by simp only at O;omega
 obtain⟨X,bf,bi,S⟩:=Iv (B:=1048576) ID dE n3 49 _ _ dE a1 (by simp only;omega);have k3:WQ X+1<=1048576:=by simp only at S;omega
 have kk:WQ T+WQ U+WQ V+WQ X<=1048576:=by simp only at y P O S;omega
 obtain⟨x0,rfl,y0⟩:=Zeu bk;obtain⟨x1,rfl,y1⟩:=Zes a8;obtain⟨x2,rfl,y2⟩:=Bg bc;obtain⟨x3,rfl,y3⟩:=Zr4 bi;have hS:=(Zr8 x0 x1 x2 x3).h true (Zu8 x0 x1 x2 x3 (Ze1 y0) (Zff k1) (Zu3 y3));refine(hS.2 W (cellsOf W) (λ_ _=>none) #[.agg l,.agg C,.int .i64 I,.slice z A c] (Zdf rfl hL bg) (λ_ _ _ h=>h) (λ_ _ _ h=>by cases h) ?_).mono λe N n=>?_;refine⟨rfl,λi a w=>?_⟩
 match i with
 |0=>
   cases w;refine⟨.agg l,rfl,l,rfl,by simpa[Value.cells] using Q.1,λj x F=>?_⟩;obtain⟨u,g,k⟩:=Q.2 j x F;exact⟨u,by simpa[Value.cells] using g,k⟩
 |1=>
   cases w;refine⟨.agg C,rfl,C,rfl,by simpa[Value.cells] using R.1,λj x F=>?_⟩;obtain⟨u,g,k⟩:=R.2 j x F;exact⟨u,by simpa[Value.cells] using g,k⟩
 |2=>
   cases w;obtain⟨u,g,k⟩:=aq.2 0 _ rfl;refine⟨.int .i64 I,rfl,?_⟩
   have:u=.int .i64 I:=by simpa[Value.cells] using g.symm
   rw[<-this];exact k
 |3=>
   cases w;obtain⟨u,g,k⟩:=bf.2 0 _ rfl;refine⟨.slice z A c,rfl,?_⟩
   have:u=.slice z A c:=by simpa[Value.cells] using g.symm
   rw[<-this];exact k
 |i+4=>simp at w
 obtain⟨v,m',bt,rfl,_,_,_,s,ao,_⟩:=n;have hv:v=.bool true:=by cases ao;rfl
 subst hv;refine⟨_,rfl,[d0,d1,d2,d3],[],J++(K++(L++(M++[])))++[],[],J++(K++(L++(M++[]))),[],ba,trodAll_mk1 (shut_bool Tryz.underlying4 true),?_,rfl,s.frame _,λh=>by cases h⟩;have ap:∀x∈J,x.block<W.heap.size:=λx o=>f x (by simp[o]);have bh:∀x∈K,x.block<W.heap.size:=λx o=>f x (by simp[o]);have G:∀x∈L,x.block<W.heap.size:=λx o=>f x (by simp[o]);have bb:∀x∈M,x.block<W.heap.size:=λx o=>f x (by simp[o]);exact trodAll_cons_mk (Below.trod laid kR (of_decide_eq_true kR) aw s ap) (trodAll_cons_mk (Below.trod laid kR (of_decide_eq_true kR) az s bh) (trodAll_cons_mk (Below.trod laid kR (of_decide_eq_true kR) ax s G) (trodAll_cons_mk (Below.trod laid kR (of_decide_eq_true kR) ar s bb) trodAll_mk0)))
theorem Za4(a:Os):laidMet Tryz.prog Rows.retentionNewVersionLosesNothingUptoRow.laid ((World.laidAll Tryz.prog a Rows.retentionNewVersionLosesNothingUptoRow.laid).forCall (λ_ _=>0) ⟨#[],#[.agg #[.slice none 0 0,.slice none 0 0,.slice none 0 0,.slice none 0 0],.agg #[.slice none 0 0,.slice none 0 0],.int .i64 0,.slice none 0 0],[]⟩).memory:=laidMet_laidAll _ kR kR
theorem Ze4(c:Os){H:Type}(b:TypeId×Value->H):∃a,DataW.whole b Tryz.prog ((World.laidAll Tryz.prog c Rows.retentionNewVersionLosesNothingUptoRow.laid).forCall (λ_ _=>0) ⟨#[],#[.agg #[.slice none 0 0,.slice none 0 0,.slice none 0 0,.slice none 0 0],.agg #[.slice none 0 0,.slice none 0 0],.int .i64 0,.slice none 0 0],[]⟩).memory f4.params.toList Rows.retentionNewVersionLosesNothingSpec.vars false (#[.agg #[.slice none 0 0,.slice none 0 0,.slice none 0 0,.slice none 0 0],.agg #[.slice none 0 0,.slice none 0 0],.int .i64 0,.slice none 0 0]:Array Value).toList 8=some ([.agg [.agg [.nil,.nil,.nil],.nil],.agg [.nil,.nil],.lit (.int .i64 0),.nil],[],a):=⟨[],kR⟩
set_option maxRecDepth 100000 in
theorem lifted(o:Os)(b:o.Started)(H:Type)(enc:TypeId×Value->H)(F:Stop.Interp):
  ReturnsInHanded {} Tryz.checked o 4 .any ((Rows.OpenSpec.upto Rows.retentionNewVersionLosesNothingSpec).preRow enc Tryz.prog f4 Rows.retentionNewVersionLosesNothingUptoRow.domain false Rows.retentionNewVersionLosesNothingUptoRow.laid) (((Rows.OpenSpec.upto Rows.retentionNewVersionLosesNothingSpec).at F).post enc Tryz.prog f4 false true false false):=by
 obtain⟨places,hx⟩:=Ze4 o enc;refine returnsInHanded_of_row (C:=Tryz.checked) (s:=Rows.OpenSpec.upto Rows.retentionNewVersionLosesNothingSpec) own b kR func4
  (witness_row_atRef (enc:=enc) (C:=Tryz.checked) false (World.laidAll Tryz.prog o Rows.retentionNewVersionLosesNothingUptoRow.laid) #[.agg #[.slice none 0 0,.slice none 0 0,.slice none 0 0,.slice none 0 0],.agg #[.slice none 0 0,.slice none 0 0],.int .i64 0,.slice none 0 0] (World.laidAll_os _ _ _) kR kR kR
   (OpenSpec.preRow_of_cond 8 hx kR (λk u=>by cases u;kernel_rfl) kR (Za4 o))) ?_
 intro W j g ds q e n t _ f _ r p _;exact Zae H enc W j g ds q e n t (f _ rfl) r p
theorem Zek:(Rows.retentionNewVersionLosesNothingUptoRow.inPlace==Tryz.prog.inPlace 4)=true:=kR
theorem Zej:(Rows.retentionNewVersionLosesNothingUptoRow.unfollowed==Tryz.prog.unfollowed 4)=true:=kR
theorem Zei:(Rows.retentionNewVersionLosesNothingUptoRow.recurses==Tryz.prog.recurses 4)=true:=kR
theorem Zeh:(Rows.retentionNewVersionLosesNothingUptoRow.named==Tryz.prog.varsNamed 4)=true:=kR
theorem Zeg:(Rows.retentionNewVersionLosesNothingUptoRow.plainKeys==Tryz.prog.plainKeys)=true:=kR
theorem Zef:Tryz.prog.stopsHeard=true:=kR
theorem Zee:Tryz.prog.mayEnter=true:=kR
theorem Zed:(Rows.retentionNewVersionLosesNothingUptoRow.lifted==Tryz.prog.liftsFinal)=true:=kR
theorem Zec:(Tryz.prog.make==some Rows.retentionNewVersionLosesNothingUptoRow.make)=true:=kR
theorem Zdl:mapsRowed Tryz.prog=true:=kR
theorem Zdk:Rows.retentionNewVersionLosesNothingUptoRow.wf (OpenSpec.ofChange (Rows.OpenSpec.upto Rows.retentionNewVersionLosesNothingSpec).bare)=true:=kR
theorem Zdj:laidOutB Tryz.prog=true:=kR
theorem Zdi:namedTie Tryz.prog Rows.retentionNewVersionLosesNothingUptoRow.named (Rows.OpenSpec.upto Rows.retentionNewVersionLosesNothingSpec).bare.vars=true:=kR
theorem Zdh:Tryz.pinned.checked.prog.funcNamed Rows.retentionNewVersionLosesNothingUptoRow.func=some 4:=kR
set_option maxRecDepth 100000 in
theorem Zds:joinedFacts Tryz.prog 4 f4 (Rows.OpenSpec.upto Rows.retentionNewVersionLosesNothingSpec).bare Rows.retentionNewVersionLosesNothingUptoRow=true:=by
 unfold joinedFacts;rw[Zek,Zej,Zei,Zeh,Zeg,Zef,Zee,Zed,Zec,Zdl,Zdk,Zdj,Zdi]
 kernel_rfl
theorem Zf7:Rows.RetentionNewVersionLosesNothingUptoSaid:=
 OpenClaim.holds_of_cond 4 f4 rfl rfl rfl rfl rfl rfl rfl ⟨rfl,rfl,rfl,rfl,rfl⟩ rfl rfl rfl rfl rfl Zdh func4 Zds
  (of_decide_eq_true kR) (by unfold Func.isWrapper;first|(rw[if_pos (by decide+kernel)];kernel_rfl)|(rw[if_neg (by decide+kernel)];exact⟨rfl,rfl⟩))
  (λc a H b _ F=>by rw[OpenClaim.pre_eq_preRow];exact lifted c a H b F)
theorem Zdc(f:FuncId)(b:Func)(e:Tryz.pinned.checked.prog.funcNamed Rows.retentionNewVersionLosesNothingUptoRow.func=some f)(d:Tryz.pinned.checked.prog.funcs[f]?=some b):
  true=Tryz.pinned.checked.prog.looks []/\∀(j:Nat) t,b.params[j]?=some t->Tryz.pinned.checked.prog.wantsStandIn t=false:=by
 obtain rfl:f=4:=Option.some.inj ((kR:Tryz.prog.funcNamed Rows.retentionNewVersionLosesNothingUptoRow.func=some 4).symm.trans e)|>.symm;obtain rfl:b=f4:=(Option.some.inj (func4.symm.trans d)).symm;refine⟨kR,λj t c=>?_⟩;rw[params4] at c;have g:t∈[29,33,3,49]:=by simpa using Array.mem_of_getElem? c
 have a:([29,33,3,49].all λu=>!Tryz.prog.wantsStandIn u)=true:=kR;exact(show Tryz.prog.wantsStandIn t=false by simpa using Xu.1 a t g)
theorem Zu5:Tryz.pinned.checked.prog.funcs.any Func.goes=false:=kR
theorem Zsx{P:Program}(h:P.funcs.any Func.goes=false)(f:FuncId):P.goes f=false:=by
 unfold Program.goes;rw[h,Bool.and_false,Bool.or_false,List.any_eq_false];intro g _;cases hg:P.funcs[g]? with
 |none=>simp
 |some fn=>?_
 rw[Array.any_eq_false] at h;obtain⟨a,rfl⟩:=YQ.1 hg;simpa using h g a
theorem Zrn{c:OpenClaim}{P:Program}(h:P.funcs.any Func.goes=false)(a:c.start=.entering):false=c.goesBy P:=by
 unfold OpenClaim.goesBy Program.goesAt Program.goesFrom;rw[a];cases P.funcNamed c.func with
 |none=>rfl
 |some f=>simp[Zsx h]
theorem Zml:Rows.RetentionNewVersionLosesNothingUptoCardSaid:=
 Claim7.holds_tied_plain_at .later [] _ _ _ _ Zf7 (λ_ h=>by cases h) kR (λ_ h=>by cases h) retentionNewVersionLosesNothingUpto_row_tie rfl ⟨rfl,rfl⟩ kR rfl Zdc (Zrn Zu5 rfl)
end
end Go.Proofs.YtbicbojfaghjcaaGreatDoor.retentionNewVersionLosesNothing
