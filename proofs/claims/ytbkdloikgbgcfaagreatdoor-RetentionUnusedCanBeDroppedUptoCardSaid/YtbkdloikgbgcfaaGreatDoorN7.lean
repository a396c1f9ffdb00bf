import Derived.Test.YtbkdloikgbgcfaaGreatDoorN6
import Derived.Test.YtbkdloikgbgcfaaGreatDoorCards
import Derived.Test.YtbkdloikgbgcfaaGreatDoorTie
import Derived.ProofKit
import Derived.OpenShut
import Derived.Lay
import Derived.Deep.DeepWitnessRowRef
set_option linter.all false
set_option maxRecDepth 20000
open Go Go.Proofs
open Go.Proofs.Tryz
open ByteArray(empty)
namespace Go.Am
section
def E4(v:Int)(e:Edg):Edg:=⟨bif decide (v<e.m) then e.m-1 else e.m,e.script⟩
def Zps(g:Gr)(a:Db)(v:Int):Option (Gr×Db×Int):=
 Z1 (C0 g a) λe=>bif e !=0 then some (⟨⟨[],[],[]⟩,[]⟩,⟨[],[]⟩,e) else
 bif decide (v<1)||decide ((g.n.length:Int)<v) then some (⟨⟨[],[],[]⟩,[]⟩,⟨[],[]⟩,4) else
 Z1 (Zpk g.n λx=>Zpm x v) λb=>bif b then some (⟨⟨[],[],[]⟩,[]⟩,⟨[],[]⟩,15) else
 Z1 (Zpq g) λc=>Zp (MV a/\c.n.length=g.n.length/\v<a.insts.length/\v<=a.comps.length/\∀e∈c.n,-2097152<=e.m/\e.m<=2097152)<|
 some (⟨c.base,(c.n.take (v.toNat-1)++c.n.drop v.toNat).map (E4 v)⟩,⟨a.insts.take v.toNat++a.insts.drop (v.toNat+1),a.comps.take (v.toNat-1)++a.comps.drop v.toNat⟩,0)
def Zr4{a:List Edg}:Zy 2 (a.map Zpb):=λx b=>by obtain⟨y,_,rfl⟩:=Yi.1 b;rfl
def Zrn(h:HS)(d:Db)(i:∀x∈d.insts,Is (Vw x) x)(j:∀x∈d.comps,Is (Dg x) x)(K:V->HS->Prop)(l:∀c b a,Wt a c (d.insts.map Wq)->Wt a b (d.comps.map Um)->(∀k∈Z c++Z b,h.p<=k.1/\k.1<a.p)->(∀k∈Z c,k∉Z b)->Z0 h a []->ZG h a->K (.agg [c,b]) a):
  Z5 prog 46 [.agg (d.z.map C.d)] h K:=
 Z5.jE func46 rfl kR λf=>Z10 h d i j K λc b a n o m g e=>l c b a n o m g e (e.jA f)
def Zpw(e:Env)(f:Z2->Z2->Prop):Prop:=match e.get 10,e.get 11 with| .one (.ptr a 0),.one (.ptr b 0)=>f a b|_,_=>False
def Zpw.of{e:Env}{f:Z2->Z2->Prop}(h:Zpw e f):∃a b,e.get 10=.p a/\e.get 11=.p b/\f a b:=by unfold Zpw at h;split at h;exact⟨_,_,by assumption,by assumption,h⟩;exact h.elim
def Zqb{k:Z2}{n j:Nat}(h:k.1≠n):(k=(n,j))=False:=eq_false λa=>h (by rw[a])
def Zui{j l:Z2}{g f e:C}(p:j≠l)(o:∀k∈Z g++Z f++Z e,k≠j/\k≠l)(n:∀k∈Z g,k∉Z f++Z e)(q:∀k∈Z f,k∉Z e):(j::l::(Z g++Z f++Z e)).Nodup:=by
 have m:∀c:C,(Z c).Nodup:=λc=>by cases c<;>simp[Z]
 refine XF.2 ⟨λd=>?_,XF.2 ⟨λd=>(o _ d).2 rfl,Yk.2 ⟨Yk.2 ⟨m g,m f,λa i b h d=>n a i (by simp[d▸h])⟩,m e,λa i b h d=>?_⟩⟩⟩;rcases Y5.1 d with h8|h8;exact p h8;exact(o _ h8).1 rfl;subst d;rcases Y3.1 i with h8|h8;exact n a h8 (by simp[h]);exact q a h8 h
structure DropM(h:HS)(g gc:Gr)(db:Db)(v:Int)(ce ci cc:C)(l3 l4:Z2):Prop where
 b2:h.a (2,80)=some [.d (.int .i64 v)]
 b3:h.a (3,96)=some [.nil,.nil,.nil,.nil]
 b4:h.a (4,112)=some [.nil,.nil]
 bg:h.a l3=some [.d (.sl (gc.base.q.map E.z)),.d (.sl (gc.base.b.map Fk.z)),.d (.sl (gc.base.cons.map Cons.z)),ce]
 bd:h.a l4=some [ci,cc]
 mE:MR h 2 ce (gc.n.map Zpb)
 mI:Wt h ci (db.insts.map Wq)
 mC:Wt h cc (db.comps.map Um)
 nd:(l3::l4::(Z ce++Z ci++Z cc)).Nodup
 lo:∀k∈l3::l4::(Z ce++Z ci++Z cc),4<k.1/\k.1<h.p
def DropM.mk'{c b H:HS}{g n:Gr}{p:Db}{v:Int}{m j i:C}{e f:Z2}{E0 h:Nat}(t:H.a (2,80)=some [.d (.int .i64 v)])(u:H.a (3,96)=some [.nil,.nil,.nil,.nil])(w:H.a (4,112)=some [.nil,.nil])
  (y:H.a e=some [.d (.sl (n.base.q.map E.z)),.d (.sl (n.base.b.map Fk.z)),.d (.sl (n.base.cons.map Cons.z)),m])(x:H.a f=some [j,i])
  (D:MR c 2 m (n.n.map Zpb))(o:∀k∈Z m,E0<=k.1/\k.1<c.p)(F:Wt b j (p.insts.map Wq))(B:Wt b i (p.comps.map Um))(l:∀k∈Z j++Z i,h<=k.1/\k.1<b.p)(A:∀k∈Z j,k∉Z i)
  (h4:4<E0/\E0<=c.p)(hE:c.p<=h/\h<=b.p)(f1:∀k:Z2,E0<=k.1->k.1<c.p->H.a k=c.a k)(f2:∀k:Z2,h<=k.1->k.1<b.p->H.a k=b.a k)(ad:b.p<=H.p)
  (r3:4<e.1/\e.1<H.p/\(e.1<E0\/(c.p<=e.1/\e.1<h)\/b.p<=e.1))(r4:4<f.1/\f.1<H.p/\(f.1<E0\/(c.p<=f.1/\f.1<h)\/b.p<=f.1))(s:e≠f):DropM H g n p v m j i e f:=by
 have r:∀k∈Z m++Z j++Z i,(E0<=k.1/\k.1<c.p)\/(h<=k.1/\k.1<b.p):=λk a=>by rw[Yz] at a;exact(Y3.1 a).imp (o k) (l k)
 refine⟨t,u,w,y,x,D.frame λk a=>f1 k (o k a).1 (o k a).2,F.frame λk a=>f2 k (l k (by simp[a])).1 (l k (by simp[a])).2,B.frame λk a=>f2 k (l k (by simp[a])).1 (l k (by simp[a])).2,Zui s (λk a=>?_) (λk a z=>?_) A,λk a=>?_⟩;have q:=r k a
 constructor<;>(rintro rfl;omega)
 have:=o k a
 have:=l k z
 omega;rcases Y5.1 a with rfl|h8;omega;rcases Y5.1 h8 with rfl|h8;omega;have q:=r k h8;omega
set_option maxHeartbeats 2000000 in
def Zro(g:Gr)(Q:Db)(v:Int)(r:Gr×Db×Int)(s:Is (Zps g Q v) r):
  Zq prog 15 [.agg g.z,.agg Q.z,.i v] (.tup [.agg (r.1.z.map RC.d),.agg (r.2.1.z.map RC.d),.i r.2.2]):=by
 unfold Zps at s;refine Zq.of_heap ?_;show Z5 _ _ [.agg (g.z.map C.d),.agg (Q.z.map C.d),.i v] HS.init _;refine Z5.ov func15 ?_;obtain⟨e,he,s⟩:=s.bind;simp;refine Zx ((Z0i g Q).h e he) I ?_;simp;refine ZP s ?_ ?_<;>clear s<;>intro hc s;obtain rfl:=Zk s;simp[ZS,ZK,ZX,W5];exact⟨⟨.data rfl,.data rfl,.data rfl,.data rfl,trivial⟩,⟨.data rfl,.data rfl,trivial⟩,.data rfl,trivial⟩;simp;by_cases hv0:v<1;simp only[hv0,decide_true,Bool.true_or,cond_true] at s;obtain rfl:=Zk s;simp[hv0,ZS,ZK,ZX,W5];exact⟨⟨.data rfl,.data rfl,.data rfl,.data rfl,trivial⟩,⟨.data rfl,.data rfl,trivial⟩,.data rfl,trivial⟩;have bu:decide (v<1)=false:=sO
 rw[bu,Bool.false_or] at s;simp[hv0];intro dk
 try simp[hv0]
 refine ZP s ?_ ?_<;>clear s<;>intro ck s;obtain rfl:=Zk s;simp[ZS,ZK,ZX,W5];exact⟨⟨.data rfl,.data rfl,.data rfl,.data rfl,trivial⟩,⟨.data rfl,.data rfl,trivial⟩,.data rfl,trivial⟩;obtain⟨b,hb,s⟩:=s.bind;simp;refine Zx (Zrf g.n 44 [[.int .i64 v]] (λx=>Zpm x v) (λxa w hw=>(Zrm xa v).h w hw) b hb) I ?_;simp;refine ZP s ?_ ?_<;>clear s<;>intro dy s;obtain rfl:=Zk s;simp[ZS,ZK,ZX,W5];exact⟨⟨.data rfl,.data rfl,.data rfl,.data rfl,trivial⟩,⟨.data rfl,.data rfl,trivial⟩,.data rfl,trivial⟩;obtain⟨S,b9,s⟩:=s.bind;obtain⟨⟨ap,dp,dw,d6,aj⟩,s⟩:=s.chk;obtain rfl:=Zk s;clear s;simp;refine Z6.cut (Y.qB [0,2] (.three 1 4 5 (Y.qB [] (.three 3 4 5 (Y.qB [] (.two 4 5 (Y.qB [5,6,7] .done) (Y.qB [4,6,7] .done))) (Y.qB [] (.two 3 5 (Y.qB [5,6,7] .done) (Y.qB [3,6,7] .done))) (Y.qB [] (.two 3 4 (Y.qB [4,6,7] .done) (Y.qB [3,6,7] .done))))) (Y.qB [] (.two 1 5 (Y.qB [] (.two 3 5 (Y.qB [5,6,7] .done) (Y.qB [3,6,7] .done))) (Y.qB [1,3,6,7] .done))) (Y.qB [] (.two 1 4 (Y.qB [] (.two 3 4 (Y.qB [4,6,7] .done) (Y.qB [3,6,7] .done))) (Y.qB [1,3,6,7] .done))))) follows kR (λe1 B=>∃G P A t u,e1.get 10=.p t/\e1.get 11=.p u/\En e1 89 [(5,.p (2,80)),(6,.p (3,96)),(7,.p (4,112)),(8,.i 0)]/\DropM B g S Q v G P A t u) ?_ ?_
 .simp[Y.qB,vcPlan,planOps,isCallAt,callKind]
  repeat' with_reducible refine And.intro ?_ ?_
  all_goals
   refine Zc (Zri _ g S b9 _ λG B mE cb ab dm=>?_);have a2:=ab.2 (2,80) I I;have a3:=ab.2 (3,96) I I;have a4:=ab.2 (4,112) I I;have a1:=ab.2 (1,64) I I;have c5:=λk=>ab.2 (7,k);have c6:=λk=>ab.2 (8,k);simp at a1 a2 a3 a4 c5 c6;simp[Y.qB,vcPlan,planOps,isCallAt,callKind,a1,c5,c6]
   repeat' with_reducible refine And.intro ?_ ?_
   all_goals first|exact dm|skip
   all_goals refine Zc (Zrn _ Q (λx hx=>NV (ap.1 x hx)) (λl hl=>Z3i (ap.2 l hl).1 (ap.2 l hl).2) _ λP A h2 mI mC hl hd z hb2=>?_)
   all_goals have dc:=ab.1
   all_goals have cn:=z.1
   all_goals simp at dc cn
   all_goals have l5:6<B.p:=X
   all_goals have d2:=z.2 (2,80) (by first|(simp;done)|(simp;omega)) I
   all_goals have d3:=z.2 (3,96) (by first|(simp;done)|(simp;omega)) I
   all_goals have d4:=z.2 (4,112) (by first|(simp;done)|(simp;omega)) I
   all_goals have c7:=λk=>z.2 (B.p,k)
   all_goals have c8:=λk=>z.2 (B.p+1,k)
   all_goals have e5:=λk=>z.2 (7,k)
   all_goals have e6:=λk=>z.2 (8,k)
   all_goals have ne:∀a b k:Nat,a<B.p->((a,b)=(B.p,k))=False:=λa b k ha=>eq_false (by intro j;simp at j;omega)
   all_goals have ax:∀a b k:Nat,a<B.p->((a,b)=(B.p+1,k))=False:=λa b k ha=>eq_false (by intro j;simp at j;omega)
   all_goals have t2:2<B.p/\3<B.p/\4<B.p:=X
   all_goals simp[a2,a3,a4,ne,ax,t2] at d2 d3 d4
   all_goals try simp at c7
   all_goals try simp at c8
   all_goals first|(have l7:7<B.p:=X;try simp[c5,c6,l7,ne,ax,Nat.lt_succ_of_lt] at e5)|clear e5 c5
   all_goals first|(have l8:8<B.p:=X;try simp[c5,c6,l8,ne,ax,Nat.lt_succ_of_lt] at e6)|clear e6 c6
   all_goals simp[Y.qB,vcPlan,planOps,isCallAt,callKind, *]
   all_goals repeat' with_reducible refine And.intro ?_ ?_
   all_goals first|exact hb2|skip
   all_goals try refine Ze.of ⟨G,P,A,Zpw.of ?_⟩
   all_goals try simp[Zpw,d2,d3,d4]
   all_goals refine DropM.mk' (by simp[d2]) (by simp[d3]) (by simp[d4]) I I mE cb mI mC hl hd (by simp<;>omega) (by simp<;>omega) (λk U k2=>?_) (λk U k2=>?_) (by simp<;>omega) (by simp<;>omega) (by simp<;>omega) I
   all_goals try simp at U
   all_goals first
   | (have q2:=z.2 k (by first|omega|(simp;done)|(simp;omega)) I
      try simp (disch:=omega) [Zqb] at q2
      simp (disch:=omega) [Zqb,q2]
      done)
   | (simp (disch:=omega) [Zqb]
      done)
 rintro e1 H ⟨G,P,A,t,u,aw,a7,hE,M⟩;have dv:1<=v:=X
 have dt:v<=g.n.length:=by have:=of_decide_eq_false ck;omega
 obtain⟨n,rfl⟩:∃ n:Nat,v=(n:Int)+1:=⟨v.toNat - 1,X⟩;have ea:g.n.length<=2097152:=dk;have wn:IntKind.i64.wrap (n:Int)=(n:Int):=Y6 _ X;have cy:IntKind.i64.wrap ((n:Int)+1+1)=(n:Int)+1+1:=Y6 _ X;have i2:=M.b2;have ig:=M.bg;have bk:=M.bd;have R:=M.lo;have ag:=M.nd;have dd:t≠(2,80):=λj=>by have:=(R t I).1;rw[j] at this;simp at this
 have dz:u≠(2,80):=λj=>by have:=(R u I).1;rw[j] at this;simp at this
 simp[hE,aw,a7,i2,ig,wn];have ah:=Zrj H G (S.n.map Zpb) n (n+1) M.mE X sO;rw[show ((n+1:Nat):Int)=(n:Int)+1 from rfl] at ah;refine Zc (ah _ λc2 h2 m2 f2 d0 eb ae=>?_);have bj:t ∉ Z G:=λj=>by have:=(XF.1 ag).1;exact this (by simp[j])
 have da:u ∉ Z G:=λj=>by have:=(XF.1 (XF.1 ag).2).1;exact this (by simp[j])
 have cg:=(f2 t bj).trans ig;have d8:=(f2 u da).trans bk;simp[hE,aw,a7,cg];generalize hD:S.n.take n++S.n.drop (n+1)=D;have d1:D.length=g.n.length - 1:=by rw[<- hD];simp;omega
 have cd:∀ e ∈ D,-2097152<=e.m/\e.m<=2097152:=λe he=>by rw[<- hD] at he;rcases Y3.1 he with j | j;exact aj e (XE j);exact aj e (Y01 j)
 have m2:MR h2 2 c2 (D.map Zpb):=by rw[<- hD,YL,XP,Xy];exact m2
 have al:t ∉ Z c2:=by rw[ae];exact bj
 refine MR.lenK m2 ?_;simp;have ac:u≠t:=λj=>(XF.1 ag).1 (by simp[j]);refine⟨by simp[hE],Z6.rounds (λq e h'=>∃ i:Nat,q=D.length - i/\i<=D.length/\e.get 10=.p t/\e.get 11=.p u/\En e 89 [(5,.p (2,80)),(6,.p (3,96)),(7,.p (4,112)),(8,.i 0),(51,.i D.length),(52,.i i)] /\
  h'.a t=some [.d (.sl (S.base.q.map E.z)),.d (.sl (S.base.b.map Fk.z)),.d (.sl (S.base.cons.map Cons.z)),c2]/\MR h' 2 c2 (((D.take i).map (E4 ((n:Int)+1))++D.drop i).map Zpb)/\(∀ k,k ∉ Z c2->k≠t->h'.a k=h2.a k)/\h'.p=h2.p) D.length ⟨0,X,X,by simp[aw],by simp[a7],by simp[hE],I,?_,λk U k2=>by simp[k2],I⟩ ?_⟩
 simp;exact m2.frame λk o=>by
  have:k≠t:=λj=>al (j ▸ o)
  simp[this]
 rintro q e h' ⟨i,rfl,hi,J,K,W,ad,mi,fi,ei⟩;simp[W];refine Vy (λN=>?_) (λhge=>?_);have hb2:h'.a (2,80)=some [.d (.int .i64 ((n:Int)+1))]:=by
  have k9:(2,80) ∉ Z G:=λj=>by have:=(R (2,80) (by simp[j])).1;simp at this
  rw[fi _ (by rw[ae];exact k9) (Ne.symm dd),f2 _ k9,i2]
 have hx:((D.take i).map (E4 ((n:Int)+1))++D.drop i)[i]? = some D[i]:=by rw[YC sO];simp;rw[Y02 X];simp[N]
 have T:((D.take i).map (E4 ((n:Int)+1))++D.drop i).length=D.length:=sO;have br:IntKind.i64.wrap ((i:Int)+1)=(i:Int)+1:=Y6 _ X;have hdr:D.drop i=D[i]::D.drop (i+1):=YB N;have bm:∀ y,((D.take i).map (E4 ((n:Int)+1))++D.drop i).set i y=(D.take i).map (E4 ((n:Int)+1))++y::D.drop (i+1):=λy=>by rw[List.set_append_right _ _ sO,hdr,show i - ((D.take i).map (E4 ((n:Int)+1))).length=0 by simp;omega];rfl
 have bv:(D.take (i+1)).map (E4 ((n:Int)+1))++D.drop (i+1)=(D.take i).map (E4 ((n:Int)+1))++E4 ((n:Int)+1) D[i]::D.drop (i+1):=by rw[Yg N,YL,Yz];rfl
 have ak:(D.take i).map (E4 ((n:Int)+1))++D.drop i=(D.take i).map (E4 ((n:Int)+1))++D[i]::D.drop (i+1):=by rw[hdr]
 generalize ((D.take i).map (E4 ((n:Int)+1))++D.drop i)=L at mi hx T bm ak;obtain⟨L2,ar⟩:∃ L2,(D.take (i+1)).map (E4 ((n:Int)+1))++D.drop (i+1)=L2:=⟨_,rfl⟩;have ao:L2.length=D.length:=by rw[<- ar];simp;omega
 have bq:(L.map Zpb)[i]? = some (Zpb D[i]):=by rw[Y9,hx];rfl
 have F:=mi.1;obtain⟨l,cap,sp,bn,bh,hcap⟩:=mi.block sO;simp only[Yd,T] at bn;have af:=VH (sp:=sp) (f:=0) (m:=1) F bq X;simp[Zpb,Edg.z] at af;have d5:=Ah (sp:=sp) F (sO:i < (L.map Zpb).length);have bf:i * 2+1<=(Zb (L.map Zpb) sp).length:=X
 change Zs 1 ((Zb (L.map Zpb) sp).drop (i * 2))=_ at af;subst bn;simp[W];refine Z6.cu [0,1,2,3,4,5,6,7] (λe2 h3=>h3=h'/\e2.get 10=.p t/\e2.get 11=.p u/\En e2 89 [(5,.p (2,80)),(6,.p (3,96)),(7,.p (4,112)),(8,.i 0),(51,.i D.length),(52,.i i),(12,.i i),(62,.b (decide ((n:Int)+1 < D[i].m)))]) ?_ ?_;simp[J,K,W,ad,hb2,bh,N,af,Y.qB,vcPlan,planOps,isCallAt,callKind];exact Ze.of (by simp[J,K,W]);rintro e2 h3 ⟨rfl,au,ay,hK⟩;simp[hK];refine Vy (λcl=>?_) (λb1=>?_);have hp:=cd D[i] (Yh N);have dn:IntKind.i64.wrap (D[i].m - 1)=D[i].m - 1:=Y6 _ X;have am:=BK (sp:=sp) (f:=0) (vs:=[.d (.int .i64 (D[i].m - 1))]) F bq I;have aq:E4 ((n:Int)+1) D[i]=⟨D[i].m - 1,D[i].script⟩:=by unfold E4;simp[cl]
 have hsc:Zi (Zpb D[i]) 0 [.d (.int .i64 (D[i].m - 1))]=Zpb (E4 ((n:Int)+1) D[i]):=by rw[aq];rfl
 rw[hsc,<- YJ,bm,<- bv,ar,Xl] at am;simp[hK,au,ay,ad,bh,N,af,dn,br,am,bf];have ch:t≠l:=by simpa[Z] using al
 have b0:(Zb (L2.map Zpb) sp).length=cap * 2:=by rw[V2 Zr4,<- hcap,V2 F,Yd,Yd,ao,T]
 refine AQ.of (n':=D.length - (i+1)) X ⟨i+1,rfl,X,by simp[au],by simp[ay],by simp[hK],by simp[ch,ad],?_,λk U k2=>?_,by simp[ei]⟩;rw[ar];exact⟨Zr4,sO,.inr ⟨l,cap,sp,by simp[ao],I,b0⟩⟩;have k3:=U;simp[Z] at U;simp[U,fi k k3 k2];have aq:E4 ((n:Int)+1) D[i]=D[i]:=by unfold E4;simp[b1]
 simp[hK,br];refine AQ.of (n':=D.length - (i+1)) X ⟨i+1,rfl,X,by simp[au],by simp[ay],by simp[hK],ad,?_,fi,ei⟩;rw[bv,aq,<- ak];exact mi;obtain rfl:i=D.length:=X;have dg:((n:Int)+1).toNat=n+1:=X;obtain⟨n3,bt⟩:=XF.1 ag;obtain⟨n4,bp⟩:=XF.1 bt;obtain⟨bw,-,dA⟩:=Yk.1 bp;obtain⟨-,-,dB⟩:=Yk.1 bw;have pi:∀ k ∈ Z P,k ∉ Z G/\k ∉ Z A/\k≠t/\k≠u/\4 < k.1:=λk o=>⟨λj=>dB k j k o rfl,λj=>dA k (by simp[o]) k j rfl,λj=>n3 (by rw[<- j];simp[o]),λj=>n4 (by rw[<- j];simp[o]),(R k (by simp[o])).1⟩;have pc:∀ k ∈ Z A,k ∉ Z G/\k ∉ Z P/\k≠t/\k≠u/\4 < k.1:=λk o=>⟨λj=>dA k (by simp[j]) k o rfl,λj=>dA k (by simp[j]) k o rfl,λj=>n3 (by rw[<- j];simp[o]),λj=>n4 (by rw[<- j];simp[o]),(R k (by simp[o])).1⟩;have pe:∀ k ∈ Z c2,k ∉ Z P/\k ∉ Z A/\k≠t/\k≠u/\4 < k.1:=λk o=>by
  rw[ae] at o;exact⟨λj=>dB k o k j rfl,λj=>dA k (by simp[o]) k j rfl,λj=>n3 (by rw[<- j];simp[o]),λj=>n4 (by rw[<- j];simp[o]),(R k (by simp[o])).1⟩
 have O:∀ k,k ∉ Z G->k≠t->h'.a k=H.a k:=λk U k2=>(fi k (by rw[ae];exact U) k2).trans (f2 k U);have cx:u ∉ Z G:=λj=>n4 (by simp[j]);have cw:u ∉ Z P:=λj=>n4 (by simp[j]);have cq:u ∉ Z A:=λj=>n4 (by simp[j]);have b7:t ∉ Z P:=λj=>n3 (by simp[j]);have di:t ∉ Z A:=λj=>n3 (by simp[j]);have Ze1:∀ a b:Nat,a<=4->(a,b) ∉ Z G/\(a,b) ∉ Z P/\(a,b) ∉ Z A/\(a,b)≠t/\(a,b)≠u:=λa b ha=>by
  refine⟨λj=>?_,λj=>?_,λj=>?_,λj=>?_,λj=>?_⟩
  have:=(R (a,b) (by simp[j])).1;simp at this;omega
  have:=(R (a,b) (by simp[j])).1;simp at this;omega
  have:=(R (a,b) (by simp[j])).1;simp at this;omega
  have:=(R (a,b) (by simp[j])).1;simp at this;omega
  have:=(R (a,b) (by simp[j])).1;simp at this;omega
 have o2:=(O (2,80) (Ze1 2 80 X).1 (Ze1 2 80 X).2.2.2.1).trans i2;have o3:=(O (3,96) (Ze1 3 96 X).1 (Ze1 3 96 X).2.2.2.1).trans M.b3;have o4:=(O (4,112) (Ze1 4 112 X).1 (Ze1 4 112 X).2.2.2.1).trans M.b4;have oi:=(O u cx ac).trans bk;obtain⟨rs,cm,a8⟩:=M.mI;obtain⟨V,df,bc⟩:=M.mC;have d7:rs.length=Q.insts.length:=by have:=congrArg List.length a8;simpa using this
 have dx:V.length=Q.comps.length:=by have:=congrArg List.length bc;simpa using this
 have b6:MR h' 1 P (Zw rs):=cm.frame λk o=>O k (pi k o).1 (pi k o).2.2.1;have dj:MR h' 1 A (Zw V):=df.frame λk o=>O k (pc k o).1 (pc k o).2.2.1;simp[W,J,K,oi,o2,cy];have bb:=Zrh h' P (Zw rs) (n+1) (n+1+1) b6 X (by simp[Zw];omega);rw[show ((n+1:Nat):Int)=(n:Int)+1 from rfl,show ((n+1+1:Nat):Int)=(n:Int)+1+1 from rfl] at bb;refine Zc (bb _ λc3 h3 m3 f3 dq d9 b5=>?_);have b8:=(f3 u cw).trans oi;have cp:=(f3 (2,80) (Ze1 2 80 X).2.1).trans o2;have s2:=(Ze1 2 80 X).2.2.2.2;have s3:=(Ze1 3 96 X).2.2.2.2;have s4:=(Ze1 4 112 X).2.2.2.2;have dl:=(f3 t b7).trans ad;have cz:=(f3 (3,96) (Ze1 3 96 X).2.1).trans o3;have de:=(f3 (4,112) (Ze1 4 112 X).2.1).trans o4;have ca:MR h3 1 A (Zw V):=dj.frame λk o=>f3 k (pc k o).2.1;have cj:MR h3 2 c2 (((D.take D.length).map (E4 ((n:Int)+1))++D.drop D.length).map Zpb):=mi.frame λk o=>f3 k (pe k o).1;simp[W,J,K,b8,s2,cp,wn];have ba:=Zrg (h3.qA u [c3,A]) A (Zw V) n (n+1) (ca.frame λk o=>by simp[(pc k o).2.2.2.1]) X (by simp[Zw];omega);rw[show ((n+1:Nat):Int)=(n:Int)+1 from rfl] at ba;refine Zc (ba _ λc4 h4 m4 f4 ec dr dh=>?_);have q4:=f4 u cq;have q3:=f4 t di;have bz:=f4 (3,96) (Ze1 3 96 X).2.2.1;have bi:=f4 (4,112) (Ze1 4 112 X).2.2.1;simp[Ne.symm ac,dl,s3,s4,cz,de] at q4 q3 bz bi;simp[W,J,K,q4];refine Z6.cut (Y.qB [0] (.two 1 2 (Y.qB [2,3,4] .done) (Y.qB [1,3,4] .done))) follows kR (λe4 h7=>En e4 89 [(6,.p (3,96)),(7,.p (4,112)),(8,.i 0)]/\h7.a (3,96)=some [.d (.sl (S.base.q.map E.z)),.d (.sl (S.base.b.map Fk.z)),.d (.sl (S.base.cons.map Cons.z)),c2]/\h7.a (4,112)=some [c3,c4]/\∀ k:Z2,4 < k.1->k≠u->h7.a k=h4.a k) ?_ ?_
 .simp[Y.qB,vcPlan,planOps,isCallAt,callKind,W,J,K,q3,bz,bi,ac,Ne.symm ac,s3,s4,Ne.symm s3,Ne.symm s4]
  repeat' with_reducible refine And.intro ?_ ?_
  all_goals
   refine Ze.of ⟨by simp[W],I,I,λk o k4=>?_⟩;have h2:k≠(3,96):=by rintro rfl;simp at o
   have h3:k≠(4,112):=by rintro rfl;simp at o
   simp[h2,h3,k4]
 rintro e4 h7 ⟨hR,j3,j4,az⟩;simp[ZS,ZK,ZX,W5,hR,j3,j4,dg];have fE:=Zu4 (cj.frame (h':=h7) λk o=>by rw[az k (pe k o).2.2.2.2 (pe k o).2.2.2.1,f4 k (pe k o).2.1];simp[(pe k o).2.2.2.1]);have fI:=Z7n (h:=h7) (c:=c3) (l:=Q.insts.take (n+1)++Q.insts.drop (n+1+1)) ⟨rs.take (n+1)++rs.drop (n+1+1),?_,?_⟩;have fC:=Z7x (h:=h7) (c:=c4) (l:=Q.comps.take n++Q.comps.drop (n+1)) ⟨V.take n++V.drop (n+1),?_,?_⟩;rw[Yl,List.drop_length,Ym,<- hD] at fE;simp[Z7] at fE fI fC |-;exact⟨⟨.data rfl,.data rfl,.data rfl,fE,trivial⟩,⟨fI,fC,trivial⟩,.data rfl,trivial⟩;rw[show Zw (V.take n++V.drop (n+1))=(Zw V).take n++(Zw V).drop (n+1) by simp[Zw]];exact m4.frame λk o=>by rw[dh] at o;exact az k (pc k o).2.2.2.2 (pc k o).2.2.2.1
 rw[YL,XP,Xy,bc];simp;rw[show Zw (rs.take (n+1)++rs.drop (n+1+1))=(Zw rs).take (n+1)++(Zw rs).drop (n+1+1) by simp[Zw]];exact m3.frame λk o=>by rw[b5] at o;rw[az k (pi k o).2.2.2.2 (pi k o).2.2.2.1,f4 k (pi k o).2.1];simp[(pi k o).2.2.2.1]
 rw[YL,XP,Xy,a8];simp
def Zsw{g:Gr}{b}(hx:F6 g)(a:VerOK g b):Ar g=some (b,0):=by
 have hL:=VX;have o:=a.len;have h7:=a.l7;have c:=a.vs g.base (Y2 a.fst);refine Ww ?_;unfold Ar;refine X9 sO<|Xb c.ok ?_;refine X9 rfl<|X0 (I1 g.base (by have:=c.t6;omega) (by have:=c.f8;omega)) λS0 _ d=>?_;refine X6 (λi (s:List Sch)=>s=b.take (i+1)) ?_ ?_ λs h=>X2 ?_;obtain⟨k,m⟩:=Y0.1 a.fst;rw[Yg k,m,d];rfl
 .intro i e s next f hm h p
  have hi:=(Y0.1 f).1;have q:=a.n i e f;subst h;refine X9 sO<|X9 sO<|X3 q.1 sO λP j _=>?_;rw[Xk,if_pos X] at j;have n:=Y1 (l:=b) (i:=i+1) X;refine Xb (a.edge i e P _ f j n) ?_;refine X9 rfl<|X8 sO (p _ ?_);rw[<-Yg (X:i+1<b.length)]
 rw[h,<-o,Yl]
def er{α:Type}(v:Nat)(a:List α):List α:=a.take v++a.drop (v+1)
def Zpd{α:Type}{v:Nat}{a:List α}(h:v<a.length)(i:Nat):(er v a)[i]?=a[if i<v then i else i+1]?:=by
 unfold er;rw[Xp];simp only[YA,Xk,YO]
 repeat' split
 all_goals first|rfl|(exfalso;omega)|(congr 1;omega)
def Zpn{α:Type}{v:Nat}{a:List α}(h:v<a.length):(er v a).length=a.length-1:=by unfold er;simp;omega
def Zr6{α:Type}{v:Nat}{a:List α}{x}(h:x∈er v a):x∈a:=by rcases Y3.1 h with h1|h1;exact XE h1;exact Y01 h1
def Zpe(v:Nat)(g:Gr):Gr:=⟨g.base,(er (v-1) g.n).map (E4 v)⟩
def Zph(v:Nat)(a:Db):Db:=⟨er v a.insts,er (v-1) a.comps⟩
def Ztv{v:Nat}{g:Gr}(h0:0<v)(h1:v<=g.n.length){i:Nat}{e}(h:(Zpe v g).n[i]?=some e):∃a,g.n[if i<v-1 then i else i+1]?=some a/\e=E4 v a:=by
 unfold Zpe at h;rw[Y9,Zpd X] at h;cases h9:g.n[if i<v-1 then i else i+1]? with
 |none=>rw[h9] at h;cases h
 |some a=>rw[h9] at h;cases h;exact⟨a,rfl,rfl⟩
def Zq0{v:Nat}{g:Gr}(h0:0<v)(h1:v<=g.n.length):(Zpe v g).n.length=g.n.length-1:=by unfold Zpe;rw[Yd,Zpn X]
def Zqj{v:Nat}{g:Gr}(d:F6 g):F6 (Zpe v g):=λe c=>by obtain⟨a,b,rfl⟩:=Yi.1 c;exact d a (Zr6 b)
def Zt3{v:Nat}{e:Edg}(a:0<=e.m)(h:e.m≠v):(if(E4 v e).m.toNat<v then(E4 v e).m.toNat else(E4 v e).m.toNat+1)=e.m.toNat/\0<=(E4 v e).m/\(e.m<v->(E4 v e).m=e.m)/\((v:Int)<e.m->(E4 v e).m=e.m-1):=by
 by_cases h1:(v:Int)<e.m;rw[show(E4 v e).m=e.m-1 by unfold E4;simp[h1]];refine⟨?_,X,X,X⟩
 split<;>omega
 rw[show(E4 v e).m=e.m by unfold E4;simp[h1]];refine⟨?_,a,X,X⟩
 split<;>omega
def Zql{g:Gr}{v:Nat}(l:Zct g)(h:0<v)(k:v<=g.n.length)(c:∀e∈g.n,e.m≠v){i:Nat}{e}(m:(Zpe v g).n[i]?=some e):∃a j,g.n[j]?=some a/\e=E4 v a/\j=(if i<v-1 then i else i+1)/\j+1=(if i+1<v then i+1 else i+1+1)/\(if e.m.toNat<v then e.m.toNat else e.m.toNat+1)=a.m.toNat/\0<=e.m/\e.m<=i/\e.script=a.script:=by
 obtain⟨a,b,rfl⟩:=Ztv h k m;have d:=l _ a b;have⟨n,o,p3,p4⟩:=Zt3 d.1 (c a (Y2 b));have hne:=c a (Y2 b);refine⟨a,_,b,rfl,rfl,?_,n,o,?_,rfl⟩
 split<;>split<;>omega
 have f:=d.2;split at f<;>omega
def Zu5{g A w}{v:Nat}(K:F6 g)(d:DbV g A w)(m:0<v)(s:v<=g.n.length)(J:∀e∈g.n,e.m≠v):DbV (Zpe v g) (Zph v A) (er v w):=by
 have hl:=d.ver.len;have G:=d.li;have H:=d.lc;have h7:=d.ver.l7;have l:=λ{i:Nat} {e} (k:(Zpe v g).n[i]?=some e)=>Zql d.ver.n m s J k;have F:VerOK (Zpe v g) (er v w):=by
  refine⟨λi e k=>?_,by rw[Zq0 m s];omega,by rw[Zpn X,Zq0 m s];omega,λT I=>d.ver.vs T (Zr6 I),λi e P C k n D=>?_,?_⟩;obtain⟨o,j,p,rfl,rfl,q,r,y,z,B⟩:=l k;exact⟨y,z⟩;obtain⟨o,j,p,rfl,rfl,q,r,y,z,B⟩:=l k;rw[Zpd X,r] at n;rw[Zpd X,<-q] at D;exact d.ver.edge _ o P C p n D;rw[Zpd X,if_pos m];exact d.ver.fst
 refine⟨F,Zsw (Zqj K) F,by unfold Zph;simp only;rw[Zpn X,Zpn X,G],by unfold Zph;simp only;rw[Zpn X,Zq0 m s,H],λi S x E h=>?_,λi e P a b c k n t u f=>?_⟩;rw[Zpd X] at E;unfold Zph at h;simp only at h;rw[Zpd X] at h;exact d.inst _ S x E h;obtain⟨o,j,p,rfl,rfl,q,r,y,z,B⟩:=l k;unfold Zph at t u f;simp only at t u f;rw[Zpd X,r] at n t;rw[Zpd X,<-q] at u;rw[Zpd X] at f;exact d.edge _ o P a b c p n t u f
def Ztu{a:List Edg}{v:Int}(h:∀e∈a,e.m≠v):Wp (Zpk a λx=>Zpm x v) λb=>b=false:=by
 unfold Zpk Zpy;refine X0 (Xc λx _=>⟨_,rfl,trivial⟩) λk _ f=>X2 ?_;rcases f with⟨rfl,_⟩|⟨i,x,rfl,d,c⟩;rfl;have g:=Y2 d;unfold Zpm at c;exact absurd (by simpa using c) (h x g)
def Zt2{g a b}{v:Nat}(k:F6 g)(d:DbV g a b)(h0:0<v)(h1:v<=g.n.length)(f:∀e∈g.n,e.m≠v):Zps g a v=some (Zpe v g,Zph v a,0):=by
 have hl:=d.ver.len;have ac:=d.li;have ab:=d.lc;have h7:=d.ver.l7;refine Ww ?_;unfold Zps;refine Xb (Z3d d) ?_;refine X9 rfl<|X9 sO<|X0 (Ztu f) λz _ l=>X9 l<|X0 (Zrr k d.ver) λgc _ c=>?_;rw[c];refine X4 ⟨d.ok,rfl,X,X,λe h=>?_⟩ (X2 ?_);obtain⟨i,j,rfl⟩:=Yo h
 have:=d.ver.n i _ (Y1 j)
 omega;unfold Zpe Zph er;rw[Yn,show v-1+1=v by omega]
def Zpf(b:Bool):C:=.d (.bool b)
def Zr3{u:List Bool}{i:Nat}{b:Bool}(h:u[i]?=some b):Zs 1 ((u.map Zpf).drop i)=some [Zpf b]:=by obtain⟨a,c⟩:=Y0.1 h;rw[YB (by simpa using a)];simp[Zs,c]
def Zu7{u:List Bool}{i:Nat}{b:Bool}(h:i<u.length):Zi (u.map Zpf) i [Zpf b]=(u.set i b).map Zpf:=by simp only[Zi,YJ,Y34];rw[Xz];simp[h]
def Zpz(g:Gr){ρ:Type}(k:List Bool->Option ρ):Nat->Int×List Bool->Option ρ:=
 AB λs next=>Za s.2 s.1 λb=>bif b then k s.2 else Za g.n (s.1-1) λe=>next (e.m,s.2.set s.1.toNat true)
def Zpi(g:Gr)(a:List Int):Option (List Int×Int):=
 Z1 (Zpr g) λv=>bif v !=0 then some ([],v) else
 Zp (g.n.length+1<=2097152) (Zd (λ_ x (u:List Bool) next=>bif decide (x<0) then some ([],4) else bif decide ((g.n.length:Int)<x) then some ([],4) else
   Zpz g next (g.n.length+2) (x,u))
  (λu=>WZ (λi (s:List Int) next=>Za u ((g.n.length:Int)-i) λb=>bif b then next s else Wn s [(g.n.length:Int)-i] λ_=>next (s++[(g.n.length:Int)-i]))
   (λs=>some (s,0)) g.n.length 0 []) a 0 (true::List.replicate g.n.length false))
def Zqi(g:Gr)(vs:List Int)(r:List Int×Int)(a:Is (Zpi g vs) r):Zq prog 14 [.agg g.z,.l (vs.map Zg)] (.tup [.l (r.1.map Zg),.i r.2]):=by
 unfold Zpi at a;refine Zq.qM func14 rfl kR (n:=72) rfl rfl I ?_
 try simp[*]
 refine AC (av:=[.agg g.z]) a (λv hv=>Zrl _ v hv) (by simp[*]) ?_;clear a;intro v4 bg a
 try simp[*]
 refine ZP a ?_ ?_<;>clear a<;>intro bz a
 try simp[*]
 obtain rfl:=Zk a;exact U0 (vs:=[_,_]) (by simp[*];try exact⟨rfl,rfl⟩) (by simp[*])
 try simp[*]
 replace a:=a.chk;obtain⟨hlen,a⟩:=a;intro bq;have q:IntKind.i64.wrap ((g.n.length:Int)+1)=(g.n.length:Int)+1:=Y6 _ X;have U:(0:Int)<(g.n.length:Int)+1:=X
 have H:(0:Int)<=(g.n.length:Int)+1:=X;have F:(g.n.length:Int)+1<=2097152:=X;have G:((g.n.length:Int)+1).toNat=g.n.length+1:=X;simp only[q];refine⟨⟨H,F⟩,?_⟩;simp[q,U,G,H,F];intro b7;refine Z6.for (xs:=vs) (s0:=true::List.replicate g.n.length false) (λi u e h=>e.n=72/\e.get 2=.p (0,32)/\e.get 7=.one (.mrow (2,336) 0 (g.n.length+1) (g.n.length+1))/\e.get 24=.l (vs.map Zg)/\e.get 25=.i (vs.length:Int)/\e.get 26=.i (i:Int)/\h.a (0,32)=some (g.z.map C.d)/\h.a (2,336)=some (u.map Zpf)/\u.length=g.n.length+1/\3<=h.p) a ?_ ?_ ?_;simp[q,G,Gr.z];rw[Y3v];simp[Zi,Zpf];rintro i u e h ⟨hn,h2,h7,W,S,L,hb,hu,T,O⟩ hlt a;have b8:IntKind.i64.wrap ((i:Int)+1)=(i:Int)+1:=Y6 _ X
 try simp[*]
 refine IC a ?_ ?_<;>clear a<;>intro bd a
 try simp[*]
 obtain rfl:=Zk a;exact U0 (vs:=[_,_]) (by simp[*];try exact⟨rfl,rfl⟩) (by simp[*])
 try simp[*]
 refine ZP a ?_ ?_<;>clear a<;>intro Y a
 try simp[*]
 obtain rfl:=Zk a;exact U0 (vs:=[_,_]) (by simp[*];try exact⟨rfl,rfl⟩) (by simp[*])
 try simp[*]
 have hx0:0<=vs[i]:=by simpa using bd
 have b1:vs[i]<=(g.n.length:Int):=by simpa using Y
 unfold Zpz at a;refine Z6.rU (s0:=(vs[i],u)) (λs e h=>e.n=72/\e.get 2=.p (0,32)/\e.get 7=.one (.mrow (2,336) 0 (g.n.length+1) (g.n.length+1))/\e.get 24=.l (vs.map Zg)/\e.get 25=.i (vs.length:Int)/\e.get 26=.i (i:Int)/\e.get 9=.i s.1/\h.a (0,32)=some (g.z.map C.d)/\h.a (2,336)=some (s.2.map Zpf)/\s.2.length=g.n.length+1/\3<=h.p) a ?_ ?_;simp[*];clear a;rintro m ⟨y,w⟩ J j ⟨D,b0,E,bm,bj,bf,R,b5,k,A,B⟩ a;simp only at R k A a;replace a:=a.get;obtain⟨b,bb,f,a⟩:=a;have P:y.toNat<g.n.length+1:=by rw[<-A];exact(Y0.1 f).1
 have o:=Zr3 f;simp only[Zpf] at o;cases b with|true=>?_|false=>?_;simp only[cond_true] at a
 try simp[*]
 exact Zj.of w ⟨by simp[*],a⟩;simp only[cond_false] at a;replace a:=a.get;obtain⟨K,br,bc,a⟩:=a;have x:=Zu7 (b:=true) (X:y.toNat<w.length);simp only[Zpf] at x;have bw:IntKind.i64.wrap (y-1)=y-1:=Y6 _ X;have bk:y<=(g.n.length:Int):=X
 have bu:1<=y:=X;have bh:g.n[y.toNat-1]?=some K:=by rw[<-bc];congr 1;omega
 have bv:¬(g.n.length+1<=y.toNat):=X
 try simp[*]
 exact Zj.of (K.m,w.set y.toNat true) ⟨by simp[*],a⟩;rintro u e h ⟨hn,h2,h7,W,S,L,hb,hu,T,O⟩ a
 try simp[*]
 refine Z6.count (N:=(g.n.length:Int)) (s0:=[]) (λi s e h=>∃c:C,i<=g.n.length/\e.n=72/\e.get 7=.one (.mrow (2,336) 0 (g.n.length+1) (g.n.length+1))/\e.get 10=.one c/\e.get 11=.i ((g.n.length:Int)-i)/\h.a (2,336)=some (u.map Zpf)/\3<=h.p/\Zm h 1 c (s.map Zg)) (by simpa using a) ⟨.nil,by simp(maxDischargeDepth:=20) [*]⟩ ?_ ?_
 .rintro i s J j ⟨c,hi,D,E,Q,z,k,B,d⟩ hlt a;replace a:=a.get;obtain⟨b,bb,f,a⟩:=a;have M:=d.list;have V:=d.toD;have t:=d.toA;have b4:=d.qG;have Z:((g.n.length:Int)-i).toNat=g.n.length-i:=X
  have hp:0<(g.n.length:Int)-i:=X;have b2:(i:Int)<(g.n.length:Int):=X;have b6:IntKind.i64.wrap ((g.n.length:Int)-i-1)=(g.n.length:Int)-i-1:=Y6 _ X;have bt:(g.n.length:Int)-i-1=(g.n.length:Int)-(i+1):=X
  have b3:IntKind.i64.wrap ((g.n.length:Int)-(i+1))=(g.n.length:Int)-(i+1):=Y6 _ X;have bp:i+1<=g.n.length:=X
  have bi:1<=j.p:=X;have o:=Zr3 f;simp only[Zpf,Z] at o;have P:g.n.length-i<g.n.length+1:=X
  cases b with|true=>?_|false=>?_;simp only[cond_true] at a
  try simp[*]
  exact Zj.of s ⟨⟨c,by simp(maxDischargeDepth:=20) [*]⟩,a⟩;simp only[cond_false] at a
  try simp[*]
  refine CK (xs:=s) (ys:=[(g.n.length:Int)-i]) (enc:=Zg) a QH (by first|exact Zm.nil|(simp(maxDischargeDepth:=20) [*];done)) (by simp[*]) dE dE (λ_=>rfl) ?_;clear a;intro bn a g14
  try simp[*]
  exact Zj.of (s++[(g.n.length:Int)-i]) ⟨⟨.own (j.p+1,1120) ((s++[(g.n.length:Int)-i]).map Zg),by simp(maxDischargeDepth:=20) [*]⟩,a⟩
 rintro i s J j ⟨c,hi,D,E,Q,z,k,B,d⟩ hlt a;have hx:(g.n.length:Int)-i=0:=X
 have M:=d.list;have V:=d.toD;have t:=d.toA;rw[hx] at z
 try simp[*]
 obtain rfl:=Zk a;exact U0 (vs:=[_,_]) (by simp[*];try exact⟨rfl,rfl⟩) (by simp[*])
instance Zuk(g_:Gr)(used:List Int):Con (Zpi g_ used) prog 14 [.agg g_.z,.one (.d (.sl (used.map Zg)))] (λr=>.tup [.one (.d (.sl (r.1.map Zg))),.one (.d (.int .i64 r.2))]):=⟨λr hm=>Zqi g_ used r hm⟩
def Zpg:Option Bool:=
 Z1 (JX) λv1=>Z1 (Zpi v1 [0]) λv2=>bif (v2.2==0) then Z1 (C1 v2.1 [1]) λv4=>(some v4) else some false
instance Zpp  :Con (Zpg) prog 11 [] (λr=>.one (.d (.bool r))):=by unfold Zpg;exact go 16 func11

def Zpx(g_:Gr)(db:Db)(used:List Int):Option Bool:=
 Z1 (Zpg) λv3=>bif !v3 then Z1 (Zpg) λv5=>(some v5) else Z1 (Dd g_ db []) λv6=>bif !v6 then Z1 (Zpg) λv8=>(some v8) else bif decide (30<(used.length:Int)) then Z1 (Zpg) λv11=>(some v11) else Z1 (C0 g_ db) λv12=>bif (v12 !=0) then Z1 (Zpg) λv14=>(some v14) else Z1 (Zpi g_ used) λv15=>bif (v15.2 !=0) then some true else Zd (λ(i31:Nat) (x31:Int) (s31:(List E)×(List Fk)×(List Cons)×(List Edg)×(List (List J))×(List (List (List J)))) next_31=>Z1 (Zps (Gr.mk (Sch.mk s31.1 s31.2.1 s31.2.2.1) s31.2.2.2.1) (Db.mk s31.2.2.2.2.1 s31.2.2.2.2.2) x31) λv32=>bif (v32.2.2 !=0) then some false else next_31 (v32.1.base.q,v32.1.base.b,v32.1.base.cons,v32.1.n,v32.2.1.insts,v32.2.1.comps)) (λ(s31:(List E)×(List Fk)×(List Cons)×(List Edg)×(List (List J))×(List (List (List J))))=>Zd (λ(i35:Nat) (x35:List J) (s35:(List (List J))) next_35=>Z1 (A3 v15.1 (i35:Int)) λv36=>bif !v36 then Wn s35 [x35] λ_=>(next_35 (s35++[x35])) else next_35 s35) (λ(s35:(List (List J)))=>Z1 (C0 (Gr.mk (Sch.mk s31.1 s31.2.1 s31.2.2.1) s31.2.2.2.1) (Db.mk s31.2.2.2.2.1 s31.2.2.2.2.2)) λv40=>bif (v40==0) then Z1 (Fy s31.2.2.2.2.1 s35) λv42=>(some v42) else some false) db.insts 0 []) v15.1 0 (g_.base.q,g_.base.b,g_.base.cons,g_.n,db.insts,db.comps)
def Zrd(g_:Gr)(db:Db)(used:List Int)(r:Bool)(hm:Is (Zpx g_ db used) r):Zq prog 3 [.agg g_.z,.agg db.z,.one (.d (.sl (used.map Zg)))] (.one (.d (.bool r))):=by
 unfold Zpx at hm;refine Zq.qM func3 rfl (by kernel_rfl) (n:=90) rfl rfl (by simp) ?_
 try simp[*]
 refine AC (av:=[]) hm (λv hv=>Zpp  v hv) (by simp[*]) ?_;clear hm;intro v3 hvv3 hm
 try simp[*]
 refine IC hm ?_ ?_<;>clear hm<;>intro hc4 hm
 .try simp[*]
  refine AC (av:=[]) hm (λv hv=>Zpp  v hv) (by simp[*]) ?_;clear hm;intro v5 hvv5 hm
  try simp[*]
  obtain rfl:=Zk hm;exact U0 (vs:=[_]) (by simp[*];try exact rfl) (by simp[*])
 .try simp[*]
  refine AC (av:=[.agg g_.z,.agg db.z,.one (.d (.sl ([].map Chg.z)))]) hm (λv hv=>Zhd _ _ _ v hv) (by simp[*]) ?_;clear hm;intro v6 hvv6 hm
  try simp[*]
  refine IC hm ?_ ?_<;>clear hm<;>intro hc7 hm
  .try simp[*]
   refine AC (av:=[]) hm (λv hv=>Zpp  v hv) (by simp[*]) ?_;clear hm;intro v8 hvv8 hm
   try simp[*]
   obtain rfl:=Zk hm;exact U0 (vs:=[_]) (by simp[*];try exact rfl) (by simp[*])
  .try simp[*]
   intro hl9;replace hl9:used.length<=2097152:=by simpa using hl9
   refine IC hm ?_ ?_<;>clear hm<;>intro hc10 hm
   .try simp[*]
    refine AC (av:=[]) hm (λv hv=>Zpp  v hv) (by simp[*]) ?_;clear hm;intro v11 hvv11 hm
    try simp[*]
    obtain rfl:=Zk hm;exact U0 (vs:=[_]) (by simp[*];try exact rfl) (by simp[*])
   .try simp[*]
    refine AC (av:=[.agg g_.z,.agg db.z]) hm (λv hv=>Z0i _ _ v hv) (by simp[*]) ?_;clear hm;intro v12 hvv12 hm
    try simp[*]
    refine ZP hm ?_ ?_<;>clear hm<;>intro hc13 hm
    .try simp[*]
     refine AC (av:=[]) hm (λv hv=>Zpp  v hv) (by simp[*]) ?_;clear hm;intro v14 hvv14 hm
     try simp[*]
     obtain rfl:=Zk hm;exact U0 (vs:=[_]) (by simp[*];try exact rfl) (by simp[*])
    .try simp[*]
     refine AC (av:=[.agg g_.z,.one (.d (.sl (used.map Zg)))]) hm (λv hv=>Zqi _ _ v hv) (by simp[*]) ?_;clear hm;intro v15 hvv15 hm
     try simp[*]
     refine ZP hm ?_ ?_<;>clear hm<;>intro hc16 hm
     .try simp[*]
      obtain rfl:=Zk hm;exact U0 (vs:=[_]) (by simp[*];try exact rfl) (by simp[*])
     .try simp[*]
      refine Z6.cut (Y.qB [0] (.three 1 2 3 (Y.qB [] (.two 2 3 (Y.qB [3,4,5] .done) (Y.qB [2,4,5] .done))) (Y.qB [] (.two 1 3 (Y.qB [3,4,5] .done) (Y.qB [] (.two 1 4 (Y.qB [4,5] .done) (Y.qB [1,5] .done))))) (Y.qB [] (.two 1 2 (Y.qB [2,4,5] .done) (Y.qB [] (.two 1 4 (Y.qB [4,5] .done) (Y.qB [1,5] .done))))))) follows (by kernel_rfl) (λe19 h19=>∃n19_b17 n19_b18:Nat,e19.n=90/\e19.get 4=.one (.ptr (1,64) 0)/\e19.get 7=.one (.d (.sl (v15.1.map Zg)))/\e19.get 9=.one (.ptr (n19_b17,144) 0)/\e19.get 10=.one (.ptr (n19_b18,160) 0)/\h19.a (1,64)=some [.d (.sl (db.insts.map (Z7 J.z))),.d (.sl (db.comps.map (Z7 (Z7 J.z))))]/\h19.a (n19_b17,144)=some [.d (.sl (g_.base.q.map E.z)),.d (.sl (g_.base.b.map Fk.z)),.d (.sl (g_.base.cons.map Cons.z)),.d (.sl (g_.n.map Edg.z))]/\h19.a (n19_b18,160)=some [.d (.sl (db.insts.map (Z7 J.z))),.d (.sl (db.comps.map (Z7 (Z7 J.z))))]) ?_ ?_
      .try simp[*,Y.qB,vcPlan,planOps,isCallAt,callKind]
       repeat' (first|with_reducible refine And.intro ?_ ?_|(refine Ze.of ⟨6,7,?_⟩;(simp(maxDischargeDepth:=20) [*]);done)|(refine Ze.of ⟨7,6,?_⟩;(simp(maxDischargeDepth:=20) [*]);done))
      .rintro e19 h19 ⟨n19_b17,n19_b18,hn19,h19_4,h19_7,h19_9,h19_10,hb19_b2,hb19_b17,hb19_b18⟩
       try simp[*]
       intro hl30;replace hl30:v15.1.length<=2097152:=by simpa using hl30
       refine Z6.for (xs:=v15.1) (s0:=(g_.base.q,g_.base.b,g_.base.cons,g_.n,db.insts,db.comps)) (λi31 s31 e31 h31=>e31.n=90/\e31.get 4=.one (.ptr (1,64) 0)/\e31.get 7=.one (.d (.sl (v15.1.map Zg)))/\e31.get 9=.one (.ptr (n19_b17,144) 0)/\e31.get 10=.one (.ptr (n19_b18,160) 0)/\e31.get 46=.one (.d (.sl (v15.1.map Zg)))/\e31.get 47=.one (.d (.int .i64 (v15.1.length:Int)))/\e31.get 48=.one (.d (.int .i64 (i31:Int)))/\h31.a (1,64)=some [.d (.sl (db.insts.map (Z7 J.z))),.d (.sl (db.comps.map (Z7 (Z7 J.z))))]/\h31.a (n19_b17,144)=some [.d (.sl (s31.1.map E.z)),.d (.sl (s31.2.1.map Fk.z)),.d (.sl (s31.2.2.1.map Cons.z)),.d (.sl (s31.2.2.2.1.map Edg.z))]/\h31.a (n19_b18,160)=some [.d (.sl (s31.2.2.2.2.1.map (Z7 J.z))),.d (.sl (s31.2.2.2.2.2.map (Z7 (Z7 J.z))))]) hm (by simp[*]) ?_ ?_
       .rintro i31 s31 e31 h31 ⟨hn31,h31_4,h31_7,h31_9,h31_10,h31_46,h31_47,h31_48,hb31_b2,hb31_b17,hb31_b18⟩ hlt31 hm;have hw31:IntKind.i64.wrap ((i31:Int)+1)=(i31:Int)+1:=Y6 _ (by omega)
        try simp[*]
        refine AC (av:=[.agg (Gr.mk (Sch.mk s31.1 s31.2.1 s31.2.2.1) s31.2.2.2.1).z,.agg (Db.mk s31.2.2.2.2.1 s31.2.2.2.2.2).z,.one (.d (.int .i64 (v15.1[i31])))]) hm (λv hv=>Zro _ _ _ v hv) (by simp[*]) ?_;clear hm;intro v32 hvv32 hm
        try simp[*]
        refine ZP hm ?_ ?_<;>clear hm<;>intro hc33 hm
        .try simp[*]
         obtain rfl:=Zk hm;exact U0 (vs:=[_]) (by simp[*];try exact rfl) (by simp[*])
        .try simp[*]
         exact Zj.of (v32.1.base.q,v32.1.base.b,v32.1.base.cons,v32.1.n,v32.2.1.insts,v32.2.1.comps) ⟨(by simp[*]),hm⟩
       .rintro s31 e31 h31 ⟨hn31,h31_4,h31_7,h31_9,h31_10,h31_46,h31_47,h31_48,hb31_b2,hb31_b17,hb31_b18⟩ hm
        try simp[*]
        intro hl34;replace hl34:db.insts.length<=2097152:=by simpa using hl34
        refine Z6.for (xs:=db.insts) (s0:=[]) (λi35 s35 e35 h35=>∃c35_0:C,e35.n=90/\e35.get 7=.one (.d (.sl (v15.1.map Zg)))/\e35.get 9=.one (.ptr (n19_b17,144) 0)/\e35.get 10=.one (.ptr (n19_b18,160) 0)/\e35.get 13=.one c35_0/\e35.get 64=.one (.d (.sl (db.insts.map (Z7 J.z))))/\e35.get 65=.one (.d (.int .i64 (db.insts.length:Int)))/\e35.get 66=.one (.d (.int .i64 (i35:Int)))/\h35.a (n19_b17,144)=some [.d (.sl (s31.1.map E.z)),.d (.sl (s31.2.1.map Fk.z)),.d (.sl (s31.2.2.1.map Cons.z)),.d (.sl (s31.2.2.2.1.map Edg.z))]/\h35.a (n19_b18,160)=some [.d (.sl (s31.2.2.2.2.1.map (Z7 J.z))),.d (.sl (s31.2.2.2.2.2.map (Z7 (Z7 J.z))))]/\Zm h35 1 c35_0 (s35.map (Z7 J.z))) hm ⟨.nil,by simp(maxDischargeDepth:=20) [*]⟩ ?_ ?_
        .rintro i35 s35 e35 h35 ⟨c35_0,hn35,h35_7,h35_9,h35_10,h35_13,h35_64,h35_65,h35_66,hb35_b17,hb35_b18,gc35_0⟩ hlt35 hm;have hlc35_0:=gc35_0.list;have hdc35_0:=gc35_0.toD;have hac35_0:=gc35_0.toA;have huc35_0:=gc35_0.qG;have hw35:IntKind.i64.wrap ((i35:Int)+1)=(i35:Int)+1:=Y6 _ (by omega)
         try simp[*]
         refine AC (av:=[.one (.d (.sl (v15.1.map Zg))),.one (.d (.int .i64 (i35:Int)))]) hm (λv hv=>HT _ _ v hv) (by simp[*]) ?_;clear hm;intro v36 hvv36 hm
         try simp[*]
         refine ZP hm ?_ ?_<;>clear hm<;>intro hc37 hm
         .try simp[*]
          refine CK (xs:=s35) (ys:=[db.insts[i35]]) (enc:=(Z7 J.z)) hm CC (by first|exact Zm.nil|(simp(maxDischargeDepth:=20) [*];done)|(simp(maxDischargeDepth:=20) [*];refine⟨?_,by omega⟩;intro hq;subst hq;simp at hz2<;>omega)) (by simp[*]) (by decide) (by decide) (λ_=>rfl) ?_;clear hm;intro hl39 hm g38
          try simp[*]
          exact Zj.of (s35++[db.insts[i35]]) ⟨⟨.own (h35.p+2,1248) ((s35++[db.insts[i35]]).map (Z7 J.z)),by simp(maxDischargeDepth:=20) [*]⟩,hm⟩
         .try simp[*]
          exact Zj.of s35 ⟨⟨c35_0,by simp(maxDischargeDepth:=20) [*]⟩,hm⟩
        .rintro s35 e35 h35 ⟨c35_0,hn35,h35_7,h35_9,h35_10,h35_13,h35_64,h35_65,h35_66,hb35_b17,hb35_b18,gc35_0⟩ hm;have hlc35_0:=gc35_0.list;have hdc35_0:=gc35_0.toD;have hac35_0:=gc35_0.toA;have huc35_0:=gc35_0.qG
         try simp[*]
         refine AC (av:=[.agg (Gr.mk (Sch.mk s31.1 s31.2.1 s31.2.2.1) s31.2.2.2.1).z,.agg (Db.mk s31.2.2.2.2.1 s31.2.2.2.2.2).z]) hm (λv hv=>Z0i _ _ v hv) (by simp[*]) ?_;clear hm;intro v40 hvv40 hm
         try simp[*]
         refine GB hm ?_ ?_<;>clear hm<;>intro hc41 hm
         .try simp[*]
          refine AC (av:=[.one (.d (.sl (s31.2.2.2.2.1.map (Z7 J.z)))),.one (.d (.sl (s35.map (Z7 J.z))))]) hm (λv hv=>Zg9 _ _ v hv) (by simp[*]) ?_;clear hm;intro v42 hvv42 hm
          try simp[*]
          obtain rfl:=Zk hm;exact U0 (vs:=[_]) (by simp[*];try exact rfl) (by simp[*])
         .try simp[*]
          obtain rfl:=Zk hm;exact U0 (vs:=[_]) (by simp[*];try exact rfl) (by simp[*])
structure Fl(g:Gr)(u:List Bool):Prop where
 len:u.length=g.n.length+1
 base:u[0]?=some true
 closed:∀(j:Nat) (e:Edg),u[j+1]?=some true->g.n[j]?=some e->u[e.m.toNat]?=some true
def Zq1{w:List Bool}{k j:Nat}(h:w[j]?=some true):(w.set k true)[j]?=some true:=by
 rcases Nat.decEq j k with hne|rfl;rw[Ys (λh=>hne h.symm)];exact h;exact Yr (Y0.1 h).1
def Zu6{ρ:Type}{Q:ρ->Prop}(g:Gr)(C:Zct g)(x:Int)(u:List Bool)(k:List Bool->Option ρ)(A:0<=x)(B:x<=g.n.length)(p:Fl g u)
  (D:∀w:List Bool,Fl g w->(∀j:Nat,u[j]?=some true->w[j]?=some true)->w[x.toNat]?=some true->Wp (k w) Q):Wp (Zpz g k (g.n.length+2) (x,u)) Q:=by
 unfold Zpz;refine Xd (λ(s:Int×List Bool)=>(0<=s.1/\s.1<=g.n.length)/\s.2.length=g.n.length+1/\s.2[0]?=some true/\(∀(j:Nat) (e:Edg),s.2[j+1]?=some true->g.n[j]?=some e->s.2[e.m.toNat]?=some true\/e.m=s.1)/\
  (∀j:Nat,u[j]?=some true->s.2[j]?=some true)/\(s.2[x.toNat]?=some true\/x=s.1)) (λ(s:Int×List Bool)=>s.1.toNat) ?_ (g.n.length+2) (x,u) ⟨⟨A,B⟩,p.len,p.base,λj e a b=>.inl (p.closed j e a b),λ_ h=>h,.inr rfl⟩ (by simp only;omega)
 rintro⟨y,w⟩ next ⟨⟨r,z⟩,i,d,l,m,n⟩ hn
 simp only at r z i d l m n|-;refine X3 r X λb f _=>?_;cases b with|true=>?_|false=>?_;refine D w ⟨i,d,λj e a c=>?_⟩ m ?_;rcases l j e a c with h|h;exact h;rw[h];exact f;rcases n with h|rfl;exact h;exact f;have hy:y≠0:=by rintro rfl;rw[show(0:Int).toNat=0 from rfl,d] at f;cases f
 refine X3 X X λe o _=>?_;have t:=C _ e o;have q:y.toNat<w.length:=X
 refine hn (e.m,w.set y.toNat true) ⟨⟨t.1,by have:=t.2;simp only;omega⟩,by simpa using i,Zq1 d,λj v a c=>?_,λj h=>Zq1 (m j h),.inl ?_⟩ (by simp only;omega);simp only at a|-;rcases Nat.decEq (j+1) y.toNat with hne|heq;rw[Ys (λh=>hne h.symm)] at a;rcases l j v a c with h|h;exact .inl (Zq1 h);rw[h];exact .inl (Yr q)
 right
 rw[show(y-1).toNat=j by omega,c] at o;cases o;rfl;rcases n with h|rfl;exact Zq1 h;exact Yr q
structure LS(L:List Int)(u:List Bool):Prop where
 dec:L.Pairwise (·>·)
 mem:∀y∈L,1<=y/\u[y.toNat]?=some false
 all:∀w:Nat,u[w]?=some false->(w:Int)∈L
def Zsx(g:Gr)(F:List Int)(D:F6 g):Wp (Zpi g F) λr=>r.2=0->∃u,Fl g u/\LS r.1 u:=by
 have hL:=VX;unfold Zpi;refine X0 (Zrk g D) λe _ B=>X1 (λh=>X2 λt=>by simp only at t;rw[t] at h;cases h) λm=>?_;obtain⟨z,h7⟩:=B (sU m);refine X4 X (X6 (λi u=>Fl g u) ⟨I,rfl,λj e a _=>?_⟩ ?_ ?_);rw[List.getElem?_cons_succ,List.getElem?_replicate] at a;split at a<;>cases a
 .intro i x u next ab hm l n
  refine X7 λc=>X7 λv=>?_;exact Zu6 g z x u next (by simpa using c) (by simpa using v) l λw C _ _=>n w C
 intro u l;have aa:=l.len;refine Xa (λi (s:List Int)=>s.length<=i/\s.Pairwise (·>·)/\(∀y∈s,(g.n.length:Int)-i<y/\u[y.toNat]?=some false)/\∀w:Nat,(g.n.length:Int)-i<w->u[w]?=some false->(w:Int)∈s) ⟨I,.nil,I,λw m c=>?_⟩ ?_ ?_
 have:=(Y0.1 c).1
 omega
 .intro i s next hi q n
  have⟨E,o,d,p⟩:=q;refine X3 X X λb k _=>?_;cases b with
  |true=>exact n _ ⟨X,o,λy f=>⟨by have:=(d y f).1;omega,(d y f).2⟩,λw m c=>by
    by_cases h9:(g.n.length:Int)-i<w
    .exact p w h9 c
    .rw[show((g.n.length:Int)-i).toNat=w by omega,c] at k;cases k⟩
  |false=>?_
  refine X8 sO (n _ ⟨sO,Y3q.2 ⟨o,I,λa A b k=>by have:=(d a A).1;rw[Yj.1 k];omega⟩,λy f=>?_,λw m c=>?_⟩);rcases Y3.1 f with h|h;exact⟨by have:=(d y h).1;omega,(d y h).2⟩;rw[Yj.1 h];exact⟨X,k⟩;by_cases h9:(g.n.length:Int)-i<w;exact YV _ (p w h9 c);rw[show(w:Int)=(g.n.length:Int)-i by omega];simp
 intro s q;have⟨E,o,d,p⟩:=q;refine X2 λ_=>⟨u,l,o,λy f=>⟨by have:=(d y f).1;omega,(d y f).2⟩,λw h=>p w ?_ h⟩;cases w with
 |zero=>rw[l.base] at h;cases h
 |succ w=>omega
def Zpc{α:Type}:List Bool->List α->List α
 |b::u,x::xs=>if b then x::Zpc u xs else Zpc u xs
 |_,_=>[]
def Zr5{α:Type}:∀{v:Nat} {u:List Bool} {xs:List α},u[v]?=some false->Zpc (er v u) (er v xs)=Zpc u xs
 |0,b::u,[],h=>by cases u<;>simp[Zpc,er]
 |0,b::u,x::xs,h=>by
   simp at h;subst h;simp[Zpc,er]
 |v+1,[],_,h=>by simp at h
 |v+1,b::u,[],h=>by cases u<;>simp[Zpc,er]
 |v+1,b::u,x::xs,h=>by have a:=Zr5 (v:=v) (u:=u) (xs:=xs) (by simpa using h);unfold er at a|-;simp only[Y3w,List.drop_succ_cons,Yt,Zpc];rw[a]
def Zr2{α:Type}:∀{u:List Bool} {a:List α},(∀b∈u,b=true)->u.length=a.length->Zpc u a=a
 |[],[],_,_=>rfl
 |[],_::_,_,h=>by simp at h
 |_::_,[],_,h=>by simp at h
 |b::u,x::a,h,hl=>by
   rw[Zpc,if_pos (h b (by simp)),Zr2 (λc d=>h c (by simp[d])) (by simpa using hl)]
def Zqs{α:Type}{b:Bool}{x:α}:∀{u:List Bool} {xs:List α},u.length=xs.length->Zpc (u++[b]) (xs++[x])=Zpc u xs++(if b then[x] else[])
 |[],[],_=>by cases b<;>rfl
 |[],_::_,h=>by simp at h
 |_::_,[],h=>by simp at h
 |c::u,y::xs,h=>by have a:=Zqs (b:=b) (x:=x) (u:=u) (xs:=xs) (by simpa using h);simp only[Yt,Zpc,a];cases c<;>rfl
def Fl.drop{g:Gr}{u:List Bool}{v:Nat}(c:Fl g u)(l:Zct g)(b:0<v)(d:v<=g.n.length)(m:∀e∈g.n,e.m≠v):Fl (Zpe v g) (er v u):=by
 have hl:=c.len;refine⟨by rw[Zpn X,Zq0 b d];omega,by rw[Zpd X,if_pos b];exact c.base,λj e a n=>?_⟩;obtain⟨f,jj,h,rfl,rfl,i,k,-⟩:=Zql l b d m n;rw[Zpd X,<-i] at a;rw[Zpd X,k];exact c.closed _ f a h
def LS.w{L:List Int}{u:List Bool}{v:Nat}(h:LS ((v:Int)::L) u)(b:v<u.length):LS L (er v u):=by
 have⟨d1,d2⟩:=YT.1 h.dec;refine⟨d2,λy c=>?_,λw a=>?_⟩;have⟨d,e⟩:=h.mem y (by simp[c])
 have:=d1 y c
 refine⟨d,?_⟩;rw[Zpd b,if_pos X];exact e;rw[Zpd b] at a;by_cases h9:w<v;rw[if_pos h9] at a;rcases Y5.1 (h.all w a) with h8|h8;omega;exact h8;rw[if_neg h9] at a;rcases Y5.1 (h.all _ a) with h8|h8;omega
 have:=d1 _ h8
 omega
set_option maxRecDepth 100000 in
def Zqk:Zpg=some true:=by decide+kernel
def Zuh(g a)(w:List Int)(R:F6 g)(hl:a.comps.flatten.length+a.insts.length<=2097152):Zpx g a w=some true:=by
 have K:Wp (Z1 Zpg λv=>some v) λr=>r=true:=X0 (Wb Zqk) λ_ _ h=>X2 h;refine Ww ?_;unfold Zpx;refine Xb Zqk ?_;refine X9 rfl<|X0 (Z3y g a [] hl) λb _ _=>X1 (λ_=>K) λ_=>X1 (λ_=>K) λ_=>X0 (Z2l R a) λe _ N=>X1 (λ_=>K) λh=>?_;have⟨Z,d⟩:=N (sU h);have hL:=VX;have h7:=d.ver.l7;have au:=d.ver.len;have ax:=d.li;refine X0 (Zsx g w R) λr _ hr=>X1 (λ_=>X2 rfl) λh=>?_;obtain⟨u,W,Q⟩:=hr (sU h);have aw:=W.len;refine X6 (λi s=>∃c y m n,s=(c.base.q,c.base.b,c.base.cons,c.n,y.insts,y.comps)/\F6 c/\DbV c y n/\Fl c m/\LS (r.1.drop i) m/\Zpc m y.insts=Zpc u a.insts) ⟨g,a,u,Z,rfl,R,d,W,Q,rfl⟩ ?_ ?_
 .rintro i x s next M hm ⟨c,y,m,n,rfl,D,p,A,o,C⟩ hn
  obtain⟨O,L⟩:=Y0.1 M;rw[YB O,L] at o;have⟨m1,H⟩:=o.mem x I;obtain⟨v,rfl⟩:∃v:Nat,x=v:=⟨x.toNat,X⟩;have T:=(Y0.1 H).1;have al:=A.len;simp only[Yn] at H T;have f:∀e∈c.n,e.m≠v:=λe N q=>by
   obtain⟨j,P,rfl⟩:=Yo N;have S:=Y1 P;have hp:=p.ver.n j _ S;have E:=Y1 (l:=m) (i:=j+1) X;cases k:m[j+1]'X with|true=>?_|false=>?_;rw[k] at E
   have:=A.closed j _ E S
   rw[q,Yn,H] at this;cases this;rw[k] at E
   have:=o.all _ E
   rcases Y5.1 this with G|G;omega
   have:=(YT.1 o.dec).1 _ G
   omega
  have ap:=Zt2 D p X X f;refine Xb ap ?_;exact X9 rfl<|hn _ ⟨Zpe v c,Zph v y,er v m,er v n,rfl,Zqj D,Zu5 D p X X f,A.drop p.ver.n X X f,o.w T,by unfold Zph;rw[Zr5 H,C]⟩
 rintro s ⟨c,y,m,n,rfl,D,p,A,o,C⟩;rw[List.drop_length] at o;have al:=A.len;have ar:=p.li;have aq:=p.ver.len;have B:∀b∈m,b=true:=λb k=>by
  obtain⟨j,P,rfl⟩:=Yo k;cases q:m[j] with
  |true=>rfl
  |false=>have:=o.all j (by rw[Y1 P,q]);cases this
 rw[Zr2 B X] at C;refine X6 (λi (t:List (List J))=>t=Zpc (u.take i) (a.insts.take i)/\t.length<=i) ⟨rfl,by simp[Zpc]⟩ ?_ λt V=>?_
 .rintro i x t next M hm ⟨rfl,V⟩ hn
  obtain⟨O,L⟩:=Y0.1 M;have F:=Y1 (l:=u) (i:=i) X;have U:Zpc (u.take (i+1)) (a.insts.take (i+1))=Zpc (u.take i) (a.insts.take i)++(if u[i]'X then[x] else[]):=by rw[Yg (X:i<u.length),Yg O,L,Zqs sO]
  refine X0 (C4 r.1 i) λz _ Y=>X1 (λq=>X8 sO (hn _ ⟨?_,sO⟩)) λq=>hn _ ⟨?_,X⟩;rw[U];cases k:u[i]'X with
  |true=>rfl
  |false=>?_
  rw[k] at F
  have:=Q.all i F
  rw[Y.2 this] at q;cases q;rw[U];cases k:u[i]'X with
  |false=>simp
  |true=>?_
  rw[k] at F;have G:z=true:=by simpa using q
  have:=(Q.mem _ (Y.1 G)).2
  rw[Yn,F] at this;cases this
 rw[V.1,YD (X:u.length<=a.insts.length),Yl,<-C];refine Xb (Z3d p) ?_;exact X1 (λ_=>X0 (Zo4 _) λb _ k=>X2 k) λh=>by simp at h
def Zc1{P:Program}{B n:Nat}{t:TypeId}{a:List D}(c:P.underlying t=some (.int .i64))(h:ZY P B n t a):∃v:Int,a=Zg v:=by
 cases n with
 |zero=>cases h
 |succ n=>simp only[ZY,c] at h;obtain⟨v,b,_⟩:=h;exact⟨v,b⟩
def Z9i{P:Program}{B n:Nat}{t:TypeId}{a:List D}(b:P.underlying t=some .bool)(h:ZY P B n t a):∃v:Bool,a=Jw v:=by
 cases n with
 |zero=>cases h
 |succ n=>simp only[ZY,b] at h;exact h
def Z55{P:Program}{B n:Nat}{t:TypeId}{a:List D}(b:P.underlying t=some .string)(h:ZY P B n t a):∃v:ByteArray,a=Hf v:=by
 cases n with
 |zero=>cases h
 |succ n=>simp only[ZY,b] at h;exact h
def Ac{P:Program}{B n:Nat}{t e:TypeId}{b:List D}(g:P.underlying t=some (.slice e))(h:ZY P B n t b):∃m a,b=[.sl a]/\a.length<=B/\∀x∈a,ZY P B m e x:=by
 cases n with
 |zero=>cases h
 |succ n=>simp only[ZY,g] at h;obtain⟨a,c,d,f⟩:=h;exact⟨n,a,c,d,f⟩
def Av{P:Program}{B n:Nat}{t:TypeId}{b:Array Field}{a:List D}(c:P.underlying t=some (.struct b))(h:ZY P B n t a):∃m,Jp (ZY P B m) b.toList a:=by
 cases n with
 |zero=>cases h
 |succ n=>simp only[ZY,c] at h;exact⟨n,h⟩
def UM{α:Type}{enc:α->List D}{S:α->Prop}:∀{b:List (List D)},(∀x∈b,∃v,x=enc v/\S v)->∃a:List α,b=a.map enc/\a.length=b.length/\∀v∈a,S v
 |[],_=>⟨[],rfl,rfl,by simp⟩
 |x::b,h=>by
   obtain⟨v,c,d⟩:=h x I;obtain⟨a,e,f,g⟩:=UM λy i=>h y (Yc _ i);exact⟨v::a,by simp[c,<-e],by simp[f],by simpa using⟨d,g⟩⟩
def Bg{B n:Nat}{a:List D}(h:ZY prog B n 3 a):∃v:Int,a=Zg v/\True:=by obtain⟨v,b⟩:=Zc1 Tryz.underlying3 h;exact⟨v,b,trivial⟩
def UU{B n:Nat}{a:List D}(h:ZY prog B n 9 a):∃v:ByteArray,a=Hf v/\True:=by obtain⟨v,b⟩:=Z55 Tryz.underlying9 h;exact⟨v,b,trivial⟩
def Zpv(B:Nat)(x:GV):Prop:=True/\True/\True
def Zqc{B n:Nat}{b:List D}(h:ZY prog B n 118 b):∃v:GV,b=v.z/\Zpv B v:=by obtain⟨m,a⟩:=Av Tryz.underlying118 h;obtain⟨a0,r0,f,t0,a⟩:=a;obtain⟨l,q,c⟩:=Bg t0;obtain⟨a1,r1,g,t1,a⟩:=a;obtain⟨o,r,d⟩:=Bg t1;obtain⟨a2,k,i,t2,a⟩:=a;obtain⟨p,s,e⟩:=UU t2;have j:k=[]:=a;subst q r s;refine⟨⟨l,o,p⟩,?_,c,d,e⟩;rw[f,g,i,j];rfl
def Zf9{B n:Nat}{a:List D}(h:ZY prog B n 4 a):∃v:Bool,a=Jw v/\True:=by obtain⟨v,b⟩:=Z9i Tryz.underlying4 h;exact⟨v,b,trivial⟩
def Zqe(B:Nat)(x:Col):Prop:=True/\True/\True
def Zua{B n:Nat}{b:List D}(h:ZY prog B n 152 b):∃v:Col,b=v.z/\Zqe B v:=by obtain⟨m,a⟩:=Av Tryz.underlying152 h;obtain⟨a0,r0,f,t0,a⟩:=a;obtain⟨l,q,c⟩:=UU t0;obtain⟨a1,r1,g,t1,a⟩:=a;obtain⟨o,r,d⟩:=Bg t1;obtain⟨a2,k,i,t2,a⟩:=a;obtain⟨p,s,e⟩:=Zf9 t2;have j:k=[]:=a;subst q r s;refine⟨⟨l,o,p⟩,?_,c,d,e⟩;rw[f,g,i,j];rfl
def Zra(B:Nat)(a:List Col):Prop:=a.length<=B/\∀x∈a,Zqe B x
def Zub{B n:Nat}{a:List D}(h:ZY prog B n 136 a):∃v:List Col,a=[.sl (v.map Col.z)]/\Zra B v:=by
 obtain⟨m,xs,rfl,d,e⟩:=Ac Tryz.underlying136 h;obtain⟨f,rfl,h1,c⟩:=UM (enc:=Col.z) (S:=λx=>Zqe B x) λx b=>Zua (e x b);exact⟨f,rfl,by simpa using d,c⟩
def Zfb(B:Nat)(a:List Int):Prop:=a.length<=B/\∀x∈a,True
def Zer{B n:Nat}{a:List D}(h:ZY prog B n 34 a):∃v:List Int,a=[.sl (v.map Zg)]/\Zfb B v:=by
 obtain⟨m,xs,rfl,d,e⟩:=Ac Tryz.underlying34 h;obtain⟨f,rfl,h1,c⟩:=UM (enc:=Zg) (S:=λx=>True) λx b=>Bg (e x b);exact⟨f,rfl,by simpa using d,c⟩
def Zq4(B:Nat)(x:E):Prop:=True/\Zra B x.j/\Zfb B x.pk
def Zr9{B n:Nat}{b:List D}(h:ZY prog B n 138 b):∃v:E,b=v.z/\Zq4 B v:=by obtain⟨m,a⟩:=Av Tryz.underlying138 h;obtain⟨a0,r0,f,t0,a⟩:=a;obtain⟨l,q,c⟩:=UU t0;obtain⟨a1,r1,g,t1,a⟩:=a;obtain⟨o,r,d⟩:=Zub t1;obtain⟨a2,k,i,t2,a⟩:=a;obtain⟨p,s,e⟩:=Zer t2;have j:k=[]:=a;subst q r s;refine⟨⟨l,o,p⟩,?_,c,d,e⟩;rw[f,g,i,j];rfl
def Zq2(B:Nat)(x:Fk):Prop:=True/\Zfb B x.j/\True
def Zr7{B n:Nat}{b:List D}(h:ZY prog B n 157 b):∃v:Fk,b=v.z/\Zq2 B v:=by obtain⟨m,a⟩:=Av Tryz.underlying157 h;obtain⟨a0,r0,f,t0,a⟩:=a;obtain⟨l,q,c⟩:=UU t0;obtain⟨a1,r1,g,t1,a⟩:=a;obtain⟨o,r,d⟩:=Zer t1;obtain⟨a2,k,i,t2,a⟩:=a;obtain⟨p,s,e⟩:=UU t2;have j:k=[]:=a;subst q r s;refine⟨⟨l,o,p⟩,?_,c,d,e⟩;rw[f,g,i,j];rfl
def Zq3(B:Nat)(x:Cons):Prop:=True/\True/\True/\True/\Zpv B x.value
def Zr8{B n:Nat}{b:List D}(h:ZY prog B n 155 b):∃v:Cons,b=v.z/\Zq3 B v:=by obtain⟨m,a⟩:=Av Tryz.underlying155 h;obtain⟨a0,r0,i,t0,a⟩:=a;obtain⟨r,x,c⟩:=UU t0;obtain⟨a1,r1,j,t1,a⟩:=a;obtain⟨s,y,d⟩:=Bg t1;obtain⟨a2,r2,k,t2,a⟩:=a;obtain⟨t,z,e⟩:=UU t2;obtain⟨a3,r3,l,t3,a⟩:=a;obtain⟨u,A,f⟩:=Bg t3;obtain⟨a4,q,o,t4,a⟩:=a;obtain⟨w,C,g⟩:=Zqc t4;have p:q=[]:=a;subst x y z A C;refine⟨⟨r,s,t,u,w⟩,?_,c,d,e,f,g⟩;rw[i,j,k,l,o,p];rfl
def SC(B:Nat)(a:List E):Prop:=a.length<=B/\∀x∈a,Zq4 B x
def Zez{B n:Nat}{a:List D}(h:ZY prog B n 22 a):∃v:List E,a=[.sl (v.map E.z)]/\SC B v:=by
 obtain⟨m,xs,rfl,d,e⟩:=Ac Tryz.underlying22 h;obtain⟨f,rfl,h1,c⟩:=UM (enc:=E.z) (S:=λx=>Zq4 B x) λx b=>Zr9 (e x b);exact⟨f,rfl,by simpa using d,c⟩
def SA(B:Nat)(a:List Fk):Prop:=a.length<=B/\∀x∈a,Zq2 B x
def Zey{B n:Nat}{a:List D}(h:ZY prog B n 23 a):∃v:List Fk,a=[.sl (v.map Fk.z)]/\SA B v:=by
 obtain⟨m,xs,rfl,d,e⟩:=Ac Tryz.underlying23 h;obtain⟨f,rfl,h1,c⟩:=UM (enc:=Fk.z) (S:=λx=>Zq2 B x) λx b=>Zr7 (e x b);exact⟨f,rfl,by simpa using d,c⟩
def Sz(B:Nat)(a:List Cons):Prop:=a.length<=B/\∀x∈a,Zq3 B x
def Zex{B n:Nat}{a:List D}(h:ZY prog B n 24 a):∃v:List Cons,a=[.sl (v.map Cons.z)]/\Sz B v:=by
 obtain⟨m,xs,rfl,d,e⟩:=Ac Tryz.underlying24 h;obtain⟨f,rfl,h1,c⟩:=UM (enc:=Cons.z) (S:=λx=>Zq3 B x) λx b=>Zr8 (e x b);exact⟨f,rfl,by simpa using d,c⟩
def Sy(B:Nat)(x:Sch):Prop:=SC B x.q/\SA B x.b/\Sz B x.cons
def Zew{B n:Nat}{b:List D}(h:ZY prog B n 26 b):∃v:Sch,b=v.z/\Sy B v:=by obtain⟨m,a⟩:=Av Tryz.underlying26 h;obtain⟨a0,r0,f,t0,a⟩:=a;obtain⟨l,q,c⟩:=Zez t0;obtain⟨a1,r1,g,t1,a⟩:=a;obtain⟨o,r,d⟩:=Zey t1;obtain⟨a2,k,i,t2,a⟩:=a;obtain⟨p,s,e⟩:=Zex t2;have j:k=[]:=a;subst q r s;refine⟨⟨l,o,p⟩,?_,c,d,e⟩;rw[f,g,i,j];rfl
def Zqd(B:Nat)(x:Stp):Prop:=True/\True/\True/\True/\True/\True/\Zfb B x.j/\True/\Zpv B x.value/\Zq4 B x.v/\Zq3 B x.cons/\Zq2 B x.fk
def Zu9{B n:Nat}{b:List D}(h:ZY prog B n 159 b):∃v:Stp,b=v.z/\Zqd B v:=by obtain⟨m,a⟩:=Av Tryz.underlying159 h;obtain⟨a0,r0,A,t0,a⟩:=a;obtain⟨M,W,p⟩:=Bg t0;obtain⟨a1,r1,C,t1,a⟩:=a;obtain⟨N,X,q⟩:=UU t1;obtain⟨a2,r2,E,t2,a⟩:=a;obtain⟨O,Y,r⟩:=UU t2;obtain⟨a3,r3,F,t3,a⟩:=a;obtain⟨P,Z,s⟩:=UU t3;obtain⟨a4,r4,G,t4,a⟩:=a;obtain⟨Q,w4,t⟩:=UU t4;obtain⟨a5,r5,H,t5,a⟩:=a;obtain⟨R,w5,u⟩:=Bg t5;obtain⟨a6,r6,I,t6,a⟩:=a;obtain⟨S,w6,w⟩:=Zer t6;obtain⟨a7,r7,J,t7,a⟩:=a;obtain⟨T,w7,x⟩:=UU t7;obtain⟨a8,r8,K,t8,a⟩:=a;obtain⟨U,w8,y⟩:=Zqc t8;obtain⟨a9,r9,L,t9,a⟩:=a;obtain⟨V,w9,z⟩:=Zr9 t9;obtain⟨ao,am,k,t10,a⟩:=a;obtain⟨d,j,i⟩:=Zr8 t10;obtain⟨al,o,c,t11,a⟩:=a;obtain⟨f,e,g⟩:=Zr7 t11;have l:o=[]:=a;subst W X Y Z w4 w5 w6 w7 w8 w9 j e;refine⟨⟨M,N,O,P,Q,R,S,T,U,V,d,f⟩,?_,p,q,r,s,t,u,w,x,y,z,i,g⟩;rw[A,C,E,F,G,H,I,J,K,L,k,c,l];rfl
def Zrc(B:Nat)(a:List Stp):Prop:=a.length<=B/\∀x∈a,Zqd B x
def Zuf{B n:Nat}{a:List D}(h:ZY prog B n 49 a):∃v:List Stp,a=[.sl (v.map Stp.z)]/\Zrc B v:=by
 obtain⟨m,xs,rfl,d,e⟩:=Ac Tryz.underlying49 h;obtain⟨f,rfl,h1,c⟩:=UM (enc:=Stp.z) (S:=λx=>Zqd B x) λx b=>Zu9 (e x b);exact⟨f,rfl,by simpa using d,c⟩
def MO(B:Nat)(x:Edg):Prop:=True/\Zrc B x.script
def Zel{B n:Nat}{b:List D}(h:ZY prog B n 97 b):∃v:Edg,b=v.z/\MO B v:=by obtain⟨m,a⟩:=Av Tryz.underlying97 h;obtain⟨a0,r0,e,t0,a⟩:=a;obtain⟨j,l,c⟩:=Bg t0;obtain⟨a1,i,f,t1,a⟩:=a;obtain⟨k,o,d⟩:=Zuf t1;have g:i=[]:=a;subst l o;refine⟨⟨j,k⟩,?_,c,d⟩;rw[e,f,g];rfl
def Sx(B:Nat)(a:List Edg):Prop:=a.length<=B/\∀x∈a,MO B x
def Zev{B n:Nat}{a:List D}(h:ZY prog B n 27 a):∃v:List Edg,a=[.sl (v.map Edg.z)]/\Sx B v:=by
 obtain⟨m,xs,rfl,d,e⟩:=Ac Tryz.underlying27 h;obtain⟨f,rfl,h1,c⟩:=UM (enc:=Edg.z) (S:=λx=>MO B x) λx b=>Zel (e x b);exact⟨f,rfl,by simpa using d,c⟩
def Sw(B:Nat)(x:Gr):Prop:=Sy B x.base/\Sx B x.n
def Zeu{B n:Nat}{b:List D}(h:ZY prog B n 29 b):∃v:Gr,b=v.z/\Sw B v:=by obtain⟨m,a⟩:=Av Tryz.underlying29 h;obtain⟨a0,r0,e,t0,a⟩:=a;obtain⟨j,l,c⟩:=Zew t0;obtain⟨a1,i,f,t1,a⟩:=a;obtain⟨k,o,d⟩:=Zev t1;have g:i=[]:=a;subst l o;refine⟨⟨j,k⟩,?_,c,d⟩;rw[e,f,g];rfl
def Zqg(B:Nat)(a:List GV):Prop:=a.length<=B/\∀x∈a,Zpv B x
def Zue{B n:Nat}{a:List D}(h:ZY prog B n 80 a):∃v:List GV,a=[.sl (v.map GV.z)]/\Zqg B v:=by
 obtain⟨m,xs,rfl,d,e⟩:=Ac Tryz.underlying80 h;obtain⟨f,rfl,h1,c⟩:=UM (enc:=GV.z) (S:=λx=>Zpv B x) λx b=>Zqc (e x b);exact⟨f,rfl,by simpa using d,c⟩
def Zrb(B:Nat)(a:List (List GV)):Prop:=a.length<=B/\∀x∈a,Zqg B x
def Zud{B n:Nat}{a:List D}(h:ZY prog B n 88 a):∃v:List (List GV),a=[.sl (v.map (Z7 GV.z))]/\Zrb B v:=by
 obtain⟨m,xs,rfl,d,e⟩:=Ac Tryz.underlying88 h;obtain⟨f,rfl,h1,c⟩:=UM (enc:=(Z7 GV.z)) (S:=λx=>Zqg B x) λx b=>Zue (e x b);exact⟨f,rfl,by simpa using d,c⟩
def Zqf(B:Nat)(x:J):Prop:=True/\Zrb B x.rows
def Zuc{B n:Nat}{b:List D}(h:ZY prog B n 90 b):∃v:J,b=v.z/\Zqf B v:=by obtain⟨m,a⟩:=Av Tryz.underlying90 h;obtain⟨a0,r0,e,t0,a⟩:=a;obtain⟨j,l,c⟩:=UU t0;obtain⟨a1,i,f,t1,a⟩:=a;obtain⟨k,o,d⟩:=Zud t1;have g:i=[]:=a;subst l o;refine⟨⟨j,k⟩,?_,c,d⟩;rw[e,f,g];rfl
def Zqh(B:Nat)(a:List J):Prop:=a.length<=B/\∀x∈a,Zqf B x
def Zug{B n:Nat}{a:List D}(h:ZY prog B n 44 a):∃v:List J,a=[.sl (v.map J.z)]/\Zqh B v:=by
 obtain⟨m,xs,rfl,d,e⟩:=Ac Tryz.underlying44 h;obtain⟨f,rfl,h1,c⟩:=UM (enc:=J.z) (S:=λx=>Zqf B x) λx b=>Zuc (e x b);exact⟨f,rfl,by simpa using d,c⟩
def JB(B:Nat)(a:List (List J)):Prop:=a.length<=B/\∀x∈a,Zqh B x
def Sg{B n:Nat}{a:List D}(h:ZY prog B n 30 a):∃v:List (List J),a=[.sl (v.map (Z7 J.z))]/\JB B v:=by
 obtain⟨m,xs,rfl,d,e⟩:=Ac Tryz.underlying30 h;obtain⟨f,rfl,h1,c⟩:=UM (enc:=(Z7 J.z)) (S:=λx=>Zqh B x) λx b=>Zug (e x b);exact⟨f,rfl,by simpa using d,c⟩
def Sv(B:Nat)(a:List (List (List J))):Prop:=a.length<=B/\∀x∈a,JB B x
def Zet{B n:Nat}{a:List D}(h:ZY prog B n 31 a):∃v:List (List (List J)),a=[.sl (v.map (Z7 (Z7 J.z)))]/\Sv B v:=by
 obtain⟨m,xs,rfl,d,e⟩:=Ac Tryz.underlying31 h;obtain⟨f,rfl,h1,c⟩:=UM (enc:=(Z7 (Z7 J.z))) (S:=λx=>JB B x) λx b=>Sg (e x b);exact⟨f,rfl,by simpa using d,c⟩
def Zfc(B:Nat)(x:Db):Prop:=JB B x.insts/\Sv B x.comps
def Zes{B n:Nat}{b:List D}(h:ZY prog B n 33 b):∃v:Db,b=v.z/\Zfc B v:=by obtain⟨m,a⟩:=Av Tryz.underlying33 h;obtain⟨a0,r0,e,t0,a⟩:=a;obtain⟨j,l,c⟩:=Sg t0;obtain⟨a1,i,f,t1,a⟩:=a;obtain⟨k,o,d⟩:=Zet t1;have g:i=[]:=a;subst l o;refine⟨⟨j,k⟩,?_,c,d⟩;rw[e,f,g];rfl
def Gh{P:Program}{w:World}:∀{l:List (String×DataW Unit)} {c:List MemPlace},DataW.LaidVars P w l c->∀n d,(n,d)∈l->
  ∃g t a b p,P.globalNamed n=some g/\(P.globals[g]?).map (·.type)=some t/\w.var? P n=some a/\DataW.trod (λ_=>()) P w 0 (λ_=>true) false b t a.toList=some (d,p)
 |[],_,_,_,_,hm=>by cases hm
 |(n',d')::r,c,h,n,d,hm=>by obtain⟨g,t,a,b,p,q,f,i,j,k,m,_⟩:=h;rcases Y5.1 hm with e|e;cases e;exact⟨g,t,a,b,p,f,i,j,k⟩;exact Gh m n d e
def It{P:Program}{w:World}{n:String}{g:Nat}{a:Array Value}(b:P.globalNamed n=some g)(h:w.var? P n=some a):∃T l,w.heap[g]?=some (.cells a T l):=by unfold World.var? at h;rw[b] at h;simp only[Option.bind_some] at h;split at h;cases h;exact⟨_,_,by assumption⟩;cases h
def OR{w:World}{g:Nat}{v:Value}{T:TypeId}{l:Nat×Nat}{a:Array Value}(h:w.heap[g]?=some (.cells a T l))(b:a.toList=[v]):w.cell? ⟨g,0,none⟩=some v:=by
 have:a[0]?=some v:=by rw[<-Array.getElem?_toList,b];rfl
 unfold World.cell?;simp[h,this]
def Dw{α:Type}{x:Option α}{a b:α}(h:x=some a)(k:x=some b):b=a:=Option.some.inj (k.symm.trans h)
def Zdf{W:World}{l:List (String×DataW Unit)}(A:l=Proofs.YtbkdloikgbgcfaaGreatDoor.Rows.databaseEvolvePreservesVersionsUptoRow.laid)(h:laidMetH prog l W)(n:W.ShapedOpen prog):BV W:=by
 subst A;rw[MakeChecks.laidMetH_plain _ _ _ kR] at h;obtain⟨_,b,_⟩:=h;obtain⟨ga,ta,ca,_,_,c,_,j,_⟩:=Gh b _ _ (.tail _ (.head _));obtain rfl:=Dw (a:=5) kR c;obtain⟨Ta,la,k⟩:=It c j;obtain⟨gb,tb,cb,fb,pb,d,p,q,r⟩:=Gh b _ _ (.tail _ (.tail _ (.head _)));obtain rfl:=Dw (a:=1) kR d;obtain rfl:=Dw (a:=359) kR p;obtain⟨i,C,s⟩:=It d q;have x:=Lib.cells_of_tab (zs:=Lib.pow10Tab) Tryz.underlying359 Tryz.underlying259 kR kR r;obtain⟨gc,tc,cc,fc,pc,e,u,v,w⟩:=Gh b _ _ (.tail _ (.tail _ (.tail _ (.tail _ (.head _)))));obtain rfl:=Dw (a:=2) kR e;obtain rfl:=Dw (a:=350) kR u;obtain⟨Tc,lc,f⟩:=It e v;obtain⟨_,D,vc,y,_⟩:=iface_of_trod Tryz.underlying350 w;obtain⟨gd,td,cd,fd,pd,d1,d2,d3,d4⟩:=Gh b _ _ (.tail _ (.tail _ (.tail _ (.head _))));obtain rfl:=Dw (a:=3) kR d1;obtain rfl:=Dw (a:=350) kR d2;obtain⟨Td,ld,d5⟩:=It d1 d3;obtain⟨_,E,F,z,_⟩:=iface_of_trod Tryz.underlying350 d4;obtain⟨m,B⟩:=cell_of_shapedOpen_int (P:=prog) (g:=0) (t:=3) (zero:=#[.int .i64 0]) n (of_decide_eq_true kR) kR rfl kR kR Tryz.underlying3;have o:6<=W.heap.size:=by
  have:=(YQ.1 k).1
  have:=(YQ.1 f).1
  have:=(YQ.1 d5).1
  omega
 refine⟨o,⟨i,C,?_⟩,⟨D,vc,OR f y⟩,⟨E,F,OR d5 z⟩,⟨m,B⟩⟩;rw[s,<-x]
end
end Go.Am
namespace Go.Proofs.YtbkdloikgbgcfaaGreatDoor.retentionUnusedCanBeDropped
section
open Go Go.Am Go.ChangeShapes Go.WideShapes Go.ChangeAt Go.RowKit
theorem own:ownKnob Tryz.prog.godebug=none:=kR
theorem laid:laidOutB Tryz.prog=true:=kR
def Ze5:List TypeId:=[29,26,22,138,9,136,152,3,4,34,23,157,24,155,118,27,97,49,159,33,30,44,90,88,80,31]
theorem ID:RF Tryz.prog Ze5=true:=kR
theorem Ze1{g:Gr}(h:Sw 1048576 g):∀e∈g.n,∀x∈e.script,U7 x:=by intro e d x i;have b:=(h.2.2 e d).2.2 x i;obtain⟨_,_,_,_,_,_,c,_,_,a,_,f⟩:=b;exact⟨c.1,a.2.1.1,a.2.2.1,f.2.1.1⟩
theorem Qb:∀(l:List (List (List J))),l.flatten.length<=AM (l.map (Z7 (Z7 J.z)))
 |[]=>by simp
 |y::l=>by have h1:=Qb l;have a:=L4 (y.map (Z7 J.z));simp only[Yb,AM,Z7,WQ,DT,XC,Ye,Yd] at a|-;omega
theorem Zff{a:Db}(k:WQ a.z+1<=1048576):a.comps.flatten.length+a.insts.length<=2097152:=by have e1:=Qb a.comps;have b:=L4 (a.insts.map (Z7 J.z));have e3:WQ a.z=AM (a.insts.map (Z7 J.z))+(AM (a.comps.map (Z7 (Z7 J.z)))+0):=rfl;rw[Yd] at b;omega
set_option maxRecDepth 100000 in
theorem Zae(H:Type)(g:TypeId×Value->H)(W:World)(aj:Nat)(b:Array Value)(D T:List (DataW H))(d:List MemPlace)
  (s:∀(j:Nat) t v,f3.params[j]?=some t->b[j]?=some v->Value.okWide Tryz.prog W .any aj t v)
  (E:DataW.Whole g Tryz.prog f3.params.toList Rows.retentionUnusedCanBeDroppedSpec.vars false W b.toList D T d)(hk:Rows.uptoSmall H (D++T)=true)(hL:laidMetH Tryz.prog Rows.retentionUnusedCanBeDroppedUptoRow.laid W)(ba:W.ShapedOpen Tryz.prog):
  Calls Tryz.prog 3 b W λe L=>∃v,e=.returned v/\Rows.retentionUnusedCanBeDroppedSpec.post g Tryz.prog f3 false true false false W b v L:=by
 have a1:=E;have k:=E.lt;obtain⟨p,q,aw,hV,rfl,bn,bk⟩:=E;have Y:DataW.TrodAll g Tryz.prog W 0 (λ_=>true) true f3.params.toList b.toList D p:=aw;rw[params3] at Y s;obtain⟨Z,bm,d0,bg,I,q0,ay,rfl,rfl,U,r0⟩:=trodAll_cons Y;obtain⟨v1,bf,d1,bj,J,q1,rfl,rfl,rfl,V,r1⟩:=trodAll_cons r0;obtain⟨v2,bh,d2,bp,K,q2,rfl,rfl,rfl,X,r2⟩:=trodAll_cons r1;obtain⟨rfl,rfl,rfl⟩:=trodAll_nil r2;obtain rfl:b=#[Z,v1,v2]:=by cases b;simp_all
 obtain⟨rfl,rfl⟩:=trodVars_none hV;have hb:=of_decide_eq_true hk;simp only[Ym,Rows.uptoBulkAll] at hb;obtain⟨f,rfl,_⟩:=okWide_struct Tryz.underlying29 (s 0 29 Z rfl rfl);obtain⟨C,rfl,_⟩:=okWide_struct Tryz.underlying33 (s 1 33 v1 rfl rfl);obtain⟨z,A,c,rfl⟩:=okWide_slice Tryz.underlying34 (s 2 34 v2 rfl rfl);have ar:=U;have ax:=V;have au:=X;obtain⟨n0,bc⟩:=U;obtain⟨n1,aq⟩:=V;obtain⟨n2,a8⟩:=X;obtain⟨Q,O,bd,o⟩:=Iv (B:=1048576) ID dE n0 29 _ _ dE bc (by simp only;omega);have k0:WQ Q+1<=1048576:=by simp only at o;omega
 obtain⟨R,P,az,N⟩:=Iv (B:=1048576) ID dE n1 33 _ _ dE aq (by simp only;omega);have k1:WQ R+1<=1048576:=by simp only at N;omega
 obtain⟨S,ap,a7,M⟩:=Iv (B:=1048576) ID dE n2 34 _ _ dE a8 (by simp only;omega);have k2:WQ S+1<=1048576:=by simp only at M;omega
 have kk:WQ Q+WQ R+WQ S<=1048576:=by simp only at o N M;omega
 obtain⟨x0,rfl,y0⟩:=Zeu bd;obtain⟨x1,rfl,y1⟩:=Zes az;obtain⟨x2,rfl,y2⟩:=Zer a7;have hS:=Zrd x0 x1 x2 true (Zuh x0 x1 x2 (Ze1 y0) (Zff k1));refine(hS.2 W (cellsOf W) (λ_ _=>none) #[.agg f,.agg C,.slice z A c] (Zdf rfl hL ba) (λ_ _ _ h=>h) (λ_ _ _ h=>by cases h) ?_).mono λe L l=>?_;refine⟨rfl,λi a y=>?_⟩
 match i with
 |0=>
   cases y;refine⟨.agg f,rfl,f,rfl,by simpa[Value.cells] using O.1,λj x F=>?_⟩;obtain⟨u,m,n⟩:=O.2 j x F;exact⟨u,by simpa[Value.cells] using m,n⟩
 |1=>
   cases y;refine⟨.agg C,rfl,C,rfl,by simpa[Value.cells] using P.1,λj x F=>?_⟩;obtain⟨u,m,n⟩:=P.2 j x F;exact⟨u,by simpa[Value.cells] using m,n⟩
 |2=>
   cases y;obtain⟨u,m,n⟩:=ap.2 0 _ rfl;refine⟨.slice z A c,rfl,?_⟩
   have:u=.slice z A c:=by simpa[Value.cells] using m.symm
   rw[<-this];exact n
 |i+3=>simp at y
 obtain⟨v,m',bi,rfl,_,_,_,w,am,_⟩:=l;have hv:v=.bool true:=by cases am;rfl
 subst hv;refine⟨_,rfl,[d0,d1,d2],[],I++(J++(K++[]))++[],[],I++(J++(K++[])),[],a1,trodAll_mk1 (shut_bool Tryz.underlying4 true),?_,rfl,w.frame _,λh=>by cases h⟩;have ao:∀x∈I,x.block<W.heap.size:=λx r=>k x (by simp[r]);have bb:∀x∈J,x.block<W.heap.size:=λx r=>k x (by simp[r]);have G:∀x∈K,x.block<W.heap.size:=λx r=>k x (by simp[r]);exact trodAll_cons_mk (Below.trod laid kR (of_decide_eq_true kR) ar w ao) (trodAll_cons_mk (Below.trod laid kR (of_decide_eq_true kR) ax w bb) (trodAll_cons_mk (Below.trod laid kR (of_decide_eq_true kR) au w G) trodAll_mk0))
theorem Za4(a:Os):laidMet Tryz.prog Rows.retentionUnusedCanBeDroppedUptoRow.laid ((World.laidAll Tryz.prog a Rows.retentionUnusedCanBeDroppedUptoRow.laid).forCall (λ_ _=>0) ⟨#[],#[.agg #[.slice none 0 0,.slice none 0 0,.slice none 0 0,.slice none 0 0],.agg #[.slice none 0 0,.slice none 0 0],.slice none 0 0],[]⟩).memory:=laidMet_laidAll _ kR kR
theorem Ze4(c:Os){H:Type}(b:TypeId×Value->H):∃a,DataW.whole b Tryz.prog ((World.laidAll Tryz.prog c Rows.retentionUnusedCanBeDroppedUptoRow.laid).forCall (λ_ _=>0) ⟨#[],#[.agg #[.slice none 0 0,.slice none 0 0,.slice none 0 0,.slice none 0 0],.agg #[.slice none 0 0,.slice none 0 0],.slice none 0 0],[]⟩).memory f3.params.toList Rows.retentionUnusedCanBeDroppedSpec.vars false (#[.agg #[.slice none 0 0,.slice none 0 0,.slice none 0 0,.slice none 0 0],.agg #[.slice none 0 0,.slice none 0 0],.slice none 0 0]:Array Value).toList 8=some ([.agg [.agg [.nil,.nil,.nil],.nil],.agg [.nil,.nil],.nil],[],a):=⟨[],kR⟩
set_option maxRecDepth 100000 in
theorem lifted(o:Os)(b:o.Started)(H:Type)(enc:TypeId×Value->H)(F:Stop.Interp):
  ReturnsInHanded {} Tryz.checked o 3 .any ((Rows.OpenSpec.upto Rows.retentionUnusedCanBeDroppedSpec).preRow enc Tryz.prog f3 Rows.retentionUnusedCanBeDroppedUptoRow.domain false Rows.retentionUnusedCanBeDroppedUptoRow.laid) (((Rows.OpenSpec.upto Rows.retentionUnusedCanBeDroppedSpec).at F).post enc Tryz.prog f3 false true false false):=by
 obtain⟨places,hx⟩:=Ze4 o enc;refine returnsInHanded_of_row (C:=Tryz.checked) (s:=Rows.OpenSpec.upto Rows.retentionUnusedCanBeDroppedSpec) own b kR func3
  (witness_row_atRef (enc:=enc) (C:=Tryz.checked) false (World.laidAll Tryz.prog o Rows.retentionUnusedCanBeDroppedUptoRow.laid) #[.agg #[.slice none 0 0,.slice none 0 0,.slice none 0 0,.slice none 0 0],.agg #[.slice none 0 0,.slice none 0 0],.slice none 0 0] (World.laidAll_os _ _ _) kR kR kR
   (OpenSpec.preRow_of_cond 8 hx kR (λk u=>by cases u;kernel_rfl) kR (Za4 o))) ?_
 intro W j g ds q e n t _ f _ r p _;exact Zae H enc W j g ds q e n t (f _ rfl) r p
theorem Zek:(Rows.retentionUnusedCanBeDroppedUptoRow.inPlace==Tryz.prog.inPlace 3)=true:=kR
theorem Zej:(Rows.retentionUnusedCanBeDroppedUptoRow.unfollowed==Tryz.prog.unfollowed 3)=true:=kR
theorem Zei:(Rows.retentionUnusedCanBeDroppedUptoRow.recurses==Tryz.prog.recurses 3)=true:=kR
theorem Zeh:(Rows.retentionUnusedCanBeDroppedUptoRow.named==Tryz.prog.varsNamed 3)=true:=kR
theorem Zeg:(Rows.retentionUnusedCanBeDroppedUptoRow.plainKeys==Tryz.prog.plainKeys)=true:=kR
theorem Zef:Tryz.prog.stopsHeard=true:=kR
theorem Zee:Tryz.prog.mayEnter=true:=kR
theorem Zed:(Rows.retentionUnusedCanBeDroppedUptoRow.lifted==Tryz.prog.liftsFinal)=true:=kR
theorem Zec:(Tryz.prog.make==some Rows.retentionUnusedCanBeDroppedUptoRow.make)=true:=kR
theorem Zdl:mapsRowed Tryz.prog=true:=kR
theorem Zdk:Rows.retentionUnusedCanBeDroppedUptoRow.wf (OpenSpec.ofChange (Rows.OpenSpec.upto Rows.retentionUnusedCanBeDroppedSpec).bare)=true:=kR
theorem Zdj:laidOutB Tryz.prog=true:=kR
theorem Zdi:namedTie Tryz.prog Rows.retentionUnusedCanBeDroppedUptoRow.named (Rows.OpenSpec.upto Rows.retentionUnusedCanBeDroppedSpec).bare.vars=true:=kR
theorem Zdh:Tryz.pinned.checked.prog.funcNamed Rows.retentionUnusedCanBeDroppedUptoRow.func=some 3:=kR
set_option maxRecDepth 100000 in
theorem closed:joinedFacts Tryz.prog 3 f3 (Rows.OpenSpec.upto Rows.retentionUnusedCanBeDroppedSpec).bare Rows.retentionUnusedCanBeDroppedUptoRow=true:=by
 unfold joinedFacts;rw[Zek,Zej,Zei,Zeh,Zeg,Zef,Zee,Zed,Zec,Zdl,Zdk,Zdj,Zdi]
 kernel_rfl
theorem Zf7:Rows.RetentionUnusedCanBeDroppedUptoSaid:=
 OpenClaim.holds_of_cond 3 f3 rfl rfl rfl rfl rfl rfl rfl ⟨rfl,rfl,rfl,rfl,rfl⟩ rfl rfl rfl rfl rfl Zdh func3 closed
  (of_decide_eq_true kR) (by unfold Func.isWrapper;first|(rw[if_pos (by decide+kernel)];kernel_rfl)|(rw[if_neg (by decide+kernel)];exact⟨rfl,rfl⟩))
  (λc a H b _ F=>by rw[OpenClaim.pre_eq_preRow];exact lifted c a H b F)
theorem Zdc(f:FuncId)(b:Func)(e:Tryz.pinned.checked.prog.funcNamed Rows.retentionUnusedCanBeDroppedUptoRow.func=some f)(d:Tryz.pinned.checked.prog.funcs[f]?=some b):
  true=Tryz.pinned.checked.prog.looks []/\∀(j:Nat) t,b.params[j]?=some t->Tryz.pinned.checked.prog.wantsStandIn t=false:=by
 obtain rfl:f=3:=Option.some.inj ((kR:Tryz.prog.funcNamed Rows.retentionUnusedCanBeDroppedUptoRow.func=some 3).symm.trans e)|>.symm;obtain rfl:b=f3:=(Option.some.inj (func3.symm.trans d)).symm;refine⟨kR,λj t c=>?_⟩;rw[params3] at c;have g:t∈[29,33,34]:=by simpa using Array.mem_of_getElem? c
 have a:([29,33,34].all λu=>!Tryz.prog.wantsStandIn u)=true:=kR;exact(show Tryz.prog.wantsStandIn t=false by simpa using Xu.1 a t g)
theorem Zu8:Tryz.pinned.checked.prog.funcs.any Func.goes=false:=kR
theorem Zt1{P:Program}(h:P.funcs.any Func.goes=false)(f:FuncId):P.goes f=false:=by
 unfold Program.goes;rw[h,Bool.and_false,Bool.or_false,List.any_eq_false];intro g _;cases hg:P.funcs[g]? with
 |none=>simp
 |some fn=>?_
 rw[Array.any_eq_false] at h;obtain⟨a,rfl⟩:=YQ.1 hg;simpa using h g a
theorem Zru{c:OpenClaim}{P:Program}(h:P.funcs.any Func.goes=false)(a:c.start=.entering):false=c.goesBy P:=by
 unfold OpenClaim.goesBy Program.goesAt Program.goesFrom;rw[a];cases P.funcNamed c.func with
 |none=>rfl
 |some f=>simp[Zt1 h]
theorem Zml:Rows.RetentionUnusedCanBeDroppedUptoCardSaid:=
 Claim7.holds_tied_plain_at .later [] _ _ _ _ Zf7 (λ_ h=>by cases h) kR (λ_ h=>by cases h) retentionUnusedCanBeDroppedUpto_row_tie rfl ⟨rfl,rfl⟩ kR rfl Zdc (Zru Zu8 rfl)
end
end Go.Proofs.YtbkdloikgbgcfaaGreatDoor.retentionUnusedCanBeDropped
