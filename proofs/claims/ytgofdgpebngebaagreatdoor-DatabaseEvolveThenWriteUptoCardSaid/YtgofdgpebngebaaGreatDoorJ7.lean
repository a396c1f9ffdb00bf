import Derived.Test.YtgofdgpebngebaaGreatDoorJ6
import Derived.Test.YtgofdgpebngebaaGreatDoorCards
import Derived.Test.YtgofdgpebngebaaGreatDoorTie
import Derived.ProofKit
import Derived.OpenShut
import Derived.Lay
import Derived.Deep.DeepWitnessRowRef
set_option linter.all false
set_option maxRecDepth 20000
open Go Go.Proofs
open Go.Proofs.Tryz
open ByteArray(empty)
namespace Go.Am
section
def IQ{x:C}{k}{n:Int}(h:x.toD=some (.int k n)):x=.d (.int k n):=by
 cases x<;>simp[C.toD] at h;rw[h]
def Lc{x:C}{b}(h:x.toD=some (.bool b)):x=.b b:=by
 cases x<;>simp[C.toD] at h;rw[h]
structure PSt where
 insts:List (List J)
 comps:List (List (List J))
 errs:List Int
 reached:List Bool
def PSt.rows(s:PSt)(c a b d:C):List (C×List D):=[(c,s.insts.map Wq),(a,s.comps.map Um),(b,s.errs.map λz=>.int .i64 z),(d,s.reached.map D.bool)]
def EZ(b:Bool)(S:Sch)(a:List Stp)(x:List J)(c:List (List J)):Option (List J×List (List J)×Int):=bif b then UD S a x c else UF S a x c
def H3{ρ:Type}(d:List Sch)(c:Edg)(b:Hop)(n f:Int)(s:PSt)(next:PSt->Option ρ):Option ρ:=
 Za s.reached n λi=>bif !i then next s else Za s.errs n λh=>bif h !=0 then next s else Zp (0<=f/\f<s.reached.length/\f<s.errs.length)<|
  Za d c.m λe=>Za s.insts n λa=>Za s.comps b.edge λg=>Z1 (EZ b.back e c.script a g) λr=>
   bif r.2.2==0 then Zp (f<s.insts.length) (next ⟨s.insts.set f.toNat r.1,s.comps.set b.edge.toNat r.2.1,s.errs.set f.toNat r.2.2,s.reached.set f.toNat true⟩)
   else next ⟨s.insts,s.comps,s.errs.set f.toNat r.2.2,s.reached.set f.toNat true⟩
def FM(g:Gr)(b:List Sch)(e:List (List J))(d:List (List (List J)))(v:Int):Option PSt:=
 Zp (0<=v/\v<b.length)<|Z1 (FO g v) λT=>
 Zd (λ(_:Nat) (a:Hop) (s:PSt) next=>Za g.n a.edge λc=>Zp (Wm (a.edge+1))<|
  H3 b c a (bif a.back then a.edge+1 else c.m) (bif a.back then c.m else a.edge+1) s next) (λs=>some s) T.1 0
  ⟨e,d,List.replicate b.length 0,(List.replicate b.length false).set v.toNat true⟩
set_option maxHeartbeats 2000000 in
def Z04(h)(g:Gr)(f)(ak)(ag)(v:Int)(W U)(r)(hm:Is (FM g f ak ag v) r)(mC:MC h [(W,ak.map Wq),(U,ag.map Um)])(K)
  (hK:∀ce cr h',MC h' (r.rows W U ce cr)->Z0 h h' (Z W++Z U)->(∀k∈Z ce++Z cr,h.p<=k.1)->K (.tup [.one ce,.one cr]) h'):
  Z5 prog 53 [.agg (g.z.map C.d),.l (f.map Sch.z),.agg [W,U],.i v] h K:=by
 refine Z5.ov func53 ?_;unfold FM at hm;have⟨⟨et,e5⟩,hm⟩:=hm.chk;have⟨T,hT,hm⟩:=hm.bind;have mk:∀(H:HS) (u lr:Z2),f.length<=2097152->H.a u=some (List.replicate f.length (.i 0))->H.a lr=some (List.replicate f.length (.b false))->u≠lr->h.p+1<u.1->u.1<H.p->h.p+1<lr.1->lr.1<H.p->Z0 h H []->
   MC H ((⟨ak,ag,List.replicate f.length 0,List.replicate f.length false⟩:PSt).rows W U (.mrow u 0 f.length f.length) (.mrow lr 0 f.length f.length)):=by
  intro H u lr hn b1 b2 hne g1 g2 g3 g4 hs;have m2:=mC.new hs;have hlt:=mC.lt;have hd:=mC.dis;simp only[YI,XS,Ym] at hd;have hi:∀k∈Z W,k.1<h.p:=hlt _ (Y8 ..);have hc:∀k∈Z U,k.1<h.p:=hlt _ (Yc _ (Y8 ..));have c1:=Wt.make b1 (d:=.int .i64 0) rfl hn;have c2:=Wt.make b2 (d:=.bool false) rfl hn;refine⟨λq t=>?_,λq t k S=>?_,?_⟩;simp only[PSt.rows,Y35,Y5,Xn,or_false] at t;rcases t with rfl|rfl|rfl|rfl;exact m2.row _ (Y8 ..);exact m2.row _ (Yc _ (Y8 ..));exact c1;exact c2;have ek:=hs.1;simp only[PSt.rows,Y35,Y5,Xn,or_false] at t;rcases t with rfl|rfl|rfl|rfl
  have:=hi k S;omega
  have:=hc k S;omega
  simp only[Z,Yj] at S;rw[S];exact g2;simp only[Z,Yj] at S;rw[S];exact g4;simp only[PSt.rows,YI,XS,Ym,Z];have hn:=Yk.1 hd;refine Yk.2 ⟨hn.1,Yk.2 ⟨hn.2.1,by simp[hne],λa ha b hb he=>?_⟩,λa ha b hb he=>?_⟩;subst he
  have:=hc a ha
  simp at hb;rcases hb with rfl|rfl<;>omega;subst he
  have:=hi a ha
  simp at hb;rcases hb with hb|rfl|rfl;exact hn.2.2 a ha a hb rfl;omega;omega
 simp;refine Z6.cut (Y.qB [0,1,3,4] (.two 2 5 (Y.qB [6,5,7] .done) (Y.qB [2,6,7] .done))) follows kR (λe1 h1=>∃ce cr,En e1 118 [(1,.l (f.map Sch.z)),(3,.i v),(4,.p (h.p,64)),(6,.p (h.p+1,96)),(8,.one ce),(9,.one cr)]/\
  h1.a (h.p,64)=some (g.z.map C.d)/\h1.a (h.p+1,96)=some [W,U]/\MC h1 ((⟨ak,ag,List.replicate f.length 0,List.replicate f.length false⟩:PSt).rows W U ce cr)/\Z0 h h1 []/\(∀k∈Z ce++Z cr,h.p+1<k.1)/\h.p+1<h1.p) ?_ ?_
 simp[Y.qB,vcPlan,planOps,isCallAt,callKind];intro d4;refine⟨⟨X,Ze.of ⟨.mrow (h.p+1+1,368) 0 f.length f.length,.mrow (h.p+1+1+1,416) 0 f.length f.length,I,I,I,mk _ (h.p+1+1,368) (h.p+1+1+1,416) d4 I I I I I I I ?_,?_,by simp[Z],I⟩⟩,?_⟩;exact sm;exact sm;refine⟨X,Ze.of ⟨.mrow (h.p+1+1+1,368) 0 f.length f.length,.mrow (h.p+1+1,416) 0 f.length f.length,I,I,I,mk _ (h.p+1+1+1,368) (h.p+1+1,416) d4 I I I I I I I ?_,?_,by simp[Z],I⟩⟩;exact sm;exact sm;rintro e1 h1 ⟨ce,cr,n,bg,bd,mP,ej,b0,e0⟩;have eo:v.toNat<(List.map D.bool (List.replicate f.length false)).length:=sO
 obtain⟨lr,cap,bs,ao,aq,eh,dj,-,d6⟩:=mP.at (j:=3) rfl eo;simp only[Yd,Xi] at ao;have e4:=Zv dj;have d3:v.toNat<f.length:=X
 have eb:((h.p,64)=lr)=False:=eq_false (by rintro rfl;have h9:h.p+1<h.p:=b0 (h.p,64) (by rw[ao];simp[Z]);omega);have ew:((h.p+1,96)=lr)=False:=eq_false (by rintro rfl;have h9:h.p+1<h.p+1:=b0 (h.p+1,96) (by rw[ao];simp[Z]);omega);have m1:=d6 h1 _ (.b true) (.bool true) mP rfl rfl;rw[ao] at n;simp only[Gr.z,Yb,Yf] at bg;simp[n,et,d3,aq,eh,bg,eb];refine Zx (Z0f g v T hT) I ?_;simp[n];intro e3;have d5:∀k∈Z W,k.1<h.p:=mC.lt _ (Y8 ..);have d9:∀k∈Z U,k.1<h.p:=mC.lt _ (Yc _ (Y8 ..));have ea:∀k∈Z ce,h.p+1<k.1:=λk S=>b0 k (by simp[S]);have cl:∀k∈Z cr,h.p+1<k.1:=λk S=>b0 k (by simp[S]);have en:MC (h1.qA lr (Zi bs v.toNat [.b true])) ((⟨ak,ag,List.replicate f.length 0,(List.replicate f.length false).set v.toNat true⟩:PSt).rows W U ce cr):=by simpa[PSt.rows,n] using m1
 rw[<-ao] at n|-;refine Z6.for (xs:=T.1) (λi s o h'=>Ek e1 o [(36,.l (T.1.map Hop.z)),(37,.i (T.1.length:Int)),(38,.i (i:Int))] [1,4,6,8,9]/\
  h'.a (h.p,64)=some (g.z.map C.d)/\h'.a (h.p+1,96)=some [W,U]/\MC h' (s.rows W U ce cr)/\Z0 h h' (Z W++Z U)/\h.p+1<h'.p) hm
  ⟨by simp[n],by simp[eb,bg],by simp[ew,bd],en.new sm,?_,sO⟩ ?_ ?_
 refine(Z0.qA (ej.mn) (.inr ?_)).w
 have:=cl lr (by rw[ao];simp[Z])
 omega
 .rintro i s e h' ⟨hF,bg,bd,mP,hs,ek⟩ hlt hm;have n:=hF.an n;have hw:IntKind.i64.wrap ((i:Int)+1)=(i:Int)+1:=Y6 _ X;have⟨L,bu,dp,hm⟩:=hm.get;have⟨ed,hm⟩:=hm.chk;have ec:=LL ed;simp only[Gr.z,Yb,Yf] at bg;simp[n,hlt,bg,bu,dp];refine Z6.cu [0,1,2,3,4,5,6] (λo M=>Ek e o [(13,.p (h'.p,208)),(14,.p (h'.p+1,224))] [1,4,6,8,9,36,37,38]/\M.a (h'.p,208)=some [.i T.1[i].edge,.b T.1[i].back]/\M.a (h'.p+1,224)=some [.i L.m,.l (L.script.map Stp.z)]/\o.get 15=.i L.m/\o.get 16=.i (T.1[i].edge+1)/\Z0 h' M []/\h'.p+1<M.p) ?_ ?_;simp[Y.qB,vcPlan,planOps,isCallAt,callKind,n,ec];refine Ze.of ⟨by simp[n],I,I,I,I,?_,I⟩;exact sm;rintro E2 M ⟨hF,am,d7,af,N,bm,e2⟩;have n:=hF.an n;have y:=mP.new bm;have bp:=(bm.2 (h.p,64) sO I).trans bg;have ax:=(bm.2 (h.p+1,96) sO I).trans bd;have hs2:=hs.trans (bm.mn);cases hbk:T.1[i].back with
  |false=>
    rw[hbk] at hm am;simp only[cond_false] at hm;simp[n,af,am];unfold H3 at hm;have⟨rn,bn,bq,hm⟩:=hm.get;have bw:(L.m).toNat<(s.reached.map D.bool).length:=sU ((Y0.1 bq).1);have⟨lr,R,br,ao,aq,_,dj,⟨xr,di,cy⟩,dx⟩:=y.at (j:=3) rfl bw;simp only[Y9,bq,Yp,Ya] at cy;obtain rfl:=Lc cy;have b3:cr=.mrow lr 0 s.reached.length R:=sU ao;subst b3;have da:(L.m).toNat < s.reached.length:=sU bw;simp[n,af,bn,da,aq,di];cases rn with|false=>?_|true=>?_;simp only[XO,cond_true] at hm;simp[n,af,hw];exact Zj.of s ⟨⟨by simp[n],sU bp,ax,y,hs2,X⟩,hm⟩;simp only[Xx,cond_false] at hm;obtain⟨el,-,c7,hm⟩:=hm.get;have hne:(L.m).toNat < (s.errs.map λz=>D.int .i64 z).length:=sU ((Y0.1 c7).1);have ⟨u,P,be,ca,bk,_,dn,⟨xe,dq,b7⟩,d1⟩:=y.at (j:=2) rfl hne;simp only[Y9,c7,Yp,Ya] at b7;obtain rfl:=IQ b7;have b9:ce=.mrow u 0 s.errs.length P:=sU ca;subst b9;have hne':(L.m).toNat < s.errs.length:=sU hne;simp[n,af,bn,hne',bk,dq];refine ZP hm ?_ ?_<;>clear hm<;>intro _ hm;simp[n,af,hw];exact Zj.of s ⟨⟨by simp[n],sU bp,ax,y,hs2,X⟩,hm⟩;have ⟨⟨bf,ez,ef⟩,hm⟩:=hm.chk;have ⟨dv,dz,b5,hm⟩:=hm.get;obtain⟨inst,-,c8,hm⟩:=hm.get;obtain⟨cm,-,cg,hm⟩:=hm.get;have ⟨A,bv,hm⟩:=hm.bind;rw[hbk] at bv;have cx:(T.1[i].edge+1).toNat < s.reached.length:=X
    have dc:(T.1[i].edge+1).toNat < s.errs.length:=X;have cp:(L.m).toNat < s.insts.length:=(Y0.1 c8).1;have a8:T.1[i].edge.toNat < s.comps.length:=(Y0.1 cg).1;obtain⟨em,df,ee,F,dd,bj,-,-,a1⟩:=y.at (j:=3) (i:=(T.1[i].edge+1).toNat) rfl (sU cx);simp at F;obtain⟨rfl,rfl⟩:=F;obtain rfl:=Option.some.inj (aq.symm.trans dd);obtain⟨eg,dw,ey,F,cq,bb,-,-,ar⟩:=y.at (j:=2) (i:=(T.1[i].edge+1).toNat) rfl (sU dc);simp at F;obtain⟨rfl,rfl⟩:=F;obtain rfl:=Option.some.inj (bk.symm.trans cq);obtain⟨G,Q,bi,F,ay,_,dt,⟨xi,dy,cb⟩,-⟩:=y.at (j:=0) (i:=(L.m).toNat) rfl (sU cp);have aj:W=.mrow G 0 s.insts.length Q:=sU F;subst aj;simp only[Y9,c8,Yp,Ya] at cb;have ⟨B,O,bc,F,bt,cw,dm,⟨xc,dk,de⟩,bh⟩:=y.at (j:=1) (i:=T.1[i].edge.toNat) rfl (sU a8);have aj:U=.mrow B 0 s.comps.length O:=sU F;subst aj;simp only[Y9,cg,Yp,Ya] at de;have au:lr.1 < h'.p:=mP.lt _ (Yc _ (Yc _ (Yc _ (Y8 ..)))) lr (by simp[Z]);have cz:u.1 < h'.p:=mP.lt _ (Yc _ (Yc _ (Y8 ..))) u (by simp[Z]);have q1:=W1 au;have q2:=W1 cz;have b6:h.p+1 < lr.1:=cl lr (by simp[Z]);have b4:h.p+1 < u.1:=ea u (by simp[Z]);have q3:((h.p+1,96)=lr)=False:=eq_false (by rintro rfl;simp at b6);have q4:((h.p+1,96)=u)=False:=eq_false (by rintro rfl;simp at b4);have q5:(G=lr)=False:=eq_false (λt=>UP y.dis (k1:=0) (k2:=3) rfl rfl dE G (by simp[Z]) (by simp[Z,t]));have q6:(B=lr)=False:=eq_false (λt=>UP y.dis (k1:=1) (k2:=3) rfl rfl dE B (by simp[Z]) (by simp[Z,t]));have q7:(u=lr)=False:=eq_false (λt=>UP y.dis (k1:=2) (k2:=3) rfl rfl dE u (by simp[Z]) (by simp[Z,t]));have q8:(G=u)=False:=eq_false (λt=>UP y.dis (k1:=0) (k2:=2) rfl rfl dE G (by simp[Z]) (by simp[Z,t]))
    have q9:(B=u)=False:=eq_false (λt=>UP y.dis (k1:=1) (k2:=2) rfl rfl dE B (by simp[Z]) (by simp[Z,t]));have d0:(B=G)=False:=eq_false (λt=>UP y.dis (k1:=1) (k2:=0) rfl rfl dE B (by simp[Z]) (by simp[Z,t]));have m3:=a1 M _ (.b true) (.bool true) y rfl rfl;simp[n,af,N,am,bf,cx,aq,bj,q1];refine Z6.cu [0,1,2,3,4,5,6,7,8,9,10,11,12,13,14,15,16,17,18,19,20,21,22,23,24,25,26] (λo h4=>Ek E2 o [(8,.one (.mrow u 0 s.errs.length P)),(9,.one (.mrow lr 0 s.reached.length R))] [1,4,6,36,37,38] /\
     o.get 13=.p (h'.p,208)/\o.get 16=.i (T.1[i].edge+1)/\o.get 18=.l (A.1.map J.z)/\o.get 19=.l (A.2.1.map (Z7 J.z))/\o.get 20=.i A.2.2/\Z0 (M.qA lr (Zi br (T.1[i].edge+1).toNat [.b true])) h4 []) ?_ ?_
    simp[Y.qB,vcPlan,planOps,isCallAt,callKind,n,af,am,d7,dz,b5,cp,bu,a8,ay,bt,dy,dk,q1,q3,q5,q6,ax];refine Zx (NA dv L.script inst cm A bv) (by simp[Wi,V.toA,(F3 cb).2.2,(F3 de).2.2]) ?_;simp[n]
    try refine⟨λ_ _ x=>x,?_⟩
    refine Ze.of ⟨by simp[n],by simp[n],by simp[N],I,I,I,?_⟩;exact sm;rintro E3 h4 ⟨hF,dh,N,dg,dr,az,ae⟩;have n:=hF.an n;have m4:=m3.new ae;have m5:=ar h4 _ (.i A.2.2) (.int .i64 A.2.2) m4 rfl rfl;have E:∀ k:Z2,k.1 < M.p->k≠lr->h4.a k=M.a k:=λk S t=>by
     have:=ae.2 k (sU S) I
     rw[this];simp[t]
    have c6:=(E u dn (sU q7)).trans bk;have cd:=(E G dt (sU q5)).trans ay;have cn:=(E B dm (sU q6)).trans bt;have bz:=(E (h'.p,208) (by show h'.p < M.p;omega) (by intro t;have h9:=au;rw[<- t] at h9;exact absurd h9 (XL _))).trans am;have ba:=(E (h.p+1,96) (by show h.p+1 < M.p;omega) (λt=>by rw[q3] at t;exact t)).trans ax;have ch:=(E (h.p,64) (by show h.p < M.p;omega) (by intro t;have h9:=b6;rw[<- t] at h9;have h9:h.p+1 < h.p:=h9;omega)).trans bp;have aw:((h.p,64)=u)=False:=eq_false (by rintro rfl;have h9:h.p+1 < h.p:=b4;omega);have cj:=ae.1;simp at cj;have ck:Z0 h (h4.qA u (Zi be (T.1[i].edge+1).toNat [.i A.2.2])) (Z (.mrow G 0 s.insts.length Q)++Z (.mrow B 0 s.comps.length O)):=
     Z0.qA (Z0.trans (Z0.qA hs2 (.inr X)) (ae.mn)) (.inr X)
    simp[n,N,az,bf,dc,c6,bb];refine ZP hm ?_ ?_<;>clear hm<;>intro _ hm
    .have ⟨d8,hm⟩:=hm.chk;have hfi:(T.1[i].edge+1).toNat < s.insts.length:=X
     obtain⟨ex,dl,ei,F,b8,a7,-,-,ap⟩:=y.at (j:=0) (i:=(T.1[i].edge+1).toNat) rfl (sU hfi);simp at F;obtain⟨rfl,rfl⟩:=F;obtain rfl:=Option.some.inj (ay.symm.trans b8);have m6:=ap _ _ (.d (Wq A.1)) (Wq A.1) m5 rfl rfl;have m7:=bh _ _ (.d (Um A.2.1)) (Um A.2.1) m6 rfl rfl;have al:G.1 < h.p:=d5 G (by simp[Z]);have ah:B.1 < h.p:=d9 B (by simp[Z]);have p1:=W1 al;have p2:=W1 ah;have p3:=Zv al;have p4:=Zv ah;have p5:((h'.p,208)=G)=False:=eq_false (by rintro rfl;simp at al;omega);have p6:((h'.p,208)=B)=False:=eq_false (by rintro rfl;simp at ah;omega);simp[n,N,az];refine Z6.cut (Y.qB [0,1,2,3,5,7,8,9] (.three 4 6 10 (Y.qB [] (.two 6 10 (Y.qB [10,11,12] .done) (Y.qB [6,11,12] .done))) (Y.qB [] (.two 4 10 (Y.qB [10,11,12] .done) (Y.qB [4,11,12] .done))) (Y.qB [4,6,11,12] .done))) follows kR (λo h5=>Ek E3 o [] [1,4,6,8,9,36,37,38] /\
      h5=((h4.qA u (Zi be (T.1[i].edge+1).toNat [.i A.2.2])).qA G (Zi bi (T.1[i].edge+1).toNat [.d (Wq A.1)])).qA B (Zi bc T.1[i].edge.toNat [.d (Um A.2.1)])) ?_ ?_
     .simp[Y.qB,vcPlan,planOps,isCallAt,callKind,n,dh,N,dg,dr,bf,hfi,bu,a8,cd,cn,a7,cw,bz,ba,q2,q4,q8,q9,d0,p1,p5]
      repeat' with_reducible refine And.intro ?_ ?_
      all_goals first
       | (refine Ze.of ⟨by simp[n],rfl⟩)
     rintro E4 h5 ⟨hF,rfl⟩;have n:=hF.an n;simp[n,hw];refine Zj.of _ ⟨⟨by simp[n],?_,?_,?_,?_,?_⟩,hm⟩;simp[p1,p2,aw];simpa using ch;simp[p1,p2,q4];exact ba;simpa[PSt.rows,YJ] using m7;exact (ck.qA (.inl (by simp[Z]))).qA (.inl (by simp[Z]));simp;omega
    simp[n,N,az,hw];refine Zj.of _ ⟨⟨by simp[n],?_,?_,?_,ck,?_⟩,hm⟩;simp[aw];simpa using ch;simp[q4];exact ba;simpa[PSt.rows,YJ] using m5;simp;omega
  |true=>?_
  rw[hbk] at hm am;simp only[cond_true] at hm;simp[n,af,N,am];unfold H3 at hm;have ⟨rn,bn,bq,hm⟩:=hm.get;have bw:(T.1[i].edge+1).toNat < (s.reached.map D.bool).length:=sU ((Y0.1 bq).1);have ⟨lr,R,br,ao,aq,_,dj,⟨xr,di,cy⟩,dx⟩:=y.at (j:=3) rfl bw;simp only[Y9,bq,Yp,Ya] at cy;obtain rfl:=Lc cy;have b3:cr=.mrow lr 0 s.reached.length R:=sU ao;subst b3;have da:(T.1[i].edge+1).toNat < s.reached.length:=sU bw;simp[n,af,N,bn,da,aq,di];cases rn with|false=>?_|true=>?_;simp only[XO,cond_true] at hm;simp[n,af,N,hw];exact Zj.of s ⟨⟨by simp[n],sU bp,ax,y,hs2,X⟩,hm⟩;simp only[Xx,cond_false] at hm;obtain⟨el,-,c7,hm⟩:=hm.get;have hne:(T.1[i].edge+1).toNat < (s.errs.map λz=>D.int .i64 z).length:=sU ((Y0.1 c7).1);have ⟨u,P,be,ca,bk,_,dn,⟨xe,dq,b7⟩,d1⟩:=y.at (j:=2) rfl hne;simp only[Y9,c7,Yp,Ya] at b7;obtain rfl:=IQ b7;have b9:ce=.mrow u 0 s.errs.length P:=sU ca;subst b9;have hne':(T.1[i].edge+1).toNat < s.errs.length:=sU hne;simp[n,af,N,bn,hne',bk,dq];refine ZP hm ?_ ?_<;>clear hm<;>intro _ hm;simp[n,af,N,hw];exact Zj.of s ⟨⟨by simp[n],sU bp,ax,y,hs2,X⟩,hm⟩;have ⟨⟨bf,ez,ef⟩,hm⟩:=hm.chk;have ⟨dv,dz,b5,hm⟩:=hm.get;obtain⟨inst,-,c8,hm⟩:=hm.get;obtain⟨cm,-,cg,hm⟩:=hm.get;have ⟨A,bv,hm⟩:=hm.bind;rw[hbk] at bv;have cx:(L.m).toNat < s.reached.length:=X
  have dc:(L.m).toNat < s.errs.length:=X;have cp:(T.1[i].edge+1).toNat < s.insts.length:=(Y0.1 c8).1;have a8:T.1[i].edge.toNat < s.comps.length:=(Y0.1 cg).1;obtain⟨em,df,ee,F,dd,bj,-,-,a1⟩:=y.at (j:=3) (i:=(L.m).toNat) rfl (sU cx);simp at F;obtain⟨rfl,rfl⟩:=F;obtain rfl:=Option.some.inj (aq.symm.trans dd);obtain⟨eg,dw,ey,F,cq,bb,-,-,ar⟩:=y.at (j:=2) (i:=(L.m).toNat) rfl (sU dc);simp at F;obtain⟨rfl,rfl⟩:=F;obtain rfl:=Option.some.inj (bk.symm.trans cq);obtain⟨G,Q,bi,F,ay,_,dt,⟨xi,dy,cb⟩,-⟩:=y.at (j:=0) (i:=(T.1[i].edge+1).toNat) rfl (sU cp);have aj:W=.mrow G 0 s.insts.length Q:=sU F;subst aj;simp only[Y9,c8,Yp,Ya] at cb;have ⟨B,O,bc,F,bt,cw,dm,⟨xc,dk,de⟩,bh⟩:=y.at (j:=1) (i:=T.1[i].edge.toNat) rfl (sU a8);have aj:U=.mrow B 0 s.comps.length O:=sU F;subst aj;simp only[Y9,cg,Yp,Ya] at de;have au:lr.1 < h'.p:=mP.lt _ (Yc _ (Yc _ (Yc _ (Y8 ..)))) lr (by simp[Z]);have cz:u.1 < h'.p:=mP.lt _ (Yc _ (Yc _ (Y8 ..))) u (by simp[Z]);have q1:=W1 au;have q2:=W1 cz;have b6:h.p+1 < lr.1:=cl lr (by simp[Z]);have b4:h.p+1 < u.1:=ea u (by simp[Z]);have q3:((h.p+1,96)=lr)=False:=eq_false (by rintro rfl;simp at b6);have q4:((h.p+1,96)=u)=False:=eq_false (by rintro rfl;simp at b4);have q5:(G=lr)=False:=eq_false (λt=>UP y.dis (k1:=0) (k2:=3) rfl rfl dE G (by simp[Z]) (by simp[Z,t]));have q6:(B=lr)=False:=eq_false (λt=>UP y.dis (k1:=1) (k2:=3) rfl rfl dE B (by simp[Z]) (by simp[Z,t]));have q7:(u=lr)=False:=eq_false (λt=>UP y.dis (k1:=2) (k2:=3) rfl rfl dE u (by simp[Z]) (by simp[Z,t]));have q8:(G=u)=False:=eq_false (λt=>UP y.dis (k1:=0) (k2:=2) rfl rfl dE G (by simp[Z]) (by simp[Z,t]))
  have q9:(B=u)=False:=eq_false (λt=>UP y.dis (k1:=1) (k2:=2) rfl rfl dE B (by simp[Z]) (by simp[Z,t]));have d0:(B=G)=False:=eq_false (λt=>UP y.dis (k1:=1) (k2:=0) rfl rfl dE B (by simp[Z]) (by simp[Z,t]));have m3:=a1 M _ (.b true) (.bool true) y rfl rfl;simp[n,af,N,am,bf,cx,aq,bj,q1];refine Z6.cu [0,1,2,3,4,5,6,7,8,9,10,11,12,13,14,15,16,17,18,19,20,21,22,23,24,25,26] (λo h4=>Ek E2 o [(8,.one (.mrow u 0 s.errs.length P)),(9,.one (.mrow lr 0 s.reached.length R))] [1,4,6,36,37,38] /\
   o.get 13=.p (h'.p,208)/\o.get 16=.i (L.m)/\o.get 18=.l (A.1.map J.z)/\o.get 19=.l (A.2.1.map (Z7 J.z))/\o.get 20=.i A.2.2/\Z0 (M.qA lr (Zi br (L.m).toNat [.b true])) h4 []) ?_ ?_
  simp[Y.qB,vcPlan,planOps,isCallAt,callKind,n,am,d7,dz,b5,bn,cp,bu,a8,ay,bt,dy,dk,q1,q3,q5,q6,ax];refine Zx (Nv dv L.script inst cm A bv) (by simp[Wi,V.toA,(F3 cb).2.2,(F3 de).2.2]) ?_;simp[n]
  try refine⟨λ_ _ x=>x,?_⟩
  refine Ze.of ⟨by simp[n],by simp[n],I,I,I,I,?_⟩;exact sm;rintro E3 h4 ⟨hF,dh,N,dg,dr,az,ae⟩;have n:=hF.an n;have m4:=m3.new ae;have m5:=ar h4 _ (.i A.2.2) (.int .i64 A.2.2) m4 rfl rfl;have E:∀ k:Z2,k.1 < M.p->k≠lr->h4.a k=M.a k:=λk S t=>by
   have:=ae.2 k (sU S) I
   rw[this];simp[t]
  have c6:=(E u dn (sU q7)).trans bk;have cd:=(E G dt (sU q5)).trans ay;have cn:=(E B dm (sU q6)).trans bt;have bz:=(E (h'.p,208) (by show h'.p < M.p;omega) (by intro t;have h9:=au;rw[<- t] at h9;exact absurd h9 (XL _))).trans am;have ba:=(E (h.p+1,96) (by show h.p+1 < M.p;omega) (λt=>by rw[q3] at t;exact t)).trans ax;have ch:=(E (h.p,64) (by show h.p < M.p;omega) (by intro t;have h9:=b6;rw[<- t] at h9;have h9:h.p+1 < h.p:=h9;omega)).trans bp;have aw:((h.p,64)=u)=False:=eq_false (by rintro rfl;have h9:h.p+1 < h.p:=b4;omega);have cj:=ae.1;simp at cj;have ck:Z0 h (h4.qA u (Zi be (L.m).toNat [.i A.2.2])) (Z (.mrow G 0 s.insts.length Q)++Z (.mrow B 0 s.comps.length O)):=
   Z0.qA (Z0.trans (Z0.qA hs2 (.inr X)) (ae.mn)) (.inr X)
  simp[n,N,az,bf,dc,c6,bb];refine ZP hm ?_ ?_<;>clear hm<;>intro _ hm
  .have ⟨d8,hm⟩:=hm.chk;have hfi:(L.m).toNat < s.insts.length:=X
   obtain⟨ex,dl,ei,F,b8,a7,-,-,ap⟩:=y.at (j:=0) (i:=(L.m).toNat) rfl (sU hfi);simp at F;obtain⟨rfl,rfl⟩:=F;obtain rfl:=Option.some.inj (ay.symm.trans b8);have m6:=ap _ _ (.d (Wq A.1)) (Wq A.1) m5 rfl rfl;have m7:=bh _ _ (.d (Um A.2.1)) (Um A.2.1) m6 rfl rfl;have al:G.1 < h.p:=d5 G (by simp[Z]);have ah:B.1 < h.p:=d9 B (by simp[Z]);have p1:=W1 al;have p2:=W1 ah;have p3:=Zv al;have p4:=Zv ah;have p5:((h'.p,208)=G)=False:=eq_false (by rintro rfl;simp at al;omega);have p6:((h'.p,208)=B)=False:=eq_false (by rintro rfl;simp at ah;omega);simp[n,N,az];refine Z6.cut (Y.qB [0,1,2,3,5,7,8,9] (.three 4 6 10 (Y.qB [] (.two 6 10 (Y.qB [10,11,12] .done) (Y.qB [6,11,12] .done))) (Y.qB [] (.two 4 10 (Y.qB [10,11,12] .done) (Y.qB [4,11,12] .done))) (Y.qB [4,6,11,12] .done))) follows kR (λo h5=>Ek E3 o [] [1,4,6,8,9,36,37,38] /\
    h5=((h4.qA u (Zi be (L.m).toNat [.i A.2.2])).qA G (Zi bi (L.m).toNat [.d (Wq A.1)])).qA B (Zi bc T.1[i].edge.toNat [.d (Um A.2.1)])) ?_ ?_
   .simp[Y.qB,vcPlan,planOps,isCallAt,callKind,n,dh,N,dg,dr,bf,hfi,bu,a8,cd,cn,a7,cw,bz,ba,q2,q4,q8,q9,d0,p1,p5]
    repeat' with_reducible refine And.intro ?_ ?_
    all_goals first
     | (refine Ze.of ⟨by simp[n],rfl⟩)
   rintro E4 h5 ⟨hF,rfl⟩;have n:=hF.an n;simp[n,hw];refine Zj.of _ ⟨⟨by simp[n],?_,?_,?_,?_,?_⟩,hm⟩;simp[p1,p2,aw];simpa using ch;simp[p1,p2,q4];exact ba;simpa[PSt.rows,YJ] using m7;exact (ck.qA (.inl (by simp[Z]))).qA (.inl (by simp[Z]));simp;omega
  simp[n,N,az,hw];refine Zj.of _ ⟨⟨by simp[n],?_,?_,?_,ck,?_⟩,hm⟩;simp[aw];simpa using ch;simp[q4];exact ba;simpa[PSt.rows,YJ] using m5;simp;omega
 rintro s e h' ⟨hF,_,_,mP,hs,_⟩ hm;have n:=hF.an n;obtain rfl:=Zk hm;simp[n,ZS,ZK,ZX,W5];exact hK ce cr h' mP hs λk S=>by have:=b0 k S;omega
structure Tr(b:Bool)(S:Sch)(sc:List Stp)(Ss:List Sch)(jq0:Nat->List J)(cs cs':List (List J)):Prop where
 sch:Bu S sc=some (Ss,0)
 ok:ScrOK S sc Ss
 lc:cs.length=sc.length
 lc':cs'.length=sc.length
 conf:∀T,Ss[bif b then sc.length else 0]?=some T->CF T (jq0 (bif b then sc.length else 0))
 step:∀i x y c,sc[i]?=some x->Ss[i]?=some y->cs[i]?=some c->∃d,cs'[i]?=some d/\AI b y x (jq0 (bif b then i+1 else i)) c=some (jq0 (bif b then i else i+1),d,0)
def J6(S f)(P:∀x∈f,U7 x)(a)(v):Wp (UF S f a v) λr=>r.2.2=0->SB f.length r/\∃Ss b,Tr false S f Ss b v r.2.1/\b 0=a/\b f.length=r.1:=by
 unfold UF;refine X0 (K8 S f P) λq W hq=>X1 (λh=>X2 λg=>by simp only at g;rw[g] at h;cases h) λh=>?_;have l:=hq (sU h);have Y:q.2=0:=sU h;have O:=l.vs S (Y2 l.fst);refine X7 λE=>?_;have E:v.length=f.length:=by simp at E;omega
 refine X0 (Cp S (λT p=>(O.tab T p).pk6) a) λe _ he=>X1 (λh=>X2 λg=>by simp only at g;rw[g] at h;cases h) λh=>?_;have V:=he (sU h);have D:=V.rb O;refine X0 (Cm a (by have:=D.1;omega) λr F=>by have:=D.2 r F;omega) λQ _ U=>?_;subst U;refine X6 (λi s=>(RB s.1/\∀c∈s.2,RB c)/\s.2.length=f.length/\∃b:Nat->List J,b 0=Q/\b i=s.1/\∀j x y c,j<i->f[j]?=some x->q.1[j]?=some y->v[j]?=some c->∃d,s.2[j]?=some d/\AI false y x (b j) c=some (b (j+1),d,0)) ⟨⟨D,λc w=>by rw[(List.mem_replicate.1 w).2];exact .nil⟩,I,λ_=>Q,rfl,rfl,λj x y c h=>absurd h (XB _)⟩ ?_ λs G=>X2 λ_=>?_
 .intro i x s next M R G hn
  have hi:=(Y0.1 M).1;have⟨u,t,b,z,H,C⟩:=G;refine X3 X (by have:=l.len;omega) λB K _=>X3 X X λc L _=>X0 (show Wp (A9 B x s.1 c) _ from Rx false B x (P x R) s.1 c) λr F N=>X1 (λh=>X2 λg=>by simp only at g;rw[g] at h;cases h) λh=>?_;have A:r.2.2=0:=sU h;refine hn _ ⟨⟨(N A).1,Ry u.2 (N A).2⟩,by simp only[Xf];exact t,λk=>if k<=i then b k else r.1,by simp[z],by simp only;rw[if_neg X],λj x' y Z hj m n o=>?_⟩;rcases Yx j i with w|w;have⟨d,d1,d2⟩:=C j x' y Z w m n o;refine⟨d,by simp only;rwa [Ys X],?_⟩
  dsimp only
  rwa [if_pos X,if_pos X]
  obtain rfl:j=i:=X;rw[M] at m;simp only[Yn] at K L;rw[K] at n;rw[L] at o;cases m;cases n;cases o;refine⟨r.2.1,by simp only;rw[Yr X],?_⟩
  dsimp only
  rw[if_pos (Y7 _),if_neg X,H];show A9 B x s.1 c=_;rw[F,<-A]
 have⟨u,t,b,z,H,C⟩:=G;refine⟨⟨u.1,t,u.2,l.l6⟩,q.1,b,⟨by rw[W,<-Y],l,E,t,λT p=>?_,λi x y c m n o=>C i x y c (Y0.1 m).1 m n o⟩,z,H⟩;simp only[cond_false] at p|-;rw[l.fst] at p;cases p
 rwa [z]
def Mk(S g)(R:∀x∈g,U7 x)(a)(v):Wp (UD S g a v) λr=>r.2.2=0->SB g.length r/\∃Ss b,Tr true S g Ss b v r.2.1/\b g.length=a/\b 0=r.1:=by
 unfold UD;refine X0 (K8 S g R) λq aq hq=>X1 (λh=>X2 λf=>by simp only at f;rw[f] at h;cases h) λh=>?_;have u:=hq (sU h);have ar:q.2=0:=sU h;have aw:=u.len;refine X7 λG=>?_;have G:v.length=g.length:=by simp at G;omega
 refine X3 X X λl O ap=>?_;have Q:=u.vs l ap;refine X0 (Cp l (λT p=>(Q.tab T p).pk6) a) λe _ he=>X1 (λh=>X2 λf=>by simp only at f;rw[f] at h;cases h) λh=>?_;have Z:=he (sU h);have F:=Z.rb Q;refine X0 (Cm a (by have:=F.1;omega) λr K=>by have:=F.2 r K;omega) λU _ Y=>?_;subst Y;refine Xd (λs:Int×List J×List (List J)=>(RB s.2.1/\∀c∈s.2.2,RB c)/\-1<=s.1/\s.1<g.length/\s.2.2.length=g.length/\∃b:Nat->List J,b g.length=U/\b (s.1+1).toNat=s.2.1/\∀(j:Nat) x y c,s.1<j->g[j]?=some x->q.1[j]?=some y->v[j]?=some c->∃d,s.2.2[j]?=some d/\AI true y x (b (j+1)) c=some (b j,d,0)) (λs=>(s.1+1).toNat) ?_ _ _ ⟨⟨F,λc w=>by simp only at w;rw[(List.mem_replicate.1 w).2];exact .nil⟩,by simp only;omega,by simp only;omega,I,λ_=>U,rfl,rfl,λj x y c h m=>?_⟩ (by simp only;omega)
 .intro s next hs hn
  have⟨E,au,H,B,b,V,t,z⟩:=hs;refine X1 (λf=>?_) λf=>X2 λ_=>?_;have f:0<=s.1:=sU f;obtain⟨i,A⟩:∃i:Nat,s.1=i:=⟨s.1.toNat,X⟩;refine X3 f X λD L _=>X3 f X λx N W=>X3 f X λc M _=>X0 (show Wp (A8 D x s.2.1 c) _ from Rx true D x (R x W) s.2.1 c) λr K P=>X1 (λh=>X2 λf=>by simp only at f;rw[f] at h;cases h) λh=>?_;have C:r.2.2=0:=sU h;rw[A,Yn] at L N M;rw[A] at t H z;rw[show((i:Int)+1).toNat=i+1 by omega] at t;refine hn _ ⟨⟨(P C).1,Ry E.2 (P C).2⟩,by simp only;omega,by simp only;omega,by simp only[Xf];exact B,λk=>if i+1<=k then b k else r.1,by simp only;rwa [if_pos X],by simp only;rw[if_neg X],λj x' y c' hj m n o=>?_⟩ (by simp only;omega);simp only at hj;rcases Yx i j with w|w;have⟨d,d1,d2⟩:=z j x' y c' X m n o;refine⟨d,by simp only[A,Yn];rwa [Ys X],?_⟩
  dsimp only
  rwa [if_pos X,if_pos X]
  obtain rfl:j=i:=X;rw[N] at m;rw[L] at n;rw[M] at o;cases m;cases n;cases o;refine⟨r.2.1,by simp only[A,Yn];rw[Yr X],?_⟩
  dsimp only
  rw[if_pos (Y7 _),if_neg X,t];show A8 D x s.2.1 c=_;rw[K,<-C];have f:s.1=-1:=by
   have:¬0<=s.1:=sU f
   omega
  rw[f] at t z;refine⟨⟨E.1,B,E.2,u.l6⟩,q.1,b,⟨by rw[aq,<-ar],u,G,B,λT p=>?_,λi x y c m n o=>z i x y c X m n o⟩,V,t⟩;simp only[cond_true] at p|-;simp only[Yn] at O;rw[O] at p;cases p
  rwa [V]
 have:=(Y0.1 m).1
 simp only at h;omega
def Zdg{S e z a u b}(t:Tr false S e z a u b):UF S e (a 0) u=some (a e.length,b,0):=by
 have f:=t.ok;have hl:=t.lc;have hl':=t.lc';have ah:=f.len;have w:=f.vs S (Y2 f.fst);have y:CF S (a 0):=t.conf S f.fst;have p:=y.rb w;refine Ww ?_;unfold UF;refine Xb t.sch ?_;refine X9 rfl<|X9 sO<|Xb (Ie (λT B=>(w.tab T B).pk6) y) ?_;refine X9 rfl<|X0 (Cm (a 0) (by have:=p.1;omega) λr D=>by have:=p.2 r D;omega) λi2 _ A=>?_;subst A;refine X6 (λi s=>s.1=a i/\s.2.length=e.length/\∀j:Nat,j<i->s.2[j]?=b[j]?) ⟨rfl,I,λj h=>absurd h (XB _)⟩ ?_ λs l=>X2 ?_
 .intro i x s next o _ l C
  have hi:=(Y0.1 o).1;have⟨g,v,k⟩:=l;refine X3 X (by simp only;omega) λq m _=>X3 X X λc n _=>?_;simp only[Yn] at m n;have⟨d,d1,d2⟩:=t.step i x q c o m n;refine Xb (show A9 q x s.1 c=some (a (i+1),d,0) by rw[g];exact d2) ?_;refine X9 rfl<|C _ ⟨rfl,by simp only[Xf];exact v,λj hj=>?_⟩;rcases Yx j i with h9|h9;simp only;rw[Ys X];exact k j h9;obtain rfl:j=i:=X
  simp only;rw[Yr X,d1]
 have⟨g,v,k⟩:=l;rw[g,show s.2=b from YU λj=>by rcases Yx j e.length with h9|h9;exact k j h9;rw[Yq X,Yq X]]
def Zdu{S b k a y e}(t:Tr true S b k a y e):UD S b (a b.length) y=some (a 0,e,0):=by
 have p:=t.ok;have hl:=t.lc;have hl':=t.lc';have al:=p.len;have l:k[b.length]?=some (k[b.length]'X):=Y1 X;have z:=p.last l;have A:CF _ (a b.length):=t.conf _ l;have v:=A.rb z;refine Ww ?_;unfold UD;refine Xb t.sch ?_;refine X9 rfl<|X9 sO<|X5 l (Xb (Ie (λT E=>(z.tab T E).pk6) A) ?_);refine X9 rfl<|X0 (Cm (a b.length) (by have:=v.1;omega) λr H=>by have:=v.2 r H;omega) λi2 _ B=>?_;subst B;refine Xd (λs:Int×List J×List (List J)=>-1<=s.1/\s.1<b.length/\s.2.1=a (s.1+1).toNat/\s.2.2.length=b.length/\∀j:Nat,s.1<j->j<b.length->s.2.2[j]?=e[j]?) (λs=>(s.1+1).toNat) ?_ _ _ ⟨by simp only;omega,by simp only;omega,by simp only;congr 1;omega,I,λj h g=>by simp only at h;omega⟩ (by simp only;omega);intro s next K G
 have⟨am,hlt,g,D,m⟩:=K;refine X1 (λf=>?_) λf=>X2 ?_;have f:0<=s.1:=sU f;obtain⟨i,n⟩:∃i:Nat,s.1=i:=⟨s.1.toNat,X⟩;refine X3 f (by simp only;omega) λw o _=>X3 f X λx u ak=>X3 f X λc q _=>?_;rw[n,Yn] at o u q;have⟨d,d1,d2⟩:=t.step i x w c u o q;rw[n,show((i:Int)+1).toNat=i+1 by omega] at g;refine Xb (show A8 w x s.2.1 c=some (a i,d,0) by rw[g];exact d2) ?_;refine X9 rfl<|G _ ⟨by simp only;omega,by simp only;omega,by simp only;congr 1;omega,by simp only[Xf];exact D,λj F C=>?_⟩ (by simp only;omega);simp only at F|-;rw[n,Yn];rcases Yx i j with h9|h9;rw[Ys X];exact m j X C;obtain rfl:j=i:=X
 rw[Yr X,d1];have f:s.1=-1:=by
  have:¬0<=s.1:=sU f
  omega
 rw[f] at g m;rw[g,show s.2.2=e from YU λj=>by rcases Yx j b.length with h9|h9;exact m j X h9;rw[Yq X,Yq X]];rfl
def Rt{b S e g a u f}(v:∀x∈e,U7 x)(t:Tr b S e g a u f)(B:∀T,g[bif b then 0 else e.length]?=some T->CF T (a (bif b then 0 else e.length))):Tr false S e g a f f/\Tr true S e g a f f:=by
 have q:=t.ok;have ac:=q.len;have hl:=t.lc;have m:=t.lc';have z:∀{i:Nat},(h:i<e.length)->e[i]?=some e[i]:=λh=>Y1 h;have r:∀{i:Nat},(h:i<g.length)->g[i]?=some g[i]:=λh=>Y1 h;have w:∀{i:Nat},(h:i<u.length)->u[i]?=some u[i]:=λh=>Y1 h;have A:∀{i:Nat} (h:i<e.length),VR (g[i]'X) e[i]=some (g[i+1]'X,0):=λh=>q.step _ _ _ _ (z h) (r X) (r X);have k:∀(i:Nat) T,g[i]?=some T->CF T (a i):=λi T j=>by
  have C:=(Y0.1 j).1;cases b with|false=>?_|true=>?_;rcases Yx i e.length with n|n;obtain⟨d,-,d2⟩:=t.step i _ _ _ (z n) j (w X)
  have:=A n
  rw[(Y0.1 j).2] at this;exact QZ (v _ (Yh n)) this d2;obtain rfl:i=e.length:=X;exact B T j;cases i with
  |zero=>exact B T j
  |succ i=>?_
  have n:i<e.length:=X;obtain⟨d,-,d2⟩:=t.step i _ _ _ (z n) (r X) (w X)
  have:=QZ (v _ (Yh n)) (A n) d2
  rwa [(Y0.1 j).2] at this
 have s:∀(i:Nat) x y c,e[i]?=some x->g[i]?=some y->f[i]?=some c->AI false y x (a i) c=some (a (i+1),c,0)/\AI true y x (a (i+1)) c=some (a i,c,0):=λi x y c l o p=>by
  have C:=(Y0.1 l).1;have⟨d,d1,d2⟩:=t.step i x y _ l o (w X);rw[p] at d1;cases d1
  have:=q.step i x y _ l o (r X)
  cases b with|false=>?_|true=>?_;exact Q1 (v x (Y2 l)) this d2 (k _ _ (r X));exact(Q1 (v x (Y2 l)) this d2 (k _ _ o)).symm
 exact⟨⟨t.sch,q,m,m,λT j=>k _ _ j,λi x y c l o p=>⟨c,p,(s i x y c l o p).1⟩⟩,⟨t.sch,q,m,m,λT j=>k _ _ j,λi x y c l o p=>⟨c,p,(s i x y c l o p).2⟩⟩⟩
def Jn(P:Sch)(d:List Stp)(a b:List J)(c:List (List J)):Prop:=UF P d a c=some (b,c,0)/\UD P d b c=some (a,c,0)/\SB d.length (b,c,0)
def Z58{k P C e}(n:∀x∈e,U7 x)(A:Cn P e=some (C,0)){a b c i}(h:EZ k P e (bif k then b else a) c=some (bif k then a else b,i,0))(hc:CF (bif k then P else C) (bif k then a else b)):Jn P e a b i:=by
 have⟨q,y,z⟩:=NJ P e n;rw[A] at y;cases y;have⟨all,w,B,D⟩:=z rfl;have v:∀{o d},Tr false P e o d i i->Tr true P e o d i i->d 0=a->d e.length=b->Jn P e a b i:=λ{o d} t1 t2 s l=>by have f:=Zdg t1;have g:=Zdu t2;rw[s,l] at f g;refine⟨f,g,?_⟩;have⟨r,j,p⟩:=J6 P e n a i;rw[f] at j;cases j;exact(p rfl).1
 cases k with|false=>?_|true=>?_;have⟨r,j,p⟩:=J6 P e n a c;have h:UF P e a c=some (b,i,0):=h;rw[h] at j;cases j;obtain⟨-,o,d,t,s,l⟩:=p rfl;have u:=t.sch;rw[w] at u;cases u;have⟨t1,t2⟩:=Rt n t λT m=>by
  simp only[cond_false] at m|-;rw[D] at m;cases m
  rwa [l]
 exact v t1 t2 s l;have⟨r,j,p⟩:=Mk P e n b c;have h:UD P e b c=some (a,i,0):=h;rw[h] at j;cases j;obtain⟨-,o,d,t,s,l⟩:=p rfl;have u:=t.sch;rw[w] at u;cases u;have⟨t1,t2⟩:=Rt n t λT m=>by
  simp only[cond_true] at m|-;rw[B.fst] at m;cases m
  rwa [l]
 exact v t1 t2 l s
def HO(row:List GV)(k0:Sch)(k1:List J)(k2:Fk):Option Bool:=
 Z1 (D9 k0 k1 k2 row) λv1=>some !v1
instance Z00(row:List GV)(k0:Sch)(k1:List J)(k2:Fk):Con (HO row k0 k1 k2) prog 46 [.one (.d (.sl (row.map GV.z))),.one (.rp [.sl (k0.q.map E.z),.sl (k0.b.map Fk.z),.sl (k0.cons.map Cons.z)]),.one (.rp [.sl (k1.map J.z)]),.one (.rp [.str k2.u,.sl (k2.j.map Zg),.str k2.ref])] (λr=>.one (.d (.bool r))):=by unfold HO;exact go 12 func46
instance Zgw(k0:Sch)(k1:List J)(k2:Fk):ConF (λx=>HO x k0 k1 k2) prog (λx=>.one (.d (.sl (x.map GV.z)))) (λr=>.one (.d (.bool r))) 46 [[.sl (k0.q.map E.z),.sl (k0.b.map Fk.z),.sl (k0.cons.map Cons.z)],[.sl (k1.map J.z)],[.str k2.u,.sl (k2.j.map Zg),.str k2.ref]]:=⟨λx=>(Z00 x k0 k1 k2)⟩
def HN(row:List GV)(k0:Cons):Option Bool:=
 Z1 (Dc k0 row) λv1=>some !v1
instance TZ(row:List GV)(k0:Cons):Con (HN row k0) prog 48 [.one (.d (.sl (row.map GV.z))),.one (.rp [.str k0.u,.int .i64 k0.left,.str k0.op,.int .i64 k0.right,.int .i64 k0.value.g,.int .i64 k0.value.int,.str k0.value.text])] (λr=>.one (.d (.bool r))):=by unfold HN;exact go 8 func48
instance Zgv(k0:Cons):ConF (λx=>HN x k0) prog (λx=>.one (.d (.sl (x.map GV.z)))) (λr=>.one (.d (.bool r))) 48 [[.str k0.u,.int .i64 k0.left,.str k0.op,.int .i64 k0.right,.int .i64 k0.value.g,.int .i64 k0.value.int,.str k0.value.text]]:=⟨λx=>(TZ x k0)⟩
def Bs(s_:Sch)(inst:List J):Option Int:=
 Z1 (VE s_ inst) λv3=>bif (v3 !=0) then some v3 else Zd (λ(i6:Nat) (x6:Fk) (s6:Unit) next_6=>Z1 (Vv s_ inst x6.u) λv8=>Z1 (BX v8.2 (λxa_=>HO xa_ s_ inst x6)) λv10=>bif v10 then some 10 else next_6 ()) (λ(s6:Unit)=>Zd (λ(i13:Nat) (x13:Cons) (s13:Unit) next_13=>Z1 (Vv s_ inst x13.u) λv15=>Z1 (BX v15.2 (λxa_=>HN xa_ x13)) λv17=>bif v17 then some 11 else next_13 ()) (λ(s13:Unit)=>some 0) s_.cons 0 ()) s_.b 0 ()
instance Z0h(s_:Sch)(inst:List J):Con (Bs s_ inst) prog 25 [.agg s_.z,.one (.d (.sl (inst.map J.z)))] (λr=>.one (.d (.int .i64 r))):=by unfold Bs;have l1:LH (σ:=Unit) 23 [2,3,21,22] []:=.intro;have l2:LH (σ:=Unit) 42 [2,3,40,41] []:=.intro;exact go 58 func25
instance Zht(s_:Sch)(script:List Stp)(source:List J)(comps:List (List J)):Con (UF s_ script source comps) prog 24 [.agg s_.z,.one (.d (.sl (script.map Stp.z))),.one (.d (.sl (source.map J.z))),.one (.d (.sl (comps.map (Z7 J.z))))] (λr=>.tup [.one (.d (.sl (r.1.map J.z))),.one (.d (.sl (r.2.1.map (Z7 J.z)))),.one (.d (.int .i64 r.2.2))]):=⟨λr hm=>NA s_ script source comps r hm⟩
instance Zhn(s_:Sch)(script:List Stp)(target:List J)(comps:List (List J)):Con (UD s_ script target comps) prog 55 [.agg s_.z,.one (.d (.sl (script.map Stp.z))),.one (.d (.sl (target.map J.z))),.one (.d (.sl (comps.map (Z7 J.z))))] (λr=>.tup [.one (.d (.sl (r.1.map J.z))),.one (.d (.sl (r.2.1.map (Z7 J.z)))),.one (.d (.int .i64 r.2.2))]):=⟨λr hm=>Nv s_ script target comps r hm⟩
def JN(s1:List (List J))(s2:List (List J))(eq:(List J)->(List J)->Option Bool):Option Bool:=
 bif ((s1.length:Int) !=(s2.length:Int)) then some false else Zd (λ(i5:Nat) (x5:List J) (s5:Unit) next_5=>Za s2 (i5:Int) λx6=>Z1 (eq x5 x6) λv7=>bif !v7 then some false else next_5 ()) (λ(s5:Unit)=>some true) s1 0 ()
instance Zfz(s1:List (List J))(s2:List (List J))(eq:(List J)->(List J)->Option Bool){g:FuncId}{caps:List (List D)}[ConG eq prog (λx=>.one (.d (.sl (x.map J.z)))) (λx=>.one (.d (.sl (x.map J.z)))) (λv=>.one (.d (.bool v))) g caps]:Con (JN s1 s2 eq) prog 88 [.one (.d (.sl (s1.map (Z7 J.z)))),.one (.d (.sl (s2.map (Z7 J.z)))),.one (.fn g caps)] (λr=>.one (.d (.bool r))):=by unfold JN;have l1:LH (σ:=Unit) 17 [1,2,15,16] []:=.intro;exact go 32 func88
def Ej(a:List (List J))(b:List (List J)):Option Bool:=
 Z1 (JN a b (λxa_ xb_=>C3 xa_ xb_)) λv1=>some v1
instance Zhe(a:List (List J))(b:List (List J)):Con (Ej a b) prog 57 [.one (.d (.sl (a.map (Z7 J.z)))),.one (.d (.sl (b.map (Z7 J.z))))] (λr=>.one (.d (.bool r))):=by unfold Ej;exact go 8 func57
def Da(s_:Sch)(sc:List Stp)(parent:List J)(child:List J)(complements:List (List J)):Option Bool:=
 Z1 (UF s_ sc parent complements) λv2=>Z1 (UD s_ sc child complements) λv3=>bif (v2.2.2==0) then bif (v3.2.2==0) then Z1 (C3 v2.1 child) λv6=>(bif v6 then Z1 (C3 v3.1 parent) λv8=>(bif v8 then Z1 (Ej v2.2.1 complements) λv10=>(bif v10 then Z1 (Ej v3.2.1 complements) λv12=>(some v12) else some false) else some false) else some false) else(some false) else some false
instance Zgz(s_:Sch)(sc:List Stp)(parent:List J)(child:List J)(complements:List (List J)):Con (Da s_ sc parent child complements) prog 35 [.agg s_.z,.one (.d (.sl (sc.map Stp.z))),.one (.d (.sl (parent.map J.z))),.one (.d (.sl (child.map J.z))),.one (.d (.sl (complements.map (Z7 J.z))))] (λr=>.one (.d (.bool r))):=by unfold Da;exact go 61 func35
def C0(g_:Gr)(db:Db):Option Int:=
 Z1 (Ar g_) λv3=>bif (v3.2 !=0) then some v3.2 else bif ((db.insts.length:Int) !=(v3.1.length:Int)) then some 3 else bif ((db.comps.length:Int) !=(g_.n.length:Int)) then some 3 else Zd (λ(i12:Nat) (x12:Sch) (s12:Unit) next_12=>Za db.insts (i12:Int) λx14=>Z1 (Bs x12 x14) λv15=>bif (v15 !=0) then some v15 else next_12 ()) (λ(s12:Unit)=>Zd (λ(i18:Nat) (x18:Edg) (s18:Unit) next_18=>Za v3.1 x18.m λx20=>Za db.insts x18.m λx21=>Za db.insts (i18+1:Int) λx22=>Za db.comps (i18:Int) λx23=>Z1 (Da x20 x18.script x21 x22 x23) λv24=>bif !v24 then some 13 else next_18 ()) (λ(s18:Unit)=>some 0) g_.n 0 ()) v3.1 0 ()
instance Z0i(g_:Gr)(db:Db):Con (C0 g_ db) prog 19 [.agg g_.z,.agg db.z] (λr=>.one (.d (.int .i64 r))):=by unfold C0;have l1:LH (σ:=Unit) 37 [2,3,5,35,36] []:=.intro;have l2:LH (σ:=Unit) 56 [3,5,54,55] []:=.intro;have p1:PH [9] (Y.qB [0,1,2,3,4,5,6,7] .done):=.intro;have p2:PH [16] (Y.qB [0,1,2,3,4,5,6,7,8,9,10,11,12,13,14,15,16,17,18,19,20,21,22,23,24,25] .done):=.intro;exact go 88 func19

def H0(x:List J):Prop:=x.length<=2097152/\∀r∈x,r.rows.length<=2097152
instance(x:List J):Decidable (H0 x):=inferInstanceAs (Decidable (_/\_))
def MV(a:Db):Prop:=(∀x∈a.insts,H0 x)/\∀l∈a.comps,l.length<=2097152/\∀x∈l,H0 x
instance(db:Db):Decidable (MV db):=inferInstanceAs (Decidable (_/\_))
def Ix{α β:Type}{f:α->Option β}{g:α->β->α}:∀(a:List α) (i:Nat) (s:List α),s.length+a.length<=2097152->(∀x∈a,∃v,f x=some v/\g x v=x)->
  Zd (λ(_:Nat) x s next=>Z1 (f x) λv=>Wn s [g x v] λ_=>next (s++[g x v])) (λs=>some s) a i s=some (s++a)
 |[],i,s,_,_=>by simp[Zd]
 |x::a,i,s,c,hf=>by
   have⟨v,d,b⟩:=hf x I;simp only[YM] at c;show Z1 (f x) _=_;rw[d];show Wn s [g x v] _=_;rw[b];show Zp _ _=_;unfold Zp;rw[if_pos sO];show Zd _ _ a (i+1) (s++[x])=_;rw[Ix a (i+1) (s++[x]) sO λy e=>hf y (by simp[e])];simp
def Z2t{a:List (List GV)}(h:a.length<=2097152):Is (VG a) a:=
 Ix (f:=Ee) (g:=λ_ v=>v) a 0 [] (sU h) λx _=>⟨x,rfl,rfl⟩
def NV{x:List J}(h:H0 x):Is (Vw x) x:=
 Ix (f:=λr:J=>VG r.rows) (g:=λr v=>⟨r.u,v⟩) x 0 [] (sU h.1) λr a=>⟨r.rows,Z2t (h.2 r a),rfl⟩
def Z3i{l:List (List J)}(h:l.length<=2097152)(c:∀x∈l,H0 x):Is (Dg l) l:=by
 have:Hr l (λa=>Vw a)=some l:=
  Ix (f:=λx=>Vw x) (g:=λ_ v=>v) l 0 [] (sU h) λx b=>⟨x,NV (c x b),rfl⟩
 unfold Dg;rw[this];rfl
def Di(g:Gr)(a:Db)(v:Int)(d:List Chg):Option (Db×List Int×Int):=
 Z1 (C0 g a) λe=>bif e !=0 then some (⟨[],[]⟩,[],e) else
 bif decide (v<0)||decide ((a.insts.length:Int)<=v) then some (⟨[],[]⟩,[],4) else
 Z1 (Ar g) λq=>Za q.1 v λS=>Za a.insts v λb=>Z1 (Co S b d) λr=>
 bif r.2 !=0 then some (⟨[],[]⟩,(List.replicate q.1.length 0).set v.toNat r.2,0) else Zp (MV a)<|
 Z1 (FM g q.1 (a.insts.set v.toNat r.1) a.comps v) λs=>
 Zd (λ(u:Nat) (S2:Sch) (t:List Int×Bool) next=>Za s.reached u λh=>Za t.1 u λc=>
  bif h&&(c==0) then Za s.insts u λf=>Z1 (Bs S2 f) λe=>next (t.1.set u e,t.2||(e !=0)) else next (t.1,t.2||(c !=0)))
  (λt=>bif t.2 then some (⟨[],[]⟩,t.1,0) else some (⟨s.insts,s.comps⟩,t.1,0)) q.1 0 (s.errs,false)
def LC{h:HS}{c:C}{a:List Int}(m:Wt h c (a.map λz=>.int .i64 z)):Frz h c (.sl (a.map Zg)):=by
 have b:(a.map λz=>D.int .i64 z).map (λd=>[d])=a.map Zg:=by rw[YY];rfl
 rw[<-b];exact m.frz
def Z7n{h:HS}{c:C}{l:List (List J)}(m:Wt h c (l.map Wq)):Frz h c (.sl (l.map (Z7 J.z))):=by
 have a:(l.map Wq).map (λd=>[d])=l.map (Z7 J.z):=by rw[YY];rfl
 rw[<-a];exact m.frz
def Z7x{h:HS}{c:C}{l:List (List (List J))}(m:Wt h c (l.map Um)):Frz h c (.sl (l.map (Z7 (Z7 J.z)))):=by
 have a:(l.map Um).map (λd=>[d])=l.map (Z7 (Z7 J.z)):=by rw[YY];rfl
 rw[<-a];exact m.frz
def Z1d(g:Gr)(o:Db)(v:Int)(aa:List Chg)(r:Db×List Int×Int)(hm:Is (Di g o v aa) r):
  Zq prog 27 [.agg g.z,.agg o.z,.i v,.l (aa.map Chg.z)] (.tup [.agg (r.1.z.map RC.d),.l (r.2.1.map Zg),.i r.2.2]):=by
 unfold Di at hm;refine Zq.of_heap ?_;show Z5 _ _ [.agg (g.z.map C.d),.agg (o.z.map C.d),.i v,.l (aa.map Chg.z)] HS.init _;refine Z5.ov func27 ?_;have⟨e,he,hm⟩:=hm.bind;simp;refine Zx ((Z0i g o).h e he) I ?_;simp;refine ZP hm ?_ ?_<;>clear hm<;>intro hc hm;obtain rfl:=Zk hm;simp[ZS,ZK,ZX,W5];exact⟨⟨.data rfl,.data rfl,trivial⟩,.data rfl,.data rfl,trivial⟩;simp;have bad:∀(h':HS),F8 h' (.tup [.agg [.nil,.nil],.one .nil,.i 4]) (.tup [.agg ((⟨[],[]⟩:Db).z.map RC.d),.l (([]:List Int).map Zg),.i 4]):=λh'=>⟨⟨.data rfl,.data rfl,trivial⟩,.data rfl,.data rfl,trivial⟩;by_cases hv0:v<0;simp only[hv0,decide_true,Bool.true_or,cond_true] at hm;obtain rfl:=Zk hm;simp[hv0,ZS,ZK,ZX,W5];exact bad _;have ca:decide (v<0)=false:=by simp[hv0]
 rw[ca,Bool.false_or] at hm;simp[hv0];intro dn
 try simp[hv0]
 refine ZP hm ?_ ?_<;>clear hm<;>intro dm hm;obtain rfl:=Zk hm;simp[ZS,ZK,ZX,W5];exact bad _;have⟨q,W,hm⟩:=hm.bind;have⟨S,ar,hS,hm⟩:=hm.get;obtain⟨inst,-,bh,hm⟩:=hm.get;have⟨F,cp,hm⟩:=hm.bind;simp;refine Zx ((Ns g).h q W) I ?_;simp;refine Z6.cu [0,1,2,3,4,5,6,7,8,9,10,11,12,13,14,15] (λe1 L=>En e1 127 [(2,.i v),(4,.p (0,64)),(5,.p (1,80)),(8,.p (2,128)),(12,.l (q.1.map Sch.z)),(14,.l (F.1.map J.z)),(15,.i F.2)]/\
  L.a (0,64)=some (g.z.map C.d)/\L.a (1,80)=some (o.z.map C.d)/\L.a (2,128)=some [.nil,.nil]/\2<L.p) ?_ ?_
 simp[Y.qB,vcPlan,planOps,isCallAt,callKind,ar,hS,bh];refine Zx (NO S inst aa F cp) I ?_;simp[Y.qB,vcPlan,planOps,isCallAt,callKind,ar,hS,bh]
 try refine⟨λ_ _ x=>x,?_⟩
 exact Ze.of ⟨I,I,I,I,I⟩;rintro e1 L ⟨n,bg,aj,br,di⟩;simp[n];refine ZP hm ?_ ?_<;>clear hm<;>intro dp hm;obtain rfl:=Zk hm;simp[n];intro cw;refine⟨X,?_⟩;have cb:v.toNat<q.1.length:=(Y0.1 hS).1;have c0:Wt (L.qA (L.p,1008) (List.replicate q.1.length (.d (.int .i64 0)))) (.mrow (L.p,1008) 0 q.1.length q.1.length) (List.replicate q.1.length (.int .i64 0)):=Wt.make (zc:=.d (.int .i64 0)) I rfl cw;obtain⟨lr,cap,bs,cj,b6,bv,-,ah⟩:=c0.at (i:=v.toNat) (sU cb);simp only[Xi,C.mrow.injEq,true_and] at cj;obtain⟨rfl,rfl⟩:=cj;simp at b6;subst b6;simp only[Xi] at bv;simp[n,ar,cb,bv,br];simp[ZS,ZK,ZX,W5,n,br];refine⟨⟨.data rfl,.data rfl,trivial⟩,?_,.data rfl,trivial⟩;have e9:(List.replicate q.1.length [D.int IntKind.i64 0]).set v.toNat [D.int IntKind.i64 F.2]=((List.replicate q.1.length (0:Int)).set v.toNat F.2).map Zg:=by rw[YJ,Y35];rfl
 have c8:((List.replicate q.1.length (0:Int)).set v.toNat F.2).map (λz=>D.int .i64 z)=(List.replicate q.1.length (D.int .i64 0)).set v.toNat (.int .i64 F.2):=by rw[YJ,Y35]
 show Frz _ _ _;rw[e9];refine LC ?_;rw[c8];refine(ah L (.d (.int .i64 F.2)) (.int .i64 F.2) rfl).frame λl hl=>?_;simp[Z] at hl;subst hl;simp;have⟨bb,hm⟩:=hm.chk;have⟨s,hs,hm⟩:=hm.bind;simp only[Gr.z,Db.z,Yb,Yf] at bg aj;simp[n,aj];refine Zc (Z10 _ o (λx hx=>NV (bb.1 x hx)) (λl hl=>Z3i (bb.2 l hl).1 (bb.2 l hl).2) _ λci K A mI mC hl hd O=>?_);simp[n,aj];have mB:MC A [(ci,o.insts.map Wq),(K,o.comps.map Um)]:=by
  refine⟨λq W=>?_,λq W k y=>?_,?_⟩;simp only[Y5,Xn,or_false] at W;rcases W with rfl|rfl;exact mI;exact mC;simp only[Y5,Xn,or_false] at W;rcases W with rfl|rfl;exact(hl k (by simp[y])).2;exact(hl k (by simp[y])).2;simp only[YI,XS,Ym];exact Yk.2 ⟨Vx,Vx,λa ha b hb he=>hd a ha (he▸hb)⟩
 have b3:v.toNat<(o.insts.map Wq).length:=sU ((Y0.1 bh).1);obtain⟨E,f,bi,cx,cn,cl,ch,-,ah⟩:=mB.at (j:=0) (i:=v.toNat) rfl b3;have bm:ci=.mrow E 0 o.insts.length f:=sU cx;subst bm;have bq:v.toNat < o.insts.length:=sU b3;have p1:=Zv ch;have p2:=W1 ch;have dj:=O.1;have ae:∀ k ∈ Z (.mrow E 0 o.insts.length f)++Z K,L.p<=k.1/\k.1 < A.p:=λk y=>hl k y;have p3:∀ a b:Nat,a<=2->((a,b)=E)=False:=λa b ha=>eq_false (by rintro rfl;have:=(ae (a,b) (by simp[Z])).1;simp at this;omega);have b0:=(O.2 (0,64) sO I).trans bg;have b1:=(O.2 (1,80) sO I).trans aj;have P:=(O.2 (2,128) sO I).trans br;simp[n,aj,ar,bq,cn,cl,p1,p2,p3,b0,b1,P];have da:(o.insts.set v.toNat F.1).map Wq=(o.insts.map Wq).set v.toNat (Wq F.1):=YJ;refine Zc (Z04 _ g q.1 (o.insts.set v.toNat F.1) o.comps v (.mrow E 0 o.insts.length f) K s hs (by
  rw[da];refine ah _ _ (.d (Wq F.1)) (Wq F.1) (mB.new ?_) rfl rfl;exact sm) _ λU cr h3 G bj hge=>?_)
 have c2:=bj.2 (2,128) sO (λh9=>by have:=(ae _ h9).1;simp at this;omega);have b7:=bj.2 (A.p,272) I (λh9=>by have:=(ae _ h9).2;simp at this);have dk:((2,128):Z2)≠(A.p,272):=by intro h9;simp at h9
 simp[p2,p3,P] at c2 b7;have bn:=bj.1;simp at bn;simp[n];intro dr;have a7:∀ k ∈ Z U++Z cr,A.p < k.1:=λk y=>by have:=hge k y;simp at this;omega
 have df:∀ k ∈ Z (.mrow E 0 o.insts.length f)++Z K,L.p<=k.1/\k.1 < A.p:=ae;refine Z6.for (xs:=q.1) (s0:=(s.errs,false)) (λu t e h'=>En e 127 [(8,.p (2,128)),(17,.p (A.p,272)),(18,.one U),(19,.one cr),(20,.b t.2),(85,.l (q.1.map Sch.z)),(86,.i (q.1.length:Int)),(87,.i (u:Int))] /\
  h'.a (2,128)=some [.nil,.nil]/\h'.a (A.p,272)=some [.mrow E 0 o.insts.length f,K]/\MC h' ((⟨s.insts,s.comps,t.1,s.reached⟩:PSt).rows (.mrow E 0 o.insts.length f) K U cr)/\A.p < h'.p) hm
  ⟨by simp[n],c2,b7,G,X⟩ ?_ ?_
 .rintro u t e h' ⟨n,P,af,G,ag⟩ hlt hm;have hw:IntKind.i64.wrap ((u:Int)+1)=(u:Int)+1:=Y6 _ X;have ⟨ru,cg,hm⟩:=hm.qQ;have ⟨eu,bw,hm⟩:=hm.qQ;have ap:u < s.reached.length:=(Y0.1 cg).1;have N:u < t.1.length:=(Y0.1 bw).1;obtain⟨lr,B,br,de,bd,dg,bt,⟨xr,ba,ck⟩,-⟩:=G.at (j:=3) (i:=u) rfl (sU ap);simp only[Y9,cg,Yp,Ya] at ck;obtain rfl:=Lc ck;have bp:cr=.mrow lr 0 s.reached.length B:=sU de;subst bp;have ⟨T,R,be,dc,aq,bu,b5,⟨xe,bf,bz⟩,bc⟩:=G.at (j:=2) (i:=u) rfl (sU N);simp only[Y9,bw,Yp,Ya] at bz;obtain rfl:=IQ bz;have ac:U=.mrow T 0 t.1.length R:=sU dc;rw[ac] at n;have q1:=W1 bt;have q2:=W1 b5;have q3:=Zv bt;have q4:=Zv b5;have q5:∀ b,((A.p,b)=T)=False->True:=λ_ _=>trivial;have a8:E.1 < h'.p:=G.lt _ (Y8 ..) E (by simp[Z]);have q6:=Zv a8;have q7:=W1 a8;have dh:((2,128):Z2)≠(h'.p,352):=by intro h9;simp at h9
  have b9:=Zv (l:=(A.p,272)) ag;have Q:∀ h6:HS,Z0 h' h6 []->h6.a (2,128)=some [.nil,.nil]/\h6.a (A.p,272)=some [.mrow E 0 o.insts.length f,K]/\MC h6 ((⟨s.insts,s.comps,t.1,s.reached⟩:PSt).rows (.mrow E 0 o.insts.length f) K U (.mrow lr 0 s.reached.length B))/\A.p < h6.p:=λh6 al=>
   ⟨(al.2 _ sO I).trans P,(al.2 _ ag I).trans af,G.new al,Y4 ag al.1⟩
  simp[n,hlt,ap,N,bd,ba,q3,q1];cases ru with
  |false=>
    simp only[Bool.false_and,cond_false] at hm;cases ht2:t.2
    all_goals
     rw[ht2] at n;simp[n,N,aq,bf,q1,q2,q3,q4,hw,XO,bd,ba,ap];refine Zj.of (t.1,t.2 || (eu != 0)) ⟨⟨by simp[n,ac,ht2],Q _ ?_⟩,hm⟩;exact sm
  |true=>?_
  cases hz:(eu == 0) with
  |false=>
    rw[hz] at hm;simp only[Y03,cond_false] at hm;cases ht2:t.2
    all_goals
     rw[ht2] at n;simp[n,N,aq,bf,q1,q2,q3,q4,hw,hz,bd,ba,ap];refine Zj.of (t.1,t.2 || (eu != 0)) ⟨⟨by simp[n,ac,ht2],Q _ ?_⟩,hm⟩;exact sm
  |true=>?_
  rw[hz] at hm;simp only[Bool.and_true,cond_true] at hm;have ⟨iu,bk,hm⟩:=hm.qQ;have ⟨M,dd,hm⟩:=hm.bind;simp[n,N,aq,bf,q1,q2,q3,q4,hz];have cy:u < s.insts.length:=(Y0.1 bk).1;obtain⟨dq,c6,dl,ay,aw,cq,-,⟨xi,cm,b4⟩,-⟩:=G.at (j:=0) (i:=u) rfl (sU cy);simp only[Y9,bk,Yp,Ya] at b4;simp at ay;obtain⟨rfl,dw,rfl⟩:=ay;have ax:u < o.insts.length:=X
  refine Z6.cu [0,1,2,3,4,5,6,7,8,9,10] (λeq0 h4=>Ek e eq0 [(18,.one (.mrow T 0 t.1.length R)),(19,.one (.mrow lr 0 s.reached.length B)),(21,.i (u:Int))] [8,17,20,85,86,87] /\
   ∃ hX,Z0 h' hX []/\h4=hX.qA T (Zi be u [.d (.int .i64 M)])) ?_ ?_
  simp[Y.qB,vcPlan,planOps,isCallAt,callKind,n,af,b9,ax,aw,cm,q6,q7];refine Zx ((Z0h q.1[u] iu).h M dd) (by simp[Wi,V.toA,(F3 b4).2.2]) ?_;simp[Y.qB,vcPlan,planOps,isCallAt,callKind,n,af,b9,ax,aw,cm,q6,q7,N,bu,aq,q2,q4]
  try refine⟨λ_ _ x=>x,?_⟩
  refine Ze.of ⟨by simp[n],_,?_,rfl⟩;exact sm;rintro E2 h4 ⟨hF,hX,am,rfl⟩;have n:=hF.an n;have m6:=bc _ _ (.d (.int .i64 M)) (.int .i64 M) (G.new am) rfl rfl;have cd:MC (hX.qA T (Zi be u [.d (.int .i64 M)])) ((⟨s.insts,s.comps,t.1.set u M,s.reached⟩:PSt).rows (.mrow E 0 o.insts.length f) K U (.mrow lr 0 s.reached.length B)):=by simpa[PSt.rows,YJ] using m6
  obtain⟨dx,c7,dv,ak,au,cz,-,⟨xe,b8,a1⟩,-⟩:=cd.at (j:=2) (i:=u) rfl (sU N);simp only[Y9,Yr N,Yp,Ya] at a1;obtain rfl:=IQ a1;rw[ac] at ak;simp at ak;obtain⟨rfl,rfl⟩:=ak;simp at au;subst au;have az:∀ k:Z2,k.1<=A.p->(k=T)=False:=λk y=>eq_false (by rintro rfl;have:=a7 k (by rw[ac];simp[Z]);omega);have f1:(hX.qA T (Zi be u [.d (.int .i64 M)])).a (2,128)=some [.nil,.nil]:=by simp[az (2,128) sO];exact (am.2 _ sO I).trans P
  have f2:(hX.qA T (Zi be u [.d (.int .i64 M)])).a (A.p,272)=some [.mrow E 0 o.insts.length f,K]:=by simp[az (A.p,272) I];exact (am.2 _ ag I).trans af
  cases ht2:t.2
  all_goals
   rw[ht2] at n;simp[n,N,b8,hw];refine Zj.of (t.1.set u M,t.2 || (M != 0)) ⟨⟨by simp[n,ac,ht2],f1,f2,cd,sU (Y4 ag am.1)⟩,hm⟩
 rintro t e h' ⟨n,P,af,G,ag⟩ hm;have ao:∀ {cs:List C},∀ k ∈ Z (.mrow E 0 o.insts.length f)++(Z K++(Z U++Z cr)),(h'.qA (2,128) cs).a k=h'.a k:=λ{cs} k y=>by
  have:k≠(2,128):=by
   intro h9;rw[h9] at y;rcases Y3.1 y with h8 | h8
   have:=(ae (2,128) (YV _ h8)).1;simp at this;omega
   rcases Y3.1 h8 with h8 | h8
   have:=(ae (2,128) (Xj _ h8)).1;simp at this;omega
   have:=a7 (2,128) h8;simp at this;omega
  simp[this]
 simp[n];refine ZP hm ?_ ?_<;>clear hm<;>intro dt hm;obtain rfl:=Zk hm;simp[n,P];simp[ZS,ZK,ZX,W5,n];exact⟨⟨.data rfl,.data rfl,trivial⟩,LC ((G.row _ (Yc _ (Yc _ (Y8 ..)))).frame λk y=>ao k (by simp[y])),.data rfl,trivial⟩;obtain rfl:=Zk hm;simp[n,P,af];simp[ZS,ZK,ZX,W5,n];exact⟨⟨Z7n ((G.row _ (Y8 ..)).frame λk y=>ao k (by simp[y])),Z7x ((G.row _ (Yc _ (Y8 ..))).frame λk y=>ao k (by simp[y])),trivial⟩,LC ((G.row _ (Yc _ (Yc _ (Y8 ..)))).frame λk y=>ao k (by simp[y])),.data rfl,trivial⟩
def O8{S}(n:VS S)(a):Wp (Bs S a) λe=>e=0->CF S a/\VE S a=some 0:=by
 have g:=λT p=>(n.tab T p).pk6;unfold Bs;refine X0 (Cp S g a) λe r h=>X1 (λj=>X2 λo=>by rw[o] at j;cases j) λj=>?_;obtain rfl:e=0:=sU j;have k:=h rfl;have m:∀{u:List (List GV)} {f:List GV->Option Bool},(∀x,Wp (f x) λ_=>True)->Wp (BX u f) λ_=>True:=λs=>by
  unfold BX D8;exact X0 ((Xc λx _=>s x).mono λ_ _ _=>trivial) λ_ _ _=>X2 trivial
 refine X6 (λ_ _=>True) trivial ?_ λ_ _=>X6 (λ_ _=>True) trivial ?_ λ_ _=>X2 λ_=>⟨k,r⟩
 .intro i f _ next _ t _ l
  refine X0 (Mj g k.l24 f.u) λq _ _=>X0 (m λd=>?_) λb _ _=>X7 λ_=>l () trivial;exact X0 (NZ g k.l24 (n.fk f t).1 d) λ_ _ _=>X2 trivial
 intro i c _ next _ _ _ l
 refine X0 (Mj g k.l24 c.u) λq _ _=>X0 (m λd=>?_) λb _ _=>X7 λ_=>l () trivial;exact X0 (Pz c d) λ_ _ _=>X2 trivial
def IM(a b):Wp (Ej a b) λr=>r=true↔a=b:=by
 unfold Ej;exact X0 (My λx y=>ER x y) λr _ c=>X2 c
def Z2m{S d}(l:∀x∈d,U7 x)(a b)(c):Wp (Da S d a b c) λr=>r=true->UF S d a c=some (b,c,0)/\UD S d b c=some (a,c,0)/\SB d.length (b,c,0):=by
 unfold Da;refine X0 (J6 S d l a c) λp z n=>X0 (Mk S d l b c) λq k af=>X1 (λe=>X1 (λf=>X0 (ER _ _) λg _ s=>X1 (λu=>X0 (ER _ _) λh _ o=>X1 (λv=>X0 (IM _ _) λi _ m=>X1 (λw=>X0 (IM _ _) λj _ t=>X2 λy=>?_) λ_=>X2 I) λ_=>X2 I) λ_=>X2 I) λ_=>X2 I) λ_=>X2 I;have g:=s.1 u;have h:=o.1 v;have i:=m.1 w;have j:=t.1 y;have e:p.2.2=0:=sU e;have f:q.2.2=0:=sU f;have⟨p1,p2,p3⟩:=p;have⟨q1,q2,q3⟩:=q;simp only at g h i j e f;subst g h i e f;rw[j] at k;exact⟨z,k,(n rfl).1⟩
structure DbV(g:Gr)(db:Db)(Ss:List Sch):Prop where
 ver:VerOK g Ss
 sch:Ar g=some (Ss,0)
 li:db.insts.length=Ss.length
 lc:db.comps.length=g.n.length
 inst:∀(i:Nat) S x,Ss[i]?=some S->db.insts[i]?=some x->Bs S x=some 0/\CF S x/\VE S x=some 0
 edge:∀i e P a b c,g.n[i]?=some e->Ss[e.m.toNat]?=some P->db.insts[e.m.toNat]?=some a->db.insts[i+1]?=some b->db.comps[i]?=some c->UF P e.script a c=some (b,c,0)/\UD P e.script b c=some (a,c,0)/\SB e.script.length (b,c,0)
def F6(g:Gr):Prop:=∀e∈g.n,∀x∈e.script,U7 x
def Z2l{g}(v:F6 g)(d):Wp (C0 g d) λe=>e=0->∃J,DbV g d J:=by
 unfold C0;refine X0 (Z0k g v) λq N Z=>X1 (λh=>X2 λz=>by rw[z] at h;cases h) λh=>?_;have f:q.2=0:=sU h;have u:=Z f;refine X7 λy=>X7 λw=>?_;have y:d.insts.length=q.1.length:=by simp at y;omega
 have w:d.comps.length=g.n.length:=by simp at w;omega
 refine X6 (λi _=>∀(j:Nat) S x,j<i->q.1[j]?=some S->d.insts[j]?=some x->Bs S x=some 0/\CF S x/\VE S x=some 0) (λj S x h=>absurd h (XB _)) ?_ ?_
 .intro i S _ next s C A F
  have W:=(Y0.1 s).1;refine X3 X X λx M _=>X0 (O8 (u.vs S C) x) λe t O=>X1 (λh=>X2 λz=>by rw[z] at h;cases h) λh=>F () λj I x9 Y k l=>?_;obtain rfl:e=0:=sU h;rcases Yx j i with h9|h9;exact A j I x9 h9 k l;obtain rfl:j=i:=X
  rw[s] at k;cases k
  have:d.insts[j]?=some x:=sU M
  rw[this] at l;cases l;exact⟨t,O rfl⟩
 intro _ A;refine X6 (λi _=>∀j e P a b c,j<i->g.n[j]?=some e->q.1[e.m.toNat]?=some P->d.insts[e.m.toNat]?=some a->d.insts[j+1]?=some b->d.comps[j]?=some c->UF P e.script a c=some (b,c,0)/\UD P e.script b c=some (a,c,0)/\SB e.script.length (b,c,0)) (λj e P a b c h=>absurd h (XB _)) ?_ ?_
 .intro i e _ next t L B F
  have W:=(Y0.1 t).1;have G:=u.n i e t;have ag:=u.len;refine X3 G.1 X λP U _=>X3 G.1 X λa V _=>X3 X X λb D _=>X3 X X λc E _=>X0 (Z2m (v e L) a b c) λr _ hr=>X7 λh=>F () λj T H K Q R Y m f n o p=>?_;rcases Yx j i with h9|h9;exact B j T H K Q R h9 m f n o p;obtain rfl:j=i:=X
  rw[t] at m;cases m;have D:d.insts[j+1]?=some b:=sU D;have E:d.comps[j]?=some c:=sU E;rw[U] at f;rw[V] at n;rw[D] at o;rw[E] at p;cases f;cases n;cases o;cases p;exact hr (sU h)
 intro _ B;refine X2 λ_=>⟨q.1,u,by rw[N,<-f],y,w,λi S x s v=>A i S x (Y0.1 s).1 s v,λi e P a b c m f n o p=>B i e P a b c (Y0.1 m).1 m f n o p⟩
def DbV.ok{g e c}(v:DbV g e c):MV e:=by
 have hl:=v.ver.len;refine⟨λx h=>?_,λl n=>?_⟩;obtain⟨i,b,rfl⟩:=Yo h;have d:i<c.length:=by rw[<-v.li];exact b
 have k:c[i]?=some c[i]:=Y1 d;have a:=(v.inst i _ _ k (Y1 b)).2.1.rb (v.ver.vs _ (Y2 k));exact⟨by have:=a.1;omega,λr f=>by have:=a.2 r f;omega⟩;obtain⟨i,b,rfl⟩:=Yo n;have d:i<g.n.length:=by rw[<-v.lc];exact b
 have m:=Y1 d;have hp:=v.ver.n i _ m;have ac:=v.li;have a:=(v.edge i _ _ _ _ _ m (Y1 X) (Y1 X) (Y1 X) (Y1 b)).2.2;have h6:=a.2.2.2;have h7:e.comps[i].length=g.n[i].script.length:=a.2.1;refine⟨X,λx h=>?_⟩;have j:=a.2.2.1 x h;exact⟨by have:=j.1;omega,λr f=>by have:=j.2 r f;omega⟩
def Ze6{l:List Int}{n:Nat}(h:l.Nodup)(b:∀v∈l,0<=v/\v<=(n:Int)):l.length<=n+1:=by
 have a:l.length<=(ZZ (n+1)).length:=List.Nodup.length_le_of_subset h λv c=>by
  have:=b v c
  simp only[ZZ,Yi,XV];exact⟨v.toNat,X,X⟩
 rwa [Cy] at a
structure PrL(g:Gr)(Ss:List Sch)(s:PSt):Prop where
 i:s.insts.length=Ss.length
 c:s.comps.length=g.n.length
 e:s.errs.length=Ss.length
 r:s.reached.length=Ss.length
def Zas{b S d}(e:∀x∈d,U7 x)(a)(c):Wp (EZ b S d a c) λ_=>True:=by
 unfold EZ;exact X1 (λ_=>(Mk S d e a c).mono λ_ _ _=>trivial) λ_=>(J6 S d e a c).mono λ_ _ _=>trivial
def WO(g:Gr)(h:Hop):Int:=bif h.back then((g.n[h.edge.toNat]?).map Edg.m).getD 0 else h.edge+1
def Fc(g:Gr)(h:Hop):Int:=bif h.back then h.edge+1 else((g.n[h.edge.toNat]?).map Edg.m).getD 0
def F1{g h e}(a:g.n[h.edge.toNat]?=some e):WO g h=bif h.back then e.m else h.edge+1:=by unfold WO;rw[a];rfl
def IF{g h e}(a:g.n[h.edge.toNat]?=some e):Fc g h=bif h.back then h.edge+1 else e.m:=by unfold Fc;rw[a];rfl
structure TI(g:Gr)(v:Int)(Q:List Int)(H:List Hop):Prop where
 nd:Q.Nodup
 rng:∀u∈Q,0<=u/\u<=(g.n.length:Int)
 shape:Q=v::H.map (WO g)
 edge:∀h∈H,0<=h.edge/\h.edge<(g.n.length:Int)
 near:∀t h,H[t]?=some h->Fc g h∈Q.take (t+1)
 dist:(H.map Hop.edge).Nodup
def TI.len{g}{v:Int}{Q H}(t:TI g v Q H):Q.length=H.length+1:=by rw[t.shape];simp
def TI.ends{g}{v:Int}{Q:List Int}{H}(t:TI g v Q H){h}(d:h∈H){e}(c:g.n[h.edge.toNat]?=some e):h.edge+1∈Q/\e.m∈Q:=by
 obtain⟨k,f,rfl⟩:=Yo d;have a:=XE (t.near k _ (Y1 f));have b:WO g H[k]∈Q:=by rw[t.shape];exact Yc _ (Yi.2 ⟨_,d,rfl⟩)
 rw[F1 c] at b;rw[IF c] at a;cases hb:H[k].back<;>rw[hb] at a b;exact⟨b,a⟩;exact⟨a,b⟩
def TI.add{g}{v:Int}{Q:List Int}{H}(t:TI g v Q H){h:Hop}{i:Nat}{e:Edg}(o:g.n[i]?=some e)(n:h.edge=i)(p:WO g h∉Q)(hn:Fc g h∈Q)(z:0<=WO g h/\WO g h<=(g.n.length:Int)):TI g v (Q++[WO g h]) (H++[h]):=by
 have hlt:=(Y0.1 o).1;have x:=t.len;refine⟨?_,λu A=>?_,by rw[t.shape];simp,λd w=>?_,λk d f=>?_,?_⟩;rw[Yk];refine⟨t.nd,I,λa l b j=>?_⟩;rw[Yj.1 j];exact λc=>p (c▸l);rcases Y3.1 A with c|c;exact t.rng u c;rw[Yj.1 c];exact z;rcases Y3.1 w with c|c;exact t.edge d c;rw[Yj.1 c,n];omega;rcases Yx k H.length with c|c;rw[Yu c] at f;rw[Xg X];exact t.near k d f;have q:=(Y0.1 f).1;simp only[Ye,Y34] at q;obtain rfl:k=H.length:=X
 rw[YC (Y7 _),Y3f] at f;cases f
 rwa [Y3e x]
 rw[YL,Yk];refine⟨t.dist,I,λa l b j=>?_⟩;rw[Yb,Yf,Yj] at j;subst j;intro c;obtain⟨d,y,rfl⟩:=Yi.1 l;have m:g.n[d.edge.toNat]?=some e:=by rw[c,n,Yn];exact o
 have⟨r,s⟩:=t.ends y m
 have:WO g h∈Q:=by rw[F1 (show g.n[h.edge.toNat]?=some e by rwa [n,Yn])];cases h.back;rw[<-c];exact r;exact s
 exact p this
structure TF(g:Gr)(v:Int)(H:List Hop):Prop where
 ti:TI g v (v::H.map (WO g)) H
 all:∀u:Nat,u<=g.n.length->(u:Int)∈v::H.map (WO g)
def TF.n{g}{v:Int}{H}(t:TF g v H){i:Nat}(k:i<g.n.length):∃h∈H,h.edge=i:=by
 refine Classical.byContradiction λe=>?_;have c:(ZZ (g.n.length+1)).length<=(v::H.map (WO g)).length:=List.Nodup.length_le_of_subset (by
  unfold ZZ List.Nodup;rw[List.pairwise_map];exact List.pairwise_lt_range.imp λh=>X) λu a=>by
  simp only[ZZ,Yi,XV] at a;obtain⟨m,b,rfl⟩:=a;exact t.all m X
 rw[Cy] at c;simp only[YM,Yd] at c;have d:((i:Int)::H.map Hop.edge).length<=(ZZ g.n.length).length:=List.Nodup.length_le_of_subset (by
  refine XF.2 ⟨λf=>?_,t.ti.dist⟩;have⟨h,b,j⟩:=Yi.1 f;exact e ⟨h,b,j⟩) λu a=>by
  simp only[ZZ,Yi,XV];rcases Y5.1 a with rfl|a;exact⟨i,k,rfl⟩;obtain⟨h,b,rfl⟩:=Yi.1 a
  have:=t.ti.edge h b
  exact⟨h.edge.toNat,X,X⟩
 rw[Cy] at d;simp only[YM,Yd] at d;omega
def Z38{g:Gr}{M:List Sch}(G:VerOK g M)(hs:Ar g=some (M,0)){v:Int}(h0:0<=v)(h1:v<M.length):Wp (FO g v) λr=>TF g v r.1:=by
 have h7:=G.l7;have hl:=G.len;unfold FO;refine X0 (R:=λq=>q.2=0) ?_ λq _ hq=>X1 (λh=>by rw[hq] at h;cases h) λ_=>?_;unfold Dh;refine Xb hs ?_;refine X9 rfl<|X9 sO<|X9 sO<|X3 h0 h1 λS _ _=>X2 rfl;have Z:∀{Q H},TI g v Q H->Q.length<=8:=λ{Q H} t=>by have:=Ze6 t.nd t.rng;omega
 refine Xd (λs:List Int×List Hop×Int=>TI g v s.1 s.2.1/\0<=s.2.2/\∀(j:Nat) u,j<s.2.2->s.1[j]?=some u->∀(i:Nat) e,g.n[i]?=some e->(e.m=u->(i:Int)+1∈s.1)/\(i+1=u->e.m∈s.1)) (λs=>(9-s.2.2).toNat) ?_ Fp _ ⟨⟨I,sO,rfl,I,I,I⟩,I,λj u h=>by simp only at h;omega⟩ (by simp[Fp]);rintro⟨a,b,k⟩ next ⟨B,hk,O⟩ hn
 simp only at B hk O;refine X1 (λD=>?_) λF=>X2 ?_;have D:k<a.length:=sU D;refine X6 (λm t=>TI g v t.1 t.2/\k<t.1.length/\∀(j:Nat) u,j<=k->t.1[j]?=some u->∀i e,(j<k\/i<m)->g.n[i]?=some e->(e.m=u->(i:Int)+1∈t.1)/\(i+1=u->e.m∈t.1)) ⟨B,D,λj u _ d i e Y c=>O j u X d i e c⟩ ?_ ?_;intro i e t nx c _ T N;have K:=(Y0.1 c).1;have hp:=G.n i e c;have⟨t1,t2,t3⟩:=T;have h8:=Z t1;have ap:=t1.len;refine X3 hk t2 λx L U=>X0 (C4 t.1 (i+1)) λa9 _ y=>X0 (C4 t.1 e.m) λb9 _ hb=>X4 ⟨X,X⟩ ?_;have w:∀(h:Hop),h.edge=i->WO g h∉t.1->Fc g h∈t.1->0<=WO g h/\WO g h<=g.n.length->((e.m=x->(i:Int)+1∈t.1++[WO g h])/\(i+1=x->e.m∈t.1++[WO g h]))->TI g v (t.1++[WO g h]) (t.2++[h])/\k<(t.1++[WO g h]).length/\∀(j:Nat) u,j<=k->(t.1++[WO g h])[j]?=some u->∀l z,(j<k\/l<i+1)->g.n[l]?=some z->(z.m=u->(l:Int)+1∈t.1++[WO g h])/\(l+1=u->z.m∈t.1++[WO g h]):=by
  intro h hh p E hr ak;refine⟨t1.add c hh p E hr,sO,λj u C d l z Y f=>?_⟩;rw[Yu X] at d;by_cases hc:j<k\/l<i;have⟨g1,g2⟩:=t3 j u C d l z hc f;exact⟨λo=>YV _ (g1 o),λo=>YV _ (g2 o)⟩;obtain rfl:l=i:=X
  rw[c] at f;cases f;rw[show k.toNat=j by omega] at L;rw[L] at d;cases d;exact ak
 refine X1 (λh=>N _ ?_) λal=>X1 (λh=>N _ ?_) λaj=>N _ ⟨t1,t2,λj u C d l z Y f=>?_⟩;simp at h;have am:(i:Int)+1∉t.1:=λo=>by rw[y.2 o] at h;cases h.2
 have p:WO g ⟨i,false⟩=(i:Int)+1:=rfl;have E:=IF (h:=⟨i,false⟩) (sU c)
 have:=w ⟨i,false⟩ rfl (by rwa [p]) (by rwa [E,h.1]) (by rw[p];omega) ⟨λ_=>by rw[p];simp,λ_=>by rw[h.1];exact YV _ U⟩
 rwa [p] at this
 simp at h;have am:e.m∉t.1:=λo=>by rw[hb.2 o] at h;cases h.2
 have p:WO g ⟨i,true⟩=e.m:=F1 (h:=⟨i,true⟩) (e:=e) (sU c);have E:Fc g ⟨i,true⟩=(i:Int)+1:=rfl
 have:=w ⟨i,true⟩ rfl (by rwa [p]) (by rwa [E,h.1]) (by rw[p];omega) ⟨λ_=>by rw[h.1];exact YV _ U,λ_=>by rw[p];simp⟩
 rwa [p] at this
 by_cases hc:(j:Int)<k\/l<i;exact t3 j u C d l z hc f;obtain rfl:l=i:=X;rw[c] at f;cases f;rw[show k.toNat=j by omega] at L;rw[L] at d;cases d;refine⟨λo=>y.1 ?_,λo=>hb.1 ?_⟩;cases a9 with
 |true=>rfl
 |false=>simp[o] at al
 cases b9 with
 |true=>rfl
 |false=>simp[o] at aj
 intro t T;have⟨t1,t2,t3⟩:=T;have h8:=Z t1;exact hn _ ⟨t1,by simp only;omega,λj u C d i e c=>t3 j u (by simp only at C;omega) d i e (.inr (Y0.1 c).1) c⟩ (by simp only;omega);have F:¬k<a.length:=sU F;have cl:∀u∈a,∀(i:Nat) e,g.n[i]?=some e->(e.m=u->(i:Int)+1∈a)/\((i:Int)+1=u->e.m∈a):=λu d i e c=>by obtain⟨j,C,rfl⟩:=Yo d;exact O j _ X (Y1 C) i e c
 have aq:v∈a:=by rw[B.shape];simp
 have J:∀n m:Nat,m<=n->(m:Int)∈a->(0:Int)∈a:=λn=>by
  induction n with
  |zero=>intro m P y;obtain rfl:m=0:=X;exact y
  |succ n ih=>?_
  intro m P y;cases m with
  |zero=>exact y
  |succ i=>?_
  have hr:=(B.rng _ y).2;have K:i<g.n.length:=X
  have c:=Y1 K;have hp:=G.n i _ c
  have:=(cl _ y i _ c).2 X
  rw[show(g.n[i]).m=((g.n[i]).m.toNat:Int) by omega] at this;exact ih _ X this
 have ah:(0:Int)∈a:=J v.toNat v.toNat (Y7 _) (by rwa [show(v.toNat:Int)=v by omega]);have A:∀n m:Nat,m<=n->m<=g.n.length->(m:Int)∈a:=λn=>by
  induction n with
  |zero=>intro m P _;obtain rfl:m=0:=X;exact ah
  |succ n ih=>?_
  intro m P ao;cases m with
  |zero=>exact ah
  |succ i=>?_
  have K:i<g.n.length:=X;have c:=Y1 K;have hp:=G.n i _ c;have W:=ih (g.n[i]).m.toNat X X;rw[show((g.n[i]).m.toNat:Int)=(g.n[i]).m by omega] at W
  have:=(cl _ W i _ c).1 rfl
  rwa [show((i+1:Nat):Int)=(i:Int)+1 by omega]
 have V:=B.shape;exact⟨by rw[V] at B;exact B,λu d=>by rw[<-V];exact A u u (Y7 _) d⟩
def qs(g:Gr)(v:Int)(H:List Hop)(t:Nat):List Int:=(v::H.map (WO g)).take (t+1)
def LW{g}{v:Int}{H}{t:Nat}{h}(b:H[t]?=some h):qs g v H (t+1)=qs g v H t++[WO g h]:=by have a:=Y0.1 b;unfold qs;rw[Yg (show t+1<(v::H.map (WO g)).length by simp;exact a.1)];simp[a.2]
def QU{g}{v:Int}{H}{s t:Nat}(h:s<=t){u:Int}(a:u∈qs g v H s):u∈qs g v H t:=by unfold qs at*;rw[show s+1=min (s+1) (t+1) by omega,<-List.take_take] at a;exact XE a
def Zf6{g}{v:Int}{H}{t:Nat}:v∈qs g v H t:=by unfold qs;simp
def TF.far{g}{v:Int}{H}(f:TF g v H){t:Nat}{h}(c:H[t]?=some h):WO g h∉qs g v H t:=by
 have a:(qs g v H (t+1)).Nodup:=f.ti.nd.sublist (List.take_sublist _ _);rw[LW c,Yk] at a;exact λb=>a.2.2 _ b _ I rfl
structure PG(g:Gr)(Ss:List Sch)(v:Int)(insts:List (List J))(comps:List (List (List J)))(H:List Hop)(t:Nat)(s:PSt):Prop where
 reached:∀u∈qs g v H t,s.reached[u.toNat]?=some true
 errs:∀e∈s.errs,e=0
 out:∀w:Nat,(w:Int)∉qs g v H t->s.insts[w]?=insts[w]?
 v:s.insts[v.toNat]?=insts[v.toNat]?
 kept:∀i:Nat,(∀h∈H.take t,h.edge≠i)->s.comps[i]?=comps[i]?
 done:∀h∈H.take t,∀e P,g.n[h.edge.toNat]?=some e->Ss[e.m.toNat]?=some P->∃a b c c0,s.insts[e.m.toNat]?=some a/\s.insts[h.edge.toNat+1]?=some b/\s.comps[h.edge.toNat]?=some c/\comps[h.edge.toNat]?=some c0/\EZ h.back P e.script (bif h.back then b else a) c0=some (bif h.back then a else b,c,0)
def MW(g:Gr)(v:Int)(H:List Hop)(t:Nat)(a:List Int):Prop:=∃u∈qs g v H t,∃e,a[u.toNat]?=some e/\e≠0
def Z2j{g:Gr}{x:List Sch}(hx:F6 g)(hv:VerOK g x)(hs:Ar g=some (x,0)){v:Int}(h0:0<=v)(h1:v<x.length){o l}(hi:o.length=x.length)(hc:l.length=g.n.length):
  Wp (FM g x o l v) λs=>PrL g x s/\∃H,TF g v H/\((∀e∈s.errs,e=0)->PG g x v o l H H.length s):=by
 have hl:=hv.len;unfold FM;refine X4 ⟨h0,h1⟩ (X0 (Z38 hv hs h0 h1) λT _ f=>?_);have⟨H,e0⟩:=T;have f:=f;refine X6 (λt s=>PrL g x s/\(MW g v H t s.errs\/PG g x v o l H t s)) ⟨⟨hi,hc,I,I⟩,.inr ⟨λu B=>?_,λe C=>(List.mem_replicate.1 C).2,λw _=>rfl,rfl,λi _=>rfl,λh Y=>by simp at Y⟩⟩ ?_ λs hs=>X2 ⟨hs.1,H,f,λV=>hs.2.elim (λ⟨u,_,e,C,hne⟩=>absurd (V e (Y2 C)) hne) id⟩
 have:u=v:=by unfold qs at B;simpa using B
 subst this;simp only;rw[Yr (by rw[Xi];omega)];intro t q s next y Y p hn
 have hh:=f.ti.edge q Y;refine X3 hh.1 hh.2 λe C az=>X4 (by simp only[Wm];have:=hv.l7;omega) ?_;have hp:=hv.n _ e C;have⟨p,ah⟩:=p;have pi:=p.i;have pc:=p.c;have pe:=p.e;have pr:=p.r;have W:=(Y0.1 y).1;have N:=f.far y;have M:=f.ti.near t q y;rw[F1 C] at N;rw[IF C] at M;have Q:=LW (g:=g) (v:=v) y;rw[F1 C] at Q;have rq:∀u∈qs g v H t,0<=u/\u<x.length:=λu B=>by
  have:=f.ti.rng u (XE B)
  omega
 have ao:H.take (t+1)=H.take t++[q]:=by rw[Yg W,(Y0.1 y).2]
 have ag:∀h∈H.take t,h.edge≠q.edge:=λh d E=>by obtain⟨m,F,rfl⟩:=Yo d;simp only[YA] at F;rw[XX] at E;have hd:=f.ti.dist;refine YK.1 hd m t sO (sU W) X ?_;rw[Y3h,Y3h,E,(Y0.1 y).2]
 have am:∀h∈H.take t,∀z,g.n[h.edge.toNat]?=some z->h.edge+1∈qs g v H t/\z.m∈qs g v H t:=λh d z k=>by obtain⟨m,F,rfl⟩:=Yo d;simp only[YA] at F;rw[XX] at k|-;have Z:H[m]?=some H[m]:=Y1 X;have J:=QU (X:m<=t) (f.ti.near m _ Z);have K:WO g H[m]∈qs g v H t:=QU (X:m+1<=t) (by rw[LW Z];simp);rw[IF k] at J;rw[F1 k] at K;cases A:H[m].back<;>rw[A] at J K;exact⟨K,J⟩;exact⟨J,K⟩
 have D:∀n c:Int,0<=n->n<x.length->0<=c->c<x.length->n∈qs g v H t->c∉qs g v H t->qs g v H (t+1)=qs g v H t++[c]->(∀L:PSt,∀a b _,(L.insts[n.toNat]?=some a/\L.insts[c.toNat]?=some b->L.insts[e.m.toNat]?=some (bif q.back then b else a)/\L.insts[q.edge.toNat+1]?=some (bif q.back then a else b)))->Wp (H3 x e q n c s next) _:=λn c ak ba a1 bc a8 O hq ax=>by
  have R:MW g v H t s.errs->∀es:List Int,(∀j:Nat,j≠c.toNat->es[j]?=s.errs[j]?)->MW g v H (t+1) es:=λ⟨u,B,e,h1,U⟩ es hes=>⟨u,by rw[hq];exact YV _ B,e,by
   rw[hes _ λd=>O (by have:=rq u B;rwa [show c=u by omega])];exact h1,U⟩
  have skip:=λA=>hn s ⟨p,.inl (R A s.errs λ_ _=>rfl)⟩;unfold H3;refine X3 ak X λrn au _=>X1 (λa7=>ah.elim skip λG=>?_) λ_=>X3 ak X λen _ ap=>X1 (λaq=>ah.elim skip λG=>?_) λ_=>X4 ⟨a1,X,X⟩ ?_
  have:=G.reached n a8
  rw[au] at this;cases this;cases a7;rw[G.errs en ap] at aq;cases aq;refine X3 hp.1 X λS hS _=>X3 ak X λa ha _=>X3 hh.1 X λc0 hc0 _=>X0 (Zas (hx e az) a c0) λr hr _=>X1 (λU=>X4 X (hn _ ⟨⟨by simp[pi],by simp[pc],by simp[pe],by simp[pr]⟩,?_⟩)) λU=>hn _ ⟨⟨pi,pc,by simp[pe],by simp[pr]⟩,.inl ⟨c,by rw[hq];simp,r.2.2,by simp only;rw[Yr X],sU U⟩⟩;have ar:r.2.2=0:=sU U;refine ah.elim (λA=>.inl (R A _ λj hj=>by simp only;rw[Ys X])) λG=>.inr ⟨λu B=>?_,λz k=>?_,λw hw=>?_,?_,λi al=>?_,λh d z P k hP=>?_⟩;rw[hq] at B;by_cases aj:c.toNat=u.toNat;simp only;rw[<-aj,Yr X];simp only;rw[Ys aj];rcases Y3.1 B with d|d;exact G.reached u d;exact absurd (by rw[Yj.1 d]) aj;rcases YZ k with d|rfl;exact G.errs z d;exact ar;rw[hq,Y3,not_or] at hw
  have:c.toNat≠w:=λd=>hw.2 (by rw[Yj];omega)
  simp only;rw[Ys this];exact G.out w hw.1
  have:c.toNat≠v.toNat:=λd=>O (by rw[show c=v by omega];exact Zf6)
  simp only;rw[Ys this];exact G.v;rw[ao] at al
  have:q.edge.toNat≠i:=λd=>al q I X
  simp only;rw[Ys this];exact G.kept i λh Y=>al h (YV _ Y);rw[ao] at d;rcases Y3.1 d with d|d;have⟨a',b',c',ay,g1,g2,g3,g4,g5⟩:=G.done h d z P k hP;have⟨q1,q2⟩:=am h d z k;have bd:=f.ti.edge h (XE d);have bb:=hv.n _ z k;have J:c.toNat≠z.m.toNat:=λE=>O (by rwa [show c=z.m by omega]);have K:c.toNat≠h.edge.toNat+1:=λE=>O (by rwa [show c=h.edge+1 by omega]);have n3:q.edge.toNat≠h.edge.toNat:=λE=>ag h d X;exact⟨a',b',c',ay,by simp only;rwa [Ys J],by simp only;rwa [Ys K],by simp only;rwa [Ys n3],g4,g5⟩;obtain rfl:=Yj.1 d;rw[C] at k;cases k;rw[hS] at hP;cases hP;have nf:c.toNat≠n.toNat:=λE=>O (by rwa [show c=n by omega]);have⟨k1,k2⟩:=ax ⟨s.insts.set c.toNat r.1,s.comps.set h.edge.toNat r.2.1,s.errs.set c.toNat r.2.2,s.reached.set c.toNat true⟩ a r.1 c0 ⟨by simp only;rwa [Ys nf],by simp only;rw[Yr X]⟩;have hk:=G.kept h.edge.toNat λh' aw E=>ag h' aw X;rw[hc0] at hk;refine⟨_,_,r.2.1,c0,k1,k2,by simp only;rw[Yr X],hk.symm,?_⟩;have af:EZ h.back S e.script a c0=some (r.1,r.2.1,0):=by rw[hr,<-ar]
  cases A:h.back with
  |true=>rw[A] at af;exact af
  |false=>rw[A] at af;exact af
 have e1:(q.edge+1).toNat=q.edge.toNat+1:=X;cases A:q.back with|true=>?_|false=>?_;rw[A] at N M Q D;exact D _ _ sO sO sO sO M N Q λL a b _ h=>by simp only[cond_true] at h|-;rw[e1] at h;exact⟨h.2,h.1⟩
 rw[A] at N M Q D;exact D _ _ sO sO sO sO M N Q λL a b _ h=>by simp only[cond_false] at h|-;rw[e1] at h;exact⟨h.1,h.2⟩
instance Zhu(s_:Sch):Con (As s_) prog 30 [.agg s_.z] (λr=>.one (.d (.sl (r.map J.z)))):=⟨λr hm=>Ke s_ r hm⟩
def JZ(s_:Sch)(step:Stp):Option ((List J)×Int):=
 Z1 (Bx s_ step) λv3=>bif (v3.2.2 !=0) then some ([],v3.2.2) else Z1 (As v3.2.1) λv7=>some (v7,0)
instance Zgq(s_:Sch)(step:Stp):Con (JZ s_ step) prog 41 [.agg s_.z,.agg step.z] (λr=>.tup [.one (.d (.sl (r.1.map J.z))),.one (.d (.int .i64 r.2))]):=by unfold JZ;exact go 21 func41
def JQ(s_:Sch)(script:List Stp):Option ((List (List J))×Int):=
 Z1 (Bu s_ script) λv2=>bif (v2.2 !=0) then some ([],v2.2) else Zd (λ(i5:Nat) (x5:Stp) (s5:(List (List J))) next_5=>Za v2.1 (i5:Int) λx7=>Z1 (JZ x7 x5) λv8=>bif (v8.2 !=0) then some ([],v8.2) else Wn s5 [v8.1] λ_=>next_5 (s5++[v8.1])) (λ(s5:(List (List J)))=>some (s5,0)) script 0 []
instance Tg(s_:Sch)(script:List Stp):Con (JQ s_ script) prog 23 [.agg s_.z,.one (.d (.sl (script.map Stp.z)))] (λr=>.tup [.one (.d (.sl (r.1.map (Z7 J.z)))),.one (.d (.int .i64 r.2))]):=by
 unfold JQ;have l1:LH (σ:=(List (List J))) 24 [6,22,23] [.g 8 1 (λs=>s.map (Z7 J.z))]:=.intro;have p1:PH [8] (Y.qB [0,1,2,3,4,5,6,7,8,9,10] .done):=.intro;exact go 47 func23
def I3(g_:Gr):Option (Db×Int):=
 Z1 (Ar g_) λv3=>bif (v3.2 !=0) then some ((Db.mk [] []),v3.2) else Zd (λ(i7:Nat) (x7:Sch) (s7:(List (List J))) next_7=>Z1 (As x7) λv9=>Wn s7 [v9] λ_=>next_7 (s7++[v9])) (λ(s7:(List (List J)))=>Zd (λ(i13:Nat) (x13:Edg) (s13:(List (List (List J)))) next_13=>Za v3.1 x13.m λx15=>Z1 (JQ x15 x13.script) λv16=>bif (v16.2 !=0) then some ((Db.mk [] []),v16.2) else Wn s13 [v16.1] λ_=>next_13 (s13++[v16.1])) (λ(s13:(List (List (List J))))=>some ((Db.mk s7 s13),0)) g_.n 0 []) v3.1 0 []
def Z1y(g_:Gr)(r:Db×Int)(hm:Is (I3 g_) r):Zq prog 10 [.agg g_.z] (.tup [.agg (r.1.z.map RC.d),.one (.d (.int .i64 r.2))]):=by
 unfold I3 at hm;refine Zq.qM func10 rfl (by kernel_rfl) (n:=66) rfl rfl (by simp) ?_
 try simp[*]
 refine AC (av:=[.agg g_.z]) hm (λv hv=>Ns _ v hv) (by simp[*]) ?_;clear hm;intro v3 hvv3 hm
 try simp[*]
 refine ZP hm ?_ ?_<;>clear hm<;>intro hc4 hm
 .try simp[*]
  obtain rfl:=Zk hm;exact U0 (vs:=[_,_]) (by simp[*];try exact⟨rfl,rfl⟩) (by simp[*])
 .try simp[*]
  intro hl6;replace hl6:v3.1.length<=2097152:=by simpa using hl6
  refine Z6.for (xs:=v3.1) (s0:=[]) (λi7 s7 e7 h7=>∃c7_0:C,e7.n=66/\e7.get 1=.one (.ptr (0,16) 0)/\e7.get 2=.one (.ptr (1,32) 0)/\e7.get 4=.one (.d (.sl (v3.1.map Sch.z)))/\e7.get 6=.one (.ptr (3,96) 0)/\e7.get 22=.one (.d (.sl (v3.1.map Sch.z)))/\e7.get 23=.one (.d (.int .i64 (v3.1.length:Int)))/\e7.get 24=.one (.d (.int .i64 (i7:Int)))/\h7.a (0,16)=some [.d (.sl (g_.base.q.map E.z)),.d (.sl (g_.base.b.map Fk.z)),.d (.sl (g_.base.cons.map Cons.z)),.d (.sl (g_.n.map Edg.z))]/\h7.a (1,32)=some [.nil,.nil]/\h7.a (3,96)=some [c7_0,.nil]/\Zm h7 1 c7_0 (s7.map (Z7 J.z))) hm ⟨.nil,by simp(maxDischargeDepth:=20) [*]⟩ ?_ ?_
  .rintro i7 s7 e7 h7 ⟨c7_0,hn7,h7_1,h7_2,h7_4,h7_6,h7_22,h7_23,h7_24,hb7_b1,hb7_b2,hb7_b5,gc7_0⟩ hlt7 hm;have hlc7_0:=gc7_0.list;have hdc7_0:=gc7_0.toD;have hac7_0:=gc7_0.toA;have huc7_0:=gc7_0.qG;have hw7:IntKind.i64.wrap ((i7:Int)+1)=(i7:Int)+1:=Y6 _ (by omega)
   try simp[*]
   refine Z6.of (Wy.draw (Y.qB [0,1,2,3,4,5,6,7] .done) follows (by kernel_rfl) ?_)
   try simp[*,Y.qB,vcPlan,planOps,isCallAt,callKind]
   refine AC (av:=[.agg (v3.1[i7]).z]) hm (λv hv=>Ke _ v hv) (by simp[*]) ?_;clear hm;intro v9 hvv9 hm
   try simp[*,Y.qB,vcPlan,planOps,isCallAt,callKind]
   try refine⟨λ(_:Z2) (_:List C) hl=>hl,?_⟩
   refine CK (xs:=s7) (ys:=[v9]) (enc:=(Z7 J.z)) hm CC (by first|exact Zm.nil|(simp(maxDischargeDepth:=20) [*];done)|(simp(maxDischargeDepth:=20) [*];refine⟨?_,by omega⟩;intro hq;subst hq;simp at hz2<;>omega)) (by simp[*]) (by decide) (by decide) (λ_=>rfl) ?_;clear hm;intro hl11 hm g10
   try simp[*,Y.qB,vcPlan,planOps,isCallAt,callKind]
   exact Zj.of (s7++[v9]) ⟨⟨.own (h7.p+3,528) ((s7++[v9]).map (Z7 J.z)),by simp(maxDischargeDepth:=20) [*]⟩,hm⟩
  .rintro s7 e7 h7 ⟨c7_0,hn7,h7_1,h7_2,h7_4,h7_6,h7_22,h7_23,h7_24,hb7_b1,hb7_b2,hb7_b5,gc7_0⟩ hm;have hlc7_0:=gc7_0.list;have hdc7_0:=gc7_0.toD;have hac7_0:=gc7_0.toA;have huc7_0:=gc7_0.qG
   try simp[*]
   intro hl12;replace hl12:g_.n.length<=2097152:=by simpa using hl12
   refine Z6.for (xs:=g_.n) (s0:=[]) (λi13 s13 e13 h13=>∃c13_bb5_0 c13_0:C,(e13.n=66/\e13.get 2=.one (.ptr (1,32) 0)/\e13.get 4=.one (.d (.sl (v3.1.map Sch.z)))/\e13.get 6=.one (.ptr (3,96) 0)/\e13.get 37=.one (.d (.sl (g_.n.map Edg.z)))/\e13.get 38=.one (.d (.int .i64 (g_.n.length:Int)))/\e13.get 39=.one (.d (.int .i64 (i13:Int)))/\h13.a (1,32)=some [.nil,.nil]/\h13.a (3,96)=some [c13_bb5_0,c13_0]/\Zm h13 1 c13_bb5_0 (s7.map (Z7 J.z))/\Zm h13 1 c13_0 (s13.map (Z7 (Z7 J.z))))/\WM c13_bb5_0 c13_0) hm ⟨c7_0,.nil,by simp(maxDischargeDepth:=20) [*],(by simp)⟩ ?_ ?_
   .rintro i13 s13 e13 h13 ⟨c13_bb5_0,c13_0,⟨hn13,h13_2,h13_4,h13_6,h13_37,h13_38,h13_39,hb13_b2,hb13_b5,gc13_bb5_0,gc13_0⟩,apc13_bb5_0_c13_0⟩ hlt13 hm;have hlc13_bb5_0:=gc13_bb5_0.list;have hdc13_bb5_0:=gc13_bb5_0.toD;have hac13_bb5_0:=gc13_bb5_0.toA;have huc13_bb5_0:=gc13_bb5_0.qG;have hlc13_0:=gc13_0.list;have hdc13_0:=gc13_0.toD;have hac13_0:=gc13_0.toA;have huc13_0:=gc13_0.qG;have hw13:IntKind.i64.wrap ((i13:Int)+1)=(i13:Int)+1:=Y6 _ (by omega)
    try simp[*]
    refine Z6.of (Wy.draw (Y.qB [0,1,2,3,4,5,6,7,8,9,10,11,12] .done) follows (by kernel_rfl) ?_)
    try simp[*,Y.qB,vcPlan,planOps,isCallAt,callKind]
    replace hm:=hm.get;obtain⟨x15,h0x15,hxx15,hm⟩:=hm
    try simp[*,Y.qB,vcPlan,planOps,isCallAt,callKind]
    refine AC (av:=[.agg x15.z,.one (.d (.sl ((g_.n[i13].script).map Stp.z)))]) hm (λv hv=>Tg _ _ v hv) (by simp[*]) ?_;clear hm;intro v16 hvv16 hm
    try simp[*,Y.qB,vcPlan,planOps,isCallAt,callKind]
    try refine⟨λ(_:Z2) (_:List C) hl=>hl,?_⟩
    refine ZP hm ?_ ?_<;>clear hm<;>intro hc17 hm
    .try simp[*]
     obtain rfl:=Zk hm;exact U0 (vs:=[_,_]) (by simp[*];try exact⟨rfl,rfl⟩) (by simp[*])
    .try simp[*]
     refine CK (xs:=s13) (ys:=[v16.1]) (enc:=(Z7 (Z7 J.z))) hm IP (by first|exact Zm.nil|(simp(maxDischargeDepth:=20) [*];done)|(simp(maxDischargeDepth:=20) [*];refine⟨?_,by omega⟩;intro hq;subst hq;simp at hz2<;>omega)) (by simp[*]) (by decide) (by decide) (λ_=>rfl) ?_;clear hm;intro hl19 hm g18
     try simp[*]
     exact Zj.of (s13++[v16.1]) ⟨⟨c13_bb5_0,.own (h13.p+3,992) ((s13++[v16.1]).map (Z7 (Z7 J.z))),by simp(maxDischargeDepth:=20) [*],(by first|(simp[*];done)|exact(gc13_bb5_0.apart (by simp)).symm)⟩,hm⟩
   .rintro s13 e13 h13 ⟨c13_bb5_0,c13_0,⟨hn13,h13_2,h13_4,h13_6,h13_37,h13_38,h13_39,hb13_b2,hb13_b5,gc13_bb5_0,gc13_0⟩,apc13_bb5_0_c13_0⟩ hm;have hlc13_bb5_0:=gc13_bb5_0.list;have hdc13_bb5_0:=gc13_bb5_0.toD;have hac13_bb5_0:=gc13_bb5_0.toA;have huc13_bb5_0:=gc13_bb5_0.qG;have hlc13_0:=gc13_0.list;have hdc13_0:=gc13_0.toD;have hac13_0:=gc13_0.toA;have huc13_0:=gc13_0.qG
    try simp[*]
    obtain rfl:=Zk hm;exact U0 (vs:=[_,_]) (by simp[*];try exact⟨rfl,rfl⟩) (by simp[*])
instance Zib(g_:Gr):Con (I3 g_) prog 10 [.agg g_.z] (λr=>.tup [.agg (r.1.z.map RC.d),.one (.d (.int .i64 r.2))]):=⟨λr hm=>Z1y g_ r hm⟩
def I2(n:Int):Option GV:=
 some (GV.mk 1 n empty)
instance Zid(n:Int):Con (I2 n) prog 29 [.one (.d (.int .i64 n))] (λr=>.agg (r.z.map RC.d)):=by unfold I2;exact go 5 func29
def I0(l:List Int):Option ((List GV)):=
 Zd (λ(i2:Nat) (x2:Int) (s2:(List GV)) next_2=>Z1 (I2 x2) λv3=>Wn s2 [v3] λ_=>next_2 (s2++[v3])) (λ(s2:(List GV))=>some s2) l 0 []
instance Zi5(l:List Int):Con (I0 l) prog 14 [.one (.d (.sl (l.map Zg)))] (λr=>.one (.d (.sl (r.map GV.z)))):=by
 unfold I0;have l1:LH (σ:=(List GV)) 8 [6,7] [.g 3 3 (λs=>s.map GV.z)]:=.intro;exact go 19 func14
def K6(l:List Int):Option Chg:=
 Z1 (I0 l) λv2=>some (Chg.mk 1 ({data:=#[116]}) [] v2)
instance Zhq(l:List Int):Con (K6 l) prog 11 [.one (.d (.sl (l.map Zg)))] (λr=>.agg (r.z.map RC.d)):=by unfold K6;exact go 6 func11
def Ex(g_:Gr)(db:Db)(v_:Int):Option ((List J)×Int):=
 Z1 (C0 g_ db) λv3=>bif (v3 !=0) then some ([],v3) else bif decide (v_<0) then some ([],4) else bif decide ((db.insts.length:Int)<=v_) then some ([],4) else Za db.insts v_ λx8=>Z1 (Vw x8) λv9=>some (v9,0)
instance Zi6(g_:Gr)(db:Db)(v_:Int):Con (Ex g_ db v_) prog 12 [.agg g_.z,.agg db.z,.one (.d (.int .i64 v_))] (λr=>.tup [.one (.d (.sl (r.1.map J.z))),.one (.d (.int .i64 r.2))]):=by unfold Ex;exact go 30 func12
def FP(a:List GV)(b:List GV):Option Bool:=
 bif ((a.length:Int) !=(b.length:Int)) then some false else Zd (λ(i5:Nat) (x5:GV) (s5:Unit) next_5=>Za b (i5:Int) λx6=>bif (!(x5.g==x6.g)||(!(x5.int==x6.int)||(!(x5.text==x6.text)))) then some false else next_5 ()) (λ(s5:Unit)=>some true) a 0 ()
instance Zhc(a:List GV)(b:List GV):Con (FP a b) prog 32 [.one (.d (.sl (a.map GV.z))),.one (.d (.sl (b.map GV.z)))] (λr=>.one (.d (.bool r))):=by unfold FP;have l1:LH (σ:=Unit) 13 [0,1,12] []:=.intro;have p1:PH [6] (Y.qB [0,1,2,3,4,5,6,7,8] .done):=.intro;exact go 26 func32
def Ed(a:List (List GV))(b:List (List GV)):Option Bool:=
 bif ((a.length:Int) !=(b.length:Int)) then some false else Zd (λ(i5:Nat) (x5:List GV) (s5:Unit) next_5=>Za b (i5:Int) λx6=>Z1 (FP x5 x6) λv7=>bif !v7 then some false else next_5 ()) (λ(s5:Unit)=>some true) a 0 ()
instance Zh3(a:List (List GV))(b:List (List GV)):Con (Ed a b) prog 13 [.one (.d (.sl (a.map (Z7 GV.z)))),.one (.d (.sl (b.map (Z7 GV.z))))] (λr=>.one (.d (.bool r))):=by unfold Ed;have l1:LH (σ:=Unit) 13 [0,1,12] []:=.intro;have p1:PH [6] (Y.qB [0,1,2,3,4,5,6,7,8,9] .done):=.intro;exact go 27 func13
instance Zhv(g_:Gr)(db:Db)(v_:Int)(changes:List Chg):Con (Di g_ db v_ changes) prog 27 [.agg g_.z,.agg db.z,.one (.d (.int .i64 v_)),.one (.d (.sl (changes.map Chg.z)))] (λr=>.tup [.agg (r.1.z.map RC.d),.one (.d (.sl (r.2.1.map Zg))),.one (.d (.int .i64 r.2.2))]):=⟨λr hm=>Z1d g_ db v_ changes r hm⟩
def Bv(g_:Gr)(db:Db)(v_:Int)(changes:List Chg):Option (Db×Int×Int):=
 Z1 (Di g_ db v_ changes) λv4=>bif (v4.2.2 !=0) then some ((Db.mk [] []),0,v4.2.2) else Zd (λ(i8:Nat) (x8:Int) (s8:Unit) next_8=>bif (x8 !=0) then some ((Db.mk [] []),(i8:Int),x8) else next_8 ()) (λ(s8:Unit)=>some (v4.1,0,0)) v4.2.1 0 ()
instance Zhz(g_:Gr)(db:Db)(v_:Int)(changes:List Chg):Con (Bv g_ db v_ changes) prog 7 [.agg g_.z,.agg db.z,.one (.d (.int .i64 v_)),.one (.d (.sl (changes.map Chg.z)))] (λr=>.tup [.agg (r.1.z.map RC.d),.one (.d (.int .i64 r.2.1)),.one (.d (.int .i64 r.2.2))]):=by unfold Bv;have l1:LH (σ:=Unit) 31 [8,11,29,30] []:=.intro;exact go 43 func7
def JX:Option Gr:=
 Z1 (I2 5) λv2=>some (Gr.mk (Sch.mk [(E.mk ({data:=#[116]}) [(Col.mk ({data:=#[105,100]}) 1 false),(Col.mk ({data:=#[110]}) 1 false)] [0])] [] []) [(Edg.mk 0 [(Stp.mk 1 ({data:=#[116]}) empty ({data:=#[120]}) empty 1 [] empty v2 (E.mk empty [] []) (Cons.mk empty 0 empty 0 (GV.mk 0 0 empty)) (Fk.mk empty [] empty))])])
instance Zgm  :Con (JX) prog 9 [] (λr=>.agg (r.z.map RC.d)):=by unfold JX;exact go 16 func9
def UC:Option Bool:=
 Z1 (JX) λv1=>Z1 (I3 v1) λv3=>bif (v3.2 !=0) then some false else Z1 (K6 [1,2]) λv6=>Z1 (Bv v1 v3.1 0 [v6]) λv7=>bif (v7.2.2 !=0) then some false else Z1 (Ex v1 v7.1 1) λv9=>bif (v9.2==0) then bif ((v9.1.length:Int)==1) then Za v9.1 0 λx13=>(Z1 (I0 [1,2,5]) λv14=>Z1 (Ed x13.rows [v14]) λv15=>some v15) else(some false) else some false
instance Zga  :Con (UC) prog 4 [] (λr=>.one (.d (.bool r))):=by unfold UC;have p1:PH [5] (Y.qB [0,1,2,3,4,5,6,7,8,9,10,11] .done):=.intro;have p2:PH [9] (Y.qB [0,1,2,3,4,5,6,7,8,9,10,11,12,13,14,15,16,17] .done):=.intro;exact go 48 func4
instance Zge(slices:List (List (List J))):Con (FC slices) prog 15 [.one (.d (.sl (slices.map (Z7 (Z7 J.z)))))] (λr=>.one (.d (.sl (r.map (Z7 J.z))))):=⟨λr hm=>To slices r hm⟩
def Hs(s_:List J)(f:J->Option Bool):Option Int:=
 Zd (λ(i2:Nat) (x2:J) (s2:Unit) next_2=>Z1 (f x2) λv3=>bif v3 then some (i2:Int) else next_2 ()) (λ(s2:Unit)=>some (-1)) s_ 0 ()
instance Zfx(s_:List J)(f:J->Option Bool){g:FuncId}{caps:List (List D)}[ConF f prog (λx=>.agg x.z) (λv=>.one (.d (.bool v))) g caps]:Con (Hs s_ f) prog 34 [.one (.d (.sl (s_.map J.z))),.one (.fn g caps)] (λr=>.one (.d (.int .i64 r))):=by unfold Hs;have l1:LH (σ:=Unit) 8 [0,1,7] []:=.intro;exact go 19 func34
def Ho(s_:List J)(f:J->Option Bool):Option Bool:=
 Z1 (Hs s_ f) λv1=>some (decide (0<=v1))
instance Zfm(s_:List J)(f:J->Option Bool){g:FuncId}{caps:List (List D)}[ConF f prog (λx=>.agg x.z) (λv=>.one (.d (.bool v))) g caps]:Con (Ho s_ f) prog 16 [.one (.d (.sl (s_.map J.z))),.one (.fn g caps)] (λr=>.one (.d (.bool r))):=by unfold Ho;exact go 9 func16
def HL(r_:J):Option Bool:=
 some (decide (40<(r_.rows.length:Int)))
instance TV(r_:J):Con (HL r_) prog 17 [.agg r_.z] (λr=>.one (.d (.bool r))):=by unfold HL;exact go 7 func17
instance Zgt  :ConF (λx=>HL x) prog (λx=>.agg x.z) (λr=>.one (.d (.bool r))) 17 []:=⟨λx=>(TV x)⟩
def Dd(g_:Gr)(db:Db)(changes:List Chg):Option Bool:=
 bif decide (8<(g_.n.length:Int)) then some false else bif decide (9<(db.insts.length:Int)) then some false else bif decide (9<(db.comps.length:Int)) then some false else bif decide (50<(changes.length:Int)) then some false else Z1 (FC db.comps) λv11=>Z1 (FC [v11,db.insts]) λv12=>Zd (λ(i14:Nat) (x14:List J) (s14:Unit) next_14=>bif decide (20<(x14.length:Int)) then some false else Z1 (Ho x14 (λxa_=>HL xa_)) λv17=>bif v17 then some false else next_14 ()) (λ(s14:Unit)=>some true) v12 0 ()
instance Zhd(g_:Gr)(db:Db)(changes:List Chg):Con (Dd g_ db changes) prog 5 [.agg g_.z,.agg db.z,.one (.d (.sl (changes.map Chg.z)))] (λr=>.one (.d (.bool r))):=by unfold Dd;have l1:LH (σ:=Unit) 38 [36,37] []:=.intro;have p1:PH [3] (Y.qB [0,1,3,4,8,2,5,6,7] .done):=.intro;exact go 50 func5
def E6(a:List J)(b:List J):Option Bool:=
 bif ((a.length:Int) !=(b.length:Int)) then some false else Zd (λ(i5:Nat) (x5:J) (s5:Unit) next_5=>Za b (i5:Int) λx6=>bif !(Z9 x5.u x6.u) then some false else Z1 (Ed x5.rows x6.rows) λv8=>bif !v8 then some false else next_5 ()) (λ(s5:Unit)=>some true) a 0 ()
instance Zgf(a:List J)(b:List J):Con (E6 a b) prog 28 [.one (.d (.sl (a.map J.z))),.one (.d (.sl (b.map J.z)))] (λr=>.one (.d (.bool r))):=by unfold E6;have l1:LH (σ:=Unit) 13 [0,1,12] []:=.intro;have p1:PH [6] (Y.qB [0,1,2,3,4,5,6,7,8,9,10,11,12,13,14,15,16,17,18,19,20,21,22,23,24] .done):=.intro;exact go 42 func28
def Fy(a:List (List J))(b:List (List J)):Option Bool:=
 bif ((a.length:Int) !=(b.length:Int)) then some false else Zd (λ(i5:Nat) (x5:List J) (s5:Unit) next_5=>Za b (i5:Int) λx6=>Z1 (E6 x5 x6) λv7=>bif !v7 then some false else next_5 ()) (λ(s5:Unit)=>some true) a 0 ()
instance Zg9(a:List (List J))(b:List (List J)):Con (Fy a b) prog 8 [.one (.d (.sl (a.map (Z7 J.z)))),.one (.d (.sl (b.map (Z7 J.z))))] (λr=>.one (.d (.bool r))):=by unfold Fy;have l1:LH (σ:=Unit) 13 [0,1,12] []:=.intro;have p1:PH [6] (Y.qB [0,1,2,3,4,5,6,7,8,9] .done):=.intro;exact go 27 func8
set_option maxRecDepth 100000 in
def NY:UC=some true:=by decide+kernel
def Pi{α:Type}{f:α->Option Bool}:∀(a:List α) (i:Nat),(∀x∈a,∃b,f x=some b)->Wp (Zd (λ(i:Nat) (x:α) (s:Unit) next=>Z1 (f x) λv=>bif v then some (i:Int) else next ()) (λ_=>some (-1)) a i ()) λ_=>True
 |[],i,_=>X2 trivial
 |x::a,i,h=>by
   have⟨b,c⟩:=h x I;have e:=Pi a (i+1) λy d=>h y (by simp[d]);show Wp (Z1 (f x) _) _;rw[c];cases b;exact e;exact X2 trivial
def Z3y(g:Gr)(a:Db)(c:List Chg)(d:a.comps.flatten.length+a.insts.length<=2097152):Wp (Dd g a c) λ_=>True:=by
 unfold Dd FC;refine X1 (λ_=>X2 trivial) λ_=>X1 (λ_=>X2 trivial) λ_=>X1 (λ_=>X2 trivial) λ_=>X1 (λ_=>X2 trivial) λ_=>?_;refine X0 (R:=λv=>v=a.comps.flatten) (X4 X (X2 rfl)) λv _ b=>?_;subst b;refine X0 (R:=λ_=>True) (X4 (by simp only[XC,Y3t,Ym,Ye];exact d) (X2 trivial)) λv _ b=>?_;refine X6 (λ_ _=>True) trivial ?_ λ_ _=>X2 trivial;intro i x s next _ _ _ e
 refine X1 (λ_=>X2 trivial) λ_=>X0 (R:=λ_=>True) ?_ λ_ _ _=>X1 (λ_=>X2 trivial) λ_=>e () trivial;unfold Ho Hs;exact X0 (Pi x 0 λr _=>⟨_,rfl⟩) λ_ _ _=>X2 trivial
def Me(b:ByteArray):(b==b)=true:=by
 cases b with
 |mk d=>
   first
    |exact beq_self_eq_true _
    |(show(d==d)=true;exact beq_self_eq_true d)
def Z3z(a:List GV):Wp (FP a a) λb=>b=true:=by
 unfold FP;refine X1 (λh=>by simp at h) λ_=>X6 (λ_ _=>True) trivial ?_ λ_ _=>X2 rfl;intro i x s next d _ _ c
 exact X5 d (X1 (λh=>by simp[Me] at h) λ_=>c () trivial)
def Z39(a:List (List GV)):Wp (Ed a a) λb=>b=true:=by
 unfold Ed;refine X1 (λh=>by simp at h) λ_=>X6 (λ_ _=>True) trivial ?_ λ_ _=>X2 rfl;intro i x s next e _ _ d
 refine X5 e (X0 (Z3z x) λb _ c=>X1 (λh=>by simp[c] at h) λ_=>d () trivial)
def Z9l(b:ByteArray):Z9 b b=true:=by
 unfold Z9
 first|exact Me b|simp[Me]
def Z1f(a:List J):Wp (E6 a a) λb=>b=true:=by
 unfold E6;refine X1 (λh=>by simp at h) λ_=>X6 (λ_ _=>True) trivial ?_ λ_ _=>X2 rfl;intro i x s next e _ _ d
 refine X5 e (X1 (λh=>by simp[Z9l] at h) λ_=>X0 (Z39 x.rows) λb _ c=>X1 (λh=>by simp[c] at h) λ_=>d () trivial)
def Zo4(a:List (List J)):Wp (Fy a a) λb=>b=true:=by
 unfold Fy;refine X1 (λh=>by simp at h) λ_=>X6 (λ_ _=>True) trivial ?_ λ_ _=>X2 rfl;intro i x s next e _ _ d
 refine X5 e (X0 (Z1f x) λb _ c=>X1 (λh=>by simp[c] at h) λ_=>d () trivial)
def fe:Nat->List Int->Option (Int×Int)
 |_,[]=>none
 |i,x::xs=>bif x !=0 then some (i,x) else fe (i+1) xs
def RK{ρ:Type}{A:Int->Int->Option ρ}{B:Option ρ}:∀(a:List Int) (i:Nat),Zd (λ(i:Nat) (x:Int) (_:Unit) next=>bif x !=0 then A (i:Int) x else next ()) (λ_=>B) a i ()=match fe i a with
  |some q=>A q.1 q.2
  |none=>B
 |[],_=>rfl
 |x::a,i=>by
   have b:=RK (A:=A) (B:=B) a (i+1);show(bif x !=0 then A (i:Int) x else Zd _ _ a (i+1) ())=_;unfold fe;cases h:x !=0 with
   |true=>simp
   |false=>simp only[cond_false];exact b
def Rc:∀{a:List Int} {i:Nat} {q:Int×Int},fe i a=some q->q.2≠0
 |[],_,_,h=>by cases h
 |x::a,i,q,h=>by
   unfold fe at h;cases hx:x !=0 with
   |true=>rw[hx] at h;cases h;simpa using hx
   |false=>rw[hx] at h;exact Rc h
def Re:∀{a:List Int} {i:Nat},fe i a=none->∀x∈a,x=0
 |[],_,_,_,h=>by cases h
 |x::a,i,h,y,hy=>by
   unfold fe at h;cases hx:x !=0 with
   |true=>rw[hx] at h;cases h
   |false=>?_
   rw[hx] at h;rcases Y5.1 hy with rfl|hy;simpa using hx;exact Re h y hy
def Zqk:∀{xs:List Int} {k i:Nat} {x:Int},(∀(j:Nat) y,j<i->xs[j]?=some y->y=0)->xs[i]?=some x->x≠0->fe k xs=some (((k+i:Nat):Int),x)
 |[],_,_,_,_,h,_=>by simp at h
 |y::xs,k,0,x,_,h,hx=>by
   simp at h;subst h;unfold fe;have b:(y !=0)=true:=sU hx;rw[b];simp
 |y::xs,k,i+1,x,a,h,hx=>by
   have c:y=0:=a 0 y X rfl;have e:=Zqk (k:=k+1) (i:=i) (x:=x) (xs:=xs) (λj z hj d=>a (j+1) z X (sU d)) (sU h) hx;unfold fe;rw[c];simp only[bne_self_eq_false,cond_false];rw[e]
   congr 2
   omega
def Z87{g:Gr}{b:Db}{v:Int}{a:List Chg}{p:Db×List Int×Int}(h:Di g b v a=some p):Bv g b v a=some (bif p.2.2 !=0 then(⟨[],[]⟩,0,p.2.2) else match fe 0 p.2.1 with
  |some q=>(⟨[],[]⟩,q.1,q.2)
  |none=>(p.1,0,0)):=by
 unfold Bv;rw[h];show(bif p.2.2 !=0 then _ else _)=_;cases hp:p.2.2 !=0 with
 |true=>rfl
 |false=>?_
 simp only[cond_false];rw[RK (A:=λk e=>some ((⟨[],[]⟩:Db),k,e))];cases fe 0 p.2.1<;>rfl
def Z2c{S g a b e}(h:Jn S g a b e):Da S g a b e=some true:=by
 refine Ww ?_;unfold Da;refine X0 (Wb h.1) λp _ m=>X0 (Wb h.2.1) λq _ n=>?_;subst m n;have f:∀{x:List J} {r:Bool},(r=true↔x=x)->r=true:=λh=>h.2 rfl;have d:∀{x:List (List J)} {r:Bool},(r=true↔x=x)->r=true:=λh=>h.2 rfl;refine X1 (λ_=>X1 (λ_=>X0 (ER _ _) λe1 _ k=>X1 (λ_=>X0 (ER _ _) λe2 _ i=>X1 (λ_=>X0 (IM _ _) λe3 _ j=>X1 (λ_=>X0 (IM _ _) λe4 _ l=>X2 (d l)) λc=>?_) λc=>?_) λc=>?_) λc=>?_) λc=>?_;rw[d j] at c;cases c;rw[f i] at c;cases c;rw[f k] at c;cases c;cases c;cases c
def DbV.edg{g f h}(d:DbV g f h){i:Nat}{e P a b c}(j:g.n[i]?=some e)(k:h[e.m.toNat]?=some P)(l:f.insts[e.m.toNat]?=some a)(m:f.insts[i+1]?=some b)(n:f.comps[i]?=some c):Jn P e.script a b c:=d.edge i e P a b c j k l m n
def Z3d{g:Gr}{k:Db}{n}(d:DbV g k n):C0 g k=some 0:=by
 refine Ww ?_;have ab:=d.li;have ac:=d.lc;have m:=d.ver;have ad:=m.len;unfold C0;refine Xb d.sch ?_;refine X9 rfl<|X9 sO<|X9 sO<|X6 (λ_ _=>True) trivial ?_ λ_ _=>X6 (λ_ _=>True) trivial ?_ λ_ _=>X2 rfl
 .intro i S _ next f _ _ j
  simp only at f;have t:=(Y0.1 f).1;refine X3 X X λx o _=>Xb ((d.inst i S x f (by simpa using o)).1) ?_;exact X9 rfl<|j () trivial
 intro i e _ next h _ _ j
 have t:=(Y0.1 h).1;have l:=m.n i e h;refine X3 l.1 (by simp only;omega) λP p _=>X3 l.1 X λa q _=>X3 X X λb r _=>X3 X X λc s _=>Xb (Z2c (d.edg h p q (by simpa using r) (by simpa using s))) ?_;exact X9 rfl<|j () trivial
structure WrE(g:Gr)(db:Db)(v:Int)(cs:List Chg)(out:Db)(Ss:List Sch)(S:Sch)(x y:List J)(H:List Hop)(s:PSt):Prop where
 d:DbV g db Ss
 v0:0<=v
 v1:v<Ss.length
 sS:Ss[v.toNat]?=some S
 sx:db.insts[v.toNat]?=some x
 sy:Co S x cs=some (y,0)
 f:TF g v H
 l:PrL g Ss s
 p:PG g Ss v (db.insts.set v.toNat y) db.comps H H.length s
 out:out=⟨s.insts,s.comps⟩
 ok:∀(u:Nat) S x,Ss[u]?=some S->s.insts[u]?=some x->Bs S x=some 0/\CF S x/\VE S x=some 0
def Z8b{g}(L:F6 g)(Q)(v:Int)(P):Wp (Di g Q v P) λq=>q.2.2=0->(∀e∈q.2.1,e=0)->∃m S x y H s,WrE g Q v P q.1 m S x y H s:=by
 unfold Di;refine X0 (Z2l L Q) λe _ U=>X1 (λh=>X2 λh0=>by simp only at h0;rw[h0] at h;cases h) λh=>?_;have⟨m,n⟩:=U (sU h);have hl:=n.ver.len;have ao:=n.li;refine X7 λK=>?_;have z:0<=v/\v<m.length:=by simp at K;omega
 refine Xb n.sch ?_;refine X3 z.1 z.2 λS ap F=>X3 z.1 X λw ae _=>X0 (Z3x (n.ver.vs S F) w P) λr ak _=>X1 (λK=>X2 λ_ c=>?_) λaq=>?_;exfalso;have V:r.2∈(List.replicate m.length (0:Int)).set v.toNat r.2:=Y2 (by rw[Yr (by rw[Xi];omega)])
 have:=c _ V
 rw[this] at K;cases K;have am:r.2=0:=sU aq;refine X4 n.ok (X0 (Z2j L n.ver n.sch z.1 z.2 (by simp[ao]) n.lc) λs _ p=>?_);have⟨p,H,f,hG⟩:=p;have pi:=p.i;have pe:=p.e;have pr:=p.r;refine X6 (λi t=>t.1.length=m.length/\(∀j:Nat,i<=j->t.1[j]?=s.errs[j]?)/\(t.2=true->∃(j:Nat) (e:Int),j<i/\t.1[j]?=some e/\e≠0)/\(t.2=false->∀j S x,j<i->m[j]?=some S->s.insts[j]?=some x->s.errs[j]?=some 0/\(s.reached[j]?=some true->Bs S x=some 0/\CF S x/\VE S x=some 0))) ⟨pe,λ_ _=>rfl,I,λ_ j S x d=>absurd d (XB _)⟩ ?_ ?_
 .intro i S2 t next B V W hn
  have hi:i<m.length:=(Y0.1 B).1;have⟨t1,t2,t3,t4⟩:=W;refine X3 X X λru N _=>X3 X X λE D _=>?_;have D:s.errs[i]?=some E:=by rw[<-t2 i (Y7 _)];simpa using D
  have N:s.reached[i]?=some ru:=sU N;refine X1 (λJ=>X3 X X λiu O _=>X0 (O8 (n.ver.vs S2 V) iu) λZ ar aj=>hn _ ⟨by simp[t1],λj d=>?_,λa=>?_,λa=>?_⟩) λJ=>hn _ ⟨t1,λj d=>t2 j X,λa=>?_,λa=>?_⟩;simp only[Yn];rw[Ys X];exact t2 j X;cases h2:t.2 with|true=>?_|false=>?_;have⟨j,R,d,A,k⟩:=t3 h2;exact⟨j,R,X,by simp;rwa [Ys X],k⟩;simp only[h2] at a;exact⟨i,Z,X,by simp only[Yn];rw[Yr X],sU a⟩;simp only[Y38] at a;intro j M Y d b l;rcases Yx j i with o|o;exact t4 a.1 j M Y o b l;obtain rfl:j=i:=X
  rw[B] at b;cases b;have O:s.insts[j]?=some iu:=sU O;rw[O] at l;cases l;have ah:Z=0:=sU a.2;have af:E=0:=by simp at J;exact J.2
  subst ah;subst af;exact⟨D,λ_=>⟨ar,aj rfl⟩⟩;cases h2:t.2 with|true=>?_|false=>?_;have⟨j,R,d,A,k⟩:=t3 h2;exact⟨j,R,X,A,k⟩;simp only[h2] at a;exact⟨i,E,X,by rwa [t2 i (Y7 _)],sU a⟩;simp only[Y38] at a;intro j M Y d b l;rcases Yx j i with o|o;exact t4 a.1 j M Y o b l;obtain rfl:j=i:=X
  have al:E=0:=sU a.2;subst al;refine⟨D,λh8=>?_⟩;rw[N] at h8;cases h8;simp at J
 intro t W;have⟨t1,_,t3,t4⟩:=W;refine X1 (λT=>X2 λ_ c=>?_) λT=>X2 λ_ _=>?_;obtain⟨j,e,-,d,k⟩:=t3 T;exact absurd (c e (Y2 d)) k;have t4:=t4 T;have C:∀e∈s.errs,e=0:=λe U=>by
  obtain⟨j,d,rfl⟩:=Yo U;have A:j<m.length:=X
  have o:=(t4 j _ _ (show j<(m,0).1.length from A) (Y1 A) (Y1 (X:j<s.insts.length))).1;rw[Y1 d] at o;exact Option.some.inj o
 have G:=hG C;refine⟨m,S,w,r.1,H,s,⟨n,z.1,z.2,ap,ae,by rw[ak,<-am],f,p,G,rfl,λu S x F L=>?_⟩⟩;have hu:=(Y0.1 F).1;refine(t4 u S x hu F L).2 ?_;have ag:(u:Int)∈qs g v H H.length:=by
  have:=f.all u X
  unfold qs
  rwa [YD I]
 have:=G.reached u ag
 simpa using this
def Z89{g}(e:F6 g)(c)(v:Int)(b):Wp (Bv g c v b) λq=>q.2.2=0->∃Ss S x y H s,WrE g c v b q.1 Ss S x y H s:=by
 have⟨p,d,h⟩:=Z8b e c v b;refine⟨_,Z87 d,?_⟩;cases h0:p.2.2 !=0 with
 |true=>exact λa=>by simp only[cond_true] at a;rw[a] at h0;cases h0
 |false=>?_
 simp only[cond_false];cases hf:fe 0 p.2.1 with
 |some q=>exact λa=>absurd a (Rc hf)
 |none=>exact λ_=>h (sU h0) (Re hf)
def Zpk(script:List Stp):Option ((List Stp)):=
 Zd (λ(i2:Nat) (x2:Stp) (s2:(List Stp)) next_2=>Z1 (Es x2) λv4=>Wn s2 [v4] λ_=>next_2 (s2++[v4])) (λ(s2:(List Stp))=>some s2) script 0 []
instance Zq8(script:List Stp):Con (Zpk script) prog 21 [.one (.d (.sl (script.map Stp.z)))] (λr=>.one (.d (.sl (r.map Stp.z)))):=by
 unfold Zpk;have l1:LH (σ:=(List Stp)) 8 [6,7] [.g 3 24 (λs=>s.map Stp.z)]:=.intro;exact go 19 func21
def Zpm(g_:Gr):Option Gr:=
 Z1 (UG g_.base) λv3=>Zd (λ(i6:Nat) (x6:Edg) (s6:(List Edg)) next_6=>Z1 (Zpk x6.script) λv8=>Wn s6 [(Edg.mk x6.m v8)] λ_=>next_6 (s6++[(Edg.mk x6.m v8)])) (λ(s6:(List Edg))=>some (Gr.mk v3 s6)) g_.n 0 []
abbrev Zpl(e:Edg):List C:=e.z.map C.d
def Zqr(h:HS)(g:Gr)(r:Gr)(j:Is (Zpm g) r)(K:V->HS->Prop)(f:∀c a,MR a 2 c (r.n.map Zpl)->(∀k∈Z c,h.p<=k.1/\k.1<a.p)->Z0 h a []->ZG h a->K (.agg [.d (.sl (r.base.q.map E.z)),.d (.sl (r.base.b.map Fk.z)),.d (.sl (r.base.cons.map Cons.z)),c]) a):
  Z5 prog 20 [.agg (g.z.map C.d)] h K:=by
 refine Z5.jE func20 rfl kR λhg=>?_;refine Z5.ov func20 ?_;unfold Zpm at j;obtain⟨b,W,j⟩:=j.bind;simp;refine Zx (Ki g.base b W) I ?_;simp;intro ak;refine Z6.for (λi s e a=>∃c,En e 30 [(2,.p (h.p+1,32)),(3,.p (h.p+1+1+1,48)),(11,.l (g.n.map Edg.z)),(12,.i (g.n.length:Int)),(13,.i (i:Int))]/\a.a (h.p+1,32)=some [.nil,.nil,.nil,.nil]/\a.a (h.p+1+1+1,48)=some [.d (.sl (b.q.map E.z)),.d (.sl (b.b.map Fk.z)),.d (.sl (b.cons.map Cons.z)),c]/\MR a 2 c (s.map Zpl)/\s.length=i/\Z0 h a []/\h.p+1+1+1<a.p/\∀k∈Z c,h.p+1+1+1<k.1/\k.1<a.p) j
  ⟨.nil,I,I,I,MR.nil,rfl,?_,I,by simp[Z]⟩ ?_ ?_
 .repeat' first|exact Z0.refl|apply Z0.w|apply Z0.qC|(refine Z0.qA ?_ (.inr (by first|(simp;done)|(simp;omega))))
 .rintro i s e a ⟨c,q,z,u,M,O,A,y,m⟩ hlt j;have hw:IntKind.i64.wrap ((i:Int)+1)=(i:Int)+1:=Y6 _ X;obtain⟨v,hv,j⟩:=j.bind;obtain⟨-,j⟩:=j.chk;have Q:=Zv (l:=(h.p+1+1+1,48)) y;have N:=W1 (l:=(h.p+1+1+1,48)) y;have n1:=Zv (l:=(h.p+1,32)) (n:=a.p) sO;simp[q,hlt];refine Z6.of (Wy.draw (Y.qB [0,1,2,3,4,5,6,7,8,9,10,11] .done) follows kR ?_);simp[Y.qB,vcPlan,planOps,isCallAt,callKind,q,u,Q,N];refine Zx (Zq8 g.n[i].script v hv) I ?_;simp[Y.qB,vcPlan,planOps,isCallAt,callKind,q,u,Q,N];refine⟨λ_ _ x=>x,?_⟩;have B:Z0 a (((a.qA (a.p,80) [C.d (D.int IntKind.i64 0),C.nil]).w.qA (a.p,80) [C.d (D.int IntKind.i64 g.n[i].m),C.d (D.sl (List.map Stp.z g.n[i].script))]).w.qC (a.p+1+1,400) (some (1,2))).w []:=by
   repeat' first|exact Z0.refl|apply Z0.w|apply Z0.qC|(refine Z0.qA ?_ (.inr (by first|(simp;done)|(simp;omega))))
  refine Wl QI kR dE dE (M.frame λk f=>B.2 k (m k f).2 I) (Zr.qU rfl) sO λF w J o H=>?_;have aj:∀k∈Z c,a.p<=k.1\/h.p+1+1+1<k.1:=λk f=>.inr (m k f).1;have S:w.a (h.p+1+1+1,48)=some [.d (.sl (b.q.map E.z)),.d (.sl (b.b.map Fk.z)),.d (.sl (b.cons.map Cons.z)),c]:=by
   rw[o.2 _ sO (λt=>by have:=(m _ t).1;simp at this),B.2 _ y I,u]
  have U:w.a (h.p+1,32)=some [.nil,.nil,.nil,.nil]:=by
   rw[o.2 _ sO (λt=>by have:=(m _ t).1;simp at this;omega),B.2 _ sO I,z]
  have R:=o.1;simp at R;have L:Z0 h w []:=Z0.trans' (A.trans B) o λk f=>.inr (by have:=(m k f).1;omega);simp[q,hw,S];have P:∀k∈Z F,h.p+1+1+1<k.1/\k.1<w.p:=λk f=>by
   rcases H k f with t|t
   have:=m k t
   omega;simp at t;omega
  have T:MR w 2 F ((s++[(⟨g.n[i].m,v⟩:Edg)]).map Zpl):=by rw[YL];exact J
  refine Zj.of (s++[⟨g.n[i].m,v⟩]) ⟨⟨F,by simp[q],by simp[U],I,T.frame λk f=>?_,by simp[O],?_,sO,λk f=>?_⟩,j⟩;have G:k≠(h.p+1+1+1,48):=by rintro rfl;have:=(P _ f).1;simp at this
  simp[G];exact L.qA (.inr I)
  have:=P k f
  simp;omega
 rintro s e a ⟨c,q,z,u,M,O,A,y,m⟩ j;obtain rfl:=Zk j;simp[q,z,u];simp[ZS,ZK,ZX,W5,q,z,u];refine f c _ (M.frame λk f=>?_) (λk f=>?_) (A.qA (.inr I)) ((A.qA (.inr I)).jA hg);have G:k≠(h.p+1,32):=by rintro rfl;have:=(m _ f).1;simp at this;omega
 simp[G]
 have:=m k f
 simp;omega
def Zpd(e_:Int):Option (Gr×Db×Int):=
 some ((Gr.mk (Sch.mk [] [] []) []),(Db.mk [] []),e_)
instance Zpe(e_:Int):Con (Zpd e_) prog 18 [.one (.d (.int .i64 e_))] (λr=>.tup [.agg (r.1.z.map RC.d),.agg (r.2.1.z.map RC.d),.one (.d (.int .i64 r.2.2))]):=by unfold Zpd;exact go 8 func18
def Zpj(g:Gr)(b:Db)(a:Int)(f:List Stp):Option (Gr×Db×Int):=
 Z1 (C0 g b) λe=>bif e !=0 then Zpd e else
 bif (b.insts.length:Int)==8 then Zpd 18 else
 bif decide (a<0)||decide ((b.insts.length:Int)<=a) then Zpd 4 else
 Z1 (Zpm g) λc=>Z1 (Zpk f) λh=>Zp (c.n.length+1<=2097152)<|
 Z1 (Ar ⟨c.base,c.n++[⟨a,h⟩]⟩) λq=>bif q.2 !=0 then Zpd q.2 else
 Za q.1 a λS=>Z1 (JQ S f) λd=>bif d.2 !=0 then Zpd d.2 else
 Za b.insts a λx=>Z1 (UF S f x d.1) λr=>bif r.2.2 !=0 then Zpd r.2.2 else
 Za q.1 ((q.1.length:Int)-1) λL=>Z1 (Bs L r.1) λi=>bif i !=0 then Zpd i else
 Zp (MV b/\b.insts.length+1<=2097152/\b.comps.length+1<=2097152)<|some (⟨c.base,c.n++[⟨a,h⟩]⟩,⟨b.insts++[r.1],b.comps++[r.2.1]⟩,0)
def Z5.xV{P:Program}{f:FuncId}{r vs':List V}{h:HS}{K:V->HS->Prop}(a:List Z2)(m:Z2)(o b:List C)(G:h.a m=some o)(s:m∉a)(z:Aj (h.only a) o b)(H:Cc (h.only a) r vs')(q:Z5 P f vs' ((h.qP a).qA m b) K):Z5 P f r h K:=by
 refine⟨q.1,λΓ μ w vals hI hR=>?_⟩;obtain⟨d,e⟩:=Cc.get H;refine(q.2 Γ (μ.frz h a w) w vals (hI.wV a G s (λconc p=>by
  obtain⟨E,d⟩:=Aj.get z;refine⟨by rw[p.1,E],λi B l=>?_⟩;obtain⟨c,e,g⟩:=d i B l;obtain⟨n,j,k⟩:=p.2 i c e;exact⟨n,j,g.rep hI a k⟩)) ⟨by rw[hR.1,d],λi x l=>?_⟩).mono ?_
 obtain⟨y,g,j⟩:=e i x l;obtain⟨n,k,F⟩:=hR.2 i y g;exact⟨n,k,j.rep hI a F⟩;rintro en w' ⟨u,v,D,μ',rfl,I,t,J,A⟩;exact⟨u,v,D,μ',rfl,I,t,J,Mem.jG.trans A⟩
def Zqj{h:HS}{c:C}{l:List Edg}(m:MR h 2 c (l.map Zpl)):Frz h c (.sl (l.map Edg.z)):=
 m.frz I (λt a=>by obtain⟨y,_,rfl⟩:=Yi.1 a;rfl) λi x t b a=>by
  rw[Y9] at b a;cases hq:l[i]? with
  |none=>rw[hq] at b;cases b
  |some q=>?_
  rw[hq] at b a;cases b;cases a;exact Oh
set_option maxHeartbeats 2000000 in
def Zqs(g:Gr)(G:Db)(c:Int)(sc:List Stp)(r:Gr×Db×Int)(j:Is (Zpj g G c sc) r):
  Zq prog 6 [.agg g.z,.agg G.z,.i c,.l (sc.map Stp.z)] (.tup [.agg (r.1.z.map RC.d),.agg (r.2.1.z.map RC.d),.i r.2.2]):=by
 unfold Zpj at j;refine Zq.of_heap ?_;show Z5 _ _ [.agg (g.z.map C.d),.agg (G.z.map C.d),.i c,.l (sc.map Stp.z)] HS.init _;refine Z5.ov func6 ?_;obtain⟨e,he,j⟩:=j.bind;simp;refine Zx ((Z0i g G).h e he) I ?_;simp;refine ZP j ?_ ?_<;>clear j<;>intro hc j;simp;refine Zx ((Zpe e).h r j) I ?_;obtain rfl:=Zk j;simp[ZS,ZK,ZX,W5];exact⟨⟨.data rfl,.data rfl,.data rfl,.data rfl,trivial⟩,⟨.data rfl,.data rfl,trivial⟩,.data rfl,trivial⟩;simp;intro cd;refine ZP j ?_ ?_<;>clear j<;>intro cb j;simp;refine Zx ((Zpe 18).h r j) I ?_;obtain rfl:=Zk j;simp[ZS,ZK,ZX,W5];exact⟨⟨.data rfl,.data rfl,.data rfl,.data rfl,trivial⟩,⟨.data rfl,.data rfl,trivial⟩,.data rfl,trivial⟩;by_cases hv0:c<0;simp only[hv0,decide_true,Bool.true_or,cond_true] at j;simp[hv0];refine Zx ((Zpe 4).h r j) I ?_;obtain rfl:=Zk j;simp[ZS,ZK,ZX,W5];exact⟨⟨.data rfl,.data rfl,.data rfl,.data rfl,trivial⟩,⟨.data rfl,.data rfl,trivial⟩,.data rfl,trivial⟩;have au:decide (c<0)=false:=by simp[hv0]
 rw[au,Bool.false_or] at j;simp[hv0]
 try (intro bz)
 try simp[hv0]
 refine ZP j ?_ ?_<;>clear j<;>intro cj j;simp;refine Zx ((Zpe 4).h r j) I ?_;obtain rfl:=Zk j;simp[ZS,ZK,ZX,W5];exact⟨⟨.data rfl,.data rfl,.data rfl,.data rfl,trivial⟩,⟨.data rfl,.data rfl,trivial⟩,.data rfl,trivial⟩;obtain⟨o,br,j⟩:=j.bind;obtain⟨K,bb,j⟩:=j.bind;obtain⟨b6,j⟩:=j.chk;obtain⟨q,hq,j⟩:=j.bind;simp;refine Zc (Zqr _ g o br _ λce n mE y ak _=>?_);have b0:=ak.2 (0,64) I I;have b1:=ak.2 (1,80) I I;have b2:=ak.2 (2,128) I I;have b3:=ak.2 (3,144) I I;have ar:=ak.1;simp at b0 b1 b2 b3 ar;have y:∀k∈Z ce,5<=k.1/\k.1<n.p:=λk m=>by
  have:=y k m
  simp at this;exact this
 clear ak;simp;refine Z6.cu [0,1,2,3,4,5,6,7,8,9] (λe1 t=>∃z,En e1 152 [(2,.i c),(3,.l (sc.map Stp.z)),(4,.p (0,64)),(5,.p (1,80)),(8,.p (2,128)),(9,.p (3,144)),(10,.i 0),(11,.one (.fn 18 [])),(13,.p (n.p,208))]/\
  t.a (0,64)=some (g.z.map C.d)/\t.a (1,80)=some (G.z.map C.d)/\t.a (2,128)=some [.nil,.nil,.nil,.nil]/\t.a (3,144)=some [.nil,.nil]/\t.a (n.p,208)=some [.d (.sl (o.base.q.map E.z)),.d (.sl (o.base.b.map Fk.z)),.d (.sl (o.base.cons.map Cons.z)),z]/\MR t 2 z ((o.n++[(⟨c,K⟩:Edg)]).map Zpl)/\n.p<t.p/\∀k∈Z z,3<k.1/\k.1≠n.p/\k.1<t.p) ?_ ?_
 .simp[Y.qB,vcPlan,planOps,isCallAt,callKind];refine Zx (Zq8 sc K bb) I ?_;simp[Y.qB,vcPlan,planOps,isCallAt,callKind];refine⟨λ_ _ x=>x,?_⟩;have s0:Z0 n (((n.qA (n.p,208) [C.nil,C.nil,C.nil,C.nil]).w.qA (n.p,208) [C.d (D.sl (List.map E.z o.base.q)),C.d (D.sl (List.map Fk.z o.base.b)),C.d (D.sl (List.map Cons.z o.base.cons)),ce]).w.qC (n.p+1+1,1008) (some (1,2))).w []:=by
   repeat' first|exact Z0.refl|apply Z0.w|apply Z0.qC|(refine Z0.qA ?_ (.inr (by first|(simp;done)|(simp;omega))))
  refine Wl QI kR dE dE (mE.frame λk m=>s0.2 k (y k m).2 I) (Zr.qU rfl) sO λz t hm2 B hl2=>?_;have a7:=B.1;simp at a7;have n8:=B.2 (n.p,208) (by first|(simp;done)|(simp;omega)) λf=>by have:=(y _ f).2;simp at this
  have n0:=B.2 (0,64) (by first|(simp;done)|(simp;omega)) λf=>by have:=(y _ f).1;simp at this
  have n1:=B.2 (1,80) (by first|(simp;done)|(simp;omega)) λf=>by have:=(y _ f).1;simp at this
  have n2:=B.2 (2,128) (by first|(simp;done)|(simp;omega)) λf=>by have:=(y _ f).1;simp at this
  have n3:=B.2 (3,144) (by first|(simp;done)|(simp;omega)) λf=>by have:=(y _ f).1;simp at this
  have u:∀a b,a<=3->((a,b)=(n.p,208))=False:=λa b ha=>eq_false (by intro f;simp at f;omega);simp[u] at n0 n1 n2 n3 n8;rw[b0] at n0;rw[b1] at n1;rw[b2] at n2;rw[b3] at n3;have az:∀k∈Z z,3<k.1/\k.1≠n.p/\k.1<t.p:=λk m=>by
   rcases hl2 k m with f|f
   have:=y k f
   omega;simp at f;omega
  have bq:MR t 2 z ((o.n++[(⟨c,K⟩:Edg)]).map Zpl):=by rw[YL];exact hm2
  simp[n8];refine Ze.of ⟨z,I,by simp[u,n0,Gr.z],by simp[u,n1,Db.z],by simp[u,n2],by simp[u,n3],I,bq.frame λk m=>?_,sO,λk m=>by simpa using az k m⟩;have F:k≠(n.p,208):=by rintro rfl;have:=(az _ m).2.1;simp at this
  simp[F]
 rintro e1 t ⟨z,s,b0,b1,b2,b3,b8,mE,cg,y⟩;have am:3<n.p:=X
 simp[s,b8];refine Zc (Z5.xV (Z z) (n.p,208) _ [.d (.sl (o.base.q.map E.z)),.d (.sl (o.base.b.map Fk.z)),.d (.sl (o.base.cons.map Cons.z)),.d (.sl ((o.n++[(⟨c,K⟩:Edg)]).map Edg.z))] b8 (λf=>(y _ f).2.1 rfl) ⟨.refl,.refl,.refl,.inr ⟨_,rfl,Zqj (mE.frame λk m=>by simp only[HS.only];rw[if_pos m])⟩,trivial⟩
  (vs':=[.agg [.d (.sl (o.base.q.map E.z)),.d (.sl (o.base.b.map Fk.z)),.d (.sl (o.base.cons.map Cons.z)),.d (.sl ((o.n++[(⟨c,K⟩:Edg)]).map Edg.z))]]) ⟨?_,trivial⟩ (Z5.xG 68 ((Ns ⟨o.base,o.n++[⟨c,K⟩]⟩).h q hq) I ?_))
 exact⟨.refl,.refl,.refl,.inr ⟨_,rfl,Zqj (mE.frame λk m=>by simp only[HS.only];rw[if_pos m])⟩,trivial⟩;have sn:∀lo,lo∉Z z->(t.qP (Z z)).a lo=t.a lo:=λlo N=>by simp only[HS.qP];rw[if_neg N]
 have u:∀a b,a<=3->((a,b)=(n.p,208))=False:=λa b ha=>eq_false (by intro f;simp at f;omega);have N:∀a b,a<=3->(a,b)∉Z z:=λa b ha f=>by have:=(y _ f).1;simp at this;omega
 generalize T:(((t.qP (Z z)).qA (n.p,208) [.d (.sl (o.base.q.map E.z)),.d (.sl (o.base.b.map Fk.z)),.d (.sl (o.base.cons.map Cons.z)),.d (.sl ((o.n++[(⟨c,K⟩:Edg)]).map Edg.z))]).qL 68 (RV.tup [.l (q.1.map Sch.z),.i q.2]).fr).w=F;have c0:F.a (0,64)=some (g.z.map C.d):=by rw[<-T,<-b0,<-sn _ (N 0 64 X)];simp[u]
 have c1:F.a (1,80)=some (G.z.map C.d):=by rw[<-T,<-b1,<-sn _ (N 1 80 X)];simp[u]
 have V:F.a (2,128)=some [.nil,.nil,.nil,.nil]:=by rw[<-T,<-b2,<-sn _ (N 2 128 X)];simp[u]
 have W:F.a (3,144)=some [.nil,.nil]:=by rw[<-T,<-b3,<-sn _ (N 3 144 X)];simp[u]
 have c8:F.a (n.p,208)=some [.d (.sl (o.base.q.map E.z)),.d (.sl (o.base.b.map Fk.z)),.d (.sl (o.base.cons.map Cons.z)),.d (.sl ((o.n++[(⟨c,K⟩:Edg)]).map Edg.z))]:=by rw[<-T];simp
 have ah:n.p<F.p:=by rw[<-T];simp[HS.qP];omega
 clear T sn N mE y b0 b1 b2 b3 b8;simp only[Db.z,Yb,Yf] at c1;simp[s];refine ZP j ?_ ?_<;>clear j<;>intro b9 j;simp[s];refine Zx ((Zpe q.2).h r j) I ?_;obtain rfl:=Zk j;simp[ZS,ZK,ZX,W5,s,V,W];exact⟨⟨.data rfl,.data rfl,.data rfl,.data rfl,trivial⟩,⟨.data rfl,.data rfl,trivial⟩,.data rfl,trivial⟩;obtain⟨S,ba,hS,j⟩:=j.get;obtain⟨em,bg,j⟩:=j.bind;simp[s,ba,hS];refine Zx ((Tg S sc).h em bg) I ?_;simp[s];refine ZP j ?_ ?_<;>clear j<;>intro b5 j;simp[s];refine Zx ((Zpe em.2).h r j) I ?_;obtain rfl:=Zk j;simp[ZS,ZK,ZX,W5,s,V,W];exact⟨⟨.data rfl,.data rfl,.data rfl,.data rfl,trivial⟩,⟨.data rfl,.data rfl,trivial⟩,.data rfl,trivial⟩;obtain⟨x,-,hx,j⟩:=j.get;obtain⟨v,bj,j⟩:=j.bind;refine Z6.cu [0,1,2,3,4,5,6,7,8,9,10,11,12,13,14,15,16,17,18] (λe2 h4=>En e2 152 [(5,.p (1,80)),(8,.p (2,128)),(9,.p (3,144)),(10,.i 0),(11,.one (.fn 18 [])),(13,.p (n.p,208)),(14,.l (q.1.map Sch.z)),(15,.i v.2.2),(17,.l (v.1.map J.z)),(18,.l (v.2.1.map (Z7 J.z)))]/\Z0 F h4 []) ?_ ?_;simp[Y.qB,vcPlan,planOps,isCallAt,callKind,s,ba,hS,c1,hx];refine Zx (NA S sc x em.1 v bj) I ?_;simp[Y.qB,vcPlan,planOps,isCallAt,callKind,s]
 try refine⟨λ_ _ x=>x,?_⟩
 refine Ze.of ⟨by simp[s],?_⟩;exact sm;rintro e2 h4 ⟨s,ap⟩;have ld:∀{a b:Nat},a<=3->h4.a (a,b)=F.a (a,b):=λ{a b} ha=>ap.2 _ sO I;have c1:=(ld (a:=1) (b:=80) X).trans c1;have V:=(ld (a:=2) (b:=128) X).trans V;have W:=(ld (a:=3) (b:=144) X).trans W;have c8:=(ap.2 (n.p,208) ah I).trans c8;have ah:n.p<h4.p:=Y4 ah ap.1;simp[s];refine ZP j ?_ ?_<;>clear j<;>intro ch j;simp[s];refine Zx ((Zpe v.2.2).h r j) I ?_;obtain rfl:=Zk j;simp[ZS,ZK,ZX,W5,s,V,W];exact⟨⟨.data rfl,.data rfl,.data rfl,.data rfl,trivial⟩,⟨.data rfl,.data rfl,trivial⟩,.data rfl,trivial⟩;obtain⟨L,bd,hL,j⟩:=j.get;obtain⟨e9,bi,j⟩:=j.bind;simp[s,bd,hL];intro ck;have bk:IntKind.i64.wrap ((q.1.length:Int)-1)=(q.1.length:Int)-1:=Y6 _ X;have bv:q.1[q.1.length-1]?=some L:=by rw[<-hL];congr 1;omega
 have bh:(1:Int)<=q.1.length:=X;simp[s,bk,bh,bv];refine Zx ((Z0h L v.1).h e9 bi) I ?_;simp[s];refine ZP j ?_ ?_<;>clear j<;>intro ca j;simp[s];refine Zx ((Zpe e9).h r j) I ?_;obtain rfl:=Zk j;simp[ZS,ZK,ZX,W5,s,V,W];exact⟨⟨.data rfl,.data rfl,.data rfl,.data rfl,trivial⟩,⟨.data rfl,.data rfl,trivial⟩,.data rfl,trivial⟩;obtain⟨aq,j⟩:=j.chk;obtain rfl:=Zk j;simp[s,c1];refine Zc (Z10 _ G (λx hx=>NV (aq.1.1 x hx)) (λl hl=>Z3i (aq.1.2 l hl).1 (aq.1.2 l hl).2) _ λci cc A mI mC hl hd ao=>?_);simp[s];have k1:=(ao.2 (2,128) sO I).trans V;have k2:=(ao.2 (3,144) sO I).trans W;have k8:=(ao.2 (n.p,208) sO I).trans c8;have bw:n.p<A.p:=Y4 ah (by have:=ao.1;simp at this;omega);refine Z6.cut (Y.qB [0,1,2,5,7] (.three 3 6 8 (Y.qB [] (.three 4 6 8 (Y.qB [6,10,8,9,11,12,13] .done) (Y.qB [] (.two 4 8 (Y.qB [10,8,9,11,12,13] .done) (Y.qB [4,10,9,11,12,13] .done))) (Y.qB [] (.two 4 6 (Y.qB [6,10,9,11,12,13] .done) (Y.qB [4,10,9,11,12,13] .done))))) (Y.qB [] (.two 3 8 (Y.qB [] (.two 4 8 (Y.qB [10,8,9,11,12,13] .done) (Y.qB [4,10,9,11,12,13] .done))) (Y.qB [3,4,10,9,11,12,13] .done))) (Y.qB [] (.two 3 6 (Y.qB [] (.two 4 6 (Y.qB [6,10,9,11,12,13] .done) (Y.qB [4,10,9,11,12,13] .done))) (Y.qB [3,4,10,9,11,12,13] .done))))) follows kR (λe3 Q=>∃O P,En e3 152 [(8,.p (2,128)),(9,.p (3,144)),(13,.p (n.p,208)),(20,.p (A.p,320))]/\
  Wt Q O ((G.insts++[v.1]).map Wq)/\Wt Q P ((G.comps++[v.2.1]).map Um)/\Q.a (A.p,320)=some [O,P]/\Q.a (n.p,208)=A.a (n.p,208)/\Q.a (2,128)=some [.nil,.nil,.nil,.nil]/\Q.a (3,144)=some [.nil,.nil]/\∀k∈Z O++Z P,3<k.1) ?_ ?_
 .have⟨rs,mi,ei⟩:=mI;have⟨ss,mc,ec⟩:=mC;have b4:rs.length=G.insts.length:=by have:=congrArg List.length ei;simpa using this
  have b7:ss.length=G.comps.length:=by have:=congrArg List.length ec;simpa using this
  have aj:∀k∈Z ci,3<k.1/\n.p<k.1/\k.1<A.p:=λk m=>by
   have:=hl k (by simp[m])
   simp at this;omega
  have U:∀k∈Z cc,3<k.1/\n.p<k.1/\k.1<A.p:=λk m=>by
   have:=hl k (by simp[m])
   simp at this;omega
  simp[Y.qB,vcPlan,planOps,isCallAt,callKind,s]
  and_intros
  all_goals
   refine Wl CC kR dE dE (mi.frame λk m=>?_) (Zr.qU rfl) (by simp[Zw];omega) λO R bm M bp=>?_
   have:=(aj k m).2
   have f:k≠(A.p,320):=by rintro rfl;simp at this
   simp[f];have bn:=M.1;simp at bn;have a4:=M.2 (A.p,320) (by first|(simp;done)|(simp;omega)) λf=>by have:=(aj _ f).2.2;simp at this
   have a1:=M.2 (n.p,208) (by first|(simp;done)|(simp;omega)) λf=>by have:=(aj _ f).2.1;simp at this
   have a2:=M.2 (2,128) (by first|(simp;done)|(simp;omega)) λf=>by have:=(aj _ f).1;simp at this
   have a3:=M.2 (3,144) (by first|(simp;done)|(simp;omega)) λf=>by have:=(aj _ f).1;simp at this
   have a8:∀k∈Z O,k.1<R.p/\3<k.1/\n.p<k.1/\k≠(A.p,320)/\k∉Z cc:=λk m=>by
    rcases bp k m with f|f;have b:=aj k f;exact⟨X,b.1,b.2.1,λe=>by rw[e] at b;simp at b,hd k f⟩;simp at f;exact⟨f.2,X,X,λe=>by rw[e] at f;simp at f;omega,λe=>by have:=(U k e).2.2;omega⟩
   have u:∀a b,a<=n.p->((a,b)=(A.p,320))=False:=λa b ha=>eq_false (by intro f;simp at f;omega);simp[u,am,Y02] at a1 a2 a3 a4;simp[Y.qB,vcPlan,planOps,isCallAt,callKind,s,a4];refine Wl IP kR dE dE (mc.frame λk m=>?_) (Zr.qU rfl) (by simp[Zw];omega) λP h8 bu aw bc=>?_
   .have b:=(U k m).2.2;have f:k≠(A.p,320):=by rintro rfl;simp at b
    have h8:=M.2 k (by first|(simp;done)|(simp;omega)) λf=>hd k f m;simp[f] at h8;simpa using h8
   have al:Z0 R h8 (Z cc):=⟨by have:=aw.1;first|exact this|(simp at this;omega),λk m N=>by have:=aw.2 k (by first|exact m|(simp;omega)) N;simpa using this⟩;have n1:=(al.2 (n.p,208) X λf=>by have:=(U _ f).2.1;simp at this).trans a1;have n2:=(al.2 (2,128) sO λf=>by have:=(U _ f).1;simp at this).trans a2;have n3:=(al.2 (3,144) sO λf=>by have:=(U _ f).1;simp at this).trans a3;have n4:=(al.2 (A.p,320) sO λf=>by have:=(U _ f).2.2;simp at this).trans a4;have ax:∀k∈Z P,3<k.1/\n.p<k.1/\k≠(A.p,320):=λk m=>by
    have f:k∈Z cc\/R.p<=k.1:=by rcases bc k m with f|f;exact .inl f;exact .inr (by have:=f.1;first|exact this|(simp at this;omega))
    rcases f with f|f;have b:=U k f;exact⟨b.1,b.2.1,λe=>by rw[e] at b;simp at b⟩;exact⟨X,X,λe=>by rw[e] at f;simp at f;omega⟩
   simp[Y.qB,vcPlan,planOps,isCallAt,callKind,s,n4];refine Ze.of ⟨O,P,by simp[s],⟨rs++[.d (.sl (v.1.map J.z))],?_,?_⟩,⟨ss++[.d (.sl (v.2.1.map (Z7 J.z)))],?_,?_⟩,I,by simp[u,n1],by simp[u,am,Y02,n2,k1],by simp[u,am,Y02,n3,k2],λk m=>?_⟩;rw[show Zw (rs++[C.d (D.sl (v.1.map J.z))])=Zw rs++[List.map C.d [D.sl (v.1.map J.z)]] from by simp[Zw]];exact bm.frame λk m=>by have b:=a8 k m;simp[b.2.2.2.1];exact al.2 k b.1 b.2.2.2.2
   rw[YL,ei];simp[Wq,C.toD];rw[show Zw (ss++[C.d (D.sl (v.2.1.map (Z7 J.z)))])=Zw ss++[List.map C.d [D.sl (v.2.1.map (Z7 J.z))]] from by simp[Zw]];exact bu.frame λk m=>by simp[(ax k m).2.2]
   rw[YL,ec];simp[Um,C.toD];rcases Y3.1 m with f|f;exact(a8 k f).2.1;exact(ax k f).1
 rintro e3 Q ⟨O,P,s,bt,bf,g4,g8,g2,g3,ay⟩;have f8:=g8.trans k8;refine Z6.cut (Y.qB [0] (.two 1 2 (Y.qB [2,3,4] .done) (Y.qB [1,3,4] .done))) follows kR (λe4 R=>En e4 152 [(8,.p (2,128)),(9,.p (3,144)),(10,.i 0)]/\R.a (2,128)=some [.d (.sl (o.base.q.map E.z)),.d (.sl (o.base.b.map Fk.z)),.d (.sl (o.base.cons.map Cons.z)),.d (.sl ((o.n++[(⟨c,K⟩:Edg)]).map Edg.z))]/\R.a (3,144)=some [O,P]/\∀k:Z2,3<k.1->R.a k=Q.a k) ?_ ?_;simp[Y.qB,vcPlan,planOps,isCallAt,callKind,s,g4,f8,g2,g3];refine Ze.of ⟨by simp[s],I,I,λk m=>?_⟩;have t:k≠(2,128):=by rintro rfl;simp at m
 have F:k≠(3,144):=by rintro rfl;simp at m
 simp[t,F];rintro e4 R ⟨s,j2,j3,M⟩;simp[ZS,ZK,ZX,W5,s,j2,j3];have fI:=Z7n (bt.frame λk m=>M k (ay k (by simp[m])));have fC:=Z7x (bf.frame λk m=>M k (ay k (by simp[m])));simp[Z7] at fI fC;exact⟨⟨.data rfl,.data rfl,.data rfl,.data rfl,trivial⟩,⟨fI,fC,trivial⟩,.data rfl,trivial⟩
def Zq7(a:List Stp)(h:a.length<=2097152):Wp (Zpk a) λr=>r=a:=by
 have hL:=VX;unfold Zpk;refine X6 (λi s=>s=a.take i) I ?_ λs c=>X2 (by rw[c,Yl]);intro i x s next d _ c e
 have b:=Y0.1 d;subst c;refine X0 (Z0r x) λy _ f=>X8 (by have:=b.1;simp;omega) (e _ ?_);rw[Yg b.1,b.2,f]
def Zqt{g:Gr}{b}(o:F6 g)(a:VerOK g b):Wp (Zpm g) λr=>r=g:=by
 have hL:=VX;have j:=a.vs g.base (Y2 a.fst);have h7:=a.l7;have hl:=a.len;unfold Zpm;refine X0 (I1 g.base (by have:=j.t6;omega) (by have:=j.f8;omega)) λS _ c=>?_;refine X6 (λi s=>s=g.n.take i) I ?_ λs h=>X2 (by rw[h,Yl,c]);intro i e s next d l h n
 have f:=Y0.1 d;have ac:=f.1;have hp:=a.n i e d;have⟨r,k,m⟩:=NJ (b[e.m.toNat]'X) e.script (o e l);rw[a.edge i e _ _ d (Y1 (X:e.m.toNat<b.length)) (Y1 (X:i+1<b.length))] at k;cases k;have⟨_,_,q,_⟩:=m rfl;have h6:=q.l6;subst h;refine X0 (Zq7 e.script X) λy _ p=>X8 sO (n _ ?_);rw[Yg f.1,f.2,p]
def Zrn{g:Gr}{e:Edg}{b a:List Sch}(c:VerOK g b)(d:VerOK ⟨g.base,g.n++[e]⟩ a):∃C,a=b++[C]:=by
 have hl:=c.len;have k:=d.len;simp only[Ye,Y34] at k;have f:∀n i:Nat,i<=n->i<b.length->a[i]?=b[i]?:=λn=>by
  induction n with|zero=>?_|succ n ih=>?_
  intro i h _;obtain rfl:i=0:=X;rw[c.fst,d.fst];intro i h s;cases i with
  |zero=>rw[c.fst,d.fst]
  |succ i=>?_
  have j:=Y1 (l:=g.n) (i:=i) X;have hp:=c.n i _ j;have r:=Y1 (l:=b) (i:=(g.n[i]).m.toNat) X;have m:=ih _ (X:(g.n[i]).m.toNat<=n) X;rw[r] at m;have o:=Y1 s;have p:=Y1 (l:=a) (i:=i+1) X;have q:=c.edge i _ _ _ j r o;rw[d.edge i _ _ _ (by simp only;rw[Yu X];exact j) m p] at q;rw[o,p,(Prod.mk.inj (Option.some.inj q)).1]
 refine⟨a[b.length]'X,YU λi=>?_⟩;rcases Y01 i b.length with h|h|h;rw[Yu h];exact f i i (Y7 _) h;subst h;rw[YC (Y7 _),Y3f,Y1 X];rfl;rw[Yq X,Yq sO]
def Zr4(S x)(c:U7 x):Wp (JZ S x) λ_=>True:=by
 unfold JZ;refine X0 (Zqv S x c) λq _ b=>X1 (λ_=>X2 trivial) λh=>?_;have⟨_,_,_,a,_⟩:=b (sU h);exact X0 (L7 q.2.1 (by have:=a.t6;omega)) λ_ _ _=>X2 trivial
def Zqx(S a)(d:∀x∈a,U7 x):Wp (JQ S a) λ_=>True:=by
 have hL:=VX;unfold JQ;refine X0 (K8 S a d) λq _ j=>X1 (λ_=>X2 trivial) λh=>?_;have b:=j (sU h);have hl:=b.len;have h6:=b.l6;refine X6 (λi (s:List (List J))=>s.length=i) rfl ?_ λs c=>X2 trivial;intro i x s next e f c g
 have hi:=(Y0.1 e).1;exact X3 X X λy _ _=>X0 (Zr4 y x (d x f)) λr _ _=>X1 (λ_=>X2 trivial) λ_=>X8 sO (g _ (by simp[c]))
structure EvE(g:Gr)(db:Db)(parent:Int)(sc:List Stp)(Ss:List Sch)(S C:Sch)(x b:List J)(em c:List (List J))(q:Gr×Db×Int):Prop where
 d:DbV g db Ss
 p0:0<=parent
 p1:parent<Ss.length
 sS:Ss[parent.toNat]?=some S
 sx:db.insts[parent.toNat]?=some x
 hem:JQ S sc=some (em,0)
 fw:UF S sc x em=some (b,c,0)
 gr:q.1=⟨g.base,g.n++[⟨parent,sc⟩]⟩
 hdb:q.2.1=⟨db.insts++[b],db.comps++[c]⟩
 d':DbV ⟨g.base,g.n++[⟨parent,sc⟩]⟩ ⟨db.insts++[b],db.comps++[c]⟩ (Ss++[C])
def Zq9{g:Gr}(f:F6 g){a:Int}{c:List Stp}(b:∀x∈c,U7 x):F6 ⟨g.base,g.n++[⟨a,c⟩]⟩:=λe d=>by rcases Y3.1 d with h|h;exact f e h;rw[Yj.1 h];exact b
def Zqw{g}(M:F6 g)(F)(f:Int){n:List Stp}(r:∀x∈n,U7 x)(h8:n.length<=8):Wp (Zpj g F f n) λq=>(q.2.2≠0->q.2.1=⟨[],[]⟩)/\(q.2.2=0->∃l S C x b p c,EvE g F f n l S C x b p c q):=by
 have j:∀{e:Int},e≠0->Wp (Zpd e) λq=>(q.2.2≠0->q.2.1=⟨[],[]⟩)/\(q.2.2=0->∃l S C x b p c,EvE g F f n l S C x b p c q):=λh=>by
  unfold Zpd;exact X2 ⟨λ_=>rfl,λh0=>absurd h0 h⟩
 unfold Zpj;refine X0 (Z2l M F) λe _ he=>X1 (λh=>j (sU h)) λh=>?_;have⟨l,d⟩:=he (sU h);have T:=d.ver.len;have J:=d.li;have N:=d.lc;have h7:=d.ver.l7;refine X1 (λ_=>j dE) λ_=>X1 (λ_=>j dE) λz=>?_;have z:0<=f/\f<l.length:=by simp at z;omega
 refine X0 (Zqt M d.ver) λgc _ W=>X0 (Zq7 n X) λau _ V=>?_;rw[W,V];refine X4 X (X0 (Z0k _ (Zq9 M r)) λq aq hq=>X1 (λh=>j (sU h)) λh=>?_);have Q:q.2=0:=sU h;have t:=hq Q;have⟨C,R⟩:=Zrn d.ver t;have Y:Ar ⟨g.base,g.n++[⟨f,n⟩]⟩=some (l++[C],0):=by rw[aq,<-Q,<-R]
 rw[R] at t|-;refine X3 z.1 sO λS G hSm=>?_;rw[Yu X] at G;refine X0 (Zqx S n r) λp H _=>X1 (λh=>j (sU h)) λao=>X3 z.1 X λx O _=>X0 (J6 S n r x p.1) λu E _=>X1 (λh=>j (sU h)) λZ=>X3 (by simp<;>omega) (by simp<;>omega) λL B K=>?_;obtain rfl:L=C:=by rw[show(((l++[C]).length:Int)-1).toNat=l.length by simp<;>omega,YC (Y7 _),Y3f] at B;exact(Option.some.inj B).symm
 refine X0 (O8 (t.vs L K) u.1) λe2 ap D=>X1 (λh=>j (sU h)) λh2=>X4 ⟨d.ok,X,X⟩ (X2 ⟨λh=>absurd rfl h,λ_=>⟨l,S,L,x,u.1,p.1,u.2.1,?_⟩⟩);obtain rfl:e2=0:=sU h2;have H:JQ S n=some (p.1,0):=by rw[H,<-show p.2=0 from sU ao]
 have E:UF S n x p.1=some (u.1,u.2.1,0):=by rw[E,<-show u.2.2=0 from sU Z]
 have B:(l++[L])[l.length]?=some L:=I;refine⟨d,z.1,z.2,G,O,H,E,rfl,rfl,t,Y,by simp[J],by simp[N],λi U x' o m=>?_,λi e P a b' c' s A v w y=>?_⟩;simp only at m;rcases Yx i l.length with h9|h9;rw[Yu h9] at o;rw[Yu X] at m;exact d.inst i U x' o m
 have:=(Y0.1 o).1
 simp at this;obtain rfl:i=l.length:=X;rw[B] at o;rw[<-J] at m;simp at m;cases o;subst m;exact⟨ap,D rfl⟩;have hi:=(Y0.1 s).1;have ar:=t.n i e s;simp only[Ye,Y34] at hi s v w y;rw[Yu X] at A v;rcases Yx i g.n.length with h9|h9;rw[Yu h9] at s;rw[Yu X] at w y;exact d.edge i e P a b' c' s A v w y;obtain rfl:i=g.n.length:=X
 have am:=t.edge g.n.length ⟨f,n⟩ S L I (by rw[Yu (by simp only;omega)];exact G) (by rw[<-T];exact B);simp at s;subst s;simp only at A v;rw[G] at A;rw[O] at v;rw[<-T,<-J] at w;rw[<-N] at y;simp at w y;cases A;cases v;subst w y;exact Z58 (k:=false) r am (show EZ false S n x p.1=_ from E) (D rfl).1
def Zp2:∀(a:List Int) (i:Nat),(∀x∈a,x=0)->fe i a=none
 |[],_,_=>rfl
 |x::a,i,h=>by
   unfold fe;rw[h x (by simp)];simp only[bne_self_eq_false,cond_false];exact Zp2 a (i+1) λy b=>h y (by simp[b])
def Zdz:Wp (Z1 UC λv=>some v) λr=>r=true:=X0 (Wb NY) λ_ _ a=>X2 a
instance Zsr(g_:Gr)(db:Db)(parent:Int)(sc:List Stp):Con (Zpj g_ db parent sc) prog 6 [.agg g_.z,.agg db.z,.one (.d (.int .i64 parent)),.one (.d (.sl (sc.map Stp.z)))] (λr=>.tup [.agg (r.1.z.map RC.d),.agg (r.2.1.z.map RC.d),.one (.d (.int .i64 r.2.2))]):=⟨λr hm=>Zqs g_ db parent sc r hm⟩
def Zpq(g_:Gr)(db:Db)(parent:Int)(sc:List Stp)(v_:Int)(changes:List Chg):Option Bool:=
 Z1 (UC) λv3=>bif !v3 then Z1 (UC) λv5=>(some v5) else Z1 (Dd g_ db changes) λv6=>bif !v6 then Z1 (UC) λv8=>(some v8) else bif decide (8<(sc.length:Int)) then Z1 (UC) λv11=>(some v11) else Z1 (Zpj g_ db parent sc) λv12=>Z1 (Bv g_ db v_ changes) λv15=>bif (v12.2.2 !=0) then some true else bif (v15.2.2 !=0) then some true else Z1 (Bv v12.1 v12.2.1 v_ changes) λv19=>bif (v19.2.2 !=0) then some (v19.2.1==(db.insts.length:Int)) else bif decide (db.insts.length<v19.1.insts.length) then Zp (0<=0/\0<=(db.insts.length:Int)/\(db.insts.length:Int)<=(v19.1.insts.length:Int)) (Z1 (Fy ((v19.1.insts.take db.insts.length).drop 0) v15.1.insts) λv28=>some v28) else some false
instance Zqq(g_:Gr)(db:Db)(parent:Int)(sc:List Stp)(v_:Int)(changes:List Chg):Con (Zpq g_ db parent sc v_ changes) prog 3 [.agg g_.z,.agg db.z,.one (.d (.int .i64 parent)),.one (.d (.sl (sc.map Stp.z))),.one (.d (.int .i64 v_)),.one (.d (.sl (changes.map Chg.z)))] (λr=>.one (.d (.bool r))):=by unfold Zpq;have p1:PH [10] (Y.qB [0,1,2,3,4,5,6,7,8,9,10,11,12,13,14,15,16,17,18] .done):=.intro;exact go 95 func3
inductive Dn(g:Gr)(i:Nat):Nat->Prop
 |self:Dn g i (i+1)
 |step {j:Nat} {e:Edg}:g.n[j]?=some e->Dn g i e.m.toNat->Dn g i (j+1)
def Dn.gt{g}(a:Zct g){i w}(h:Dn g i w):i+1<=w:=by
 induction h with
 |self=>exact Y7 _
 |step he _ ih=>?_
 have:=a _ _ he
 omega
def Dn.iff{g}{i j:Nat}{e}(a:g.n[j]?=some e)(b:j≠i):Dn g i (j+1)↔Dn g i e.m.toNat:=by
 refine⟨λh=>?_,.step a⟩;cases h with
 |self=>exact absurd rfl b
 |step h1 h2=>?_
 rw[a] at h1;cases h1;exact h2
def Dn.grow{g:Gr}{x:Edg}(a:Zct g){i w:Nat}(hw:w<=g.n.length):Dn ⟨g.base,g.n++[x]⟩ i w↔Dn g i w:=by
 constructor<;>intro h<;>induction h with
 |self=>exact .self
 |step he _ ih=>
   try simp only at he
   first
   | (rw[Yu X] at he
      have:=a _ _ he
      exact .step he (ih X))
   | (have:=a _ _ he
      exact .step (by simp only;rw[Yu X];exact he) (ih X))
def TF.back{g}{v:Int}{H}(o:Zct g)(f:TF g v H){h}(p:h∈H):h.back=true↔Dn g h.edge.toNat v.toNat:=by
 obtain⟨k,j,rfl⟩:=Yo p;have m:∀t,t<=k->∀u∈qs g v H t,(Dn g H[k].edge.toNat u.toNat↔Dn g H[k].edge.toNat v.toNat):=λt=>by
  induction t with|zero=>?_|succ t ih=>?_
  intro _ u c
  have:u=v:=by unfold qs at c;simpa using c
  rw[this];intro ht u c;have e:H[t]?=some H[t]:=Y1 X;rw[LW e] at c;rcases Y3.1 c with h9|h9;exact ih X u h9;rw[Yj.1 h9];have q:=f.ti.edge _ (Yh (X:t<H.length));have aa:=f.ti.edge _ (Yh j);have a:=Y1 (l:=g.n) (i:=H[t].edge.toNat) X;have b:H[t].edge.toNat≠H[k].edge.toNat:=λh8=>by refine YK.1 f.ti.dist t k sO (by simpa using j) X ?_;rw[Y3h,Y3h];omega
  have n:=ih X _ (f.ti.near t _ e);rw[<-n,F1 a,IF a];have d:(H[t].edge+1).toNat=H[t].edge.toNat+1:=X
  cases H[t].back;simp only[cond_false,d];exact Dn.iff a b;simp only[cond_true,d];exact(Dn.iff a b).symm
 have e:H[k]?=some H[k]:=Y1 j;have n:=m k (Y7 _) _ (f.ti.near k _ e);have q:=f.ti.edge _ (Yh j);have a:=Y1 (l:=g.n) (i:=H[k].edge.toNat) X;have d:(H[k].edge+1).toNat=H[k].edge.toNat+1:=X
 have hp:=o _ _ a;rw[<-n,IF a];cases hb:H[k].back;rw[cond_false];exact⟨nofun,λh=>by have:=h.gt o;omega⟩;rw[cond_true,d];exact⟨λ_=>.self,λ_=>rfl⟩
structure PHw(g:Gr)(v:Int)(H:List Hop)(s0:PSt)(n:Nat)(comps:List (List (List J)))(t:Nat)(s:PSt):Prop where
 reached:∀u∈qs g v H t,s.reached[u.toNat]?=some true
 errs:∀w:Nat,w<n->s.errs[w]?=some 0
 inst:∀u∈qs g v H t,u.toNat<n->s.insts[u.toNat]?=s0.insts[u.toNat]?
 kept:∀i:Nat,(∀h∈H.take t,h.edge≠i)->s.comps[i]?=comps[i]?
def Zro{g E}{v:Int}{cs out o S x y H F}(w:WrE g E v cs out o S x y H F){e:Edg}{b c C}(hx:F6 ⟨g.base,g.n++[e]⟩)(d:DbV ⟨g.base,g.n++[e]⟩ ⟨E.insts++[b],E.comps++[c]⟩ (o++[C])):
  Wp (FM ⟨g.base,g.n++[e]⟩ (o++[C]) ((E.insts++[b]).set v.toNat y) (E.comps++[c]) v) λs=>PrL ⟨g.base,g.n++[e]⟩ (o++[C]) s/\∀u<o.length,s.errs[u]?=some 0/\s.reached[u]?=some true/\s.insts[u]?=F.insts[u]?:=by
 have hl:=w.d.ver.len;have ba:=w.d.li;have a7:=w.d.lc;have h0:=w.v0;have h1:=w.v1;have h7:=d.ver.l7;have L:(g.n++[e]).length=g.n.length+1:=I
 have sl:(o++[C]).length=o.length+1:=I;simp only[L] at h7;unfold FM;refine X4 ⟨h0,X⟩ (X0 (Z38 d.ver d.sch h0 X) λT _ f=>?_);have⟨D,e0⟩:=T;have f:=f;have v0:∀u∈qs ⟨g.base,g.n++[e]⟩ v D 0,u=v:=λu l=>by unfold qs at l;simpa using l
 refine X6 (λt s=>PrL ⟨g.base,g.n++[e]⟩ (o++[C]) s/\PHw ⟨g.base,g.n++[e]⟩ v D F o.length (E.comps++[c]) t s) ⟨⟨by simp[ba],by simp[a7],I,I⟩,λu l=>?_,λu l=>?_,λu l _=>?_,λi _=>rfl⟩ ?_ λs Y=>X2 ⟨Y.1,λu l=>?_⟩;rw[v0 u l];simp only;rw[Yr (by rw[Xi];omega)];simp only;rw[List.getElem?_replicate,if_pos X];rw[v0 u l];simp only;rw[w.p.v,Yr sO,Yr X]
 .intro t k s next n A Y hn
  have⟨p,G⟩:=Y;have pi:=p.i;have pc:=p.c;have pe:=p.e;have pr:=p.r;have O:=f.ti.edge k A;refine X3 O.1 O.2 λU W ay=>X4 (by simp only[Wm];simp only[L] at O;omega) ?_;have hp:=d.ver.n _ U W;have ap:=f.far n;have R:=f.ti.near t k n;have al:=LW (g:=⟨g.base,g.n++[e]⟩) (v:=v) n;have ag:=f.ti.rng (WO ⟨g.base,g.n++[e]⟩ k) (Yc _ (Yi.2 ⟨k,A,rfl⟩));have K:=f.ti.rng _ (XE R);have ak:=f.back d.ver.n A;have hF:=F1 (h:=k) W;have V:=IF (h:=k) W;rw[<-hF,<-V];simp only[L] at O ag K pc;have Q:=(Y0.1 n).1;have ax:D.take (t+1)=D.take t++[k]:=by rw[Yg Q,(Y0.1 n).2]
  have ah:(Fc ⟨g.base,g.n++[e]⟩ k).toNat<o.length:=by
   rw[V];cases N:k.back;simp only[cond_false];omega
   have:=(ak.1 N).gt d.ver.n
   simp only[cond_true];omega
  generalize WO ⟨g.base,g.n++[e]⟩ k=fr at ap al ag hF|-;generalize Fc ⟨g.base,g.n++[e]⟩ k=nr at R K V ah|-;unfold H3;refine X3 K.1 X λrn aq _=>?_;have ae:=G.reached _ R;rw[aq] at ae;cases ae;refine X9 rfl<|X3 K.1 X λen a1 _=>?_;have af:=G.errs _ ah;rw[a1] at af;cases af;refine X9 rfl<|X4 ⟨ag.1,X,X⟩<|X3 hp.1 X λP hP _=>X3 K.1 X λa ha _=>X3 O.1 X λc0 hc0 _=>X0 (Zas (hx U ay) a c0) λr hr _=>?_;have keep:∀(is:List (List J)) (Z:List (List (List J))) (z:Int),is.length=s.insts.length->Z.length=s.comps.length->(∀j,j≠fr.toNat->is[j]?=s.insts[j]?)->(fr.toNat<o.length->z=0/\is[fr.toNat]?=F.insts[fr.toNat]?)->(∀j,j≠k.edge.toNat->Z[j]?=s.comps[j]?)->Wp (next ⟨is,Z,s.errs.set fr.toNat z,s.reached.set fr.toNat true⟩) _:=λis Z z l1 l2 k1 k2 k3=>hn _ ⟨⟨by simp only;omega,by simp only[L];omega,by simp[pe],by simp[pr]⟩,λu l=>?_,λu l=>?_,λu l az=>?_,λi am=>?_⟩;rcases Yx k.edge.toNat g.n.length with h9|h9;have bb:g.n[k.edge.toNat]?=some U:=by rw[<-W];simp only;rw[Yu h9]
  have⟨h,a8,bc⟩:=w.f.n h9;have aj:h.edge.toNat=k.edge.toNat:=X
  have N:h.back=k.back:=Bool.eq_iff_iff.2 ((w.f.back w.d.ver.n a8).trans (by rw[aj,<-Dn.grow (x:=e) w.d.ver.n X];exact ak.symm));have⟨a',b',c',c9,g1,g2,g3,g4,g5⟩:=w.p.done h (by rwa [Yl]) U P (by rwa [aj]) (by rw[<-hP,Yu X]);have hk:=G.kept k.edge.toNat λh' au M=>by obtain⟨m,hm2,rfl⟩:=Yo au;simp only[YA] at hm2;rw[XX] at M;refine YK.1 f.ti.dist m t sO (by simpa using Q) X ?_;rw[Y3h,Y3h,(Y0.1 n).2];exact M.trans X
  rw[hc0,Yu X,<-aj,g4] at hk;cases hk;rw[N] at g5;have ao:F.insts[nr.toNat]?=some (bif k.back then b' else a'):=by rw[V];cases k.back;exact g1;rw[cond_true,cond_true,show(k.edge+1).toNat=h.edge.toNat+1 by omega];exact g2
  have aw:F.insts[fr.toNat]?=some (bif k.back then a' else b'):=by rw[hF];cases k.back;rw[cond_false,cond_false,show(k.edge+1).toNat=h.edge.toNat+1 by omega];exact g2;exact g1
  rw[<-G.inst _ R ah,ha] at ao;cases ao;rw[g5] at hr;cases hr;exact X1 (λ_=>X4 X (keep _ _ _ I I (λj B=>Ys (Ne.symm B)) (λ_=>⟨rfl,by rw[Yr X,aw]⟩) λj B=>Ys (Ne.symm B))) nofun;have ar:k.back=false:=by
   cases N:k.back;rfl
   have:=(ak.1 N).gt d.ver.n
   omega
  rw[ar,cond_false] at hF;exact X1 (λ_=>X4 X (keep _ _ _ I I (λj B=>Ys (Ne.symm B)) (λM=>X) λj B=>Ys (Ne.symm B))) λ_=>keep _ _ _ rfl rfl (λ_ _=>rfl) (λM=>X) λ_ _=>rfl;rw[al] at l;simp only;by_cases q:fr.toNat=u.toNat;rw[<-q,Yr X];rw[Ys q];rcases Y3.1 l with h9|h9;exact G.reached u h9;exact absurd (by rw[Yj.1 h9]) q;simp only;by_cases q:fr.toNat=u;rw[<-q,Yr X,(k2 X).1];rw[Ys q];exact G.errs u l;rw[al] at l;simp only;by_cases q:fr.toNat=u.toNat;rw[<-q];exact(k2 X).2;rw[k1 _ (Ne.symm q)];rcases Y3.1 l with h9|h9;exact G.inst u h9 az;exact absurd (by rw[Yj.1 h9]) q;rw[ax] at am;simp only;rw[k3 i λM=>am k I X];exact G.kept i λh A=>am h (YV _ A)
 have A:(u:Int)∈qs ⟨g.base,g.n++[e]⟩ v D D.length:=by
  have:=f.all u (by simp only[L];omega)
  unfold qs
  rwa [YD I]
 have G:=Y.2;exact⟨G.errs u l,by simpa using G.reached _ A,by simpa using G.inst _ A (by simpa using l)⟩
def Zr3{g l}{v:Int}{N K a S x y H T}(w:WrE g l v N K a S x y H T){e:Edg}{b c C}(hx:F6 ⟨g.base,g.n++[e]⟩)(d:DbV ⟨g.base,g.n++[e]⟩ ⟨l.insts++[b],l.comps++[c]⟩ (a++[C])):
  Wp (Di ⟨g.base,g.n++[e]⟩ ⟨l.insts++[b],l.comps++[c]⟩ v N) λq=>q.2.2=0/\q.2.1.length=a.length+1/\(∀u<a.length,q.2.1[u]?=some 0)/\((∀e∈q.2.1,e=0)->∃z,q.1.insts=T.insts++[z]):=by
 have V:=w.d.li;have P:=w.v0;have h1:=w.v1;have U:=w.l.i;have sl:(a++[C]).length=a.length+1:=I
 have il:(l.insts++[b]).length=a.length+1:=by simp[V]
 unfold Di;refine Xb (Z3d d) ?_;refine X9 rfl<|X9 sO<|Xb d.sch ?_;refine X3 P (by simp only;omega) λS9 k _=>X3 P (by simp only;omega) λx9 A _=>?_;simp only at k A;rw[Yu X,w.sS] at k;rw[Yu X,w.sx] at A;cases k;cases A;refine Xb w.sy ?_;refine X9 rfl<|X4 d.ok<|X0 (Zro w hx d) λs _ ⟨p,F⟩=>?_;have pi:=p.i;have pe:=p.e;have pr:=p.r;refine X6 (λi t=>t.1.length=a.length+1/\(∀u<a.length,t.1[u]?=some 0)/\(t.2=true->∃(j:Nat) (e:Int),j<i/\t.1[j]?=some e/\e≠0)) ⟨by simp only;omega,λu o=>(F u o).1,I⟩ ?_ λt G=>?_
 .intro i S2 t next h Z G R
  have hi:i<(a++[C]).length:=(Y0.1 h).1;have⟨t1,t2,t3⟩:=G;refine X3 X X λru ah _=>X3 X X λO B _=>?_;have B:t.1[i]?=some O:=sU B;refine X1 (λY=>X3 X X λJ r _=>X0 (O8 (d.ver.vs S2 Z) J) λW M _=>R _ ⟨by simp[t1],λu o=>?_,λn=>?_⟩) λY=>R _ ⟨t1,t2,λn=>?_⟩;simp only[Yn];by_cases hq:i=u;subst hq;rw[Yr X];have r:s.insts[i]?=some J:=sU r;simp only at h;rw[Yu o] at h;rw[(F i o).2.2] at r;rw[(w.ok i S2 J h r).1] at M;cases M;rfl;rw[Ys hq];exact t2 u o;cases h2:t.2 with|true=>?_|false=>?_;have⟨j,D,E,L,f⟩:=t3 h2;exact⟨j,D,X,by simp;rwa [Ys X],f⟩;simp only[h2] at n;exact⟨i,W,X,by simp only[Yn];rw[Yr X],sU n⟩;cases h2:t.2 with|true=>?_|false=>?_;have⟨j,D,E,L,f⟩:=t3 h2;exact⟨j,D,X,L,f⟩;simp only[h2] at n;exact⟨i,O,X,B,sU n⟩
 have⟨t1,t2,t3⟩:=G;refine X1 (λQ=>X2 ⟨rfl,t1,t2,λm=>?_⟩) λQ=>X2 ⟨rfl,t1,t2,λ_=>?_⟩;have⟨j,e,_,E,f⟩:=t3 Q;exact absurd (m e (Y2 E)) f;refine⟨s.insts[a.length]'X,YU λi=>?_⟩;simp only;rcases Y01 i a.length with h9|h9|h9;rw[Yu X];exact(F i h9).2.2;subst h9;rw[YC X,U,Y3f,Y1 X];rfl;rw[Yq X,Yq sO]
def Zsi(g k)(d:Int)(F)(v:Int)(u)(E:F6 g)(N:k.comps.flatten.length+k.insts.length<=2097152)(m:∀x∈F,U7 x):Zpq g k d F v u=some true:=by
 refine Ww ?_;unfold Zpq;refine Xb NY ?_;refine X9 rfl<|X0 (Z3y g k u N) λb _ _=>X1 (λ_=>Zdz) λ_=>X1 (λ_=>Zdz) λA=>?_;have A:F.length<=8:=by simp at A;omega
 refine X0 (Zqw E k d m A) λq _ ⟨_,P⟩=>X0 (Z89 E k v u) λo _ T=>X1 (λ_=>X2 rfl) λR=>X1 (λ_=>X2 rfl) λD=>?_;have⟨K,S,C,x,b,em,c,n⟩:=P (sU R);have⟨a,S2,x2,y,H,s,w⟩:=T (sU D);obtain rfl:a=K:=by
  have:=n.d.sch
  rw[w.d.sch] at this;cases this;rfl
 have G:=w.d.li;have L:=w.l.i;rw[n.gr,n.hdb,w.out];have⟨p,Q,U,p2,J,V⟩:=Zr3 w (Zq9 E m) n.d';have l:=Z87 Q;rw[show(p.2.2 !=0)=false by rw[U];rfl,cond_false] at l;have O:p.2.1[a.length]?=some (p.2.1[a.length]'X):=Y1 X;by_cases hz:p.2.1[a.length]'X=0;have f:∀e∈p.2.1,e=0:=λe M=>by
  obtain⟨j,B,rfl⟩:=Yo M;by_cases h9:j<a.length
  have:=J j h9
  rw[Y1 B] at this;exact Option.some.inj this;obtain rfl:j=a.length:=X;exact hz
 rw[Zp2 p.2.1 0 f] at l;have⟨z,t⟩:=V f;refine Xb l (X9 rfl (X1 (λ_=>X4 ?_ ?_) λh=>?_));simp only[t];simp;omega;simp only[t,G,<-L,Y3e,XU];exact X0 (Zo4 _) λr _ D=>X2 D;simp only[t] at h;simp at h;omega;rw[Zqk (i:=a.length) (λj y B I=>by rw[J j B] at I;cases I;rfl) O hz] at l;refine Xb l (X1 (λ_=>X2 ?_) λh=>?_);simp[G];simp at h;exact absurd h hz
def Zc1{P:Program}{B n:Nat}{t:TypeId}{a:List D}(c:P.underlying t=some (.int .i64))(h:ZY P B n t a):∃v:Int,a=Zg v:=by
 cases n with
 |zero=>cases h
 |succ n=>simp only[ZY,c] at h;obtain⟨v,b,_⟩:=h;exact⟨v,b⟩
def Z9i{P:Program}{B n:Nat}{t:TypeId}{a:List D}(b:P.underlying t=some .bool)(h:ZY P B n t a):∃v:Bool,a=Jw v:=by
 cases n with
 |zero=>cases h
 |succ n=>simp only[ZY,b] at h;exact h
def Z55{P:Program}{B n:Nat}{t:TypeId}{a:List D}(b:P.underlying t=some .string)(h:ZY P B n t a):∃v:ByteArray,a=Hf v:=by
 cases n with
 |zero=>cases h
 |succ n=>simp only[ZY,b] at h;exact h
def Ac{P:Program}{B n:Nat}{t e:TypeId}{b:List D}(g:P.underlying t=some (.slice e))(h:ZY P B n t b):∃m a,b=[.sl a]/\a.length<=B/\∀x∈a,ZY P B m e x:=by
 cases n with
 |zero=>cases h
 |succ n=>simp only[ZY,g] at h;obtain⟨a,c,d,f⟩:=h;exact⟨n,a,c,d,f⟩
def Av{P:Program}{B n:Nat}{t:TypeId}{b:Array Field}{a:List D}(c:P.underlying t=some (.struct b))(h:ZY P B n t a):∃m,Jp (ZY P B m) b.toList a:=by
 cases n with
 |zero=>cases h
 |succ n=>simp only[ZY,c] at h;exact⟨n,h⟩
def UM{α:Type}{enc:α->List D}{S:α->Prop}:∀{b:List (List D)},(∀x∈b,∃v,x=enc v/\S v)->∃a:List α,b=a.map enc/\a.length=b.length/\∀v∈a,S v
 |[],_=>⟨[],rfl,rfl,by simp⟩
 |x::b,h=>by
   obtain⟨v,c,d⟩:=h x I;obtain⟨a,e,f,g⟩:=UM λy i=>h y (Yc _ i);exact⟨v::a,by simp[c,<-e],by simp[f],by simpa using⟨d,g⟩⟩
def Bg{B n:Nat}{a:List D}(h:ZY prog B n 3 a):∃v:Int,a=Zg v/\True:=by obtain⟨v,b⟩:=Zc1 Tryz.underlying3 h;exact⟨v,b,trivial⟩
def UU{B n:Nat}{a:List D}(h:ZY prog B n 9 a):∃v:ByteArray,a=Hf v/\True:=by obtain⟨v,b⟩:=Z55 Tryz.underlying9 h;exact⟨v,b,trivial⟩
def Zpo(B:Nat)(x:GV):Prop:=True/\True/\True
def Zpz{B n:Nat}{b:List D}(h:ZY prog B n 92 b):∃v:GV,b=v.z/\Zpo B v:=by obtain⟨m,a⟩:=Av Tryz.underlying92 h;obtain⟨a0,r0,f,t0,a⟩:=a;obtain⟨l,q,c⟩:=Bg t0;obtain⟨a1,r1,g,t1,a⟩:=a;obtain⟨o,r,d⟩:=Bg t1;obtain⟨a2,k,i,t2,a⟩:=a;obtain⟨p,s,e⟩:=UU t2;have j:k=[]:=a;subst q r s;refine⟨⟨l,o,p⟩,?_,c,d,e⟩;rw[f,g,i,j];rfl
def Zf9{B n:Nat}{a:List D}(h:ZY prog B n 4 a):∃v:Bool,a=Jw v/\True:=by obtain⟨v,b⟩:=Z9i Tryz.underlying4 h;exact⟨v,b,trivial⟩
def Zq3(B:Nat)(x:Col):Prop:=True/\True/\True
def Zsl{B n:Nat}{b:List D}(h:ZY prog B n 86 b):∃v:Col,b=v.z/\Zq3 B v:=by obtain⟨m,a⟩:=Av Tryz.underlying86 h;obtain⟨a0,r0,f,t0,a⟩:=a;obtain⟨l,q,c⟩:=UU t0;obtain⟨a1,r1,g,t1,a⟩:=a;obtain⟨o,r,d⟩:=Bg t1;obtain⟨a2,k,i,t2,a⟩:=a;obtain⟨p,s,e⟩:=Zf9 t2;have j:k=[]:=a;subst q r s;refine⟨⟨l,o,p⟩,?_,c,d,e⟩;rw[f,g,i,j];rfl
def Zqo(B:Nat)(a:List Col):Prop:=a.length<=B/\∀x∈a,Zq3 B x
def Zsk{B n:Nat}{a:List D}(h:ZY prog B n 87 a):∃v:List Col,a=[.sl (v.map Col.z)]/\Zqo B v:=by
 obtain⟨m,xs,rfl,d,e⟩:=Ac Tryz.underlying87 h;obtain⟨f,rfl,h1,c⟩:=UM (enc:=Col.z) (S:=λx=>Zq3 B x) λx b=>Zsl (e x b);exact⟨f,rfl,by simpa using d,c⟩
def Zpu(B:Nat)(a:List Int):Prop:=a.length<=B/\∀x∈a,True
def Zq0{B n:Nat}{a:List D}(h:ZY prog B n 88 a):∃v:List Int,a=[.sl (v.map Zg)]/\Zpu B v:=by
 obtain⟨m,xs,rfl,d,e⟩:=Ac Tryz.underlying88 h;obtain⟨f,rfl,h1,c⟩:=UM (enc:=Zg) (S:=λx=>True) λx b=>Bg (e x b);exact⟨f,rfl,by simpa using d,c⟩
def Zpt(B:Nat)(x:E):Prop:=True/\Zqo B x.j/\Zpu B x.pk
def Zqm{B n:Nat}{b:List D}(h:ZY prog B n 90 b):∃v:E,b=v.z/\Zpt B v:=by obtain⟨m,a⟩:=Av Tryz.underlying90 h;obtain⟨a0,r0,f,t0,a⟩:=a;obtain⟨l,q,c⟩:=UU t0;obtain⟨a1,r1,g,t1,a⟩:=a;obtain⟨o,r,d⟩:=Zsk t1;obtain⟨a2,k,i,t2,a⟩:=a;obtain⟨p,s,e⟩:=Zq0 t2;have j:k=[]:=a;subst q r s;refine⟨⟨l,o,p⟩,?_,c,d,e⟩;rw[f,g,i,j];rfl
def MO(B:Nat)(x:Fk):Prop:=True/\Zpu B x.j/\True
def Zel{B n:Nat}{b:List D}(h:ZY prog B n 97 b):∃v:Fk,b=v.z/\MO B v:=by obtain⟨m,a⟩:=Av Tryz.underlying97 h;obtain⟨a0,r0,f,t0,a⟩:=a;obtain⟨l,q,c⟩:=UU t0;obtain⟨a1,r1,g,t1,a⟩:=a;obtain⟨o,r,d⟩:=Zq0 t1;obtain⟨a2,k,i,t2,a⟩:=a;obtain⟨p,s,e⟩:=UU t2;have j:k=[]:=a;subst q r s;refine⟨⟨l,o,p⟩,?_,c,d,e⟩;rw[f,g,i,j];rfl
def Zps(B:Nat)(x:Cons):Prop:=True/\True/\True/\True/\Zpo B x.value
def Zql{B n:Nat}{b:List D}(h:ZY prog B n 95 b):∃v:Cons,b=v.z/\Zps B v:=by obtain⟨m,a⟩:=Av Tryz.underlying95 h;obtain⟨a0,r0,i,t0,a⟩:=a;obtain⟨r,x,c⟩:=UU t0;obtain⟨a1,r1,j,t1,a⟩:=a;obtain⟨s,y,d⟩:=Bg t1;obtain⟨a2,r2,k,t2,a⟩:=a;obtain⟨t,z,e⟩:=UU t2;obtain⟨a3,r3,l,t3,a⟩:=a;obtain⟨u,A,f⟩:=Bg t3;obtain⟨a4,q,o,t4,a⟩:=a;obtain⟨w,C,g⟩:=Zpz t4;have p:q=[]:=a;subst x y z A C;refine⟨⟨r,s,t,u,w⟩,?_,c,d,e,f,g⟩;rw[i,j,k,l,o,p];rfl
def SC(B:Nat)(a:List E):Prop:=a.length<=B/\∀x∈a,Zpt B x
def Zez{B n:Nat}{a:List D}(h:ZY prog B n 22 a):∃v:List E,a=[.sl (v.map E.z)]/\SC B v:=by
 obtain⟨m,xs,rfl,d,e⟩:=Ac Tryz.underlying22 h;obtain⟨f,rfl,h1,c⟩:=UM (enc:=E.z) (S:=λx=>Zpt B x) λx b=>Zqm (e x b);exact⟨f,rfl,by simpa using d,c⟩
def SA(B:Nat)(a:List Fk):Prop:=a.length<=B/\∀x∈a,MO B x
def Zey{B n:Nat}{a:List D}(h:ZY prog B n 23 a):∃v:List Fk,a=[.sl (v.map Fk.z)]/\SA B v:=by
 obtain⟨m,xs,rfl,d,e⟩:=Ac Tryz.underlying23 h;obtain⟨f,rfl,h1,c⟩:=UM (enc:=Fk.z) (S:=λx=>MO B x) λx b=>Zel (e x b);exact⟨f,rfl,by simpa using d,c⟩
def Sz(B:Nat)(a:List Cons):Prop:=a.length<=B/\∀x∈a,Zps B x
def Zex{B n:Nat}{a:List D}(h:ZY prog B n 24 a):∃v:List Cons,a=[.sl (v.map Cons.z)]/\Sz B v:=by
 obtain⟨m,xs,rfl,d,e⟩:=Ac Tryz.underlying24 h;obtain⟨f,rfl,h1,c⟩:=UM (enc:=Cons.z) (S:=λx=>Zps B x) λx b=>Zql (e x b);exact⟨f,rfl,by simpa using d,c⟩
def Sy(B:Nat)(x:Sch):Prop:=SC B x.q/\SA B x.b/\Sz B x.cons
def Zew{B n:Nat}{b:List D}(h:ZY prog B n 26 b):∃v:Sch,b=v.z/\Sy B v:=by obtain⟨m,a⟩:=Av Tryz.underlying26 h;obtain⟨a0,r0,f,t0,a⟩:=a;obtain⟨l,q,c⟩:=Zez t0;obtain⟨a1,r1,g,t1,a⟩:=a;obtain⟨o,r,d⟩:=Zey t1;obtain⟨a2,k,i,t2,a⟩:=a;obtain⟨p,s,e⟩:=Zex t2;have j:k=[]:=a;subst q r s;refine⟨⟨l,o,p⟩,?_,c,d,e⟩;rw[f,g,i,j];rfl
def Zq2(B:Nat)(x:Stp):Prop:=True/\True/\True/\True/\True/\True/\Zpu B x.j/\True/\Zpo B x.value/\Zpt B x.v/\Zps B x.cons/\MO B x.fk
def Zsj{B n:Nat}{b:List D}(h:ZY prog B n 99 b):∃v:Stp,b=v.z/\Zq2 B v:=by obtain⟨m,a⟩:=Av Tryz.underlying99 h;obtain⟨a0,r0,A,t0,a⟩:=a;obtain⟨M,W,p⟩:=Bg t0;obtain⟨a1,r1,C,t1,a⟩:=a;obtain⟨N,X,q⟩:=UU t1;obtain⟨a2,r2,E,t2,a⟩:=a;obtain⟨O,Y,r⟩:=UU t2;obtain⟨a3,r3,F,t3,a⟩:=a;obtain⟨P,Z,s⟩:=UU t3;obtain⟨a4,r4,G,t4,a⟩:=a;obtain⟨Q,w4,t⟩:=UU t4;obtain⟨a5,r5,H,t5,a⟩:=a;obtain⟨R,w5,u⟩:=Bg t5;obtain⟨a6,r6,I,t6,a⟩:=a;obtain⟨S,w6,w⟩:=Zq0 t6;obtain⟨a7,r7,J,t7,a⟩:=a;obtain⟨T,w7,x⟩:=UU t7;obtain⟨a8,r8,K,t8,a⟩:=a;obtain⟨U,w8,y⟩:=Zpz t8;obtain⟨a9,r9,L,t9,a⟩:=a;obtain⟨V,w9,z⟩:=Zqm t9;obtain⟨ao,am,k,t10,a⟩:=a;obtain⟨d,j,i⟩:=Zql t10;obtain⟨al,o,c,t11,a⟩:=a;obtain⟨f,e,g⟩:=Zel t11;have l:o=[]:=a;subst W X Y Z w4 w5 w6 w7 w8 w9 j e;refine⟨⟨M,N,O,P,Q,R,S,T,U,V,d,f⟩,?_,p,q,r,s,t,u,w,x,y,z,i,g⟩;rw[A,C,E,F,G,H,I,J,K,L,k,c,l];rfl
def Zq6(B:Nat)(a:List Stp):Prop:=a.length<=B/\∀x∈a,Zq2 B x
def Zqn{B n:Nat}{a:List D}(h:ZY prog B n 35 a):∃v:List Stp,a=[.sl (v.map Stp.z)]/\Zq6 B v:=by
 obtain⟨m,xs,rfl,d,e⟩:=Ac Tryz.underlying35 h;obtain⟨f,rfl,h1,c⟩:=UM (enc:=Stp.z) (S:=λx=>Zq2 B x) λx b=>Zsj (e x b);exact⟨f,rfl,by simpa using d,c⟩
def Su(B:Nat)(x:Edg):Prop:=True/\Zq6 B x.script
def Zeo{B n:Nat}{b:List D}(h:ZY prog B n 71 b):∃v:Edg,b=v.z/\Su B v:=by obtain⟨m,a⟩:=Av Tryz.underlying71 h;obtain⟨a0,r0,e,t0,a⟩:=a;obtain⟨j,l,c⟩:=Bg t0;obtain⟨a1,i,f,t1,a⟩:=a;obtain⟨k,o,d⟩:=Zqn t1;have g:i=[]:=a;subst l o;refine⟨⟨j,k⟩,?_,c,d⟩;rw[e,f,g];rfl
def Sx(B:Nat)(a:List Edg):Prop:=a.length<=B/\∀x∈a,Su B x
def Zev{B n:Nat}{a:List D}(h:ZY prog B n 27 a):∃v:List Edg,a=[.sl (v.map Edg.z)]/\Sx B v:=by
 obtain⟨m,xs,rfl,d,e⟩:=Ac Tryz.underlying27 h;obtain⟨f,rfl,h1,c⟩:=UM (enc:=Edg.z) (S:=λx=>Su B x) λx b=>Zeo (e x b);exact⟨f,rfl,by simpa using d,c⟩
def Sw(B:Nat)(x:Gr):Prop:=Sy B x.base/\Sx B x.n
def Zeu{B n:Nat}{b:List D}(h:ZY prog B n 29 b):∃v:Gr,b=v.z/\Sw B v:=by obtain⟨m,a⟩:=Av Tryz.underlying29 h;obtain⟨a0,r0,e,t0,a⟩:=a;obtain⟨j,l,c⟩:=Zew t0;obtain⟨a1,i,f,t1,a⟩:=a;obtain⟨k,o,d⟩:=Zev t1;have g:i=[]:=a;subst l o;refine⟨⟨j,k⟩,?_,c,d⟩;rw[e,f,g];rfl
def Zpp(B:Nat)(a:List GV):Prop:=a.length<=B/\∀x∈a,Zpo B x
def Zq1{B n:Nat}{a:List D}(h:ZY prog B n 50 a):∃v:List GV,a=[.sl (v.map GV.z)]/\Zpp B v:=by
 obtain⟨m,xs,rfl,d,e⟩:=Ac Tryz.underlying50 h;obtain⟨f,rfl,h1,c⟩:=UM (enc:=GV.z) (S:=λx=>Zpo B x) λx b=>Zpz (e x b);exact⟨f,rfl,by simpa using d,c⟩
def Zqp(B:Nat)(a:List (List GV)):Prop:=a.length<=B/\∀x∈a,Zpp B x
def Zsn{B n:Nat}{a:List D}(h:ZY prog B n 59 a):∃v:List (List GV),a=[.sl (v.map (Z7 GV.z))]/\Zqp B v:=by
 obtain⟨m,xs,rfl,d,e⟩:=Ac Tryz.underlying59 h;obtain⟨f,rfl,h1,c⟩:=UM (enc:=(Z7 GV.z)) (S:=λx=>Zpp B x) λx b=>Zq1 (e x b);exact⟨f,rfl,by simpa using d,c⟩
def Zq4(B:Nat)(x:J):Prop:=True/\Zqp B x.rows
def Zsm{B n:Nat}{b:List D}(h:ZY prog B n 61 b):∃v:J,b=v.z/\Zq4 B v:=by obtain⟨m,a⟩:=Av Tryz.underlying61 h;obtain⟨a0,r0,e,t0,a⟩:=a;obtain⟨j,l,c⟩:=UU t0;obtain⟨a1,i,f,t1,a⟩:=a;obtain⟨k,o,d⟩:=Zsn t1;have g:i=[]:=a;subst l o;refine⟨⟨j,k⟩,?_,c,d⟩;rw[e,f,g];rfl
def Hg(B:Nat)(x:Chg):Prop:=True/\True/\Zpp B x.key/\Zpp B x.row
def MG{B n:Nat}{b:List D}(h:ZY prog B n 52 b):∃v:Chg,b=v.z/\Hg B v:=by obtain⟨m,a⟩:=Av Tryz.underlying52 h;obtain⟨a0,r0,g,t0,a⟩:=a;obtain⟨p,t,c⟩:=Bg t0;obtain⟨a1,r1,i,t1,a⟩:=a;obtain⟨q,u,d⟩:=UU t1;obtain⟨a2,r2,j,t2,a⟩:=a;obtain⟨r,w,e⟩:=Zq1 t2;obtain⟨a3,o,k,t3,a⟩:=a;obtain⟨s,x,f⟩:=Zq1 t3;have l:o=[]:=a;subst t u w x;refine⟨⟨p,q,r,s⟩,?_,c,d,e,f⟩;rw[g,i,j,k,l];rfl
def Zq5(B:Nat)(a:List J):Prop:=a.length<=B/\∀x∈a,Zq4 B x
def Zso{B n:Nat}{a:List D}(h:ZY prog B n 55 a):∃v:List J,a=[.sl (v.map J.z)]/\Zq5 B v:=by
 obtain⟨m,xs,rfl,d,e⟩:=Ac Tryz.underlying55 h;obtain⟨f,rfl,h1,c⟩:=UM (enc:=J.z) (S:=λx=>Zq4 B x) λx b=>Zsm (e x b);exact⟨f,rfl,by simpa using d,c⟩
def JB(B:Nat)(a:List (List J)):Prop:=a.length<=B/\∀x∈a,Zq5 B x
def Sg{B n:Nat}{a:List D}(h:ZY prog B n 30 a):∃v:List (List J),a=[.sl (v.map (Z7 J.z))]/\JB B v:=by
 obtain⟨m,xs,rfl,d,e⟩:=Ac Tryz.underlying30 h;obtain⟨f,rfl,h1,c⟩:=UM (enc:=(Z7 J.z)) (S:=λx=>Zq5 B x) λx b=>Zso (e x b);exact⟨f,rfl,by simpa using d,c⟩
def Sv(B:Nat)(a:List (List (List J))):Prop:=a.length<=B/\∀x∈a,JB B x
def Zet{B n:Nat}{a:List D}(h:ZY prog B n 31 a):∃v:List (List (List J)),a=[.sl (v.map (Z7 (Z7 J.z)))]/\Sv B v:=by
 obtain⟨m,xs,rfl,d,e⟩:=Ac Tryz.underlying31 h;obtain⟨f,rfl,h1,c⟩:=UM (enc:=(Z7 (Z7 J.z))) (S:=λx=>JB B x) λx b=>Sg (e x b);exact⟨f,rfl,by simpa using d,c⟩
def Zfc(B:Nat)(x:Db):Prop:=JB B x.insts/\Sv B x.comps
def Zes{B n:Nat}{b:List D}(h:ZY prog B n 33 b):∃v:Db,b=v.z/\Zfc B v:=by obtain⟨m,a⟩:=Av Tryz.underlying33 h;obtain⟨a0,r0,e,t0,a⟩:=a;obtain⟨j,l,c⟩:=Sg t0;obtain⟨a1,i,f,t1,a⟩:=a;obtain⟨k,o,d⟩:=Zet t1;have g:i=[]:=a;subst l o;refine⟨⟨j,k⟩,?_,c,d⟩;rw[e,f,g];rfl
def Zsq(B:Nat)(a:List Chg):Prop:=a.length<=B/\∀x∈a,Hg B x
def Zsp{B n:Nat}{a:List D}(h:ZY prog B n 36 a):∃v:List Chg,a=[.sl (v.map Chg.z)]/\Zsq B v:=by
 obtain⟨m,xs,rfl,d,e⟩:=Ac Tryz.underlying36 h;obtain⟨f,rfl,h1,c⟩:=UM (enc:=Chg.z) (S:=λx=>Hg B x) λx b=>MG (e x b);exact⟨f,rfl,by simpa using d,c⟩
def Gh{P:Program}{w:World}:∀{l:List (String×DataW Unit)} {c:List MemPlace},DataW.LaidVars P w l c->∀n d,(n,d)∈l->
  ∃g t a b p,P.globalNamed n=some g/\(P.globals[g]?).map (·.type)=some t/\w.var? P n=some a/\DataW.trod (λ_=>()) P w 0 (λ_=>true) false b t a.toList=some (d,p)
 |[],_,_,_,_,hm=>by cases hm
 |(n',d')::r,c,h,n,d,hm=>by obtain⟨g,t,a,b,p,q,f,i,j,k,m,_⟩:=h;rcases Y5.1 hm with e|e;cases e;exact⟨g,t,a,b,p,f,i,j,k⟩;exact Gh m n d e
def It{P:Program}{w:World}{n:String}{g:Nat}{a:Array Value}(b:P.globalNamed n=some g)(h:w.var? P n=some a):∃T l,w.heap[g]?=some (.cells a T l):=by unfold World.var? at h;rw[b] at h;simp only[Option.bind_some] at h;split at h;cases h;exact⟨_,_,by assumption⟩;cases h
def OR{w:World}{g:Nat}{v:Value}{T:TypeId}{l:Nat×Nat}{a:Array Value}(h:w.heap[g]?=some (.cells a T l))(b:a.toList=[v]):w.cell? ⟨g,0,none⟩=some v:=by
 have:a[0]?=some v:=by rw[<-Array.getElem?_toList,b];rfl
 unfold World.cell?;simp[h,this]
def Dw{α:Type}{x:Option α}{a b:α}(h:x=some a)(k:x=some b):b=a:=Option.some.inj (k.symm.trans h)
def Zdf{W:World}{l:List (String×DataW Unit)}(A:l=Proofs.YtgofdgpebngebaaGreatDoor.Rows.databaseEvolveThenWriteUptoRow.laid)(h:laidMetH prog l W)(n:W.ShapedOpen prog):BV W:=by
 subst A;rw[MakeChecks.laidMetH_plain _ _ _ kR] at h;obtain⟨_,b,_⟩:=h;obtain⟨ga,ta,ca,_,_,c,_,j,_⟩:=Gh b _ _ (.tail _ (.head _));obtain rfl:=Dw (a:=5) kR c;obtain⟨Ta,la,k⟩:=It c j;obtain⟨gb,tb,cb,fb,pb,d,p,q,r⟩:=Gh b _ _ (.tail _ (.tail _ (.head _)));obtain rfl:=Dw (a:=1) kR d;obtain rfl:=Dw (a:=288) kR p;obtain⟨i,C,s⟩:=It d q;have x:=Lib.cells_of_tab (zs:=Lib.pow10Tab) Tryz.underlying288 Tryz.underlying281 kR kR r;obtain⟨gc,tc,cc,fc,pc,e,u,v,w⟩:=Gh b _ _ (.tail _ (.tail _ (.tail _ (.tail _ (.head _)))));obtain rfl:=Dw (a:=2) kR e;obtain rfl:=Dw (a:=276) kR u;obtain⟨Tc,lc,f⟩:=It e v;obtain⟨_,D,vc,y,_⟩:=iface_of_trod Tryz.underlying276 w;obtain⟨gd,td,cd,fd,pd,d1,d2,d3,d4⟩:=Gh b _ _ (.tail _ (.tail _ (.tail _ (.head _))));obtain rfl:=Dw (a:=3) kR d1;obtain rfl:=Dw (a:=276) kR d2;obtain⟨Td,ld,d5⟩:=It d1 d3;obtain⟨_,E,F,z,_⟩:=iface_of_trod Tryz.underlying276 d4;obtain⟨m,B⟩:=cell_of_shapedOpen_int (P:=prog) (g:=0) (t:=3) (zero:=#[.int .i64 0]) n (of_decide_eq_true kR) kR rfl kR kR Tryz.underlying3;have o:6<=W.heap.size:=by
  have:=(YQ.1 k).1
  have:=(YQ.1 f).1
  have:=(YQ.1 d5).1
  omega
 refine⟨o,⟨i,C,?_⟩,⟨D,vc,OR f y⟩,⟨E,F,OR d5 z⟩,⟨m,B⟩⟩;rw[s,<-x]
end
end Go.Am
namespace Go.Proofs.YtgofdgpebngebaaGreatDoor.databaseEvolveThenWrite
section
open Go Go.Am Go.ChangeShapes Go.WideShapes Go.ChangeAt Go.RowKit
theorem own:ownKnob Tryz.prog.godebug=none:=kR
theorem laid:laidOutB Tryz.prog=true:=kR
def Ze5:List TypeId:=[29,26,22,90,9,87,86,3,4,88,23,97,24,95,92,27,71,35,99,33,30,55,61,59,50,31,36,52]
theorem ID:RF Tryz.prog Ze5=true:=kR
theorem Ze1{g:Gr}(h:Sw 1048576 g):∀e∈g.n,∀x∈e.script,U7 x:=by intro e d x i;have b:=(h.2.2 e d).2.2 x i;obtain⟨_,_,_,_,_,_,c,_,_,a,_,f⟩:=b;exact⟨c.1,a.2.1.1,a.2.2.1,f.2.1.1⟩
theorem Zsg{b:List Stp}(h:Zq6 1048576 b):∀x∈b,U7 x:=by intro x f;have c:=h.2 x f;obtain⟨_,_,_,_,_,_,d,_,_,a,_,e⟩:=c;exact⟨d.1,a.2.1.1,a.2.2.1,e.2.1.1⟩
theorem Qb:∀(l:List (List (List J))),l.flatten.length<=AM (l.map (Z7 (Z7 J.z)))
 |[]=>by simp
 |y::l=>by have h1:=Qb l;have a:=L4 (y.map (Z7 J.z));simp only[Yb,AM,Z7,WQ,DT,XC,Ye,Yd] at a|-;omega
theorem Zff{a:Db}(k:WQ a.z+1<=1048576):a.comps.flatten.length+a.insts.length<=2097152:=by have e1:=Qb a.comps;have b:=L4 (a.insts.map (Z7 J.z));have e3:WQ a.z=AM (a.insts.map (Z7 J.z))+(AM (a.comps.map (Z7 (Z7 J.z)))+0):=rfl;rw[Yd] at b;omega
set_option maxRecDepth 100000 in
theorem Zae(H:Type)(s:TypeId×Value->H)(W:World)(ak:Nat)(b:Array Value)(G gs:List (DataW H))(m:List MemPlace)
  (n:∀(j:Nat) t v,f3.params[j]?=some t->b[j]?=some v->Value.okWide Tryz.prog W .any ak t v)
  (I:DataW.Whole s Tryz.prog f3.params.toList Rows.databaseEvolveThenWriteSpec.vars false W b.toList G gs m)(hk:Rows.uptoSmall H (G++gs)=true)(hL:laidMetH Tryz.prog Rows.databaseEvolveThenWriteUptoRow.laid W)(bw:W.ShapedOpen Tryz.prog):
  Calls Tryz.prog 3 b W λe T=>∃v,e=.returned v/\Rows.databaseEvolveThenWriteSpec.post s Tryz.prog f3 false true false false W b v T:=by
 have bp:=I;have c:=I.lt;obtain⟨p,q,bf,hV,rfl,ch,cd⟩:=I;have hA:DataW.TrodAll s Tryz.prog W 0 (λ_=>true) true f3.params.toList b.toList G p:=bf;rw[params3] at hA n;obtain⟨v0,ce,d0,b5,N,q0,bj,rfl,rfl,h0,r0⟩:=trodAll_cons hA;obtain⟨v1,b4,d1,ca,O,q1,rfl,rfl,rfl,h1,r1⟩:=trodAll_cons r0;obtain⟨v2,b8,d2,ci,P,q2,rfl,rfl,rfl,h2,r2⟩:=trodAll_cons r1;obtain⟨v3,b7,d3,b3,Q,q3,rfl,rfl,rfl,h3,r3⟩:=trodAll_cons r2;obtain⟨v4,b6,d4,cg,R,q4,rfl,rfl,rfl,h4,r4⟩:=trodAll_cons r3;obtain⟨v5,cj,d5,cb,S,q5,rfl,rfl,rfl,h5,r5⟩:=trodAll_cons r4;obtain⟨rfl,rfl,rfl⟩:=trodAll_nil r5;obtain rfl:b=#[v0,v1,v2,v3,v4,v5]:=by cases b;simp_all
 obtain⟨rfl,rfl⟩:=trodVars_none hV;have hb:=of_decide_eq_true hk;simp only[Ym,Rows.uptoBulkAll] at hb;obtain⟨r,rfl,_⟩:=okWide_struct Tryz.underlying29 (n 0 29 v0 rfl rfl);obtain⟨F,rfl,_⟩:=okWide_struct Tryz.underlying33 (n 1 33 v1 rfl rfl);obtain⟨L,rfl⟩:=okWide_int Tryz.underlying3 (n 2 3 v2 rfl rfl);obtain⟨A,D,g,rfl⟩:=okWide_slice Tryz.underlying35 (n 3 35 v3 rfl rfl);obtain⟨M,rfl⟩:=okWide_int Tryz.underlying3 (n 4 3 v4 rfl rfl);obtain⟨C,E,k,rfl⟩:=okWide_slice Tryz.underlying36 (n 5 36 v5 rfl rfl);have bb:=h0;have bg:=h1;have bc:=h2;have a8:=h3;have bu:=h4;have a1:=h5;obtain⟨n0,b1⟩:=h0;obtain⟨n1,ba⟩:=h1;obtain⟨n2,bt⟩:=h2;obtain⟨n3,bi⟩:=h3;obtain⟨n4,ar⟩:=h4;obtain⟨n5,aw⟩:=h5;obtain⟨e0,Y,b2,z⟩:=Iv (B:=1048576) ID dE n0 29 _ _ dE b1 (by simp only;omega);have k0:WQ e0+1<=1048576:=by simp only at z;omega
 obtain⟨e1,ap,bm,V⟩:=Iv (B:=1048576) ID dE n1 33 _ _ dE ba (by simp only;omega);have k1:WQ e1+1<=1048576:=by simp only at V;omega
 obtain⟨e2,a7,br,U⟩:=Iv (B:=1048576) ID dE n2 3 _ _ dE bt (by simp only;omega);have k2:WQ e2+1<=1048576:=by simp only at U;omega
 obtain⟨e3,bv,b0,aq⟩:=Iv (B:=1048576) ID dE n3 35 _ _ dE bi (by simp only;omega);have k3:WQ e3+1<=1048576:=by simp only at aq;omega
 obtain⟨e4,au,bk,Z⟩:=Iv (B:=1048576) ID dE n4 3 _ _ dE ar (by simp only;omega);have k4:WQ e4+1<=1048576:=by simp only at Z;omega
 obtain⟨e5,ax,bh,X⟩:=Iv (B:=1048576) ID dE n5 36 _ _ dE aw (by simp only;omega);have k5:WQ e5+1<=1048576:=by simp only at X;omega
 have kk:WQ e0+WQ e1+WQ e2+WQ e3+WQ e4+WQ e5<=1048576:=by simp only at z V U aq Z X;omega
 obtain⟨x0,rfl,y0⟩:=Zeu b2;obtain⟨x1,rfl,y1⟩:=Zes bm;obtain⟨x2,rfl,y2⟩:=Bg br;obtain⟨x3,rfl,y3⟩:=Zqn b0;obtain⟨x4,rfl,y4⟩:=Bg bk;obtain⟨x5,rfl,y5⟩:=Zsp bh;have hS:=(Zqq x0 x1 x2 x3 x4 x5).h true (Zsi x0 x1 x2 x3 x4 x5 (Ze1 y0) (Zff k1) (Zsg y3));refine(hS.2 W (cellsOf W) (λ_ _=>none) #[.agg r,.agg F,.int .i64 L,.slice A D g,.int .i64 M,.slice C E k] (Zdf rfl hL bw) (λ_ _ _ h=>h) (λ_ _ _ h=>by cases h) ?_).mono λe T y=>?_;refine⟨rfl,λi a w=>?_⟩
 match i with
 |0=>
   cases w;refine⟨.agg r,rfl,r,rfl,by simpa[Value.cells] using Y.1,λj x J=>?_⟩;obtain⟨u,d,f⟩:=Y.2 j x J;exact⟨u,by simpa[Value.cells] using d,f⟩
 |1=>
   cases w;refine⟨.agg F,rfl,F,rfl,by simpa[Value.cells] using ap.1,λj x J=>?_⟩;obtain⟨u,d,f⟩:=ap.2 j x J;exact⟨u,by simpa[Value.cells] using d,f⟩
 |2=>
   cases w;obtain⟨u,d,f⟩:=a7.2 0 _ rfl;refine⟨.int .i64 L,rfl,?_⟩
   have:u=.int .i64 L:=by simpa[Value.cells] using d.symm
   rw[<-this];exact f
 |3=>
   cases w;obtain⟨u,d,f⟩:=bv.2 0 _ rfl;refine⟨.slice A D g,rfl,?_⟩
   have:u=.slice A D g:=by simpa[Value.cells] using d.symm
   rw[<-this];exact f
 |4=>
   cases w;obtain⟨u,d,f⟩:=au.2 0 _ rfl;refine⟨.int .i64 M,rfl,?_⟩
   have:u=.int .i64 M:=by simpa[Value.cells] using d.symm
   rw[<-this];exact f
 |5=>
   cases w;obtain⟨u,d,f⟩:=ax.2 0 _ rfl;refine⟨.slice C E k,rfl,?_⟩
   have:u=.slice C E k:=by simpa[Value.cells] using d.symm
   rw[<-this];exact f
 |i+6=>simp at w
 obtain⟨v,m',b9,rfl,_,_,_,o,ay,_⟩:=y;have hv:v=.bool true:=by cases ay;rfl
 subst hv;refine⟨_,rfl,[d0,d1,d2,d3,d4,d5],[],N++(O++(P++(Q++(R++(S++[])))))++[],[],N++(O++(P++(Q++(R++(S++[]))))),[],bp,trodAll_mk1 (shut_bool Tryz.underlying4 true),?_,rfl,o.frame _,λh=>by cases h⟩;have az:∀x∈N,x.block<W.heap.size:=λx l=>c x (by simp[l]);have bz:∀x∈O,x.block<W.heap.size:=λx l=>c x (by simp[l]);have K:∀x∈P,x.block<W.heap.size:=λx l=>c x (by simp[l]);have bq:∀x∈Q,x.block<W.heap.size:=λx l=>c x (by simp[l]);have bn:∀x∈R,x.block<W.heap.size:=λx l=>c x (by simp[l]);have bd:∀x∈S,x.block<W.heap.size:=λx l=>c x (by simp[l]);exact trodAll_cons_mk (Below.trod laid kR (of_decide_eq_true kR) bb o az) (trodAll_cons_mk (Below.trod laid kR (of_decide_eq_true kR) bg o bz) (trodAll_cons_mk (Below.trod laid kR (of_decide_eq_true kR) bc o K) (trodAll_cons_mk (Below.trod laid kR (of_decide_eq_true kR) a8 o bq) (trodAll_cons_mk (Below.trod laid kR (of_decide_eq_true kR) bu o bn) (trodAll_cons_mk (Below.trod laid kR (of_decide_eq_true kR) a1 o bd) trodAll_mk0)))))
theorem Za4(a:Os):laidMet Tryz.prog Rows.databaseEvolveThenWriteUptoRow.laid ((World.laidAll Tryz.prog a Rows.databaseEvolveThenWriteUptoRow.laid).forCall (λ_ _=>0) ⟨#[],#[.agg #[.slice none 0 0,.slice none 0 0,.slice none 0 0,.slice none 0 0],.agg #[.slice none 0 0,.slice none 0 0],.int .i64 0,.slice none 0 0,.int .i64 0,.slice none 0 0],[]⟩).memory:=laidMet_laidAll _ kR kR
theorem Ze4(c:Os){H:Type}(b:TypeId×Value->H):∃a,DataW.whole b Tryz.prog ((World.laidAll Tryz.prog c Rows.databaseEvolveThenWriteUptoRow.laid).forCall (λ_ _=>0) ⟨#[],#[.agg #[.slice none 0 0,.slice none 0 0,.slice none 0 0,.slice none 0 0],.agg #[.slice none 0 0,.slice none 0 0],.int .i64 0,.slice none 0 0,.int .i64 0,.slice none 0 0],[]⟩).memory f3.params.toList Rows.databaseEvolveThenWriteSpec.vars false (#[.agg #[.slice none 0 0,.slice none 0 0,.slice none 0 0,.slice none 0 0],.agg #[.slice none 0 0,.slice none 0 0],.int .i64 0,.slice none 0 0,.int .i64 0,.slice none 0 0]:Array Value).toList 8=some ([.agg [.agg [.nil,.nil,.nil],.nil],.agg [.nil,.nil],.lit (.int .i64 0),.nil,.lit (.int .i64 0),.nil],[],a):=⟨[],kR⟩
set_option maxRecDepth 100000 in
theorem lifted(o:Os)(b:o.Started)(H:Type)(enc:TypeId×Value->H)(F:Stop.Interp):
  ReturnsInHanded {} Tryz.checked o 3 .any ((Rows.OpenSpec.upto Rows.databaseEvolveThenWriteSpec).preRow enc Tryz.prog f3 Rows.databaseEvolveThenWriteUptoRow.domain false Rows.databaseEvolveThenWriteUptoRow.laid) (((Rows.OpenSpec.upto Rows.databaseEvolveThenWriteSpec).at F).post enc Tryz.prog f3 false true false false):=by
 obtain⟨places,hx⟩:=Ze4 o enc;refine returnsInHanded_of_row (C:=Tryz.checked) (s:=Rows.OpenSpec.upto Rows.databaseEvolveThenWriteSpec) own b kR func3
  (witness_row_atRef (enc:=enc) (C:=Tryz.checked) false (World.laidAll Tryz.prog o Rows.databaseEvolveThenWriteUptoRow.laid) #[.agg #[.slice none 0 0,.slice none 0 0,.slice none 0 0,.slice none 0 0],.agg #[.slice none 0 0,.slice none 0 0],.int .i64 0,.slice none 0 0,.int .i64 0,.slice none 0 0] (World.laidAll_os _ _ _) kR kR kR
   (OpenSpec.preRow_of_cond 8 hx kR (λk u=>by cases u;kernel_rfl) kR (Za4 o))) ?_
 intro W j g ds q e n t _ f _ r p _;exact Zae H enc W j g ds q e n t (f _ rfl) r p
theorem Zek:(Rows.databaseEvolveThenWriteUptoRow.inPlace==Tryz.prog.inPlace 3)=true:=kR
theorem Zej:(Rows.databaseEvolveThenWriteUptoRow.unfollowed==Tryz.prog.unfollowed 3)=true:=kR
theorem Zei:(Rows.databaseEvolveThenWriteUptoRow.recurses==Tryz.prog.recurses 3)=true:=kR
theorem Zeh:(Rows.databaseEvolveThenWriteUptoRow.named==Tryz.prog.varsNamed 3)=true:=kR
theorem Zeg:(Rows.databaseEvolveThenWriteUptoRow.plainKeys==Tryz.prog.plainKeys)=true:=kR
theorem Zef:Tryz.prog.stopsHeard=true:=kR
theorem Zee:Tryz.prog.mayEnter=true:=kR
theorem Zed:(Rows.databaseEvolveThenWriteUptoRow.lifted==Tryz.prog.liftsFinal)=true:=kR
theorem Zec:(Tryz.prog.make==some Rows.databaseEvolveThenWriteUptoRow.make)=true:=kR
theorem Zdl:mapsRowed Tryz.prog=true:=kR
theorem Zdk:Rows.databaseEvolveThenWriteUptoRow.wf (OpenSpec.ofChange (Rows.OpenSpec.upto Rows.databaseEvolveThenWriteSpec).bare)=true:=kR
theorem Zdj:laidOutB Tryz.prog=true:=kR
theorem Zdi:namedTie Tryz.prog Rows.databaseEvolveThenWriteUptoRow.named (Rows.OpenSpec.upto Rows.databaseEvolveThenWriteSpec).bare.vars=true:=kR
theorem Zdh:Tryz.pinned.checked.prog.funcNamed Rows.databaseEvolveThenWriteUptoRow.func=some 3:=kR
set_option maxRecDepth 100000 in
theorem Zds:joinedFacts Tryz.prog 3 f3 (Rows.OpenSpec.upto Rows.databaseEvolveThenWriteSpec).bare Rows.databaseEvolveThenWriteUptoRow=true:=by
 unfold joinedFacts;rw[Zek,Zej,Zei,Zeh,Zeg,Zef,Zee,Zed,Zec,Zdl,Zdk,Zdj,Zdi]
 kernel_rfl
theorem Zf7:Rows.DatabaseEvolveThenWriteUptoSaid:=
 OpenClaim.holds_of_cond 3 f3 rfl rfl rfl rfl rfl rfl rfl ⟨rfl,rfl,rfl,rfl,rfl⟩ rfl rfl rfl rfl rfl Zdh func3 Zds
  (of_decide_eq_true kR) (by unfold Func.isWrapper;first|(rw[if_pos (by decide+kernel)];kernel_rfl)|(rw[if_neg (by decide+kernel)];exact⟨rfl,rfl⟩))
  (λc a H b _ F=>by rw[OpenClaim.pre_eq_preRow];exact lifted c a H b F)
theorem Zdc(f:FuncId)(b:Func)(e:Tryz.pinned.checked.prog.funcNamed Rows.databaseEvolveThenWriteUptoRow.func=some f)(d:Tryz.pinned.checked.prog.funcs[f]?=some b):
  true=Tryz.pinned.checked.prog.looks []/\∀(j:Nat) t,b.params[j]?=some t->Tryz.pinned.checked.prog.wantsStandIn t=false:=by
 obtain rfl:f=3:=Option.some.inj ((kR:Tryz.prog.funcNamed Rows.databaseEvolveThenWriteUptoRow.func=some 3).symm.trans e)|>.symm;obtain rfl:b=f3:=(Option.some.inj (func3.symm.trans d)).symm;refine⟨kR,λj t c=>?_⟩;rw[params3] at c;have g:t∈[29,33,3,35,3,36]:=by simpa using Array.mem_of_getElem? c
 have a:([29,33,3,35,3,36].all λu=>!Tryz.prog.wantsStandIn u)=true:=kR;exact(show Tryz.prog.wantsStandIn t=false by simpa using Xu.1 a t g)
theorem Zsh:Tryz.pinned.checked.prog.funcs.any Func.goes=false:=kR
theorem Zr2{P:Program}(h:P.funcs.any Func.goes=false)(f:FuncId):P.goes f=false:=by
 unfold Program.goes;rw[h,Y03,Bool.or_false,List.any_eq_false];intro g _;cases hg:P.funcs[g]? with
 |none=>simp
 |some fn=>?_
 rw[Array.any_eq_false] at h;obtain⟨a,rfl⟩:=YQ.1 hg;simpa using h g a
theorem Zqu{c:OpenClaim}{P:Program}(h:P.funcs.any Func.goes=false)(a:c.start=.entering):false=c.goesBy P:=by
 unfold OpenClaim.goesBy Program.goesAt Program.goesFrom;rw[a];cases P.funcNamed c.func with
 |none=>rfl
 |some f=>simp[Zr2 h]
theorem Zml:Rows.DatabaseEvolveThenWriteUptoCardSaid:=
 Claim7.holds_tied_plain_at .later [] _ _ _ _ Zf7 (λ_ h=>by cases h) kR (λ_ h=>by cases h) databaseEvolveThenWriteUpto_row_tie rfl ⟨rfl,rfl⟩ kR rfl Zdc (Zqu Zsh rfl)
end
end Go.Proofs.YtgofdgpebngebaaGreatDoor.databaseEvolveThenWrite
