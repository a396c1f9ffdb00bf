import Derived.Test.YtcofobppbicocaaGreatDoorJ6
import Derived.Shelf.Sort.Plain
import Derived.Shelf.Slices.CompactS
import Derived.Shelf.Slices.In.SortNone
import Derived.Test.YtcofobppbicocaaGreatDoorCards
import Derived.Test.YtcofobppbicocaaGreatDoorTie
import Derived.ProofKit
import Derived.OpenShut
import Derived.Lay
import Derived.Deep.DeepWitnessRowRef
set_option linter.all false
set_option maxRecDepth 20000
open Go Go.Proofs
open Go.Proofs.Tryz
open ByteArray(empty)
open Go.IntKind(i64)
namespace Go.Am
section
def IQ{x:C}{k}{n:Int}(h:x.toD=some (.int k n)):x=.d (.int k n):=by
 cases x<;>simp[C.toD] at h;rw[h]
def Lc{x:C}{b}(h:x.toD=some (.bool b)):x=.b b:=by
 cases x<;>simp[C.toD] at h;rw[h]
structure PSt where
 insts:List (List J)
 comps:List (List (List J))
 errs:List Int
 reached:List Bool
def PSt.rows(s:PSt)(c a b d:C):List (C×aC):=[(c,s.insts.map Wq),(a,s.comps.map Um),(b,s.errs.map λz=>.int .i64 z),(d,s.reached.map D.bool)]
def EZ(b:Bool)(S:Sch)(a:List Stp)(x:List J)(c:List (List J)):aB (List J×List (List J)×Int):=bif b then UD S a x c else UF S a x c
def H3{ρ:Type}(d:List Sch)(c:Edg)(b:Hop)(n f:Int)(s:PSt)(next:PSt->aB ρ):aB ρ:=
 Za s.reached n λi=>bif !i then next s else Za s.errs n λh=>bif h !=0 then next s else Zp (0<=f/\f<s.reached.length/\f<s.errs.length)<|
  Za d c.m λe=>Za s.insts n λa=>Za s.comps b.edge λg=>Z1 (EZ b.back e c.script a g) λr=>
   bif r.2.2==0 then Zp (f<s.insts.length) (next ⟨s.insts.set f.toNat r.1,s.comps.set b.edge.toNat r.2.1,s.errs.set f.toNat r.2.2,s.reached.set f.toNat true⟩)
   else next ⟨s.insts,s.comps,s.errs.set f.toNat r.2.2,s.reached.set f.toNat true⟩
def FM(g:Gr)(b:List Sch)(e:List (List J))(d:List (List (List J)))(v:Int):aB PSt:=
 Zp (0<=v/\v<b.length)<|Z1 (FO g v) λT=>
 Zd (λ(_:Nat) (a:Hop) (s:PSt) next=>Za g.n a.edge λc=>Zp (Wm (a.edge+1))<|
  H3 b c a (bif a.back then a.edge+1 else c.m) (bif a.back then c.m else a.edge+1) s next) (λs=>some s) T.1 0
  ⟨e,d,List.replicate b.length 0,(List.replicate b.length false).set v.toNat true⟩
set_option maxHeartbeats 2000000 in
def Z04(h)(g:Gr)(f)(ak)(ag)(v:Int)(W U)(r)(hm:Is (FM g f ak ag v) r)(mC:MC h [(W,ak.map Wq),(U,ag.map Um)])(K)
  (hK:∀ce cr h',MC h' (r.rows W U ce cr)->Z0 h h' (Z W++Z U)->(∀k∈Z ce++Z cr,h.p<=k.1)->K (.tup [.one ce,.one cr]) h'):
  Z5 prog 72 [.agg (g.z.map C.d),.l (f.map Sch.z),.agg [W,U],.i v] h K:=by
 refine Z5.ov func72 ?_;unfold FM at hm;have⟨⟨et,e5⟩,hm⟩:=hm.chk;have⟨T,hT,hm⟩:=hm.bind;have mk:∀(H:HS) (u lr:Z2),f.length<=2097152->H.a u=some (List.replicate f.length (.i 0))->H.a lr=some (List.replicate f.length (.b false))->u≠lr->h.p+1<u.1->u.1<H.p->h.p+1<lr.1->lr.1<H.p->Z0 h H []->
   MC H ((⟨ak,ag,List.replicate f.length 0,List.replicate f.length false⟩:PSt).rows W U (.mrow u 0 f.length f.length) (.mrow lr 0 f.length f.length)):=by
  intro H u lr hn b1 b2 hne g1 g2 g3 g4 hs;have m2:=mC.new hs;have hlt:=mC.lt;have hd:=mC.dis;simp only[YI,XS,Ym] at hd;have hi:∀k∈Z W,k.1<h.p:=hlt _ (Y8 ..);have hc:∀k∈Z U,k.1<h.p:=hlt _ (Yc _ (Y8 ..));have c1:=Wt.make b1 (d:=.int .i64 0) rfl hn;have c2:=Wt.make b2 (d:=.bool false) rfl hn;refine⟨λq t=>?_,λq t k S=>?_,?_⟩;simp only[PSt.rows,Y35,Y5,Xn,or_false] at t;rcases t with rfl|rfl|rfl|rfl;exact m2.row _ (Y8 ..);exact m2.row _ (Yc _ (Y8 ..));exact c1;exact c2;have ek:=hs.1;simp only[PSt.rows,Y35,Y5,Xn,or_false] at t;rcases t with rfl|rfl|rfl|rfl
  have:=hi k S;omega
  have:=hc k S;omega
  simp only[Z,Yj] at S;rw[S];exact g2;simp only[Z,Yj] at S;rw[S];exact g4;simp only[PSt.rows,YI,XS,Ym,Z];have hn:=Yk.1 hd;refine Yk.2 ⟨hn.1,Yk.2 ⟨hn.2.1,by simp[hne],λa ha b hb he=>?_⟩,λa ha b hb he=>?_⟩;subst he
  have:=hc a ha
  simp at hb;rcases hb with rfl|rfl<;>omega;subst he
  have:=hi a ha
  simp at hb;rcases hb with hb|rfl|rfl;exact hn.2.2 a ha a hb rfl;omega;omega
 simp;refine Z6.cut (Y.qB [0,1,3,4] (.two 2 5 (Y.qB [6,5,7] .done) (Y.qB [2,6,7] .done))) follows kR (λe1 h1=>∃ce cr,En e1 118 [(1,.l (f.map Sch.z)),(3,.i v),(4,.p (h.p,64)),(6,.p (h.p+1,96)),(8,.one ce),(9,.one cr)]/\
  h1.a (h.p,64)=some (g.z.map C.d)/\h1.a (h.p+1,96)=some [W,U]/\MC h1 ((⟨ak,ag,List.replicate f.length 0,List.replicate f.length false⟩:PSt).rows W U ce cr)/\Z0 h h1 []/\(∀k∈Z ce++Z cr,h.p+1<k.1)/\h.p+1<h1.p) ?_ ?_
 simp;intro d4;refine⟨⟨X,Ze.of ⟨.mrow (h.p+1+1,368) 0 f.length f.length,.mrow (h.p+1+1+1,416) 0 f.length f.length,I,I,I,mk _ (h.p+1+1,368) (h.p+1+1+1,416) d4 I I I I I I I ?_,?_,by simp[Z],I⟩⟩,?_⟩;exact sm;exact sm;refine⟨X,Ze.of ⟨.mrow (h.p+1+1+1,368) 0 f.length f.length,.mrow (h.p+1+1,416) 0 f.length f.length,I,I,I,mk _ (h.p+1+1+1,368) (h.p+1+1,416) d4 I I I I I I I ?_,?_,by simp[Z],I⟩⟩;exact sm;exact sm;rintro e1 h1 ⟨ce,cr,n,bg,bd,mP,ej,b0,e0⟩;have eo:v.toNat<(List.map D.bool (List.replicate f.length false)).length:=sO
 obtain⟨lr,cap,bs,ao,aq,eh,dj,-,d6⟩:=mP.at (j:=3) rfl eo;simp only[Yd,Xi] at ao;have e4:=Zv dj;have d3:v.toNat<f.length:=X
 have eb:((h.p,64)=lr)=False:=eq_false (by rintro rfl;have h9:h.p+1<h.p:=b0 (h.p,64) (by rw[ao];simp[Z]);omega);have ew:((h.p+1,96)=lr)=False:=eq_false (by rintro rfl;have h9:h.p+1<h.p+1:=b0 (h.p+1,96) (by rw[ao];simp[Z]);omega);have m1:=d6 h1 _ (.b true) (.bool true) mP rfl rfl;rw[ao] at n;simp only[Gr.z,Yb,Yf] at bg;simp[n,et,d3,aq,eh,bg,eb];refine Zx (Z0f g v T hT) I ?_;simp[n];intro e3;have d5:∀k∈Z W,k.1<h.p:=mC.lt _ (Y8 ..);have d9:∀k∈Z U,k.1<h.p:=mC.lt _ (Yc _ (Y8 ..));have ea:∀k∈Z ce,h.p+1<k.1:=λk S=>b0 k (by simp[S]);have cl:∀k∈Z cr,h.p+1<k.1:=λk S=>b0 k (by simp[S]);have en:MC (h1.qA lr (Zi bs v.toNat [.b true])) ((⟨ak,ag,List.replicate f.length 0,(List.replicate f.length false).set v.toNat true⟩:PSt).rows W U ce cr):=by simpa[PSt.rows,n] using m1
 rw[<-ao] at n|-;refine Z6.for (xs:=T.1) (λi s o h'=>Ek e1 o [(36,.l (T.1.map Hop.z)),(37,.i (T.1.length:Int)),(38,.i (i:Int))] [1,4,6,8,9]/\
  h'.a (h.p,64)=some (g.z.map C.d)/\h'.a (h.p+1,96)=some [W,U]/\MC h' (s.rows W U ce cr)/\Z0 h h' (Z W++Z U)/\h.p+1<h'.p) hm
  ⟨by simp[n],by simp[eb,bg],by simp[ew,bd],en.new sm,?_,sO⟩ ?_ ?_
 refine(Z0.qA (ej.mn) (.inr ?_)).w
 have:=cl lr (by rw[ao];simp[Z])
 omega
 .rintro i s e h' ⟨hF,bg,bd,mP,hs,ek⟩ hlt hm;have n:=hF.an n;have hw:IntKind.i64.wrap ((i:Int)+1)=(i:Int)+1:=Y6 _ X;have⟨L,bu,dp,hm⟩:=hm.get;have⟨ed,hm⟩:=hm.chk;have ec:=LL ed;simp only[Gr.z,Yb,Yf] at bg;simp[n,hlt,bg,bu,dp];refine Z6.cu aU (λo M=>Ek e o [(13,.p (h'.p,208)),(14,.p (h'.p+1,224))] [1,4,6,8,9,36,37,38]/\M.a (h'.p,208)=some [.i T.1[i].edge,.b T.1[i].back]/\M.a (h'.p+1,224)=some [.i L.m,.l (L.script.map Stp.z)]/\o.get 15=.i L.m/\o.get 16=.i (T.1[i].edge+1)/\Z0 h' M []/\h'.p+1<M.p) ?_ ?_;simp[n,ec];refine Ze.of ⟨by simp[n],I,I,I,I,?_,I⟩;exact sm;rintro E2 M ⟨hF,am,d7,af,N,bm,e2⟩;have n:=hF.an n;have y:=mP.new bm;have bp:=(bm.2 (h.p,64) sO I).trans bg;have ax:=(bm.2 (h.p+1,96) sO I).trans bd;have hs2:=hs.trans (bm.mn);cases hbk:T.1[i].back with
  |false=>
    rw[hbk] at hm am;simp only[cond_false] at hm;simp[n,af,am];unfold H3 at hm;have⟨rn,bn,bq,hm⟩:=hm.get;have bw:(L.m).toNat<(s.reached.map D.bool).length:=sU ((Y0.1 bq).1);have⟨lr,R,br,ao,aq,_,dj,⟨xr,di,cy⟩,dx⟩:=y.at (j:=3) rfl bw;simp only[Y9,bq,Yp,Ya] at cy;obtain rfl:=Lc cy;have b3:cr=.mrow lr 0 s.reached.length R:=sU ao;subst b3;have da:(L.m).toNat < s.reached.length:=sU bw;simp[n,af,bn,da,aq,di];cases rn with|false=>?_|true=>?_;simp only[XO,cond_true] at hm;simp[n,af,hw];exact Zj.of s ⟨⟨by simp[n],sU bp,ax,y,hs2,X⟩,hm⟩;simp only[Xx,cond_false] at hm;obtain⟨el,-,c7,hm⟩:=hm.get;have hne:(L.m).toNat < (s.errs.map λz=>D.int .i64 z).length:=sU ((Y0.1 c7).1);have ⟨u,P,be,ca,bk,_,dn,⟨xe,dq,b7⟩,d1⟩:=y.at (j:=2) rfl hne;simp only[Y9,c7,Yp,Ya] at b7;obtain rfl:=IQ b7;have b9:ce=.mrow u 0 s.errs.length P:=sU ca;subst b9;have hne':(L.m).toNat < s.errs.length:=sU hne;simp[n,af,bn,hne',bk,dq];refine ZP hm ?_ ?_<;>clear hm<;>intro _ hm;simp[n,af,hw];exact Zj.of s ⟨⟨by simp[n],sU bp,ax,y,hs2,X⟩,hm⟩;have ⟨⟨bf,ez,ef⟩,hm⟩:=hm.chk;have ⟨dv,dz,b5,hm⟩:=hm.get;obtain⟨inst,-,c8,hm⟩:=hm.get;obtain⟨cm,-,cg,hm⟩:=hm.get;have ⟨A,bv,hm⟩:=hm.bind;rw[hbk] at bv;have cx:(T.1[i].edge+1).toNat < s.reached.length:=X
    have dc:(T.1[i].edge+1).toNat < s.errs.length:=X;have cp:(L.m).toNat < s.insts.length:=(Y0.1 c8).1;have a8:T.1[i].edge.toNat < s.comps.length:=(Y0.1 cg).1;obtain⟨em,df,ee,F,dd,bj,-,-,a1⟩:=y.at (j:=3) (i:=(T.1[i].edge+1).toNat) rfl (sU cx);simp at F;obtain⟨rfl,rfl⟩:=F;obtain rfl:=Option.some.inj (aq.symm.trans dd);obtain⟨eg,dw,ey,F,cq,bb,-,-,ar⟩:=y.at (j:=2) (i:=(T.1[i].edge+1).toNat) rfl (sU dc);simp at F;obtain⟨rfl,rfl⟩:=F;obtain rfl:=Option.some.inj (bk.symm.trans cq);obtain⟨G,Q,bi,F,ay,_,dt,⟨xi,dy,cb⟩,-⟩:=y.at (j:=0) (i:=(L.m).toNat) rfl (sU cp);have aj:W=.mrow G 0 s.insts.length Q:=sU F;subst aj;simp only[Y9,c8,Yp,Ya] at cb;have ⟨B,O,bc,F,bt,cw,dm,⟨xc,dk,de⟩,bh⟩:=y.at (j:=1) (i:=T.1[i].edge.toNat) rfl (sU a8);have aj:U=.mrow B 0 s.comps.length O:=sU F;subst aj;simp only[Y9,cg,Yp,Ya] at de;have au:lr.1 < h'.p:=mP.lt _ (Yc _ (Yc _ (Yc _ (Y8 ..)))) lr (by simp[Z]);have cz:u.1 < h'.p:=mP.lt _ (Yc _ (Yc _ (Y8 ..))) u (by simp[Z]);have q1:=W1 au;have q2:=W1 cz;have b6:h.p+1 < lr.1:=cl lr (by simp[Z]);have b4:h.p+1 < u.1:=ea u (by simp[Z]);have q3:((h.p+1,96)=lr)=False:=eq_false (by rintro rfl;simp at b6);have q4:((h.p+1,96)=u)=False:=eq_false (by rintro rfl;simp at b4);have q5:(G=lr)=False:=eq_false (λt=>UP y.dis (k1:=0) (k2:=3) rfl rfl dE G (by simp[Z]) (by simp[Z,t]));have q6:(B=lr)=False:=eq_false (λt=>UP y.dis (k1:=1) (k2:=3) rfl rfl dE B (by simp[Z]) (by simp[Z,t]));have q7:(u=lr)=False:=eq_false (λt=>UP y.dis (k1:=2) (k2:=3) rfl rfl dE u (by simp[Z]) (by simp[Z,t]));have q8:(G=u)=False:=eq_false (λt=>UP y.dis (k1:=0) (k2:=2) rfl rfl dE G (by simp[Z]) (by simp[Z,t]))
    have q9:(B=u)=False:=eq_false (λt=>UP y.dis (k1:=1) (k2:=2) rfl rfl dE B (by simp[Z]) (by simp[Z,t]));have d0:(B=G)=False:=eq_false (λt=>UP y.dis (k1:=1) (k2:=0) rfl rfl dE B (by simp[Z]) (by simp[Z,t]));have m3:=a1 M _ (.b true) (.bool true) y rfl rfl;simp[n,af,N,am,bf,cx,aq,bj,q1];refine Z6.cu bB (λo h4=>Ek E2 o [(8,.one (.mrow u 0 s.errs.length P)),(9,.one (.mrow lr 0 s.reached.length R))] [1,4,6,36,37,38] /\
     o.get 13=.p (h'.p,208)/\o.get 16=.i (T.1[i].edge+1)/\o.get 18=.l (A.1.map J.z)/\o.get 19=.l (A.2.1.map (Z7 J.z))/\o.get 20=.i A.2.2/\Z0 (M.qA lr (Zi br (T.1[i].edge+1).toNat [.b true])) h4 []) ?_ ?_
    simp[n,af,am,d7,dz,b5,cp,bu,a8,ay,bt,dy,dk,q1,q3,q5,q6,ax];refine Zx (NA dv L.script inst cm A bv) (by simp[Wi,V.toA,(F3 cb).2.2,(F3 de).2.2]) ?_;simp[n]
    try refine⟨λ_ _ x=>x,?_⟩
    refine Ze.of ⟨by simp[n],by simp[n],by simp[N],I,I,I,?_⟩;exact sm;rintro E3 h4 ⟨hF,dh,N,dg,dr,az,ae⟩;have n:=hF.an n;have m4:=m3.new ae;have m5:=ar h4 _ (.i A.2.2) (.int .i64 A.2.2) m4 rfl rfl;have E:∀ k:Z2,k.1 < M.p->k≠lr->h4.a k=M.a k:=λk S t=>by
     have:=ae.2 k (sU S) I
     rw[this];simp[t]
    have c6:=(E u dn (sU q7)).trans bk;have cd:=(E G dt (sU q5)).trans ay;have cn:=(E B dm (sU q6)).trans bt;have bz:=(E (h'.p,208) (by show h'.p < M.p;omega) (by intro t;have h9:=au;rw[<- t] at h9;exact absurd h9 (XL _))).trans am;have ba:=(E (h.p+1,96) (by show h.p+1 < M.p;omega) (λt=>by rw[q3] at t;exact t)).trans ax;have ch:=(E (h.p,64) (by show h.p < M.p;omega) (by intro t;have h9:=b6;rw[<- t] at h9;have h9:h.p+1 < h.p:=h9;omega)).trans bp;have aw:((h.p,64)=u)=False:=eq_false (by rintro rfl;have h9:h.p+1 < h.p:=b4;omega);have cj:=ae.1;simp at cj;have ck:Z0 h (h4.qA u (Zi be (T.1[i].edge+1).toNat [.i A.2.2])) (Z (.mrow G 0 s.insts.length Q)++Z (.mrow B 0 s.comps.length O)):=
     Z0.qA (Z0.trans (Z0.qA hs2 (.inr X)) (ae.mn)) (.inr X)
    simp[n,N,az,bf,dc,c6,bb];refine ZP hm ?_ ?_<;>clear hm<;>intro _ hm
    .have ⟨d8,hm⟩:=hm.chk;have hfi:(T.1[i].edge+1).toNat < s.insts.length:=X
     obtain⟨ex,dl,ei,F,b8,a7,-,-,ap⟩:=y.at (j:=0) (i:=(T.1[i].edge+1).toNat) rfl (sU hfi);simp at F;obtain⟨rfl,rfl⟩:=F;obtain rfl:=Option.some.inj (ay.symm.trans b8);have m6:=ap _ _ (.d (Wq A.1)) (Wq A.1) m5 rfl rfl;have m7:=bh _ _ (.d (Um A.2.1)) (Um A.2.1) m6 rfl rfl;have al:G.1 < h.p:=d5 G (by simp[Z]);have ah:B.1 < h.p:=d9 B (by simp[Z]);have p1:=W1 al;have p2:=W1 ah;have p3:=Zv al;have p4:=Zv ah;have p5:((h'.p,208)=G)=False:=eq_false (by rintro rfl;simp at al;omega);have p6:((h'.p,208)=B)=False:=eq_false (by rintro rfl;simp at ah;omega);simp[n,N,az];refine Z6.cut (Y.qB [0,1,2,3,5,7,8,9] (.three 4 6 10 (Y.qB [] (.two 6 10 (Y.qB [10,11,12] .done) (Y.qB [6,11,12] .done))) (Y.qB [] (.two 4 10 (Y.qB [10,11,12] .done) (Y.qB [4,11,12] .done))) (Y.qB [4,6,11,12] .done))) follows kR (λo h5=>Ek E3 o [] [1,4,6,8,9,36,37,38] /\
      h5=((h4.qA u (Zi be (T.1[i].edge+1).toNat [.i A.2.2])).qA G (Zi bi (T.1[i].edge+1).toNat [.d (Wq A.1)])).qA B (Zi bc T.1[i].edge.toNat [.d (Um A.2.1)])) ?_ ?_
     .simp[n,dh,N,dg,dr,bf,hfi,bu,a8,cd,cn,a7,cw,bz,ba,q2,q4,q8,q9,d0,p1,p5]
      repeat' with_reducible refine And.intro ?_ ?_
      all_goals first
       | (refine Ze.of ⟨by simp[n],rfl⟩)
     rintro E4 h5 ⟨hF,rfl⟩;have n:=hF.an n;simp[n,hw];refine Zj.of _ ⟨⟨by simp[n],?_,?_,?_,?_,?_⟩,hm⟩;simp[p1,p2,aw];simpa using ch;simp[p1,p2,q4];exact ba;simpa[PSt.rows,YJ] using m7;exact (ck.qA (.inl (by simp[Z]))).qA (.inl (by simp[Z]));simp;omega
    simp[n,N,az,hw];refine Zj.of _ ⟨⟨by simp[n],?_,?_,?_,ck,?_⟩,hm⟩;simp[aw];simpa using ch;simp[q4];exact ba;simpa[PSt.rows,YJ] using m5;simp;omega
  |true=>?_
  rw[hbk] at hm am;simp only[cond_true] at hm;simp[n,af,N,am];unfold H3 at hm;have ⟨rn,bn,bq,hm⟩:=hm.get;have bw:(T.1[i].edge+1).toNat < (s.reached.map D.bool).length:=sU ((Y0.1 bq).1);have ⟨lr,R,br,ao,aq,_,dj,⟨xr,di,cy⟩,dx⟩:=y.at (j:=3) rfl bw;simp only[Y9,bq,Yp,Ya] at cy;obtain rfl:=Lc cy;have b3:cr=.mrow lr 0 s.reached.length R:=sU ao;subst b3;have da:(T.1[i].edge+1).toNat < s.reached.length:=sU bw;simp[n,af,N,bn,da,aq,di];cases rn with|false=>?_|true=>?_;simp only[XO,cond_true] at hm;simp[n,af,N,hw];exact Zj.of s ⟨⟨by simp[n],sU bp,ax,y,hs2,X⟩,hm⟩;simp only[Xx,cond_false] at hm;obtain⟨el,-,c7,hm⟩:=hm.get;have hne:(T.1[i].edge+1).toNat < (s.errs.map λz=>D.int .i64 z).length:=sU ((Y0.1 c7).1);have ⟨u,P,be,ca,bk,_,dn,⟨xe,dq,b7⟩,d1⟩:=y.at (j:=2) rfl hne;simp only[Y9,c7,Yp,Ya] at b7;obtain rfl:=IQ b7;have b9:ce=.mrow u 0 s.errs.length P:=sU ca;subst b9;have hne':(T.1[i].edge+1).toNat < s.errs.length:=sU hne;simp[n,af,N,bn,hne',bk,dq];refine ZP hm ?_ ?_<;>clear hm<;>intro _ hm;simp[n,af,N,hw];exact Zj.of s ⟨⟨by simp[n],sU bp,ax,y,hs2,X⟩,hm⟩;have ⟨⟨bf,ez,ef⟩,hm⟩:=hm.chk;have ⟨dv,dz,b5,hm⟩:=hm.get;obtain⟨inst,-,c8,hm⟩:=hm.get;obtain⟨cm,-,cg,hm⟩:=hm.get;have ⟨A,bv,hm⟩:=hm.bind;rw[hbk] at bv;have cx:(L.m).toNat < s.reached.length:=X
  have dc:(L.m).toNat < s.errs.length:=X;have cp:(T.1[i].edge+1).toNat < s.insts.length:=(Y0.1 c8).1;have a8:T.1[i].edge.toNat < s.comps.length:=(Y0.1 cg).1;obtain⟨em,df,ee,F,dd,bj,-,-,a1⟩:=y.at (j:=3) (i:=(L.m).toNat) rfl (sU cx);simp at F;obtain⟨rfl,rfl⟩:=F;obtain rfl:=Option.some.inj (aq.symm.trans dd);obtain⟨eg,dw,ey,F,cq,bb,-,-,ar⟩:=y.at (j:=2) (i:=(L.m).toNat) rfl (sU dc);simp at F;obtain⟨rfl,rfl⟩:=F;obtain rfl:=Option.some.inj (bk.symm.trans cq);obtain⟨G,Q,bi,F,ay,_,dt,⟨xi,dy,cb⟩,-⟩:=y.at (j:=0) (i:=(T.1[i].edge+1).toNat) rfl (sU cp);have aj:W=.mrow G 0 s.insts.length Q:=sU F;subst aj;simp only[Y9,c8,Yp,Ya] at cb;have ⟨B,O,bc,F,bt,cw,dm,⟨xc,dk,de⟩,bh⟩:=y.at (j:=1) (i:=T.1[i].edge.toNat) rfl (sU a8);have aj:U=.mrow B 0 s.comps.length O:=sU F;subst aj;simp only[Y9,cg,Yp,Ya] at de;have au:lr.1 < h'.p:=mP.lt _ (Yc _ (Yc _ (Yc _ (Y8 ..)))) lr (by simp[Z]);have cz:u.1 < h'.p:=mP.lt _ (Yc _ (Yc _ (Y8 ..))) u (by simp[Z]);have q1:=W1 au;have q2:=W1 cz;have b6:h.p+1 < lr.1:=cl lr (by simp[Z]);have b4:h.p+1 < u.1:=ea u (by simp[Z]);have q3:((h.p+1,96)=lr)=False:=eq_false (by rintro rfl;simp at b6);have q4:((h.p+1,96)=u)=False:=eq_false (by rintro rfl;simp at b4);have q5:(G=lr)=False:=eq_false (λt=>UP y.dis (k1:=0) (k2:=3) rfl rfl dE G (by simp[Z]) (by simp[Z,t]));have q6:(B=lr)=False:=eq_false (λt=>UP y.dis (k1:=1) (k2:=3) rfl rfl dE B (by simp[Z]) (by simp[Z,t]));have q7:(u=lr)=False:=eq_false (λt=>UP y.dis (k1:=2) (k2:=3) rfl rfl dE u (by simp[Z]) (by simp[Z,t]));have q8:(G=u)=False:=eq_false (λt=>UP y.dis (k1:=0) (k2:=2) rfl rfl dE G (by simp[Z]) (by simp[Z,t]))
  have q9:(B=u)=False:=eq_false (λt=>UP y.dis (k1:=1) (k2:=2) rfl rfl dE B (by simp[Z]) (by simp[Z,t]));have d0:(B=G)=False:=eq_false (λt=>UP y.dis (k1:=1) (k2:=0) rfl rfl dE B (by simp[Z]) (by simp[Z,t]));have m3:=a1 M _ (.b true) (.bool true) y rfl rfl;simp[n,af,N,am,bf,cx,aq,bj,q1];refine Z6.cu bB (λo h4=>Ek E2 o [(8,.one (.mrow u 0 s.errs.length P)),(9,.one (.mrow lr 0 s.reached.length R))] [1,4,6,36,37,38] /\
   o.get 13=.p (h'.p,208)/\o.get 16=.i (L.m)/\o.get 18=.l (A.1.map J.z)/\o.get 19=.l (A.2.1.map (Z7 J.z))/\o.get 20=.i A.2.2/\Z0 (M.qA lr (Zi br (L.m).toNat [.b true])) h4 []) ?_ ?_
  simp[n,am,d7,dz,b5,bn,cp,bu,a8,ay,bt,dy,dk,q1,q3,q5,q6,ax];refine Zx (Nv dv L.script inst cm A bv) (by simp[Wi,V.toA,(F3 cb).2.2,(F3 de).2.2]) ?_;simp[n]
  try refine⟨λ_ _ x=>x,?_⟩
  refine Ze.of ⟨by simp[n],by simp[n],I,I,I,I,?_⟩;exact sm;rintro E3 h4 ⟨hF,dh,N,dg,dr,az,ae⟩;have n:=hF.an n;have m4:=m3.new ae;have m5:=ar h4 _ (.i A.2.2) (.int .i64 A.2.2) m4 rfl rfl;have E:∀ k:Z2,k.1 < M.p->k≠lr->h4.a k=M.a k:=λk S t=>by
   have:=ae.2 k (sU S) I
   rw[this];simp[t]
  have c6:=(E u dn (sU q7)).trans bk;have cd:=(E G dt (sU q5)).trans ay;have cn:=(E B dm (sU q6)).trans bt;have bz:=(E (h'.p,208) (by show h'.p < M.p;omega) (by intro t;have h9:=au;rw[<- t] at h9;exact absurd h9 (XL _))).trans am;have ba:=(E (h.p+1,96) (by show h.p+1 < M.p;omega) (λt=>by rw[q3] at t;exact t)).trans ax;have ch:=(E (h.p,64) (by show h.p < M.p;omega) (by intro t;have h9:=b6;rw[<- t] at h9;have h9:h.p+1 < h.p:=h9;omega)).trans bp;have aw:((h.p,64)=u)=False:=eq_false (by rintro rfl;have h9:h.p+1 < h.p:=b4;omega);have cj:=ae.1;simp at cj;have ck:Z0 h (h4.qA u (Zi be (L.m).toNat [.i A.2.2])) (Z (.mrow G 0 s.insts.length Q)++Z (.mrow B 0 s.comps.length O)):=
   Z0.qA (Z0.trans (Z0.qA hs2 (.inr X)) (ae.mn)) (.inr X)
  simp[n,N,az,bf,dc,c6,bb];refine ZP hm ?_ ?_<;>clear hm<;>intro _ hm
  .have ⟨d8,hm⟩:=hm.chk;have hfi:(L.m).toNat < s.insts.length:=X
   obtain⟨ex,dl,ei,F,b8,a7,-,-,ap⟩:=y.at (j:=0) (i:=(L.m).toNat) rfl (sU hfi);simp at F;obtain⟨rfl,rfl⟩:=F;obtain rfl:=Option.some.inj (ay.symm.trans b8);have m6:=ap _ _ (.d (Wq A.1)) (Wq A.1) m5 rfl rfl;have m7:=bh _ _ (.d (Um A.2.1)) (Um A.2.1) m6 rfl rfl;have al:G.1 < h.p:=d5 G (by simp[Z]);have ah:B.1 < h.p:=d9 B (by simp[Z]);have p1:=W1 al;have p2:=W1 ah;have p3:=Zv al;have p4:=Zv ah;have p5:((h'.p,208)=G)=False:=eq_false (by rintro rfl;simp at al;omega);have p6:((h'.p,208)=B)=False:=eq_false (by rintro rfl;simp at ah;omega);simp[n,N,az];refine Z6.cut (Y.qB [0,1,2,3,5,7,8,9] (.three 4 6 10 (Y.qB [] (.two 6 10 (Y.qB [10,11,12] .done) (Y.qB [6,11,12] .done))) (Y.qB [] (.two 4 10 (Y.qB [10,11,12] .done) (Y.qB [4,11,12] .done))) (Y.qB [4,6,11,12] .done))) follows kR (λo h5=>Ek E3 o [] [1,4,6,8,9,36,37,38] /\
    h5=((h4.qA u (Zi be (L.m).toNat [.i A.2.2])).qA G (Zi bi (L.m).toNat [.d (Wq A.1)])).qA B (Zi bc T.1[i].edge.toNat [.d (Um A.2.1)])) ?_ ?_
   .simp[n,dh,N,dg,dr,bf,hfi,bu,a8,cd,cn,a7,cw,bz,ba,q2,q4,q8,q9,d0,p1,p5]
    repeat' with_reducible refine And.intro ?_ ?_
    all_goals first
     | (refine Ze.of ⟨by simp[n],rfl⟩)
   rintro E4 h5 ⟨hF,rfl⟩;have n:=hF.an n;simp[n,hw];refine Zj.of _ ⟨⟨by simp[n],?_,?_,?_,?_,?_⟩,hm⟩;simp[p1,p2,aw];simpa using ch;simp[p1,p2,q4];exact ba;simpa[PSt.rows,YJ] using m7;exact (ck.qA (.inl (by simp[Z]))).qA (.inl (by simp[Z]));simp;omega
  simp[n,N,az,hw];refine Zj.of _ ⟨⟨by simp[n],?_,?_,?_,ck,?_⟩,hm⟩;simp[aw];simpa using ch;simp[q4];exact ba;simpa[PSt.rows,YJ] using m5;simp;omega
 rintro s e h' ⟨hF,_,_,mP,hs,_⟩ hm;have n:=hF.an n;obtain rfl:=Zk hm;simp[n,ZS,ZK,ZX,W5];exact hK ce cr h' mP hs λk S=>by have:=b0 k S;omega
structure Tr(b:Bool)(S:Sch)(sc:List Stp)(Ss:List Sch)(jq0:Nat->List J)(cs cs':List (List J)):Prop where
 sch:Bu S sc=some (Ss,0)
 ok:ScrOK S sc Ss
 lc:cs.length=sc.length
 lc':cs'.length=sc.length
 conf:∀T,Ss[bif b then sc.length else 0]?=some T->CF T (jq0 (bif b then sc.length else 0))
 step:∀i x y c,sc[i]?=some x->Ss[i]?=some y->cs[i]?=some c->∃d,cs'[i]?=some d/\AI b y x (jq0 (bif b then i+1 else i)) c=some (jq0 (bif b then i else i+1),d,0)
def J6(S f)(P:∀x∈f,U7 x)(a)(v):Wp (UF S f a v) λr=>r.2.2=0->SB f.length r/\∃Ss b,Tr false S f Ss b v r.2.1/\b 0=a/\b f.length=r.1:=by
 unfold UF;refine X0 (K8 S f P) λq W hq=>X1 (λh=>X2 λg=>by simp only at g;rw[g] at h;cases h) λh=>?_;have l:=hq (sU h);have Y:q.2=0:=sU h;have O:=l.vs S (Y2 l.fst);refine X7 λE=>?_;have E:v.length=f.length:=by simp at E;omega
 refine X0 (Cp S (λT p=>(O.tab T p).pk6) a) λe _ he=>X1 (λh=>X2 λg=>by simp only at g;rw[g] at h;cases h) λh=>?_;have V:=he (sU h);have D:=V.rb O;refine X0 (Cm a (by have:=D.1;omega) λr F=>by have:=D.2 r F;omega) λQ _ U=>?_;subst U;refine X6 (λi s=>(RB s.1/\∀c∈s.2,RB c)/\s.2.length=f.length/\∃b:Nat->List J,b 0=Q/\b i=s.1/\∀j x y c,j<i->f[j]?=some x->q.1[j]?=some y->v[j]?=some c->∃d,s.2[j]?=some d/\AI false y x (b j) c=some (b (j+1),d,0)) ⟨⟨D,λc w=>by rw[(List.mem_replicate.1 w).2];exact .nil⟩,I,λ_=>Q,rfl,rfl,λj x y c h=>absurd h (XB _)⟩ ?_ λs G=>X2 λ_=>?_
 .intro i x s next M R G hn
  have hi:=(Y0.1 M).1;have⟨u,t,b,z,H,C⟩:=G;refine X3 X (by have:=l.len;omega) λB K _=>X3 X X λc L _=>X0 (show Wp (A9 B x s.1 c) _ from Rx false B x (P x R) s.1 c) λr F N=>X1 (λh=>X2 λg=>by simp only at g;rw[g] at h;cases h) λh=>?_;have A:r.2.2=0:=sU h;refine hn _ ⟨⟨(N A).1,Ry u.2 (N A).2⟩,by simp only[Xf];exact t,λk=>if k<=i then b k else r.1,by simp[z],by simp only;rw[if_neg X],λj x' y Z hj m n o=>?_⟩;rcases Yx j i with w|w;have⟨d,d1,d2⟩:=C j x' y Z w m n o;refine⟨d,by simp only;rwa [Ys X],?_⟩
  dsimp only
  rwa [if_pos X,if_pos X]
  obtain rfl:j=i:=X;rw[M] at m;simp only[Yn] at K L;rw[K] at n;rw[L] at o;cases m;cases n;cases o;refine⟨r.2.1,by simp only;rw[Yr X],?_⟩
  dsimp only
  rw[if_pos (Y7 _),if_neg X,H];show A9 B x s.1 c=_;rw[F,<-A]
 have⟨u,t,b,z,H,C⟩:=G;refine⟨⟨u.1,t,u.2,l.l6⟩,q.1,b,⟨by rw[W,<-Y],l,E,t,λT p=>?_,λi x y c m n o=>C i x y c (Y0.1 m).1 m n o⟩,z,H⟩;simp only[cond_false] at p|-;rw[l.fst] at p;cases p
 rwa [z]
def Mk(S g)(R:∀x∈g,U7 x)(a)(v):Wp (UD S g a v) λr=>r.2.2=0->SB g.length r/\∃Ss b,Tr true S g Ss b v r.2.1/\b g.length=a/\b 0=r.1:=by
 unfold UD;refine X0 (K8 S g R) λq aq hq=>X1 (λh=>X2 λf=>by simp only at f;rw[f] at h;cases h) λh=>?_;have u:=hq (sU h);have ar:q.2=0:=sU h;have aw:=u.len;refine X7 λG=>?_;have G:v.length=g.length:=by simp at G;omega
 refine X3 X X λl O ap=>?_;have Q:=u.vs l ap;refine X0 (Cp l (λT p=>(Q.tab T p).pk6) a) λe _ he=>X1 (λh=>X2 λf=>by simp only at f;rw[f] at h;cases h) λh=>?_;have Z:=he (sU h);have F:=Z.rb Q;refine X0 (Cm a (by have:=F.1;omega) λr K=>by have:=F.2 r K;omega) λU _ Y=>?_;subst Y;refine Xd (λs:Int×List J×List (List J)=>(RB s.2.1/\∀c∈s.2.2,RB c)/\-1<=s.1/\s.1<g.length/\s.2.2.length=g.length/\∃b:Nat->List J,b g.length=U/\b (s.1+1).toNat=s.2.1/\∀(j:Nat) x y c,s.1<j->g[j]?=some x->q.1[j]?=some y->v[j]?=some c->∃d,s.2.2[j]?=some d/\AI true y x (b (j+1)) c=some (b j,d,0)) (λs=>(s.1+1).toNat) ?_ _ _ ⟨⟨F,λc w=>by simp only at w;rw[(List.mem_replicate.1 w).2];exact .nil⟩,by simp only;omega,by simp only;omega,I,λ_=>U,rfl,rfl,λj x y c h m=>?_⟩ (by simp only;omega)
 .intro s next hs hn
  have⟨E,au,H,B,b,V,t,z⟩:=hs;refine X1 (λf=>?_) λf=>X2 λ_=>?_;have f:0<=s.1:=sU f;obtain⟨i,A⟩:∃i:Nat,s.1=i:=⟨s.1.toNat,X⟩;refine X3 f X λD L _=>X3 f X λx N W=>X3 f X λc M _=>X0 (show Wp (A8 D x s.2.1 c) _ from Rx true D x (R x W) s.2.1 c) λr K P=>X1 (λh=>X2 λf=>by simp only at f;rw[f] at h;cases h) λh=>?_;have C:r.2.2=0:=sU h;rw[A,Yn] at L N M;rw[A] at t H z;rw[show((i:Int)+1).toNat=i+1 by omega] at t;refine hn _ ⟨⟨(P C).1,Ry E.2 (P C).2⟩,by simp only;omega,by simp only;omega,by simp only[Xf];exact B,λk=>if i+1<=k then b k else r.1,by simp only;rwa [if_pos X],by simp only;rw[if_neg X],λj x' y c' hj m n o=>?_⟩ (by simp only;omega);simp only at hj;rcases Yx i j with w|w;have⟨d,d1,d2⟩:=z j x' y c' X m n o;refine⟨d,by simp only[A,Yn];rwa [Ys X],?_⟩
  dsimp only
  rwa [if_pos X,if_pos X]
  obtain rfl:j=i:=X;rw[N] at m;rw[L] at n;rw[M] at o;cases m;cases n;cases o;refine⟨r.2.1,by simp only[A,Yn];rw[Yr X],?_⟩
  dsimp only
  rw[if_pos (Y7 _),if_neg X,t];show A8 D x s.2.1 c=_;rw[K,<-C];have f:s.1=-1:=by
   have:¬0<=s.1:=sU f
   omega
  rw[f] at t z;refine⟨⟨E.1,B,E.2,u.l6⟩,q.1,b,⟨by rw[aq,<-ar],u,G,B,λT p=>?_,λi x y c m n o=>z i x y c X m n o⟩,V,t⟩;simp only[cond_true] at p|-;simp only[Yn] at O;rw[O] at p;cases p
  rwa [V]
 have:=(Y0.1 m).1
 simp only at h;omega
def Zdg{S e z a u b}(t:Tr false S e z a u b):UF S e (a 0) u=some (a e.length,b,0):=by
 have f:=t.ok;have hl:=t.lc;have hl':=t.lc';have ah:=f.len;have w:=f.vs S (Y2 f.fst);have y:CF S (a 0):=t.conf S f.fst;have p:=y.rb w;refine Ww ?_;unfold UF;refine Xb t.sch ?_;refine X9 rfl<|X9 sO<|Xb (Ie (λT B=>(w.tab T B).pk6) y) ?_;refine X9 rfl<|X0 (Cm (a 0) (by have:=p.1;omega) λr D=>by have:=p.2 r D;omega) λi2 _ A=>?_;subst A;refine X6 (λi s=>s.1=a i/\s.2.length=e.length/\∀j:Nat,j<i->s.2[j]?=b[j]?) ⟨rfl,I,λj h=>absurd h (XB _)⟩ ?_ λs l=>X2 ?_
 .intro i x s next o _ l C
  have hi:=(Y0.1 o).1;have⟨g,v,k⟩:=l;refine X3 X (by simp only;omega) λq m _=>X3 X X λc n _=>?_;simp only[Yn] at m n;have⟨d,d1,d2⟩:=t.step i x q c o m n;refine Xb (show A9 q x s.1 c=some (a (i+1),d,0) by rw[g];exact d2) ?_;refine X9 rfl<|C _ ⟨rfl,by simp only[Xf];exact v,λj hj=>?_⟩;rcases Yx j i with h9|h9;simp only;rw[Ys X];exact k j h9;obtain rfl:j=i:=X
  simp only;rw[Yr X,d1]
 have⟨g,v,k⟩:=l;rw[g,show s.2=b from YU λj=>by rcases Yx j e.length with h9|h9;exact k j h9;rw[Yq X,Yq X]]
def Zdu{S b k a y e}(t:Tr true S b k a y e):UD S b (a b.length) y=some (a 0,e,0):=by
 have p:=t.ok;have hl:=t.lc;have hl':=t.lc';have al:=p.len;have l:k[b.length]?=some (k[b.length]'X):=Y1 X;have z:=p.last l;have A:CF _ (a b.length):=t.conf _ l;have v:=A.rb z;refine Ww ?_;unfold UD;refine Xb t.sch ?_;refine X9 rfl<|X9 sO<|X5 l (Xb (Ie (λT E=>(z.tab T E).pk6) A) ?_);refine X9 rfl<|X0 (Cm (a b.length) (by have:=v.1;omega) λr H=>by have:=v.2 r H;omega) λi2 _ B=>?_;subst B;refine Xd (λs:Int×List J×List (List J)=>-1<=s.1/\s.1<b.length/\s.2.1=a (s.1+1).toNat/\s.2.2.length=b.length/\∀j:Nat,s.1<j->j<b.length->s.2.2[j]?=e[j]?) (λs=>(s.1+1).toNat) ?_ _ _ ⟨by simp only;omega,by simp only;omega,by simp only;congr 1;omega,I,λj h g=>by simp only at h;omega⟩ (by simp only;omega);intro s next K G
 have⟨am,hlt,g,D,m⟩:=K;refine X1 (λf=>?_) λf=>X2 ?_;have f:0<=s.1:=sU f;obtain⟨i,n⟩:∃i:Nat,s.1=i:=⟨s.1.toNat,X⟩;refine X3 f (by simp only;omega) λw o _=>X3 f X λx u ak=>X3 f X λc q _=>?_;rw[n,Yn] at o u q;have⟨d,d1,d2⟩:=t.step i x w c u o q;rw[n,show((i:Int)+1).toNat=i+1 by omega] at g;refine Xb (show A8 w x s.2.1 c=some (a i,d,0) by rw[g];exact d2) ?_;refine X9 rfl<|G _ ⟨by simp only;omega,by simp only;omega,by simp only;congr 1;omega,by simp only[Xf];exact D,λj F C=>?_⟩ (by simp only;omega);simp only at F|-;rw[n,Yn];rcases Yx i j with h9|h9;rw[Ys X];exact m j X C;obtain rfl:j=i:=X
 rw[Yr X,d1];have f:s.1=-1:=by
  have:¬0<=s.1:=sU f
  omega
 rw[f] at g m;rw[g,show s.2.2=e from YU λj=>by rcases Yx j b.length with h9|h9;exact m j X h9;rw[Yq X,Yq X]];rfl
def Rt{b S e g a u f}(v:∀x∈e,U7 x)(t:Tr b S e g a u f)(B:∀T,g[bif b then 0 else e.length]?=some T->CF T (a (bif b then 0 else e.length))):Tr false S e g a f f/\Tr true S e g a f f:=by
 have q:=t.ok;have ac:=q.len;have hl:=t.lc;have m:=t.lc';have z:∀{i:Nat},(h:i<e.length)->e[i]?=some e[i]:=λh=>Y1 h;have r:∀{i:Nat},(h:i<g.length)->g[i]?=some g[i]:=λh=>Y1 h;have w:∀{i:Nat},(h:i<u.length)->u[i]?=some u[i]:=λh=>Y1 h;have A:∀{i:Nat} (h:i<e.length),VR (g[i]'X) e[i]=some (g[i+1]'X,0):=λh=>q.step _ _ _ _ (z h) (r X) (r X);have k:∀(i:Nat) T,g[i]?=some T->CF T (a i):=λi T j=>by
  have C:=(Y0.1 j).1;cases b with|false=>?_|true=>?_;rcases Yx i e.length with n|n;obtain⟨d,-,d2⟩:=t.step i _ _ _ (z n) j (w X)
  have:=A n
  rw[(Y0.1 j).2] at this;exact QZ (v _ (Yh n)) this d2;obtain rfl:i=e.length:=X;exact B T j;cases i with
  |zero=>exact B T j
  |succ i=>?_
  have n:i<e.length:=X;obtain⟨d,-,d2⟩:=t.step i _ _ _ (z n) (r X) (w X)
  have:=QZ (v _ (Yh n)) (A n) d2
  rwa [(Y0.1 j).2] at this
 have s:∀(i:Nat) x y c,e[i]?=some x->g[i]?=some y->f[i]?=some c->AI false y x (a i) c=some (a (i+1),c,0)/\AI true y x (a (i+1)) c=some (a i,c,0):=λi x y c l o p=>by
  have C:=(Y0.1 l).1;have⟨d,d1,d2⟩:=t.step i x y _ l o (w X);rw[p] at d1;cases d1
  have:=q.step i x y _ l o (r X)
  cases b with|false=>?_|true=>?_;exact Q1 (v x (Y2 l)) this d2 (k _ _ (r X));exact(Q1 (v x (Y2 l)) this d2 (k _ _ o)).symm
 exact⟨⟨t.sch,q,m,m,λT j=>k _ _ j,λi x y c l o p=>⟨c,p,(s i x y c l o p).1⟩⟩,⟨t.sch,q,m,m,λT j=>k _ _ j,λi x y c l o p=>⟨c,p,(s i x y c l o p).2⟩⟩⟩
def Jn(P:Sch)(d:List Stp)(a b:List J)(c:List (List J)):Prop:=UF P d a c=some (b,c,0)/\UD P d b c=some (a,c,0)/\SB d.length (b,c,0)
def Z58{k P C e}(n:∀x∈e,U7 x)(A:Cn P e=some (C,0)){a b c i}(h:EZ k P e (bif k then b else a) c=some (bif k then a else b,i,0))(hc:CF (bif k then P else C) (bif k then a else b)):Jn P e a b i:=by
 have⟨q,y,z⟩:=NJ P e n;rw[A] at y;cases y;have⟨all,w,B,D⟩:=z rfl;have v:∀{o d},Tr false P e o d i i->Tr true P e o d i i->d 0=a->d e.length=b->Jn P e a b i:=λ{o d} t1 t2 s l=>by have f:=Zdg t1;have g:=Zdu t2;rw[s,l] at f g;refine⟨f,g,?_⟩;have⟨r,j,p⟩:=J6 P e n a i;rw[f] at j;cases j;exact(p rfl).1
 cases k with|false=>?_|true=>?_;have⟨r,j,p⟩:=J6 P e n a c;have h:UF P e a c=some (b,i,0):=h;rw[h] at j;cases j;obtain⟨-,o,d,t,s,l⟩:=p rfl;have u:=t.sch;rw[w] at u;cases u;have⟨t1,t2⟩:=Rt n t λT m=>by
  simp only[cond_false] at m|-;rw[D] at m;cases m
  rwa [l]
 exact v t1 t2 s l;have⟨r,j,p⟩:=Mk P e n b c;have h:UD P e b c=some (a,i,0):=h;rw[h] at j;cases j;obtain⟨-,o,d,t,s,l⟩:=p rfl;have u:=t.sch;rw[w] at u;cases u;have⟨t1,t2⟩:=Rt n t λT m=>by
  simp only[cond_true] at m|-;rw[B.fst] at m;cases m
  rwa [l]
 exact v t1 t2 l s
def HO(row:aE)(k0:Sch)(k1:List J)(k2:Fk):aB Bool:=
 Z1 (D9 k0 k1 k2 row) λv1=>some !v1
instance Z00(row:aE)(k0:Sch)(k1:List J)(k2:Fk):Con (HO row k0 k1 k2) prog 89 [.one (.d (.sl (row.map GV.z))),.one (.rp [.sl (k0.q.map E.z),.sl (k0.b.map Fk.z),.sl (k0.cons.map Cons.z)]),.one (.rp [.sl (k1.map J.z)]),.one (.rp [.str k2.u,.sl (k2.j.map Zg),.str k2.ref])] (λr=>.one (.d (.bool r))):=by unfold HO;exact go 12 func89
instance Zgw(k0:Sch)(k1:List J)(k2:Fk):ConF (λx=>HO x k0 k1 k2) prog (λx=>.one (.d (.sl (x.map GV.z)))) (λr=>.one (.d (.bool r))) 89 [[.sl (k0.q.map E.z),.sl (k0.b.map Fk.z),.sl (k0.cons.map Cons.z)],[.sl (k1.map J.z)],[.str k2.u,.sl (k2.j.map Zg),.str k2.ref]]:=⟨λx=>(Z00 x k0 k1 k2)⟩
def HN(row:aE)(k0:Cons):aB Bool:=
 Z1 (Dc k0 row) λv1=>some !v1
instance TZ(row:aE)(k0:Cons):Con (HN row k0) prog 91 [.one (.d (.sl (row.map GV.z))),.one (.rp [.str k0.u,.int .i64 k0.left,.str k0.op,.int .i64 k0.right,.int .i64 k0.value.g,.int .i64 k0.value.int,.str k0.value.text])] (λr=>.one (.d (.bool r))):=by unfold HN;exact go 8 func91
instance Zgv(k0:Cons):ConF (λx=>HN x k0) prog (λx=>.one (.d (.sl (x.map GV.z)))) (λr=>.one (.d (.bool r))) 91 [[.str k0.u,.int .i64 k0.left,.str k0.op,.int .i64 k0.right,.int .i64 k0.value.g,.int .i64 k0.value.int,.str k0.value.text]]:=⟨λx=>(TZ x k0)⟩
def Bs(s_:Sch)(inst:List J):aB Int:=
 Z1 (VE s_ inst) λv3=>bif (v3 !=0) then some v3 else Zd (λ(i6:Nat) (x6:Fk) (s6:Unit) next_6=>Z1 (Vv s_ inst x6.u) λv8=>Z1 (BX v8.2 (λxa_=>HO xa_ s_ inst x6)) λv10=>bif v10 then some 10 else next_6 ()) (λ(s6:Unit)=>Zd (λ(i13:Nat) (x13:Cons) (s13:Unit) next_13=>Z1 (Vv s_ inst x13.u) λv15=>Z1 (BX v15.2 (λxa_=>HN xa_ x13)) λv17=>bif v17 then some 11 else next_13 ()) (λ(s13:Unit)=>some 0) s_.cons 0 ()) s_.b 0 ()
instance Z0h(s_:Sch)(inst:List J):Con (Bs s_ inst) prog 56 [.agg s_.z,.one (.d (.sl (inst.map J.z)))] (λr=>.one (.d (.int .i64 r))):=by unfold Bs;have l1:LH (σ:=Unit) 23 [2,3,21,22] []:=.intro;have l2:LH (σ:=Unit) 42 [2,3,40,41] []:=.intro;exact go 58 func56
instance Zht(s_:Sch)(script:List Stp)(source:List J)(comps:List (List J)):Con (UF s_ script source comps) prog 93 [.agg s_.z,.one (.d (.sl (script.map Stp.z))),.one (.d (.sl (source.map J.z))),.one (.d (.sl (comps.map (Z7 J.z))))] (λr=>.tup [.one (.d (.sl (r.1.map J.z))),.one (.d (.sl (r.2.1.map (Z7 J.z)))),.one (.d (.int .i64 r.2.2))]):=⟨λr hm=>NA s_ script source comps r hm⟩
instance Zhn(s_:Sch)(script:List Stp)(target:List J)(comps:List (List J)):Con (UD s_ script target comps) prog 94 [.agg s_.z,.one (.d (.sl (script.map Stp.z))),.one (.d (.sl (target.map J.z))),.one (.d (.sl (comps.map (Z7 J.z))))] (λr=>.tup [.one (.d (.sl (r.1.map J.z))),.one (.d (.sl (r.2.1.map (Z7 J.z)))),.one (.d (.int .i64 r.2.2))]):=⟨λr hm=>Nv s_ script target comps r hm⟩
def JN(s1:List (List J))(s2:List (List J))(eq:(List J)->(List J)->aB Bool):aB Bool:=
 bif ((s1.length:Int) !=(s2.length:Int)) then some false else Zd (λ(i5:Nat) (x5:List J) (s5:Unit) next_5=>Za s2 (i5:Int) λx6=>Z1 (eq x5 x6) λv7=>bif !v7 then some false else next_5 ()) (λ(s5:Unit)=>some true) s1 0 ()
instance Zfz(s1:List (List J))(s2:List (List J))(eq:(List J)->(List J)->aB Bool){g:FuncId}{caps:List aC}[ConG eq prog (λx=>.one (.d (.sl (x.map J.z)))) (λx=>.one (.d (.sl (x.map J.z)))) (λv=>.one (.d (.bool v))) g caps]:Con (JN s1 s2 eq) prog 132 [.one (.d (.sl (s1.map (Z7 J.z)))),.one (.d (.sl (s2.map (Z7 J.z)))),.one (.fn g caps)] (λr=>.one (.d (.bool r))):=by unfold JN;have l1:LH (σ:=Unit) 17 [1,2,15,16] []:=.intro;exact go 32 func132
def Ej(a:List (List J))(b:List (List J)):aB Bool:=
 Z1 (JN a b (λxa_ xb_=>C3 xa_ xb_)) λv1=>some v1
instance Zhe(a:List (List J))(b:List (List J)):Con (Ej a b) prog 96 [.one (.d (.sl (a.map (Z7 J.z)))),.one (.d (.sl (b.map (Z7 J.z))))] (λr=>.one (.d (.bool r))):=by unfold Ej;exact go 8 func96
def Da(s_:Sch)(sc:List Stp)(parent:List J)(child:List J)(complements:List (List J)):aB Bool:=
 Z1 (UF s_ sc parent complements) λv2=>Z1 (UD s_ sc child complements) λv3=>bif (v2.2.2==0) then bif (v3.2.2==0) then Z1 (C3 v2.1 child) λv6=>(bif v6 then Z1 (C3 v3.1 parent) λv8=>(bif v8 then Z1 (Ej v2.2.1 complements) λv10=>(bif v10 then Z1 (Ej v3.2.1 complements) λv12=>(some v12) else some false) else some false) else some false) else(some false) else some false
instance Zgz(s_:Sch)(sc:List Stp)(parent:List J)(child:List J)(complements:List (List J)):Con (Da s_ sc parent child complements) prog 57 [.agg s_.z,.one (.d (.sl (sc.map Stp.z))),.one (.d (.sl (parent.map J.z))),.one (.d (.sl (child.map J.z))),.one (.d (.sl (complements.map (Z7 J.z))))] (λr=>.one (.d (.bool r))):=by unfold Da;exact go 61 func57
def C0(g_:Gr)(db:Db):aB Int:=
 Z1 (Ar g_) λv3=>bif (v3.2 !=0) then some v3.2 else bif ((db.insts.length:Int) !=(v3.1.length:Int)) then some 3 else bif ((db.comps.length:Int) !=(g_.n.length:Int)) then some 3 else Zd (λ(i12:Nat) (x12:Sch) (s12:Unit) next_12=>Za db.insts (i12:Int) λx14=>Z1 (Bs x12 x14) λv15=>bif (v15 !=0) then some v15 else next_12 ()) (λ(s12:Unit)=>Zd (λ(i18:Nat) (x18:Edg) (s18:Unit) next_18=>Za v3.1 x18.m λx20=>Za db.insts x18.m λx21=>Za db.insts (i18+1:Int) λx22=>Za db.comps (i18:Int) λx23=>Z1 (Da x20 x18.script x21 x22 x23) λv24=>bif !v24 then some 13 else next_18 ()) (λ(s18:Unit)=>some 0) g_.n 0 ()) v3.1 0 ()
instance Z0i(g_:Gr)(db:Db):Con (C0 g_ db) prog 36 [.agg g_.z,.agg db.z] (λr=>.one (.d (.int .i64 r))):=by unfold C0;have l1:LH (σ:=Unit) 37 [2,3,5,35,36] []:=.intro;have l2:LH (σ:=Unit) 56 [3,5,54,55] []:=.intro;have p1:PH [9] (Y.qB aN .done):=.intro;have p2:PH [16] (Y.qB [0,1,2,3,4,5,6,7,8,9,10,11,12,13,14,15,16,17,18,19,20,21,22,23,24,25] .done):=.intro;exact go 88 func36
instance Zic(s_:Sch)(inst:List J)(changes:List Chg):Con (Co s_ inst changes) prog 43 [.agg s_.z,.one (.d (.sl (inst.map J.z))),.one (.d (.sl (changes.map Chg.z)))] (λr=>.tup [.one (.d (.sl (r.1.map J.z))),.one (.d (.int .i64 r.2))]):=⟨λr hm=>NO s_ inst changes r hm⟩
def Zq3(x:List J):Prop:=x.length<=2097152/\∀r∈x,r.rows.length<=2097152
instance(x:List J):Decidable (Zq3 x):=inferInstanceAs (Decidable (_/\_))
def MV(a:Db):Prop:=(∀x∈a.insts,Zq3 x)/\∀l∈a.comps,l.length<=2097152/\∀x∈l,Zq3 x
instance(db:Db):Decidable (MV db):=inferInstanceAs (Decidable (_/\_))
def Ix{α β:Type}{f:α->aB β}{g:α->β->α}:∀(a:List α) (i:Nat) (s:List α),s.length+a.length<=2097152->(∀x∈a,∃v,f x=some v/\g x v=x)->
  Zd (λ(_:Nat) x s next=>Z1 (f x) λv=>Wn s [g x v] λ_=>next (s++[g x v])) (λs=>some s) a i s=some (s++a)
 |[],i,s,_,_=>by simp[Zd]
 |x::a,i,s,c,hf=>by
   have⟨v,d,b⟩:=hf x I;simp only[YM] at c;show Z1 (f x) _=_;rw[d];show Wn s [g x v] _=_;rw[b];show Zp _ _=_;unfold Zp;rw[if_pos sO];show Zd _ _ a (i+1) (s++[x])=_;rw[Ix a (i+1) (s++[x]) sO λy e=>hf y (by simp[e])];simp
def Z2t{a:List aE}(h:a.length<=2097152):Is (VG a) a:=
 Ix (f:=Ee) (g:=λ_ v=>v) a 0 [] (sU h) λx _=>⟨x,rfl,rfl⟩
def NV{x:List J}(h:Zq3 x):Is (Vw x) x:=
 Ix (f:=λr:J=>VG r.rows) (g:=λr v=>⟨r.u,v⟩) x 0 [] (sU h.1) λr a=>⟨r.rows,Z2t (h.2 r a),rfl⟩
def Z3i{l:List (List J)}(h:l.length<=2097152)(c:∀x∈l,Zq3 x):Is (Dg l) l:=by
 have:Hr l (λa=>Vw a)=some l:=
  Ix (f:=λx=>Vw x) (g:=λ_ v=>v) l 0 [] (sU h) λx b=>⟨x,NV (c x b),rfl⟩
 unfold Dg;rw[this];rfl
def Di(g:Gr)(a:Db)(v:Int)(d:List Chg):aB (Db×List Int×Int):=
 Z1 (C0 g a) λe=>bif e !=0 then some (⟨[],[]⟩,[],e) else
 bif decide (v<0)||decide ((a.insts.length:Int)<=v) then some (⟨[],[]⟩,[],4) else
 Z1 (Ar g) λq=>Za q.1 v λS=>Za a.insts v λb=>Z1 (Co S b d) λr=>
 bif r.2 !=0 then some (⟨[],[]⟩,(List.replicate q.1.length 0).set v.toNat r.2,0) else Zp (MV a)<|
 Z1 (FM g q.1 (a.insts.set v.toNat r.1) a.comps v) λs=>
 Zd (λ(u:Nat) (S2:Sch) (t:List Int×Bool) next=>Za s.reached u λh=>Za t.1 u λc=>
  bif h&&(c==0) then Za s.insts u λf=>Z1 (Bs S2 f) λe=>next (t.1.set u e,t.2||(e !=0)) else next (t.1,t.2||(c !=0)))
  (λt=>bif t.2 then some (⟨[],[]⟩,t.1,0) else some (⟨s.insts,s.comps⟩,t.1,0)) q.1 0 (s.errs,false)
def LC{h:HS}{c:C}{a:List Int}(m:Wt h c (a.map λz=>.int .i64 z)):Frz h c (.sl (a.map Zg)):=by
 have b:(a.map λz=>D.int .i64 z).map (λd=>[d])=a.map Zg:=by rw[YY];rfl
 rw[<-b];exact m.frz
def Z7n{h:HS}{c:C}{l:List (List J)}(m:Wt h c (l.map Wq)):Frz h c (.sl (l.map (Z7 J.z))):=by
 have a:(l.map Wq).map (λd=>[d])=l.map (Z7 J.z):=by rw[YY];rfl
 rw[<-a];exact m.frz
def Z7x{h:HS}{c:C}{l:List (List (List J))}(m:Wt h c (l.map Um)):Frz h c (.sl (l.map (Z7 (Z7 J.z)))):=by
 have a:(l.map Um).map (λd=>[d])=l.map (Z7 (Z7 J.z)):=by rw[YY];rfl
 rw[<-a];exact m.frz
def Z1d(g:Gr)(o:Db)(v:Int)(aa:List Chg)(r:Db×List Int×Int)(hm:Is (Di g o v aa) r):
  Zq prog 46 [.agg g.z,.agg o.z,.i v,.l (aa.map Chg.z)] (.tup [.agg (r.1.z.map RC.d),.l (r.2.1.map Zg),.i r.2.2]):=by
 unfold Di at hm;refine Zq.of_heap ?_;show Z5 _ _ [.agg (g.z.map C.d),.agg (o.z.map C.d),.i v,.l (aa.map Chg.z)] HS.init _;refine Z5.ov func46 ?_;have⟨e,he,hm⟩:=hm.bind;simp;refine Zx ((Z0i g o).h e he) I ?_;simp;refine ZP hm ?_ ?_<;>clear hm<;>intro hc hm;obtain rfl:=Zk hm;simp[ZS,ZK,ZX,W5];exact⟨⟨.data rfl,.data rfl,trivial⟩,.data rfl,.data rfl,trivial⟩;simp;have bad:∀(h':HS),F8 h' (.tup [.agg [.nil,.nil],.one .nil,.i 4]) (.tup [.agg ((⟨[],[]⟩:Db).z.map RC.d),.l (([]:List Int).map Zg),.i 4]):=λh'=>⟨⟨.data rfl,.data rfl,trivial⟩,.data rfl,.data rfl,trivial⟩;by_cases hv0:v<0;simp only[hv0,decide_true,Bool.true_or,cond_true] at hm;obtain rfl:=Zk hm;simp[hv0,ZS,ZK,ZX,W5];exact bad _;have ca:decide (v<0)=false:=by simp[hv0]
 rw[ca,Bool.false_or] at hm;simp[hv0];intro dn
 try simp[hv0]
 refine ZP hm ?_ ?_<;>clear hm<;>intro dm hm;obtain rfl:=Zk hm;simp[ZS,ZK,ZX,W5];exact bad _;have⟨q,W,hm⟩:=hm.bind;have⟨S,ar,hS,hm⟩:=hm.get;obtain⟨inst,-,bh,hm⟩:=hm.get;have⟨F,cp,hm⟩:=hm.bind;simp;refine Zx ((Ns g).h q W) I ?_;simp;refine Z6.cu aZ (λe1 L=>En e1 127 [(2,.i v),(4,.p (0,64)),(5,.p (1,80)),(8,.p (2,128)),(12,.l (q.1.map Sch.z)),(14,.l (F.1.map J.z)),(15,.i F.2)]/\
  L.a (0,64)=some (g.z.map C.d)/\L.a (1,80)=some (o.z.map C.d)/\L.a (2,128)=some [.nil,.nil]/\2<L.p) ?_ ?_
 simp[ar,hS,bh];refine Zx (NO S inst aa F cp) I ?_;simp[ar,hS,bh]
 try refine⟨λ_ _ x=>x,?_⟩
 exact Ze.of ⟨I,I,I,I,I⟩;rintro e1 L ⟨n,bg,aj,br,di⟩;simp[n];refine ZP hm ?_ ?_<;>clear hm<;>intro dp hm;obtain rfl:=Zk hm;simp[n];intro cw;refine⟨X,?_⟩;have cb:v.toNat<q.1.length:=(Y0.1 hS).1;have c0:Wt (L.qA (L.p,1008) (List.replicate q.1.length (.d (.int .i64 0)))) (.mrow (L.p,1008) 0 q.1.length q.1.length) (List.replicate q.1.length (.int .i64 0)):=Wt.make (zc:=.d (.int .i64 0)) I rfl cw;obtain⟨lr,cap,bs,cj,b6,bv,-,ah⟩:=c0.at (i:=v.toNat) (sU cb);simp only[Xi,C.mrow.injEq,true_and] at cj;obtain⟨rfl,rfl⟩:=cj;simp at b6;subst b6;simp only[Xi] at bv;simp[n,ar,cb,bv,br];simp[ZS,ZK,ZX,W5,n,br];refine⟨⟨.data rfl,.data rfl,trivial⟩,?_,.data rfl,trivial⟩;have e9:(List.replicate q.1.length [D.int i64 0]).set v.toNat [D.int i64 F.2]=((List.replicate q.1.length (0:Int)).set v.toNat F.2).map Zg:=by rw[YJ,Y35];rfl
 have c8:((List.replicate q.1.length (0:Int)).set v.toNat F.2).map (λz=>D.int .i64 z)=(List.replicate q.1.length (D.int .i64 0)).set v.toNat (.int .i64 F.2):=by rw[YJ,Y35]
 show Frz _ _ _;rw[e9];refine LC ?_;rw[c8];refine(ah L (.d (.int .i64 F.2)) (.int .i64 F.2) rfl).frame λl hl=>?_;simp[Z] at hl;subst hl;simp;have⟨bb,hm⟩:=hm.chk;have⟨s,hs,hm⟩:=hm.bind;simp only[Gr.z,Db.z,Yb,Yf] at bg aj;simp[n,aj];refine Zc (Z10 _ o (λx hx=>NV (bb.1 x hx)) (λl hl=>Z3i (bb.2 l hl).1 (bb.2 l hl).2) _ λci K A mI mC hl hd O=>?_);simp[n,aj];have mB:MC A [(ci,o.insts.map Wq),(K,o.comps.map Um)]:=by
  refine⟨λq W=>?_,λq W k y=>?_,?_⟩;simp only[Y5,Xn,or_false] at W;rcases W with rfl|rfl;exact mI;exact mC;simp only[Y5,Xn,or_false] at W;rcases W with rfl|rfl;exact(hl k (by simp[y])).2;exact(hl k (by simp[y])).2;simp only[YI,XS,Ym];exact Yk.2 ⟨Vx,Vx,λa ha b hb he=>hd a ha (he▸hb)⟩
 have b3:v.toNat<(o.insts.map Wq).length:=sU ((Y0.1 bh).1);obtain⟨E,f,bi,cx,cn,cl,ch,-,ah⟩:=mB.at (j:=0) (i:=v.toNat) rfl b3;have bm:ci=.mrow E 0 o.insts.length f:=sU cx;subst bm;have bq:v.toNat < o.insts.length:=sU b3;have p1:=Zv ch;have p2:=W1 ch;have dj:=O.1;have ae:∀ k ∈ Z (.mrow E 0 o.insts.length f)++Z K,L.p<=k.1/\k.1 < A.p:=λk y=>hl k y;have p3:∀ a b:Nat,a<=2->((a,b)=E)=False:=λa b ha=>eq_false (by rintro rfl;have:=(ae (a,b) (by simp[Z])).1;simp at this;omega);have b0:=(O.2 (0,64) sO I).trans bg;have b1:=(O.2 (1,80) sO I).trans aj;have P:=(O.2 (2,128) sO I).trans br;simp[n,aj,ar,bq,cn,cl,p1,p2,p3,b0,b1,P];have da:(o.insts.set v.toNat F.1).map Wq=(o.insts.map Wq).set v.toNat (Wq F.1):=YJ;refine Zc (Z04 _ g q.1 (o.insts.set v.toNat F.1) o.comps v (.mrow E 0 o.insts.length f) K s hs (by
  rw[da];refine ah _ _ (.d (Wq F.1)) (Wq F.1) (mB.new ?_) rfl rfl;exact sm) _ λU cr h3 G bj hge=>?_)
 have c2:=bj.2 (2,128) sO (λh9=>by have:=(ae _ h9).1;simp at this;omega);have b7:=bj.2 (A.p,272) I (λh9=>by have:=(ae _ h9).2;simp at this);have dk:((2,128):Z2)≠(A.p,272):=by intro h9;simp at h9
 simp[p2,p3,P] at c2 b7;have bn:=bj.1;simp at bn;simp[n];intro dr;have a7:∀ k ∈ Z U++Z cr,A.p < k.1:=λk y=>by have:=hge k y;simp at this;omega
 have df:∀ k ∈ Z (.mrow E 0 o.insts.length f)++Z K,L.p<=k.1/\k.1 < A.p:=ae;refine Z6.for (xs:=q.1) (s0:=(s.errs,false)) (λu t e h'=>En e 127 [(8,.p (2,128)),(17,.p (A.p,272)),(18,.one U),(19,.one cr),(20,.b t.2),(85,.l (q.1.map Sch.z)),(86,.i (q.1.length:Int)),(87,.i (u:Int))] /\
  h'.a (2,128)=some [.nil,.nil]/\h'.a (A.p,272)=some [.mrow E 0 o.insts.length f,K]/\MC h' ((⟨s.insts,s.comps,t.1,s.reached⟩:PSt).rows (.mrow E 0 o.insts.length f) K U cr)/\A.p < h'.p) hm
  ⟨by simp[n],c2,b7,G,X⟩ ?_ ?_
 .rintro u t e h' ⟨n,P,af,G,ag⟩ hlt hm;have hw:IntKind.i64.wrap ((u:Int)+1)=(u:Int)+1:=Y6 _ X;have ⟨ru,cg,hm⟩:=hm.qQ;have ⟨eu,bw,hm⟩:=hm.qQ;have ap:u < s.reached.length:=(Y0.1 cg).1;have N:u < t.1.length:=(Y0.1 bw).1;obtain⟨lr,B,br,de,bd,dg,bt,⟨xr,ba,ck⟩,-⟩:=G.at (j:=3) (i:=u) rfl (sU ap);simp only[Y9,cg,Yp,Ya] at ck;obtain rfl:=Lc ck;have bp:cr=.mrow lr 0 s.reached.length B:=sU de;subst bp;have ⟨T,R,be,dc,aq,bu,b5,⟨xe,bf,bz⟩,bc⟩:=G.at (j:=2) (i:=u) rfl (sU N);simp only[Y9,bw,Yp,Ya] at bz;obtain rfl:=IQ bz;have Y:U=.mrow T 0 t.1.length R:=sU dc;rw[Y] at n;have q1:=W1 bt;have q2:=W1 b5;have q3:=Zv bt;have q4:=Zv b5;have q5:∀ b,((A.p,b)=T)=False->True:=λ_ _=>trivial;have a8:E.1 < h'.p:=G.lt _ (Y8 ..) E (by simp[Z]);have q6:=Zv a8;have q7:=W1 a8;have dh:((2,128):Z2)≠(h'.p,352):=by intro h9;simp at h9
  have b9:=Zv (l:=(A.p,272)) ag;have Q:∀ h6:HS,Z0 h' h6 []->h6.a (2,128)=some [.nil,.nil]/\h6.a (A.p,272)=some [.mrow E 0 o.insts.length f,K]/\MC h6 ((⟨s.insts,s.comps,t.1,s.reached⟩:PSt).rows (.mrow E 0 o.insts.length f) K U (.mrow lr 0 s.reached.length B))/\A.p < h6.p:=λh6 al=>
   ⟨(al.2 _ sO I).trans P,(al.2 _ ag I).trans af,G.new al,Y4 ag al.1⟩
  simp[n,hlt,ap,N,bd,ba,q3,q1];cases ru with
  |false=>
    simp only[Bool.false_and,cond_false] at hm;cases ht2:t.2
    all_goals
     rw[ht2] at n;simp[n,N,aq,bf,q1,q2,q3,q4,hw,XO,bd,ba,ap];refine Zj.of (t.1,t.2 || (eu != 0)) ⟨⟨by simp[n,Y,ht2],Q _ ?_⟩,hm⟩;exact sm
  |true=>?_
  cases hz:(eu == 0) with
  |false=>
    rw[hz] at hm;simp only[Y02,cond_false] at hm;cases ht2:t.2
    all_goals
     rw[ht2] at n;simp[n,N,aq,bf,q1,q2,q3,q4,hw,hz,bd,ba,ap];refine Zj.of (t.1,t.2 || (eu != 0)) ⟨⟨by simp[n,Y,ht2],Q _ ?_⟩,hm⟩;exact sm
  |true=>?_
  rw[hz] at hm;simp only[Bool.and_true,cond_true] at hm;have ⟨iu,bk,hm⟩:=hm.qQ;have ⟨M,dd,hm⟩:=hm.bind;simp[n,N,aq,bf,q1,q2,q3,q4,hz];have cy:u < s.insts.length:=(Y0.1 bk).1;obtain⟨dq,c6,dl,ay,aw,cq,-,⟨xi,cm,b4⟩,-⟩:=G.at (j:=0) (i:=u) rfl (sU cy);simp only[Y9,bk,Yp,Ya] at b4;simp at ay;obtain⟨rfl,dw,rfl⟩:=ay;have ax:u < o.insts.length:=X
  refine Z6.cu aQ (λeq0 h4=>Ek e eq0 [(18,.one (.mrow T 0 t.1.length R)),(19,.one (.mrow lr 0 s.reached.length B)),(21,.i (u:Int))] [8,17,20,85,86,87] /\
   ∃ hX,Z0 h' hX []/\h4=hX.qA T (Zi be u [.d (.int .i64 M)])) ?_ ?_
  simp[n,af,b9,ax,aw,cm,q6,q7];refine Zx ((Z0h q.1[u] iu).h M dd) (by simp[Wi,V.toA,(F3 b4).2.2]) ?_;simp[n,af,b9,ax,aw,cm,q6,q7,N,bu,aq,q2,q4]
  try refine⟨λ_ _ x=>x,?_⟩
  refine Ze.of ⟨by simp[n],_,?_,rfl⟩;exact sm;rintro E2 h4 ⟨hF,hX,am,rfl⟩;have n:=hF.an n;have m6:=bc _ _ (.d (.int .i64 M)) (.int .i64 M) (G.new am) rfl rfl;have cd:MC (hX.qA T (Zi be u [.d (.int .i64 M)])) ((⟨s.insts,s.comps,t.1.set u M,s.reached⟩:PSt).rows (.mrow E 0 o.insts.length f) K U (.mrow lr 0 s.reached.length B)):=by simpa[PSt.rows,YJ] using m6
  obtain⟨dx,c7,dv,ak,au,cz,-,⟨xe,b8,a1⟩,-⟩:=cd.at (j:=2) (i:=u) rfl (sU N);simp only[Y9,Yr N,Yp,Ya] at a1;obtain rfl:=IQ a1;rw[Y] at ak;simp at ak;obtain⟨rfl,rfl⟩:=ak;simp at au;subst au;have az:∀ k:Z2,k.1<=A.p->(k=T)=False:=λk y=>eq_false (by rintro rfl;have:=a7 k (by rw[Y];simp[Z]);omega);have f1:(hX.qA T (Zi be u [.d (.int .i64 M)])).a (2,128)=some [.nil,.nil]:=by simp[az (2,128) sO];exact (am.2 _ sO I).trans P
  have f2:(hX.qA T (Zi be u [.d (.int .i64 M)])).a (A.p,272)=some [.mrow E 0 o.insts.length f,K]:=by simp[az (A.p,272) I];exact (am.2 _ ag I).trans af
  cases ht2:t.2
  all_goals
   rw[ht2] at n;simp[n,N,b8,hw];refine Zj.of (t.1.set u M,t.2 || (M != 0)) ⟨⟨by simp[n,Y,ht2],f1,f2,cd,sU (Y4 ag am.1)⟩,hm⟩
 rintro t e h' ⟨n,P,af,G,ag⟩ hm;have ao:∀ {cs:aD},∀ k ∈ Z (.mrow E 0 o.insts.length f)++(Z K++(Z U++Z cr)),(h'.qA (2,128) cs).a k=h'.a k:=λ{cs} k y=>by
  have:k≠(2,128):=by
   intro h9;rw[h9] at y;rcases Y3.1 y with h8 | h8
   have:=(ae (2,128) (YV _ h8)).1;simp at this;omega
   rcases Y3.1 h8 with h8 | h8
   have:=(ae (2,128) (Xj _ h8)).1;simp at this;omega
   have:=a7 (2,128) h8;simp at this;omega
  simp[this]
 simp[n];refine ZP hm ?_ ?_<;>clear hm<;>intro dt hm;obtain rfl:=Zk hm;simp[n,P];simp[ZS,ZK,ZX,W5,n];exact⟨⟨.data rfl,.data rfl,trivial⟩,LC ((G.row _ (Yc _ (Yc _ (Y8 ..)))).frame λk y=>ao k (by simp[y])),.data rfl,trivial⟩;obtain rfl:=Zk hm;simp[n,P,af];simp[ZS,ZK,ZX,W5,n];exact⟨⟨Z7n ((G.row _ (Y8 ..)).frame λk y=>ao k (by simp[y])),Z7x ((G.row _ (Yc _ (Y8 ..))).frame λk y=>ao k (by simp[y])),trivial⟩,LC ((G.row _ (Yc _ (Yc _ (Y8 ..)))).frame λk y=>ao k (by simp[y])),.data rfl,trivial⟩
def O8{S}(n:VS S)(a):Wp (Bs S a) λe=>e=0->CF S a/\VE S a=some 0:=by
 have g:=λT p=>(n.tab T p).pk6;unfold Bs;refine X0 (Cp S g a) λe r h=>X1 (λj=>X2 λo=>by rw[o] at j;cases j) λj=>?_;obtain rfl:e=0:=sU j;have k:=h rfl;have m:∀{u:List aE} {f:aE->aB Bool},(∀x,Wp (f x) λ_=>True)->Wp (BX u f) λ_=>True:=λs=>by
  unfold BX D8;exact X0 ((Xc λx _=>s x).mono λ_ _ _=>trivial) λ_ _ _=>X2 trivial
 refine X6 (λ_ _=>True) trivial ?_ λ_ _=>X6 (λ_ _=>True) trivial ?_ λ_ _=>X2 λ_=>⟨k,r⟩
 .intro i f _ next _ t _ l
  refine X0 (Mj g k.l24 f.u) λq _ _=>X0 (m λd=>?_) λb _ _=>X7 λ_=>l () trivial;exact X0 (NZ g k.l24 (n.fk f t).1 d) λ_ _ _=>X2 trivial
 intro i c _ next _ _ _ l
 refine X0 (Mj g k.l24 c.u) λq _ _=>X0 (m λd=>?_) λb _ _=>X7 λ_=>l () trivial;exact X0 (Pz c d) λ_ _ _=>X2 trivial
def IM(a b):Wp (Ej a b) λr=>r=true↔a=b:=by
 unfold Ej;exact X0 (My λx y=>ER x y) λr _ c=>X2 c
def Z2m{S d}(l:∀x∈d,U7 x)(a b)(c):Wp (Da S d a b c) λr=>r=true->UF S d a c=some (b,c,0)/\UD S d b c=some (a,c,0)/\SB d.length (b,c,0):=by
 unfold Da;refine X0 (J6 S d l a c) λp z n=>X0 (Mk S d l b c) λq k af=>X1 (λe=>X1 (λf=>X0 (ER _ _) λg _ s=>X1 (λu=>X0 (ER _ _) λh _ o=>X1 (λv=>X0 (IM _ _) λi _ m=>X1 (λw=>X0 (IM _ _) λj _ t=>X2 λy=>?_) λ_=>X2 I) λ_=>X2 I) λ_=>X2 I) λ_=>X2 I) λ_=>X2 I;have g:=s.1 u;have h:=o.1 v;have i:=m.1 w;have j:=t.1 y;have e:p.2.2=0:=sU e;have f:q.2.2=0:=sU f;have⟨p1,p2,p3⟩:=p;have⟨q1,q2,q3⟩:=q;simp only at g h i j e f;subst g h i e f;rw[j] at k;exact⟨z,k,(n rfl).1⟩
structure DbV(g:Gr)(db:Db)(Ss:List Sch):Prop where
 ver:VerOK g Ss
 sch:Ar g=some (Ss,0)
 li:db.insts.length=Ss.length
 lc:db.comps.length=g.n.length
 inst:∀(i:Nat) S x,Ss[i]?=some S->db.insts[i]?=some x->Bs S x=some 0/\CF S x/\VE S x=some 0
 edge:∀i e P a b c,g.n[i]?=some e->Ss[e.m.toNat]?=some P->db.insts[e.m.toNat]?=some a->db.insts[i+1]?=some b->db.comps[i]?=some c->UF P e.script a c=some (b,c,0)/\UD P e.script b c=some (a,c,0)/\SB e.script.length (b,c,0)
def F6(g:Gr):Prop:=∀e∈g.n,∀x∈e.script,U7 x
def Z2l{g}(v:F6 g)(d):Wp (C0 g d) λe=>e=0->∃J,DbV g d J:=by
 unfold C0;refine X0 (Z0k g v) λq N Z=>X1 (λh=>X2 λz=>by rw[z] at h;cases h) λh=>?_;have f:q.2=0:=sU h;have u:=Z f;refine X7 λy=>X7 λw=>?_;have y:d.insts.length=q.1.length:=by simp at y;omega
 have w:d.comps.length=g.n.length:=by simp at w;omega
 refine X6 (λi _=>∀(j:Nat) S x,j<i->q.1[j]?=some S->d.insts[j]?=some x->Bs S x=some 0/\CF S x/\VE S x=some 0) (λj S x h=>absurd h (XB _)) ?_ ?_
 .intro i S _ next s C A F
  have W:=(Y0.1 s).1;refine X3 X X λx M _=>X0 (O8 (u.vs S C) x) λe t O=>X1 (λh=>X2 λz=>by rw[z] at h;cases h) λh=>F () λj I x9 Y k l=>?_;obtain rfl:e=0:=sU h;rcases Yx j i with h9|h9;exact A j I x9 h9 k l;obtain rfl:j=i:=X
  rw[s] at k;cases k
  have:d.insts[j]?=some x:=sU M
  rw[this] at l;cases l;exact⟨t,O rfl⟩
 intro _ A;refine X6 (λi _=>∀j e P a b c,j<i->g.n[j]?=some e->q.1[e.m.toNat]?=some P->d.insts[e.m.toNat]?=some a->d.insts[j+1]?=some b->d.comps[j]?=some c->UF P e.script a c=some (b,c,0)/\UD P e.script b c=some (a,c,0)/\SB e.script.length (b,c,0)) (λj e P a b c h=>absurd h (XB _)) ?_ ?_
 .intro i e _ next t L B F
  have W:=(Y0.1 t).1;have G:=u.n i e t;have ag:=u.len;refine X3 G.1 X λP U _=>X3 G.1 X λa V _=>X3 X X λb D _=>X3 X X λc E _=>X0 (Z2m (v e L) a b c) λr _ hr=>X7 λh=>F () λj T H K Q R Y m f n o p=>?_;rcases Yx j i with h9|h9;exact B j T H K Q R h9 m f n o p;obtain rfl:j=i:=X
  rw[t] at m;cases m;have D:d.insts[j+1]?=some b:=sU D;have E:d.comps[j]?=some c:=sU E;rw[U] at f;rw[V] at n;rw[D] at o;rw[E] at p;cases f;cases n;cases o;cases p;exact hr (sU h)
 intro _ B;refine X2 λ_=>⟨q.1,u,by rw[N,<-f],y,w,λi S x s v=>A i S x (Y0.1 s).1 s v,λi e P a b c m f n o p=>B i e P a b c (Y0.1 m).1 m f n o p⟩
def DbV.ok{g e c}(v:DbV g e c):MV e:=by
 have hl:=v.ver.len;refine⟨λx h=>?_,λl n=>?_⟩;obtain⟨i,b,rfl⟩:=Yo h;have d:i<c.length:=by rw[<-v.li];exact b
 have k:c[i]?=some c[i]:=Y1 d;have a:=(v.inst i _ _ k (Y1 b)).2.1.rb (v.ver.vs _ (Y2 k));exact⟨by have:=a.1;omega,λr f=>by have:=a.2 r f;omega⟩;obtain⟨i,b,rfl⟩:=Yo n;have d:i<g.n.length:=by rw[<-v.lc];exact b
 have m:=Y1 d;have hp:=v.ver.n i _ m;have ac:=v.li;have a:=(v.edge i _ _ _ _ _ m (Y1 X) (Y1 X) (Y1 X) (Y1 b)).2.2;have h6:=a.2.2.2;have h7:e.comps[i].length=g.n[i].script.length:=a.2.1;refine⟨X,λx h=>?_⟩;have j:=a.2.2.1 x h;exact⟨by have:=j.1;omega,λr f=>by have:=j.2 r f;omega⟩
def Ze6{l:List Int}{n:Nat}(h:l.Nodup)(b:∀v∈l,0<=v/\v<=(n:Int)):l.length<=n+1:=by
 have a:l.length<=(ZZ (n+1)).length:=List.Nodup.length_le_of_subset h λv c=>by
  have:=b v c
  simp only[ZZ,Yi,XV];exact⟨v.toNat,X,X⟩
 rwa [Cy] at a
structure PrL(g:Gr)(Ss:List Sch)(s:PSt):Prop where
 i:s.insts.length=Ss.length
 c:s.comps.length=g.n.length
 e:s.errs.length=Ss.length
 r:s.reached.length=Ss.length
def Zas{b S d}(e:∀x∈d,U7 x)(a)(c):Wp (EZ b S d a c) λ_=>True:=by
 unfold EZ;exact X1 (λ_=>(Mk S d e a c).mono λ_ _ _=>trivial) λ_=>(J6 S d e a c).mono λ_ _ _=>trivial
instance Zge(slices:List (List (List J))):Con (FC slices) prog 17 [.one (.d (.sl (slices.map (Z7 (Z7 J.z)))))] (λr=>.one (.d (.sl (r.map (Z7 J.z))))):=⟨λr hm=>To slices r hm⟩
def Hs(s_:List J)(f:J->aB Bool):aB Int:=
 Zd (λ(i2:Nat) (x2:J) (s2:Unit) next_2=>Z1 (f x2) λv3=>bif v3 then some (i2:Int) else next_2 ()) (λ(s2:Unit)=>some (-1)) s_ 0 ()
instance Zfx(s_:List J)(f:J->aB Bool){g:FuncId}{caps:List aC}[ConF f prog (λx=>.agg x.z) (λv=>.one (.d (.bool v))) g caps]:Con (Hs s_ f) prog 35 [.one (.d (.sl (s_.map J.z))),.one (.fn g caps)] (λr=>.one (.d (.int .i64 r))):=by unfold Hs;have l1:LH (σ:=Unit) 8 [0,1,7] []:=.intro;exact go 19 func35
def Ho(s_:List J)(f:J->aB Bool):aB Bool:=
 Z1 (Hs s_ f) λv1=>some (decide (0<=v1))
instance Zfm(s_:List J)(f:J->aB Bool){g:FuncId}{caps:List aC}[ConF f prog (λx=>.agg x.z) (λv=>.one (.d (.bool v))) g caps]:Con (Ho s_ f) prog 18 [.one (.d (.sl (s_.map J.z))),.one (.fn g caps)] (λr=>.one (.d (.bool r))):=by unfold Ho;exact go 9 func18
def HL(r_:J):aB Bool:=
 some (decide (40<(r_.rows.length:Int)))
instance TV(r_:J):Con (HL r_) prog 19 [.agg r_.z] (λr=>.one (.d (.bool r))):=by unfold HL;exact go 7 func19
instance Zgt  :ConF (λx=>HL x) prog (λx=>.agg x.z) (λr=>.one (.d (.bool r))) 19 []:=⟨λx=>(TV x)⟩
def Dd(g_:Gr)(db:Db)(changes:List Chg):aB Bool:=
 bif decide (8<(g_.n.length:Int)) then some false else bif decide (9<(db.insts.length:Int)) then some false else bif decide (9<(db.comps.length:Int)) then some false else bif decide (50<(changes.length:Int)) then some false else Z1 (FC db.comps) λv11=>Z1 (FC [v11,db.insts]) λv12=>Zd (λ(i14:Nat) (x14:List J) (s14:Unit) next_14=>bif decide (20<(x14.length:Int)) then some false else Z1 (Ho x14 (λxa_=>HL xa_)) λv17=>bif v17 then some false else next_14 ()) (λ(s14:Unit)=>some true) v12 0 ()
instance Zhd(g_:Gr)(db:Db)(changes:List Chg):Con (Dd g_ db changes) prog 5 [.agg g_.z,.agg db.z,.one (.d (.sl (changes.map Chg.z)))] (λr=>.one (.d (.bool r))):=by unfold Dd;have l1:LH (σ:=Unit) 38 [36,37] []:=.intro;have p1:PH [3] (Y.qB [0,1,3,4,8,2,5,6,7] .done):=.intro;exact go 50 func5
instance Zhv(g_:Gr)(db:Db)(v_:Int)(changes:List Chg):Con (Di g_ db v_ changes) prog 46 [.agg g_.z,.agg db.z,.one (.d (.int .i64 v_)),.one (.d (.sl (changes.map Chg.z)))] (λr=>.tup [.agg (r.1.z.map RC.d),.one (.d (.sl (r.2.1.map Zg))),.one (.d (.int .i64 r.2.2))]):=⟨λr hm=>Z1d g_ db v_ changes r hm⟩
def Bv(g_:Gr)(db:Db)(v_:Int)(changes:List Chg):aB (Db×Int×Int):=
 Z1 (Di g_ db v_ changes) λv4=>bif (v4.2.2 !=0) then some ((Db.mk [] []),0,v4.2.2) else Zd (λ(i8:Nat) (x8:Int) (s8:Unit) next_8=>bif (x8 !=0) then some ((Db.mk [] []),(i8:Int),x8) else next_8 ()) (λ(s8:Unit)=>some (v4.1,0,0)) v4.2.1 0 ()
instance Zhz(g_:Gr)(db:Db)(v_:Int)(changes:List Chg):Con (Bv g_ db v_ changes) prog 24 [.agg g_.z,.agg db.z,.one (.d (.int .i64 v_)),.one (.d (.sl (changes.map Chg.z)))] (λr=>.tup [.agg (r.1.z.map RC.d),.one (.d (.int .i64 r.2.1)),.one (.d (.int .i64 r.2.2))]):=by unfold Bv;have l1:LH (σ:=Unit) 31 [8,11,29,30] []:=.intro;exact go 43 func24
def FP(a:aE)(b:aE):aB Bool:=
 bif ((a.length:Int) !=(b.length:Int)) then some false else Zd (λ(i5:Nat) (x5:GV) (s5:Unit) next_5=>Za b (i5:Int) λx6=>bif (!(x5.g==x6.g)||(!(x5.int==x6.int)||(!(x5.text==x6.text)))) then some false else next_5 ()) (λ(s5:Unit)=>some true) a 0 ()
instance Zhc(a:aE)(b:aE):Con (FP a b) prog 15 [.one (.d (.sl (a.map GV.z))),.one (.d (.sl (b.map GV.z)))] (λr=>.one (.d (.bool r))):=by unfold FP;have l1:LH (σ:=Unit) 13 [0,1,12] []:=.intro;have p1:PH [6] (Y.qB aG .done):=.intro;exact go 26 func15
def Ed(a:List aE)(b:List aE):aB Bool:=
 bif ((a.length:Int) !=(b.length:Int)) then some false else Zd (λ(i5:Nat) (x5:aE) (s5:Unit) next_5=>Za b (i5:Int) λx6=>Z1 (FP x5 x6) λv7=>bif !v7 then some false else next_5 ()) (λ(s5:Unit)=>some true) a 0 ()
instance Zh3(a:List aE)(b:List aE):Con (Ed a b) prog 25 [.one (.d (.sl (a.map (Z7 GV.z)))),.one (.d (.sl (b.map (Z7 GV.z))))] (λr=>.one (.d (.bool r))):=by unfold Ed;have l1:LH (σ:=Unit) 13 [0,1,12] []:=.intro;have p1:PH [6] (Y.qB aJ .done):=.intro;exact go 27 func25
def E6(a:List J)(b:List J):aB Bool:=
 bif ((a.length:Int) !=(b.length:Int)) then some false else Zd (λ(i5:Nat) (x5:J) (s5:Unit) next_5=>Za b (i5:Int) λx6=>bif !(Z9 x5.u x6.u) then some false else Z1 (Ed x5.rows x6.rows) λv8=>bif !v8 then some false else next_5 ()) (λ(s5:Unit)=>some true) a 0 ()
instance Zgf(a:List J)(b:List J):Con (E6 a b) prog 9 [.one (.d (.sl (a.map J.z))),.one (.d (.sl (b.map J.z)))] (λr=>.one (.d (.bool r))):=by unfold E6;have l1:LH (σ:=Unit) 13 [0,1,12] []:=.intro;have p1:PH [6] (Y.qB [0,1,2,3,4,5,6,7,8,9,10,11,12,13,14,15,16,17,18,19,20,21,22,23,24] .done):=.intro;exact go 42 func9
def Pi{α:Type}{f:α->aB Bool}:∀(a:List α) (i:Nat),(∀x∈a,∃b,f x=some b)->Wp (Zd (λ(i:Nat) (x:α) (s:Unit) next=>Z1 (f x) λv=>bif v then some (i:Int) else next ()) (λ_=>some (-1)) a i ()) λ_=>True
 |[],i,_=>X2 trivial
 |x::a,i,h=>by
   have⟨b,c⟩:=h x I;have e:=Pi a (i+1) λy d=>h y (by simp[d]);show Wp (Z1 (f x) _) _;rw[c];cases b;exact e;exact X2 trivial
def Z3y(g:Gr)(a:Db)(c:List Chg)(d:a.comps.flatten.length+a.insts.length<=2097152):Wp (Dd g a c) λ_=>True:=by
 unfold Dd FC;refine X1 (λ_=>X2 trivial) λ_=>X1 (λ_=>X2 trivial) λ_=>X1 (λ_=>X2 trivial) λ_=>X1 (λ_=>X2 trivial) λ_=>?_;refine X0 (R:=λv=>v=a.comps.flatten) (X4 X (X2 rfl)) λv _ b=>?_;subst b;refine X0 (R:=λ_=>True) (X4 (by simp only[XC,Y3t,Ym,Ye];exact d) (X2 trivial)) λv _ b=>?_;refine X6 (λ_ _=>True) trivial ?_ λ_ _=>X2 trivial;intro i x s next _ _ _ e
 refine X1 (λ_=>X2 trivial) λ_=>X0 (R:=λ_=>True) ?_ λ_ _ _=>X1 (λ_=>X2 trivial) λ_=>e () trivial;unfold Ho Hs;exact X0 (Pi x 0 λr _=>⟨_,rfl⟩) λ_ _ _=>X2 trivial
def Me(b:aA):(b==b)=true:=by
 cases b with
 |mk d=>
   first
    |exact beq_self_eq_true _
    |(show(d==d)=true;exact beq_self_eq_true d)
def Z3z(a:aE):Wp (FP a a) λb=>b=true:=by
 unfold FP;refine X1 (λh=>by simp at h) λ_=>X6 (λ_ _=>True) trivial ?_ λ_ _=>X2 rfl;intro i x s next d _ _ c
 exact X5 d (X1 (λh=>by simp[Me] at h) λ_=>c () trivial)
def Z39(a:List aE):Wp (Ed a a) λb=>b=true:=by
 unfold Ed;refine X1 (λh=>by simp at h) λ_=>X6 (λ_ _=>True) trivial ?_ λ_ _=>X2 rfl;intro i x s next e _ _ d
 refine X5 e (X0 (Z3z x) λb _ c=>X1 (λh=>by simp[c] at h) λ_=>d () trivial)
def Z9l(b:aA):Z9 b b=true:=by
 unfold Z9
 first|exact Me b|simp[Me]
def Z1f(a:List J):Wp (E6 a a) λb=>b=true:=by
 unfold E6;refine X1 (λh=>by simp at h) λ_=>X6 (λ_ _=>True) trivial ?_ λ_ _=>X2 rfl;intro i x s next e _ _ d
 refine X5 e (X1 (λh=>by simp[Z9l] at h) λ_=>X0 (Z39 x.rows) λb _ c=>X1 (λh=>by simp[c] at h) λ_=>d () trivial)
def Z75{g b}(e:Ar g=some (b,0)){v:Int}(d:0<=v){S}(c:b[v.toNat]?=some S):Dh g v=some (S,0):=by
 have h1:=(Y0.1 c).1;refine Ww ?_;unfold Dh;refine Xb e ?_;refine X9 rfl<|X9 sO<|X9 sO<|X3 d (by simp only;omega) λT a _=>X2 ?_;simp only at a;rw[c] at a;cases a;rfl
def fe:Nat->List Int->aB (Int×Int)
 |_,[]=>none
 |i,x::xs=>bif x !=0 then some (i,x) else fe (i+1) xs
def RK{ρ:Type}{A:Int->Int->aB ρ}{B:aB ρ}:∀(a:List Int) (i:Nat),Zd (λ(i:Nat) (x:Int) (_:Unit) next=>bif x !=0 then A (i:Int) x else next ()) (λ_=>B) a i ()=match fe i a with
  |some q=>A q.1 q.2
  |none=>B
 |[],_=>rfl
 |x::a,i=>by
   have b:=RK (A:=A) (B:=B) a (i+1);show(bif x !=0 then A (i:Int) x else Zd _ _ a (i+1) ())=_;unfold fe;cases h:x !=0 with
   |true=>simp
   |false=>simp only[cond_false];exact b
def Rc:∀{a:List Int} {i:Nat} {q:Int×Int},fe i a=some q->q.2≠0
 |[],_,_,h=>by cases h
 |x::a,i,q,h=>by
   unfold fe at h;cases hx:x !=0 with
   |true=>rw[hx] at h;cases h;simpa using hx
   |false=>rw[hx] at h;exact Rc h
def Re:∀{a:List Int} {i:Nat},fe i a=none->∀x∈a,x=0
 |[],_,_,_,h=>by cases h
 |x::a,i,h,y,hy=>by
   unfold fe at h;cases hx:x !=0 with
   |true=>rw[hx] at h;cases h
   |false=>?_
   rw[hx] at h;rcases Y5.1 hy with rfl|hy;simpa using hx;exact Re h y hy
def Z87{g:Gr}{b:Db}{v:Int}{a:List Chg}{p:Db×List Int×Int}(h:Di g b v a=some p):Bv g b v a=some (bif p.2.2 !=0 then(⟨[],[]⟩,0,p.2.2) else match fe 0 p.2.1 with
  |some q=>(⟨[],[]⟩,q.1,q.2)
  |none=>(p.1,0,0)):=by
 unfold Bv;rw[h];show(bif p.2.2 !=0 then _ else _)=_;cases hp:p.2.2 !=0 with
 |true=>rfl
 |false=>?_
 simp only[cond_false];rw[RK (A:=λk e=>some ((⟨[],[]⟩:Db),k,e))];cases fe 0 p.2.1<;>rfl
abbrev BL:=List UInt8
def Zpe(x:BL):List BL->List BL
 |[]=>[x]
 |y::l=>if x<=y then x::y::l else y::Zpe x l
def Zq4:List BL->List BL
 |[]=>[]
 |x::l=>Zpe x (Zq4 l)
def Zqo(x:BL):∀l,(Zpe x l).Perm (x::l)
 |[]=>.refl _
 |y::l=>by unfold Zpe;split;exact .refl _;exact((Zqo x l).cons y).trans (List.Perm.swap x y l)
def Zqn:∀l,(Zq4 l).Perm l
 |[]=>.refl _
 |x::l=>(Zqo x _).trans ((Zqn l).cons x)
def Zrm(x:BL):∀l,l.Pairwise (λx y=>x<=y)->(Zpe x l).Pairwise λx y=>x<=y
 |[],_=>by simp[Zpe]
 |y::l,h=>by
   obtain⟨e,g⟩:=YT.1 h;unfold Zpe;split;rename_i d;refine YT.2 ⟨λz c=>?_,h⟩;rcases Y5.1 c with rfl|c;exact d;exact Std.le_trans d (e z c);rename_i d;have f:y<=x:=(Std.le_total (a:=x) (b:=y)).resolve_left d;refine YT.2 ⟨λz c=>?_,Zrm x l g⟩;rcases Y5.1 ((Zqo x l).mem_iff.1 c) with rfl|c;exact f;exact e z c
def Zrc:∀l,(Zq4 l).Pairwise λx y=>x<=y
 |[]=>.nil
 |x::l=>Zrm x _ (Zrc l)
def Zsa(l:List BL):(l.mergeSort λx y=>decide (x<=y))=Zq4 l:=by
 have h:=List.pairwise_mergeSort (le:=λx y:BL=>decide (x<=y)) (λa b c d e=>by simp only[decide_eq_true_eq] at*;exact Std.le_trans d e) (λa b=>by simp only[XQ,decide_eq_true_eq];exact Std.le_total) l;exact List.Perm.eq_of_pairwise (λa b _ _ d e=>Std.le_antisymm d e) (h.imp λh=>by simpa using h) (Zrc l) ((List.mergeSort_perm l _).trans (Zqn l).symm)
def Zse(a:List BL):(Lib.compact a).length<=a.length:=by unfold Lib.compact Lib.compactUpTo;rw[Yd];exact YE (XR _ _) I
end
section
open Go.RowKit (Below)
def Zpc(s:aA):aD:=[.d (.str s)]
def Zpg(s:aA):List UInt8:=s.data.toList
def Zq5(l:List UInt8):aA:=⟨l.toArray⟩
def Zpj(a:List aA):List aA:=(Zq4 (a.map Zpg)).map Zq5
def Zph(a:List aA):List aA:=(Lib.compact (a.map Zpg)).map Zq5
def Zqe(a:List aA):(Zpj a).length=a.length:=by simp[Zpj,(Zqn _).length_eq]
def Zq1{us:List aA}:Zy 1 (us.map Zpc):=by intro x a;obtain⟨y,_,rfl⟩:=Yi.1 a;rfl
def Zqf{us:List aA}{sp:aD}:(Zb (us.map Zpc) sp).length=us.length+sp.length:=by
 have:=V2 (sp:=sp) (Zq1 (us:=us))
 simpa using this
def Zr4{us:List aA}{sp:aD}{i:Nat}(b:i<us.length):(Zb (us.map Zpc) sp)[i]?=some (.d (.str us[i])):=by
 have h:=Lh (sp:=sp) (f:=0) (k:=i) (x:=Zpc us[i]) (Zq1 (us:=us)) (by simp[b]) X;simp only[Y03,Xl,XU] at h;have a:((Zb (us.map Zpc) sp).drop i)[0]?=some (.d (.str us[i])):=by rw[h];rfl
 simpa[YO] using a
def Zs7{us a:List aA}{sp:aD}{i:Nat}(f:us.length=a.length)(d:us.length<=i):(Zb (us.map Zpc) sp)[i]?=(Zb (a.map Zpc) sp)[i]?:=by
 have h:∀us:List aA,us.length<=i->(Zb (us.map Zpc) sp)[i]?=sp[i-us.length]?:=λus hu=>by
  have b:=G9 (n:=1) (k:=us.length) (sp:=sp) (Zq1 (us:=us)) I;have c:(Zb (us.map Zpc) sp)[i]?=((Zb (us.map Zpc) sp).drop us.length)[i-us.length]?:=by rw[YO];congr 1;omega
  rw[c,show us.length=us.length*1 by omega,b];have e:List.drop us.length (us.map Zpc)=[]:=List.drop_of_length_le I;simp[Zb,e]
 rw[h us d,h a X,f]
def Zrk{Γ:Ctx}{h:HS}{μ:Mem}{w s:World}(a:Inv Γ h μ w){l:Z2}{I f:aD}(A:h.a l=some I){b n:Nat}{T:TypeId}{c:Array Value}(y:μ.loc l=some (some b,n))
  (Z:s.os=w.os)(ht:s.tape=w.tape)(Q:s.output=w.output)(R:w.heap.size<=s.heap.size)
  (u:∀k,k<w.heap.size->k≠b->s.heap[k]?=w.heap[k]?)(Y:s.heap[b]?=some (.cells c T (0,0)))(W:ZL μ f c):Inv Γ (h.qA l f) μ s:=by
 obtain⟨z,n',T',ak,q,O,ao,_,G⟩:=a.a l I A;rw[y] at q;simp only[Ya,YG] at q;obtain⟨rfl,rfl⟩:=q;have B:h.live l:=.inl (by simp[A]);have am:=a.below.size;refine⟨a.cell.of_heap (λz o v t=>u z (a.cell.lt t) ?_),a.tmp,a.tcell.of_heap (λz o v t=>u z (a.tcell.lt t) ?_),a.told,a.ext,a.old,?_,?_,?_,?_,a.lt,?_⟩;rintro rfl;rw[G o] at t;cases t;rintro rfl;have:=a.told _ _ _ t;omega
 exact a.below.trans ⟨Z,ht,Q,R,λk d=>u k X X⟩;intro k p d;by_cases e:k=l;subst e
 have:p=f:=by simpa[HS.qA] using d.symm
 subst this;exact⟨b,n,T,c,y,O,Y,W,G⟩;have j:h.a k=some p:=by simpa[HS.qA,e] using d
 obtain⟨x,r,F,P,i,m,L,U,V⟩:=a.a k p j;have E:x≠b:=by rintro rfl;exact e (a.inj k l x r n (.inl (by simp[j])) B i y)
 exact⟨x,r,F,P,i,m,by rw[u _ (Ax L) E];exact L,U,V⟩;intro k J r d;have j:h.arr k=some (r,J):=by simpa[HS.qA] using d
 obtain⟨K,i,m⟩:=a.arr k J r j;refine⟨K,i,m.keep (λg D=>u g ?_ ?_) (λ_ _ _ h=>h)⟩;obtain⟨_,F,cur,hq,_⟩:=m.2 g D;exact Ax hq;rintro rfl;obtain⟨g1,S⟩:=K;simp at D;subst D;have e:=a.inj k l g S n (.inr (by simp[j])) B i y;subst e;exact a.both k (by simp[A]) (by simp[j]);intro k M x r n2 d j i m;have N:∀k,(h.qA l f).live k->h.live k:=λk d=>by
  by_cases e:k=l;subst e;exact B;rcases d with d|d
  left;simpa[HS.qA,e] using d
  right;simpa[HS.qA] using d
 exact a.inj k M x r n2 (N k d) (N M j) i m;intro k i m;have H:h.arr k≠none:=by simpa[HS.qA] using m
 by_cases e:k=l;subst e;exact a.both k (by simp[A]) H;exact a.both k (by simpa[HS.qA,e] using i) H
def Zr5{μ:Mem}{v:V}{a:Array Value}(h:J3 μ [v] a):∃u,a=#[u]/\W6 μ v u:=by
 obtain⟨d,c⟩:=h;obtain⟨u,b,e⟩:=c 0 _ rfl;refine⟨u,XZ λi=>?_,e⟩
 match i with
 |0=>simpa using b
 |i+1=>rw[Xw (by simp at d;omega)];simp
def Zri{Γ:Ctx}{h:HS}{μ:Mem}{w:World}(p:Inv Γ h μ w){l:Z2}{d:List aA}{i:aD}(q:h.a l=some (Zb (d.map Zpc) i)){b n:Nat}(k:μ.loc l=some (some b,n)):
  b<w.heap.size/\∃T a,w.heap[b]?=some (.cells a T (0,0))/\ZL μ (Zb (d.map Zpc) i) a/\Go.Sort.Holds encStr w b 0 (d.map Zpg).toArray:=by
 obtain⟨b',n',T,a,c,ad,e,g,_⟩:=p.a l _ q;rw[k] at c;simp only[Ya,YG] at c;obtain⟨rfl,rfl⟩:=c;refine⟨Ax e,T,a,e,g,λj f=>?_⟩;have m:j<d.length:=by simpa using f
 obtain⟨u,r,s⟩:=g.2 j _ (Zr4 m);have o:u=.string d[j]:=RepD.qR s;subst o;refine⟨?_,?_⟩;simp only[World.cell?,e,XI];simp only[Option.isSome_none,YX,if_false,r];rw[getElem!_pos _ j f];simp[encStr,Zpg];simp[World.frozen?,e]
def Zrj{μ:Mem}{j b:List aA}{h:aD}{a:Array Value}(f:ZL μ (Zb (j.map Zpc) h) a)(g:b.length=j.length):
  ZL μ (Zb (b.map Zpc) h) (Go.Sort.putCells encStr 0 (b.map Zpg).toArray a):=by
 refine⟨by simp only[Go.Sort.putCells,Array.size_mapIdx,f.1,Zqf,g],λi c d=>?_⟩;by_cases hi:i<b.length;rw[Zr4 hi] at d;cases d;have e:i<a.size:=by rw[f.1,Zqf];omega
 refine⟨.string b[i],?_,RepD.str _⟩;simp only[Go.Sort.putCells,Array.getElem?_mapIdx,Xo e,Yp];rw[if_pos sO,Nat.sub_zero,getElem!_pos _ i (by simpa using hi)];simp[encStr,Zpg];rw[Zs7 g X] at d;obtain⟨u,k,l⟩:=f.2 i c d;refine⟨u,?_,l⟩;simp only[Go.Sort.putCells,Array.getElem?_mapIdx,k,Yp];rw[if_neg sO]
def Zrd{w:World}{b n:Nat}{T:TypeId}{a:Array Value}{d:Array (List UInt8)}{os:Array Obj}(e:b<w.heap.size)(f:w.heap[b]?=some (.cells a T (0,0))):
  (Go.Sort.grow (Go.Sort.putRow encStr (Go.Sort.ahead w n) b 0 d) os).heap[b]?=some (.cells (Go.Sort.putCells encStr 0 d a) T (0,0))/\
  ∀k,k<w.heap.size->k≠b->(Go.Sort.grow (Go.Sort.putRow encStr (Go.Sort.ahead w n) b 0 d) os).heap[k]?=w.heap[k]?:=by
 refine⟨?_,λk g c=>?_⟩;rw[Go.Sort.heap_grow_old _ _ (by simpa using e)];simp[Go.Sort.putRow,Go.Sort.mapBlock,Go.Sort.ahead,Array.getElem?_modify,f,Go.Sort.onCells];rw[Go.Sort.heap_grow_old _ _ (by simpa using g)];simp[Go.Sort.putRow,Go.Sort.mapBlock,Go.Sort.ahead,Array.getElem?_modify,Ne.symm c]
def Zs5(h:HS)(c:C)(f:List aA)(q:MR h 1 c (f.map Zpc))(K:V->HS->Prop)
  (F:∀o,MR o 1 c ((Zpj f).map Zpc)->Z0 h o (Z c)->K (.tup []) o):Z5 prog 39 [.one c] h K:=by
 refine⟨⟨_,func39,kR,kR⟩,λΓ μ w vals p hv=>?_⟩;obtain⟨u,rfl,s⟩:=Zr5 hv;have A:W6 μ (.tup []) (.tuple #[]):=⟨#[],rfl,rfl,λi x R=>by simp at R⟩;have G:∀a:aB Addr,f=[]->Calls prog 39 #[.slice a 0 0] w λe t=>∃u v o μ',e=.returned u/\K v o/\Inv Γ o μ' t/\W6 μ' v u/\Mem.Le μ μ':=λa Q=>by refine(Any.slices_Sort_string_none Tryz.xX a 0 w).mono ?_;rintro e t ⟨rfl,rfl⟩;exact⟨_,_,h,μ,rfl,F h (by subst Q;exact q) .refl,p,A,.refl μ⟩
 rcases q.2.2 with⟨D,rfl|rfl⟩|⟨l,g,H,rfl,E,j⟩;obtain rfl:u=.slice none 0 0:=s;exact G _ (by simpa using D);obtain⟨a,rfl⟩:∃a,u=.slice a 0 0:=s;exact G _ (by simpa using D);obtain⟨b,k,z,rfl,hn⟩:∃b k,μ.loc l=some (some b,k)/\u=.slice (some ⟨b,0,none⟩) (f.map Zpc).length g/\(f.map Zpc).length<=g:=s;obtain⟨B,T,conc,O,P,N⟩:=Zri p E z;have m:=q.2.1;have J:(f.map Zpc).length=(f.map Zpg).length:=I
 rw[J];refine(Any.slices_Sort_string Tryz.xX b 0 g (f.map Zpg) w N B (by simp only[Yd] at m|-;have:Zz=2097152:=rfl;omega)).mono ?_;rintro e t ⟨rfl,n,os,rfl⟩;have r:((f.map Zpg).mergeSort λx y=>decide (x<=y))=(Zpj f).map Zpg:=by simp only[Zpj,YY,Zsa];exact(Y3u _).symm
 rw[r];obtain⟨L,M⟩:=Zrd (n:=n) (d:=((Zpj f).map Zpg).toArray) (os:=os) B O;refine⟨_,_,h.qA l (Zb ((Zpj f).map Zpc) H),μ,rfl,F _ ?_ (Z0.refl.qA (.inl (by simp[Z]))),Zrk p E z rfl rfl rfl I M L (Zrj P (Zqe f)),A,.refl μ⟩;refine⟨Zq1,by simpa[Zqe] using m,.inr ⟨l,g,H,by simp[Zqe],by simp[HS.qA],?_⟩⟩;rw[Zqf] at j|-;rw[Zqe];exact j
def Zu1(a:List aA):(Zph a).length<=a.length:=by
 have:=Zse (a.map Zpg)
 simpa[Zph] using this
def Zs3(h:HS)(c:C)(f:List aA)(s:MR h 1 c (f.map Zpc))(K:V->HS->Prop)
  (J:∀q m,MR m 1 q ((Zph f).map Zpc)->Z0 h m (Z c)->(∀l∈Z q,l∈Z c)->K (.one q) m):Z5 prog 40 [.one c] h K:=by
 refine⟨⟨_,func40,kR,kR⟩,λΓ μ w vals r hv=>?_⟩;obtain⟨u,rfl,o⟩:=Zr5 hv;have M:∀a:aB Addr,f=[]->W6 μ (.one c) (.slice a 0 0)->Calls prog 40 #[.slice a 0 0] w λe A=>∃u v m μ',e=.returned u/\K v m/\Inv Γ m μ' A/\W6 μ' v u/\Mem.Le μ μ':=λa S x=>by
  refine(Any.slices_Compact_string_empty Tryz.xY a 0 w).mono ?_;rintro e A ⟨rfl,rfl⟩;exact⟨_,_,h,μ,rfl,J c h (by subst S;exact s) .refl λ_ h=>h,r,x,.refl μ⟩
 rcases s.2.2 with⟨G,rfl|rfl⟩|⟨l,g,z,rfl,H,i⟩;have O:=o;obtain rfl:u=.slice none 0 0:=o;exact M _ (by simpa using G) O;obtain⟨a,rfl⟩:∃a,u=.slice a 0 0:=o;exact M _ (by simpa using G) ⟨a,rfl⟩;obtain⟨b,k,p,rfl,t⟩:∃b k,μ.loc l=some (some b,k)/\u=.slice (some ⟨b,0,none⟩) (f.map Zpc).length g/\(f.map Zpc).length<=g:=o;obtain⟨N,T,conc,R,x,Q⟩:=Zri r H p;have j:=s.2.1;have P:(f.map Zpc).length=(f.map Zpg).length:=I
 rw[P] at t|-;refine(Any.slices_Compact_string Tryz.xY b 0 g (f.map Zpg) w Q (by simp only[Yd] at j|-;have:Zz=2097152:=rfl;omega) t).mono ?_;rintro e A ⟨rfl,n,rfl⟩;have af:=Zu1 f;have B:(Lib.compact (f.map Zpg)).length=(Zph f).length:=by simp[Zph]
 have y:Lib.compact (f.map Zpg)++List.replicate ((f.map Zpg).length-(Lib.compact (f.map Zpg)).length) []=(Zph f++List.replicate (f.length-(Zph f).length) (Zq5 [])).map Zpg:=by
  rw[YL,Y35,B,Yd]
  congr 1
  simp only[Zph,YY];exact(Y3u _).symm
 rw[y];generalize hrs:Zph f++List.replicate (f.length-(Zph f).length) (Zq5 [])=rs;have D:rs.length=f.length:=by rw[<-hrs];simp;omega
 obtain⟨E,F⟩:=Zrd (n:=n) (d:=(rs.map Zpg).toArray) (os:=#[]) N R;rw[Go.Sort.grow_empty] at E F;refine⟨_,.one (.mrow l 0 (Zph f).length g),h.qA l (Zb (rs.map Zpc) z),μ,rfl,J _ _ ?_ (Z0.refl.qA (.inl (by simp[Z]))) (by simp[Z]),Zrk r H p rfl rfl rfl I F E (Zrj x D),?_,.refl μ⟩;have L:Zb (rs.map Zpc) z=Zb ((Zph f).map Zpc) (((List.replicate (f.length-(Zph f).length) (Zq5 [])).map Zpc).flatten++z):=by rw[<-hrs];simp[Zb]
 refine⟨Zq1,by simp only[Yd] at j|-;omega,.inr ⟨l,g,_,I,(Kw.trans (if_pos rfl)).trans (congrArg some L),?_⟩⟩;rw[<-L];rw[Zqf] at i|-;rw[D];exact i;refine⟨b,k,p,by rw[B],?_⟩;simp only[Yd] at t;omega
end
section
def Zs0(h:HS)(c:C)(a:List aD)(hr:Zr h 4 c a)(K:V->HS->Prop)
  (hk:∀c' h',MR h' 4 c' a->Z0 h h' []->(∀l∈Z c',h.p<=l.1/\l.1<h'.p)->ZG h h'->K (.one c') h'):
  Z5 prog 62 [.one c] h K:=by
 have F:=func62;have EL:=@Zpt;exact Gu
abbrev Zql:List Sh:=[.d,.d,Bc,Bc]
def Zr0(a:List Chg):Prop:=a.length<=2097152/\∀x∈a,x.key.length<=2097152/\x.row.length<=2097152
def Zpl(x:Chg):aD:=x.z.map C.d
abbrev QC:=aD×aC×List Z2
def Zre{a:List Chg}{i:Nat}(b:i<a.length):(a.drop i).map Zpl=Zpl a[i]::(a.drop (i+1)).map Zpl:=by rw[YB b,Yb]
def Zs4(h:HS)(x:C)(g:List Chg)(hx:Zr h 4 x (g.map Zpl))(ay:Zr0 g)(K:V->HS->Prop)
  (r:∀c h',WT h h' Zql c (g.map Chg.z)->ZG h h'->K (.one c) h'):
  Z5 prog 41 [.one x] h K:=by
 refine Z5.jE func41 rfl kR λhg=>?_;refine Z5.ov func41 ?_;simp;refine Zc (Zs0 _ x (g.map Zpl) hx _ λc h0 ar bc ae bj=>?_);simp;refine MR.lenK ar ?_;simp;refine Z6.rounds (λn e h'=>∃(i:Nat) (qs:List QC),n=g.length-i/\i<=g.length/\qs.length=i/\e.n=34/\e.get 3=.one c/\e.get 8=.i (g.length:Int)/\e.get 9=.i (i:Int)/\
  MR h' 4 c (qs.map (·.1)++(g.drop i).map Zpl)/\qs.map (·.2.1)=(g.take i).map Chg.z/\(∀q∈qs,Ow h' Zql q.1 q.2.1 q.2.2)/\(Z c++qs.flatMap (·.2.2)).Nodup/\(∀k∈Z c++qs.flatMap (·.2.2),h.p<=k.1/\k.1<h'.p)/\Z0 h h' []) g.length
  ⟨0,[],rfl,X,rfl,I,I,I,I,by simpa using ar,I,I,by simpa using Vx,by simpa using ae,bc⟩ ?_
 rintro n e h' ⟨i,qs,rfl,bm,al,B,v,J,L,M,am,a1,ah,G,Y⟩;simp[B,v,J,L];refine Vy (λhlt=>?_) (λhge=>?_);have z:i<g.length:=X
 have hw:IntKind.i64.wrap ((i:Int)+1)=(i:Int)+1:=Y6 _ (by have:=ay.1;omega);obtain⟨y,W⟩:∃y,y=qs.map (·.1)++(g.drop i).map Zpl:=⟨_,rfl⟩;rw[<-W] at M;have R:y.length=g.length:=by rw[W];simp;omega
 have u:y[i]?=some (Zpl g[i]):=by rw[W,Zre z,YC sO];simp[al]
 obtain⟨l,O,sp,rfl,E,P⟩:=M.block X;have j:=M.1;rw[R] at v;have T:=VH (sp:=sp) (f:=2) (m:=1) j u X;have U:=VH (sp:=sp) (f:=3) (m:=1) j u X;have hk0:∀k,g[i]?=some k->k.key.length<=2097152/\k.row.length<=2097152:=λk r=>ay.2 k (Y2 r);have aj:g[i]?=some g[i]:=Y1 z;have au:=Zre z;generalize g[i]=w at aj u T U au;obtain⟨bf,ba⟩:=hk0 w aj;simp[Zpl] at T U;have a7:l.1<h'.p:=(G l (by simp[Z])).2;simp[B,v,J,L];refine Z6.cu [0,1,2,3,4,5,6,7,8,10,11,12,13,14,9,15,16,17,18,19,20,21] (λA D=>A.n=34/\A.get 3=.one (.mrow l 0 g.length O)/\A.get 8=.i (g.length:Int)/\A.get 9=.i (i:Int)/\
  ∃o t,D.a l=some (Zb (y.set i [.d (.int .i64 w.g),.d (.str w.u),o,t]) sp)/\Ow D [Bc,Bc] [o,t] [.sl (w.key.map GV.z),.sl (w.row.map GV.z)] (Z o++Z t)/\(Z o++Z t).Nodup/\(∀k∈Z o++Z t,h'.p<=k.1/\k.1<D.p)/\Z0 h' D [l]) ?_ ?_
 simp[B,v,J,L,z,E,T,U];refine Zc (TP h' w.key bf _ λo D S m1 b1=>?_);simp[B,v,J,L,z,E,T,U];refine⟨b1,?_⟩;refine Zc (TP D w.row ba _ λt h2 N m2 b2=>?_);have Q:=S.same.trans N.same;have hb2:h2.a l=some (Zb y sp):=by rw[Q.2 l a7 I];exact E
 simp[B,v,J,L,z,hb2,T,U];have bk:=Ah (sp:=sp) j (k:=i) X;have q1:=BK (sp:=sp) (f:=2) (vs:=[o]) j u I;have A:Zi (Zpl w) 2 [o]=[.d (.int .i64 w.g),.d (.str w.u),o,.d (.sl (w.row.map GV.z))]:=rfl;rw[A] at q1;have q2:=BK (sp:=sp) (f:=3) (vs:=[t]) (j.set (k:=i) (x:=[.d (.int .i64 w.g),.d (.str w.u),o,.d (.sl (w.row.map GV.z))]) rfl) (by rw[Yr X]) I;have e2:Zi [.d (.int .i64 w.g),.d (.str w.u),o,.d (.sl (w.row.map GV.z))] 3 [t]=[.d (.int .i64 w.g),.d (.str w.u),o,t]:=rfl;rw[e2,List.set_set] at q2;have af:=S.new;have ak:=N.new;have ap:=S.same.1;have bi:=N.same.1;refine⟨b2,X,by rw[A6 sO];omega,Ze.of ⟨by simp[B],by simp[v],by simp[J],by simp[L],o,t,by rw[q1,q2];simp,?_,?_,?_,?_⟩⟩;refine((S.ow.frame λk r=>?_).join (N.ow.frame λk r=>?_))
 have:=af k r
 have F:k≠l:=λp=>by subst p;omega
 simp[F,N.same.2 k this.2 I]
 have:=ak k r
 have F:k≠l:=λp=>by subst p;omega
 simp[F];exact Yk.2 ⟨S.nd,N.nd,λa ha b E he=>by subst he;have:=af a ha;have:=ak a E;omega⟩;intro k r;simp;rcases Y3.1 r with p|p
 have:=af k p;omega
 have:=ak k p;omega
 exact((Q.mn).qA (.inl I)).qA (.inl I);rintro A D ⟨az,a8,bb,bd,o,t,bh,ho,ao,ad,ag⟩;simp[az,bd,hw];have ae:=G l (by simp[Z]);have ap:=ag.1;have ax:y.set i [.d (.int .i64 w.g),.d (.str w.u),o,t]=(qs++[(([.d (.int .i64 w.g),.d (.str w.u),o,t],w.z,Z o++Z t):QC)]).map (·.1)++(g.drop (i+1)).map Zpl:=by rw[W,au,List.set_append_right _ _ sO];simp[al]
 have aw:Zy 4 (y.set i [.d (.int .i64 w.g),.d (.str w.u),o,t]):=j.set rfl;have aq:∀k∈qs.flatMap (·.2.2),k≠l:=λk r p=>(Yk.1 ah).2.2 l (by simp[Z]) k r p.symm;refine AQ.of (n':=g.length-(i+1)) X ⟨i+1,qs++[([.d (.int .i64 w.g),.d (.str w.u),o,t],w.z,Z o++Z t)],rfl,X,by simp[al],by simp[az],by simp[a8,R],by simp[bb],I,?_,?_,?_,?_,?_,?_⟩;rw[<-ax];refine⟨aw,by rw[Xf];exact M.2.1,.inr ⟨l,O,sp,I,bh,?_⟩⟩;rw[V2 aw,Xf,<-V2 j];exact P;rw[Yg z];simp only[YL,am,Yb,Yf];rw[(Y0.1 aj).2];intro q hq;rcases Y3.1 hq with p|p;refine(a1 q p).frame λk r=>ag.2 k (G k ?_).2 ?_;exact Xj _ (YH.2 ⟨q,p,r⟩)
 simp;exact aq k (YH.2 ⟨q,p,r⟩)
 simp only[Yj] at p;subst p;exact .data rfl (.data rfl ho);rw[Y01,<-Yz];refine Yk.2 ⟨ah,by simpa using ao,λa ha b E he=>?_⟩;subst he
 have:=G a ha
 have:=ad a (by simpa using E)
 omega;intro k r;rw[Y01,<-Yz] at r;rcases Y3.1 r with p|p
 have:=G k p;omega
 have:=ad k (by simpa using p)
 have:=Y.1
 omega;exact Y.trans' ag λk r=>by simp at r;subst r;exact .inr ae.1
 have bg:i=g.length:=X;subst bg;simp[B,v];simp at M;exact r _ _ ⟨qs,⟨M,by simpa using am,a1⟩,ah,G,Y⟩ (Y.jA hg)
abbrev Zpw:List Sh:=[.d,.r [Bc]]
abbrev Zvi:Sh:=.r Zpw
def WT.ow{h a:HS}{b:List Sh}{c:C}{ds:List aC}(g:WT h a b c ds):∃ls,OwN h a [.r b] [c] [.sl ds] ls:=by
 obtain⟨qs,p,e,d,s⟩:=g
 have:=Ow.row (ss:=[]) (cs:=[]) (ds:=[]) (ls:=[]) p.mr p.ow .nil
 rw[p.ds] at this;refine⟨Z4 c qs,?_,e,d,s⟩;simpa[Z4] using this
def Zpx(x:List J):Prop:=x.length<=2097152/\∀r∈x,r.rows.length<=2097152/\∀row∈r.rows,row.length<=2097152
def Zs6(h:HS)(a:List J)(O:Zpx a)(K:V->HS->Prop)
  (p:∀c h',WT h h' Zpw c (a.map J.z)->ZG h h'->K (.one c) h'):
  Z5 prog 37 [.l (a.map J.z)] h K:=by
 refine Z5.jE func37 rfl kR λT=>?_;refine Z5.ov func37 ?_;have u:Is (Zd (λ(_:Nat) x s next=>next (s++[x])) (λs=>some s) a 0 []) a:=by rw[GO];rfl
 simp;intro al;refine Z6.for (xs:=a) (s0:=[]) (λi s e h'=>∃c,e.n=23/\e.get 3=.one c/\e.get 6=.l (a.map J.z)/\e.get 7=.i (a.length:Int)/\e.get 8=.i (i:Int)/\WT h h' Zpw c (s.map J.z)/\s.length=i) u ⟨.nil,I,I,I,I,I,.nil,rfl⟩ ?_ ?_;rintro i s e h' ⟨c,b,n,j,f,m,g,G⟩ hlt u;have U:IntKind.i64.wrap ((i:Int)+1)=(i:Int)+1:=Y6 _ X;have R:=O.2 _ (Yh hlt);simp[b,n,j,f,m,hlt];refine Z6.cu aJ (λr o=>∃v,r.n=23/\r.get 3=.one v/\r.get 6=.l (a.map J.z)/\r.get 7=.i (a.length:Int)/\r.get 8=.i (i:Int)/\WT h o Zpw v ((s++[a[i]]).map J.z)) ?_ ?_;simp[b,n,j,f,m];refine Zc (Z0t _ a[i].rows R.2 _ λt o y P=>?_);have E:=y.same;simp[b,n,j,f,m];refine⟨P,?_⟩;obtain⟨M,A⟩:=y.ow;have L:Ow o Zpw [.d (.str a[i].u),t] (J.z a[i]) M:=by
  have:=Ow.data (c:=.d (.str a[i].u)) (x:=.str a[i].u) rfl A.ow
  exact this
 have F:Z0 h' o []:=Z0.trans sm E;have z:∀k∈M,h'.p<=k.1/\k.1<o.p:=λk p=>by have:=A.new k p;simp at this;omega
 refine Zco (x:=[.d (.str a[i].u),t]) (by cases W:CZ [.d (.str a[i].u),t]<;>simp[DH,W,ZB]<;>cases t.toD<;>rfl) rfl (λd S=>?_) ?_;obtain⟨rfl,N⟩:=L.ofD S;simp[b,n,j,f,m];refine WT.app g (F.trans ((Z0.refl.qC).w)) Zpm kR dE dE (Zr.qU rfl) rfl (N _) I I (by simpa using(by omega:s.length+1<=2097152)) λC Q B D=>?_;simp[b,n,j,f,m];exact Ze.of ⟨C,by simp[b],I,by simp[j,b],by simp[f,b],by simp[m,b],by simpa using B⟩;simp[b,n,j,f,m];have q:Z0 o ((o.qA (o.p,304) [.d (.str a[i].u),t]).w) []:=(Z0.refl.qA (.inr I)).w;refine WT.app g (F.trans q) Zpm kR dE dE (Zr.jY rfl I) rfl (L.frame λk p=>q.2 k (z k p).2 I) A.nd (λk p=>⟨(z k p).1,Y4 (z k p).2 q.1⟩) (by simpa using(by omega:s.length+1<=2097152)) λC Q B D=>?_;simp[b,n,j,f,m];exact Ze.of ⟨C,by simp[b],I,by simp[j,b],by simp[f,b],by simp[m,b],by simpa using B⟩;rintro r o ⟨v,b,n,j,f,m,y⟩;simp[b,n,j,f,m,U];exact Zj.of (s++[a[i]]) ⟨⟨v,by simp[b],by simp[n],by simp[j],by simp[f],I,y,by simp[G]⟩,u⟩;rintro s e h' ⟨c,b,n,j,f,m,g,G⟩ u;obtain rfl:=Zk u;simp[n,f,m,b];exact p _ _ g (g.same.jA T)
abbrev Zpi:List Sh:=[.d,Zvi,.r [.d],.r Zql]
def Zr3(a:List aA):(a.map Zpf).map (·.map C.d)=a.map Zpc:=by rw[YY];rfl
def Zrl{h:HS}{c:C}{ss:List aA}(m:MR h 1 c (ss.map Zpc)):Ow h [.r [.d]] [c] [.sl (ss.map Zpf)] (Z c):=by
 have a:MR h 1 c ((ss.map Zpf).map (·.map C.d)):=by rw[Zr3];exact m
 have:=Ow.rW (ss:=[]) (cs:=[]) (ds:=[]) (ls:=[]) a (es:=[.d]) rfl (by intro t b;obtain⟨s,_,rfl⟩:=Yi.1 b;rfl) .nil
 simpa using this
def Zvg{h Ha Hb Hc Hd Hf Hg:HS}{y p j x:C}{f:List J}{D:List aA}{z:List Chg}{v:Int}(B:Z0 h Ha [])(q:WT Ha Hb Zpw y (f.map J.z))(u:Z0 Hb Hc [])(K:MR Hd 1 j (D.map Zpc))(w:Z0 Hc Hd (Z p))(e:∀k∈Z j,k∈Z p)
  (i:∀k∈Z p,h.p<=k.1/\k.1<Ha.p)(o:Z0 Hd Hf [])(l:WT Hf Hg Zql x (z.map Chg.z)):∃H,OwN h Hg Zpi [.d (.int .i64 v),y,j,x] (Txn.z ⟨v,f,D,z⟩) H:=by
 have e1:=q.same.1;have e2:=u.1;have e3:=w.1;have e4:=o.1;have e5:=l.same.1;have e0:=B.1;obtain⟨A,n⟩:=q.ow;obtain⟨G,m⟩:=l.ow;have F:∀k∈A,Hg.a k=Hb.a k:=λk g=>by
  have:=n.new k g
  rw[l.same.2 k X I,o.2 k X I,w.2 k X λc=>by have:=i k c;omega,u.2 k X I]
 have E:∀k∈Z j,Hg.a k=Hd.a k:=λk g=>by
  have:=i k (e k g)
  rw[l.same.2 k X I,o.2 k X I]
 refine⟨A++(Z j++G),.data rfl ((n.ow.frame F).join ((Zrl (K.frame E)).join m.ow)),?_,?_,?_⟩;rw[Yk,Yk];refine⟨n.nd,⟨Vx,m.nd,λa r b s t=>?_⟩,λa r b s t=>?_⟩;subst t;have:=i a (e a r);have:=m.new a s;omega
 subst t
 have:=n.new a r
 rcases Y3.1 s with c|c
 have:=i a (e a c);omega
 have:=m.new a c;omega
 intro k g;rcases Y3.1 g with c|c
 have:=n.new k c;omega
 rcases Y3.1 c with c|c
 have:=i k (e k c);omega
 have:=m.new k c;omega
 exact(((((B.trans q.same).trans u).trans' w λk g=>.inr (i k g).1).trans o).trans l.same)
def Zul(a b:List Chg):[a.map Chg.z,b.map Chg.z].flatten.map (·.map C.d)=(a++b).map Zpl:=by show(a.map Chg.z++(b.map Chg.z++[])).map _=_;rw[Ym,<-YL,YY];rfl
def OwN.out{h H0 f:HS}{l:Z2}{i:List Sh}{d m:aD}{e:aC}{g:List Z2}(o:OwN H0 f i d e g)(s:Z0 h H0 [])(hl:l.1<H0.p)(b:h.p<=l.1):OwN h (f.qA l m) i d e g:=by
 refine⟨o.ow.frame λk a=>?_,o.nd,λk a=>?_,(s.trans o.same).qA (.inr b)⟩
 have:=(o.new k a).1
 have c:k≠l:=λj=>by subst j;omega
 simp[c]
 have:=o.new k a
 have:=s.1
 simp;omega
def Zqb(t:Txn)(tables:List aA)(a:List Chg):Prop:=Zpx t.snapshot/\Zr0 (t.changes++a)/\t.q.length+tables.length<=2097152
def Zpk(t:Txn)(tables:List aA)(a:List Chg):Txn:=⟨t.version,t.snapshot,Zph (Zpj (t.q++tables)),t.changes++a⟩
set_option maxHeartbeats 2000000 in
def Zr2(h:HS)(t:Txn)(tables:List aA)(j:List Chg)(aw:Zqb t tables j)(K:V->HS->Prop)
  (b:∀d ls h',OwN h h' Zpi d (Zpk t tables j).z ls->ZG h h'->K (.agg d) h'):
  Z5 prog 21 [.agg (t.z.map C.d),.l (tables.map Zpf),.l (j.map Chg.z)] h K:=by
 refine Z5.jE func21 rfl kR λhg=>?_;refine Z5.ov func21 ?_;obtain⟨m,a,i,c⟩:=t;obtain⟨X,G,ht⟩:=aw;simp only at X G ht;simp;refine Zc (Zry _ _ [i.map Zpf,tables.map Zpf] (.inr ⟨_,rfl⟩) (λM q x L=>?_) (by simpa using ht) _ λn W m1 s1 l1=>?_);simp only[Y5,Xn,or_false] at q;rcases q with rfl|rfl<;>obtain⟨s,_,rfl⟩:=Yi.1 L<;>rfl;have am:MR W 1 n ((i++tables).map Zpc):=by rw[<-Zr3,YL];simpa using m1
 simp;refine Zc (Zs5 _ n _ am _ λr m2 s2=>?_);simp;have aq:Z0 h (((h.qA (h.p,48) [C.d (D.int i64 m),C.d (D.sl (List.map J.z a)),C.d (D.sl (List.map Zpf i)),C.d (D.sl (List.map Chg.z c))]).w.qA (h.p+1,96) [C.d (D.int i64 0),C.nil,C.nil,C.nil]).w) []:=
  (((Z0.refl.qA (.inr (Y7 _))).w).qA (.inr I)).w
 generalize hX:(((h.qA (h.p,48) [C.d (D.int i64 m),C.d (D.sl (List.map J.z a)),C.d (D.sl (List.map Zpf i)),C.d (D.sl (List.map Chg.z c))]).w.qA (h.p+1,96) [C.d (D.int i64 0),C.nil,C.nil,C.nil]).w)=H0 at*;have az:H0.p=h.p+1+1:=by rw[<-hX];simp
 have q3:H0.a (h.p,48)=some [C.d (D.int i64 m),C.d (D.sl (List.map J.z a)),C.d (D.sl (List.map Zpf i)),C.d (D.sl (List.map Chg.z c))]:=by rw[<-hX];simp
 have ar:Z0 H0 W []:=(Z0.refl.qC.w).trans s1;have y:∀k∈Z n,H0.p<=k.1/\k.1<r.p:=λk b=>by have F:=l1 k b;have:=s2.1;simp at F;omega
 have f:Z0 H0 r []:=ar.trans' s2 λk b=>.inr (y k b).1;have S:r.a (h.p,48)=some [C.d (D.int i64 m),C.d (D.sl (List.map J.z a)),C.d (D.sl (List.map Zpf i)),C.d (D.sl (List.map Chg.z c))]:=by rw[f.2 _ sO I];exact q3
 have a1:h.p+1<r.p:=by have:=f.1;omega
 have z:r.a (h.p+1,96)=some [C.d (D.int i64 0),C.nil,C.nil,C.nil]:=by rw[f.2 _ sO I,<-hX];simp
 have P:∀k:Z2,k.1<=h.p+1->k∉Z n:=λk b F=>by have:=y k F;omega
 have u:∀M∈[c.map Chg.z,j.map Chg.z],∀x∈M,x.length=4:=λM q x L=>by simp only[Y5,Xn,or_false] at q;rcases q with rfl|rfl<;>obtain⟨s,_,rfl⟩:=Yi.1 L<;>rfl
 refine Z6.jS (λk=>k !=6) (Y.qB [0,2,3,5,7,9] (.three 1 4 8 (Y.qB [] (.two 4 8 (Y.qB [] (.two 6 8 (Y.qB [8,10,11,12,13,14] .done) (Y.qB [] (.two 6 10 (Y.qB [10,11,12,13,14] .done) (Y.qB [6,11,12,13,14] .done))))) (Y.qB [] (.two 4 10 (Y.qB [] (.two 6 10 (Y.qB [10,11,12,13,14] .done) (Y.qB [6,11,12,13,14] .done))) (Y.qB [4,6,11,12,13,14] .done))))) (Y.qB [] (.three 1 6 8 (Y.qB [] (.two 6 8 (Y.qB [8,10,11,12,13,14] .done) (Y.qB [] (.two 6 10 (Y.qB [10,11,12,13,14] .done) (Y.qB [6,11,12,13,14] .done))))) (Y.qB [1,8,10,11,12,13,14] .done) (Y.qB [] (.three 1 6 10 (Y.qB [] (.two 6 10 (Y.qB [10,11,12,13,14] .done) (Y.qB [6,11,12,13,14] .done))) (Y.qB [1,10,11,12,13,14] .done) (Y.qB [] (.two 1 6 (Y.qB [6,11,12,13,14] .done) (Y.qB [1,11,12,13,14] .done))))))) (Y.qB [] (.three 1 4 10 (Y.qB [] (.two 4 10 (Y.qB [] (.two 6 10 (Y.qB [10,11,12,13,14] .done) (Y.qB [6,11,12,13,14] .done))) (Y.qB [4,6,11,12,13,14] .done))) (Y.qB [] (.three 1 6 10 (Y.qB [] (.two 6 10 (Y.qB [10,11,12,13,14] .done) (Y.qB [6,11,12,13,14] .done))) (Y.qB [1,10,11,12,13,14] .done) (Y.qB [] (.two 1 6 (Y.qB [6,11,12,13,14] .done) (Y.qB [1,11,12,13,14] .done))))) (Y.qB [] (.two 1 4 (Y.qB [4,6,11,12,13,14] .done) (Y.qB [] (.two 1 6 (Y.qB [6,11,12,13,14] .done) (Y.qB [1,11,12,13,14] .done))))))))) follows kR
  (λe g=>e.n=29/\e.get 6=.p (h.p+1,96)/\∃d ls,g.a (h.p+1,96)=some d/\OwN h g Zpi d (Txn.z ⟨m,a,Zph (Zpj (i++tables)),c++j⟩) ls) ?_ ?_
 .simp[S,z,V8]
  all_goals repeat' first
   |with_reducible refine And.intro ?_ ?_
   |assumption
   | (refine Zc (Zs6 _ a X _ λci ha T ba=>?_)
      have A:=T.same;have ea:=A.1
      try simp at ea
      have N:=(A.2 (h.p,48) (by simp<;>omega) I).trans (by simpa using S);have R:=(A.2 (h.p+1,96) (by simp<;>omega) I).trans (by simpa using z);have au:MR ha 1 n ((Zpj (i++tables)).map Zpc):=m2.frame λk b=>(A.2 k (by have:=y k b;simp<;>omega) I).trans I;simp[N,R,V8])
   | (refine Zc (Zs3 _ n _ (au.frame λk b=>I) _ λc2 hb m3 B l3=>?_)
      have eb:=B.1
      try simp at eb
      have ax:=(B.2 (h.p,48) (by simp<;>omega) (P _ I)).trans (by simpa using N);have O:=(B.2 (h.p+1,96) (by simp<;>omega) (P _ I)).trans (by simpa using R);simp[ax,O,V8])
   | (refine Zc (Z5.jE func42 rfl kR λap=>Zrz _ _ [c.map Chg.z,j.map Chg.z] (.inr ⟨_,rfl⟩) u (by simpa using G.1) _ λc3 a7 m4 E l4=>?_)
      have ec:=E.1
      try simp at ec
      have Q:=(E.2 (h.p+1,96) (by simp<;>omega) I).trans (by simpa using O);have bc:=E.jA ap;simp[Q,V8])
   | (refine Zc (Zs4 _ c3 (c++j) (Zul c j▸m4.rd) G _ λc4 hd U bd=>?_)
      have sd:=U.same;have ao:=(sd.2 (h.p+1,96) (by simp<;>omega) I).trans Q;simp[ao,V8])
  all_goals
   obtain⟨ls,o⟩:=Zvg (v:=m) (f.trans sm) T sm m3 B l3 (λk b=>by have:=y k b;first|omega|(simp;omega)) (Z0.trans sm E) U;exact Ze.of ⟨I,I,_,ls,Kw.trans (if_pos rfl),o.out aq sO I⟩
 rintro e g ⟨en,e6,d,ls,z,o⟩;have ay:d.length=4:=o.ow.len.1;have h4:Zs 4 d=some d:=by rw[<-ay];simp[Zs]
 simp[en,e6,z,h4,ZS,ZK,ZX,W5];exact b _ _ _ o (o.same.jA hg)
def Zpz(g_:Gr)(t:Txn):aB ((List J)×Int):=
 Z1 (Dh g_ t.version) λv3=>bif (v3.2 !=0) then some ([],v3.2) else Z1 (Co v3.1 t.snapshot t.changes) λv6=>some (v6.1,v6.2)
instance Zr1(g_:Gr)(t:Txn):Con (Zpz g_ t) prog 22 [.agg g_.z,.agg t.z] (λr=>.tup [.one (.d (.sl (r.1.map J.z))),.one (.d (.int .i64 r.2))]):=by unfold Zpz;exact go 26 func22
end
section
open Go.RowKit (Below)
def Ztz{Γ:Ctx}{h:HS}{μ:Mem}{w m:World}(a:Inv Γ h μ w)(d:Below w.heap.size w m):Inv Γ h μ m:=by
 have p:=a.below.size;refine⟨a.cell.of_heap (λb o v j=>d.block b (a.cell.lt j)),a.tmp,a.tcell.of_heap (λb o v j=>d.block b (a.tcell.lt j)),a.told,a.ext,a.old,a.below.trans (d.mono p),λl q i=>?_,λl r n i=>?_,a.inj,a.lt,a.both⟩;obtain⟨b,n,T,c,f,e,k,t,u⟩:=a.a l q i;exact⟨b,n,T,c,f,e,(d.block b (Ax k)).trans k,t,u⟩;obtain⟨s,f,e⟩:=a.arr l r n i;refine⟨s,f,e.keep (λg x=>?_) (λ_ _ _ h=>h)⟩;obtain⟨_,T1,cur,y,_⟩:=e.2 g x;exact d.block g (Ax y)
def Zsb{P:Program}{h:HS}{f:FuncId}{j:List V}{e:List AV}{x y:D}{K:V->HS->Prop}(g:Zq P f e (.tup [.one (.d x),.one (.d y)]))(s:Uy h j e)(A:y.flat=true)(r:K (.tup [.one .any,.one (.d y)]) h):Z5 P f j h K:=by
 refine⟨g.1,λΓ μ w vals hI hR=>?_⟩;obtain⟨c,l⟩:=s.get;have k:CE (WU w) (WU w) e vals:=⟨by rw[hR.1,c],λi x a=>by obtain⟨v,z,m⟩:=l i x a;obtain⟨u,t,b⟩:=hR.2 i v z;exact⟨u,t,Z7j hI m b⟩⟩
 refine(g.2 w (WU w) (WU w) vals hI.glob (Gf w) (Gf w) k).mono ?_;rintro en w' ⟨v,m',ak,rfl,ag,ah,ae,q,b,aj⟩;obtain⟨G,rfl,n,b⟩:=b;obtain⟨E,o,B⟩:=b 0 _ rfl;obtain⟨F,p,C⟩:=b 1 _ rfl;refine⟨_,_,h,μ,rfl,r,Ztz hI q,⟨G,rfl,n,λi x a=>?_⟩,.refl μ⟩
 match i,a with
 |0,a=>cases a;exact⟨E,o,RepD.jZ B⟩
 |1,a=>cases a;exact⟨F,p,Qa A C⟩
instance Zw3(x:List Chg):Decidable (Zr0 x):=inferInstanceAs (Decidable (_/\_))
instance Zw1(x:List J):Decidable (Zpx x):=inferInstanceAs (Decidable (_/\_))
instance Zw2(t:Txn)(a:List aA)(b:List Chg):Decidable (Zqb t a b):=inferInstanceAs (Decidable (_/\_/\_))
def Zpy:Txn:=⟨0,[],[],[]⟩
def Zqt{h a:HS}(b:Z0 h a []):OwN h a Zpi [.d (.int .i64 0),.nil,.nil,.nil] Zpy.z []:=⟨.data rfl (.emp rfl (.emp rfl (.emp rfl .nil))),Y3j,I,b⟩
def Zpp(b:Gr)(t:Txn)(a:List Chg):aB (Txn×Int):=
 Zp (Zqb t (a.map (λx=>x.u)) a)<|bif decide ((24:Int)<(t.changes.length:Int)+(a.length:Int)) then some (Zpy,2) else
 Z1 (Zpz b (Zpk t (a.map (λx=>x.u)) a)) λr=>bif r.2 !=0 then some (Zpy,r.2) else some (Zpk t (a.map (λx=>x.u)) a,0)
set_option maxHeartbeats 2000000 in
def Zsc(h:HS)(A:Gr)(t:Txn)(f:List Chg)(r:Txn×Int)(s:Is (Zpp A t f) r)(K:V->HS->Prop)
  (j:∀m B h',OwN h h' Zpi m r.1.z B->ZG h h'->K (.tup [.agg m,.i r.2]) h'):
  Z5 prog 7 [.agg (A.z.map C.d),.agg (t.z.map C.d),.l (f.map Chg.z)] h K:=by
 refine Z5.jE func7 rfl kR λW=>?_;refine Z5.ov func7 ?_;obtain⟨S,s⟩:=s.chk;have a7:=S.2.1.1;have aw:=S.2.2;simp at a7 aw;have hw:IntKind.i64.wrap ((t.changes.length:Int)+(f.length:Int))=(t.changes.length:Int)+(f.length:Int):=Y6 _ X;simp[hw];intro bf hl2;refine Vy (λax=>?_) (λa1=>?_);rw[decide_eq_true ax] at s;obtain rfl:=Zk s;simp;refine(show ZS _ _ _ _ _ _ from ?_);simp[ZS,ZK,ZX,W5,Zs];refine j _ [] _ (Zqt ?_) (Z0.jA ?_ W)<;>exact(((((Z0.refl.qA (.inr (Y7 _))).w).qA (.inr I)).w.qA (.inr (by simp<;>omega))).w).qA (.inr (by simp<;>omega));rw[decide_eq_false a1] at s;simp only[cond_false] at s;simp;intro _;generalize hX:(((h.qA (h.p,48) _).w.qA (h.p+1,64) _).w.qA (h.p+1+1,96) _).w=HX;have q3:HX.a (h.p,48)=some (A.z.map C.d):=by rw[<-hX];simp
 have q4:HX.a (h.p+1,64)=some (t.z.map C.d):=by rw[<-hX];simp
 have q6:HX.a (h.p+1+1,96)=some [C.d (D.int i64 0),C.nil,C.nil,C.nil]:=by rw[<-hX];simp
 have bd:HX.p=h.p+1+1+1:=by rw[<-hX];simp
 have hs:Z0 h HX []:=by rw[<-hX];exact((((Z0.refl.qA (.inr (Y7 _))).w).qA (.inr I)).w.qA (.inr (by simp<;>omega))).w
 refine Z6.rounds (λn e h'=>∃(i:Nat) (u:C),n=f.length-i/\i<=f.length/\e.n=48/\e.get 2=.l (f.map Chg.z)/\e.get 3=.p (h.p,48)/\e.get 4=.p (h.p+1,64)/\e.get 6=.p (h.p+1+1,96)/\e.get 8=.one u/\
  e.get 21=.l (f.map Chg.z)/\e.get 22=.i (f.length:Int)/\e.get 23=.i (i:Int)/\MR h' 1 u (((f.take i).map (λx=>x.u)).map Zpc)/\Z0 HX h' []/\∀k∈Z u,HX.p<=k.1/\k.1<h'.p) f.length
  ⟨0,.nil,rfl,X,I,I,I,I,I,I,I,I,I,by simpa using MR.nil,.refl,by simp[Z]⟩ ?_
 rintro n e h' ⟨i,u,rfl,bc,w,N,O,F,U,P,T,Q,R,m8,z,L⟩;simp[w,T,Q,R];refine Vy (λhlt=>?_) (λhge=>?_);have af:i<f.length:=X
 have aq:IntKind.i64.wrap ((i:Int)+1)=(i:Int)+1:=Y6 _ X;simp[w,P,T,Q,R,af,aq];refine Wl Zpu kR dE dE (m8.frame λk j=>?_) (Zr.qU rfl) sO (λc' g au ap ay=>?_)
 have:=L k j
 have Y:k≠(h'.p,160):=λH=>by subst H;simp at this
 simp[Y];have hy:Z0 h' (((h'.qA (h'.p,160) [C.d (D.int i64 0),C.d (D.str empty),C.nil,C.nil]).w.qA (h'.p,160) [C.d (D.int i64 f[i].g),C.d (D.str f[i].u),C.d (D.sl (List.map GV.z f[i].key)),C.d (D.sl (List.map GV.z f[i].row))]).qC (h'.p+1,480) (some (1,1))).w []:=
  (((Z0.refl.qA (.inr (Y7 _))).w).qA (.inr (Y7 _))).qC.w
 have bg:=hy.1;have bb:=ap.1;simp[w,R,aq];refine AQ.of (n':=f.length-(i+1)) X ⟨i+1,c',rfl,X,by simp[w],by simp[N],by simp[O],by simp[F],by simp[U],I,by simp[T],by simp[Q],I,?_,?_,?_⟩;rw[Yg af,YL,YL];exact au;exact(z.trans hy).trans' ap λk j=>.inr (L k j).1;intro k j;rcases ay k j with y|y
 have:=L k y;omega
 have:=z.1;omega
 have az:i=f.length:=X;subst az;rw[Yl] at m8;have b3:h'.a (h.p,48)=some (A.z.map C.d):=by rw[z.2 _ (by simp<;>omega) I];exact q3
 have b4:h'.a (h.p+1,64)=some (t.z.map C.d):=by rw[z.2 _ (by simp<;>omega) I];exact q4
 have b6:h'.a (h.p+1+1,96)=some [C.d (D.int i64 0),C.nil,C.nil,C.nil]:=by rw[z.2 _ (by simp<;>omega) I];exact q6
 have am:=z.1;have M:Z0 HX (h'.qP (Z u)) []:=⟨am,λk j _=>by
  rw[<-z.2 k j I];simp only[HS.qP];rw[if_neg λy=>by have:=L k y;omega]⟩
 have a8:Frz (h'.only (Z u)) u (.sl ((f.map (λx=>x.u)).map Zpf)):=(Zrl (m8.frame (h':=h'.only (Z u)) λk j=>by simp[HS.only,j])).frz.1;simp[w,O,F,P,N,b4];refine Zc (Z5.jP (vs':=[.agg (t.z.map C.d),.l ((f.map (λx=>x.u)).map Zpf),.l (f.map Chg.z)]) (Z u) ⟨Uf.refl,.inr ⟨_,rfl,a8⟩,Uf.refl,trivial⟩ (Zr2 _ t (f.map (λx=>x.u)) f S _ λm B g o hb=>?_));have v:=M.trans o.same;have ba:=v.1;have c3:g.a (h.p,48)=some (A.z.map C.d):=by rw[v.2 _ (by simp<;>omega) I];exact q3
 have c4:g.a (h.p+1,64)=some (t.z.map C.d):=by rw[v.2 _ (by simp<;>omega) I];exact q4
 have c6:g.a (h.p+1+1,96)=some [C.d (D.int i64 0),C.nil,C.nil,C.nil]:=by rw[v.2 _ (by simp<;>omega) I];exact q6
 have J:m.length=4:=o.ow.len.1;have ao:Zs 4 m=some m:=by rw[<-J];simp[Zs]
 simp[w,O,F,P,N,c3,c4];have h5:∀a b c d:C,Zi [a,b,c,d] 0 m=m:=λa b c d=>by simp[Zi,J]
 refine⟨J,?_⟩;simp[w,O,F,P,N,c3,c4,h5,ao];replace s:=s.bind;obtain⟨q,hq,s⟩:=s;have ar:∀k∈B,k≠(h.p+1,64):=λk j H=>by have y:=(o.new k j).1;subst H;have h8:HX.p<=(h'.qP (Z u)).p:=M.1;simp only at y;omega
 have E:OwN h (g.qA (h.p+1,64) m) Zpi m (Zpk t (f.map (λx=>x.u)) f).z B:=by
  refine⟨o.ow.frame λk j=>by simp[ar k j],o.nd,λk j=>?_,((hs.trans v).qA (.inr I))⟩;have y:=o.new k j;have h8:HX.p<=(h'.qP (Z u)).p:=M.1;exact⟨X,y.2⟩
 refine Zc (Zsb ((Zr1 A (Zpk t (f.map (λx=>x.u)) f)).h q hq) ⟨.agg (Oh (ds:=A.z)),.agg E.ow.frz,trivial⟩ rfl ?_);simp[w];have o3:∀xs,OwN h ((g.qA (h.p+1,64) m).qA (h.p+1+1,96) xs) Zpi m (Zpk t (f.map (λx=>x.u)) f).z B:=λxs=>by
  have al:∀k∈B,k≠(h.p+1+1,96):=λk j H=>by have y:=(o.new k j).1;subst H;have h8:HX.p<=(h'.qP (Z u)).p:=M.1;simp only at y;omega
  exact⟨E.ow.frame λk j=>by simp[al k j],E.nd,E.new,E.same.qA (.inr (by simp<;>omega))⟩
 have d6:(g.qA (h.p+1,64) m).a (h.p+1+1,96)=some [C.d (D.int i64 0),C.nil,C.nil,C.nil]:=by simp[c6]
 have d4:(g.qA (h.p+1,64) m).a (h.p+1,64)=some m:=I;generalize g.qA (h.p+1,64) m=G at*;refine ZP s ?_ ?_<;>clear s<;>intro hc s;obtain rfl:=Zk s;simp[w,U,d6,hc,ZS,ZK,ZX,W5,Zs];refine j _ [] _ (Zqt ?_) (Z0.jA ?_ W)<;>exact E.same.qA (.inr (by simp<;>omega));obtain rfl:=Zk s;simp[w,F,U,d4,d6,ao,hc,J,h5,ZS,ZK,ZX,W5];exact j _ _ _ (o3 m) ((o3 m).same.jA W)
end
section
def Zqp{h:HS}:∀{a:aD} {b:aC},ZI h a b->BR h a (b.map RC.d)
 |[],[],_=>trivial
 |_::_,_::_,hf=>⟨hf.1,Zqp hf.2⟩
 |[],_::_,hf=>hf.elim
 |_::_,[],hf=>hf.elim
def Zsf(b:Gr)(t:Txn)(a:List Chg)(r:Txn×Int)(c:Is (Zpp b t a) r):
  Zq prog 7 [.agg b.z,.agg t.z,.l (a.map Chg.z)] (.tup [.agg (r.1.z.map RC.d),.i r.2]):=by
 refine Zq.of_heap (Zsc HS.init b t a r c _ λcs ls h' o hb=>?_);exact⟨Zqp o.ow.frz,Frz.data rfl,trivial⟩
def Zuj(h:HS):h.qP []=h:=by simp[HS.qP]
def Zve{h:HS}(t:Txn)(a:aA)(c:Z2)(d:Zqb t [a] [])(K:V->HS->Prop)(e:∀cs ls b,OwN h b Zpi cs (Zpk t [a] []).z ls->ZG h b->K (.agg cs) b):
  Z5 prog 21 [.agg (t.z.map C.d),.one (.own c [[.str a]]),.one .nil] h K:=by
 refine Z5.jP (vs':=[.agg (t.z.map C.d),.l ([a].map Zpf),.l (([]:List Chg).map Chg.z)]) [] ⟨Uf.refl,.inr ⟨_,rfl,.data rfl⟩,.inr ⟨_,rfl,.data rfl⟩,trivial⟩ ?_;rw[Zuj];exact Zr2 h t [a] [] d K e
def Zrv{h a:HS}(b:Z0 h a []):OwN h a (Bc::Zpi) (.nil::[.d (.int .i64 0),.nil,.nil,.nil]) (.sl []::Zpy.z) ([]++[]):=⟨.emp rfl (Zqt b).ow,Y3j,I,b⟩
def Zqd(e:Gr)(t:Txn)(a:aA)(d:aE):aB (aE×Txn×Int):=
 Z1 (Zpz e t) λc=>bif c.2 !=0 then some ([],Zpy,c.2) else Z1 (Dh e t.version) λs=>Z1 (Wg s.1 a) λf=>bif !f.2 then some ([],Zpy,4) else
 Zp (Zqb t [a] [])<|Za s.1.q f.1 λT=>Za c.1 f.1 λR=>Z1 (A7 T R.rows d) λq=>bif !q.2 then some ([],Zpk t [a] [],0) else Za R.rows q.1 λb=>Zp (b.length<=2097152) (some (b,Zpk t [a] [],0))
set_option maxHeartbeats 2000000 in
def Zs8(h:HS)(g_:Gr)(t:Txn)(e:aA)(N:aE)(r:aE×Txn×Int)(f:Is (Zqd g_ t e N) r)(K:V->HS->Prop)
  (m:∀c n l1 A h',OwN h h' (Bc::Zpi) (c::n) (.sl (r.1.map GV.z)::r.2.1.z) (l1++A)->ZG h h'->K (.tup [.one c,.agg n,.i r.2.2]) h'):
  Z5 prog 13 [.agg (g_.z.map C.d),.agg (t.z.map C.d),.s e,.l (N.map GV.z)] h K:=by
 refine Z5.jE func13 rfl kR λhg=>?_;refine Z5.ov func13 ?_;obtain⟨c,hc,f⟩:=f.bind;simp;refine Zx ((Zr1 g_ t).h c hc) I ?_;simp;refine ZP f ?_ ?_<;>clear f<;>intro P f;obtain rfl:=Zk f;simp[P,ZS,ZK,ZX,W5,Zs];refine m _ _ [] [] _ (Zrv ?_) (Z0.jA ?_ hg)<;>exact(((((Z0.refl.qA (.inr (Y7 _))).w).qA (.inr I)).w.qA (.inr (by simp<;>omega))).w.w).qA (.inr (by simp<;>omega));obtain⟨sv,ao,f⟩:=f.bind;obtain⟨ft,bb,f⟩:=f.bind;simp[P];refine Zx ((Z11 g_ t.version).h sv ao) I ?_;simp[P];refine Zx ((AU sv.1 e).h ft bb) I ?_;simp[P];refine ZP f ?_ ?_<;>clear f<;>intro hf f;obtain rfl:=Zk f;simp[P,hf,ZS,ZK,ZX,W5,Zs];refine m _ _ [] [] _ (Zrv ?_) (Z0.jA ?_ hg)<;>exact((((((((Z0.refl.qA (.inr (Y7 _))).w).qA (.inr I)).w.qA (.inr (by simp<;>omega))).w.w.w).qA (.inr (by simp<;>omega))).w.qA (.inr (by simp<;>omega))).w).qA (.inr (by simp<;>omega));obtain⟨a8,f⟩:=f.chk;simp[P,hf];obtain⟨T,h0,hT,f⟩:=f.get;obtain⟨R,_,S,f⟩:=f.get;obtain⟨k,hk0⟩:∃k:Nat,ft.1=k:=⟨ft.1.toNat,(Int.toNat_of_nonneg h0).symm⟩;rw[hk0] at hT S;simp only[Yn] at hT S;have aq:=(Y0.1 hT).1;have af:=(Y0.1 S).1;obtain⟨q,hq,f⟩:=f.bind;have az:=(Y0.1 hT).2;have ag:=(Y0.1 S).2;generalize hX:HS.w (HS.qC _ (h.p+1+1+1+1+1+1+1,736) _)=HX;have q5:HX.a (h.p+1,80)=some (t.z.map C.d):=by rw[<-hX];simp
 have q9:HX.a (h.p+1+1,144)=some [C.d (D.int i64 0),C.nil,C.nil,C.nil]:=by rw[<-hX];simp
 have ar:HX.a (h.p+1+1+1+1+1,208)=some (sv.1.z.map C.d):=by rw[<-hX];simp
 have bh:HX.p=h.p+8:=by rw[<-hX];simp
 have hs:Z0 h HX []:=by rw[<-hX];exact((((((((Z0.refl.qA (.inr (Y7 _))).w).qA (.inr I)).w.qA (.inr (by simp<;>omega))).w.w.w).qA (.inr (by simp<;>omega))).w.qA (.inr (by simp<;>omega))).w).qC.w
 refine Zc (Zve t e _ a8 _ λn A g o hb=>?_);have w:=o.same;have bf:=w.1;have c5:g.a (h.p+1,80)=some (t.z.map C.d):=by rw[w.2 _ (by simp<;>omega) I];exact q5
 have c9:g.a (h.p+1+1,144)=some [C.d (D.int i64 0),C.nil,C.nil,C.nil]:=by rw[w.2 _ (by simp<;>omega) I];exact q9
 have a7:g.a (h.p+1+1+1+1+1,208)=some (sv.1.z.map C.d):=by rw[w.2 _ (by simp<;>omega) I];exact ar
 have O:n.length=4:=o.ow.len.1;have ad:Zs 4 n=some n:=by rw[<-O];simp[Zs]
 have h5:∀a b c d:C,Zi [a,b,c,d] 0 n=n:=λa b c d=>by simp[Zi,O]
 have hne:∀p:Z2,p.1<HX.p->∀k∈A,k≠p:=λp hp k m he=>by have:=(o.new k m).1;subst he;omega
 simp[c5];refine⟨O,?_⟩;simp[h5];have U:OwN h (g.qA (h.p+1,80) n) Zpi n (Zpk t [e] []).z A:=by
  refine⟨o.ow.frame λk m=>by simp[hne (h.p+1,80) sO k m],o.nd,λk m=>?_,((hs.trans w).qA (.inr I))⟩;have Y:=o.new k m;exact⟨X,Y.2⟩
 have d5:(g.qA (h.p+1,80) n).a (h.p+1,80)=some n:=I;have d9:(g.qA (h.p+1,80) n).a (h.p+1+1,144)=some [C.d (D.int i64 0),C.nil,C.nil,C.nil]:=by simp[c9]
 have d13:(g.qA (h.p+1,80) n).a (h.p+1+1+1+1+1,208)=some (sv.1.z.map C.d):=by simp[a7]
 have bg:h.p+8<=(g.qA (h.p+1,80) n).p:=sO;generalize g.qA (h.p+1,80) n=G at*;refine Z6.cu aF (λL Q=>L.n=76/\L.get 5=.p (h.p+1,80)/\L.get 9=.p (h.p+1+1,144)/\L.get 11=.l (c.1.map J.z)/\L.get 15=.i (k:Int)/\L.get 16=.b q.2/\L.get 17=.i q.1/\Z0 G Q []) ?_ ?_;simp[d13,hk0,hT,S,aq,af];refine Zx ((Ey T R.rows N).h q hq) (by simp[az,ag]) ?_;simp;exact⟨λ_ _ x=>x,Ze.of ⟨I,I,I,I,I,I,I,Z0.refl.w⟩⟩;rintro L Q ⟨u,e5,B,am,au,ax,ak,y⟩;have aj:=y.1;have f5:Q.a (h.p+1,80)=some n:=by rw[y.2 _ (by simp<;>omega) I];exact d5
 have f9:Q.a (h.p+1+1,144)=some [C.d (D.int i64 0),C.nil,C.nil,C.nil]:=by rw[y.2 _ (by simp<;>omega) I];exact d9
 have z:OwN h Q Zpi n (Zpk t [e] []).z A:=⟨U.ow.frame λk m=>y.2 k (U.new k m).2 I,U.nd,λk m=>⟨(U.new k m).1,Y4 (U.new k m).2 aj⟩,U.same.trans y⟩;have ah:∀k∈A,k≠(h.p+1+1,144):=λk m=>hne _ sO k m;simp[u,ax];refine ZP f ?_ ?_<;>clear f<;>intro al f;obtain rfl:=Zk f;simp[u,al];refine Z6.cu [0,1,2,3] (λv E=>v.n=76/\v.get 8=.one .nil/\v.get 9=.p (h.p+1+1,144)/\v.get 10=.i 0/\E.a (h.p+1+1,144)=some n/\OwN h E Zpi n (Zpk t [e] []).z A) ?_ ?_;simp[u,e5,B,f5,f9,ad,O,h5];exact Ze.of ⟨by simp[u],I,by simp[B],I,I,⟨z.ow.frame λk m=>by simp[ah k m],z.nd,λk m=>by simpa using z.new k m,z.same.qA (.inr (by simp<;>omega))⟩⟩;rintro v E ⟨u,e8,B,ae,b9,M⟩;simp[u,e8,B,ae,b9,ad,ZS,ZK,ZX,W5];exact m _ _ [] A _ ⟨.emp rfl M.ow,by simpa using M.nd,by simpa using M.new,M.same⟩ (M.same.jA hg);obtain⟨row,ay,W,f⟩:=f.get;obtain⟨a1,f⟩:=f.chk;obtain rfl:=Zk f;obtain⟨j,hj⟩:∃j:Nat,q.1=j:=⟨q.1.toNat,(Int.toNat_of_nonneg ay).symm⟩;rw[hj] at W ak;simp only[Yn] at W;have aw:=(Y0.1 W).1;have bc:=(Y0.1 W).2;simp[u,al];refine Z6.cu [0,1,2,3,4,5,6,7,9,8,10,11,12] (λv E=>v.n=76/\∃H,v.get 8=.one H/\v.get 9=.p (h.p+1+1,144)/\v.get 10=.i 0/\E.a (h.p+1+1,144)=some n/\OwN h E (Bc::Zpi) (H::n) (.sl (row.map GV.z)::(Zpk t [e] []).z) (Z H++A)) ?_ ?_;simp[u,e5,B,am,au,ak,f5,f9,ad,O,h5,S,af,ag,W,aw,bc];refine Zc (TP Q row a1 _ λH E F m1 ba=>?_);have g9:E.a (h.p+1+1,144)=some [C.d (D.int i64 0),C.nil,C.nil,C.nil]:=by rw[F.same.2 _ (by simp<;>omega) I];exact f9
 have bd:=F.same.1;simp[u,B,g9,O,h5];refine⟨ba,Ze.of ⟨by simp[u],H,I,by simp[B],I,I,?_⟩⟩;have ap:∀k∈Z H,k≠(h.p+1+1,144):=λk m he=>by have:=(F.new k m).1;subst he;simp at this;omega
 refine⟨(F.ow.frame λk m=>by simp[ap k m]).join (z.ow.frame λk m=>?_),Yk.2 ⟨F.nd,z.nd,λa ha b hb' he=>?_⟩,λk m=>?_,(z.same.trans F.same).qA (.inr (by simp<;>omega))⟩;simp[ah k m];exact F.same.2 k (z.new k m).2 I;subst he
 have:=(F.new a ha).1
 have:=(z.new a hb').2
 omega;simp
 have:=z.same.1
 rcases Y3.1 m with Y|Y
 have:=F.new k Y;omega
 have:=z.new k Y;omega
 rintro v E ⟨u,H,e8,B,ae,b9,M⟩;simp[u,e8,B,ae,b9,ad,ZS,ZK,ZX,W5];exact m _ _ (Z H) A _ M (M.same.jA hg)
def Zuk{h:HS}{c:C}{a:aD}{x:D}{b:aC}(f:ZI h (c::a) (x::b)):Frz h c x/\ZI h a b:=f
def Zs9(d:Gr)(t:Txn)(a:aA)(b:aE)(r:aE×Txn×Int)(e:Is (Zqd d t a b) r):
  Zq prog 13 [.agg d.z,.agg t.z,.s a,.l (b.map GV.z)] (.tup [.l (r.1.map GV.z),.agg (r.2.1.z.map RC.d),.i r.2.2]):=by
 refine Zq.of_heap (Zs8 HS.init d t a b r e _ λc cs l1 ls h' o hb=>?_);obtain⟨f1,f2⟩:=Zuk o.ow.frz;exact⟨f1,Zqp f2,Frz.data rfl,trivial⟩
def I2(n:Int):aB GV:=
 some (GV.mk 1 n empty)
instance Zid(n:Int):Con (I2 n) prog 26 [.one (.d (.int .i64 n))] (λr=>.agg (r.z.map RC.d)):=by unfold I2;exact go 5 func26
def JX:aB Gr:=
 Z1 (I2 5) λv2=>some (Gr.mk (Sch.mk [(E.mk ({data:=#[116]}) [(Col.mk ({data:=#[105,100]}) 1 false),(Col.mk ({data:=#[110]}) 1 false)] [0])] [] []) [(Edg.mk 0 [(Stp.mk 1 ({data:=#[116]}) empty ({data:=#[120]}) empty 1 [] empty v2 (E.mk empty [] []) (Cons.mk empty 0 empty 0 (GV.mk 0 0 empty)) (Fk.mk empty [] empty))])])
instance Zgm  :Con (JX) prog 10 [] (λr=>.agg (r.z.map RC.d)):=by unfold JX;exact go 16 func10
instance Zhu(s_:Sch):Con (As s_) prog 28 [.agg s_.z] (λr=>.one (.d (.sl (r.map J.z)))):=⟨λr hm=>Ke s_ r hm⟩
def JZ(s_:Sch)(step:Stp):aB ((List J)×Int):=
 Z1 (Bx s_ step) λv3=>bif (v3.2.2 !=0) then some ([],v3.2.2) else Z1 (As v3.2.1) λv7=>some (v7,0)
instance Zgq(s_:Sch)(step:Stp):Con (JZ s_ step) prog 51 [.agg s_.z,.agg step.z] (λr=>.tup [.one (.d (.sl (r.1.map J.z))),.one (.d (.int .i64 r.2))]):=by unfold JZ;exact go 21 func51
def JQ(s_:Sch)(script:List Stp):aB ((List (List J))×Int):=
 Z1 (Bu s_ script) λv2=>bif (v2.2 !=0) then some ([],v2.2) else Zd (λ(i5:Nat) (x5:Stp) (s5:(List (List J))) next_5=>Za v2.1 (i5:Int) λx7=>Z1 (JZ x7 x5) λv8=>bif (v8.2 !=0) then some ([],v8.2) else Wn s5 [v8.1] λ_=>next_5 (s5++[v8.1])) (λ(s5:(List (List J)))=>some (s5,0)) script 0 []
instance Tg(s_:Sch)(script:List Stp):Con (JQ s_ script) prog 29 [.agg s_.z,.one (.d (.sl (script.map Stp.z)))] (λr=>.tup [.one (.d (.sl (r.1.map (Z7 J.z)))),.one (.d (.int .i64 r.2))]):=by
 unfold JQ;have l1:LH (σ:=(List (List J))) 24 [6,22,23] [.g 8 1 (λs=>s.map (Z7 J.z))]:=.intro;have p1:PH [8] (Y.qB aQ .done):=.intro;exact go 47 func29
def I3(g_:Gr):aB (Db×Int):=
 Z1 (Ar g_) λv3=>bif (v3.2 !=0) then some ((Db.mk [] []),v3.2) else Zd (λ(i7:Nat) (x7:Sch) (s7:(List (List J))) next_7=>Z1 (As x7) λv9=>Wn s7 [v9] λ_=>next_7 (s7++[v9])) (λ(s7:(List (List J)))=>Zd (λ(i13:Nat) (x13:Edg) (s13:(List (List (List J)))) next_13=>Za v3.1 x13.m λx15=>Z1 (JQ x15 x13.script) λv16=>bif (v16.2 !=0) then some ((Db.mk [] []),v16.2) else Wn s13 [v16.1] λ_=>next_13 (s13++[v16.1])) (λ(s13:(List (List (List J))))=>some ((Db.mk s7 s13),0)) g_.n 0 []) v3.1 0 []
def Z1y(g_:Gr)(r:Db×Int)(hm:Is (I3 g_) r):Zq prog 11 [.agg g_.z] (.tup [.agg (r.1.z.map RC.d),.one (.d (.int .i64 r.2))]):=by
 unfold I3 at hm;refine Zq.qM func11 rfl (by kernel_rfl) (n:=66) rfl rfl (by simp) ?_
 try simp[*]
 refine AC (av:=[.agg g_.z]) hm (λv hv=>Ns _ v hv) (by simp[*]) ?_;clear hm;intro v3 hvv3 hm
 try simp[*]
 refine ZP hm ?_ ?_<;>clear hm<;>intro hc4 hm
 .try simp[*]
  obtain rfl:=Zk hm;exact U0 (vs:=[_,_]) (by simp[*];try exact⟨rfl,rfl⟩) (by simp[*])
 .try simp[*]
  intro hl6;replace hl6:v3.1.length<=2097152:=by simpa using hl6
  refine Z6.for (xs:=v3.1) (s0:=[]) (λi7 s7 e7 h7=>∃c7_0:C,e7.n=66/\e7.get 1=.one (.ptr (0,16) 0)/\e7.get 2=.one (.ptr (1,32) 0)/\e7.get 4=.one (.d (.sl (v3.1.map Sch.z)))/\e7.get 6=.one (.ptr (3,96) 0)/\e7.get 22=.one (.d (.sl (v3.1.map Sch.z)))/\e7.get 23=.one (.d (.int .i64 (v3.1.length:Int)))/\e7.get 24=.one (.d (.int .i64 (i7:Int)))/\h7.a (0,16)=some [.d (.sl (g_.base.q.map E.z)),.d (.sl (g_.base.b.map Fk.z)),.d (.sl (g_.base.cons.map Cons.z)),.d (.sl (g_.n.map Edg.z))]/\h7.a (1,32)=some [.nil,.nil]/\h7.a (3,96)=some [c7_0,.nil]/\Zm h7 1 c7_0 (s7.map (Z7 J.z))) hm ⟨.nil,by simp(maxDischargeDepth:=20) [*]⟩ ?_ ?_
  .rintro i7 s7 e7 h7 ⟨c7_0,hn7,h7_1,h7_2,h7_4,h7_6,h7_22,h7_23,h7_24,hb7_b1,hb7_b2,hb7_b5,gc7_0⟩ hlt7 hm;have hlc7_0:=gc7_0.list;have hdc7_0:=gc7_0.toD;have hac7_0:=gc7_0.toA;have huc7_0:=gc7_0.qG;have hw7:IntKind.i64.wrap ((i7:Int)+1)=(i7:Int)+1:=Y6 _ (by omega)
   try simp[*]
   refine Z6.of (Wy.draw (Y.qB aN .done) follows (by kernel_rfl) ?_)
   try simp[*]
   refine AC (av:=[.agg (v3.1[i7]).z]) hm (λv hv=>Ke _ v hv) (by simp[*]) ?_;clear hm;intro v9 hvv9 hm
   try simp[*]
   try refine⟨λ(_:Z2) (_:aD) hl=>hl,?_⟩
   refine CK (xs:=s7) (ys:=[v9]) (enc:=(Z7 J.z)) hm CC (by first|exact Zm.nil|(simp(maxDischargeDepth:=20) [*];done)|(simp(maxDischargeDepth:=20) [*];refine⟨?_,by omega⟩;intro hq;subst hq;simp at hz2<;>omega)) (by simp[*]) (by decide) (by decide) (λ_=>rfl) ?_;clear hm;intro hl11 hm g10
   try simp[*]
   exact Zj.of (s7++[v9]) ⟨⟨.own (h7.p+3,528) ((s7++[v9]).map (Z7 J.z)),by simp(maxDischargeDepth:=20) [*]⟩,hm⟩
  .rintro s7 e7 h7 ⟨c7_0,hn7,h7_1,h7_2,h7_4,h7_6,h7_22,h7_23,h7_24,hb7_b1,hb7_b2,hb7_b5,gc7_0⟩ hm;have hlc7_0:=gc7_0.list;have hdc7_0:=gc7_0.toD;have hac7_0:=gc7_0.toA;have huc7_0:=gc7_0.qG
   try simp[*]
   intro hl12;replace hl12:g_.n.length<=2097152:=by simpa using hl12
   refine Z6.for (xs:=g_.n) (s0:=[]) (λi13 s13 e13 h13=>∃c13_bb5_0 c13_0:C,(e13.n=66/\e13.get 2=.one (.ptr (1,32) 0)/\e13.get 4=.one (.d (.sl (v3.1.map Sch.z)))/\e13.get 6=.one (.ptr (3,96) 0)/\e13.get 37=.one (.d (.sl (g_.n.map Edg.z)))/\e13.get 38=.one (.d (.int .i64 (g_.n.length:Int)))/\e13.get 39=.one (.d (.int .i64 (i13:Int)))/\h13.a (1,32)=some [.nil,.nil]/\h13.a (3,96)=some [c13_bb5_0,c13_0]/\Zm h13 1 c13_bb5_0 (s7.map (Z7 J.z))/\Zm h13 1 c13_0 (s13.map (Z7 (Z7 J.z))))/\WM c13_bb5_0 c13_0) hm ⟨c7_0,.nil,by simp(maxDischargeDepth:=20) [*],(by simp)⟩ ?_ ?_
   .rintro i13 s13 e13 h13 ⟨c13_bb5_0,c13_0,⟨hn13,h13_2,h13_4,h13_6,h13_37,h13_38,h13_39,hb13_b2,hb13_b5,gc13_bb5_0,gc13_0⟩,apc13_bb5_0_c13_0⟩ hlt13 hm;have hlc13_bb5_0:=gc13_bb5_0.list;have hdc13_bb5_0:=gc13_bb5_0.toD;have hac13_bb5_0:=gc13_bb5_0.toA;have huc13_bb5_0:=gc13_bb5_0.qG;have hlc13_0:=gc13_0.list;have hdc13_0:=gc13_0.toD;have hac13_0:=gc13_0.toA;have huc13_0:=gc13_0.qG;have hw13:IntKind.i64.wrap ((i13:Int)+1)=(i13:Int)+1:=Y6 _ (by omega)
    try simp[*]
    refine Z6.of (Wy.draw (Y.qB aI .done) follows (by kernel_rfl) ?_)
    try simp[*]
    replace hm:=hm.get;obtain⟨x15,h0x15,hxx15,hm⟩:=hm
    try simp[*]
    refine AC (av:=[.agg x15.z,.one (.d (.sl ((g_.n[i13].script).map Stp.z)))]) hm (λv hv=>Tg _ _ v hv) (by simp[*]) ?_;clear hm;intro v16 hvv16 hm
    try simp[*]
    try refine⟨λ(_:Z2) (_:aD) hl=>hl,?_⟩
    refine ZP hm ?_ ?_<;>clear hm<;>intro hc17 hm
    .try simp[*]
     obtain rfl:=Zk hm;exact U0 (vs:=[_,_]) (by simp[*];try exact⟨rfl,rfl⟩) (by simp[*])
    .try simp[*]
     refine CK (xs:=s13) (ys:=[v16.1]) (enc:=(Z7 (Z7 J.z))) hm IP (by first|exact Zm.nil|(simp(maxDischargeDepth:=20) [*];done)|(simp(maxDischargeDepth:=20) [*];refine⟨?_,by omega⟩;intro hq;subst hq;simp at hz2<;>omega)) (by simp[*]) (by decide) (by decide) (λ_=>rfl) ?_;clear hm;intro hl19 hm g18
     try simp[*]
     exact Zj.of (s13++[v16.1]) ⟨⟨c13_bb5_0,.own (h13.p+3,992) ((s13++[v16.1]).map (Z7 (Z7 J.z))),by simp(maxDischargeDepth:=20) [*],(by first|(simp[*];done)|exact(gc13_bb5_0.apart (by simp)).symm)⟩,hm⟩
   .rintro s13 e13 h13 ⟨c13_bb5_0,c13_0,⟨hn13,h13_2,h13_4,h13_6,h13_37,h13_38,h13_39,hb13_b2,hb13_b5,gc13_bb5_0,gc13_0⟩,apc13_bb5_0_c13_0⟩ hm;have hlc13_bb5_0:=gc13_bb5_0.list;have hdc13_bb5_0:=gc13_bb5_0.toD;have hac13_bb5_0:=gc13_bb5_0.toA;have huc13_bb5_0:=gc13_bb5_0.qG;have hlc13_0:=gc13_0.list;have hdc13_0:=gc13_0.toD;have hac13_0:=gc13_0.toA;have huc13_0:=gc13_0.qG
    try simp[*]
    obtain rfl:=Zk hm;exact U0 (vs:=[_,_]) (by simp[*];try exact⟨rfl,rfl⟩) (by simp[*])
instance Zib(g_:Gr):Con (I3 g_) prog 11 [.agg g_.z] (λr=>.tup [.agg (r.1.z.map RC.d),.one (.d (.int .i64 r.2))]):=⟨λr hm=>Z1y g_ r hm⟩
def I0(l:List Int):aB (aE):=
 Zd (λ(i2:Nat) (x2:Int) (s2:aE) next_2=>Z1 (I2 x2) λv3=>Wn s2 [v3] λ_=>next_2 (s2++[v3])) (λ(s2:aE)=>some s2) l 0 []
instance Zi5(l:List Int):Con (I0 l) prog 14 [.one (.d (.sl (l.map Zg)))] (λr=>.one (.d (.sl (r.map GV.z)))):=by
 unfold I0;have l1:LH (σ:=aE) 8 [6,7] [.g 3 3 (λs=>s.map GV.z)]:=.intro;exact go 19 func14
def K6(l:List Int):aB Chg:=
 Z1 (I0 l) λv2=>some (Chg.mk 1 ({data:=#[116]}) [] v2)
instance Zhq(l:List Int):Con (K6 l) prog 12 [.one (.d (.sl (l.map Zg)))] (λr=>.agg (r.z.map RC.d)):=by unfold K6;exact go 6 func12
instance Zvx(g_:Gr)(t:Txn)(table:aA)(key:aE):Con (Zqd g_ t table key) prog 13 [.agg g_.z,.agg t.z,.one (.d (.str table)),.one (.d (.sl (key.map GV.z)))] (λr=>.tup [.one (.d (.sl (r.1.map GV.z))),.agg (r.2.1.z.map RC.d),.one (.d (.int .i64 r.2.2))]):=⟨λr hm=>Zs9 g_ t table key r hm⟩
def Zqm(s1:List aA)(s2:List aA):aB Bool:=
 bif ((s1.length:Int) !=(s2.length:Int)) then some false else Zd (λ(i5:Nat) (x5:aA) (s5:Unit) next_5=>Za s2 (i5:Int) λx6=>bif !(Z9 x5 x6) then some false else next_5 ()) (λ(s5:Unit)=>some true) s1 0 ()
instance Zvu(s1:List aA)(s2:List aA):Con (Zqm s1 s2) prog 16 [.one (.d (.sl (s1.map Zpf))),.one (.d (.sl (s2.map Zpf)))] (λr=>.one (.d (.bool r))):=by unfold Zqm;have l1:LH (σ:=Unit) 13 [0,1,12] []:=.intro;have p1:PH [6] (Y.qB aG .done):=.intro;exact go 26 func16
def Ex(g_:Gr)(db:Db)(v_:Int):aB ((List J)×Int):=
 Z1 (C0 g_ db) λv3=>bif (v3 !=0) then some ([],v3) else bif decide (v_<0) then some ([],4) else bif decide ((db.insts.length:Int)<=v_) then some ([],4) else Za db.insts v_ λx8=>Z1 (Vw x8) λv9=>some (v9,0)
instance Zi6(g_:Gr)(db:Db)(v_:Int):Con (Ex g_ db v_) prog 20 [.agg g_.z,.agg db.z,.one (.d (.int .i64 v_))] (λr=>.tup [.one (.d (.sl (r.1.map J.z))),.one (.d (.int .i64 r.2))]):=by unfold Ex;exact go 30 func20
def Zq0(g_:Gr)(db:Db)(v_:Int):aB (Txn×Int):=
 Z1 (Ex g_ db v_) λv4=>bif (v4.2 !=0) then some ((Txn.mk 0 [] [] []),v4.2) else some ((Txn.mk v_ v4.1 [] []),0)
instance Zw0(g_:Gr)(db:Db)(v_:Int):Con (Zq0 g_ db v_) prog 6 [.agg g_.z,.agg db.z,.one (.d (.int .i64 v_))] (λr=>.tup [.agg (r.1.z.map RC.d),.one (.d (.int .i64 r.2))]):=by unfold Zq0;exact go 24 func6
instance Zvz(g_:Gr)(t:Txn)(changes:List Chg):Con (Zpp g_ t changes) prog 7 [.agg g_.z,.agg t.z,.one (.d (.sl (changes.map Chg.z)))] (λr=>.tup [.agg (r.1.z.map RC.d),.one (.d (.int .i64 r.2))]):=⟨λr hm=>Zsf g_ t changes r hm⟩
def Zpo:aB Bool:=
 Z1 (JX) λv1=>Z1 (I3 v1) λv3=>bif (v3.2 !=0) then some false else Z1 (Zq0 v1 v3.1 0) λv6=>bif (v6.2 !=0) then some false else Z1 (K6 [3,4]) λv9=>Z1 (Zpp v1 v6.1 [v9]) λv10=>bif (v10.2 !=0) then some false else Z1 (I0 [3]) λv12=>Z1 (Zqd v1 v10.1 ({data:=#[116]}) v12) λv13=>bif (v13.2.2==0) then Z1 (I0 [3,4]) λv15=>(Z1 (FP v13.1 v15) λv16=>bif v16 then Z1 (Zqm v13.2.1.q [{data:=#[116]}]) λv18=>(some v18) else some false) else some false
instance Zvv  :Con (Zpo) prog 4 [] (λr=>.one (.d (.bool r))):=by unfold Zpo;have p1:PH [8] (Y.qB aQ .done):=.intro;have p2:PH [11] (Y.qB aV .done):=.intro;exact go 56 func4
def Zpr(g_:Gr)(t:Txn)(inst:List J):aB (Bool×Int):=
 Z1 (Dh g_ t.version) λv3=>bif (v3.2 !=0) then some (false,v3.2) else Z1 (VE v3.1 inst) λv6=>bif (v6 !=0) then some (false,v6) else Z1 (VE v3.1 t.snapshot) λv8=>bif (v8 !=0) then some (false,v8) else Zd (λ(i11:Nat) (x11:aA) (s11:Unit) next_11=>Z1 (Wg v3.1 x11) λv12=>bif v12.2 then Za inst v12.1 λx14=>(Za t.snapshot v12.1 λx15=>Z1 (G3 x14.rows x15.rows) λv16=>bif !v16 then some (false,0) else next_11 ()) else next_11 ()) (λ(s11:Unit)=>some (true,0)) t.q 0 ()
instance Zvw(g_:Gr)(t:Txn)(inst:List J):Con (Zpr g_ t inst) prog 23 [.agg g_.z,.agg t.z,.one (.d (.sl (inst.map J.z)))] (λr=>.tup [.one (.d (.bool r.1)),.one (.d (.int .i64 r.2))]):=by unfold Zpr;have l1:LH (σ:=Unit) 42 [2,4,8,40,41] []:=.intro;have p1:PH [14] (Y.qB aZ .done):=.intro;exact go 69 func23
def Zpv(g_:Gr)(db:Db)(t:Txn):aB (Db×Int×Int):=
 Z1 (Ex g_ db t.version) λv5=>bif (v5.2 !=0) then some ((Db.mk [] []),0,v5.2) else Z1 (Zpr g_ t v5.1) λv7=>bif (v7.2 !=0) then some ((Db.mk [] []),0,v7.2) else bif !v7.1 then some ((Db.mk [] []),0,16) else Z1 (Bv g_ db t.version t.changes) λv10=>some (v10.1,v10.2.1,v10.2.2)
instance Zvy(g_:Gr)(db:Db)(t:Txn):Con (Zpv g_ db t) prog 8 [.agg g_.z,.agg db.z,.agg t.z] (λr=>.tup [.agg (r.1.z.map RC.d),.one (.d (.int .i64 r.2.1)),.one (.d (.int .i64 r.2.2))]):=by unfold Zpv;exact go 48 func8
def Zqc(g_:Gr)(db:Db)(v_:Int)(a:Chg)(b:Chg):aB Bool:=
 Z1 (Zpo) λv5=>bif !v5 then Z1 (Zpo) λv7=>(some v7) else Z1 (Dd g_ db []) λv8=>bif !v8 then Z1 (Zpo) λv10=>(some v10) else bif !(Z9 a.u b.u) then Z1 (Zpo) λv12=>(some v12) else Z1 (Zq0 g_ db v_) λv13=>bif (v13.2 !=0) then some true else Z1 (Zpp g_ v13.1 [a]) λv16=>Z1 (Zpp g_ v13.1 [b]) λv18=>bif (v16.2 !=0) then some true else bif (v18.2 !=0) then some true else Z1 (Zpv g_ db v16.1) λv22=>bif (v22.2.2 !=0) then some true else bif decide (v_<0) then some false else bif decide ((db.insts.length:Int)<=v_) then some false else bif decide ((v22.1.insts.length:Int)<=v_) then some false else Za v22.1.insts v_ λx30=>Za db.insts v_ λx31=>Z1 (E6 x30 x31) λv32=>bif v32 then some true else Z1 (Zpv g_ v22.1 v18.1) λv34=>some (v34.2.2==16)
instance Zrx(g_:Gr)(db:Db)(v_:Int)(a:Chg)(b:Chg):Con (Zqc g_ db v_ a b) prog 3 [.agg g_.z,.agg db.z,.one (.d (.int .i64 v_)),.agg a.z,.agg b.z] (λr=>.one (.d (.bool r))):=by unfold Zqc;have p1:PH [15] (Y.qB aQ .done):=.intro;exact go 113 func3
set_option maxRecDepth 100000 in
def Zrb:Zpo=some true:=by decide+kernel
def Zru:Wp (Z1 Zpo λv=>some v) λr=>r=true:=X0 (Wb Zrb) λ_ _ h=>X2 h
def Zum{g}(z:F6 g)(b)(v:Int):Wp (Ex g b v) λq=>q.2=0->∃a S,DbV g b a/\C0 g b=some 0/\0<=v/\v<a.length/\a[v.toNat]?=some S/\b.insts[v.toNat]?=some q.1:=by
 unfold Ex;refine X0 (Z2l z b) λe p u=>X1 (λh=>X2 λc=>by simp only at c;rw[c] at h;cases h) λh=>X7 λs=>X7 λt=>?_;have c:e=0:=sU h;have⟨a,d⟩:=u c;have j:0<=v:=by simpa using s
 have n:v<b.insts.length:=by simpa using t
 have ac:=d.li;have f:=Y1 (l:=a) (i:=v.toNat) X;refine X3 j n λx k _=>?_;have m:=(d.inst _ _ x f k).2.1.rb (d.ver.vs _ (Y2 f));exact X0 (Cm x (by have:=m.1;omega) λr y=>by have:=m.2 r y;omega) λo _ w=>X2 λ_=>⟨a,_,d,by rw[p,c],j,X,f,by rw[w];exact k⟩
def Zvf{g S x}{v:Int}(d:VS S)(n:Dh g v=some (S,0))(f:VE S x=some 0)(o:CF S x)(p:List aA)(k:List Chg):Zpr g ⟨v,x,p,k⟩ x=some (true,0):=by
 have hl:=o.len;refine Ww ?_;unfold Zpr;refine Xb n ?_;refine X9 rfl<|Xb f<|X9 rfl<|Xb f<|X9 rfl<|X6 (λ_ _=>True) trivial ?_ λ_ _=>X2 rfl;intro i t _ next _ _ _ j
 refine X0 (UH S t) λq _ e=>X1 (λh=>?_) λ_=>j () trivial;have h1:=(e.2.1 h).1;refine X3 e.1 X λa l _=>X3 e.1 (by simp only;omega) λb c _=>?_;simp only at c;rw[l] at c;cases c;exact X0 (Zaq a.rows a.rows) λr _ m=>X9 (by rw[m.2 rfl];rfl) (j () trivial)
def WO(g:Gr)(h:Hop):Int:=bif h.back then((g.n[h.edge.toNat]?).map Edg.m).getD 0 else h.edge+1
def Fc(g:Gr)(h:Hop):Int:=bif h.back then h.edge+1 else((g.n[h.edge.toNat]?).map Edg.m).getD 0
def F1{g h e}(a:g.n[h.edge.toNat]?=some e):WO g h=bif h.back then e.m else h.edge+1:=by unfold WO;rw[a];rfl
def IF{g h e}(a:g.n[h.edge.toNat]?=some e):Fc g h=bif h.back then h.edge+1 else e.m:=by unfold Fc;rw[a];rfl
structure TI(g:Gr)(v:Int)(Q:List Int)(H:List Hop):Prop where
 nd:Q.Nodup
 rng:∀u∈Q,0<=u/\u<=(g.n.length:Int)
 shape:Q=v::H.map (WO g)
 edge:∀h∈H,0<=h.edge/\h.edge<(g.n.length:Int)
 near:∀t h,H[t]?=some h->Fc g h∈Q.take (t+1)
 dist:(H.map Hop.edge).Nodup
def TI.len{g}{v:Int}{Q H}(t:TI g v Q H):Q.length=H.length+1:=by rw[t.shape];simp
def TI.ends{g}{v:Int}{Q:List Int}{H}(t:TI g v Q H){h}(d:h∈H){e}(c:g.n[h.edge.toNat]?=some e):h.edge+1∈Q/\e.m∈Q:=by
 obtain⟨k,f,rfl⟩:=Yo d;have a:=XE (t.near k _ (Y1 f));have b:WO g H[k]∈Q:=by rw[t.shape];exact Yc _ (Yi.2 ⟨_,d,rfl⟩)
 rw[F1 c] at b;rw[IF c] at a;cases hb:H[k].back<;>rw[hb] at a b;exact⟨b,a⟩;exact⟨a,b⟩
def TI.add{g}{v:Int}{Q:List Int}{H}(t:TI g v Q H){h:Hop}{i:Nat}{e:Edg}(o:g.n[i]?=some e)(n:h.edge=i)(p:WO g h∉Q)(hn:Fc g h∈Q)(z:0<=WO g h/\WO g h<=(g.n.length:Int)):TI g v (Q++[WO g h]) (H++[h]):=by
 have hlt:=(Y0.1 o).1;have x:=t.len;refine⟨?_,λu A=>?_,by rw[t.shape];simp,λd w=>?_,λk d f=>?_,?_⟩;rw[Yk];refine⟨t.nd,I,λa l b j=>?_⟩;rw[Yj.1 j];exact λc=>p (c▸l);rcases Y3.1 A with c|c;exact t.rng u c;rw[Yj.1 c];exact z;rcases Y3.1 w with c|c;exact t.edge d c;rw[Yj.1 c,n];omega;rcases Yx k H.length with c|c;rw[Yu c] at f;rw[Xg X];exact t.near k d f;have q:=(Y0.1 f).1;simp only[Ye,Y34] at q;obtain rfl:k=H.length:=X
 rw[YC (Y7 _),Y3f] at f;cases f
 rwa [Y3e x]
 rw[YL,Yk];refine⟨t.dist,I,λa l b j=>?_⟩;rw[Yb,Yf,Yj] at j;subst j;intro c;obtain⟨d,y,rfl⟩:=Yi.1 l;have m:g.n[d.edge.toNat]?=some e:=by rw[c,n,Yn];exact o
 have⟨r,s⟩:=t.ends y m
 have:WO g h∈Q:=by rw[F1 (show g.n[h.edge.toNat]?=some e by rwa [n,Yn])];cases h.back;rw[<-c];exact r;exact s
 exact p this
structure TF(g:Gr)(v:Int)(H:List Hop):Prop where
 ti:TI g v (v::H.map (WO g)) H
 all:∀u:Nat,u<=g.n.length->(u:Int)∈v::H.map (WO g)
def TF.n{g}{v:Int}{H}(t:TF g v H){i:Nat}(k:i<g.n.length):∃h∈H,h.edge=i:=by
 refine Classical.byContradiction λe=>?_;have c:(ZZ (g.n.length+1)).length<=(v::H.map (WO g)).length:=List.Nodup.length_le_of_subset (by
  unfold ZZ List.Nodup;rw[List.pairwise_map];exact List.pairwise_lt_range.imp λh=>X) λu a=>by
  simp only[ZZ,Yi,XV] at a;obtain⟨m,b,rfl⟩:=a;exact t.all m X
 rw[Cy] at c;simp only[YM,Yd] at c;have d:((i:Int)::H.map Hop.edge).length<=(ZZ g.n.length).length:=List.Nodup.length_le_of_subset (by
  refine XF.2 ⟨λf=>?_,t.ti.dist⟩;have⟨h,b,j⟩:=Yi.1 f;exact e ⟨h,b,j⟩) λu a=>by
  simp only[ZZ,Yi,XV];rcases Y5.1 a with rfl|a;exact⟨i,k,rfl⟩;obtain⟨h,b,rfl⟩:=Yi.1 a
  have:=t.ti.edge h b
  exact⟨h.edge.toNat,X,X⟩
 rw[Cy] at d;simp only[YM,Yd] at d;omega
def Z38{g:Gr}{M:List Sch}(G:VerOK g M)(hs:Ar g=some (M,0)){v:Int}(h0:0<=v)(h1:v<M.length):Wp (FO g v) λr=>TF g v r.1:=by
 have h7:=G.l7;have hl:=G.len;unfold FO;refine X0 (R:=λq=>q.2=0) ?_ λq _ hq=>X1 (λh=>by rw[hq] at h;cases h) λ_=>?_;unfold Dh;refine Xb hs ?_;refine X9 rfl<|X9 sO<|X9 sO<|X3 h0 h1 λS _ _=>X2 rfl;have Z:∀{Q H},TI g v Q H->Q.length<=8:=λ{Q H} t=>by have:=Ze6 t.nd t.rng;omega
 refine Xd (λs:List Int×List Hop×Int=>TI g v s.1 s.2.1/\0<=s.2.2/\∀(j:Nat) u,j<s.2.2->s.1[j]?=some u->∀(i:Nat) e,g.n[i]?=some e->(e.m=u->(i:Int)+1∈s.1)/\(i+1=u->e.m∈s.1)) (λs=>(9-s.2.2).toNat) ?_ Fp _ ⟨⟨I,sO,rfl,I,I,I⟩,I,λj u h=>by simp only at h;omega⟩ (by simp[Fp]);rintro⟨a,b,k⟩ next ⟨B,hk,O⟩ hn
 simp only at B hk O;refine X1 (λD=>?_) λF=>X2 ?_;have D:k<a.length:=sU D;refine X6 (λm t=>TI g v t.1 t.2/\k<t.1.length/\∀(j:Nat) u,j<=k->t.1[j]?=some u->∀i e,(j<k\/i<m)->g.n[i]?=some e->(e.m=u->(i:Int)+1∈t.1)/\(i+1=u->e.m∈t.1)) ⟨B,D,λj u _ d i e Y c=>O j u X d i e c⟩ ?_ ?_;intro i e t nx c _ T N;have K:=(Y0.1 c).1;have hp:=G.n i e c;have⟨t1,t2,t3⟩:=T;have h8:=Z t1;have ap:=t1.len;refine X3 hk t2 λx L U=>X0 (C4 t.1 (i+1)) λa9 _ y=>X0 (C4 t.1 e.m) λb9 _ hb=>X4 ⟨X,X⟩ ?_;have w:∀(h:Hop),h.edge=i->WO g h∉t.1->Fc g h∈t.1->0<=WO g h/\WO g h<=g.n.length->((e.m=x->(i:Int)+1∈t.1++[WO g h])/\(i+1=x->e.m∈t.1++[WO g h]))->TI g v (t.1++[WO g h]) (t.2++[h])/\k<(t.1++[WO g h]).length/\∀(j:Nat) u,j<=k->(t.1++[WO g h])[j]?=some u->∀l z,(j<k\/l<i+1)->g.n[l]?=some z->(z.m=u->(l:Int)+1∈t.1++[WO g h])/\(l+1=u->z.m∈t.1++[WO g h]):=by
  intro h hh p E hr ak;refine⟨t1.add c hh p E hr,sO,λj u C d l z Y f=>?_⟩;rw[Yu X] at d;by_cases hc:j<k\/l<i;have⟨g1,g2⟩:=t3 j u C d l z hc f;exact⟨λo=>YV _ (g1 o),λo=>YV _ (g2 o)⟩;obtain rfl:l=i:=X
  rw[c] at f;cases f;rw[show k.toNat=j by omega] at L;rw[L] at d;cases d;exact ak
 refine X1 (λh=>N _ ?_) λal=>X1 (λh=>N _ ?_) λaj=>N _ ⟨t1,t2,λj u C d l z Y f=>?_⟩;simp at h;have am:(i:Int)+1∉t.1:=λo=>by rw[y.2 o] at h;cases h.2
 have p:WO g ⟨i,false⟩=(i:Int)+1:=rfl;have E:=IF (h:=⟨i,false⟩) (sU c)
 have:=w ⟨i,false⟩ rfl (by rwa [p]) (by rwa [E,h.1]) (by rw[p];omega) ⟨λ_=>by rw[p];simp,λ_=>by rw[h.1];exact YV _ U⟩
 rwa [p] at this
 simp at h;have am:e.m∉t.1:=λo=>by rw[hb.2 o] at h;cases h.2
 have p:WO g ⟨i,true⟩=e.m:=F1 (h:=⟨i,true⟩) (e:=e) (sU c);have E:Fc g ⟨i,true⟩=(i:Int)+1:=rfl
 have:=w ⟨i,true⟩ rfl (by rwa [p]) (by rwa [E,h.1]) (by rw[p];omega) ⟨λ_=>by rw[h.1];exact YV _ U,λ_=>by rw[p];simp⟩
 rwa [p] at this
 by_cases hc:(j:Int)<k\/l<i;exact t3 j u C d l z hc f;obtain rfl:l=i:=X;rw[c] at f;cases f;rw[show k.toNat=j by omega] at L;rw[L] at d;cases d;refine⟨λo=>y.1 ?_,λo=>hb.1 ?_⟩;cases a9 with
 |true=>rfl
 |false=>simp[o] at al
 cases b9 with
 |true=>rfl
 |false=>simp[o] at aj
 intro t T;have⟨t1,t2,t3⟩:=T;have h8:=Z t1;exact hn _ ⟨t1,by simp only;omega,λj u C d i e c=>t3 j u (by simp only at C;omega) d i e (.inr (Y0.1 c).1) c⟩ (by simp only;omega);have F:¬k<a.length:=sU F;have cl:∀u∈a,∀(i:Nat) e,g.n[i]?=some e->(e.m=u->(i:Int)+1∈a)/\((i:Int)+1=u->e.m∈a):=λu d i e c=>by obtain⟨j,C,rfl⟩:=Yo d;exact O j _ X (Y1 C) i e c
 have aq:v∈a:=by rw[B.shape];simp
 have J:∀n m:Nat,m<=n->(m:Int)∈a->(0:Int)∈a:=λn=>by
  induction n with
  |zero=>intro m P y;obtain rfl:m=0:=X;exact y
  |succ n ih=>?_
  intro m P y;cases m with
  |zero=>exact y
  |succ i=>?_
  have hr:=(B.rng _ y).2;have K:i<g.n.length:=X
  have c:=Y1 K;have hp:=G.n i _ c
  have:=(cl _ y i _ c).2 X
  rw[show(g.n[i]).m=((g.n[i]).m.toNat:Int) by omega] at this;exact ih _ X this
 have ah:(0:Int)∈a:=J v.toNat v.toNat (Y7 _) (by rwa [show(v.toNat:Int)=v by omega]);have A:∀n m:Nat,m<=n->m<=g.n.length->(m:Int)∈a:=λn=>by
  induction n with
  |zero=>intro m P _;obtain rfl:m=0:=X;exact ah
  |succ n ih=>?_
  intro m P ao;cases m with
  |zero=>exact ah
  |succ i=>?_
  have K:i<g.n.length:=X;have c:=Y1 K;have hp:=G.n i _ c;have W:=ih (g.n[i]).m.toNat X X;rw[show((g.n[i]).m.toNat:Int)=(g.n[i]).m by omega] at W
  have:=(cl _ W i _ c).1 rfl
  rwa [show((i+1:Nat):Int)=(i:Int)+1 by omega]
 have V:=B.shape;exact⟨by rw[V] at B;exact B,λu d=>by rw[<-V];exact A u u (Y7 _) d⟩
def qs(g:Gr)(v:Int)(H:List Hop)(t:Nat):List Int:=(v::H.map (WO g)).take (t+1)
def LW{g}{v:Int}{H}{t:Nat}{h}(b:H[t]?=some h):qs g v H (t+1)=qs g v H t++[WO g h]:=by have a:=Y0.1 b;unfold qs;rw[Yg (show t+1<(v::H.map (WO g)).length by simp;exact a.1)];simp[a.2]
def QU{g}{v:Int}{H}{s t:Nat}(h:s<=t){u:Int}(a:u∈qs g v H s):u∈qs g v H t:=by unfold qs at*;rw[show s+1=min (s+1) (t+1) by omega,<-List.take_take] at a;exact XE a
def Zf6{g}{v:Int}{H}{t:Nat}:v∈qs g v H t:=by unfold qs;simp
def TF.far{g}{v:Int}{H}(f:TF g v H){t:Nat}{h}(c:H[t]?=some h):WO g h∉qs g v H t:=by
 have a:(qs g v H (t+1)).Nodup:=f.ti.nd.sublist (List.take_sublist _ _);rw[LW c,Yk] at a;exact λb=>a.2.2 _ b _ I rfl
structure PG(g:Gr)(Ss:List Sch)(v:Int)(insts:List (List J))(comps:List (List (List J)))(H:List Hop)(t:Nat)(s:PSt):Prop where
 reached:∀u∈qs g v H t,s.reached[u.toNat]?=some true
 errs:∀e∈s.errs,e=0
 out:∀w:Nat,(w:Int)∉qs g v H t->s.insts[w]?=insts[w]?
 v:s.insts[v.toNat]?=insts[v.toNat]?
 kept:∀i:Nat,(∀h∈H.take t,h.edge≠i)->s.comps[i]?=comps[i]?
 done:∀h∈H.take t,∀e P,g.n[h.edge.toNat]?=some e->Ss[e.m.toNat]?=some P->∃a b c c0,s.insts[e.m.toNat]?=some a/\s.insts[h.edge.toNat+1]?=some b/\s.comps[h.edge.toNat]?=some c/\comps[h.edge.toNat]?=some c0/\EZ h.back P e.script (bif h.back then b else a) c0=some (bif h.back then a else b,c,0)
def MW(g:Gr)(v:Int)(H:List Hop)(t:Nat)(a:List Int):Prop:=∃u∈qs g v H t,∃e,a[u.toNat]?=some e/\e≠0
def Z2j{g:Gr}{x:List Sch}(hx:F6 g)(hv:VerOK g x)(hs:Ar g=some (x,0)){v:Int}(h0:0<=v)(h1:v<x.length){o l}(hi:o.length=x.length)(hc:l.length=g.n.length):
  Wp (FM g x o l v) λs=>PrL g x s/\∃H,TF g v H/\((∀e∈s.errs,e=0)->PG g x v o l H H.length s):=by
 have hl:=hv.len;unfold FM;refine X4 ⟨h0,h1⟩ (X0 (Z38 hv hs h0 h1) λT _ f=>?_);have⟨H,e0⟩:=T;have f:=f;refine X6 (λt s=>PrL g x s/\(MW g v H t s.errs\/PG g x v o l H t s)) ⟨⟨hi,hc,I,I⟩,.inr ⟨λu B=>?_,λe C=>(List.mem_replicate.1 C).2,λw _=>rfl,rfl,λi _=>rfl,λh Y=>by simp at Y⟩⟩ ?_ λs hs=>X2 ⟨hs.1,H,f,λV=>hs.2.elim (λ⟨u,_,e,C,hne⟩=>absurd (V e (Y2 C)) hne) id⟩
 have:u=v:=by unfold qs at B;simpa using B
 subst this;simp only;rw[Yr (by rw[Xi];omega)];intro t q s next y Y p hn
 have hh:=f.ti.edge q Y;refine X3 hh.1 hh.2 λe C az=>X4 (by simp only[Wm];have:=hv.l7;omega) ?_;have hp:=hv.n _ e C;have⟨p,ah⟩:=p;have pi:=p.i;have pc:=p.c;have pe:=p.e;have pr:=p.r;have W:=(Y0.1 y).1;have N:=f.far y;have M:=f.ti.near t q y;rw[F1 C] at N;rw[IF C] at M;have Q:=LW (g:=g) (v:=v) y;rw[F1 C] at Q;have rq:∀u∈qs g v H t,0<=u/\u<x.length:=λu B=>by
  have:=f.ti.rng u (XE B)
  omega
 have ao:H.take (t+1)=H.take t++[q]:=by rw[Yg W,(Y0.1 y).2]
 have ag:∀h∈H.take t,h.edge≠q.edge:=λh d E=>by obtain⟨m,F,rfl⟩:=Yo d;simp only[YA] at F;rw[XX] at E;have hd:=f.ti.dist;refine YK.1 hd m t sO (sU W) X ?_;rw[Y3h,Y3h,E,(Y0.1 y).2]
 have am:∀h∈H.take t,∀z,g.n[h.edge.toNat]?=some z->h.edge+1∈qs g v H t/\z.m∈qs g v H t:=λh d z k=>by obtain⟨m,F,rfl⟩:=Yo d;simp only[YA] at F;rw[XX] at k|-;have Z:H[m]?=some H[m]:=Y1 X;have J:=QU (X:m<=t) (f.ti.near m _ Z);have K:WO g H[m]∈qs g v H t:=QU (X:m+1<=t) (by rw[LW Z];simp);rw[IF k] at J;rw[F1 k] at K;cases A:H[m].back<;>rw[A] at J K;exact⟨K,J⟩;exact⟨J,K⟩
 have D:∀n c:Int,0<=n->n<x.length->0<=c->c<x.length->n∈qs g v H t->c∉qs g v H t->qs g v H (t+1)=qs g v H t++[c]->(∀L:PSt,∀a b _,(L.insts[n.toNat]?=some a/\L.insts[c.toNat]?=some b->L.insts[e.m.toNat]?=some (bif q.back then b else a)/\L.insts[q.edge.toNat+1]?=some (bif q.back then a else b)))->Wp (H3 x e q n c s next) _:=λn c ak ba a1 bc a8 O hq ax=>by
  have R:MW g v H t s.errs->∀es:List Int,(∀j:Nat,j≠c.toNat->es[j]?=s.errs[j]?)->MW g v H (t+1) es:=λ⟨u,B,e,h1,U⟩ es hes=>⟨u,by rw[hq];exact YV _ B,e,by
   rw[hes _ λd=>O (by have:=rq u B;rwa [show c=u by omega])];exact h1,U⟩
  have skip:=λA=>hn s ⟨p,.inl (R A s.errs λ_ _=>rfl)⟩;unfold H3;refine X3 ak X λrn au _=>X1 (λa7=>ah.elim skip λG=>?_) λ_=>X3 ak X λen _ ap=>X1 (λaq=>ah.elim skip λG=>?_) λ_=>X4 ⟨a1,X,X⟩ ?_
  have:=G.reached n a8
  rw[au] at this;cases this;cases a7;rw[G.errs en ap] at aq;cases aq;refine X3 hp.1 X λS hS _=>X3 ak X λa ha _=>X3 hh.1 X λc0 hc0 _=>X0 (Zas (hx e az) a c0) λr hr _=>X1 (λU=>X4 X (hn _ ⟨⟨by simp[pi],by simp[pc],by simp[pe],by simp[pr]⟩,?_⟩)) λU=>hn _ ⟨⟨pi,pc,by simp[pe],by simp[pr]⟩,.inl ⟨c,by rw[hq];simp,r.2.2,by simp only;rw[Yr X],sU U⟩⟩;have ar:r.2.2=0:=sU U;refine ah.elim (λA=>.inl (R A _ λj hj=>by simp only;rw[Ys X])) λG=>.inr ⟨λu B=>?_,λz k=>?_,λw hw=>?_,?_,λi al=>?_,λh d z P k hP=>?_⟩;rw[hq] at B;by_cases aj:c.toNat=u.toNat;simp only;rw[<-aj,Yr X];simp only;rw[Ys aj];rcases Y3.1 B with d|d;exact G.reached u d;exact absurd (by rw[Yj.1 d]) aj;rcases YZ k with d|rfl;exact G.errs z d;exact ar;rw[hq,Y3,not_or] at hw
  have:c.toNat≠w:=λd=>hw.2 (by rw[Yj];omega)
  simp only;rw[Ys this];exact G.out w hw.1
  have:c.toNat≠v.toNat:=λd=>O (by rw[show c=v by omega];exact Zf6)
  simp only;rw[Ys this];exact G.v;rw[ao] at al
  have:q.edge.toNat≠i:=λd=>al q I X
  simp only;rw[Ys this];exact G.kept i λh Y=>al h (YV _ Y);rw[ao] at d;rcases Y3.1 d with d|d;have⟨a',b',c',ay,g1,g2,g3,g4,g5⟩:=G.done h d z P k hP;have⟨q1,q2⟩:=am h d z k;have bd:=f.ti.edge h (XE d);have bb:=hv.n _ z k;have J:c.toNat≠z.m.toNat:=λE=>O (by rwa [show c=z.m by omega]);have K:c.toNat≠h.edge.toNat+1:=λE=>O (by rwa [show c=h.edge+1 by omega]);have n3:q.edge.toNat≠h.edge.toNat:=λE=>ag h d X;exact⟨a',b',c',ay,by simp only;rwa [Ys J],by simp only;rwa [Ys K],by simp only;rwa [Ys n3],g4,g5⟩;obtain rfl:=Yj.1 d;rw[C] at k;cases k;rw[hS] at hP;cases hP;have nf:c.toNat≠n.toNat:=λE=>O (by rwa [show c=n by omega]);have⟨k1,k2⟩:=ax ⟨s.insts.set c.toNat r.1,s.comps.set h.edge.toNat r.2.1,s.errs.set c.toNat r.2.2,s.reached.set c.toNat true⟩ a r.1 c0 ⟨by simp only;rwa [Ys nf],by simp only;rw[Yr X]⟩;have hk:=G.kept h.edge.toNat λh' aw E=>ag h' aw X;rw[hc0] at hk;refine⟨_,_,r.2.1,c0,k1,k2,by simp only;rw[Yr X],hk.symm,?_⟩;have af:EZ h.back S e.script a c0=some (r.1,r.2.1,0):=by rw[hr,<-ar]
  cases A:h.back with
  |true=>rw[A] at af;exact af
  |false=>rw[A] at af;exact af
 have e1:(q.edge+1).toNat=q.edge.toNat+1:=X;cases A:q.back with|true=>?_|false=>?_;rw[A] at N M Q D;exact D _ _ sO sO sO sO M N Q λL a b _ h=>by simp only[cond_true] at h|-;rw[e1] at h;exact⟨h.2,h.1⟩
 rw[A] at N M Q D;exact D _ _ sO sO sO sO M N Q λL a b _ h=>by simp only[cond_false] at h|-;rw[e1] at h;exact⟨h.1,h.2⟩
def Z2c{S g a b e}(h:Jn S g a b e):Da S g a b e=some true:=by
 refine Ww ?_;unfold Da;refine X0 (Wb h.1) λp _ m=>X0 (Wb h.2.1) λq _ n=>?_;subst m n;have f:∀{x:List J} {r:Bool},(r=true↔x=x)->r=true:=λh=>h.2 rfl;have d:∀{x:List (List J)} {r:Bool},(r=true↔x=x)->r=true:=λh=>h.2 rfl;refine X1 (λ_=>X1 (λ_=>X0 (ER _ _) λe1 _ k=>X1 (λ_=>X0 (ER _ _) λe2 _ i=>X1 (λ_=>X0 (IM _ _) λe3 _ j=>X1 (λ_=>X0 (IM _ _) λe4 _ l=>X2 (d l)) λc=>?_) λc=>?_) λc=>?_) λc=>?_) λc=>?_;rw[d j] at c;cases c;rw[f i] at c;cases c;rw[f k] at c;cases c;cases c;cases c
def DbV.edg{g f h}(d:DbV g f h){i:Nat}{e P a b c}(j:g.n[i]?=some e)(k:h[e.m.toNat]?=some P)(l:f.insts[e.m.toNat]?=some a)(m:f.insts[i+1]?=some b)(n:f.comps[i]?=some c):Jn P e.script a b c:=d.edge i e P a b c j k l m n
def Z3d{g:Gr}{k:Db}{n}(d:DbV g k n):C0 g k=some 0:=by
 refine Ww ?_;have ab:=d.li;have ac:=d.lc;have m:=d.ver;have ad:=m.len;unfold C0;refine Xb d.sch ?_;refine X9 rfl<|X9 sO<|X9 sO<|X6 (λ_ _=>True) trivial ?_ λ_ _=>X6 (λ_ _=>True) trivial ?_ λ_ _=>X2 rfl
 .intro i S _ next f _ _ j
  simp only at f;have t:=(Y0.1 f).1;refine X3 X X λx o _=>Xb ((d.inst i S x f (by simpa using o)).1) ?_;exact X9 rfl<|j () trivial
 intro i e _ next h _ _ j
 have t:=(Y0.1 h).1;have l:=m.n i e h;refine X3 l.1 (by simp only;omega) λP p _=>X3 l.1 X λa q _=>X3 X X λb r _=>X3 X X λc s _=>Xb (Z2c (d.edg h p q (by simpa using r) (by simpa using s))) ?_;exact X9 rfl<|j () trivial
structure WrE(g:Gr)(db:Db)(v:Int)(cs:List Chg)(out:Db)(Ss:List Sch)(S:Sch)(x y:List J)(H:List Hop)(s:PSt):Prop where
 d:DbV g db Ss
 v0:0<=v
 v1:v<Ss.length
 sS:Ss[v.toNat]?=some S
 sx:db.insts[v.toNat]?=some x
 sy:Co S x cs=some (y,0)
 f:TF g v H
 l:PrL g Ss s
 p:PG g Ss v (db.insts.set v.toNat y) db.comps H H.length s
 out:out=⟨s.insts,s.comps⟩
 ok:∀(u:Nat) S x,Ss[u]?=some S->s.insts[u]?=some x->Bs S x=some 0/\CF S x/\VE S x=some 0
def Z8b{g}(L:F6 g)(Q)(v:Int)(P):Wp (Di g Q v P) λq=>q.2.2=0->(∀e∈q.2.1,e=0)->∃m S x y H s,WrE g Q v P q.1 m S x y H s:=by
 unfold Di;refine X0 (Z2l L Q) λe _ U=>X1 (λh=>X2 λh0=>by simp only at h0;rw[h0] at h;cases h) λh=>?_;have⟨m,n⟩:=U (sU h);have hl:=n.ver.len;have ao:=n.li;refine X7 λK=>?_;have z:0<=v/\v<m.length:=by simp at K;omega
 refine Xb n.sch ?_;refine X3 z.1 z.2 λS ap F=>X3 z.1 X λw ae _=>X0 (Z3x (n.ver.vs S F) w P) λr ak _=>X1 (λK=>X2 λ_ c=>?_) λaq=>?_;exfalso;have V:r.2∈(List.replicate m.length (0:Int)).set v.toNat r.2:=Y2 (by rw[Yr (by rw[Xi];omega)])
 have:=c _ V
 rw[this] at K;cases K;have am:r.2=0:=sU aq;refine X4 n.ok (X0 (Z2j L n.ver n.sch z.1 z.2 (by simp[ao]) n.lc) λs _ p=>?_);have⟨p,H,f,hG⟩:=p;have pi:=p.i;have pe:=p.e;have pr:=p.r;refine X6 (λi t=>t.1.length=m.length/\(∀j:Nat,i<=j->t.1[j]?=s.errs[j]?)/\(t.2=true->∃(j:Nat) (e:Int),j<i/\t.1[j]?=some e/\e≠0)/\(t.2=false->∀j S x,j<i->m[j]?=some S->s.insts[j]?=some x->s.errs[j]?=some 0/\(s.reached[j]?=some true->Bs S x=some 0/\CF S x/\VE S x=some 0))) ⟨pe,λ_ _=>rfl,I,λ_ j S x d=>absurd d (XB _)⟩ ?_ ?_
 .intro i S2 t next B V W hn
  have hi:i<m.length:=(Y0.1 B).1;have⟨t1,t2,t3,t4⟩:=W;refine X3 X X λru N _=>X3 X X λE D _=>?_;have D:s.errs[i]?=some E:=by rw[<-t2 i (Y7 _)];simpa using D
  have N:s.reached[i]?=some ru:=sU N;refine X1 (λJ=>X3 X X λiu O _=>X0 (O8 (n.ver.vs S2 V) iu) λZ ar aj=>hn _ ⟨by simp[t1],λj d=>?_,λa=>?_,λa=>?_⟩) λJ=>hn _ ⟨t1,λj d=>t2 j X,λa=>?_,λa=>?_⟩;simp only[Yn];rw[Ys X];exact t2 j X;cases h2:t.2 with|true=>?_|false=>?_;have⟨j,R,d,A,k⟩:=t3 h2;exact⟨j,R,X,by simp;rwa [Ys X],k⟩;simp only[h2] at a;exact⟨i,Z,X,by simp only[Yn];rw[Yr X],sU a⟩;simp only[Y38] at a;intro j M Y d b l;rcases Yx j i with o|o;exact t4 a.1 j M Y o b l;obtain rfl:j=i:=X
  rw[B] at b;cases b;have O:s.insts[j]?=some iu:=sU O;rw[O] at l;cases l;have ah:Z=0:=sU a.2;have af:E=0:=by simp at J;exact J.2
  subst ah;subst af;exact⟨D,λ_=>⟨ar,aj rfl⟩⟩;cases h2:t.2 with|true=>?_|false=>?_;have⟨j,R,d,A,k⟩:=t3 h2;exact⟨j,R,X,A,k⟩;simp only[h2] at a;exact⟨i,E,X,by rwa [t2 i (Y7 _)],sU a⟩;simp only[Y38] at a;intro j M Y d b l;rcases Yx j i with o|o;exact t4 a.1 j M Y o b l;obtain rfl:j=i:=X
  have al:E=0:=sU a.2;subst al;refine⟨D,λh8=>?_⟩;rw[N] at h8;cases h8;simp at J
 intro t W;have⟨t1,_,t3,t4⟩:=W;refine X1 (λT=>X2 λ_ c=>?_) λT=>X2 λ_ _=>?_;obtain⟨j,e,-,d,k⟩:=t3 T;exact absurd (c e (Y2 d)) k;have t4:=t4 T;have C:∀e∈s.errs,e=0:=λe U=>by
  obtain⟨j,d,rfl⟩:=Yo U;have A:j<m.length:=X
  have o:=(t4 j _ _ (show j<(m,0).1.length from A) (Y1 A) (Y1 (X:j<s.insts.length))).1;rw[Y1 d] at o;exact Option.some.inj o
 have G:=hG C;refine⟨m,S,w,r.1,H,s,⟨n,z.1,z.2,ap,ae,by rw[ak,<-am],f,p,G,rfl,λu S x F L=>?_⟩⟩;have hu:=(Y0.1 F).1;refine(t4 u S x hu F L).2 ?_;have ag:(u:Int)∈qs g v H H.length:=by
  have:=f.all u X
  unfold qs
  rwa [YD I]
 have:=G.reached u ag
 simpa using this
def WrE.valid{g}(C:F6 g){z}{v:Int}{u d f S x y H s}(w:WrE g z v u d f S x y H s):DbV g d f:=by
 have hl:=w.d.ver.len;have pi:=w.l.i;have pc:=w.l.c;rw[w.out];refine⟨w.d.ver,w.d.sch,w.l.i,w.l.c,w.ok,λi e P a b c l m n o r=>?_⟩;have B:=(Y0.1 l).1;have⟨h,hm,he⟩:=w.f.n B;have p:h.edge.toNat=i:=X
 have⟨a',b',c',c0,q,j,k,g4,A⟩:=w.p.done h (by rwa [Yl]) e P (by rwa [p]) m;rw[p] at j k;simp only at n o r;rw[n] at q;rw[o] at j;rw[r] at k;cases q;cases j;cases k;have t:f[i+1]?=some (f[i+1]'X):=Y1 X;refine Z58 (C e (Y2 l)) (w.d.ver.edge i e P _ l m t) A ?_;cases h.back with
 |true=>exact(w.ok _ P a m n).2.1
 |false=>exact(w.ok _ _ b t o).2.1
def Z89{g}(e:F6 g)(c)(v:Int)(b):Wp (Bv g c v b) λq=>q.2.2=0->∃Ss S x y H s,WrE g c v b q.1 Ss S x y H s:=by
 have⟨p,d,h⟩:=Z8b e c v b;refine⟨_,Z87 d,?_⟩;cases h0:p.2.2 !=0 with
 |true=>exact λa=>by simp only[cond_true] at a;rw[a] at h0;cases h0
 |false=>?_
 simp only[cond_false];cases hf:fe 0 p.2.1 with
 |some q=>exact λa=>absurd a (Rc hf)
 |none=>exact λ_=>h (sU h0) (Re hf)
def Zca{g b a}(d:DbV g b a){v:Int}(i:0<=v){x}(c:b.insts[v.toNat]?=some x):Ex g b v=some (x,0):=by
 have h1:=(Y0.1 c).1;have aa:=d.li;have e:a[v.toNat]?=some (a[v.toNat]'X):=Y1 X;have f:=(d.inst _ _ x e c).2.1.rb (d.ver.vs _ (Y2 e));refine Ww ?_;unfold Ex;refine Xb (Z3d d) ?_;refine X9 rfl<|X9 sO<|X9 sO<|X3 i X λz h _=>?_;rw[c] at h;cases h;exact X0 (Cm x (by have:=f.1;omega) λr k=>by have:=f.2 r k;omega) λo _ j=>X2 (by rw[j])
def WrE.xL{g d}{v:Int}{c a b S x y H s}(w:WrE g d v c a b S x y H s):a.insts[v.toNat]?=some y:=by have h0:=w.v0;have h1:=w.v1;have aa:=w.d.li;rw[w.out];show s.insts[v.toNat]?=some y;rw[w.p.v,Yr X]
def Zvj(a b:List J):Wp (E6 a b) λ_=>True:=by
 unfold E6;refine X1 (λ_=>X2 trivial) λh=>X6 (λ_ _=>True) trivial ?_ λ_ _=>X2 trivial;intro i x s next j _ _ d
 have h1:a.length=b.length:=by simp at h;omega
 have e:=(Y0.1 j).1;refine X3 X X λy _ _=>X1 (λ_=>X2 trivial) λ_=>X0 (R:=λ_=>True) ?_ λ_ _ _=>X1 (λ_=>X2 trivial) λ_=>d () trivial;unfold Ed;refine X1 (λ_=>X2 trivial) λh=>X6 (λ_ _=>True) trivial ?_ λ_ _=>X2 trivial;intro i r s next g _ _ d
 have h2:x.rows.length=y.rows.length:=by simp at h;omega
 have e:=(Y0.1 g).1;refine X3 X X λz _ _=>X0 (R:=λ_=>True) ?_ λ_ _ _=>X1 (λ_=>X2 trivial) λ_=>d () trivial;unfold FP;refine X1 (λ_=>X2 trivial) λh=>X6 (λ_ _=>True) trivial ?_ λ_ _=>X2 trivial;intro i c s next f _ _ d
 have h3:r.length=z.length:=by simp at h;omega
 have e:=(Y0.1 f).1;exact X3 X X λw _ _=>X1 (λ_=>X2 trivial) λ_=>d () trivial
def Zvk(g:Gr)(i:Db)(v:Int)(a b:Chg)(O:F6 g)(hl:i.comps.flatten.length+i.insts.length<=2097152)(hI:∀x∈i.insts,Zpx x)(ha:a.key.length<=2097152/\a.row.length<=2097152)(hb:b.key.length<=2097152/\b.row.length<=2097152):Zqc g i v a b=some true:=by
 refine Ww ?_;unfold Zqc;refine Xb Zrb ?_;refine X9 rfl<|X0 (Z3y g i [] hl) λz _ _=>X1 (λ_=>Zru) λ_=>X1 (λ_=>Zru) λN=>?_;have N:a.u=b.u:=ZD.1 (by simpa using N);refine X0 (R:=λq=>q.2=0->∃n S x,DbV g i n/\C0 g i=some 0/\0<=v/\v<n.length/\n[v.toNat]?=some S/\i.insts[v.toNat]?=some x/\Ex g i v=some (x,0)/\q.1=⟨v,x,[],[]⟩) ?_ λq _ hq=>X1 (λ_=>X2 rfl) λh=>?_;unfold Zq0;refine X0 (Zum O i v) λr E f=>X1 (λh=>X2 λl=>by simp only at l;rw[l] at h;cases h) λh=>X2 λ_=>?_;have l:r.2=0:=sU h;have⟨n,S,d,hv,u,Q,p,A⟩:=f l;exact⟨n,S,r.1,d,hv,u,Q,p,A,by rw[E,<-l],rfl⟩;obtain⟨n,S,x,d,hv,u,Q,p,A,M,ah⟩:=hq (sU h);rw[ah];have V:=d.ver.vs S (Y2 p);have⟨_,ak,Y⟩:=d.inst _ S x p A;have t:=Z75 d.sch u p;have ar:=d.li;have Z:∀c:Chg,c.key.length<=2097152/\c.row.length<=2097152->Wp (Zpp g ⟨v,x,[],[]⟩ [c]) λq=>q.2=0->∃y,q.1=⟨v,x,Zph (Zpj [c.u]),[c]⟩/\Co S x [c]=some (y,0)/\Runs S x [c] y:=λc L=>by
  unfold Zpp;refine X4 ⟨hI x (Y2 A),⟨I,λz C=>by simp at C;rw[C];exact L⟩,I⟩ (X9 I<|X0 (R:=λr=>r.2=0->∃y,Co S x [c]=some (y,0)/\Runs S x [c] y) ?_ λr _ f=>X1 (λh=>X2 λl=>by simp only at l;rw[l] at h;cases h) λh=>X2 λ_=>?_);unfold Zpz;refine Xb t ?_;exact X9 rfl<|X0 (Z3x V x [c]) λr E f=>X2 λl=>⟨r.1,E.trans (by rw[<-l]),(f l).2.2.2⟩;have⟨y,J,K⟩:=f (sU h);exact⟨y,rfl,J,K⟩
 refine X0 (Z a ha) λqa _ am=>X0 (Z b hb) λqb _ aj=>X1 (λ_=>X2 rfl) λJ=>X1 (λ_=>X2 rfl) λK=>?_;obtain⟨y,ea,al,ra⟩:=am (sU J);obtain⟨yb,eb,_,rb⟩:=aj (sU K);rw[ea,eb];refine X0 (R:=λq=>q.2.2=0->∃n S x y H s,WrE g i v [a] q.1 n S x y H s) ?_ λq _ L=>X1 (λ_=>X2 rfl) λh3=>?_;unfold Zpv;refine Xb M ?_;refine X9 rfl<|Xb (Zvf V t Y ak _ _) ?_;exact X9 rfl<|X9 rfl<|X0 (Z89 O i v [a]) λo _ ho=>X2 ho;obtain⟨D,S2,x2,y2,H,s,w⟩:=L (sU h3);obtain rfl:D=n:=by
  have:=w.d.sch
  rw[d.sch] at this;cases this;rfl
 have w1:=w.sS;have w2:=w.sx;rw[p] at w1;rw[A] at w2;cases w1;cases w2;have w3:=w.sy;rw[al] at w3;cases w3;have F:=w.xL;have G:=w.valid O;have aq:=G.li;refine X9 sO<|X9 sO<|X9 sO<|X3 u X λy9 W _=>X3 u X λx9 U _=>?_;rw[F] at W;rw[A] at U;cases W;cases U;by_cases hyx:y=x;rw[hyx];exact X0 (Z1f x) λr _ f=>X1 (λ_=>X2 rfl) λB=>by rw[f] at B;cases B
 refine X0 (Zvj y x) λr _ _=>X1 (λ_=>X2 rfl) λ_=>?_;have un:Zpr g ⟨v,x,Zph (Zpj [b.u]),[b]⟩ y=some (false,0):=by
  have e1:Zph (Zpj [b.u])=[b.u]:=rfl;rw[e1];have ao:=(G.inst _ S y p F).2.2;generalize hcs:[a]=cs at ra;cases ra with
  |nil=>cases hcs
  |@snoc cs0 o' o'' c k T z m f st=>?_
  obtain⟨h8,B⟩:=List.append_inj' (s₁:=[]) hcs rfl;subst h8;simp only[List.cons.injEq,and_true] at B;subst B;obtain rfl:x=o':=by
   generalize C:([]:List Chg)=l9 at f;cases f with
   |nil=>rfl
   |snoc h s=>exact absurd (congrArg List.length C) I
  have hk:=(Y0.1 st.ok).1;refine Ww ?_;unfold Zpr;refine Xb t ?_;refine X9 rfl<|Xb ao<|X9 rfl<|Xb Y<|X9 rfl ?_;have ft:=st.ft;rw[N] at ft;show Wp (Z1 (Wg S b.u) _) _;refine Xb ft ?_;have P:y[k]?=some ⟨z.u,m⟩:=by rw[st.eq,Yr hk]
  refine X1 (λ_=>X5 P (X5 st.ok (X0 (Zaq m z.rows) λr _ f=>X1 (λ_=>X2 rfl) λh7=>?_))) λh=>by cases h
  exfalso
  have:m=z.rows:=f.1 (by simpa using h7)
  exact hyx (by
   rw[st.eq,this];refine YU λj=>?_;by_cases e:k=j;subst e;rw[Yr hk,st.ok];rw[Ys e])
 refine X0 (R:=λr=>r.2.2=16) ?_ λr _ f=>X2 (by rw[f];rfl);unfold Zpv;refine Xb (Zca G u F) ?_;refine X9 rfl<|Xb un ?_;exact X9 rfl<|X1 (λ_=>X2 rfl) λh=>by cases h
def Zc1{P:Program}{B n:Nat}{t:TypeId}{a:aC}(c:P.underlying t=some (.int .i64))(h:ZY P B n t a):∃v:Int,a=Zg v:=by
 cases n with
 |zero=>cases h
 |succ n=>simp only[ZY,c] at h;obtain⟨v,b,_⟩:=h;exact⟨v,b⟩
def Z9i{P:Program}{B n:Nat}{t:TypeId}{a:aC}(b:P.underlying t=some .bool)(h:ZY P B n t a):∃v:Bool,a=Jw v:=by
 cases n with
 |zero=>cases h
 |succ n=>simp only[ZY,b] at h;exact h
def Z55{P:Program}{B n:Nat}{t:TypeId}{a:aC}(b:P.underlying t=some .string)(h:ZY P B n t a):∃v:aA,a=Zpf v:=by
 cases n with
 |zero=>cases h
 |succ n=>simp only[ZY,b] at h;exact h
def Ac{P:Program}{B n:Nat}{t e:TypeId}{b:aC}(g:P.underlying t=some (.slice e))(h:ZY P B n t b):∃m a,b=[.sl a]/\a.length<=B/\∀x∈a,ZY P B m e x:=by
 cases n with
 |zero=>cases h
 |succ n=>simp only[ZY,g] at h;obtain⟨a,c,d,f⟩:=h;exact⟨n,a,c,d,f⟩
def Av{P:Program}{B n:Nat}{t:TypeId}{b:Array Field}{a:aC}(c:P.underlying t=some (.struct b))(h:ZY P B n t a):∃m,Jp (ZY P B m) b.toList a:=by
 cases n with
 |zero=>cases h
 |succ n=>simp only[ZY,c] at h;exact⟨n,h⟩
def UM{α:Type}{enc:α->aC}{S:α->Prop}:∀{b:List aC},(∀x∈b,∃v,x=enc v/\S v)->∃a:List α,b=a.map enc/\a.length=b.length/\∀v∈a,S v
 |[],_=>⟨[],rfl,rfl,by simp⟩
 |x::b,h=>by
   obtain⟨v,c,d⟩:=h x I;obtain⟨a,e,f,g⟩:=UM λy i=>h y (Yc _ i);exact⟨v::a,by simp[c,<-e],by simp[f],by simpa using⟨d,g⟩⟩
def Bg{B n:Nat}{a:aC}(h:ZY prog B n 3 a):∃v:Int,a=Zg v/\True:=by obtain⟨v,b⟩:=Zc1 Tryz.underlying3 h;exact⟨v,b,trivial⟩
def UU{B n:Nat}{a:aC}(h:ZY prog B n 9 a):∃v:aA,a=Zpf v/\True:=by obtain⟨v,b⟩:=Z55 Tryz.underlying9 h;exact⟨v,b,trivial⟩
def MP(B:Nat)(x:GV):Prop:=True/\True/\True
def Zem{B n:Nat}{b:aC}(h:ZY prog B n 84 b):∃v:GV,b=v.z/\MP B v:=by obtain⟨m,a⟩:=Av Tryz.underlying84 h;obtain⟨a0,r0,f,t0,a⟩:=a;obtain⟨l,q,c⟩:=Bg t0;obtain⟨a1,r1,g,t1,a⟩:=a;obtain⟨o,r,d⟩:=Bg t1;obtain⟨a2,k,i,t2,a⟩:=a;obtain⟨p,s,e⟩:=UU t2;have j:k=[]:=a;subst q r s;refine⟨⟨l,o,p⟩,?_,c,d,e⟩;rw[f,g,i,j];rfl
def Zf9{B n:Nat}{a:aC}(h:ZY prog B n 4 a):∃v:Bool,a=Jw v/\True:=by obtain⟨v,b⟩:=Z9i Tryz.underlying4 h;exact⟨v,b,trivial⟩
def Zqy(B:Nat)(x:Col):Prop:=True/\True/\True
def Zvp{B n:Nat}{b:aC}(h:ZY prog B n 78 b):∃v:Col,b=v.z/\Zqy B v:=by obtain⟨m,a⟩:=Av Tryz.underlying78 h;obtain⟨a0,r0,f,t0,a⟩:=a;obtain⟨l,q,c⟩:=UU t0;obtain⟨a1,r1,g,t1,a⟩:=a;obtain⟨o,r,d⟩:=Bg t1;obtain⟨a2,k,i,t2,a⟩:=a;obtain⟨p,s,e⟩:=Zf9 t2;have j:k=[]:=a;subst q r s;refine⟨⟨l,o,p⟩,?_,c,d,e⟩;rw[f,g,i,j];rfl
def Zrr(B:Nat)(a:List Col):Prop:=a.length<=B/\∀x∈a,Zqy B x
def Zvo{B n:Nat}{a:aC}(h:ZY prog B n 79 a):∃v:List Col,a=[.sl (v.map Col.z)]/\Zrr B v:=by
 obtain⟨m,xs,rfl,d,e⟩:=Ac Tryz.underlying79 h;obtain⟨f,rfl,h1,c⟩:=UM (enc:=Col.z) (S:=λx=>Zqy B x) λx b=>Zvp (e x b);exact⟨f,rfl,by simpa using d,c⟩
def Zqj(B:Nat)(a:List Int):Prop:=a.length<=B/\∀x∈a,True
def Zqu{B n:Nat}{a:aC}(h:ZY prog B n 80 a):∃v:List Int,a=[.sl (v.map Zg)]/\Zqj B v:=by
 obtain⟨m,xs,rfl,d,e⟩:=Ac Tryz.underlying80 h;obtain⟨f,rfl,h1,c⟩:=UM (enc:=Zg) (S:=λx=>True) λx b=>Bg (e x b);exact⟨f,rfl,by simpa using d,c⟩
def St(B:Nat)(x:E):Prop:=True/\Zrr B x.j/\Zqj B x.pk
def Zen{B n:Nat}{b:aC}(h:ZY prog B n 82 b):∃v:E,b=v.z/\St B v:=by obtain⟨m,a⟩:=Av Tryz.underlying82 h;obtain⟨a0,r0,f,t0,a⟩:=a;obtain⟨l,q,c⟩:=UU t0;obtain⟨a1,r1,g,t1,a⟩:=a;obtain⟨o,r,d⟩:=Zvo t1;obtain⟨a2,k,i,t2,a⟩:=a;obtain⟨p,s,e⟩:=Zqu t2;have j:k=[]:=a;subst q r s;refine⟨⟨l,o,p⟩,?_,c,d,e⟩;rw[f,g,i,j];rfl
def Zqh(B:Nat)(x:Fk):Prop:=True/\Zqj B x.j/\True
def Zrn{B n:Nat}{b:aC}(h:ZY prog B n 89 b):∃v:Fk,b=v.z/\Zqh B v:=by obtain⟨m,a⟩:=Av Tryz.underlying89 h;obtain⟨a0,r0,f,t0,a⟩:=a;obtain⟨l,q,c⟩:=UU t0;obtain⟨a1,r1,g,t1,a⟩:=a;obtain⟨o,r,d⟩:=Zqu t1;obtain⟨a2,k,i,t2,a⟩:=a;obtain⟨p,s,e⟩:=UU t2;have j:k=[]:=a;subst q r s;refine⟨⟨l,o,p⟩,?_,c,d,e⟩;rw[f,g,i,j];rfl
def Zqi(B:Nat)(x:Cons):Prop:=True/\True/\True/\True/\MP B x.value
def Zro{B n:Nat}{b:aC}(h:ZY prog B n 87 b):∃v:Cons,b=v.z/\Zqi B v:=by obtain⟨m,a⟩:=Av Tryz.underlying87 h;obtain⟨a0,r0,i,t0,a⟩:=a;obtain⟨r,x,c⟩:=UU t0;obtain⟨a1,r1,j,t1,a⟩:=a;obtain⟨s,y,d⟩:=Bg t1;obtain⟨a2,r2,k,t2,a⟩:=a;obtain⟨t,z,e⟩:=UU t2;obtain⟨a3,r3,l,t3,a⟩:=a;obtain⟨u,A,f⟩:=Bg t3;obtain⟨a4,q,o,t4,a⟩:=a;obtain⟨w,C,g⟩:=Zem t4;have p:q=[]:=a;subst x y z A C;refine⟨⟨r,s,t,u,w⟩,?_,c,d,e,f,g⟩;rw[i,j,k,l,o,p];rfl
def SC(B:Nat)(a:List E):Prop:=a.length<=B/\∀x∈a,St B x
def Zez{B n:Nat}{a:aC}(h:ZY prog B n 22 a):∃v:List E,a=[.sl (v.map E.z)]/\SC B v:=by
 obtain⟨m,xs,rfl,d,e⟩:=Ac Tryz.underlying22 h;obtain⟨f,rfl,h1,c⟩:=UM (enc:=E.z) (S:=λx=>St B x) λx b=>Zen (e x b);exact⟨f,rfl,by simpa using d,c⟩
def SA(B:Nat)(a:List Fk):Prop:=a.length<=B/\∀x∈a,Zqh B x
def Zey{B n:Nat}{a:aC}(h:ZY prog B n 23 a):∃v:List Fk,a=[.sl (v.map Fk.z)]/\SA B v:=by
 obtain⟨m,xs,rfl,d,e⟩:=Ac Tryz.underlying23 h;obtain⟨f,rfl,h1,c⟩:=UM (enc:=Fk.z) (S:=λx=>Zqh B x) λx b=>Zrn (e x b);exact⟨f,rfl,by simpa using d,c⟩
def Sz(B:Nat)(a:List Cons):Prop:=a.length<=B/\∀x∈a,Zqi B x
def Zex{B n:Nat}{a:aC}(h:ZY prog B n 24 a):∃v:List Cons,a=[.sl (v.map Cons.z)]/\Sz B v:=by
 obtain⟨m,xs,rfl,d,e⟩:=Ac Tryz.underlying24 h;obtain⟨f,rfl,h1,c⟩:=UM (enc:=Cons.z) (S:=λx=>Zqi B x) λx b=>Zro (e x b);exact⟨f,rfl,by simpa using d,c⟩
def Sy(B:Nat)(x:Sch):Prop:=SC B x.q/\SA B x.b/\Sz B x.cons
def Zew{B n:Nat}{b:aC}(h:ZY prog B n 26 b):∃v:Sch,b=v.z/\Sy B v:=by obtain⟨m,a⟩:=Av Tryz.underlying26 h;obtain⟨a0,r0,f,t0,a⟩:=a;obtain⟨l,q,c⟩:=Zez t0;obtain⟨a1,r1,g,t1,a⟩:=a;obtain⟨o,r,d⟩:=Zey t1;obtain⟨a2,k,i,t2,a⟩:=a;obtain⟨p,s,e⟩:=Zex t2;have j:k=[]:=a;subst q r s;refine⟨⟨l,o,p⟩,?_,c,d,e⟩;rw[f,g,i,j];rfl
def Zqx(B:Nat)(x:Stp):Prop:=True/\True/\True/\True/\True/\True/\Zqj B x.j/\True/\MP B x.value/\St B x.v/\Zqi B x.cons/\Zqh B x.fk
def Zvn{B n:Nat}{b:aC}(h:ZY prog B n 91 b):∃v:Stp,b=v.z/\Zqx B v:=by obtain⟨m,a⟩:=Av Tryz.underlying91 h;obtain⟨a0,r0,A,t0,a⟩:=a;obtain⟨M,W,p⟩:=Bg t0;obtain⟨a1,r1,C,t1,a⟩:=a;obtain⟨N,X,q⟩:=UU t1;obtain⟨a2,r2,E,t2,a⟩:=a;obtain⟨O,Y,r⟩:=UU t2;obtain⟨a3,r3,F,t3,a⟩:=a;obtain⟨P,Z,s⟩:=UU t3;obtain⟨a4,r4,G,t4,a⟩:=a;obtain⟨Q,w4,t⟩:=UU t4;obtain⟨a5,r5,H,t5,a⟩:=a;obtain⟨R,w5,u⟩:=Bg t5;obtain⟨a6,r6,I,t6,a⟩:=a;obtain⟨S,w6,w⟩:=Zqu t6;obtain⟨a7,r7,J,t7,a⟩:=a;obtain⟨T,w7,x⟩:=UU t7;obtain⟨a8,r8,K,t8,a⟩:=a;obtain⟨U,w8,y⟩:=Zem t8;obtain⟨a9,r9,L,t9,a⟩:=a;obtain⟨V,w9,z⟩:=Zen t9;obtain⟨ao,am,k,t10,a⟩:=a;obtain⟨d,j,i⟩:=Zro t10;obtain⟨al,o,c,t11,a⟩:=a;obtain⟨f,e,g⟩:=Zrn t11;have l:o=[]:=a;subst W X Y Z w4 w5 w6 w7 w8 w9 j e;refine⟨⟨M,N,O,P,Q,R,S,T,U,V,d,f⟩,?_,p,q,r,s,t,u,w,x,y,z,i,g⟩;rw[A,C,E,F,G,H,I,J,K,L,k,c,l];rfl
def Zrq(B:Nat)(a:List Stp):Prop:=a.length<=B/\∀x∈a,Zqx B x
def Zvm{B n:Nat}{a:aC}(h:ZY prog B n 93 a):∃v:List Stp,a=[.sl (v.map Stp.z)]/\Zrq B v:=by
 obtain⟨m,xs,rfl,d,e⟩:=Ac Tryz.underlying93 h;obtain⟨f,rfl,h1,c⟩:=UM (enc:=Stp.z) (S:=λx=>Zqx B x) λx b=>Zvn (e x b);exact⟨f,rfl,by simpa using d,c⟩
def Zqw(B:Nat)(x:Edg):Prop:=True/\Zrq B x.script
def Zvl{B n:Nat}{b:aC}(h:ZY prog B n 95 b):∃v:Edg,b=v.z/\Zqw B v:=by obtain⟨m,a⟩:=Av Tryz.underlying95 h;obtain⟨a0,r0,e,t0,a⟩:=a;obtain⟨j,l,c⟩:=Bg t0;obtain⟨a1,i,f,t1,a⟩:=a;obtain⟨k,o,d⟩:=Zvm t1;have g:i=[]:=a;subst l o;refine⟨⟨j,k⟩,?_,c,d⟩;rw[e,f,g];rfl
def Sx(B:Nat)(a:List Edg):Prop:=a.length<=B/\∀x∈a,Zqw B x
def Zev{B n:Nat}{a:aC}(h:ZY prog B n 27 a):∃v:List Edg,a=[.sl (v.map Edg.z)]/\Sx B v:=by
 obtain⟨m,xs,rfl,d,e⟩:=Ac Tryz.underlying27 h;obtain⟨f,rfl,h1,c⟩:=UM (enc:=Edg.z) (S:=λx=>Zqw B x) λx b=>Zvl (e x b);exact⟨f,rfl,by simpa using d,c⟩
def Sw(B:Nat)(x:Gr):Prop:=Sy B x.base/\Sx B x.n
def Zeu{B n:Nat}{b:aC}(h:ZY prog B n 29 b):∃v:Gr,b=v.z/\Sw B v:=by obtain⟨m,a⟩:=Av Tryz.underlying29 h;obtain⟨a0,r0,e,t0,a⟩:=a;obtain⟨j,l,c⟩:=Zew t0;obtain⟨a1,i,f,t1,a⟩:=a;obtain⟨k,o,d⟩:=Zev t1;have g:i=[]:=a;subst l o;refine⟨⟨j,k⟩,?_,c,d⟩;rw[e,f,g];rfl
def Zqa(B:Nat)(a:aE):Prop:=a.length<=B/\∀x∈a,MP B x
def Zqv{B n:Nat}{a:aC}(h:ZY prog B n 35 a):∃v:aE,a=[.sl (v.map GV.z)]/\Zqa B v:=by
 obtain⟨m,xs,rfl,d,e⟩:=Ac Tryz.underlying35 h;obtain⟨f,rfl,h1,c⟩:=UM (enc:=GV.z) (S:=λx=>MP B x) λx b=>Zem (e x b);exact⟨f,rfl,by simpa using d,c⟩
def Zrs(B:Nat)(a:List aE):Prop:=a.length<=B/\∀x∈a,Zqa B x
def Zvr{B n:Nat}{a:aC}(h:ZY prog B n 65 a):∃v:List aE,a=[.sl (v.map (Z7 GV.z))]/\Zrs B v:=by
 obtain⟨m,xs,rfl,d,e⟩:=Ac Tryz.underlying65 h;obtain⟨f,rfl,h1,c⟩:=UM (enc:=(Z7 GV.z)) (S:=λx=>Zqa B x) λx b=>Zqv (e x b);exact⟨f,rfl,by simpa using d,c⟩
def Zqz(B:Nat)(x:J):Prop:=True/\Zrs B x.rows
def Zvq{B n:Nat}{b:aC}(h:ZY prog B n 67 b):∃v:J,b=v.z/\Zqz B v:=by obtain⟨m,a⟩:=Av Tryz.underlying67 h;obtain⟨a0,r0,e,t0,a⟩:=a;obtain⟨j,l,c⟩:=UU t0;obtain⟨a1,i,f,t1,a⟩:=a;obtain⟨k,o,d⟩:=Zvr t1;have g:i=[]:=a;subst l o;refine⟨⟨j,k⟩,?_,c,d⟩;rw[e,f,g];rfl
def Zrt(B:Nat)(x:Chg):Prop:=True/\True/\Zqa B x.key/\Zqa B x.row
def Zrp{B n:Nat}{b:aC}(h:ZY prog B n 37 b):∃v:Chg,b=v.z/\Zrt B v:=by obtain⟨m,a⟩:=Av Tryz.underlying37 h;obtain⟨a0,r0,g,t0,a⟩:=a;obtain⟨p,t,c⟩:=Bg t0;obtain⟨a1,r1,i,t1,a⟩:=a;obtain⟨q,u,d⟩:=UU t1;obtain⟨a2,r2,j,t2,a⟩:=a;obtain⟨r,w,e⟩:=Zqv t2;obtain⟨a3,o,k,t3,a⟩:=a;obtain⟨s,x,f⟩:=Zqv t3;have l:o=[]:=a;subst t u w x;refine⟨⟨p,q,r,s⟩,?_,c,d,e,f⟩;rw[g,i,j,k,l];rfl
def Zqk(B:Nat)(a:List J):Prop:=a.length<=B/\∀x∈a,Zqz B x
def Zvs{B n:Nat}{a:aC}(h:ZY prog B n 41 a):∃v:List J,a=[.sl (v.map J.z)]/\Zqk B v:=by
 obtain⟨m,xs,rfl,d,e⟩:=Ac Tryz.underlying41 h;obtain⟨f,rfl,h1,c⟩:=UM (enc:=J.z) (S:=λx=>Zqz B x) λx b=>Zvq (e x b);exact⟨f,rfl,by simpa using d,c⟩
def JB(B:Nat)(a:List (List J)):Prop:=a.length<=B/\∀x∈a,Zqk B x
def Sg{B n:Nat}{a:aC}(h:ZY prog B n 30 a):∃v:List (List J),a=[.sl (v.map (Z7 J.z))]/\JB B v:=by
 obtain⟨m,xs,rfl,d,e⟩:=Ac Tryz.underlying30 h;obtain⟨f,rfl,h1,c⟩:=UM (enc:=(Z7 J.z)) (S:=λx=>Zqk B x) λx b=>Zvs (e x b);exact⟨f,rfl,by simpa using d,c⟩
def Sv(B:Nat)(a:List (List (List J))):Prop:=a.length<=B/\∀x∈a,JB B x
def Zet{B n:Nat}{a:aC}(h:ZY prog B n 31 a):∃v:List (List (List J)),a=[.sl (v.map (Z7 (Z7 J.z)))]/\Sv B v:=by
 obtain⟨m,xs,rfl,d,e⟩:=Ac Tryz.underlying31 h;obtain⟨f,rfl,h1,c⟩:=UM (enc:=(Z7 (Z7 J.z))) (S:=λx=>JB B x) λx b=>Sg (e x b);exact⟨f,rfl,by simpa using d,c⟩
def Zfc(B:Nat)(x:Db):Prop:=JB B x.insts/\Sv B x.comps
def Zes{B n:Nat}{b:aC}(h:ZY prog B n 33 b):∃v:Db,b=v.z/\Zfc B v:=by obtain⟨m,a⟩:=Av Tryz.underlying33 h;obtain⟨a0,r0,e,t0,a⟩:=a;obtain⟨j,l,c⟩:=Sg t0;obtain⟨a1,i,f,t1,a⟩:=a;obtain⟨k,o,d⟩:=Zet t1;have g:i=[]:=a;subst l o;refine⟨⟨j,k⟩,?_,c,d⟩;rw[e,f,g];rfl
def Gh{P:Program}{w:World}:∀{l:List (String×DataW Unit)} {c:List MemPlace},DataW.LaidVars P w l c->∀n d,(n,d)∈l->
  ∃g t a b p,P.globalNamed n=some g/\(P.globals[g]?).map (·.type)=some t/\w.var? P n=some a/\DataW.trod (λ_=>()) P w 0 (λ_=>true) false b t a.toList=some (d,p)
 |[],_,_,_,_,hm=>by cases hm
 |(n',d')::r,c,h,n,d,hm=>by obtain⟨g,t,a,b,p,q,f,i,j,k,m,_⟩:=h;rcases Y5.1 hm with e|e;cases e;exact⟨g,t,a,b,p,f,i,j,k⟩;exact Gh m n d e
def It{P:Program}{w:World}{n:String}{g:Nat}{a:Array Value}(b:P.globalNamed n=some g)(h:w.var? P n=some a):∃T l,w.heap[g]?=some (.cells a T l):=by unfold World.var? at h;rw[b] at h;simp only[Option.bind_some] at h;split at h;cases h;exact⟨_,_,by assumption⟩;cases h
def OR{w:World}{g:Nat}{v:Value}{T:TypeId}{l:Nat×Nat}{a:Array Value}(h:w.heap[g]?=some (.cells a T l))(b:a.toList=[v]):w.cell? ⟨g,0,none⟩=some v:=by
 have:a[0]?=some v:=by rw[<-Array.getElem?_toList,b];rfl
 unfold World.cell?;simp[h,this]
def Dw{α:Type}{x:aB α}{a b:α}(h:x=some a)(k:x=some b):b=a:=Option.some.inj (k.symm.trans h)
def Zdf{W:World}{l:List (String×DataW Unit)}(A:l=Proofs.YtcofobppbicocaaGreatDoor.Rows.txnFirstCommitterWinsUptoRow.laid)(h:laidMetH prog l W)(n:W.ShapedOpen prog):BV W:=by
 subst A;rw[MakeChecks.laidMetH_plain _ _ _ kR] at h;obtain⟨_,b,_⟩:=h;obtain⟨ga,ta,ca,_,_,c,_,j,_⟩:=Gh b _ _ (.tail _ (.head _));obtain rfl:=Dw (a:=3) kR c;obtain⟨Ta,la,k⟩:=It c j;obtain⟨gb,tb,cb,fb,pb,d,p,q,r⟩:=Gh b _ _ (.tail _ (.tail _ (.head _)));obtain rfl:=Dw (a:=1) kR d;obtain rfl:=Dw (a:=318) kR p;obtain⟨i,C,s⟩:=It d q;have x:=Lib.cells_of_tab (zs:=Lib.pow10Tab) Tryz.underlying318 Tryz.underlying185 kR kR r;obtain⟨gc,tc,cc,fc,pc,e,u,v,w⟩:=Gh b _ _ (.tail _ (.tail _ (.tail _ (.tail _ (.head _)))));obtain rfl:=Dw (a:=4) kR e;obtain rfl:=Dw (a:=323) kR u;obtain⟨Tc,lc,f⟩:=It e v;obtain⟨_,D,vc,y,_⟩:=iface_of_trod Tryz.underlying323 w;obtain⟨gd,td,cd,fd,pd,d1,d2,d3,d4⟩:=Gh b _ _ (.tail _ (.tail _ (.tail _ (.head _))));obtain rfl:=Dw (a:=5) kR d1;obtain rfl:=Dw (a:=323) kR d2;obtain⟨Td,ld,d5⟩:=It d1 d3;obtain⟨_,E,F,z,_⟩:=iface_of_trod Tryz.underlying323 d4;obtain⟨m,B⟩:=cell_of_shapedOpen_int (P:=prog) (g:=0) (t:=3) (zero:=#[.int .i64 0]) n (of_decide_eq_true kR) kR rfl kR kR Tryz.underlying3;have o:6<=W.heap.size:=by
  have:=(YQ.1 k).1
  have:=(YQ.1 f).1
  have:=(YQ.1 d5).1
  omega
 refine⟨o,⟨i,C,?_⟩,⟨D,vc,OR f y⟩,⟨E,F,OR d5 z⟩,⟨m,B⟩⟩;rw[s,<-x]
end
end Go.Am
namespace Go.Proofs.YtcofobppbicocaaGreatDoor.txnFirstCommitterWins
section
open Go Go.Am Go.ChangeShapes Go.WideShapes Go.ChangeAt Go.RowKit
abbrev aR:=Rows.txnFirstCommitterWinsUptoRow
abbrev aS:=Rows.txnFirstCommitterWinsSpec
abbrev aW:Array Value:=#[.agg #[.slice none 0 0,.slice none 0 0,.slice none 0 0,.slice none 0 0],.agg #[.slice none 0 0,.slice none 0 0],.int .i64 0,.agg #[.int .i64 0,.string ByteArray.empty,.slice none 0 0,.slice none 0 0],.agg #[.int .i64 0,.string ByteArray.empty,.slice none 0 0,.slice none 0 0]]
theorem own:ownKnob Tryz.prog.godebug=none:=kR
theorem laid:laidOutB Tryz.prog=true:=kR
def Ze5:List TypeId:=[29,26,22,82,9,79,78,3,4,80,23,89,24,87,84,27,95,93,91,33,30,41,67,65,35,31,37]
theorem ID:RF Tryz.prog Ze5=true:=kR
theorem Ze1{g:Gr}(h:Sw 1048576 g):∀e∈g.n,∀x∈e.script,U7 x:=by intro e d x i;have b:=(h.2.2 e d).2.2 x i;obtain⟨_,_,_,_,_,_,c,_,_,a,_,f⟩:=b;exact⟨c.1,a.2.1.1,a.2.2.1,f.2.1.1⟩
theorem Zrw{x:Chg}(y:Zrt 1048576 x):x.key.length<=2097152/\x.row.length<=2097152:=⟨YE (y.2.2.1).1 dE,YE (y.2.2.2).1 dE⟩
theorem Zvt{c:Db}(y:Zfc 1048576 c):∀x∈c.insts,Zpx x:=by
 obtain⟨⟨h1,f⟩,_⟩:=y;have g:∀x:List J,Zqk 1048576 x->Zpx x:=λx a=>⟨YE a.1 dE,λr d=>⟨YE (a.2 r d).2.1 dE,λb e=>YE ((a.2 r d).2.2 b e).1 dE⟩⟩;exact λx a=>g x (f x a)
theorem Qb:∀(l:List (List (List J))),l.flatten.length<=AM (l.map (Z7 (Z7 J.z)))
 |[]=>by simp
 |y::l=>by have h1:=Qb l;have a:=L4 (y.map (Z7 J.z));simp only[Yb,AM,Z7,WQ,DT,XC,Ye,Yd] at a|-;omega
theorem Zff{a:Db}(k:WQ a.z+1<=1048576):a.comps.flatten.length+a.insts.length<=2097152:=by have e1:=Qb a.comps;have b:=L4 (a.insts.map (Z7 J.z));have e3:WQ a.z=AM (a.insts.map (Z7 J.z))+(AM (a.comps.map (Z7 (Z7 J.z)))+0):=rfl;rw[Yd] at b;omega
set_option maxRecDepth 100000 in
theorem Zae(H:Type)(m:TypeId×Value->H)(W:World)(al:Nat)(b:Array Value)(D gs:List (DataW H))(g:List MemPlace)
  (r:∀(j:Nat) t v,f3.params[j]?=some t->b[j]?=some v->Value.okWide Tryz.prog W .any al t v)
  (E:DataW.Whole m Tryz.prog f3.params.toList aS.vars false W b.toList D gs g)(hk:Rows.uptoSmall H (D++gs)=true)(hL:laidMetH Tryz.prog aR.laid W)(bp:W.ShapedOpen Tryz.prog):
  Calls Tryz.prog 3 b W λe N=>∃v,e=.returned v/\aS.post m Tryz.prog f3 false true false false W b v N:=by
 have bi:=E;have c:=E.lt;obtain⟨p,q,ba,hV,rfl,b8,b5⟩:=E;have hA:DataW.TrodAll m Tryz.prog W 0 (λ_=>true) true f3.params.toList b.toList D p:=ba;rw[params3] at hA r;obtain⟨v0,b6,d0,bz,I,q0,bd,rfl,rfl,h0,r0⟩:=trodAll_cons hA;obtain⟨v1,bw,d1,b4,J,q1,rfl,rfl,rfl,h1,r1⟩:=trodAll_cons r0;obtain⟨v2,b2,d2,b9,K,q2,rfl,rfl,rfl,h2,r2⟩:=trodAll_cons r1;obtain⟨v3,b1,d3,bv,L,q3,rfl,rfl,rfl,h3,r3⟩:=trodAll_cons r2;obtain⟨v4,b0,d4,b7,M,q4,rfl,rfl,rfl,h4,r4⟩:=trodAll_cons r3;obtain⟨rfl,rfl,rfl⟩:=trodAll_nil r4;obtain rfl:b=#[v0,v1,v2,v3,v4]:=by cases b;simp_all
 obtain⟨rfl,rfl⟩:=trodVars_none hV;have hb:=of_decide_eq_true hk;simp only[Ym,Rows.uptoBulkAll] at hb;obtain⟨l,rfl,_⟩:=okWide_struct Tryz.underlying29 (r 0 29 v0 rfl rfl);obtain⟨A,rfl,_⟩:=okWide_struct Tryz.underlying33 (r 1 33 v1 rfl rfl);obtain⟨G,rfl⟩:=okWide_int Tryz.underlying3 (r 2 3 v2 rfl rfl);obtain⟨C,rfl,_⟩:=okWide_struct Tryz.underlying37 (r 3 37 v3 rfl rfl);obtain⟨z,rfl,_⟩:=okWide_struct Tryz.underlying37 (r 4 37 v4 rfl rfl);have a7:=h0;have bb:=h1;have a8:=h2;have az:=h3;have bn:=h4;obtain⟨n0,bt⟩:=h0;obtain⟨n1,a1⟩:=h1;obtain⟨n2,bm⟩:=h2;obtain⟨n3,bc⟩:=h3;obtain⟨n4,au⟩:=h4;obtain⟨X,R,bu,y⟩:=Iv (B:=1048576) ID dE n0 29 _ _ dE bt (by simp only;omega);have k0:WQ X+1<=1048576:=by simp only at y;omega
 obtain⟨Y,T,bg,Q⟩:=Iv (B:=1048576) ID dE n1 33 _ _ dE a1 (by simp only;omega);have k1:WQ Y+1<=1048576:=by simp only at Q;omega
 obtain⟨Z,ay,bk,P⟩:=Iv (B:=1048576) ID dE n2 3 _ _ dE bm (by simp only;omega);have k2:WQ Z+1<=1048576:=by simp only at P;omega
 obtain⟨e3,V,br,U⟩:=Iv (B:=1048576) ID dE n3 37 _ _ dE bc (by simp only;omega);have k3:WQ e3+1<=1048576:=by simp only at U;omega
 obtain⟨e4,O,bf,S⟩:=Iv (B:=1048576) ID dE n4 37 _ _ dE au (by simp only;omega);have k4:WQ e4+1<=1048576:=by simp only at S;omega
 have kk:WQ X+WQ Y+WQ Z+WQ e3+WQ e4<=1048576:=by simp only at y Q P U S;omega
 obtain⟨x0,rfl,y0⟩:=Zeu bu;obtain⟨x1,rfl,y1⟩:=Zes bg;obtain⟨x2,rfl,y2⟩:=Bg bk;obtain⟨x3,rfl,y3⟩:=Zrp br;obtain⟨x4,rfl,y4⟩:=Zrp bf;have hS:=(Zrx x0 x1 x2 x3 x4).h true (Zvk x0 x1 x2 x3 x4 (Ze1 y0) (Zff k1) (Zvt y1) (Zrw y3) (Zrw y4));refine(hS.2 W (cellsOf W) (λ_ _=>none) #[.agg l,.agg A,.int .i64 G,.agg C,.agg z] (Zdf rfl hL bp) (λ_ _ _ h=>h) (λ_ _ _ h=>by cases h) ?_).mono λe N o=>?_;refine⟨rfl,λi a w=>?_⟩
 match i with
 |0=>
   cases w;refine⟨.agg l,rfl,l,rfl,by simpa[Value.cells] using R.1,λj x n=>?_⟩;obtain⟨u,d,f⟩:=R.2 j x n;exact⟨u,by simpa[Value.cells] using d,f⟩
 |1=>
   cases w;refine⟨.agg A,rfl,A,rfl,by simpa[Value.cells] using T.1,λj x n=>?_⟩;obtain⟨u,d,f⟩:=T.2 j x n;exact⟨u,by simpa[Value.cells] using d,f⟩
 |2=>
   cases w;obtain⟨u,d,f⟩:=ay.2 0 _ rfl;refine⟨.int .i64 G,rfl,?_⟩
   have:u=.int .i64 G:=by simpa[Value.cells] using d.symm
   rw[<-this];exact f
 |3=>
   cases w;refine⟨.agg C,rfl,C,rfl,by simpa[Value.cells] using V.1,λj x n=>?_⟩;obtain⟨u,d,f⟩:=V.2 j x n;exact⟨u,by simpa[Value.cells] using d,f⟩
 |4=>
   cases w;refine⟨.agg z,rfl,z,rfl,by simpa[Value.cells] using O.1,λj x n=>?_⟩;obtain⟨u,d,f⟩:=O.2 j x n;exact⟨u,by simpa[Value.cells] using d,f⟩
 |i+5=>simp at w
 obtain⟨v,m',b3,rfl,_,_,_,s,aw,_⟩:=o;have hv:v=.bool true:=by cases aw;rfl
 subst hv;refine⟨_,rfl,[d0,d1,d2,d3,d4],[],I++(J++(K++(L++(M++[]))))++[],[],I++(J++(K++(L++(M++[])))),[],bi,trodAll_mk1 (shut_bool Tryz.underlying4 true),?_,rfl,s.frame _,λh=>by cases h⟩;have ax:∀x∈I,x.block<W.heap.size:=λx k=>c x (by simp[k]);have bq:∀x∈J,x.block<W.heap.size:=λx k=>c x (by simp[k]);have F:∀x∈K,x.block<W.heap.size:=λx k=>c x (by simp[k]);have bj:∀x∈L,x.block<W.heap.size:=λx k=>c x (by simp[k]);have bh:∀x∈M,x.block<W.heap.size:=λx k=>c x (by simp[k]);exact trodAll_cons_mk (Below.trod laid kR (of_decide_eq_true kR) a7 s ax) (trodAll_cons_mk (Below.trod laid kR (of_decide_eq_true kR) bb s bq) (trodAll_cons_mk (Below.trod laid kR (of_decide_eq_true kR) a8 s F) (trodAll_cons_mk (Below.trod laid kR (of_decide_eq_true kR) az s bj) (trodAll_cons_mk (Below.trod laid kR (of_decide_eq_true kR) bn s bh) trodAll_mk0))))
theorem Za4(a:Os):laidMet Tryz.prog aR.laid ((World.laidAll Tryz.prog a aR.laid).forCall (λ_ _=>0) ⟨#[],aW,[]⟩).memory:=laidMet_laidAll _ kR kR
theorem Ze4(c:Os){H:Type}(b:TypeId×Value->H):∃a,DataW.whole b Tryz.prog ((World.laidAll Tryz.prog c aR.laid).forCall (λ_ _=>0) ⟨#[],aW,[]⟩).memory f3.params.toList aS.vars false (aW:Array Value).toList 8=some ([.agg [.agg [.nil,.nil,.nil],.nil],.agg [.nil,.nil],.lit (.int .i64 0),.agg [.lit (.int .i64 0),.lit (.string []),.nil,.nil],.agg [.lit (.int .i64 0),.lit (.string []),.nil,.nil]],[],a):=⟨[],kR⟩
set_option maxRecDepth 100000 in
theorem lifted(o:Os)(b:o.Started)(H:Type)(enc:TypeId×Value->H)(F:Stop.Interp):
  ReturnsInHanded {} Tryz.checked o 3 .any ((Rows.OpenSpec.upto aS).preRow enc Tryz.prog f3 aR.domain false aR.laid) (((Rows.OpenSpec.upto aS).at F).post enc Tryz.prog f3 false true false false):=by
 obtain⟨places,hx⟩:=Ze4 o enc;refine returnsInHanded_of_row (C:=Tryz.checked) (s:=Rows.OpenSpec.upto aS) own b kR func3
  (witness_row_atRef (enc:=enc) (C:=Tryz.checked) false (World.laidAll Tryz.prog o aR.laid) aW (World.laidAll_os _ _ _) kR kR kR
   (OpenSpec.preRow_of_cond 8 hx kR (λk u=>by cases u;kernel_rfl) kR (Za4 o))) ?_
 intro W j g ds q e n t _ f _ r p _;exact Zae H enc W j g ds q e n t (f _ rfl) r p
theorem Zek:(aR.inPlace==Tryz.prog.inPlace 3)=true:=kR
theorem Zej:(aR.unfollowed==Tryz.prog.unfollowed 3)=true:=kR
theorem Zei:(aR.recurses==Tryz.prog.recurses 3)=true:=kR
theorem Zeh:(aR.named==Tryz.prog.varsNamed 3)=true:=kR
theorem Zeg:(aR.plainKeys==Tryz.prog.plainKeys)=true:=kR
theorem Zef:Tryz.prog.stopsHeard=true:=kR
theorem Zee:Tryz.prog.mayEnter=true:=kR
theorem Zed:(aR.lifted==Tryz.prog.liftsFinal)=true:=kR
theorem Zec:(Tryz.prog.make==some aR.make)=true:=kR
theorem Zdl:mapsRowed Tryz.prog=true:=kR
theorem Zdk:aR.wf (OpenSpec.ofChange (Rows.OpenSpec.upto aS).bare)=true:=kR
theorem Zdj:laidOutB Tryz.prog=true:=kR
theorem Zdi:namedTie Tryz.prog aR.named (Rows.OpenSpec.upto aS).bare.vars=true:=kR
theorem Zdh:Tryz.pinned.checked.prog.funcNamed aR.func=some 3:=kR
set_option maxRecDepth 100000 in
theorem Zds:joinedFacts Tryz.prog 3 f3 (Rows.OpenSpec.upto aS).bare aR=true:=by
 unfold joinedFacts;rw[Zek,Zej,Zei,Zeh,Zeg,Zef,Zee,Zed,Zec,Zdl,Zdk,Zdj,Zdi]
 kernel_rfl
theorem Zf7:Rows.TxnFirstCommitterWinsUptoSaid:=
 OpenClaim.holds_of_cond 3 f3 rfl rfl rfl rfl rfl rfl rfl ⟨rfl,rfl,rfl,rfl,rfl⟩ rfl rfl rfl rfl rfl Zdh func3 Zds
  (of_decide_eq_true kR) (by unfold Func.isWrapper;first|(rw[if_pos (by decide+kernel)];kernel_rfl)|(rw[if_neg (by decide+kernel)];exact⟨rfl,rfl⟩))
  (λc a H b _ F=>by rw[OpenClaim.pre_eq_preRow];exact lifted c a H b F)
theorem Zdc(f:FuncId)(b:Func)(e:Tryz.pinned.checked.prog.funcNamed aR.func=some f)(d:Tryz.pinned.checked.prog.funcs[f]?=some b):
  true=Tryz.pinned.checked.prog.looks []/\∀(j:Nat) t,b.params[j]?=some t->Tryz.pinned.checked.prog.wantsStandIn t=false:=by
 obtain rfl:f=3:=Option.some.inj ((kR:Tryz.prog.funcNamed aR.func=some 3).symm.trans e)|>.symm;obtain rfl:b=f3:=(Option.some.inj (func3.symm.trans d)).symm;refine⟨kR,λj t c=>?_⟩;rw[params3] at c;have g:t∈[29,33,3,37,37]:=by simpa using Array.mem_of_getElem? c
 have a:([29,33,3,37,37].all λu=>!Tryz.prog.wantsStandIn u)=true:=kR;exact(show Tryz.prog.wantsStandIn t=false by simpa using Xu.1 a t g)
theorem Zvh:Tryz.pinned.checked.prog.funcs.any Func.goes=false:=kR
theorem Zu0{P:Program}(h:P.funcs.any Func.goes=false)(f:FuncId):P.goes f=false:=by
 unfold Program.goes;rw[h,Y02,Bool.or_false,List.any_eq_false];intro g _;cases hg:P.funcs[g]? with
 |none=>simp
 |some fn=>?_
 rw[Array.any_eq_false] at h;obtain⟨a,rfl⟩:=YQ.1 hg;simpa using h g a
theorem Zsd{c:OpenClaim}{P:Program}(h:P.funcs.any Func.goes=false)(a:c.start=.entering):false=c.goesBy P:=by
 unfold OpenClaim.goesBy Program.goesAt Program.goesFrom;rw[a];cases P.funcNamed c.func with
 |none=>rfl
 |some f=>simp[Zu0 h]
theorem Zml:Rows.TxnFirstCommitterWinsUptoCardSaid:=
 Claim7.holds_tied_plain_at .later [] _ _ _ _ Zf7 (λ_ h=>by cases h) kR (λ_ h=>by cases h) txnFirstCommitterWinsUpto_row_tie rfl ⟨rfl,rfl⟩ kR rfl Zdc (Zsd Zvh rfl)
end
end Go.Proofs.YtcofobppbicocaaGreatDoor.txnFirstCommitterWins
