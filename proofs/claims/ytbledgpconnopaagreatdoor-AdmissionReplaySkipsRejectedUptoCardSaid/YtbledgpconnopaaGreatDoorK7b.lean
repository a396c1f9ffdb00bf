/- joined by a program out of 52 texts -/
import Derived.Test.YtbledgpconnopaaGreatDoorK6
import Derived.Test.YtbledgpconnopaaGreatDoorCards
import Derived.LaidLaws
import Derived.MakeChecks
import Derived.Shelf.Vars
import Derived.Lib.LaidTab
import Derived.Test.YtbledgpconnopaaGreatDoorTie
import Derived.WalkKit
import Derived.ProofKit
import Derived.OpenShut
import Derived.JoinedCond
import Derived.JoinedOf
import Derived.Carry
import Derived.Lay
import Derived.SevenTiedAt
import Derived.Deep.DeepWitnessRowRef
set_option linter.unusedVariables false
set_option linter.unusedSimpArgs false
set_option maxRecDepth 20000
open Go Go.Proofs
open Go.Proofs.Tryz(prog)
open ByteArray(empty)
namespace Go.Am
section
theorem HL{P:Program}{ty el:TypeId}{es ac d:Nat}{h:HS}{c x:C}{K:V->HS->Prop}{xs ys:List (List D)}(ad:Zv P ty=some (el,es,ac))(g:Zi h es c xs)(hx:x.qE=some ys)(h0:0<es)(hb:ac<=4096)(hy:∀y∈ys,y.length=es)(hl:xs.length+ys.length<=Zs)
  (hk:∀c' h',Zi h' es c' (xs++ys)->h'.box=h.box->h'.ep=h.ep+1->(∀ab c2 aa,Zi h ab c2 aa->Ws c c2->Zi h' ab c2 aa/\Ws c' c2)->K (.one c') h'):Vv P ty c x d h (K:=⟨K⟩):=by
 have hall:∀y∈xs++ys,y.length=es:=λy ae=>(Y2.1 ae).elim (g.2 y) (hy y);refine U3 ad g hx h0 hb hy hl (hk _ _ (Zi.own (by simp[HS.qC,HS.next]) (by show h.ep<(C.qI h c).ep+1;rw[De];omega) hall) (by cases c<;>rfl) (by show(C.qI h c).ep+1=_;rw[De]) λab c2 aa g2 ha=>⟨?_,g2.apart (Y7 _)⟩);exact((g2.qI ha).qW (by rw[De];exact Y7 _)).next
def Eb(g:Gr)(aa:Int):Option (List Hop×Int):=
 Z1 (Gu g aa) λv2=>bif v2.2 !=0 then some ([],v2.2) else
 UA (λ(s:List Int×List Hop×Int) next=>bif decide (s.2.2<(s.1.length:Int)) then
  Zc (λ(i:Nat) (ab:Edg) (t:List Int×List Hop) next2=>Z7 t.1 s.2.2 λx=>Z1 (Ue t.1 ((i:Int)+1)) λa=>Z1 (Ue t.1 ab.parent) λb=>
   Zp (t.1.length+1<=2097152/\t.2.length+1<=2097152) (bif (ab.parent==x)&&!a then next2 (t.1++[(i:Int)+1],t.2++[⟨(i:Int),false⟩]) else bif (((i:Int)+1)==x)&&!b then next2 (t.1++[ab.parent],t.2++[⟨(i:Int),true⟩]) else next2 t))
   (λt=>next (t.1,t.2,s.2.2+1)) g.edges 0 (s.1,s.2.1)
  else some (s.2.1,0)) DH ([aa],[],0)
theorem Rp(g:Gr)(aa:Int)(r:List Hop×Int)(hm:Is (Eb g aa) r):
  Zj prog 110 [.agg g.enc,.i aa] (.tup [.l (r.1.map Hop.enc),.i r.2]):=by
 unfold Eb at hm;refine Zj.of_heap ?_;show Z3 _ _ [.agg (g.enc.map C.d),.i aa] HS.init _;refine Z3.ov Tryz.func110 ?_;obtain⟨v2,ba,hm⟩:=hm.bind;simp;refine Zq ((RM g aa).h v2 ba) sI ?_;simp;refine Zy hm ?_ ?_<;>clear hm<;>intro hc hm;obtain rfl:=Zh hm;simp[ZG,Zz,ZL,ZR];exact⟨.data rfl,.data rfl,trivial⟩;simp;refine Z4.jN (λs e h'=>∃cq co,En e 90 [(2,.p (0,32)),(8,.one cq),(9,.one co),(10,.i s.2.2)]/\h'.box (0,32)=some [.d (.sl (g.base.tables.map Tbl.enc)),.d (.sl (g.base.fks.map Fk.enc)),.d (.sl (g.base.cons.map Cons.enc)),.d (.sl (g.edges.map Edg.enc))]/\0<h'.ep/\Zi h' 1 cq (s.1.map Zd)/\Zi h' 2 co (s.2.1.map Hop.enc)/\Ws cq co/\0<=s.2.2) hm
  ⟨.own (3,368) [Zd aa],.nil,sI,sI,sI,Zi.own sI sI sI,Zi.nil,by rw[N4];trivial,sI⟩ ?_
 rintro n ⟨queue,out,k⟩ e h' ⟨cq,co,hE,bg,ad,gQ,gO,ae,a8⟩ hm;simp only at hE gQ gO a8 hm;simp[hE];refine As gQ.list (λa7=>?_);simp only[Yh] at a7;have bd:queue.length<=2097152:=a7;simp[hE];refine Zy hm ?_ ?_<;>clear hm<;>intro hc hm;simp[hE,bg];intro bf;have hk0:k<(queue.length:Int):=by simpa using hc
 refine Z4.for (xs:=g.edges) (s0:=(queue,out)) (λi t e h'=>∃cq co,En e 90 [(2,.p (0,32)),(8,.one cq),(9,.one co),(10,.i k),(31,.l (g.edges.map Edg.enc)),(32,.i (g.edges.length:Int)),(33,.i (i:Int))]/\
  h'.box (0,32)=some [.d (.sl (g.base.tables.map Tbl.enc)),.d (.sl (g.base.fks.map Fk.enc)),.d (.sl (g.base.cons.map Cons.enc)),.d (.sl (g.edges.map Edg.enc))]/\0<h'.ep/\Zi h' 1 cq (t.1.map Zd)/\Zi h' 2 co (t.2.map Hop.enc)/\Ws cq co) hm ⟨cq,co,by simp[hE],bg,ad,gQ,gO,ae⟩ ?_ ?_
 rintro i t e h' ⟨cq,co,hE,bg,ad,gQ,gO,ae⟩ hlt hm;have hw:IntKind.i64.wrap ((i:Int)+1)=(i:Int)+1:=Y5 _ oM;obtain⟨x,ag,hx,hm⟩:=hm.get;obtain⟨a,ha,hm⟩:=hm.bind;obtain⟨b,hb,hm⟩:=hm.bind;obtain⟨⟨bi,hl2⟩,hm⟩:=hm.chk;have ah:(t.1.map Zd)[k.toNat]?=some [.int .i64 x]:=by rw[Y8,hx];rfl
 have af:=gQ.list;simp[hE,hlt];refine Z4.cu [0,1,2,3,4,5,6,7,8,9,10,11,12,13,14] (λE h1=>Ek e E [] [2,8,9,10,31,32,33]/\
  E.get 11=.i (i:Int)/\E.get 12=.p (h'.ep,192)/\h1.box (h'.ep,192)=some [.d (.int .i64 g.edges[i].parent),.d (.sl (g.edges[i].script.map Stp.enc))]/\h1.box (0,32)=some [.d (.sl (g.base.tables.map Tbl.enc)),.d (.sl (g.base.fks.map Fk.enc)),.d (.sl (g.base.cons.map Cons.enc)),.d (.sl (g.edges.map Edg.enc))]/\h'.ep<h1.ep/\Zi h1 1 cq (t.1.map Zd)/\Zi h1 2 co (t.2.map Hop.enc)/\E.get 38=.b ((g.edges[i].parent==x)&&!a)) ?_ ?_
 have b0:((0,32):Z2)≠(h'.ep,192):=sI;cases hp:(g.edges[i].parent==x) with|true=>?_|false=>?_;simp[hE,af,ag,ah,hp,hw];refine Zq ((Gn t.1 ((i:Int)+1)).h a ha) (by simp[W1,V.toA,gQ.toA]) ?_;simp[hE,af,ag,ah,hp,hw]
 try refine⟨λ_ _ x=>x,?_⟩
 refine Zb.of ⟨by simp[hE],by simp[hE],by simp[hE],sI,by simp[bg],sI,gQ.qA.next.qA.next,gO.qA.next.qA.next,by simp[hE]⟩;simp[hE,af,ag,ah,hp,hw]
 try refine⟨λ_ _ x=>x,?_⟩
 refine Zb.of ⟨by simp[hE],by simp[hE],by simp[hE],sI,by simp[bg],sI,gQ.qA.next.qA,gO.qA.next.qA,by simp[hE]⟩;rintro e1 h1 ⟨hF,ab,ac,be,bg,bc,gQ,gO,bb⟩;have hE:=hF.an hE;simp[hE,ab,ac,bb];refine Zy hm ?_ ?_<;>clear hm<;>intro bj hm;simp[hE,ab,ac];refine HL (xs:=t.2.map Hop.enc) (ys:=[Hop.enc ⟨(i:Int),false⟩]) H8 (gO.qW sI).next rfl dE dE sI sO λc2 h4 a1 al az am=>?_;obtain⟨ax,ap⟩:=am 1 cq (t.1.map Zd) (gQ.qW sI).next ae.symm;have b4:h4.box (0,32)=some [.d (.sl (g.base.tables.map Tbl.enc)),.d (.sl (g.base.fks.map Fk.enc)),.d (.sl (g.base.cons.map Cons.enc)),.d (.sl (g.edges.map Edg.enc))]:=by rw[al];simpa using bg
 have ay:h4.box (h'.ep,192)=some [.d (.int .i64 g.edges[i].parent),.d (.sl (g.edges[i].script.map Stp.enc))]:=by rw[al];simpa using be
 simp at az;simp[hE,ab,ac,b4,ay,hw];refine HL (xs:=t.1.map Zd) (ys:=[Zd ((i:Int)+1)]) Bs (ax.qW sI).next rfl dE dE sI sO λc3 h5 aw ar ak aj=>?_;obtain⟨au,aq⟩:=aj 2 c2 _ (a1.qW sI).next ap.symm;have b5:h5.box (0,32)=some [.d (.sl (g.base.tables.map Tbl.enc)),.d (.sl (g.base.fks.map Fk.enc)),.d (.sl (g.base.cons.map Cons.enc)),.d (.sl (g.edges.map Edg.enc))]:=by rw[ar];simpa using b4
 simp at ak;simp[hE,ab,ac,b5,hw];exact Ze.of (t.1++[(i:Int)+1],t.2++[⟨(i:Int),false⟩]) ⟨⟨c3,c2,by simp[hE],b5,oM,by simpa using aw,by simpa using au,aq⟩,hm⟩;have af:=gQ.list;simp[hE,ab,ac,be,af,ag,ah,hw];cases hp:(((i:Int)+1)==x) with|true=>?_|false=>?_;rw[hp] at hm;simp[hE,ab,ac,be,af,ag,ah,hw,hp];refine Zq ((Gn t.1 g.edges[i].parent).h b hb) (by simp[W1,V.toA,gQ.toA]) ?_;simp[hE,ab,ac,be,af,ag,ah,hw,hp];refine Zy hm ?_ ?_<;>clear hm<;>intro bh hm;simp[hE,ab,ac];refine HL (xs:=t.2.map Hop.enc) (ys:=[Hop.enc ⟨(i:Int),true⟩]) H8 (gO.next.qW sI).next rfl dE dE sI sO λc2 h4 a1 al az am=>?_;obtain⟨ax,ap⟩:=am 1 cq (t.1.map Zd) (gQ.next.qW sI).next ae.symm;have b4:h4.box (0,32)=some [.d (.sl (g.base.tables.map Tbl.enc)),.d (.sl (g.base.fks.map Fk.enc)),.d (.sl (g.base.cons.map Cons.enc)),.d (.sl (g.edges.map Edg.enc))]:=by rw[al];simpa using bg
 have ay:h4.box (h'.ep,192)=some [.d (.int .i64 g.edges[i].parent),.d (.sl (g.edges[i].script.map Stp.enc))]:=by rw[al];simpa using be
 simp at az;simp[hE,ab,ac,b4,ay,hw];refine HL (xs:=t.1.map Zd) (ys:=[Zd (g.edges[i].parent)]) Bs (ax.qW sI).next rfl dE dE sI sO λc3 h5 aw ar ak aj=>?_;obtain⟨au,aq⟩:=aj 2 c2 _ (a1.qW sI).next ap.symm;have b5:h5.box (0,32)=some [.d (.sl (g.base.tables.map Tbl.enc)),.d (.sl (g.base.fks.map Fk.enc)),.d (.sl (g.base.cons.map Cons.enc)),.d (.sl (g.edges.map Edg.enc))]:=by rw[ar];simpa using b4
 simp at ak;simp[hE,ab,ac,b5,hw];exact Ze.of (t.1++[g.edges[i].parent],t.2++[⟨(i:Int),true⟩]) ⟨⟨c3,c2,by simp[hE],b5,oM,by simpa using aw,by simpa using au,aq⟩,hm⟩
 try simp[hE,ab,ac,hw]
 exact Ze.of t ⟨⟨cq,co,by simp[hE],by first|exact bg|simpa using bg,by first|exact ad|(simp<;>omega)|omega,gQ.next,gO.next,ae⟩,hm⟩;rw[hp] at hm;simp[hE,ab,ac,be,af,ag,ah,hw,hp];exact Ze.of t ⟨⟨cq,co,by simp[hE],by first|exact bg|simpa using bg,by first|exact ad|(simp<;>omega)|omega,gQ,gO,ae⟩,hm⟩;rintro t e h' ⟨cq,co,hE,bg,ad,gQ,gO,ae⟩ hm;have hw:IntKind.i64.wrap (k+1)=k+1:=Y5 _ oM;simp[hE,hw];exact Ze.of (t.1,t.2,k+1) ⟨⟨cq,co,by simp[hE],bg,ad,gQ,gO,ae,sO⟩,hm⟩;obtain rfl:=Zh hm;simp[ZG,Zz,ZL,ZR,hE];exact⟨.data gO.toD,.data rfl,trivial⟩
theorem Hh{x:C}{k}{n:Int}(h:x.toD=some (.int k n)):x=.d (.int k n):=by
 cases x<;>simp[C.toD] at h;rw[h]
theorem JM{x:C}{b}(h:x.toD=some (.bool b)):x=.b b:=by
 cases x<;>simp[C.toD] at h;rw[h]
structure PSt where
 insts:List (List Rel)
 comps:List (List (List Rel))
 errs:List Int
 reached:List Bool
def PSt.rows(s:PSt)(ci cc ce cr:C):List (C×List D):=[(ci,s.insts.map Wb),(cc,s.comps.map VB),(ce,s.errs.map λz=>.int .i64 z),(cr,s.reached.map D.bool)]
def Ku(b:Bool)(S:Sch)(steps:List Stp)(x:List Rel)(c:List (List Rel)):Option (List Rel×List (List Rel)×Int):=bif b then Ab S steps x c else Ac S steps x c
def Fy{ρ:Type}(aa:List Sch)(ab:Edg)(ac:Hop)(n f:Int)(s:PSt)(next:PSt->Option ρ):Option ρ:=
 Z7 s.reached n λrn=>bif !rn then next s else Z7 s.errs n λen=>bif en !=0 then next s else Zp (0<=f/\f<s.reached.length/\f<s.errs.length)<|
  Z7 aa ab.parent λad=>Z7 s.insts n λinst=>Z7 s.comps ac.edge λcm=>Z1 (Ku ac.back ad ab.script inst cm) λr=>
   bif r.2.2==0 then Zp (f<s.insts.length) (next ⟨s.insts.set f.toNat r.1,s.comps.set ac.edge.toNat r.2.1,s.errs.set f.toNat r.2.2,s.reached.set f.toNat true⟩)
   else next ⟨s.insts,s.comps,s.errs.set f.toNat r.2.2,s.reached.set f.toNat true⟩
def E9(g:Gr)(aa:List Sch)(ae:List (List Rel))(ad:List (List (List Rel)))(v:Int):Option PSt:=
 Zp (0<=v/\v<aa.length)<|Z1 (Eb g v) λT=>
 Zc (λ(_:Nat) (ab:Hop) (s:PSt) next=>Z7 g.edges ab.edge λac=>Zp (W9 (ab.edge+1))<|
  Fy aa ac ab (bif ab.back then ab.edge+1 else ac.parent) (bif ab.back then ac.parent else ab.edge+1) s next) (λs=>some s) T.1 0
  ⟨ae,ad,List.replicate aa.length 0,(List.replicate aa.length false).set v.toNat true⟩
theorem Re(h)(g:Gr)(schemas)(ak)(ag)(v:Int)(ci cc)(r)(hm:Is (E9 g schemas ak ag v) r)(mC:MC h [(ci,ak.map Wb),(cc,ag.map VB)])(K)
  (hK:∀ce cr h',MC h' (r.rows ci cc ce cr)->Z0 h h' (labs ci++labs cc)->(∀k∈labs ce++labs cr,h.ep<=k.1)->K (.tup [.one ce,.one cr]) h'):
  Z3 prog 72 [.agg (g.enc.map C.d),.l (schemas.map Sch.enc),.agg [ci,cc],.i v] h K:=by
 refine Z3.ov Tryz.func72 ?_;unfold E9 at hm;obtain⟨⟨el,ez⟩,hm⟩:=hm.chk;obtain⟨T,hT,hm⟩:=hm.bind;have mk:∀(H:HS) (le lr:Z2),schemas.length<=2097152->H.box le=some (List.replicate schemas.length (.i 0))->H.box lr=some (List.replicate schemas.length (.b false))->le≠lr->h.ep+1<le.1->le.1<H.ep->h.ep+1<lr.1->lr.1<H.ep->Z0 h H []->
   MC H ((⟨ak,ag,List.replicate schemas.length 0,List.replicate schemas.length false⟩:PSt).rows ci cc (.mrow le 0 schemas.length schemas.length) (.mrow lr 0 schemas.length schemas.length)):=by
  intro H le lr hn b1 b2 hne g1 g2 g3 g4 hs;have m2:=mC.new hs;have hlt:=mC.lt;have hd:=mC.dis;simp only[YB,Xv,Ym] at hd;have hi:∀k∈labs ci,k.1<h.ep:=hlt _ (Y6 ..);have hc:∀k∈labs cc,k.1<h.ep:=hlt _ (Yc _ (Y6 ..));have c1:=Wd.make b1 (d:=.int .i64 0) rfl hn;have c2:=Wd.make b2 (d:=.bool false) rfl hn;refine⟨λq hq=>?_,λq hq k hk=>?_,?_⟩;simp only[PSt.rows,XD,Y9,Xj,or_false] at hq;rcases hq with rfl|rfl|rfl|rfl;exact m2.row _ (Y6 ..);exact m2.row _ (Yc _ (Y6 ..));exact c1;exact c2;have eg:=hs.1;simp only[PSt.rows,XD,Y9,Xj,or_false] at hq;rcases hq with rfl|rfl|rfl|rfl
  have:=hi k hk;omega
  have:=hc k hk;omega
  simp only[labs,Yu] at hk;rw[hk];exact g2;simp only[labs,Yu] at hk;rw[hk];exact g4;simp only[PSt.rows,YB,Xv,Ym,labs];have hn:=Yg.1 hd;refine Yg.2 ⟨hn.1,Yg.2 ⟨hn.2.1,by simp[hne],λa ha b hb he=>?_⟩,λa ha b hb he=>?_⟩;subst he
  have:=hc a ha
  simp at hb;rcases hb with rfl|rfl<;>omega;subst he
  have:=hi a ha
  simp at hb;rcases hb with hb|rfl|rfl;exact hn.2.2 a ha a hb rfl;omega;omega
 simp;refine Z4.cut (Plan.qB [0,1,3,4] (.two 2 5 (Plan.qB [6,5,7] .done) (Plan.qB [2,6,7] .done))) follows kR (λe1 h1=>∃ce cr,En e1 118 [(1,.l (schemas.map Sch.enc)),(3,.i v),(4,.p (h.ep,64)),(6,.p (h.ep+1,96)),(8,.one ce),(9,.one cr)]/\
  h1.box (h.ep,64)=some (g.enc.map C.d)/\h1.box (h.ep+1,96)=some [ci,cc]/\MC h1 ((⟨ak,ag,List.replicate schemas.length 0,List.replicate schemas.length false⟩:PSt).rows ci cc ce cr)/\Z0 h h1 []/\(∀k∈labs ce++labs cr,h.ep+1<k.1)/\h.ep+1<h1.ep) ?_ ?_
 simp;intro dz;refine⟨⟨oM,Zb.of ⟨.mrow (h.ep+1+1,368) 0 schemas.length schemas.length,.mrow (h.ep+1+1+1,416) 0 schemas.length schemas.length,sI,sI,sI,mk _ (h.ep+1+1,368) (h.ep+1+1+1,416) dz sI sI sI sI sI sI sI ?_,?_,by simp[labs],sI⟩⟩,?_⟩;exact sm;exact sm;refine⟨oM,Zb.of ⟨.mrow (h.ep+1+1+1,368) 0 schemas.length schemas.length,.mrow (h.ep+1+1,416) 0 schemas.length schemas.length,sI,sI,sI,mk _ (h.ep+1+1+1,368) (h.ep+1+1,416) dz sI sI sI sI sI sI sI ?_,?_,by simp[labs],sI⟩⟩;exact sm;exact sm;rintro e1 h1 ⟨ce,cr,hE,bg,bd,mP,ef,bz,eu⟩;have ek:v.toNat<(List.map D.bool (List.replicate schemas.length false)).length:=sO
 obtain⟨lr,cap,bs,ap,ar,ed,dg,-,d1⟩:=mP.at (j:=3) rfl ek;simp only[Yh,X1] at ap;have ey:=Zm dg;have dy:v.toNat<schemas.length:=oM
 have d7:((h.ep,64)=lr)=False:=eq_false (by rintro rfl;have h9:h.ep+1<h.ep:=bz (h.ep,64) (by rw[ap];simp[labs]);omega);have em:((h.ep+1,96)=lr)=False:=eq_false (by rintro rfl;have h9:h.ep+1<h.ep+1:=bz (h.ep+1,96) (by rw[ap];simp[labs]);omega);have m1:=d1 h1 _ (.b true) (.bool true) mP rfl rfl;rw[ap] at hE;simp only[Gr.enc,Yb,Yd] at bg;simp[hE,el,dy,ar,ed,bg,d7];refine Zq (Rp g v T hT) sI ?_;simp[hE];intro ex;have d0:∀k∈labs ci,k.1<h.ep:=mC.lt _ (Y6 ..);have d5:∀k∈labs cc,k.1<h.ep:=mC.lt _ (Yc _ (Y6 ..));have d6:∀k∈labs ce,h.ep+1<k.1:=λk hk=>bz k (by simp[hk]);have cj:∀k∈labs cr,h.ep+1<k.1:=λk hk=>bz k (by simp[hk]);have ej:MC (h1.qA lr (Zg bs v.toNat [.b true])) ((⟨ak,ag,List.replicate schemas.length 0,(List.replicate schemas.length false).set v.toNat true⟩:PSt).rows ci cc ce cr):=by simpa[PSt.rows,hE] using m1
 rw[<-ap] at hE|-;refine Z4.for (xs:=T.1) (λi s E h'=>Ek e1 E [(36,.l (T.1.map Hop.enc)),(37,.i (T.1.length:Int)),(38,.i (i:Int))] [1,4,6,8,9]/\
  h'.box (h.ep,64)=some (g.enc.map C.d)/\h'.box (h.ep+1,96)=some [ci,cc]/\MC h' (s.rows ci cc ce cr)/\Z0 h h' (labs ci++labs cc)/\h.ep+1<h'.ep) hm
  ⟨by simp[hE],by simp[d7,bg],by simp[em,bd],ej.new sm,?_,sO⟩ ?_ ?_
 refine(Z0.qA (ef.mn) (.inr ?_)).next
 have:=cj lr (by rw[ap];simp[labs])
 omega
 .rintro i s e h' ⟨hF,bg,bd,mP,hs,eg⟩ hlt hm;have hE:=hF.an hE;have hw:IntKind.i64.wrap ((i:Int)+1)=(i:Int)+1:=Y5 _ oM;obtain⟨aa,bt,dl,hm⟩:=hm.get;obtain⟨d9,hm⟩:=hm.chk;have d8:=Kg d9;simp only[Gr.enc,Yb,Yd] at bg;simp[hE,hlt,bg,bt,dl];refine Z4.cu [0,1,2,3,4,5,6] (λE h2=>Ek e E [(13,.p (h'.ep,208)),(14,.p (h'.ep+1,224))] [1,4,6,8,9,36,37,38]/\h2.box (h'.ep,208)=some [.i T.1[i].edge,.b T.1[i].back]/\h2.box (h'.ep+1,224)=some [.i aa.parent,.l (aa.script.map Stp.enc)]/\E.get 15=.i aa.parent/\E.get 16=.i (T.1[i].edge+1)/\Z0 h' h2 []/\h'.ep+1<h2.ep) ?_ ?_;simp[hE,d8];refine Zb.of ⟨by simp[hE],sI,sI,sI,sI,?_,sI⟩;exact sm;rintro E2 h2 ⟨hF,am,d3,af,ad,bm,ew⟩;have hE:=hF.an hE;have ab:=mP.new bm;have bo:=(bm.2 (h.ep,64) sO sI).trans bg;have ay:=(bm.2 (h.ep+1,96) sO sI).trans bd;have hs2:=hs.trans (bm.mn);cases hbk:T.1[i].back with
  |false=>
    rw[hbk] at hm am;simp only[cond_false] at hm;simp[hE,af,am];unfold Fy at hm;obtain⟨rn,bn,bp,hm⟩:=hm.get;have bv:(aa.parent).toNat<(s.reached.map D.bool).length:=by simpa using(Y0.1 bp).1
    obtain⟨lr,capr,br,ap,ar,_,dg,⟨xr,df,cv⟩,dt⟩:=ab.at (j:=3) rfl bv;simp only[Y8,bp,Yj,Ya] at cv;obtain rfl:=JM cv;have b0:cr=.mrow lr 0 s.reached.length capr:=by simpa using ap
    subst b0;have c6:(aa.parent).toNat<s.reached.length:=by simpa using bv
    simp[hE,af,bn,c6,ar,df];cases rn with|false=>?_|true=>?_;simp only[Xr,cond_true] at hm;simp[hE,af,hw];exact Ze.of s ⟨⟨by simp[hE],by simpa using bo,ay,ab,hs2,oM⟩,hm⟩;simp only[Xf,cond_false] at hm;obtain⟨eh,-,cy,hm⟩:=hm.get;have hne:(aa.parent).toNat < (s.errs.map λz=>D.int .i64 z).length:=by simpa using (Y0.1 cy).1
    obtain⟨le,cape,be,b9,bl,_,dk,⟨xe,dm,b6⟩,dx⟩:=ab.at (j:=2) rfl hne;simp only[Y8,cy,Yj,Ya] at b6;obtain rfl:=Hh b6;have b8:ce=.mrow le 0 s.errs.length cape:=by simpa using b9
    subst b8;have hne':(aa.parent).toNat < s.errs.length:=by simpa using hne
    simp[hE,af,bn,hne',bl,dm];refine Zy hm ?_ ?_<;>clear hm<;>intro _ hm;simp[hE,af,hw];exact Ze.of s ⟨⟨by simp[hE],by simpa using bo,ay,ab,hs2,oM⟩,hm⟩;obtain⟨⟨bh,et,eb⟩,hm⟩:=hm.chk;obtain⟨dq,dv,b4,hm⟩:=hm.get;obtain⟨inst,-,cz,hm⟩:=hm.get;obtain⟨cm,-,cd,hm⟩:=hm.get;obtain⟨r2,bu,hm⟩:=hm.bind;rw[hbk] at bu;have cq:(T.1[i].edge+1).toNat < s.reached.length:=oM
    have c7:(T.1[i].edge+1).toNat < s.errs.length:=oM;have cl:(aa.parent).toNat < s.insts.length:=(Y0.1 cz).1;have ba:T.1[i].edge.toNat < s.comps.length:=(Y0.1 cd).1;obtain⟨ei,dc,ea,ac,c8,bk,-,-,a7⟩:=ab.at (j:=3) (i:=(T.1[i].edge+1).toNat) rfl (by simpa using cq);simp at ac;obtain⟨rfl,rfl⟩:=ac;obtain rfl:=Option.some.inj (ar.symm.trans c8);obtain⟨ec,dr,eo,ac,cn,bf,-,-,au⟩:=ab.at (j:=2) (i:=(T.1[i].edge+1).toNat) rfl (by simpa using c7);simp at ac;obtain⟨rfl,rfl⟩:=ac;obtain rfl:=Option.some.inj (bl.symm.trans cn);obtain⟨li,capi,bi,ac,az,_,dp,⟨xi,du,ca⟩,-⟩:=ab.at (j:=0) (i:=(aa.parent).toNat) rfl (by simpa using cl);have aj:ci=.mrow li 0 s.insts.length capi:=by simpa using ac
    subst aj;simp only[Y8,cz,Yj,Ya] at ca;obtain⟨lc,capc,bc,ac,bq,cp,dj,⟨xc,dh,da⟩,bj⟩:=ab.at (j:=1) (i:=T.1[i].edge.toNat) rfl (by simpa using ba);have aj:cc=.mrow lc 0 s.comps.length capc:=by simpa using ac
    subst aj;simp only[Y8,cd,Yj,Ya] at da;have aw:lr.1 < h'.ep:=mP.lt _ (Yc _ (Yc _ (Yc _ (Y6 ..)))) lr (by simp[labs]);have cw:le.1 < h'.ep:=mP.lt _ (Yc _ (Yc _ (Y6 ..))) le (by simp[labs]);have q1:=ZO aw;have q2:=ZO cw;have b5:h.ep+1 < lr.1:=cj lr (by simp[labs]);have b3:h.ep+1 < le.1:=d6 le (by simp[labs]);have q3:((h.ep+1,96)=lr)=False:=eq_false (by rintro rfl;simp at b5);have q4:((h.ep+1,96)=le)=False:=eq_false (by rintro rfl;simp at b3);have q5:(li=lr)=False:=eq_false (λhq=>U2 ab.dis (k1:=0) (k2:=3) rfl rfl dE li (by simp[labs]) (by simp[labs,hq]));have q6:(lc=lr)=False:=eq_false (λhq=>U2 ab.dis (k1:=1) (k2:=3) rfl rfl dE lc (by simp[labs]) (by simp[labs,hq]));have q7:(le=lr)=False:=eq_false (λhq=>U2 ab.dis (k1:=2) (k2:=3) rfl rfl dE le (by simp[labs]) (by simp[labs,hq]));have q8:(li=le)=False:=eq_false (λhq=>U2 ab.dis (k1:=0) (k2:=2) rfl rfl dE li (by simp[labs]) (by simp[labs,hq]));have q9:(lc=le)=False:=eq_false (λhq=>U2 ab.dis (k1:=1) (k2:=2) rfl rfl dE lc (by simp[labs]) (by simp[labs,hq]));have dw:(lc=li)=False:=eq_false (λhq=>U2 ab.dis (k1:=1) (k2:=0) rfl rfl dE lc (by simp[labs]) (by simp[labs,hq]));have m3:=a7 h2 _ (.b true) (.bool true) ab rfl rfl;simp[hE,af,ad,am,bh,cq,ar,bk,q1];refine Z4.cu [0,1,2,3,4,5,6,7,8,9,10,11,12,13,14,15,16,17,18,19,20,21,22,23,24,25,26] (λE h4=>Ek E2 E [(8,.one (.mrow le 0 s.errs.length cape)),(9,.one (.mrow lr 0 s.reached.length capr))] [1,4,6,36,37,38] /\
     E.get 13=.p (h'.ep,208)/\E.get 16=.i (T.1[i].edge+1)/\E.get 18=.l (r2.1.map Rel.enc)/\E.get 19=.l (r2.2.1.map (Z6 Rel.enc))/\E.get 20=.i r2.2.2/\Z0 (h2.qA lr (Zg br (T.1[i].edge+1).toNat [.b true])) h4 []) ?_ ?_
    simp[hE,af,am,d3,dv,b4,cl,bt,ba,az,bq,du,dh,q1,q3,q5,q6,ay];refine Zq (LS dq aa.script inst cm r2 bu) (by simp[W1,V.toA,(Do ca).2.2,(Do da).2.2]) ?_;simp[hE]
    try refine⟨λ_ _ x=>x,?_⟩
    refine Zb.of ⟨by simp[hE],by simp[hE],by simp[ad],sI,sI,sI,?_⟩;exact sm;rintro E3 h4 ⟨hF,de,ad,dd,dn,a1,ae⟩;have hE:=hF.an hE;have m4:=m3.new ae;have m5:=au h4 _ (.i r2.2.2) (.int .i64 r2.2.2) m4 rfl rfl;have old:∀ k:Z2,k.1 < h2.ep->k≠lr->h4.box k=h2.box k:=λk hk hq=>by
     have:=ae.2 k (by simpa using hk) sI
     rw[this];simp[hq]
    have cx:=(old le dk (by simpa using q7)).trans bl;have cb:=(old li dp (by simpa using q5)).trans az;have ck:=(old lc dj (by simpa using q6)).trans bq;have bw:=(old (h'.ep,208) (by show h'.ep < h2.ep;omega) (by intro hq;have h9:=aw;rw[<- hq] at h9;exact absurd h9 (Nat.lt_irrefl _))).trans am;have bb:=(old (h.ep+1,96) (by show h.ep+1 < h2.ep;omega) (λhq=>by rw[q3] at hq;exact hq)).trans ay;have cf:=(old (h.ep,64) (by show h.ep < h2.ep;omega) (by intro hq;have h9:=b5;rw[<- hq] at h9;have h9:h.ep+1 < h.ep:=h9;omega)).trans bo;have ax:((h.ep,64)=le)=False:=eq_false (by rintro rfl;have h9:h.ep+1 < h.ep:=b3;omega);have cg:=ae.1;simp at cg;have ch:Z0 h (h4.qA le (Zg be (T.1[i].edge+1).toNat [.i r2.2.2])) (labs (.mrow li 0 s.insts.length capi)++labs (.mrow lc 0 s.comps.length capc)):=
     Z0.qA (Z0.trans (Z0.qA hs2 (.inr oM)) (ae.mn)) (.inr oM)
    simp[hE,ad,a1,bh,c7,cx,bf];refine Zy hm ?_ ?_<;>clear hm<;>intro _ hm
    .obtain⟨d4,hm⟩:=hm.chk;have hfi:(T.1[i].edge+1).toNat < s.insts.length:=oM
     obtain⟨en,di,ee,ac,b7,a8,-,-,aq⟩:=ab.at (j:=0) (i:=(T.1[i].edge+1).toNat) rfl (by simpa using hfi);simp at ac;obtain⟨rfl,rfl⟩:=ac;obtain rfl:=Option.some.inj (az.symm.trans b7);have m6:=aq _ _ (.d (Wb r2.1)) (Wb r2.1) m5 rfl rfl;have m7:=bj _ _ (.d (VB r2.2.1)) (VB r2.2.1) m6 rfl rfl;have al:li.1 < h.ep:=d0 li (by simp[labs]);have ah:lc.1 < h.ep:=d5 lc (by simp[labs]);have p1:=ZO al;have p2:=ZO ah;have p3:=Zm al;have p4:=Zm ah;have p5:((h'.ep,208)=li)=False:=eq_false (by rintro rfl;simp at al;omega);have p6:((h'.ep,208)=lc)=False:=eq_false (by rintro rfl;simp at ah;omega);simp[hE,ad,a1];refine Z4.cut (Plan.qB [0,1,2,3,5,7,8,9] (.three 4 6 10 (Plan.qB [] (.two 6 10 (Plan.qB [10,11,12] .done) (Plan.qB [6,11,12] .done))) (Plan.qB [] (.two 4 10 (Plan.qB [10,11,12] .done) (Plan.qB [4,11,12] .done))) (Plan.qB [4,6,11,12] .done))) follows kR (λE h5=>Ek E3 E [] [1,4,6,8,9,36,37,38] /\
      h5=((h4.qA le (Zg be (T.1[i].edge+1).toNat [.i r2.2.2])).qA li (Zg bi (T.1[i].edge+1).toNat [.d (Wb r2.1)])).qA lc (Zg bc T.1[i].edge.toNat [.d (VB r2.2.1)])) ?_ ?_
     .simp[hE,de,ad,dd,dn,bh,hfi,bt,ba,cb,ck,a8,cp,bw,bb,q2,q4,q8,q9,dw,p1,p5]
      repeat' with_reducible refine And.intro ?_ ?_
      all_goals first
       | (refine Zb.of ⟨by simp[hE],rfl⟩)
     rintro E4 h5 ⟨hF,rfl⟩;have hE:=hF.an hE;simp[hE,hw];refine Ze.of _ ⟨⟨by simp[hE],?_,?_,?_,?_,?_⟩,hm⟩;simp[p1,p2,ax];simpa using cf;simp[p1,p2,q4];exact bb;simpa[PSt.rows,YD] using m7;exact (ch.qA (.inl (by simp[labs]))).qA (.inl (by simp[labs]));simp;omega
    simp[hE,ad,a1,hw];refine Ze.of _ ⟨⟨by simp[hE],?_,?_,?_,ch,?_⟩,hm⟩;simp[ax];simpa using cf;simp[q4];exact bb;simpa[PSt.rows,YD] using m5;simp;omega
  |true=>?_
  rw[hbk] at hm am;simp only[cond_true] at hm;simp[hE,af,ad,am];unfold Fy at hm;obtain⟨rn,bn,bp,hm⟩:=hm.get;have bv:(T.1[i].edge+1).toNat < (s.reached.map D.bool).length:=by simpa using (Y0.1 bp).1
  obtain⟨lr,capr,br,ap,ar,_,dg,⟨xr,df,cv⟩,dt⟩:=ab.at (j:=3) rfl bv;simp only[Y8,bp,Yj,Ya] at cv;obtain rfl:=JM cv;have b0:cr=.mrow lr 0 s.reached.length capr:=by simpa using ap
  subst b0;have c6:(T.1[i].edge+1).toNat < s.reached.length:=by simpa using bv
  simp[hE,af,ad,bn,c6,ar,df];cases rn with|false=>?_|true=>?_;simp only[Xr,cond_true] at hm;simp[hE,af,ad,hw];exact Ze.of s ⟨⟨by simp[hE],by simpa using bo,ay,ab,hs2,oM⟩,hm⟩;simp only[Xf,cond_false] at hm;obtain⟨eh,-,cy,hm⟩:=hm.get;have hne:(T.1[i].edge+1).toNat < (s.errs.map λz=>D.int .i64 z).length:=by simpa using (Y0.1 cy).1
  obtain⟨le,cape,be,b9,bl,_,dk,⟨xe,dm,b6⟩,dx⟩:=ab.at (j:=2) rfl hne;simp only[Y8,cy,Yj,Ya] at b6;obtain rfl:=Hh b6;have b8:ce=.mrow le 0 s.errs.length cape:=by simpa using b9
  subst b8;have hne':(T.1[i].edge+1).toNat < s.errs.length:=by simpa using hne
  simp[hE,af,ad,bn,hne',bl,dm];refine Zy hm ?_ ?_<;>clear hm<;>intro _ hm;simp[hE,af,ad,hw];exact Ze.of s ⟨⟨by simp[hE],by simpa using bo,ay,ab,hs2,oM⟩,hm⟩;obtain⟨⟨bh,et,eb⟩,hm⟩:=hm.chk;obtain⟨dq,dv,b4,hm⟩:=hm.get;obtain⟨inst,-,cz,hm⟩:=hm.get;obtain⟨cm,-,cd,hm⟩:=hm.get;obtain⟨r2,bu,hm⟩:=hm.bind;rw[hbk] at bu;have cq:(aa.parent).toNat < s.reached.length:=oM
  have c7:(aa.parent).toNat < s.errs.length:=oM;have cl:(T.1[i].edge+1).toNat < s.insts.length:=(Y0.1 cz).1;have ba:T.1[i].edge.toNat < s.comps.length:=(Y0.1 cd).1;obtain⟨ei,dc,ea,ac,c8,bk,-,-,a7⟩:=ab.at (j:=3) (i:=(aa.parent).toNat) rfl (by simpa using cq);simp at ac;obtain⟨rfl,rfl⟩:=ac;obtain rfl:=Option.some.inj (ar.symm.trans c8);obtain⟨ec,dr,eo,ac,cn,bf,-,-,au⟩:=ab.at (j:=2) (i:=(aa.parent).toNat) rfl (by simpa using c7);simp at ac;obtain⟨rfl,rfl⟩:=ac;obtain rfl:=Option.some.inj (bl.symm.trans cn);obtain⟨li,capi,bi,ac,az,_,dp,⟨xi,du,ca⟩,-⟩:=ab.at (j:=0) (i:=(T.1[i].edge+1).toNat) rfl (by simpa using cl);have aj:ci=.mrow li 0 s.insts.length capi:=by simpa using ac
  subst aj;simp only[Y8,cz,Yj,Ya] at ca;obtain⟨lc,capc,bc,ac,bq,cp,dj,⟨xc,dh,da⟩,bj⟩:=ab.at (j:=1) (i:=T.1[i].edge.toNat) rfl (by simpa using ba);have aj:cc=.mrow lc 0 s.comps.length capc:=by simpa using ac
  subst aj;simp only[Y8,cd,Yj,Ya] at da;have aw:lr.1 < h'.ep:=mP.lt _ (Yc _ (Yc _ (Yc _ (Y6 ..)))) lr (by simp[labs]);have cw:le.1 < h'.ep:=mP.lt _ (Yc _ (Yc _ (Y6 ..))) le (by simp[labs]);have q1:=ZO aw;have q2:=ZO cw;have b5:h.ep+1 < lr.1:=cj lr (by simp[labs]);have b3:h.ep+1 < le.1:=d6 le (by simp[labs]);have q3:((h.ep+1,96)=lr)=False:=eq_false (by rintro rfl;simp at b5);have q4:((h.ep+1,96)=le)=False:=eq_false (by rintro rfl;simp at b3);have q5:(li=lr)=False:=eq_false (λhq=>U2 ab.dis (k1:=0) (k2:=3) rfl rfl dE li (by simp[labs]) (by simp[labs,hq]));have q6:(lc=lr)=False:=eq_false (λhq=>U2 ab.dis (k1:=1) (k2:=3) rfl rfl dE lc (by simp[labs]) (by simp[labs,hq]));have q7:(le=lr)=False:=eq_false (λhq=>U2 ab.dis (k1:=2) (k2:=3) rfl rfl dE le (by simp[labs]) (by simp[labs,hq]));have q8:(li=le)=False:=eq_false (λhq=>U2 ab.dis (k1:=0) (k2:=2) rfl rfl dE li (by simp[labs]) (by simp[labs,hq]));have q9:(lc=le)=False:=eq_false (λhq=>U2 ab.dis (k1:=1) (k2:=2) rfl rfl dE lc (by simp[labs]) (by simp[labs,hq]));have dw:(lc=li)=False:=eq_false (λhq=>U2 ab.dis (k1:=1) (k2:=0) rfl rfl dE lc (by simp[labs]) (by simp[labs,hq]));have m3:=a7 h2 _ (.b true) (.bool true) ab rfl rfl;simp[hE,af,ad,am,bh,cq,ar,bk,q1];refine Z4.cu [0,1,2,3,4,5,6,7,8,9,10,11,12,13,14,15,16,17,18,19,20,21,22,23,24,25,26] (λE h4=>Ek E2 E [(8,.one (.mrow le 0 s.errs.length cape)),(9,.one (.mrow lr 0 s.reached.length capr))] [1,4,6,36,37,38] /\
   E.get 13=.p (h'.ep,208)/\E.get 16=.i (aa.parent)/\E.get 18=.l (r2.1.map Rel.enc)/\E.get 19=.l (r2.2.1.map (Z6 Rel.enc))/\E.get 20=.i r2.2.2/\Z0 (h2.qA lr (Zg br (aa.parent).toNat [.b true])) h4 []) ?_ ?_
  simp[hE,am,d3,dv,b4,bn,cl,bt,ba,az,bq,du,dh,q1,q3,q5,q6,ay];refine Zq (LJ dq aa.script inst cm r2 bu) (by simp[W1,V.toA,(Do ca).2.2,(Do da).2.2]) ?_;simp[hE]
  try refine⟨λ_ _ x=>x,?_⟩
  refine Zb.of ⟨by simp[hE],by simp[hE],sI,sI,sI,sI,?_⟩;exact sm;rintro E3 h4 ⟨hF,de,ad,dd,dn,a1,ae⟩;have hE:=hF.an hE;have m4:=m3.new ae;have m5:=au h4 _ (.i r2.2.2) (.int .i64 r2.2.2) m4 rfl rfl;have old:∀ k:Z2,k.1 < h2.ep->k≠lr->h4.box k=h2.box k:=λk hk hq=>by
   have:=ae.2 k (by simpa using hk) sI
   rw[this];simp[hq]
  have cx:=(old le dk (by simpa using q7)).trans bl;have cb:=(old li dp (by simpa using q5)).trans az;have ck:=(old lc dj (by simpa using q6)).trans bq;have bw:=(old (h'.ep,208) (by show h'.ep < h2.ep;omega) (by intro hq;have h9:=aw;rw[<- hq] at h9;exact absurd h9 (Nat.lt_irrefl _))).trans am;have bb:=(old (h.ep+1,96) (by show h.ep+1 < h2.ep;omega) (λhq=>by rw[q3] at hq;exact hq)).trans ay;have cf:=(old (h.ep,64) (by show h.ep < h2.ep;omega) (by intro hq;have h9:=b5;rw[<- hq] at h9;have h9:h.ep+1 < h.ep:=h9;omega)).trans bo;have ax:((h.ep,64)=le)=False:=eq_false (by rintro rfl;have h9:h.ep+1 < h.ep:=b3;omega);have cg:=ae.1;simp at cg;have ch:Z0 h (h4.qA le (Zg be (aa.parent).toNat [.i r2.2.2])) (labs (.mrow li 0 s.insts.length capi)++labs (.mrow lc 0 s.comps.length capc)):=
   Z0.qA (Z0.trans (Z0.qA hs2 (.inr oM)) (ae.mn)) (.inr oM)
  simp[hE,ad,a1,bh,c7,cx,bf];refine Zy hm ?_ ?_<;>clear hm<;>intro _ hm
  .obtain⟨d4,hm⟩:=hm.chk;have hfi:(aa.parent).toNat < s.insts.length:=oM
   obtain⟨en,di,ee,ac,b7,a8,-,-,aq⟩:=ab.at (j:=0) (i:=(aa.parent).toNat) rfl (by simpa using hfi);simp at ac;obtain⟨rfl,rfl⟩:=ac;obtain rfl:=Option.some.inj (az.symm.trans b7);have m6:=aq _ _ (.d (Wb r2.1)) (Wb r2.1) m5 rfl rfl;have m7:=bj _ _ (.d (VB r2.2.1)) (VB r2.2.1) m6 rfl rfl;have al:li.1 < h.ep:=d0 li (by simp[labs]);have ah:lc.1 < h.ep:=d5 lc (by simp[labs]);have p1:=ZO al;have p2:=ZO ah;have p3:=Zm al;have p4:=Zm ah;have p5:((h'.ep,208)=li)=False:=eq_false (by rintro rfl;simp at al;omega);have p6:((h'.ep,208)=lc)=False:=eq_false (by rintro rfl;simp at ah;omega);simp[hE,ad,a1];refine Z4.cut (Plan.qB [0,1,2,3,5,7,8,9] (.three 4 6 10 (Plan.qB [] (.two 6 10 (Plan.qB [10,11,12] .done) (Plan.qB [6,11,12] .done))) (Plan.qB [] (.two 4 10 (Plan.qB [10,11,12] .done) (Plan.qB [4,11,12] .done))) (Plan.qB [4,6,11,12] .done))) follows kR (λE h5=>Ek E3 E [] [1,4,6,8,9,36,37,38] /\
    h5=((h4.qA le (Zg be (aa.parent).toNat [.i r2.2.2])).qA li (Zg bi (aa.parent).toNat [.d (Wb r2.1)])).qA lc (Zg bc T.1[i].edge.toNat [.d (VB r2.2.1)])) ?_ ?_
   .simp[hE,de,ad,dd,dn,bh,hfi,bt,ba,cb,ck,a8,cp,bw,bb,q2,q4,q8,q9,dw,p1,p5]
    repeat' with_reducible refine And.intro ?_ ?_
    all_goals first
     | (refine Zb.of ⟨by simp[hE],rfl⟩)
   rintro E4 h5 ⟨hF,rfl⟩;have hE:=hF.an hE;simp[hE,hw];refine Ze.of _ ⟨⟨by simp[hE],?_,?_,?_,?_,?_⟩,hm⟩;simp[p1,p2,ax];simpa using cf;simp[p1,p2,q4];exact bb;simpa[PSt.rows,YD] using m7;exact (ch.qA (.inl (by simp[labs]))).qA (.inl (by simp[labs]));simp;omega
  simp[hE,ad,a1,hw];refine Ze.of _ ⟨⟨by simp[hE],?_,?_,?_,ch,?_⟩,hm⟩;simp[ax];simpa using cf;simp[q4];exact bb;simpa[PSt.rows,YD] using m5;simp;omega
 rintro s e h' ⟨hF,_,_,mP,hs,_⟩ hm;have hE:=hF.an hE;obtain rfl:=Zh hm;simp[hE,ZG,Zz,ZL,ZR];exact hK ce cr h' mP hs λk hk=>by have:=bz k hk;omega
def Gi(row:List GV)(k0:Cons):Option Bool:=
 Z1 (BR k0 row) λv1=>some !v1
instance R7(row:List GV)(k0:Cons):Con (Gi row k0) prog 101 [.one (.d (.sl (row.map GV.enc))),.one (.rp [.str k0.table,.int .i64 k0.left,.str k0.op,.int .i64 k0.right,.int .i64 k0.value.kind,.int .i64 k0.value.int,.str k0.value.text])] (λr=>.one (.d (.bool r))):=by unfold Gi;exact go 8 Tryz.func101
instance Zav(k0:Cons):ConF (λx=>Gi x k0) prog (λx=>.one (.d (.sl (x.map GV.enc)))) (λr=>.one (.d (.bool r))) 101 [[.str k0.table,.int .i64 k0.left,.str k0.op,.int .i64 k0.right,.int .i64 k0.value.kind,.int .i64 k0.value.int,.str k0.value.text]]:=⟨λx=>(R7 x k0)⟩
def Gj(row:List GV)(k0:Sch)(k1:List Rel)(k2:Fk):Option Bool:=
 Z1 (BQ k0 k1 k2 row) λv1=>some !v1
instance R8(row:List GV)(k0:Sch)(k1:List Rel)(k2:Fk):Con (Gj row k0 k1 k2) prog 99 [.one (.d (.sl (row.map GV.enc))),.one (.rp [.sl (k0.tables.map Tbl.enc),.sl (k0.fks.map Fk.enc),.sl (k0.cons.map Cons.enc)]),.one (.rp [.sl (k1.map Rel.enc)]),.one (.rp [.str k2.table,.sl (k2.cols.map Zd),.str k2.ref])] (λr=>.one (.d (.bool r))):=by unfold Gj;exact go 12 Tryz.func99
instance Zaw(k0:Sch)(k1:List Rel)(k2:Fk):ConF (λx=>Gj x k0 k1 k2) prog (λx=>.one (.d (.sl (x.map GV.enc)))) (λr=>.one (.d (.bool r))) 99 [[.sl (k0.tables.map Tbl.enc),.sl (k0.fks.map Fk.enc),.sl (k0.cons.map Cons.enc)],[.sl (k1.map Rel.enc)],[.str k2.table,.sl (k2.cols.map Zd),.str k2.ref]]:=⟨λx=>(R8 x k0 k1 k2)⟩
def Ba(s_:Sch)(inst:List Rel):Option Int:=
 Z1 (VH s_ inst) λv3=>bif (v3 !=0) then some v3 else Zc (λ(i6:Nat) (x6:Fk) (s6:Unit) next_6=>Z1 (WZ s_ inst x6.table) λv8=>Z1 (B5 v8.2 (λxa_=>Gj xa_ s_ inst x6)) λv10=>bif v10 then some 10 else next_6 ()) (λ(s6:Unit)=>Zc (λ(i13:Nat) (x13:Cons) (s13:Unit) next_13=>Z1 (WZ s_ inst x13.table) λv15=>Z1 (B5 v15.2 (λxa_=>Gi xa_ x13)) λv17=>bif v17 then some 11 else next_13 ()) (λ(s13:Unit)=>some 0) s_.cons 0 ()) s_.fks 0 ()
instance Rr(s_:Sch)(inst:List Rel):Con (Ba s_ inst) prog 64 [.agg s_.enc,.one (.d (.sl (inst.map Rel.enc)))] (λr=>.one (.d (.int .i64 r))):=by unfold Ba;have l1:LH (σ:=Unit) 23 [2,3,21,22] []:=.intro;have l2:LH (σ:=Unit) 42 [2,3,40,41] []:=.intro;exact go 58 Tryz.func64
instance Zbv(s_:Sch)(script:List Stp)(source:List Rel)(comps:List (List Rel)):Con (Ac s_ script source comps) prog 103 [.agg s_.enc,.one (.d (.sl (script.map Stp.enc))),.one (.d (.sl (source.map Rel.enc))),.one (.d (.sl (comps.map (Z6 Rel.enc))))] (λr=>.tup [.one (.d (.sl (r.1.map Rel.enc))),.one (.d (.sl (r.2.1.map (Z6 Rel.enc)))),.one (.d (.int .i64 r.2.2))]):=⟨λr hm=>LS s_ script source comps r hm⟩
instance Zbp(s_:Sch)(script:List Stp)(target:List Rel)(comps:List (List Rel)):Con (Ab s_ script target comps) prog 104 [.agg s_.enc,.one (.d (.sl (script.map Stp.enc))),.one (.d (.sl (target.map Rel.enc))),.one (.d (.sl (comps.map (Z6 Rel.enc))))] (λr=>.tup [.one (.d (.sl (r.1.map Rel.enc))),.one (.d (.sl (r.2.1.map (Z6 Rel.enc)))),.one (.d (.int .i64 r.2.2))]):=⟨λr hm=>LJ s_ script target comps r hm⟩
def G0(s1:List (List Rel))(s2:List (List Rel))(eq:(List Rel)->(List Rel)->Option Bool):Option Bool:=
 bif ((s1.length:Int) !=(s2.length:Int)) then some false else Zc (λ(i5:Nat) (x5:List Rel) (s5:Unit) next_5=>Z7 s2 (i5:Int) λx6=>Z1 (eq x5 x6) λv7=>bif !v7 then some false else next_5 ()) (λ(s5:Unit)=>some true) s1 0 ()
instance Z9y(s1:List (List Rel))(s2:List (List Rel))(eq:(List Rel)->(List Rel)->Option Bool){g:FuncId}{caps:List (List D)}[ConG eq prog (λx=>.one (.d (.sl (x.map Rel.enc)))) (λx=>.one (.d (.sl (x.map Rel.enc)))) (λv=>.one (.d (.bool v))) g caps]:Con (G0 s1 s2 eq) prog 41 [.one (.d (.sl (s1.map (Z6 Rel.enc)))),.one (.d (.sl (s2.map (Z6 Rel.enc)))),.one (.fn g caps)] (λr=>.one (.d (.bool r))):=by unfold G0;have l1:LH (σ:=Unit) 17 [1,2,15,16] []:=.intro;exact go 32 Tryz.func41
def CJ(a:List (List Rel))(b:List (List Rel)):Option Bool:=
 Z1 (G0 a b (λxa_ xb_=>Ad xa_ xb_)) λv1=>some v1
instance Zbf(a:List (List Rel))(b:List (List Rel)):Con (CJ a b) prog 105 [.one (.d (.sl (a.map (Z6 Rel.enc)))),.one (.d (.sl (b.map (Z6 Rel.enc))))] (λr=>.one (.d (.bool r))):=by unfold CJ;exact go 8 Tryz.func105
def E5(s_:Sch)(sc:List Stp)(parent:List Rel)(child:List Rel)(complements:List (List Rel)):Option Bool:=
 Z1 (Ac s_ sc parent complements) λv2=>Z1 (Ab s_ sc child complements) λv3=>bif (v2.2.2==0) then bif (v3.2.2==0) then Z1 (Ad v2.1 child) λv6=>(bif v6 then Z1 (Ad v3.1 parent) λv8=>(bif v8 then Z1 (CJ v2.2.1 complements) λv10=>(bif v10 then Z1 (CJ v3.2.1 complements) λv12=>(some v12) else some false) else some false) else some false) else(some false) else some false
instance Zb0(s_:Sch)(sc:List Stp)(parent:List Rel)(child:List Rel)(complements:List (List Rel)):Con (E5 s_ sc parent child complements) prog 65 [.agg s_.enc,.one (.d (.sl (sc.map Stp.enc))),.one (.d (.sl (parent.map Rel.enc))),.one (.d (.sl (child.map Rel.enc))),.one (.d (.sl (complements.map (Z6 Rel.enc))))] (λr=>.one (.d (.bool r))):=by unfold E5;exact go 61 Tryz.func65
def AM(g_:Gr)(db:Db):Option Int:=
 Z1 (UN g_) λv3=>bif (v3.2 !=0) then some v3.2 else bif ((db.insts.length:Int) !=(v3.1.length:Int)) then some 3 else bif ((db.comps.length:Int) !=(g_.edges.length:Int)) then some 3 else Zc (λ(i12:Nat) (x12:Sch) (s12:Unit) next_12=>Z7 db.insts (i12:Int) λx14=>Z1 (Ba x12 x14) λv15=>bif (v15 !=0) then some v15 else next_12 ()) (λ(s12:Unit)=>Zc (λ(i18:Nat) (x18:Edg) (s18:Unit) next_18=>Z7 v3.1 x18.parent λx20=>Z7 db.insts x18.parent λx21=>Z7 db.insts (i18+1:Int) λx22=>Z7 db.comps (i18:Int) λx23=>Z1 (E5 x20 x18.script x21 x22 x23) λv24=>bif !v24 then some 13 else next_18 ()) (λ(s18:Unit)=>some 0) g_.edges 0 ()) v3.1 0 ()
instance Lx(g_:Gr)(db:Db):Con (AM g_ db) prog 35 [.agg g_.enc,.agg db.enc] (λr=>.one (.d (.int .i64 r))):=by unfold AM;have l1:LH (σ:=Unit) 37 [2,3,5,35,36] []:=.intro;have l2:LH (σ:=Unit) 56 [3,5,54,55] []:=.intro;have p1:PH [9] (Plan.qB [0,1,2,3,4,5,6,7] .done):=.intro;have p2:PH [16] (Plan.qB [0,1,2,3,4,5,6,7,8,9,10,11,12,13,14,15,16,17,18,19,20,21,22,23,24,25] .done):=.intro;exact go 88 Tryz.func35

def Fw(x:List Rel):Prop:=x.length<=2097152/\∀r∈x,r.rows.length<=2097152
instance(x:List Rel):Decidable (Fw x):=inferInstanceAs (Decidable (_/\_))
def L4(db:Db):Prop:=(∀x∈db.insts,Fw x)/\∀l∈db.comps,l.length<=2097152/\∀x∈l,Fw x
instance(db:Db):Decidable (L4 db):=inferInstanceAs (Decidable (_/\_))
theorem H2{α β:Type}{f:α->Option β}{g:α->β->α}:∀(xs:List α) (i:Nat) (s:List α),s.length+xs.length<=2097152->(∀x∈xs,∃v,f x=some v/\g x v=x)->
  Zc (λ(_:Nat) x s next=>Z1 (f x) λv=>W0 s [g x v] λ_=>next (s++[g x v])) (λs=>some s) xs i s=some (s++xs)
 |[],i,s,_,_=>by simp[Zc]
 |x::xs,i,s,hs,hf=>by
   obtain⟨v,hv,hg⟩:=hf x sI;simp only[YN] at hs;show Z1 (f x) _=_;rw[hv];show W0 s [g x v] _=_;rw[hg];show Zp _ _=_;unfold Zp;rw[if_pos sO];show Zc _ _ xs (i+1) (s++[x])=_;rw[H2 xs (i+1) (s++[x]) sO λy hy=>hf y (by simp[hy])];simp
theorem T7{rows:List (List GV)}(h:rows.length<=2097152):Is (Ve rows) rows:=
 H2 (f:=CC) (g:=λ_ v=>v) rows 0 [] (by simpa using h) λx _=>⟨x,rfl,rfl⟩
theorem Mc{x:List Rel}(h:Fw x):Is (V9 x) x:=
 H2 (f:=λr:Rel=>Ve r.rows) (g:=λr v=>⟨r.table,v⟩) x 0 [] (by simpa using h.1) λr hr=>⟨r.rows,T7 (h.2 r hr),rfl⟩
theorem Tx{l:List (List Rel)}(h:l.length<=2097152)(hx:∀x∈l,Fw x):Is (AL l) l:=by
 have:FX l (λaa=>V9 aa)=some l:=
  H2 (f:=λx=>V9 x) (g:=λ_ v=>v) l 0 [] (by simpa using h) λx hm=>⟨x,Mc (hx x hm),rfl⟩
 unfold AL;rw[this];rfl
def BV(g:Gr)(db:Db)(v:Int)(aa:List Chg):Option (Db×List Int×Int):=
 Z1 (AM g db) λe=>bif e !=0 then some (⟨[],[]⟩,[],e) else
 bif decide (v<0)||decide ((db.insts.length:Int)<=v) then some (⟨[],[]⟩,[],4) else
 Z1 (UN g) λq=>Z7 q.1 v λS=>Z7 db.insts v λinst=>Z1 (Ev S inst aa) λr=>
 bif r.2 !=0 then some (⟨[],[]⟩,(List.replicate q.1.length 0).set v.toNat r.2,0) else Zp (L4 db)<|
 Z1 (E9 g q.1 (db.insts.set v.toNat r.1) db.comps v) λs=>
 Zc (λ(u:Nat) (S2:Sch) (t:List Int×Bool) next=>Z7 s.reached u λru=>Z7 t.1 u λeu=>
  bif ru&&(eu==0) then Z7 s.insts u λiu=>Z1 (Ba S2 iu) λe=>next (t.1.set u e,t.2||(e !=0)) else next (t.1,t.2||(eu !=0)))
  (λt=>bif t.2 then some (⟨[],[]⟩,t.1,0) else some (⟨s.insts,s.comps⟩,t.1,0)) q.1 0 (s.errs,false)
theorem Ka{h:HS}{c:C}{aa:List Int}(m:Wd h c (aa.map λz=>.int .i64 z)):Frz h c (.sl (aa.map Zd)):=by
 have e1:(aa.map λz=>D.int .i64 z).map (λd=>[d])=aa.map Zd:=by rw[Xe];rfl
 rw[<-e1];exact m.frz
theorem Z30{h:HS}{c:C}{l:List (List Rel)}(m:Wd h c (l.map Wb)):Frz h c (.sl (l.map (Z6 Rel.enc))):=by
 have e1:(l.map Wb).map (λd=>[d])=l.map (Z6 Rel.enc):=by rw[Xe];rfl
 rw[<-e1];exact m.frz
theorem Z37{h:HS}{c:C}{l:List (List (List Rel))}(m:Wd h c (l.map VB)):Frz h c (.sl (l.map (Z6 (Z6 Rel.enc)))):=by
 have e1:(l.map VB).map (λd=>[d])=l.map (Z6 (Z6 Rel.enc)):=by rw[Xe];rfl
 rw[<-e1];exact m.frz
theorem S8(g:Gr)(db:Db)(v:Int)(aa:List Chg)(r:Db×List Int×Int)(hm:Is (BV g db v aa) r):
  Zj prog 44 [.agg g.enc,.agg db.enc,.i v,.l (aa.map Chg.enc)] (.tup [.agg (r.1.enc.map RC.d),.l (r.2.1.map Zd),.i r.2.2]):=by
 unfold BV at hm;refine Zj.of_heap ?_;show Z3 _ _ [.agg (g.enc.map C.d),.agg (db.enc.map C.d),.i v,.l (aa.map Chg.enc)] HS.init _;refine Z3.ov Tryz.func44 ?_;obtain⟨e,he,hm⟩:=hm.bind;simp;refine Zq ((Lx g db).h e he) sI ?_;simp;refine Zy hm ?_ ?_<;>clear hm<;>intro hc hm;obtain rfl:=Zh hm;simp[ZG,Zz,ZL,ZR];exact⟨⟨.data rfl,.data rfl,trivial⟩,.data rfl,.data rfl,trivial⟩;simp;have bad:∀(h':HS),Du h' (.tup [.agg [.nil,.nil],.one .nil,.i 4]) (.tup [.agg ((⟨[],[]⟩:Db).enc.map RC.d),.l (([]:List Int).map Zd),.i 4]):=λh'=>⟨⟨.data rfl,.data rfl,trivial⟩,.data rfl,.data rfl,trivial⟩;by_cases hv0:v<0;simp only[hv0,decide_true,Bool.true_or,cond_true] at hm;obtain rfl:=Zh hm;simp[hv0,ZG,Zz,ZL,ZR];exact bad _;have ca:decide (v<0)=false:=by simp[hv0]
 rw[ca,Bool.false_or] at hm;simp[hv0];intro dl
 try simp[hv0]
 refine Zy hm ?_ ?_<;>clear hm<;>intro dk hm;obtain rfl:=Zh hm;simp[ZG,Zz,ZL,ZR];exact bad _;obtain⟨q,hq,hm⟩:=hm.bind;obtain⟨S,au,hS,hm⟩:=hm.get;obtain⟨inst,-,bk,hm⟩:=hm.get;obtain⟨r1,cn,hm⟩:=hm.bind;simp;refine Zq ((Lz g).h q hq) sI ?_;simp;refine Z4.cu [0,1,2,3,4,5,6,7,8,9,10,11,12,13,14,15] (λe1 h1=>En e1 127 [(2,.i v),(4,.p (0,64)),(5,.p (1,80)),(8,.p (2,128)),(12,.l (q.1.map Sch.enc)),(14,.l (r1.1.map Rel.enc)),(15,.i r1.2)]/\
  h1.box (0,64)=some (g.enc.map C.d)/\h1.box (1,80)=some (db.enc.map C.d)/\h1.box (2,128)=some [.nil,.nil]/\2<h1.ep) ?_ ?_
 simp[au,hS,bk];refine Zq (Sz S inst aa r1 cn) sI ?_;simp[au,hS,bk]
 try refine⟨λ_ _ x=>x,?_⟩
 exact Zb.of ⟨sI,sI,sI,sI,sI⟩;rintro e1 h1 ⟨hE,bg,aj,br,dg⟩;simp[hE];refine Zy hm ?_ ?_<;>clear hm<;>intro dm hm;obtain rfl:=Zh hm;simp[hE];intro cq;refine⟨oM,?_⟩;have cb:v.toNat<q.1.length:=(Y0.1 hS).1;have c0:Wd (h1.qA (h1.ep,1008) (List.replicate q.1.length (.d (.int .i64 0)))) (.mrow (h1.ep,1008) 0 q.1.length q.1.length) (List.replicate q.1.length (.int .i64 0)):=Wd.make (zc:=.d (.int .i64 0)) sI rfl cq;obtain⟨lr,cap,bs,ch,b6,bv,-,ah⟩:=c0.at (i:=v.toNat) (by simpa using cb);simp only[X1,C.mrow.injEq,true_and] at ch;obtain⟨rfl,rfl⟩:=ch;simp at b6;subst b6;simp only[X1] at bv;simp[hE,au,cb,bv,br];simp[ZG,Zz,ZL,ZR,hE,br];refine⟨⟨.data rfl,.data rfl,trivial⟩,?_,.data rfl,trivial⟩;have e9:(List.replicate q.1.length [D.int IntKind.i64 0]).set v.toNat [D.int IntKind.i64 r1.2]=((List.replicate q.1.length (0:Int)).set v.toNat r1.2).map Zd:=by rw[YD,XD];rfl
 have c6:((List.replicate q.1.length (0:Int)).set v.toNat r1.2).map (λz=>D.int .i64 z)=(List.replicate q.1.length (D.int .i64 0)).set v.toNat (.int .i64 r1.2):=by rw[YD,XD]
 show Frz _ _ _;rw[e9];refine Ka ?_;rw[c6];refine(ah h1 (.d (.int .i64 r1.2)) (.int .i64 r1.2) rfl).frame λl hl=>?_;simp[labs] at hl;subst hl;simp;obtain⟨bd,hm⟩:=hm.chk;obtain⟨s,hs,hm⟩:=hm.bind;simp only[Gr.enc,Db.enc,Yb,Yd] at bg aj;simp[hE,aj];refine Za (RL _ db (λx hx=>Mc (bd.1 x hx)) (λl hl=>Tx (bd.2 l hl).1 (bd.2 l hl).2) _ λci cc h2 mI mC hl hd hs2=>?_);simp[hE,aj];have mB:MC h2 [(ci,db.insts.map Wb),(cc,db.comps.map VB)]:=by
  refine⟨λq hq=>?_,λq hq k hk=>?_,?_⟩;simp only[Y9,Xj,or_false] at hq;rcases hq with rfl|rfl;exact mI;exact mC;simp only[Y9,Xj,or_false] at hq;rcases hq with rfl|rfl;exact(hl k (by simp[hk])).2;exact(hl k (by simp[hk])).2;simp only[YB,Xv,Ym];exact Yg.2 ⟨Va,Va,λa ha b hb he=>hd a ha (he▸hb)⟩
 have b3:v.toNat<(db.insts.map Wb).length:=by simpa using(Y0.1 bk).1
 obtain⟨li,capi,bi,cv,cm,ck,cg,-,ah⟩:=mB.at (j:=0) (i:=v.toNat) rfl b3;have bn:ci=.mrow li 0 db.insts.length capi:=by simpa using cv
 subst bn;have bq:v.toNat<db.insts.length:=by simpa using b3
 have p1:=Zm cg;have p2:=ZO cg;have dh:=hs2.1;have ae:∀k∈labs (.mrow li 0 db.insts.length capi)++labs cc,h1.ep<=k.1/\k.1 < h2.ep:=λk hk=>hl k hk;have p3:∀ a b:Nat,a<=2->((a,b)=li)=False:=λa b ha=>eq_false (by rintro rfl;have:=(ae (a,b) (by simp[labs])).1;simp at this;omega);have b0:=(hs2.2 (0,64) sO sI).trans bg;have b1:=(hs2.2 (1,80) sO sI).trans aj;have b2:=(hs2.2 (2,128) sO sI).trans br;simp[hE,aj,au,bq,cm,ck,p1,p2,p3,b0,b1,b2];have c7:(db.insts.set v.toNat r1.1).map Wb=(db.insts.map Wb).set v.toNat (Wb r1.1):=YD;refine Za (Re _ g q.1 (db.insts.set v.toNat r1.1) db.comps v (.mrow li 0 db.insts.length capi) cc s hs (by
  rw[c7];refine ah _ _ (.d (Wb r1.1)) (Wb r1.1) (mB.new ?_) rfl rfl;exact sm) _ λce cr h3 mP bl hge=>?_)
 have c2:=bl.2 (2,128) sO (λh9=>by have:=(ae _ h9).1;simp at this;omega);have b7:=bl.2 (h2.ep,272) sI (λh9=>by have:=(ae _ h9).2;simp at this);have di:((2,128):Z2)≠(h2.ep,272):=by intro h9;simp at h9
 simp[p2,p3,b2] at c2 b7;have bo:=bl.1;simp at bo;simp[hE];intro dp;have ba:∀ k ∈ labs ce++labs cr,h2.ep < k.1:=λk hk=>by have:=hge k hk;simp at this;omega
 have dd:∀ k ∈ labs (.mrow li 0 db.insts.length capi)++labs cc,h1.ep<=k.1/\k.1 < h2.ep:=ae;refine Z4.for (xs:=q.1) (s0:=(s.errs,false)) (λu t e h'=>En e 127 [(8,.p (2,128)),(17,.p (h2.ep,272)),(18,.one ce),(19,.one cr),(20,.b t.2),(85,.l (q.1.map Sch.enc)),(86,.i (q.1.length:Int)),(87,.i (u:Int))] /\
  h'.box (2,128)=some [.nil,.nil]/\h'.box (h2.ep,272)=some [.mrow li 0 db.insts.length capi,cc]/\MC h' ((⟨s.insts,s.comps,t.1,s.reached⟩:PSt).rows (.mrow li 0 db.insts.length capi) cc ce cr)/\h2.ep < h'.ep) hm
  ⟨by simp[hE],c2,b7,mP,oM⟩ ?_ ?_
 .rintro u t e h' ⟨hE,b2,af,mP,ag⟩ hlt hm;have hw:IntKind.i64.wrap ((u:Int)+1)=(u:Int)+1:=Y5 _ oM;obtain⟨ru,cf,hm⟩:=hm.qG;obtain⟨eu,bw,hm⟩:=hm.qG;have aq:u < s.reached.length:=(Y0.1 cf).1;have ad:u < t.1.length:=(Y0.1 bw).1;obtain⟨lr,capr,br,dc,bh,de,bt,⟨xr,bc,cj⟩,-⟩:=mP.at (j:=3) (i:=u) rfl (by simpa using aq);simp only[Y8,cf,Yj,Ya] at cj;obtain rfl:=JM cj;have bp:cr=.mrow lr 0 s.reached.length capr:=by simpa using dc
  subst bp;obtain⟨le,cape,be,c8,ar,bu,b5,⟨xe,bj,bz⟩,bf⟩:=mP.at (j:=2) (i:=u) rfl (by simpa using ad);simp only[Y8,bw,Yj,Ya] at bz;obtain rfl:=Hh bz;have ac:ce=.mrow le 0 t.1.length cape:=by simpa using c8
  rw[ac] at hE;have q1:=ZO bt;have q2:=ZO b5;have q3:=Zm bt;have q4:=Zm b5;have q5:∀ b,((h2.ep,b)=le)=False->True:=λ_ _=>trivial;have bb:li.1 < h'.ep:=mP.lt _ (Y6 ..) li (by simp[labs]);have q6:=Zm bb;have q7:=ZO bb;have df:((2,128):Z2)≠(h'.ep,352):=by intro h9;simp at h9
  have b9:=Zm (l:=(h2.ep,272)) ag;have a7:∀ h6:HS,Z0 h' h6 []->h6.box (2,128)=some [.nil,.nil]/\h6.box (h2.ep,272)=some [.mrow li 0 db.insts.length capi,cc]/\MC h6 ((⟨s.insts,s.comps,t.1,s.reached⟩:PSt).rows (.mrow li 0 db.insts.length capi) cc ce (.mrow lr 0 s.reached.length capr))/\h2.ep < h6.ep:=λh6 al=>
   ⟨(al.2 _ sO sI).trans b2,(al.2 _ ag sI).trans af,mP.new al,Y3 ag al.1⟩
  simp[hE,hlt,aq,ad,bh,bc,q3,q1];cases ru with
  |false=>
    simp only[Bool.false_and,cond_false] at hm;cases ht2:t.2
    all_goals
     rw[ht2] at hE;simp[hE,ad,ar,bj,q1,q2,q3,q4,hw,Xr,bh,bc,aq];refine Ze.of (t.1,t.2 || (eu != 0)) ⟨⟨by simp[hE,ac,ht2],a7 _ ?_⟩,hm⟩;exact sm
  |true=>?_
  cases hz:(eu == 0) with
  |false=>
    rw[hz] at hm;simp only[Bool.and_false,cond_false] at hm;cases ht2:t.2
    all_goals
     rw[ht2] at hE;simp[hE,ad,ar,bj,q1,q2,q3,q4,hw,hz,bh,bc,aq];refine Ze.of (t.1,t.2 || (eu != 0)) ⟨⟨by simp[hE,ac,ht2],a7 _ ?_⟩,hm⟩;exact sm
  |true=>?_
  rw[hz] at hm;simp only[Bool.and_true,cond_true] at hm;obtain⟨iu,bm,hm⟩:=hm.qG;obtain⟨ab,da,hm⟩:=hm.bind;simp[hE,ad,ar,bj,q1,q2,q3,q4,hz];have cw:u < s.insts.length:=(Y0.1 bm).1;obtain⟨dn,cy,dj,az,ax,cp,-,⟨xi,cl,b4⟩,-⟩:=mP.at (j:=0) (i:=u) rfl (by simpa using cw);simp only[Y8,bm,Yj,Ya] at b4;simp at az;obtain⟨rfl,dt,rfl⟩:=az;have ay:u < db.insts.length:=oM
  refine Z4.cu [0,1,2,3,4,5,6,7,8,9,10] (λE h4=>Ek e E [(18,.one (.mrow le 0 t.1.length cape)),(19,.one (.mrow lr 0 s.reached.length capr)),(21,.i (u:Int))] [8,17,20,85,86,87] /\
   ∃ hX,Z0 h' hX []/\h4=hX.qA le (Zg be u [.d (.int .i64 ab)])) ?_ ?_
  simp[hE,af,b9,ay,ax,cl,q6,q7];refine Zq ((Rr q.1[u] iu).h ab da) (by simp[W1,V.toA,(Do b4).2.2]) ?_;simp[hE,af,b9,ay,ax,cl,q6,q7,ad,bu,ar,q2,q4]
  try refine⟨λ_ _ x=>x,?_⟩
  refine Zb.of ⟨by simp[hE],_,?_,rfl⟩;exact sm;rintro E2 h4 ⟨hF,hX,am,rfl⟩;have hE:=hF.an hE;have m6:=bf _ _ (.d (.int .i64 ab)) (.int .i64 ab) (mP.new am) rfl rfl;have cd:MC (hX.qA le (Zg be u [.d (.int .i64 ab)])) ((⟨s.insts,s.comps,t.1.set u ab,s.reached⟩:PSt).rows (.mrow li 0 db.insts.length capi) cc ce (.mrow lr 0 s.reached.length capr)):=by simpa[PSt.rows,YD] using m6
  obtain⟨du,cz,dr,ak,aw,cx,-,⟨xe,b8,a8⟩,-⟩:=cd.at (j:=2) (i:=u) rfl (by simpa using ad);simp only[Y8,YL ad,Yj,Ya] at a8;obtain rfl:=Hh a8;rw[ac] at ak;simp at ak;obtain⟨rfl,rfl⟩:=ak;simp at aw;subst aw;have a1:∀ k:Z2,k.1<=h2.ep->(k=le)=False:=λk hk=>eq_false (by rintro rfl;have:=ba k (by rw[ac];simp[labs]);omega);have f1:(hX.qA le (Zg be u [.d (.int .i64 ab)])).box (2,128)=some [.nil,.nil]:=by simp[a1 (2,128) sO];exact (am.2 _ sO sI).trans b2
  have f2:(hX.qA le (Zg be u [.d (.int .i64 ab)])).box (h2.ep,272)=some [.mrow li 0 db.insts.length capi,cc]:=by simp[a1 (h2.ep,272) sI];exact (am.2 _ ag sI).trans af
  cases ht2:t.2
  all_goals
   rw[ht2] at hE;simp[hE,ad,b8,hw];refine Ze.of (t.1.set u ab,t.2 || (ab != 0)) ⟨⟨by simp[hE,ac,ht2],f1,f2,cd,by simpa using Y3 ag am.1⟩,hm⟩
 rintro t e h' ⟨hE,b2,af,mP,ag⟩ hm;have ap:∀ {cs:List C},∀ k ∈ labs (.mrow li 0 db.insts.length capi)++(labs cc++(labs ce++labs cr)),(h'.qA (2,128) cs).box k=h'.box k:=λ{cs} k hk=>by
  have:k≠(2,128):=by
   intro h9;rw[h9] at hk;rcases Y2.1 hk with h8 | h8
   have:=(ae (2,128) (Xn _ h8)).1;simp at this;omega
   rcases Y2.1 h8 with h8 | h8
   have:=(ae (2,128) (X6 _ h8)).1;simp at this;omega
   have:=ba (2,128) h8;simp at this;omega
  simp[this]
 simp[hE];refine Zy hm ?_ ?_<;>clear hm<;>intro dq hm;obtain rfl:=Zh hm;simp[hE,b2];simp[ZG,Zz,ZL,ZR,hE];exact⟨⟨.data rfl,.data rfl,trivial⟩,Ka ((mP.row _ (Yc _ (Yc _ (Y6 ..)))).frame λk hk=>ap k (by simp[hk])),.data rfl,trivial⟩;obtain rfl:=Zh hm;simp[hE,b2,af];simp[ZG,Zz,ZL,ZR,hE];exact⟨⟨Z30 ((mP.row _ (Y6 ..)).frame λk hk=>ap k (by simp[hk])),Z37 ((mP.row _ (Yc _ (Y6 ..))).frame λk hk=>ap k (by simp[hk])),trivial⟩,Ka ((mP.row _ (Yc _ (Yc _ (Y6 ..)))).frame λk hk=>ap k (by simp[hk])),.data rfl,trivial⟩
theorem Mr{S}(hS:VS S)(inst):Wp (Ba S inst) λe=>e=0->CF S inst/\VH S inst=some 0:=by
 have aa:=λT hT=>(hS.tab T hT).pk6;unfold Ba;refine Wp.bind (D3 S aa inst) λe he h=>Wp.cond (λh9=>Wp.ret λh0=>by rw[h0] at h9;cases h9) λh9=>?_;obtain rfl:e=0:=by simpa using h9
 have hc:=h rfl;have ct:∀{xs:List (List GV)} {f:List GV->Option Bool},(∀x,Wp (f x) λ_=>True)->Wp (B5 xs f) λ_=>True:=λhf=>by
  unfold B5 Cy;exact Wp.bind ((Wp.index λx _=>hf x).mono λ_ _ _=>trivial) λ_ _ _=>Wp.ret trivial
 refine Wp.for (λ_ _=>True) trivial ?_ λ_ _=>Wp.for (λ_ _=>True) trivial ?_ λ_ _=>Wp.ret λ_=>⟨hc,he⟩
 .intro i f _ next _ hm _ hn
  refine Wp.bind (KA aa hc.l24 f.table) λq _ _=>Wp.bind (ct λrow=>?_) λb _ _=>Wp.cr λ_=>hn () trivial;exact Wp.bind (Mh aa hc.l24 (hS.fk f hm).1 row) λ_ _ _=>Wp.ret trivial
 intro i c _ next _ _ _ hn
 refine Wp.bind (KA aa hc.l24 c.table) λq _ _=>Wp.bind (ct λrow=>?_) λb _ _=>Wp.cr λ_=>hn () trivial;exact Wp.bind (NL c row) λ_ _ _=>Wp.ret trivial
theorem Oz(a b):Wp (CJ a b) λr=>r=true↔a=b:=by
 unfold CJ;exact Wp.bind (HG λx y=>F1 x y) λr _ hr=>Wp.ret hr
theorem SV{S sc}(hx:∀x∈sc,Ur x)(a b)(cs):Wp (E5 S sc a b cs) λr=>r=true->Ac S sc a cs=some (b,cs,0)/\Ab S sc b cs=some (a,cs,0)/\SB sc.length (b,cs,0):=by
 unfold E5;refine Wp.bind (LO S sc hx a cs) λp hp ab=>Wp.bind (LD S sc hx b cs) λq hq af=>Wp.cond (λh1=>Wp.cond (λh2=>Wp.bind (F1 _ _) λe1 _ ad=>Wp.cond (λh3=>Wp.bind (F1 _ _) λe2 _ ac=>Wp.cond (λh4=>Wp.bind (Oz _ _) λe3 _ aa=>Wp.cond (λh5=>Wp.bind (Oz _ _) λe4 _ ae=>Wp.ret λh6=>?_) λ_=>Wp.ret sI) λ_=>Wp.ret sI) λ_=>Wp.ret sI) λ_=>Wp.ret sI) λ_=>Wp.ret sI;have e1:=ad.1 h3;have e2:=ac.1 h4;have e3:=aa.1 h5;have e4:=ae.1 h6;have h1:p.2.2=0:=by simpa using h1
 have h2:q.2.2=0:=by simpa using h2
 obtain⟨p1,p2,p3⟩:=p;obtain⟨q1,q2,q3⟩:=q;simp only at e1 e2 e3 e4 h1 h2;subst e1 e2 e3 h1 h2;rw[e4] at hq;exact⟨hp,hq,ab rfl⟩
structure DbV(g:Gr)(db:Db)(Ss:List Sch):Prop where
 ver:VerOK g Ss
 sch:UN g=some (Ss,0)
 li:db.insts.length=Ss.length
 lc:db.comps.length=g.edges.length
 inst:∀(i:Nat) S x,Ss[i]?=some S->db.insts[i]?=some x->Ba S x=some 0/\CF S x/\VH S x=some 0
 edge:∀i e P a b c,g.edges[i]?=some e->Ss[e.parent.toNat]?=some P->db.insts[e.parent.toNat]?=some a->db.insts[i+1]?=some b->db.comps[i]?=some c->Ac P e.script a c=some (b,c,0)/\Ab P e.script b c=some (a,c,0)/\SB e.script.length (b,c,0)
def Ds(g:Gr):Prop:=∀e∈g.edges,∀x∈e.script,Ur x
theorem Mg{g}(hx:Ds g)(db):Wp (AM g db) λe=>e=0->∃Ss,DbV g db Ss:=by
 unfold AM;refine Wp.bind (Rt g hx) λq ae hq=>Wp.cond (λh=>Wp.ret λh0=>by rw[h0] at h;cases h) λh=>?_;have h2:q.2=0:=by simpa using h
 have hv:=hq h2;refine Wp.cr λab=>Wp.cr λaa=>?_;have ab:db.insts.length=q.1.length:=by simp at ab;omega
 have aa:db.comps.length=g.edges.length:=by simp at aa;omega
 refine Wp.for (λi _=>∀(j:Nat) S x,j<i->q.1[j]?=some S->db.insts[j]?=some x->Ba S x=some 0/\CF S x/\VH S x=some 0) (λj S x h=>absurd h (XW _)) ?_ ?_
 .intro i S _ next hS hSm hI hn
  have hi:=(Y0.1 hS).1;refine Wp.get oM oM λx ad _=>Wp.bind (Mr (hv.vs S hSm) x) λe he af=>Wp.cond (λh=>Wp.ret λh0=>by rw[h0] at h;cases h) λh=>hn () λj S9 x9 hj hS9 hx9=>?_;obtain rfl:e=0:=by simpa using h
  rcases YA j i with h9|h9;exact hI j S9 x9 h9 hS9 hx9;obtain rfl:j=i:=oM;rw[hS] at hS9;cases hS9
  have:db.insts[j]?=some x:=by simpa using ad
  rw[this] at hx9;cases hx9;exact⟨he,af rfl⟩
 intro _ hI;refine Wp.for (λi _=>∀j e P a b c,j<i->g.edges[j]?=some e->q.1[e.parent.toNat]?=some P->db.insts[e.parent.toNat]?=some a->db.insts[j+1]?=some b->db.comps[j]?=some c->Ac P e.script a c=some (b,c,0)/\Ab P e.script b c=some (a,c,0)/\SB e.script.length (b,c,0)) (λj e P a b c h=>absurd h (XW _)) ?_ ?_
 .intro i e _ next he ac hJ hn
  have hi:=(Y0.1 he).1;have hp:=hv.edges i e he;have ag:=hv.len;refine Wp.get hp.1 oM λP hP _=>Wp.get hp.1 oM λa ha _=>Wp.get oM oM λb hb _=>Wp.get oM oM λc hc _=>Wp.bind (SV (hx e ac) a b c) λr _ hr=>Wp.cr λh=>hn () λj e9 P9 a9 b9 c9 hj h1 h2 h3 h4 h5=>?_;rcases YA j i with h9|h9;exact hJ j e9 P9 a9 b9 c9 h9 h1 h2 h3 h4 h5;obtain rfl:j=i:=oM
  rw[he] at h1;cases h1;have hb:db.insts[j+1]?=some b:=by simpa using hb
  have hc:db.comps[j]?=some c:=by simpa using hc
  rw[hP] at h2;rw[ha] at h3;rw[hb] at h4;rw[hc] at h5;cases h2;cases h3;cases h4;cases h5;exact hr (by simpa using h)
 intro _ hJ;refine Wp.ret λ_=>⟨q.1,hv,by rw[ae,<-h2],ab,aa,λi S x hS hx=>hI i S x (Y0.1 hS).1 hS hx,λi e P a b c h1 h2 h3 h4 h5=>hJ i e P a b c (Y0.1 h1).1 h1 h2 h3 h4 h5⟩
theorem DbV.ok{g db Ss}(v:DbV g db Ss):L4 db:=by
 have hl:=v.ver.len;refine⟨λx hx=>?_,λl ab=>?_⟩;obtain⟨i,hi,rfl⟩:=Yz hx;have aa:i<Ss.length:=by rw[<-v.li];exact hi
 have hS:Ss[i]?=some Ss[i]:=Y1 aa;have h1:=(v.inst i _ _ hS (Y1 hi)).2.1.rb (v.ver.vs _ (Y4 hS));exact⟨by have:=h1.1;omega,λr hr=>by have:=h1.2 r hr;omega⟩;obtain⟨i,hi,rfl⟩:=Yz ab;have aa:i<g.edges.length:=by rw[<-v.lc];exact hi
 have he:=Y1 aa;have hp:=v.ver.edges i _ he;have ac:=v.li;have h1:=(v.edge i _ _ _ _ _ he (Y1 oM) (Y1 oM) (Y1 oM) (Y1 hi)).2.2;have h6:=h1.2.2.2;have h7:db.comps[i].length=g.edges[i].script.length:=h1.2.1;refine⟨oM,λx hx=>?_⟩;have h2:=h1.2.2.1 x hx;exact⟨by have:=h2.1;omega,λr hr=>by have:=h2.2 r hr;omega⟩
theorem Z8h{l:List Int}{n:Nat}(h:l.Nodup)(hr:∀v∈l,0<=v/\v<=(n:Int)):l.length<=n+1:=by
 have h1:l.length<=(W3 (n+1)).length:=List.Nodup.length_le_of_subset h λv hv=>by
  have:=hr v hv
  simp only[W3,Yi,XR];exact⟨v.toNat,oM,oM⟩
 rwa [F4] at h1
theorem TM{g:Gr}{Ss:List Sch}(hv:VerOK g Ss)(hs:UN g=some (Ss,0)){v:Int}(h0:0<=v)(h1:v<Ss.length):Wp (Eb g v) λr=>∀h∈r.1,0<=h.edge/\h.edge<g.edges.length:=by
 have h7:=hv.l7;have hl:=hv.len;unfold Eb;refine Wp.bind (R:=λq=>q.2=0) ?_ λq _ hq=>Wp.cond (λh=>by rw[hq] at h;cases h) λ_=>?_;unfold Gu;refine Wp.bind (Wa hs) λq _ hq=>?_;subst hq;refine Wp.cond (λh=>by cases h) λ_=>Wp.cond (λh=>by simp at h;omega) λ_=>Wp.cond (λh=>by simp at h;omega) λ_=>Wp.get h0 h1 λS _ _=>Wp.ret rfl;have ab:∀(t:List Int×List Hop),t.1.Nodup/\(∀v∈t.1,0<=v/\v<=(g.edges.length:Int))/\t.2.length<=t.1.length/\(∀h∈t.2,0<=h.edge/\h.edge<(g.edges.length:Int))->t.1.length<=8:=λt h=>by have:=Z8h h.1 h.2.1;omega
 refine Wp.jN (λs:List Int×List Hop×Int=>(s.1.Nodup/\(∀v∈s.1,0<=v/\v<=g.edges.length)/\s.2.1.length<=s.1.length/\(∀h∈s.2.1,0<=h.edge/\h.edge<g.edges.length))/\0<=s.2.2) (λs=>(9-s.2.2).toNat) ?_ DH _ ⟨⟨sI,sO,sI,sI⟩,sI⟩ (by simp[DH]);rintro⟨a,b,k⟩ next ⟨hI,hk⟩ hn
 simp only at hI hk;refine Wp.cond (λhlt=>?_) λ_=>Wp.ret hI.2.2.2;have hlt:k<a.length:=by simpa using hlt
 refine Wp.for (λ_ t=>(t.1.Nodup/\(∀v∈t.1,0<=v/\v<=g.edges.length)/\t.2.length<=t.1.length/\(∀h∈t.2,0<=h.edge/\h.edge<g.edges.length))/\k<t.1.length) ⟨hI,hlt⟩ ?_ ?_;intro i e t nx he _ ht aa;have hi:=(Y0.1 he).1;have hp:=hv.edges i e he;have h8:=ab t ht.1;obtain⟨⟨t1,t2,t3,t4⟩,t5⟩:=ht;have grow:∀v (h:Hop),v∉t.1->0<=v/\v<=g.edges.length->h.edge=i->((t.1++[v]).Nodup/\(∀w∈t.1++[v],0<=w/\w<=g.edges.length)/\(t.2++[h]).length<=(t.1++[v]).length/\(∀h'∈t.2++[h],0<=h'.edge/\h'.edge<g.edges.length))/\k<(t.1++[v]).length:=by
  intro v h ae ad ac;refine⟨⟨?_,λw hw=>?_,sO,λh' hh=>?_⟩,sO⟩;rw[Yg];refine⟨t1,sI,λa ha b hb=>?_⟩;rw[Yu.1 hb];exact λh9=>ae (h9▸ha);rcases Y2.1 hw with h9|h9;exact t2 w h9;rw[Yu.1 h9];exact ad;rcases Y2.1 hh with h9|h9;exact t4 h' h9;rw[Yu.1 h9,ac];omega
 refine Wp.get hk t5 λx _ _=>Wp.bind (AP t.1 (i+1)) λa9 _ ha=>Wp.bind (AP t.1 e.parent) λb9 _ hb=>Wp.chk ⟨oM,oM⟩ (Wp.cond (λh=>aa _ ?_) λ_=>Wp.cond (λh=>aa _ ?_) λ_=>aa _ ⟨⟨t1,t2,t3,t4⟩,t5⟩);simp at h;exact grow _ ⟨i,false⟩ (λh9=>by rw[ha.2 h9] at h;cases h.2) oM rfl;simp at h;exact grow _ ⟨i,true⟩ (λh9=>by rw[hb.2 h9] at h;cases h.2) oM rfl;intro t ht;have h8:=ab t ht.1;exact hn _ ⟨ht.1,by simp only;omega⟩ (by simp only;omega)
structure PrL(g:Gr)(Ss:List Sch)(s:PSt):Prop where
 i:s.insts.length=Ss.length
 c:s.comps.length=g.edges.length
 e:s.errs.length=Ss.length
 r:s.reached.length=Ss.length
theorem Z5o{b S sc}(hx:∀x∈sc,Ur x)(a)(c):Wp (Ku b S sc a c) λ_=>True:=by
 unfold Ku;exact Wp.cond (λ_=>(LD S sc hx a c).mono λ_ _ _=>trivial) λ_=>(LO S sc hx a c).mono λ_ _ _=>trivial
theorem Tn{g Ss}(hx:Ds g)(hv:VerOK g Ss)(hs:UN g=some (Ss,0)){v:Int}(h0:0<=v)(h1:v<Ss.length){insts comps}(hi:insts.length=Ss.length)(hc:comps.length=g.edges.length):
  Wp (E9 g Ss insts comps v) (PrL g Ss):=by
 have hl:=hv.len;unfold E9;refine Wp.chk ⟨h0,h1⟩ (Wp.bind (TM hv hs h0 h1) λT _ hT=>Wp.for (λ_ s=>PrL g Ss s) ⟨hi,hc,sI,sI⟩ ?_ λs hs=>Wp.ret hs);intro k ab s next _ hm p hn
 have hh:=hT ab hm;refine Wp.get hh.1 hh.2 λe he ac=>Wp.chk (by simp only[W9];have:=hv.l7;omega) ?_;have hp:=hv.edges _ e he;have pi:=p.i;have pc:=p.c;have pe:=p.e;have pr:=p.r;have key:∀n f:Int,0<=n->n<Ss.length->0<=f->f<Ss.length->Wp (Fy Ss e ab n f s next) _:=λn f aa af ad ae=>by
  unfold Fy;refine Wp.get aa oM λrn _ _=>Wp.cond (λ_=>hn s p) λ_=>Wp.get aa oM λen _ _=>Wp.cond (λ_=>hn s p) λ_=>Wp.chk ⟨ad,oM,oM⟩ ?_;refine Wp.get hp.1 oM λS _ _=>Wp.get aa oM λa _ _=>Wp.get hh.1 oM λc _ _=>Wp.bind (Z5o (hx e ac) a c) λr _ _=>Wp.cond (λ_=>Wp.chk oM (hn _ ⟨by simp[pi],by simp[pc],by simp[pe],by simp[pr]⟩)) λ_=>hn _ ⟨pi,pc,by simp[pe],by simp[pr]⟩
 cases ab.back with
 |true=>exact key _ _ sO sO sO sO
 |false=>exact key _ _ sO sO sO sO
theorem Z5q{g:Gr}(hx:Ds g)(db:Db)(v:Int)(cs:List Chg):Wp (BV g db v cs) λq=>q.2.2=0->q.2.1.length<=8/\((∀e∈q.2.1,e=0)->0<q.1.insts.length):=by
 unfold BV;refine Wp.bind (Mg hx db) λe _ he=>Wp.cond (λh=>Wp.ret λh0=>by simp only at h0;rw[h0] at h;cases h) λh=>?_;obtain⟨Ss,dv⟩:=he (by simpa using h);have hl:=dv.ver.len;have h7:=dv.ver.l7;have ac:=dv.li;refine Wp.cr λhr=>?_;have hv:0<=v/\v<Ss.length:=by simp at hr;omega
 refine Wp.bind (Wa dv.sch) λq _ hq=>?_;subst hq;refine Wp.get hv.1 hv.2 λS _ hS=>Wp.get hv.1 oM λinst _ _=>Wp.bind (TK (dv.ver.vs S hS) inst cs) λr _ _=>Wp.cond (λhr=>Wp.ret λ_=>⟨sO,λhall=>?_⟩) λ_=>?_;exfalso;have hm:r.2∈(List.replicate Ss.length (0:Int)).set v.toNat r.2:=Y4 (by rw[YL (by rw[X1];omega)])
 have:=hall _ hm
 rw[this] at hr;cases hr;refine Wp.chk dv.ok (Wp.bind (Tn hx dv.ver dv.sch hv.1 hv.2 (by simp[ac]) dv.lc) λs _ p=>?_);have pi:=p.i;have pe:=p.e;have pr:=p.r;refine Wp.for (λi t=>t.1.length=Ss.length/\(t.2=true->∃(j:Nat) (e:Int),j<i/\t.1[j]?=some e/\e≠0)) ⟨pe,sI⟩ ?_ ?_
 .intro i S2 t next hxi hm ht hn
  have hi:i<Ss.length:=(Y0.1 hxi).1;refine Wp.get oM oM λru _ _=>Wp.get oM oM λeu ab _=>Wp.cond (λ_=>Wp.get oM oM λiu _ _=>Wp.bind (Mr (dv.ver.vs S2 hm) iu) λe9 _ _=>hn _ ⟨by simp[ht.1],λhh=>?_⟩) λ_=>hn _ ⟨ht.1,λhh=>?_⟩;cases h2:t.2 with|true=>?_|false=>?_;obtain⟨j,e0,hj,aa,hne⟩:=ht.2 h2;exact⟨j,e0,oM,by simp;rw[YS oM];exact aa,hne⟩;simp only[h2] at hh;exact⟨i,e9,oM,by simp only[Xk];rw[YL oM],by simpa using hh⟩;cases h2:t.2 with|true=>?_|false=>?_;obtain⟨j,e0,hj,aa,hne⟩:=ht.2 h2;exact⟨j,e0,oM,aa,hne⟩;simp only[h2] at hh;exact⟨i,eu,oM,by simpa using ab,by simpa using hh⟩
 intro t ht;refine Wp.cond (λhb=>Wp.ret λ_=>⟨by simp only;omega,λhall=>?_⟩) λ_=>Wp.ret λ_=>⟨by simp only;omega,λ_=>by simp only;omega⟩;obtain⟨j,e,-,hj,hne⟩:=ht.2 hb;exact absurd (hall e (Y4 hj)) hne
instance Zbx(g_:Gr)(db:Db)(v_:Int)(changes:List Chg):Con (BV g_ db v_ changes) prog 44 [.agg g_.enc,.agg db.enc,.one (.d (.int .i64 v_)),.one (.d (.sl (changes.map Chg.enc)))] (λr=>.tup [.agg (r.1.enc.map RC.d),.one (.d (.sl (r.2.1.map Zd))),.one (.d (.int .i64 r.2.2))]):=⟨λr hm=>S8 g_ db v_ changes r hm⟩
def Ae(g_:Gr)(db:Db)(v_:Int)(changes:List Chg):Option (Db×Int×Int):=
 Z1 (BV g_ db v_ changes) λv4=>bif (v4.2.2 !=0) then some ((Db.mk [] []),0,v4.2.2) else Zc (λ(i8:Nat) (x8:Int) (s8:Unit) next_8=>bif (x8 !=0) then some ((Db.mk [] []),(i8:Int),x8) else next_8 ()) (λ(s8:Unit)=>some (v4.1,0,0)) v4.2.1 0 ()
instance S7(g_:Gr)(db:Db)(v_:Int)(changes:List Chg):Con (Ae g_ db v_ changes) prog 17 [.agg g_.enc,.agg db.enc,.one (.d (.int .i64 v_)),.one (.d (.sl (changes.map Chg.enc)))] (λr=>.tup [.agg (r.1.enc.map RC.d),.one (.d (.int .i64 r.2.1)),.one (.d (.int .i64 r.2.2))]):=by unfold Ae;have l1:LH (σ:=Unit) 31 [8,11,29,30] []:=.intro;exact go 43 Tryz.func17
def GA(n:Int):Option GV:=
 some (GV.mk 1 n empty)
instance Zcd(n:Int):Con (GA n) prog 58 [.one (.d (.int .i64 n))] (λr=>.agg (r.enc.map RC.d)):=by unfold GA;exact go 5 Tryz.func58
def Iv:Option Gr:=
 Z1 (GA 5) λv2=>some (Gr.mk (Sch.mk [(Tbl.mk ({data:=#[116]}) [(Col.mk ({data:=#[105,100]}) 1 false),(Col.mk ({data:=#[110]}) 1 false)] [0])] [] []) [(Edg.mk 0 [(Stp.mk 1 ({data:=#[116]}) empty ({data:=#[120]}) empty 1 [] empty v2 (Tbl.mk empty [] []) (Cons.mk empty 0 empty 0 (GV.mk 0 0 empty)) (Fk.mk empty [] empty))])])
instance Zal  :Con (Iv) prog 26 [] (λr=>.agg (r.enc.map RC.d)):=by unfold Iv;exact go 16 Tryz.func26
instance Zbw(s_:Sch):Con (Uu s_) prog 59 [.agg s_.enc] (λr=>.one (.d (.sl (r.map Rel.enc)))):=⟨λr hm=>IK s_ r hm⟩
def Ix(s_:Sch)(step:Stp):Option ((List Rel)×Int):=
 Z1 (Be s_ step) λv3=>bif (v3.2.2 !=0) then some ([],v3.2.2) else Z1 (Uu v3.2.1) λv7=>some (v7,0)
instance Zaq(s_:Sch)(step:Stp):Con (Ix s_ step) prog 96 [.agg s_.enc,.agg step.enc] (λr=>.tup [.one (.d (.sl (r.1.map Rel.enc))),.one (.d (.int .i64 r.2))]):=by unfold Ix;exact go 21 Tryz.func96
def Ik(s_:Sch)(script:List Stp):Option ((List (List Rel))×Int):=
 Z1 (AO s_ script) λv2=>bif (v2.2 !=0) then some ([],v2.2) else Zc (λ(i5:Nat) (x5:Stp) (s5:(List (List Rel))) next_5=>Z7 v2.1 (i5:Int) λx7=>Z1 (Ix x7 x5) λv8=>bif (v8.2 !=0) then some ([],v8.2) else W0 s5 [v8.1] λ_=>next_5 (s5++[v8.1])) (λ(s5:(List (List Rel)))=>some (s5,0)) script 0 []
instance Qp(s_:Sch)(script:List Stp):Con (Ik s_ script) prog 60 [.agg s_.enc,.one (.d (.sl (script.map Stp.enc)))] (λr=>.tup [.one (.d (.sl (r.1.map (Z6 Rel.enc)))),.one (.d (.int .i64 r.2))]):=by
 unfold Ik;have l1:LH (σ:=(List (List Rel))) 24 [6,22,23] [.g 8 1 (λs=>s.map (Z6 Rel.enc))]:=.intro;have p1:PH [8] (Plan.qB [0,1,2,3,4,5,6,7,8,9,10] .done):=.intro;exact go 47 Tryz.func60
def GB(g_:Gr):Option (Db×Int):=
 Z1 (UN g_) λv3=>bif (v3.2 !=0) then some ((Db.mk [] []),v3.2) else Zc (λ(i7:Nat) (x7:Sch) (s7:(List (List Rel))) next_7=>Z1 (Uu x7) λv9=>W0 s7 [v9] λ_=>next_7 (s7++[v9])) (λ(s7:(List (List Rel)))=>Zc (λ(i13:Nat) (x13:Edg) (s13:(List (List (List Rel)))) next_13=>Z7 v3.1 x13.parent λx15=>Z1 (Ik x15 x13.script) λv16=>bif (v16.2 !=0) then some ((Db.mk [] []),v16.2) else W0 s13 [v16.1] λ_=>next_13 (s13++[v16.1])) (λ(s13:(List (List (List Rel))))=>some ((Db.mk s7 s13),0)) g_.edges 0 []) v3.1 0 []
theorem Sy(g_:Gr)(r:Db×Int)(hm:Is (GB g_) r):Zj prog 27 [.agg g_.enc] (.tup [.agg (r.1.enc.map RC.d),.one (.d (.int .i64 r.2))]):=by
 unfold GB at hm;refine Zj.qN Tryz.func27 rfl (by kernel_rfl) (n:=66) rfl rfl (by simp) ?_
 try simp[*]
 refine VJ (av:=[.agg g_.enc]) hm (λv hv=>Lz _ v hv) (by simp[*]) ?_;clear hm;intro v3 hvv3 hm
 try simp[*]
 refine Zy hm ?_ ?_<;>clear hm<;>intro hc4 hm
 .try simp[*]
  obtain rfl:=Zh hm;exact V8 (vs:=[_,_]) (by simp[*];try exact⟨rfl,rfl⟩) (by simp[*])
 .try simp[*]
  intro hl6;replace hl6:v3.1.length<=2097152:=by simpa using hl6
  refine Z4.for (xs:=v3.1) (s0:=[]) (λi7 s7 e7 h7=>∃c7_0:C,e7.n=66/\e7.get 1=.one (.ptr (0,16) 0)/\e7.get 2=.one (.ptr (1,32) 0)/\e7.get 4=.one (.d (.sl (v3.1.map Sch.enc)))/\e7.get 6=.one (.ptr (3,96) 0)/\e7.get 22=.one (.d (.sl (v3.1.map Sch.enc)))/\e7.get 23=.one (.d (.int .i64 (v3.1.length:Int)))/\e7.get 24=.one (.d (.int .i64 (i7:Int)))/\h7.box (0,16)=some [.d (.sl (g_.base.tables.map Tbl.enc)),.d (.sl (g_.base.fks.map Fk.enc)),.d (.sl (g_.base.cons.map Cons.enc)),.d (.sl (g_.edges.map Edg.enc))]/\h7.box (1,32)=some [.nil,.nil]/\h7.box (3,96)=some [c7_0,.nil]/\Zi h7 1 c7_0 (s7.map (Z6 Rel.enc))) hm ⟨.nil,by simp(maxDischargeDepth:=20) [*]⟩ ?_ ?_
  .rintro i7 s7 e7 h7 ⟨c7_0,hn7,h7_1,h7_2,h7_4,h7_6,h7_22,h7_23,h7_24,hb7_b1,hb7_b2,hb7_b5,gc7_0⟩ hlt7 hm;have hlc7_0:=gc7_0.list;have hdc7_0:=gc7_0.toD;have hac7_0:=gc7_0.toA;have huc7_0:=gc7_0.qH;have hw7:IntKind.i64.wrap ((i7:Int)+1)=(i7:Int)+1:=Y5 _ (by omega)
   try simp[*]
   refine Z4.of (Wi.draw (Plan.qB [0,1,2,3,4,5,6,7] .done) follows (by kernel_rfl) ?_)
   try simp[*]
   refine VJ (av:=[.agg (v3.1[i7]).enc]) hm (λv hv=>IK _ v hv) (by simp[*]) ?_;clear hm;intro v9 hvv9 hm
   try simp[*]
   try refine⟨λ(_:Z2) (_:List C) hl=>hl,?_⟩
   refine AW (xs:=s7) (ys:=[v9]) (enc:=(Z6 Rel.enc)) hm Bu (by first|exact Zi.nil|(simp(maxDischargeDepth:=20) [*];done)|(simp(maxDischargeDepth:=20) [*];refine⟨?_,by omega⟩;intro hq;subst hq;simp at hz2<;>omega)) (by simp[*]) (by decide) (by decide) (λ_=>rfl) ?_;clear hm;intro hl11 hm g10
   try simp[*]
   exact Ze.of (s7++[v9]) ⟨⟨.own (h7.ep+3,528) ((s7++[v9]).map (Z6 Rel.enc)),by simp(maxDischargeDepth:=20) [*]⟩,hm⟩
  .rintro s7 e7 h7 ⟨c7_0,hn7,h7_1,h7_2,h7_4,h7_6,h7_22,h7_23,h7_24,hb7_b1,hb7_b2,hb7_b5,gc7_0⟩ hm;have hlc7_0:=gc7_0.list;have hdc7_0:=gc7_0.toD;have hac7_0:=gc7_0.toA;have huc7_0:=gc7_0.qH
   try simp[*]
   intro hl12;replace hl12:g_.edges.length<=2097152:=by simpa using hl12
   refine Z4.for (xs:=g_.edges) (s0:=[]) (λi13 s13 e13 h13=>∃c13_bb5_0 c13_0:C,(e13.n=66/\e13.get 2=.one (.ptr (1,32) 0)/\e13.get 4=.one (.d (.sl (v3.1.map Sch.enc)))/\e13.get 6=.one (.ptr (3,96) 0)/\e13.get 37=.one (.d (.sl (g_.edges.map Edg.enc)))/\e13.get 38=.one (.d (.int .i64 (g_.edges.length:Int)))/\e13.get 39=.one (.d (.int .i64 (i13:Int)))/\h13.box (1,32)=some [.nil,.nil]/\h13.box (3,96)=some [c13_bb5_0,c13_0]/\Zi h13 1 c13_bb5_0 (s7.map (Z6 Rel.enc))/\Zi h13 1 c13_0 (s13.map (Z6 (Z6 Rel.enc))))/\Ws c13_bb5_0 c13_0) hm ⟨c7_0,.nil,by simp(maxDischargeDepth:=20) [*],(by simp)⟩ ?_ ?_
   .rintro i13 s13 e13 h13 ⟨c13_bb5_0,c13_0,⟨hn13,h13_2,h13_4,h13_6,h13_37,h13_38,h13_39,hb13_b2,hb13_b5,gc13_bb5_0,gc13_0⟩,apc13_bb5_0_c13_0⟩ hlt13 hm;have hlc13_bb5_0:=gc13_bb5_0.list;have hdc13_bb5_0:=gc13_bb5_0.toD;have hac13_bb5_0:=gc13_bb5_0.toA;have huc13_bb5_0:=gc13_bb5_0.qH;have hlc13_0:=gc13_0.list;have hdc13_0:=gc13_0.toD;have hac13_0:=gc13_0.toA;have huc13_0:=gc13_0.qH;have hw13:IntKind.i64.wrap ((i13:Int)+1)=(i13:Int)+1:=Y5 _ (by omega)
    try simp[*]
    refine Z4.of (Wi.draw (Plan.qB [0,1,2,3,4,5,6,7,8,9,10,11,12] .done) follows (by kernel_rfl) ?_)
    try simp[*]
    replace hm:=hm.get;obtain⟨x15,h0x15,hxx15,hm⟩:=hm
    try simp[*]
    refine VJ (av:=[.agg x15.enc,.one (.d (.sl ((g_.edges[i13].script).map Stp.enc)))]) hm (λv hv=>Qp _ _ v hv) (by simp[*]) ?_;clear hm;intro v16 hvv16 hm
    try simp[*]
    try refine⟨λ(_:Z2) (_:List C) hl=>hl,?_⟩
    refine Zy hm ?_ ?_<;>clear hm<;>intro hc17 hm
    .try simp[*]
     obtain rfl:=Zh hm;exact V8 (vs:=[_,_]) (by simp[*];try exact⟨rfl,rfl⟩) (by simp[*])
    .try simp[*]
     refine AW (xs:=s13) (ys:=[v16.1]) (enc:=(Z6 (Z6 Rel.enc))) hm Hg (by first|exact Zi.nil|(simp(maxDischargeDepth:=20) [*];done)|(simp(maxDischargeDepth:=20) [*];refine⟨?_,by omega⟩;intro hq;subst hq;simp at hz2<;>omega)) (by simp[*]) (by decide) (by decide) (λ_=>rfl) ?_;clear hm;intro hl19 hm g18
     try simp[*]
     exact Ze.of (s13++[v16.1]) ⟨⟨c13_bb5_0,.own (h13.ep+3,992) ((s13++[v16.1]).map (Z6 (Z6 Rel.enc))),by simp(maxDischargeDepth:=20) [*],(by first|(simp[*];done)|exact(gc13_bb5_0.apart (by simp)).symm)⟩,hm⟩
   .rintro s13 e13 h13 ⟨c13_bb5_0,c13_0,⟨hn13,h13_2,h13_4,h13_6,h13_37,h13_38,h13_39,hb13_b2,hb13_b5,gc13_bb5_0,gc13_0⟩,apc13_bb5_0_c13_0⟩ hm;have hlc13_bb5_0:=gc13_bb5_0.list;have hdc13_bb5_0:=gc13_bb5_0.toD;have hac13_bb5_0:=gc13_bb5_0.toA;have huc13_bb5_0:=gc13_bb5_0.qH;have hlc13_0:=gc13_0.list;have hdc13_0:=gc13_0.toD;have hac13_0:=gc13_0.toA;have huc13_0:=gc13_0.qH
    try simp[*]
    obtain rfl:=Zh hm;exact V8 (vs:=[_,_]) (by simp[*];try exact⟨rfl,rfl⟩) (by simp[*])
instance Zcc(g_:Gr):Con (GB g_) prog 27 [.agg g_.enc] (λr=>.tup [.agg (r.1.enc.map RC.d),.one (.d (.int .i64 r.2))]):=⟨λr hm=>Sy g_ r hm⟩
def Gz(l:List Int):Option ((List GV)):=
 Zc (λ(i2:Nat) (x2:Int) (s2:(List GV)) next_2=>Z1 (GA x2) λv3=>W0 s2 [v3] λ_=>next_2 (s2++[v3])) (λ(s2:(List GV))=>some s2) l 0 []
instance Zc6(l:List Int):Con (Gz l) prog 31 [.one (.d (.sl (l.map Zd)))] (λr=>.one (.d (.sl (r.map GV.enc)))):=by
 unfold Gz;have l1:LH (σ:=(List GV)) 8 [6,7] [.g 3 3 (λs=>s.map GV.enc)]:=.intro;exact go 19 Tryz.func31
def IE(l:List Int):Option Chg:=
 Z1 (Gz l) λv2=>some (Chg.mk 1 ({data:=#[116]}) [] v2)
instance Zbs(l:List Int):Con (IE l) prog 28 [.one (.d (.sl (l.map Zd)))] (λr=>.agg (r.enc.map RC.d)):=by unfold IE;exact go 6 Tryz.func28
def IM(g_:Gr)(db:Db)(v_:Int):Option ((List Rel)×Int):=
 Z1 (AM g_ db) λv3=>bif (v3 !=0) then some ([],v3) else bif decide (v_<0) then some ([],4) else bif decide ((db.insts.length:Int)<=v_) then some ([],4) else Z7 db.insts v_ λx8=>Z1 (V9 x8) λv9=>some (v9,0)
instance Zc7(g_:Gr)(db:Db)(v_:Int):Con (IM g_ db v_) prog 29 [.agg g_.enc,.agg db.enc,.one (.d (.int .i64 v_))] (λr=>.tup [.one (.d (.sl (r.1.map Rel.enc))),.one (.d (.int .i64 r.2))]):=by unfold IM;exact go 30 Tryz.func29
def IB(a:List GV)(b:List GV):Option Bool:=
 bif ((a.length:Int) !=(b.length:Int)) then some false else Zc (λ(i5:Nat) (x5:GV) (s5:Unit) next_5=>Z7 b (i5:Int) λx6=>bif (!(x5.kind==x6.kind)||(!(x5.int==x6.int)||(!(x5.text==x6.text)))) then some false else next_5 ()) (λ(s5:Unit)=>some true) a 0 ()
instance Zbd(a:List GV)(b:List GV):Con (IB a b) prog 61 [.one (.d (.sl (a.map GV.enc))),.one (.d (.sl (b.map GV.enc)))] (λr=>.one (.d (.bool r))):=by unfold IB;have l1:LH (σ:=Unit) 13 [0,1,12] []:=.intro;have p1:PH [6] (Plan.qB [0,1,2,3,4,5,6,7,8] .done):=.intro;exact go 26 Tryz.func61
def Gq(a:List (List GV))(b:List (List GV)):Option Bool:=
 bif ((a.length:Int) !=(b.length:Int)) then some false else Zc (λ(i5:Nat) (x5:List GV) (s5:Unit) next_5=>Z7 b (i5:Int) λx6=>Z1 (IB x5 x6) λv7=>bif !v7 then some false else next_5 ()) (λ(s5:Unit)=>some true) a 0 ()
instance Zb4(a:List (List GV))(b:List (List GV)):Con (Gq a b) prog 30 [.one (.d (.sl (a.map (Z6 GV.enc)))),.one (.d (.sl (b.map (Z6 GV.enc))))] (λr=>.one (.d (.bool r))):=by unfold Gq;have l1:LH (σ:=Unit) 13 [0,1,12] []:=.intro;have p1:PH [6] (Plan.qB [0,1,2,3,4,5,6,7,8,9] .done):=.intro;exact go 27 Tryz.func30
def A4:Option Bool:=
 Z1 (Iv) λv1=>Z1 (GB v1) λv3=>bif (v3.2 !=0) then some false else Z1 (IE [1,2]) λv6=>Z1 (Ae v1 v3.1 0 [v6]) λv7=>bif (v7.2.2 !=0) then some false else Z1 (IM v1 v7.1 1) λv9=>bif (v9.2==0) then bif ((v9.1.length:Int)==1) then Z7 v9.1 0 λx13=>(Z1 (Gz [1,2,5]) λv14=>Z1 (Gq x13.rows [v14]) λv15=>some v15) else(some false) else some false
instance Za8  :Con (A4) prog 8 [] (λr=>.one (.d (.bool r))):=by unfold A4;have p1:PH [5] (Plan.qB [0,1,2,3,4,5,6,7,8,9,10,11] .done):=.intro;have p2:PH [9] (Plan.qB [0,1,2,3,4,5,6,7,8,9,10,11,12,13,14,15,16,17] .done):=.intro;exact go 48 Tryz.func8
instance Zac(slices:List (List (List Rel))):Con (DS slices) prog 32 [.one (.d (.sl (slices.map (Z6 (Z6 Rel.enc)))))] (λr=>.one (.d (.sl (r.map (Z6 Rel.enc))))):=⟨λr hm=>Qx slices r hm⟩
def FY(s_:List Rel)(f:Rel->Option Bool):Option Int:=
 Zc (λ(i2:Nat) (x2:Rel) (s2:Unit) next_2=>Z1 (f x2) λv3=>bif v3 then some (i2:Int) else next_2 ()) (λ(s2:Unit)=>some (-1)) s_ 0 ()
instance Z9w(s_:List Rel)(f:Rel->Option Bool){g:FuncId}{caps:List (List D)}[ConF f prog (λx=>.agg x.enc) (λv=>.one (.d (.bool v))) g caps]:Con (FY s_ f) prog 63 [.one (.d (.sl (s_.map Rel.enc))),.one (.fn g caps)] (λr=>.one (.d (.int .i64 r))):=by unfold FY;have l1:LH (σ:=Unit) 8 [0,1,7] []:=.intro;exact go 19 Tryz.func63
def FT(s_:List Rel)(f:Rel->Option Bool):Option Bool:=
 Z1 (FY s_ f) λv1=>some (decide (0<=v1))
instance Z9k(s_:List Rel)(f:Rel->Option Bool){g:FuncId}{caps:List (List D)}[ConF f prog (λx=>.agg x.enc) (λv=>.one (.d (.bool v))) g caps]:Con (FT s_ f) prog 33 [.one (.d (.sl (s_.map Rel.enc))),.one (.fn g caps)] (λr=>.one (.d (.bool r))):=by unfold FT;exact go 9 Tryz.func33
def Gg(r_:Rel):Option Bool:=
 some (decide (40<(r_.rows.length:Int)))
instance R1(r_:Rel):Con (Gg r_) prog 34 [.agg r_.enc] (λr=>.one (.d (.bool r))):=by unfold Gg;exact go 7 Tryz.func34
instance Zat  :ConF (λx=>Gg x) prog (λx=>.agg x.enc) (λr=>.one (.d (.bool r))) 34 []:=⟨λx=>(R1 x)⟩
def CH(g_:Gr)(db:Db)(changes:List Chg):Option Bool:=
 bif decide (8<(g_.edges.length:Int)) then some false else bif decide (9<(db.insts.length:Int)) then some false else bif decide (9<(db.comps.length:Int)) then some false else bif decide (50<(changes.length:Int)) then some false else Z1 (DS db.comps) λv11=>Z1 (DS [v11,db.insts]) λv12=>Zc (λ(i14:Nat) (x14:List Rel) (s14:Unit) next_14=>bif decide (20<(x14.length:Int)) then some false else Z1 (FT x14 (λxa_=>Gg xa_)) λv17=>bif v17 then some false else next_14 ()) (λ(s14:Unit)=>some true) v12 0 ()
instance Zbe(g_:Gr)(db:Db)(changes:List Chg):Con (CH g_ db changes) prog 9 [.agg g_.enc,.agg db.enc,.one (.d (.sl (changes.map Chg.enc)))] (λr=>.one (.d (.bool r))):=by unfold CH;have l1:LH (σ:=Unit) 38 [36,37] []:=.intro;have p1:PH [3] (Plan.qB [0,1,3,4,8,2,5,6,7] .done):=.intro;exact go 50 Tryz.func9
def Iq(a:List Rel)(b:List Rel):Option Bool:=
 bif ((a.length:Int) !=(b.length:Int)) then some false else Zc (λ(i5:Nat) (x5:Rel) (s5:Unit) next_5=>Z7 b (i5:Int) λx6=>bif !(strEq x5.table x6.table) then some false else Z1 (Gq x5.rows x6.rows) λv8=>bif !v8 then some false else next_5 ()) (λ(s5:Unit)=>some true) a 0 ()
instance Zad(a:List Rel)(b:List Rel):Con (Iq a b) prog 21 [.one (.d (.sl (a.map Rel.enc))),.one (.d (.sl (b.map Rel.enc)))] (λr=>.one (.d (.bool r))):=by unfold Iq;have l1:LH (σ:=Unit) 13 [0,1,12] []:=.intro;have p1:PH [6] (Plan.qB [0,1,2,3,4,5,6,7,8,9,10,11,12,13,14,15,16,17,18,19,20,21,22,23,24] .done):=.intro;exact go 42 Tryz.func21
def G3(a:List (List Rel))(b:List (List Rel)):Option Bool:=
 bif ((a.length:Int) !=(b.length:Int)) then some false else Zc (λ(i5:Nat) (x5:List Rel) (s5:Unit) next_5=>Z7 b (i5:Int) λx6=>Z1 (Iq x5 x6) λv7=>bif !v7 then some false else next_5 ()) (λ(s5:Unit)=>some true) a 0 ()
instance Za7(a:List (List Rel))(b:List (List Rel)):Con (G3 a b) prog 37 [.one (.d (.sl (a.map (Z6 Rel.enc)))),.one (.d (.sl (b.map (Z6 Rel.enc))))] (λr=>.one (.d (.bool r))):=by unfold G3;have l1:LH (σ:=Unit) 13 [0,1,12] []:=.intro;have p1:PH [6] (Plan.qB [0,1,2,3,4,5,6,7,8,9] .done):=.intro;exact go 27 Tryz.func37
def Ir(a:Db)(b:Db):Option Bool:=
 Z1 (G3 a.insts b.insts) λv3=>bif !v3 then some false else bif ((a.comps.length:Int) !=(b.comps.length:Int)) then some false else Zc (λ(i9:Nat) (x9:List (List Rel)) (s9:Unit) next_9=>Z7 b.comps (i9:Int) λx10=>Z1 (G3 x9 x10) λv11=>bif !v11 then some false else next_9 ()) (λ(s9:Unit)=>some true) a.comps 0 ()
instance Zae(a:Db)(b:Db):Con (Ir a b) prog 11 [.agg a.enc,.agg b.enc] (λr=>.one (.d (.bool r))):=by unfold Ir;have l1:LH (σ:=Unit) 24 [2,3,23] []:=.intro;have p1:PH [6] (Plan.qB [0,1,2,3,4,5,6,7,8,9,10,11] .done):=.intro;exact go 40 Tryz.func11
set_option maxRecDepth 100000 in
theorem Me:A4=some true:=by decide+kernel
theorem Nw{α:Type}{f:α->Option Bool}:∀(xs:List α) (i:Nat),(∀x∈xs,∃b,f x=some b)->Wp (Zc (λ(i:Nat) (x:α) (s:Unit) next=>Z1 (f x) λv=>bif v then some (i:Int) else next ()) (λ_=>some (-1)) xs i ()) λ_=>True
 |[],i,_=>Wp.ret trivial
 |x::xs,i,h=>by
   obtain⟨b,hb⟩:=h x sI;have ih:=Nw xs (i+1) λy hy=>h y (by simp[hy]);show Wp (Z1 (f x) _) _;rw[hb];cases b;exact ih;exact Wp.ret trivial
theorem TL(g:Gr)(db:Db)(aa:List Chg)(hl:db.comps.flatten.length+db.insts.length<=2097152):Wp (CH g db aa) λ_=>True:=by
 unfold CH DS;refine Wp.cond (λ_=>Wp.ret trivial) λ_=>Wp.cond (λ_=>Wp.ret trivial) λ_=>Wp.cond (λ_=>Wp.ret trivial) λ_=>Wp.cond (λ_=>Wp.ret trivial) λ_=>?_;refine Wp.bind (R:=λv=>v=db.comps.flatten) (Wp.chk oM (Wp.ret rfl)) λv _ hv=>?_;subst hv;refine Wp.bind (R:=λ_=>True) (Wp.chk (by simp only[Xp,List.flatten_nil,Ym,Ye];exact hl) (Wp.ret trivial)) λv _ hv=>?_;refine Wp.for (λ_ _=>True) trivial ?_ λ_ _=>Wp.ret trivial;intro i x s next _ _ _ hn
 refine Wp.cond (λ_=>Wp.ret trivial) λ_=>Wp.bind (R:=λ_=>True) ?_ λ_ _ _=>Wp.cond (λ_=>Wp.ret trivial) λ_=>hn () trivial;unfold FT FY;exact Wp.bind (Nw x 0 λr _=>⟨_,rfl⟩) λ_ _ _=>Wp.ret trivial
theorem Zhr(b:ByteArray):(b==b)=true:=by
 cases b with
 |mk d=>
   first
    |exact beq_self_eq_true _
    |(show(d==d)=true;exact beq_self_eq_true d)
theorem Zi2(a:List GV):Wp (IB a a) λb=>b=true:=by
 unfold IB;refine Wp.cond (λh=>by simp at h) λ_=>Wp.for (λ_ _=>True) trivial ?_ λ_ _=>Wp.ret rfl;intro i x s next hx _ _ hn
 exact Wp.qG hx (Wp.cond (λh=>by simp[Zhr] at h) λ_=>hn () trivial)
theorem Zi1(a:List (List GV)):Wp (Gq a a) λb=>b=true:=by
 unfold Gq;refine Wp.cond (λh=>by simp at h) λ_=>Wp.for (λ_ _=>True) trivial ?_ λ_ _=>Wp.ret rfl;intro i x s next hx _ _ hn
 refine Wp.qG hx (Wp.bind (Zi2 x) λb _ hb=>Wp.cond (λh=>by simp[hb] at h) λ_=>hn () trivial)
theorem Zi4(b:ByteArray):strEq b b=true:=by
 unfold strEq
 first|exact Zhr b|simp[Zhr]
theorem Zhz(a:List Rel):Wp (Iq a a) λb=>b=true:=by
 unfold Iq;refine Wp.cond (λh=>by simp at h) λ_=>Wp.for (λ_ _=>True) trivial ?_ λ_ _=>Wp.ret rfl;intro i x s next hx _ _ hn
 refine Wp.qG hx (Wp.cond (λh=>by simp[Zi4] at h) λ_=>Wp.bind (Zi1 x.rows) λb _ hb=>Wp.cond (λh=>by simp[hb] at h) λ_=>hn () trivial)
theorem Zhw(a:List (List Rel)):Wp (G3 a a) λb=>b=true:=by
 unfold G3;refine Wp.cond (λh=>by simp at h) λ_=>Wp.for (λ_ _=>True) trivial ?_ λ_ _=>Wp.ret rfl;intro i x s next hx _ _ hn
 refine Wp.qG hx (Wp.bind (Zhz x) λb _ hb=>Wp.cond (λh=>by simp[hb] at h) λ_=>hn () trivial)
theorem Zi0(a:Db):Wp (Ir a a) λb=>b=true:=by
 unfold Ir;refine Wp.bind (Zhw a.insts) λb _ hb=>Wp.cond (λh=>by simp[hb] at h) λ_=>Wp.cond (λh=>by simp at h) λ_=>Wp.for (λ_ _=>True) trivial ?_ λ_ _=>Wp.ret rfl;intro i x s next hx _ _ hn
 refine Wp.qG hx (Wp.bind (Zhw x) λb _ hb=>Wp.cond (λh=>by simp[hb] at h) λ_=>hn () trivial)
def fe:Nat->List Int->Option (Int×Int)
 |_,[]=>none
 |i,x::xs=>bif x !=0 then some (i,x) else fe (i+1) xs
theorem Pk{ρ:Type}{A:Int->Int->Option ρ}{B:Option ρ}:∀(xs:List Int) (i:Nat),Zc (λ(i:Nat) (x:Int) (_:Unit) next=>bif x !=0 then A (i:Int) x else next ()) (λ_=>B) xs i ()=match fe i xs with
  |some q=>A q.1 q.2
  |none=>B
 |[],_=>rfl
 |x::xs,i=>by
   have ih:=Pk (A:=A) (B:=B) xs (i+1);show(bif x !=0 then A (i:Int) x else Zc _ _ xs (i+1) ())=_;unfold fe;cases h:x !=0 with
   |true=>simp
   |false=>simp only[cond_false];exact ih
theorem Z3f{g:Gr}{db:Db}{v:Int}{cs:List Chg}{p:Db×List Int×Int}(h:BV g db v cs=some p):Ae g db v cs=some (bif p.2.2 !=0 then(⟨[],[]⟩,0,p.2.2) else match fe 0 p.2.1 with
  |some q=>(⟨[],[]⟩,q.1,q.2)
  |none=>(p.1,0,0)):=by
 unfold Ae;rw[h];show(bif p.2.2 !=0 then _ else _)=_;cases hp:p.2.2 !=0 with
 |true=>rfl
 |false=>?_
 simp only[cond_false];rw[Pk (A:=λk e=>some ((⟨[],[]⟩:Db),k,e))];cases fe 0 p.2.1<;>rfl
instance Zaj(slices:List (List Chg)):Con (Gd slices) prog 14 [.one (.d (.sl (slices.map (Z6 Chg.enc))))] (λr=>.one (.d (.sl (r.map Chg.enc)))):=⟨λr hm=>QO slices r hm⟩
def AI(g_:Gr)(db:Db)(u:Int)(a:List Chg)(v_:Int)(b:List Chg):Option (Db×Bool):=
 Z1 (Ae g_ db u a) λv4=>bif (v4.2.2 !=0) then some ((Db.mk [] []),false) else Z1 (Ae g_ v4.1 v_ b) λv7=>some (v7.1,(v7.2.2==0))
instance Zan(g_:Gr)(db:Db)(u:Int)(a:List Chg)(v_:Int)(b:List Chg):Con (AI g_ db u a v_ b) prog 40 [.agg g_.enc,.agg db.enc,.one (.d (.int .i64 u)),.one (.d (.sl (a.map Chg.enc))),.one (.d (.int .i64 v_)),.one (.d (.sl (b.map Chg.enc)))] (λr=>.tup [.agg (r.1.enc.map RC.d),.one (.d (.bool r.2))]):=by unfold AI;exact go 43 Tryz.func40
def CA(g_:Gr)(db:Db)(u:Int)(a:List Chg)(v_:Int)(b:List Chg):Option (Bool×Int):=
 Z1 (AM g_ db) λv3=>bif (v3 !=0) then some (false,v3) else bif decide ((if v_<u then v_ else u)<0) then some (false,4) else bif decide ((db.insts.length:Int)<=(if u<v_ then v_ else u)) then some (false,4) else Z1 (AI g_ db u a v_ b) λv8=>Z1 (AI g_ db v_ b u a) λv10=>bif v8.2 then bif v10.2 then Z1 (G0 v8.1.insts v10.1.insts (λxa_ xb_=>Ad xa_ xb_)) λv14=>(some (v14,0)) else(some (false,0)) else some (false,0)
instance Zax(g_:Gr)(db:Db)(u:Int)(a:List Chg)(v_:Int)(b:List Chg):Con (CA g_ db u a v_ b) prog 15 [.agg g_.enc,.agg db.enc,.one (.d (.int .i64 u)),.one (.d (.sl (a.map Chg.enc))),.one (.d (.int .i64 v_)),.one (.d (.sl (b.map Chg.enc)))] (λr=>.tup [.one (.d (.bool r.1)),.one (.d (.int .i64 r.2))]):=by unfold CA;exact go 69 Tryz.func15
def FR(g_:Gr)(db:Db)(u:Int)(a:List Chg)(v_:Int)(b:List Chg):Option Bool:=
 Z1 (A4) λv3=>bif !v3 then Z1 (A4) λv5=>(some v5) else Z1 (Gd [a,b]) λv6=>Z1 (CH g_ db v6) λv7=>bif !v7 then Z1 (A4) λv9=>(some v9) else Z1 (CA g_ db u a v_ b) λv10=>Z1 (CA g_ db v_ b u a) λv11=>bif (v10.1==v11.1) then some (v10.2==v11.2) else some false
instance Q4(g_:Gr)(db:Db)(u:Int)(a:List Chg)(v_:Int)(b:List Chg):Con (FR g_ db u a v_ b) prog 4 [.agg g_.enc,.agg db.enc,.one (.d (.int .i64 u)),.one (.d (.sl (a.map Chg.enc))),.one (.d (.int .i64 v_)),.one (.d (.sl (b.map Chg.enc)))] (λr=>.one (.d (.bool r))):=by unfold FR;have p1:PH [1] (Plan.qB [0,1,2,3,4,5,6,7,8,9,10,11] .done):=.intro;exact go 58 Tryz.func4
def If(l:List (List (List Rel)))(f:(List (List Rel))->Option (List (List Rel))):Option ((List (List (List Rel)))):=
 Zc (λ(i2:Nat) (x2:List (List Rel)) (s2:(List (List (List Rel)))) next_2=>Z1 (f x2) λv3=>W0 s2 [v3] λ_=>next_2 (s2++[v3])) (λ(s2:(List (List (List Rel))))=>some s2) l 0 []
instance Z9m(l:List (List (List Rel)))(f:(List (List Rel))->Option (List (List Rel))){g:FuncId}{caps:List (List D)}[ConF f prog (λx=>.one (.d (.sl (x.map (Z6 Rel.enc))))) (λv=>.one (.d (.sl (v.map (Z6 Rel.enc))))) g caps]:Con (If l f) prog 67 [.one (.d (.sl (l.map (Z6 (Z6 Rel.enc))))),.one (.fn g caps)] (λr=>.one (.d (.sl (r.map (Z6 (Z6 Rel.enc)))))):=by
 unfold If;have l1:LH (σ:=(List (List (List Rel)))) 10 [1,8,9] [.g 5 1 (λs=>s.map (Z6 (Z6 Rel.enc)))]:=.intro;exact go 22 Tryz.func67
def IH(db:Db):Option Db:=
 Z1 (AL db.insts) λv3=>Z1 (If db.comps (λxa_=>AL xa_)) λv4=>some (Db.mk v3 v4)
instance Sa(db:Db):Con (IH db) prog 36 [.agg db.enc] (λr=>.agg (r.enc.map RC.d)):=by unfold IH;have p1:PH [1] (Plan.qB [0,1,3,4,2,5,6,7] .done):=.intro;exact go 10 Tryz.func36
def Ei(g_:Gr)(db:Db)(writes:List Wr):Option (Db×(List Rej)×Int):=
 bif decide (60<(writes.length:Int)) then some ((Db.mk [] []),[],2) else Z1 (AM g_ db) λv6=>bif (v6 !=0) then some ((Db.mk [] []),[],v6) else Z1 (IH db) λv8=>Zc (λ(i10:Nat) (x10:Wr) (s10:(List Rej)×(List (List Rel))×(List (List (List Rel)))) next_10=>Z1 (Ae g_ (Db.mk s10.2.1 s10.2.2) x10.version x10.changes) λv12=>W0 s10.1 [(Rej.mk v12.2.1 v12.2.2)] λ_=>bif (v12.2.2==0) then next_10 ((s10.1++[(Rej.mk v12.2.1 v12.2.2)]),v12.1.insts,v12.1.comps) else next_10 ((s10.1++[(Rej.mk v12.2.1 v12.2.2)]),s10.2.1,s10.2.2)) (λ(s10:(List Rej)×(List (List Rel))×(List (List (List Rel))))=>some ((Db.mk s10.2.1 s10.2.2),s10.1,0)) writes 0 ([],v8.insts,v8.comps)
theorem RA(g_:Gr)(db:Db)(writes:List Wr)(r:Db×(List Rej)×Int)(hm:Is (Ei g_ db writes) r):Zj prog 10 [.agg g_.enc,.agg db.enc,.one (.d (.sl (writes.map Wr.enc)))] (.tup [.agg (r.1.enc.map RC.d),.one (.d (.sl (r.2.1.map Rej.enc))),.one (.d (.int .i64 r.2.2))]):=by
 unfold Ei at hm;refine Zj.qN Tryz.func10 rfl (by kernel_rfl) (n:=58) rfl rfl (by simp) ?_
 try simp[*]
 intro hl4;replace hl4:writes.length<=2097152:=by simpa using hl4
 refine Zy hm ?_ ?_<;>clear hm<;>intro hc5 hm
 .try simp[*]
  obtain rfl:=Zh hm;exact V8 (vs:=[_,_,_]) (by simp[*];try exact⟨rfl,rfl,rfl⟩) (by simp[*])
 .try simp[*]
  refine VJ (av:=[.agg g_.enc,.agg db.enc]) hm (λv hv=>Lx _ _ v hv) (by simp[*]) ?_;clear hm;intro v6 hvv6 hm
  try simp[*]
  refine Zy hm ?_ ?_<;>clear hm<;>intro hc7 hm
  .try simp[*]
   obtain rfl:=Zh hm;exact V8 (vs:=[_,_,_]) (by simp[*];try exact⟨rfl,rfl,rfl⟩) (by simp[*])
  .try simp[*]
   refine VJ (av:=[.agg db.enc]) hm (λv hv=>Sa _ v hv) (by simp[*]) ?_;clear hm;intro v8 hvv8 hm
   try simp[*]
   refine Z4.for (xs:=writes) (s0:=([],v8.insts,v8.comps)) (λi10 s10 e10 h10=>∃c10_0:C,e10.n=58/\e10.get 3=.one (.ptr (0,48) 0)/\e10.get 4=.one (.ptr (1,64) 0)/\e10.get 6=.one (.ptr (2,96) 0)/\e10.get 10=.one c10_0/\e10.get 29=.one (.d (.sl (writes.map Wr.enc)))/\e10.get 30=.one (.d (.int .i64 (writes.length:Int)))/\e10.get 31=.one (.d (.int .i64 (i10:Int)))/\h10.box (0,48)=some [.d (.sl (g_.base.tables.map Tbl.enc)),.d (.sl (g_.base.fks.map Fk.enc)),.d (.sl (g_.base.cons.map Cons.enc)),.d (.sl (g_.edges.map Edg.enc))]/\h10.box (1,64)=some [.d (.sl (s10.2.1.map (Z6 Rel.enc))),.d (.sl (s10.2.2.map (Z6 (Z6 Rel.enc))))]/\h10.box (2,96)=some [.nil,.nil]/\Zi h10 2 c10_0 (s10.1.map Rej.enc)) hm ⟨.nil,by simp(maxDischargeDepth:=20) [*]⟩ ?_ ?_
   .rintro i10 s10 e10 h10 ⟨c10_0,hn10,h10_3,h10_4,h10_6,h10_10,h10_29,h10_30,h10_31,hb10_b1,hb10_b2,hb10_b3,gc10_0⟩ hlt10 hm;have hlc10_0:=gc10_0.list;have hdc10_0:=gc10_0.toD;have hac10_0:=gc10_0.toA;have huc10_0:=gc10_0.qH;have hw10:IntKind.i64.wrap ((i10:Int)+1)=(i10:Int)+1:=Y5 _ (by omega)
    try simp[*]
    refine VJ (av:=[.agg g_.enc,.agg (Db.mk s10.2.1 s10.2.2).enc,.one (.d (.int .i64 (writes[i10].version))),.one (.d (.sl ((writes[i10].changes).map Chg.enc)))]) hm (λv hv=>S7 _ _ _ _ v hv) (by simp[*]) ?_;clear hm;intro v12 hvv12 hm
    try simp[*]
    refine AW (xs:=s10.1) (ys:=[(Rej.mk v12.2.1 v12.2.2)]) (enc:=Rej.enc) hm Kk (by first|exact Zi.nil|(simp(maxDischargeDepth:=20) [*];done)|(simp(maxDischargeDepth:=20) [*];refine⟨?_,by omega⟩;intro hq;subst hq;simp at hz2<;>omega)) (by simp[*]) (by decide) (by decide) (λ_=>rfl) ?_;clear hm;intro hl15 hm g14
    try simp[*]
    refine Zy hm ?_ ?_<;>clear hm<;>intro hc16 hm
    .try simp[*]
     exact Ze.of ((s10.1++[(Rej.mk v12.2.1 v12.2.2)]),v12.1.insts,v12.1.comps) ⟨⟨.own (h10.ep+4,816) ((s10.1++[(Rej.mk v12.2.1 v12.2.2)]).map Rej.enc),by simp(maxDischargeDepth:=20) [*]⟩,hm⟩
    .try simp[*]
     exact Ze.of ((s10.1++[(Rej.mk v12.2.1 v12.2.2)]),s10.2.1,s10.2.2) ⟨⟨.own (h10.ep+4,816) ((s10.1++[(Rej.mk v12.2.1 v12.2.2)]).map Rej.enc),by simp(maxDischargeDepth:=20) [*]⟩,hm⟩
   .rintro s10 e10 h10 ⟨c10_0,hn10,h10_3,h10_4,h10_6,h10_10,h10_29,h10_30,h10_31,hb10_b1,hb10_b2,hb10_b3,gc10_0⟩ hm;have hlc10_0:=gc10_0.list;have hdc10_0:=gc10_0.toD;have hac10_0:=gc10_0.toA;have huc10_0:=gc10_0.qH
    try simp[*]
    obtain rfl:=Zh hm;exact V8 (vs:=[_,_,_]) (by simp[*];try exact⟨rfl,rfl,rfl⟩) (by simp[*])
instance Zbj(g_:Gr)(db:Db)(writes:List Wr):Con (Ei g_ db writes) prog 10 [.agg g_.enc,.agg db.enc,.one (.d (.sl (writes.map Wr.enc)))] (λr=>.tup [.agg (r.1.enc.map RC.d),.one (.d (.sl (r.2.1.map Rej.enc))),.one (.d (.int .i64 r.2.2))]):=⟨λr hm=>RA g_ db writes r hm⟩
def Ih(s_:List Rej)(f:Rej->Option Bool):Option Int:=
 Zc (λ(i2:Nat) (x2:Rej) (s2:Unit) next_2=>Z1 (f x2) λv3=>bif v3 then some (i2:Int) else next_2 ()) (λ(s2:Unit)=>some (-1)) s_ 0 ()
instance Z9q(s_:List Rej)(f:Rej->Option Bool){g:FuncId}{caps:List (List D)}[ConF f prog (λx=>.agg x.enc) (λv=>.one (.d (.bool v))) g caps]:Con (Ih s_ f) prog 38 [.one (.d (.sl (s_.map Rej.enc))),.one (.fn g caps)] (λr=>.one (.d (.int .i64 r))):=by unfold Ih;have l1:LH (σ:=Unit) 8 [0,1,7] []:=.intro;exact go 19 Tryz.func38
def Ib(s_:List Rej)(f:Rej->Option Bool):Option Bool:=
 Z1 (Ih s_ f) λv1=>some (decide (0<=v1))
instance Z9j(s_:List Rej)(f:Rej->Option Bool){g:FuncId}{caps:List (List D)}[ConF f prog (λx=>.agg x.enc) (λv=>.one (.d (.bool v))) g caps]:Con (Ib s_ f) prog 12 [.one (.d (.sl (s_.map Rej.enc))),.one (.fn g caps)] (λr=>.one (.d (.bool r))):=by unfold Ib;exact go 9 Tryz.func12
def FQ(r_:Rej):Option Bool:=
 some (r_.err !=0)
instance Q3(r_:Rej):Con (FQ r_) prog 13 [.agg r_.enc] (λr=>.one (.d (.bool r))):=by unfold FQ;exact go 6 Tryz.func13
instance Z9f  :ConF (λx=>FQ x) prog (λx=>.agg x.enc) (λr=>.one (.d (.bool r))) 13 []:=⟨λx=>(Q3 x)⟩
def L9(g_:Gr)(db:Db)(writes:List Wr):Option Bool:=
 Z1 (A4) λv3=>bif !v3 then Z1 (A4) λv5=>(some v5) else Z1 (CH g_ db []) λv6=>bif !v6 then Z1 (A4) λv8=>(some v8) else bif decide (12<(writes.length:Int)) then Z1 (A4) λv11=>(some v11) else Z1 (Ei g_ db writes) λv12=>bif (v12.2.2 !=0) then some true else bif ((v12.2.1.length:Int) !=(writes.length:Int)) then some false else Zc (λ(i19:Nat) (x19:Wr) (s19:(List Wr)) next_19=>Z7 v12.2.1 (i19:Int) λx21=>bif (x21.err==0) then W0 s19 [x19] λ_=>(next_19 (s19++[x19])) else next_19 s19) (λ(s19:(List Wr))=>Z1 (Ei g_ db s19) λv25=>bif (v25.2.2==0) then Z1 (Ir v25.1 v12.1) λv28=>(bif v28 then Z1 (Ib v25.2.1 (λxa_=>FQ xa_)) λv30=>(some !v30) else some false) else some false) writes 0 []
instance Z9g(g_:Gr)(db:Db)(writes:List Wr):Con (L9 g_ db writes) prog 3 [.agg g_.enc,.agg db.enc,.one (.d (.sl (writes.map Wr.enc)))] (λr=>.one (.d (.bool r))):=by
 unfold L9;have l1:LH (σ:=(List Wr)) 45 [3,4,7,8,43,44] [.g 10 2 (λs=>s.map Wr.enc)]:=.intro;exact go 81 Tryz.func3
theorem OI{g:Gr}(hx:Ds g)(db:Db)(v:Int)(cs:List Chg):∃r,Ae g db v cs=some r:=by obtain⟨p,hp,-⟩:=Z5q hx db v cs;exact⟨_,Z3f hp⟩
def wv(g:Gr)(db:Db)(w:Wr):Db×Int×Int:=(Ae g db w.version w.changes).getD (⟨[],[]⟩,0,0)
theorem Zi5{g:Gr}(hx:Ds g)(db:Db)(w:Wr):Ae g db w.version w.changes=some (wv g db w):=by obtain⟨r,hr⟩:=OI hx db w.version w.changes;unfold wv;rw[hr];rfl
def rp(g:Gr):Db->List Wr->Db×List Rej
 |db,[]=>(db,[])
 |db,w::ws=>((rp g (bif (wv g db w).2.2==0 then(wv g db w).1 else db) ws).1,⟨(wv g db w).2.1,(wv g db w).2.2⟩::(rp g (bif (wv g db w).2.2==0 then(wv g db w).1 else db) ws).2)
def Vs(g:Gr):Db->List Wr->List Wr
 |_,[]=>[]
 |db,w::ws=>bif (wv g db w).2.2==0 then w::Vs g (wv g db w).1 ws else Vs g db ws
theorem Zhy(g:Gr):∀(ws:List Wr) (db:Db),(rp g db ws).2.length=ws.length
 |[],_=>rfl
 |w::ws,db=>by unfold rp;simp only[YN];rw[Zhy g ws]
theorem Zhs(g:Gr):∀(ws:List Wr) (db:Db),(Vs g db ws).length<=ws.length
 |[],_=>Y7 _
 |w::ws,db=>by unfold Vs;have h1:=Zhs g ws (wv g db w).1;have h2:=Zhs g ws db;cases(wv g db w).2.2==0<;>simp<;>omega
theorem Zhu(g:Gr):∀(ws:List Wr) (db:Db),(rp g db (Vs g db ws)).1=(rp g db ws).1/\∀r∈(rp g db (Vs g db ws)).2,r.err=0
 |[],_=>⟨rfl,λr hr=>by cases hr⟩
 |w::ws,db=>by
   unfold Vs;cases h:(wv g db w).2.2==0 with|true=>?_|false=>?_;have ih:=Zhu g ws (wv g db w).1;simp only[cond_true];unfold rp;rw[h];simp only[cond_true];refine⟨ih.1,λr hr=>?_⟩;rcases Y9.1 hr with rfl|hr;simpa using h;exact ih.2 r hr;have ih:=Zhu g ws db;simp only[cond_false];refine⟨?_,ih.2⟩;rw[ih.1]
   conv=>rhs;unfold rp
   rw[h];rfl
theorem Zhq{g:Gr}(hx:Ds g){ρ:Type}{K:List Rej×List (List Rel)×List (List (List Rel))->Option ρ}:∀(ws:List Wr) (i:Nat) (out:List Rej) (db:Db),out.length+ws.length<=2097152->
  Zc (λ(i10:Nat) (ab:Wr) (aa:(List Rej)×(List (List Rel))×(List (List (List Rel)))) next_10=>(Z1 (Ae g (Db.mk aa.2.1 aa.2.2) ab.version ab.changes) λv12=>(W0 aa.1 [(Rej.mk v12.2.1 v12.2.2)] λ_=>(bif (v12.2.2==0) then(next_10 ((aa.1++[(Rej.mk v12.2.1 v12.2.2)]),v12.1.insts,v12.1.comps)) else(next_10 ((aa.1++[(Rej.mk v12.2.1 v12.2.2)]),aa.2.1,aa.2.2)))))) K ws i (out,db.insts,db.comps)=K (out++(rp g db ws).2,(rp g db ws).1.insts,(rp g db ws).1.comps)
 |[],i,out,db,_=>by simp[Zc,rp]
 |w::ws,i,out,db,hl=>by simp only[YN] at hl;show Z1 (Ae g db w.version w.changes) _=_;rw[Zi5 hx db w];show Zp _ _=_;unfold Zp;rw[if_pos (by have:=Vh;simp;omega)];unfold rp;cases h:(wv g db w).2.2==0 with|true=>?_|false=>?_;have ih:=Zhq hx (K:=K) ws (i+1) (out++[⟨(wv g db w).2.1,(wv g db w).2.2⟩]) (wv g db w).1 sO;simp only[cond_true];refine Eq.trans ih ?_;simp;have ih:=Zhq hx (K:=K) ws (i+1) (out++[⟨(wv g db w).2.1,(wv g db w).2.2⟩]) db sO;simp only[cond_false];refine Eq.trans ih ?_;simp
theorem Zht{g:Gr}{ρ:Type}{K:List Wr->Option ρ}:∀(ws:List Wr) (pre:List Rej) (s:List Wr) (db:Db),s.length+ws.length<=2097152->
  Zc (λ(i19:Nat) (ab:Wr) (aa:(List Wr)) next_19=>(Z7 (pre++(rp g db ws).2) (i19:Int) λac=>(bif (ac.err==0) then(W0 aa [ab] λ_=>(next_19 (aa++[ab]))) else(next_19 aa)))) K ws pre.length s=K (s++Vs g db ws)
 |[],pre,s,db,_=>by simp[Zc,Vs]
 |w::ws,pre,s,db,hl=>by
   simp only[YN] at hl;have hg:∀{β:Type} {F:Rej->Option β},Z7 (pre++(rp g db (w::ws)).2) (pre.length:Int) F=F ⟨(wv g db w).2.1,(wv g db w).2.2⟩:=by intro β F;unfold Z7;rw[if_pos oM];simp[rp];rfl
   show Z7 (pre++(rp g db (w::ws)).2) (pre.length:Int) _=_;rw[hg];have e1:pre++(rp g db (w::ws)).2=(pre++[⟨(wv g db w).2.1,(wv g db w).2.2⟩])++(rp g (bif (wv g db w).2.2==0 then(wv g db w).1 else db) ws).2:=by simp[rp]
   rw[e1];unfold Vs;cases h:(wv g db w).2.2==0 with|true=>?_|false=>?_;have ih:=Zht (g:=g) (K:=K) ws (pre++[⟨(wv g db w).2.1,(wv g db w).2.2⟩]) (s++[w]) (wv g db w).1 sO;simp only[cond_true];show Zp _ _=_;unfold Zp;rw[if_pos (by have:=Vh;simp;omega)];simp only[Ye,YN,Xt] at ih;refine Eq.trans ih ?_;simp;have ih:=Zht (g:=g) (K:=K) ws (pre++[⟨(wv g db w).2.1,(wv g db w).2.2⟩]) s db oM;simp only[cond_false];simp only[Ye,YN,Xt] at ih;exact ih
theorem Zi3{db:Db}(h:L4 db)(h1:db.insts.length<=2097152)(h2:db.comps.length<=2097152):IH db=some db:=by
 unfold IH;rw[Tx h1 h.1];show Z1 (If db.comps _) _=_
 have:If db.comps (λaa=>AL aa)=some db.comps:=
  H2 (f:=λx=>AL x) (g:=λ_ v=>v) db.comps 0 [] (by simpa using h2) λx hm=>⟨x,Tx (h.2 x hm).1 (h.2 x hm).2,rfl⟩
 rw[this];rfl
theorem Zhx{g:Gr}(hx:Ds g){db:Db}{Ss}(d:DbV g db Ss)(hv:AM g db=some 0)(ws:List Wr)(hl:ws.length<=12):Ei g db ws=some ((rp g db ws).1,(rp g db ws).2,0):=by have ac:=d.li;have ab:=d.lc;have ad:=d.ver.l7;have aa:=d.ver.len;unfold Ei;rw[show decide (60<(ws.length:Int))=false by simp;omega,hv];show Z1 (IH db) _=_;rw[Zi3 d.ok oM oM];refine Eq.trans (Zhq hx ws 0 [] db sO) ?_;simp
theorem Zi6(g:Gr)(db:Db)(ws:List Wr)(hx:Ds g)(hl:db.comps.flatten.length+db.insts.length<=2097152):L9 g db ws=some true:=by
 refine Ax ?_;unfold L9;refine Wp.bind (Wa Me) λw _ hw=>?_;subst hw;have aa:Wp (Z1 A4 λv=>some v) λr=>r=true:=Wp.bind (Wa Me) λw _ hw=>Wp.ret hw;refine Wp.cond (λh=>by cases h) λ_=>Wp.bind (TL g db [] hl) λb _ _=>Wp.cond (λ_=>aa) λ_=>Wp.cond (λ_=>aa) λab=>?_;have ab:ws.length<=12:=by simp at ab;omega
 obtain⟨e,he,hd⟩:=Mg hx db;by_cases h0:e=0
 .subst h0;obtain⟨Ss,d⟩:=hd rfl;have ha:=Zhs g ws db;refine Wp.bind (Wa (Zhx hx d he ws ab)) λq _ hq=>?_;subst hq;refine Wp.cond (λh=>by cases h) λ_=>Wp.cond (λh=>by simp[Zhy] at h) λ_=>?_
  have:=Zht (g:=g) (K:=λ(ad:List Wr)=>(Z1 (Ei g db ad) λac=>(bif (ac.2.2==0) then(Z1 (Ir ac.1 (rp g db ws).1) λv28=>(bif v28 then(Z1 (Ib ac.2.1 (λaf=>FQ af)) λah=>(some !ah)) else(some false))) else(some false)))) ws [] [] db sO
  simp only[Yn,Xt] at this;refine Eq.mpr (congrArg (λm=>Wp m _) this) ?_;have hr:=Zhu g ws db;refine Wp.bind (Wa (Zhx hx d he (Vs g db ws) oM)) λq _ hq=>?_;subst hq;refine Wp.cond (λ_=>?_) λh=>by cases h
  simp only[hr.1];refine Wp.bind (Zi0 _) λr _ ae=>Wp.cond (λ_=>?_) λh=>by rw[ae] at h;cases h
  unfold Ib Ih;refine Wp.bind (R:=λb=>b=false) (Wp.bind (R:=λk:Int=>k=-1) (Wp.for (λ_ _=>True) trivial ?_ λ_ _=>Wp.ret rfl) λk _ hk=>Wp.ret (by subst hk;rfl)) λb _ hb=>Wp.ret (by subst hb;rfl);intro i x s next ag hm _ hn
  refine Wp.bind (Wa rfl) λb _ hb=>Wp.cond (λh=>?_) λ_=>hn () trivial;subst hb
  have:=hr.2 x hm
  simp[this] at h
 have hc:Wp (Ei g db ws) λq=>q.2.2=e:=by
  unfold Ei;refine Wp.cond (λh=>by simp at h;omega) λ_=>Wp.bind (Wa he) λq _ hq=>?_;subst hq;exact Wp.cond (λ_=>Wp.ret rfl) λh=>absurd (by simpa using h) h0
 refine Wp.bind hc λq _ hq=>Wp.cond (λ_=>Wp.ret rfl) λh=>absurd (by rw[hq] at h;simpa using h) h0
theorem Z6u{P:Program}{B n:Nat}{t:TypeId}{ds:List D}(hu:P.underlying t=some (.int .i64))(h:ZM P B n t ds):∃v:Int,ds=Zd v:=by
 cases n with
 |zero=>cases h
 |succ n=>simp only[ZM,hu] at h;obtain⟨v,h1,_⟩:=h;exact⟨v,h1⟩
theorem Z4q{P:Program}{B n:Nat}{t:TypeId}{ds:List D}(hu:P.underlying t=some .bool)(h:ZM P B n t ds):∃v:Bool,ds=HY v:=by
 cases n with
 |zero=>cases h
 |succ n=>simp only[ZM,hu] at h;exact h
theorem Z0u{P:Program}{B n:Nat}{t:TypeId}{ds:List D}(hu:P.underlying t=some .string)(h:ZM P B n t ds):∃v:ByteArray,ds=FI v:=by
 cases n with
 |zero=>cases h
 |succ n=>simp only[ZM,hu] at h;exact h
theorem Um{P:Program}{B n:Nat}{t e:TypeId}{ds:List D}(hu:P.underlying t=some (.slice e))(h:ZM P B n t ds):∃m xs,ds=[.sl xs]/\xs.length<=B/\∀x∈xs,ZM P B m e x:=by
 cases n with
 |zero=>cases h
 |succ n=>simp only[ZM,hu] at h;obtain⟨xs,h1,h2,h3⟩:=h;exact⟨n,xs,h1,h2,h3⟩
theorem Uv{P:Program}{B n:Nat}{t:TypeId}{fs:Array Field}{ds:List D}(hu:P.underlying t=some (.struct fs))(h:ZM P B n t ds):∃m,HN (ZM P B m) fs.toList ds:=by
 cases n with
 |zero=>cases h
 |succ n=>simp only[ZM,hu] at h;exact⟨n,h⟩
theorem U0{α:Type}{enc:α->List D}{S:α->Prop}:∀{xs:List (List D)},(∀x∈xs,∃v,x=enc v/\S v)->∃vs:List α,xs=vs.map enc/\vs.length=xs.length/\∀v∈vs,S v
 |[],_=>⟨[],rfl,rfl,by simp⟩
 |x::xs,h=>by
   obtain⟨v,h1,h2⟩:=h x sI;obtain⟨vs,h3,h4,h5⟩:=U0 λy hy=>h y (Yc _ hy);exact⟨v::vs,by simp[h1,<-h3],by simp[h4],by simpa using⟨h2,h5⟩⟩
theorem UH{B n:Nat}{ds:List D}(h:ZM prog B n 3 ds):∃v:Int,ds=Zd v/\True:=by obtain⟨v,hv⟩:=Z6u Tryz.underlying3 h;exact⟨v,hv,trivial⟩
theorem Ua{B n:Nat}{ds:List D}(h:ZM prog B n 9 ds):∃v:ByteArray,ds=FI v/\True:=by obtain⟨v,hv⟩:=Z0u Tryz.underlying9 h;exact⟨v,hv,trivial⟩
def FB(B:Nat)(x:GV):Prop:=True/\True/\True
theorem KG{B n:Nat}{ds:List D}(h:ZM prog B n 127 ds):∃v:GV,ds=v.enc/\FB B v:=by obtain⟨m,hm⟩:=Uv Tryz.underlying127 h;obtain⟨a0,r0,e0,t0,hm⟩:=hm;obtain⟨v0,w0,b0⟩:=UH t0;obtain⟨a1,r1,e1,t1,hm⟩:=hm;obtain⟨v1,w1,b1⟩:=UH t1;obtain⟨a2,r2,e2,t2,hm⟩:=hm;obtain⟨v2,w2,b2⟩:=Ua t2;have e3:r2=[]:=hm;subst w0 w1 w2;refine⟨⟨v0,v1,v2⟩,?_,b0,b1,b2⟩;rw[e0,e1,e2,e3];rfl
theorem Z9a{B n:Nat}{ds:List D}(h:ZM prog B n 4 ds):∃v:Bool,ds=HY v/\True:=by obtain⟨v,hv⟩:=Z4q Tryz.underlying4 h;exact⟨v,hv,trivial⟩
def KV(B:Nat)(x:Col):Prop:=True/\True/\True
theorem Z83{B n:Nat}{ds:List D}(h:ZM prog B n 125 ds):∃v:Col,ds=v.enc/\KV B v:=by obtain⟨m,hm⟩:=Uv Tryz.underlying125 h;obtain⟨a0,r0,e0,t0,hm⟩:=hm;obtain⟨v0,w0,b0⟩:=Ua t0;obtain⟨a1,r1,e1,t1,hm⟩:=hm;obtain⟨v1,w1,b1⟩:=UH t1;obtain⟨a2,r2,e2,t2,hm⟩:=hm;obtain⟨v2,w2,b2⟩:=Z9a t2;have e3:r2=[]:=hm;subst w0 w1 w2;refine⟨⟨v0,v1,v2⟩,?_,b0,b1,b2⟩;rw[e0,e1,e2,e3];rfl
def PC(B:Nat)(xs:List Col):Prop:=xs.length<=B/\∀x∈xs,KV B x
theorem Z84{B n:Nat}{ds:List D}(h:ZM prog B n 114 ds):∃v:List Col,ds=[.sl (v.map Col.enc)]/\PC B v:=by
 obtain⟨m,xs,rfl,hl,hx⟩:=Um Tryz.underlying114 h;obtain⟨vs,rfl,h1,h2⟩:=U0 (enc:=Col.enc) (S:=λx=>KV B x) λx aa=>Z83 (hx x aa);exact⟨vs,rfl,by simpa using hl,h2⟩
def I4(B:Nat)(xs:List Int):Prop:=xs.length<=B/\∀x∈xs,True
theorem KQ{B n:Nat}{ds:List D}(h:ZM prog B n 74 ds):∃v:List Int,ds=[.sl (v.map Zd)]/\I4 B v:=by
 obtain⟨m,xs,rfl,hl,hx⟩:=Um Tryz.underlying74 h;obtain⟨vs,rfl,h1,h2⟩:=U0 (enc:=Zd) (S:=λx=>True) λx aa=>UH (hx x aa);exact⟨vs,rfl,by simpa using hl,h2⟩
def HK(B:Nat)(x:Tbl):Prop:=True/\PC B x.cols/\I4 B x.pk
theorem Pn{B n:Nat}{ds:List D}(h:ZM prog B n 116 ds):∃v:Tbl,ds=v.enc/\HK B v:=by obtain⟨m,hm⟩:=Uv Tryz.underlying116 h;obtain⟨a0,r0,e0,t0,hm⟩:=hm;obtain⟨v0,w0,b0⟩:=Ua t0;obtain⟨a1,r1,e1,t1,hm⟩:=hm;obtain⟨v1,w1,b1⟩:=Z84 t1;obtain⟨a2,r2,e2,t2,hm⟩:=hm;obtain⟨v2,w2,b2⟩:=KQ t2;have e3:r2=[]:=hm;subst w0 w1 w2;refine⟨⟨v0,v1,v2⟩,?_,b0,b1,b2⟩;rw[e0,e1,e2,e3];rfl
def HI(B:Nat)(x:Fk):Prop:=True/\I4 B x.cols/\True
theorem Pl{B n:Nat}{ds:List D}(h:ZM prog B n 132 ds):∃v:Fk,ds=v.enc/\HI B v:=by obtain⟨m,hm⟩:=Uv Tryz.underlying132 h;obtain⟨a0,r0,e0,t0,hm⟩:=hm;obtain⟨v0,w0,b0⟩:=Ua t0;obtain⟨a1,r1,e1,t1,hm⟩:=hm;obtain⟨v1,w1,b1⟩:=KQ t1;obtain⟨a2,r2,e2,t2,hm⟩:=hm;obtain⟨v2,w2,b2⟩:=Ua t2;have e3:r2=[]:=hm;subst w0 w1 w2;refine⟨⟨v0,v1,v2⟩,?_,b0,b1,b2⟩;rw[e0,e1,e2,e3];rfl
def HJ(B:Nat)(x:Cons):Prop:=True/\True/\True/\True/\FB B x.value
theorem Pm{B n:Nat}{ds:List D}(h:ZM prog B n 130 ds):∃v:Cons,ds=v.enc/\HJ B v:=by obtain⟨m,hm⟩:=Uv Tryz.underlying130 h;obtain⟨a0,r0,e0,t0,hm⟩:=hm;obtain⟨v0,w0,b0⟩:=Ua t0;obtain⟨a1,r1,e1,t1,hm⟩:=hm;obtain⟨v1,w1,b1⟩:=UH t1;obtain⟨a2,r2,e2,t2,hm⟩:=hm;obtain⟨v2,w2,b2⟩:=Ua t2;obtain⟨a3,r3,e3,t3,hm⟩:=hm;obtain⟨v3,w3,b3⟩:=UH t3;obtain⟨a4,r4,e4,t4,hm⟩:=hm;obtain⟨v4,w4,b4⟩:=KG t4;have e5:r4=[]:=hm;subst w0 w1 w2 w3 w4;refine⟨⟨v0,v1,v2,v3,v4⟩,?_,b0,b1,b2,b3,b4⟩;rw[e0,e1,e2,e3,e4,e5];rfl
def PU(B:Nat)(xs:List Tbl):Prop:=xs.length<=B/\∀x∈xs,HK B x
theorem Z94{B n:Nat}{ds:List D}(h:ZM prog B n 22 ds):∃v:List Tbl,ds=[.sl (v.map Tbl.enc)]/\PU B v:=by
 obtain⟨m,xs,rfl,hl,hx⟩:=Um Tryz.underlying22 h;obtain⟨vs,rfl,h1,h2⟩:=U0 (enc:=Tbl.enc) (S:=λx=>HK B x) λx aa=>Pn (hx x aa);exact⟨vs,rfl,by simpa using hl,h2⟩
def PT(B:Nat)(xs:List Fk):Prop:=xs.length<=B/\∀x∈xs,HI B x
theorem Z93{B n:Nat}{ds:List D}(h:ZM prog B n 23 ds):∃v:List Fk,ds=[.sl (v.map Fk.enc)]/\PT B v:=by
 obtain⟨m,xs,rfl,hl,hx⟩:=Um Tryz.underlying23 h;obtain⟨vs,rfl,h1,h2⟩:=U0 (enc:=Fk.enc) (S:=λx=>HI B x) λx aa=>Pl (hx x aa);exact⟨vs,rfl,by simpa using hl,h2⟩
def PS(B:Nat)(xs:List Cons):Prop:=xs.length<=B/\∀x∈xs,HJ B x
theorem Z92{B n:Nat}{ds:List D}(h:ZM prog B n 24 ds):∃v:List Cons,ds=[.sl (v.map Cons.enc)]/\PS B v:=by
 obtain⟨m,xs,rfl,hl,hx⟩:=Um Tryz.underlying24 h;obtain⟨vs,rfl,h1,h2⟩:=U0 (enc:=Cons.enc) (S:=λx=>HJ B x) λx aa=>Pm (hx x aa);exact⟨vs,rfl,by simpa using hl,h2⟩
def PR(B:Nat)(x:Sch):Prop:=PU B x.tables/\PT B x.fks/\PS B x.cons
theorem Z91{B n:Nat}{ds:List D}(h:ZM prog B n 26 ds):∃v:Sch,ds=v.enc/\PR B v:=by obtain⟨m,hm⟩:=Uv Tryz.underlying26 h;obtain⟨a0,r0,e0,t0,hm⟩:=hm;obtain⟨v0,w0,b0⟩:=Z94 t0;obtain⟨a1,r1,e1,t1,hm⟩:=hm;obtain⟨v1,w1,b1⟩:=Z93 t1;obtain⟨a2,r2,e2,t2,hm⟩:=hm;obtain⟨v2,w2,b2⟩:=Z92 t2;have e3:r2=[]:=hm;subst w0 w1 w2;refine⟨⟨v0,v1,v2⟩,?_,b0,b1,b2⟩;rw[e0,e1,e2,e3];rfl
def KU(B:Nat)(x:Stp):Prop:=True/\True/\True/\True/\True/\True/\I4 B x.cols/\True/\FB B x.value/\HK B x.newTable/\HJ B x.cons/\HI B x.fk
theorem Z82{B n:Nat}{ds:List D}(h:ZM prog B n 134 ds):∃v:Stp,ds=v.enc/\KU B v:=by obtain⟨m,hm⟩:=Uv Tryz.underlying134 h;obtain⟨a0,r0,e0,t0,hm⟩:=hm;obtain⟨v0,w0,b0⟩:=UH t0;obtain⟨a1,r1,e1,t1,hm⟩:=hm;obtain⟨v1,w1,b1⟩:=Ua t1;obtain⟨a2,r2,e2,t2,hm⟩:=hm;obtain⟨v2,w2,b2⟩:=Ua t2;obtain⟨a3,r3,e3,t3,hm⟩:=hm;obtain⟨v3,w3,b3⟩:=Ua t3;obtain⟨a4,r4,e4,t4,hm⟩:=hm;obtain⟨v4,w4,b4⟩:=Ua t4;obtain⟨a5,r5,e5,t5,hm⟩:=hm;obtain⟨v5,w5,b5⟩:=UH t5;obtain⟨a6,r6,e6,t6,hm⟩:=hm;obtain⟨v6,w6,b6⟩:=KQ t6;obtain⟨a7,r7,e7,t7,hm⟩:=hm;obtain⟨v7,w7,b7⟩:=Ua t7;obtain⟨a8,r8,e8,t8,hm⟩:=hm;obtain⟨v8,w8,b8⟩:=KG t8;obtain⟨a9,r9,e9,t9,hm⟩:=hm;obtain⟨v9,w9,b9⟩:=Pn t9;obtain⟨ap,am,ah,t10,hm⟩:=hm;obtain⟨ab,ag,af⟩:=Pm t10;obtain⟨al,ak,aa,t11,hm⟩:=hm;obtain⟨ad,ac,ae⟩:=Pl t11;have aj:ak=[]:=hm;subst w0 w1 w2 w3 w4 w5 w6 w7 w8 w9 ag ac;refine⟨⟨v0,v1,v2,v3,v4,v5,v6,v7,v8,v9,ab,ad⟩,?_,b0,b1,b2,b3,b4,b5,b6,b7,b8,b9,af,ae⟩;rw[e0,e1,e2,e3,e4,e5,e6,e7,e8,e9,ah,aa,aj];rfl
def PB(B:Nat)(xs:List Stp):Prop:=xs.length<=B/\∀x∈xs,KU B x
theorem Z81{B n:Nat}{ds:List D}(h:ZM prog B n 136 ds):∃v:List Stp,ds=[.sl (v.map Stp.enc)]/\PB B v:=by
 obtain⟨m,xs,rfl,hl,hx⟩:=Um Tryz.underlying136 h;obtain⟨vs,rfl,h1,h2⟩:=U0 (enc:=Stp.enc) (S:=λx=>KU B x) λx aa=>Z82 (hx x aa);exact⟨vs,rfl,by simpa using hl,h2⟩
def KT(B:Nat)(x:Edg):Prop:=True/\PB B x.script
theorem Z80{B n:Nat}{ds:List D}(h:ZM prog B n 138 ds):∃v:Edg,ds=v.enc/\KT B v:=by obtain⟨m,hm⟩:=Uv Tryz.underlying138 h;obtain⟨a0,r0,e0,t0,hm⟩:=hm;obtain⟨v0,w0,b0⟩:=UH t0;obtain⟨a1,r1,e1,t1,hm⟩:=hm;obtain⟨v1,w1,b1⟩:=Z81 t1;have e2:r1=[]:=hm;subst w0 w1;refine⟨⟨v0,v1⟩,?_,b0,b1⟩;rw[e0,e1,e2];rfl
def PQ(B:Nat)(xs:List Edg):Prop:=xs.length<=B/\∀x∈xs,KT B x
theorem Z90{B n:Nat}{ds:List D}(h:ZM prog B n 27 ds):∃v:List Edg,ds=[.sl (v.map Edg.enc)]/\PQ B v:=by
 obtain⟨m,xs,rfl,hl,hx⟩:=Um Tryz.underlying27 h;obtain⟨vs,rfl,h1,h2⟩:=U0 (enc:=Edg.enc) (S:=λx=>KT B x) λx aa=>Z80 (hx x aa);exact⟨vs,rfl,by simpa using hl,h2⟩
def PP(B:Nat)(x:Gr):Prop:=PR B x.base/\PQ B x.edges
theorem Z8z{B n:Nat}{ds:List D}(h:ZM prog B n 29 ds):∃v:Gr,ds=v.enc/\PP B v:=by obtain⟨m,hm⟩:=Uv Tryz.underlying29 h;obtain⟨a0,r0,e0,t0,hm⟩:=hm;obtain⟨v0,w0,b0⟩:=Z91 t0;obtain⟨a1,r1,e1,t1,hm⟩:=hm;obtain⟨v1,w1,b1⟩:=Z90 t1;have e2:r1=[]:=hm;subst w0 w1;refine⟨⟨v0,v1⟩,?_,b0,b1⟩;rw[e0,e1,e2];rfl
def FJ(B:Nat)(xs:List GV):Prop:=xs.length<=B/\∀x∈xs,FB B x
theorem KR{B n:Nat}{ds:List D}(h:ZM prog B n 52 ds):∃v:List GV,ds=[.sl (v.map GV.enc)]/\FJ B v:=by
 obtain⟨m,xs,rfl,hl,hx⟩:=Um Tryz.underlying52 h;obtain⟨vs,rfl,h1,h2⟩:=U0 (enc:=GV.enc) (S:=λx=>FB B x) λx aa=>KG (hx x aa);exact⟨vs,rfl,by simpa using hl,h2⟩
def PN(B:Nat)(xs:List (List GV)):Prop:=xs.length<=B/\∀x∈xs,FJ B x
theorem Z8u{B n:Nat}{ds:List D}(h:ZM prog B n 85 ds):∃v:List (List GV),ds=[.sl (v.map (Z6 GV.enc))]/\PN B v:=by
 obtain⟨m,xs,rfl,hl,hx⟩:=Um Tryz.underlying85 h;obtain⟨vs,rfl,h1,h2⟩:=U0 (enc:=(Z6 GV.enc)) (S:=λx=>FJ B x) λx aa=>KR (hx x aa);exact⟨vs,rfl,by simpa using hl,h2⟩
def L0(B:Nat)(x:Rel):Prop:=True/\PN B x.rows
theorem Z8t{B n:Nat}{ds:List D}(h:ZM prog B n 87 ds):∃v:Rel,ds=v.enc/\L0 B v:=by obtain⟨m,hm⟩:=Uv Tryz.underlying87 h;obtain⟨a0,r0,e0,t0,hm⟩:=hm;obtain⟨v0,w0,b0⟩:=Ua t0;obtain⟨a1,r1,e1,t1,hm⟩:=hm;obtain⟨v1,w1,b1⟩:=Z8u t1;have e2:r1=[]:=hm;subst w0 w1;refine⟨⟨v0,v1⟩,?_,b0,b1⟩;rw[e0,e1,e2];rfl
def L2(B:Nat)(x:Chg):Prop:=True/\True/\FJ B x.key/\FJ B x.row
theorem Z8w{B n:Nat}{ds:List D}(h:ZM prog B n 54 ds):∃v:Chg,ds=v.enc/\L2 B v:=by obtain⟨m,hm⟩:=Uv Tryz.underlying54 h;obtain⟨a0,r0,e0,t0,hm⟩:=hm;obtain⟨v0,w0,b0⟩:=UH t0;obtain⟨a1,r1,e1,t1,hm⟩:=hm;obtain⟨v1,w1,b1⟩:=Ua t1;obtain⟨a2,r2,e2,t2,hm⟩:=hm;obtain⟨v2,w2,b2⟩:=KR t2;obtain⟨a3,r3,e3,t3,hm⟩:=hm;obtain⟨v3,w3,b3⟩:=KR t3;have e4:r3=[]:=hm;subst w0 w1 w2 w3;refine⟨⟨v0,v1,v2,v3⟩,?_,b0,b1,b2,b3⟩;rw[e0,e1,e2,e3,e4];rfl
def L1(B:Nat)(xs:List Rel):Prop:=xs.length<=B/\∀x∈xs,L0 B x
theorem Z8v{B n:Nat}{ds:List D}(h:ZM prog B n 65 ds):∃v:List Rel,ds=[.sl (v.map Rel.enc)]/\L1 B v:=by
 obtain⟨m,xs,rfl,hl,hx⟩:=Um Tryz.underlying65 h;obtain⟨vs,rfl,h1,h2⟩:=U0 (enc:=Rel.enc) (S:=λx=>L0 B x) λx aa=>Z8t (hx x aa);exact⟨vs,rfl,by simpa using hl,h2⟩
def I5(B:Nat)(xs:List (List Rel)):Prop:=xs.length<=B/\∀x∈xs,L1 B x
theorem PA{B n:Nat}{ds:List D}(h:ZM prog B n 30 ds):∃v:List (List Rel),ds=[.sl (v.map (Z6 Rel.enc))]/\I5 B v:=by
 obtain⟨m,xs,rfl,hl,hx⟩:=Um Tryz.underlying30 h;obtain⟨vs,rfl,h1,h2⟩:=U0 (enc:=(Z6 Rel.enc)) (S:=λx=>L1 B x) λx aa=>Z8v (hx x aa);exact⟨vs,rfl,by simpa using hl,h2⟩
def PO(B:Nat)(xs:List (List (List Rel))):Prop:=xs.length<=B/\∀x∈xs,I5 B x
theorem Z8y{B n:Nat}{ds:List D}(h:ZM prog B n 31 ds):∃v:List (List (List Rel)),ds=[.sl (v.map (Z6 (Z6 Rel.enc)))]/\PO B v:=by
 obtain⟨m,xs,rfl,hl,hx⟩:=Um Tryz.underlying31 h;obtain⟨vs,rfl,h1,h2⟩:=U0 (enc:=(Z6 (Z6 Rel.enc))) (S:=λx=>I5 B x) λx aa=>PA (hx x aa);exact⟨vs,rfl,by simpa using hl,h2⟩
def Z9d(B:Nat)(x:Db):Prop:=I5 B x.insts/\PO B x.comps
theorem Z8x{B n:Nat}{ds:List D}(h:ZM prog B n 33 ds):∃v:Db,ds=v.enc/\Z9d B v:=by obtain⟨m,hm⟩:=Uv Tryz.underlying33 h;obtain⟨a0,r0,e0,t0,hm⟩:=hm;obtain⟨v0,w0,b0⟩:=PA t0;obtain⟨a1,r1,e1,t1,hm⟩:=hm;obtain⟨v1,w1,b1⟩:=Z8y t1;have e2:r1=[]:=hm;subst w0 w1;refine⟨⟨v0,v1⟩,?_,b0,b1⟩;rw[e0,e1,e2];rfl
def Z9c(B:Nat)(xs:List Chg):Prop:=xs.length<=B/\∀x∈xs,L2 B x
theorem Pz{B n:Nat}{ds:List D}(h:ZM prog B n 41 ds):∃v:List Chg,ds=[.sl (v.map Chg.enc)]/\Z9c B v:=by
 obtain⟨m,xs,rfl,hl,hx⟩:=Um Tryz.underlying41 h;obtain⟨vs,rfl,h1,h2⟩:=U0 (enc:=Chg.enc) (S:=λx=>L2 B x) λx aa=>Z8w (hx x aa);exact⟨vs,rfl,by simpa using hl,h2⟩
def Zhv(B:Nat)(x:Wr):Prop:=True/\Z9c B x.changes
theorem Zi7{B n:Nat}{ds:List D}(h:ZM prog B n 43 ds):∃v:Wr,ds=v.enc/\Zhv B v:=by obtain⟨m,hm⟩:=Uv Tryz.underlying43 h;obtain⟨a0,r0,e0,t0,hm⟩:=hm;obtain⟨v0,w0,b0⟩:=UH t0;obtain⟨a1,r1,e1,t1,hm⟩:=hm;obtain⟨v1,w1,b1⟩:=Pz t1;have e2:r1=[]:=hm;subst w0 w1;refine⟨⟨v0,v1⟩,?_,b0,b1⟩;rw[e0,e1,e2];rfl
def Zi9(B:Nat)(xs:List Wr):Prop:=xs.length<=B/\∀x∈xs,Zhv B x
theorem Zi8{B n:Nat}{ds:List D}(h:ZM prog B n 34 ds):∃v:List Wr,ds=[.sl (v.map Wr.enc)]/\Zi9 B v:=by
 obtain⟨m,xs,rfl,hl,hx⟩:=Um Tryz.underlying34 h;obtain⟨vs,rfl,h1,h2⟩:=U0 (enc:=Wr.enc) (S:=λx=>Zhv B x) λx aa=>Zi7 (hx x aa);exact⟨vs,rfl,by simpa using hl,h2⟩
theorem EO{P:Program}{w:World}:∀{l:List (String×DataW Unit)} {ps:List MemPlace},DataW.LaidVars P w l ps->∀n d,(n,d)∈l->
  ∃g t cs aa p,P.globalNamed n=some g/\(P.globals[g]?).map (·.type)=some t/\w.var? P n=some cs/\DataW.trod (λ_=>()) P w 0 (λ_=>true) false aa t cs.toList=some (d,p)
 |[],_,_,_,_,hm=>by cases hm
 |(n',d')::r,ps,h,n,d,hm=>by obtain⟨g,t,cs,aa,p,q,h1,h2,h3,h4,h5,_⟩:=h;rcases Y9.1 hm with e|e;cases e;exact⟨g,t,cs,aa,p,h1,h2,h3,h4⟩;exact EO h5 n d e
theorem GY{P:Program}{w:World}{n:String}{g:Nat}{cs:Array Value}(hg:P.globalNamed n=some g)(h:w.var? P n=some cs):∃T l,w.heap[g]?=some (.cells cs T l):=by unfold World.var? at h;rw[hg] at h;simp only[Option.bind_some] at h;split at h;cases h;exact⟨_,_,by assumption⟩;cases h
theorem N3{w:World}{g:Nat}{v:Value}{T:TypeId}{l:Nat×Nat}{cs:Array Value}(h:w.heap[g]?=some (.cells cs T l))(hc:cs.toList=[v]):w.cell? ⟨g,0,none⟩=some v:=by
 have:cs[0]?=some v:=by rw[<-Array.getElem?_toList,hc];rfl
 unfold World.cell?;simp[h,this]
theorem C6{α:Type}{x:Option α}{a b:α}(h:x=some a)(k:x=some b):b=a:=Option.some.inj (k.symm.trans h)
theorem Z7u{W:World}{l:List (String×DataW Unit)}(hl:l=Proofs.YtbledgpconnopaaGreatDoor.Rows.propagationCommuteIsSymmetricUptoRow.laid)(hL:laidMetH prog l W)(aa:W.ShapedOpen prog):AF W:=by
 subst hl;rw[MakeChecks.laidMetH_plain _ _ _ kR] at hL;obtain⟨_,hv,_⟩:=hL;obtain⟨ga,ta,ca,_,_,a1,_,a3,_⟩:=EO hv _ _ (.tail _ (.head _));obtain rfl:=C6 (a:=3) kR a1;obtain⟨Ta,la,a5⟩:=GY a1 a3;obtain⟨gb,tb,cb,fb,pb,b1,b2,b3,b4⟩:=EO hv _ _ (.tail _ (.tail _ (.head _)));obtain rfl:=C6 (a:=1) kR b1;obtain rfl:=C6 (a:=320) kR b2;obtain⟨Tb,lb,b5⟩:=GY b1 b3;have hb:=Lib.cells_of_tab (zs:=Lib.pow10Tab) Tryz.underlying320 Tryz.underlying309 kR kR b4;obtain⟨gc,tc,cc,fc,pc,c1,c2,c3,c4⟩:=EO hv _ _ (.tail _ (.tail _ (.tail _ (.tail _ (.head _)))));obtain rfl:=C6 (a:=4) kR c1;obtain rfl:=C6 (a:=316) kR c2;obtain⟨Tc,lc,c5⟩:=GY c1 c3;obtain⟨_,uc,vc,hc,_⟩:=iface_of_trod Tryz.underlying316 c4;obtain⟨gd,td,cd,fd,pd,d1,d2,d3,d4⟩:=EO hv _ _ (.tail _ (.tail _ (.tail _ (.head _))));obtain rfl:=C6 (a:=5) kR d1;obtain rfl:=C6 (a:=316) kR d2;obtain⟨Td,ld,d5⟩:=GY d1 d3;obtain⟨_,ud,vd,hd,_⟩:=iface_of_trod Tryz.underlying316 d4;obtain⟨m,hm⟩:=cell_of_shapedOpen_int (P:=prog) (g:=0) (t:=3) (zero:=#[.int .i64 0]) aa (of_decide_eq_true kR) kR rfl kR kR Tryz.underlying3;have ab:6<=W.heap.size:=by
  have:=(YF.1 a5).1
  have:=(YF.1 c5).1
  have:=(YF.1 d5).1
  omega
 refine⟨ab,⟨Tb,lb,?_⟩,⟨uc,vc,N3 c5 hc⟩,⟨ud,vd,N3 d5 hd⟩,⟨m,hm⟩⟩;rw[b5,<-hb]
end
end Go.Am
namespace Go.Proofs.YtbledgpconnopaaGreatDoor.admissionReplaySkipsRejected
section
open Go Go.Am Go.ChangeShapes Go.WideShapes Go.ChangeAt Go.RowKit
theorem own:ownKnob Tryz.prog.godebug=none:=kR
theorem laid:laidOutB Tryz.prog=true:=kR
def Z8g:List TypeId:=[29,26,22,116,9,114,125,3,4,74,23,132,24,130,127,27,138,136,134,33,30,65,87,85,52,31,34,43,41,54]
theorem Dg:Ph Tryz.prog Z8g=true:=kR
theorem Z8d{g:Gr}(h:PP 1048576 g):∀e∈g.edges,∀x∈e.script,Ur x:=by intro e he x hx;have h1:=(h.2.2 e he).2.2 x hx;obtain⟨_,_,_,_,_,_,hc,_,_,ht,_,hf⟩:=h1;exact⟨hc.1,ht.2.1.1,ht.2.2.1,hf.2.1.1⟩
theorem Of:∀(l:List (List (List Rel))),l.flatten.length<=U8 (l.map (Z6 (Z6 Rel.enc)))
 |[]=>by simp
 |y::l=>by have h1:=Of l;have h2:=F0 (y.map (Z6 Rel.enc));simp only[Yb,U8,Z6,W8,Cl,Xp,Ye,Yh] at h2|-;omega
theorem Z9e{db:Db}(k:W8 db.enc+1<=1048576):db.comps.flatten.length+db.insts.length<=2097152:=by have e1:=Of db.comps;have e2:=F0 (db.insts.map (Z6 Rel.enc));have e3:W8 db.enc=U8 (db.insts.map (Z6 Rel.enc))+(U8 (db.comps.map (Z6 (Z6 Rel.enc)))+0):=rfl;rw[Yh] at e2;omega
set_option maxRecDepth 100000 in
theorem Z5c(H:Type)(enc:TypeId×Value->H)(W:World)(aj:Nat)(args:Array Value)(ds gs:List (DataW H))(before:List MemPlace)
  (aa:∀(j:Nat) t v,Tryz.f3.params[j]?=some t->args[j]?=some v->Value.okWide Tryz.prog W .any aj t v)
  (hW:DataW.Whole enc Tryz.prog Tryz.f3.params.toList Rows.admissionReplaySkipsRejectedSpec.vars false W args.toList ds gs before)(hk:Rows.uptoSmall H (ds++gs)=true)(hL:laidMetH Tryz.prog Rows.admissionReplaySkipsRejectedUptoRow.laid W)(bb:W.ShapedOpen Tryz.prog):
  Calls Tryz.prog 3 args W λe W'=>∃v,e=.returned v/\Rows.admissionReplaySkipsRejectedSpec.post enc Tryz.prog Tryz.f3 false true false false W args v W':=by
 have a7:=hW;have hlt:=hW.lt;obtain⟨p,q,ax,hV,rfl,bm,bk⟩:=hW;have hA:DataW.TrodAll enc Tryz.prog W 0 (λ_=>true) true Tryz.f3.params.toList args.toList ds p:=ax;rw[Tryz.params3] at hA aa;obtain⟨v0,bl,d0,bg,p0,q0,az,rfl,rfl,h0,r0⟩:=trodAll_cons hA;obtain⟨v1,bf,d1,bj,p1,q1,rfl,rfl,rfl,h1,r1⟩:=trodAll_cons r0;obtain⟨v2,bh,d2,bn,p2,q2,rfl,rfl,rfl,h2,r2⟩:=trodAll_cons r1;obtain⟨rfl,rfl,rfl⟩:=trodAll_nil r2;obtain rfl:args=#[v0,v1,v2]:=by cases args;simp_all
 obtain⟨rfl,rfl⟩:=trodVars_none hV;have hb:=of_decide_eq_true hk;simp only[Ym,Rows.uptoBulkAll] at hb;obtain⟨cs0,rfl,_⟩:=okWide_struct Tryz.underlying29 (aa 0 29 v0 rfl rfl);obtain⟨af,rfl,_⟩:=okWide_struct Tryz.underlying33 (aa 1 33 v1 rfl rfl);obtain⟨a2,ae,cap2,rfl⟩:=okWide_slice Tryz.underlying34 (aa 2 34 v2 rfl rfl);have au:=h0;have ay:=h1;have aw:=h2;obtain⟨n0,bd⟩:=h0;obtain⟨n1,ar⟩:=h1;obtain⟨n2,ba⟩:=h2;obtain⟨e0,ak,be,hk0⟩:=Dc (B:=1048576) Dg dE n0 29 _ _ dE bd (by simp only;omega);have k0:W8 e0+1<=1048576:=by simp only at hk0;omega
 obtain⟨e1,al,a1,ah⟩:=Dc (B:=1048576) Dg dE n1 33 _ _ dE ar (by simp only;omega);have k1:W8 e1+1<=1048576:=by simp only at ah;omega
 obtain⟨e2,aq,a8,ag⟩:=Dc (B:=1048576) Dg dE n2 34 _ _ dE ba (by simp only;omega);have k2:W8 e2+1<=1048576:=by simp only at ag;omega
 have kk:W8 e0+W8 e1+W8 e2<=1048576:=by simp only at hk0 ah ag;omega
 obtain⟨x0,rfl,y0⟩:=Z8z be;obtain⟨x1,rfl,y1⟩:=Z8x a1;obtain⟨x2,rfl,y2⟩:=Zi8 a8;have hS:=(Z9g x0 x1 x2).h true (Zi6 x0 x1 x2 (Z8d y0) (Z9e k1));refine(hS.2 W (cellsOf W) (λ_ _=>none) #[.agg cs0,.agg af,.slice a2 ae cap2] (Z7u rfl hL bb) (λ_ _ _ h=>h) (λ_ _ _ h=>by cases h) ?_).mono λe W' hpost=>?_;refine⟨rfl,λi a hi=>?_⟩
 match i with
 |0=>
   cases hi;refine⟨.agg cs0,rfl,cs0,rfl,by simpa[Value.cells] using ak.1,λj x hj=>?_⟩;obtain⟨u,ac,ad⟩:=ak.2 j x hj;exact⟨u,by simpa[Value.cells] using ac,ad⟩
 |1=>
   cases hi;refine⟨.agg af,rfl,af,rfl,by simpa[Value.cells] using al.1,λj x hj=>?_⟩;obtain⟨u,ac,ad⟩:=al.2 j x hj;exact⟨u,by simpa[Value.cells] using ac,ad⟩
 |2=>
   cases hi;obtain⟨u,ac,ad⟩:=aq.2 0 _ rfl;refine⟨.slice a2 ae cap2,rfl,?_⟩
   have:u=.slice a2 ae cap2:=by simpa[Value.cells] using ac.symm
   rw[<-this];exact ad
 |i+3=>simp at hi
 obtain⟨v,m',bi,rfl,_,_,_,ab,am,_⟩:=hpost;have hv:v=.bool true:=by cases am;rfl
 subst hv;refine⟨_,rfl,[d0,d1,d2],[],p0++(p1++(p2++[]))++[],[],p0++(p1++(p2++[])),[],a7,trodAll_mk1 (shut_bool Tryz.underlying4 true),?_,rfl,ab.frame _,λh=>by cases h⟩;have ap:∀x∈p0,x.block<W.heap.size:=λx hx=>hlt x (by simp[hx]);have bc:∀x∈p1,x.block<W.heap.size:=λx hx=>hlt x (by simp[hx]);have hl2:∀x∈p2,x.block<W.heap.size:=λx hx=>hlt x (by simp[hx]);exact trodAll_cons_mk (Below.trod laid kR (of_decide_eq_true kR) au ab ap) (trodAll_cons_mk (Below.trod laid kR (of_decide_eq_true kR) ay ab bc) (trodAll_cons_mk (Below.trod laid kR (of_decide_eq_true kR) aw ab hl2) trodAll_mk0))
theorem Z55(os:Os):laidMet Tryz.prog Rows.admissionReplaySkipsRejectedUptoRow.laid ((World.laidAll Tryz.prog os Rows.admissionReplaySkipsRejectedUptoRow.laid).forCall (λ_ _=>0) ⟨#[],#[.agg #[.slice none 0 0,.slice none 0 0,.slice none 0 0,.slice none 0 0],.agg #[.slice none 0 0,.slice none 0 0],.slice none 0 0],[]⟩).memory:=laidMet_laidAll _ kR kR
theorem Z8f(os:Os){H:Type}(enc:TypeId×Value->H):∃places,DataW.whole enc Tryz.prog ((World.laidAll Tryz.prog os Rows.admissionReplaySkipsRejectedUptoRow.laid).forCall (λ_ _=>0) ⟨#[],#[.agg #[.slice none 0 0,.slice none 0 0,.slice none 0 0,.slice none 0 0],.agg #[.slice none 0 0,.slice none 0 0],.slice none 0 0],[]⟩).memory Tryz.f3.params.toList Rows.admissionReplaySkipsRejectedSpec.vars false (#[.agg #[.slice none 0 0,.slice none 0 0,.slice none 0 0,.slice none 0 0],.agg #[.slice none 0 0,.slice none 0 0],.slice none 0 0]:Array Value).toList 8=some ([.agg [.agg [.nil,.nil,.nil],.nil],.agg [.nil,.nil],.nil],[],places):=⟨[],kR⟩
set_option maxRecDepth 100000 in
theorem lifted(os:Os)(started:os.Started)(H:Type)(enc:TypeId×Value->H)(F:Stop.Interp):
  ReturnsInHanded {} Tryz.checked os 3 .any ((Rows.OpenSpec.upto Rows.admissionReplaySkipsRejectedSpec).preRow enc Tryz.prog Tryz.f3 Rows.admissionReplaySkipsRejectedUptoRow.domain false Rows.admissionReplaySkipsRejectedUptoRow.laid) (((Rows.OpenSpec.upto Rows.admissionReplaySkipsRejectedSpec).at F).post enc Tryz.prog Tryz.f3 false true false false):=by
 obtain⟨places,hx⟩:=Z8f os enc;refine returnsInHanded_of_row (C:=Tryz.checked) (s:=Rows.OpenSpec.upto Rows.admissionReplaySkipsRejectedSpec) own started kR Tryz.func3
  (witness_row_atRef (enc:=enc) (C:=Tryz.checked) false (World.laidAll Tryz.prog os Rows.admissionReplaySkipsRejectedUptoRow.laid) #[.agg #[.slice none 0 0,.slice none 0 0,.slice none 0 0,.slice none 0 0],.agg #[.slice none 0 0,.slice none 0 0],.slice none 0 0] (World.laidAll_os _ _ _) kR kR kR
   (OpenSpec.preRow_of_cond 8 hx kR (λk hk=>by cases hk;kernel_rfl) kR (Z55 os))) ?_
 intro W base args ds gs before hval hW _ hcond _ hL hsh _;exact Z5c H enc W base args ds gs before hval hW (hcond _ rfl) hL hsh
theorem Z8s:(Rows.admissionReplaySkipsRejectedUptoRow.inPlace==Tryz.prog.inPlace 3)=true:=kR
theorem Z8r:(Rows.admissionReplaySkipsRejectedUptoRow.unfollowed==Tryz.prog.unfollowed 3)=true:=kR
theorem Z8q:(Rows.admissionReplaySkipsRejectedUptoRow.recurses==Tryz.prog.recurses 3)=true:=kR
theorem Z8p:(Rows.admissionReplaySkipsRejectedUptoRow.named==Tryz.prog.varsNamed 3)=true:=kR
theorem Z8o:(Rows.admissionReplaySkipsRejectedUptoRow.plainKeys==Tryz.prog.plainKeys)=true:=kR
theorem Z8n:Tryz.prog.stopsHeard=true:=kR
theorem Z8m:Tryz.prog.mayEnter=true:=kR
theorem Z8l:(Rows.admissionReplaySkipsRejectedUptoRow.lifted==Tryz.prog.liftsFinal)=true:=kR
theorem Z8k:(Tryz.prog.make==some Rows.admissionReplaySkipsRejectedUptoRow.make)=true:=kR
theorem Z7z:mapsRowed Tryz.prog=true:=kR
theorem Z7y:Rows.admissionReplaySkipsRejectedUptoRow.wf (OpenSpec.ofChange (Rows.OpenSpec.upto Rows.admissionReplaySkipsRejectedSpec).bare)=true:=kR
theorem Z7x:laidOutB Tryz.prog=true:=kR
theorem Z7w:namedTie Tryz.prog Rows.admissionReplaySkipsRejectedUptoRow.named (Rows.OpenSpec.upto Rows.admissionReplaySkipsRejectedSpec).bare.vars=true:=kR
theorem Z7v:Tryz.pinned.checked.prog.funcNamed Rows.admissionReplaySkipsRejectedUptoRow.func=some 3:=kR
set_option maxRecDepth 100000 in
theorem Z86:joinedFacts Tryz.prog 3 Tryz.f3 (Rows.OpenSpec.upto Rows.admissionReplaySkipsRejectedSpec).bare Rows.admissionReplaySkipsRejectedUptoRow=true:=by
 unfold joinedFacts;rw[Z8s,Z8r,Z8q,Z8p,Z8o,Z8n,Z8m,Z8l,Z8k,Z7z,Z7y,Z7x,Z7w]
 kernel_rfl
theorem Z98:Rows.AdmissionReplaySkipsRejectedUptoSaid:=
 OpenClaim.holds_of_cond 3 Tryz.f3 rfl rfl rfl rfl rfl rfl rfl ⟨rfl,rfl,rfl,rfl,rfl⟩ rfl rfl rfl rfl rfl Z7v Tryz.func3 Z86
  (of_decide_eq_true kR) (by unfold Func.isWrapper;first|(rw[if_pos (by decide+kernel)];kernel_rfl)|(rw[if_neg (by decide+kernel)];exact⟨rfl,rfl⟩))
  (λos started H enc _ F=>by rw[OpenClaim.pre_eq_preRow];exact lifted os started H enc F)
theorem Z7r(f:FuncId)(fn:Func)(hf:Tryz.pinned.checked.prog.funcNamed Rows.admissionReplaySkipsRejectedUptoRow.func=some f)(aa:Tryz.pinned.checked.prog.funcs[f]?=some fn):
  true=Tryz.pinned.checked.prog.looks []/\∀(j:Nat) t,fn.params[j]?=some t->Tryz.pinned.checked.prog.wantsStandIn t=false:=by
 obtain rfl:f=3:=Option.some.inj ((kR:Tryz.prog.funcNamed Rows.admissionReplaySkipsRejectedUptoRow.func=some 3).symm.trans hf)|>.symm;obtain rfl:fn=Tryz.f3:=(Option.some.inj (Tryz.func3.symm.trans aa)).symm;refine⟨kR,λj t ht=>?_⟩;rw[Tryz.params3] at ht;have hm:t∈[29,33,34]:=by simpa using Array.mem_of_getElem? ht
 have hall:([29,33,34].all λu=>!Tryz.prog.wantsStandIn u)=true:=kR;exact(show Tryz.prog.wantsStandIn t=false by simpa using YW.1 hall t hm)
theorem Zgl:Rows.AdmissionReplaySkipsRejectedUptoCardSaid:=
 Claim7.holds_tied_plain_at .later [] _ _ _ _ Z98 (λ_ h=>by cases h) kR (λ_ h=>by cases h) admissionReplaySkipsRejectedUpto_row_tie rfl ⟨rfl,rfl⟩ kR rfl Z7r kR
end
end Go.Proofs.YtbledgpconnopaaGreatDoor.admissionReplaySkipsRejected
