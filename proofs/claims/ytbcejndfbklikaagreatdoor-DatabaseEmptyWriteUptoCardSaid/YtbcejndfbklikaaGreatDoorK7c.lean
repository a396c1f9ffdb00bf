/- joined by a program out of 47 texts -/
import Derived.Test.YtbcejndfbklikaaGreatDoorK6
import Derived.Test.YtbcejndfbklikaaGreatDoorCards
import Derived.LaidLaws
import Derived.MakeChecks
import Derived.Shelf.Vars
import Derived.Lib.LaidTab
import Derived.Test.YtbcejndfbklikaaGreatDoorTie
import Derived.WalkKit
import Derived.ProofKit
import Derived.OpenShut
import Derived.JoinedCond
import Derived.JoinedOf
import Derived.Carry
import Derived.Lay
import Derived.SevenTiedAt
import Derived.Deep.DeepWitnessRowRef
set_option linter.unusedVariables false
set_option linter.unusedSimpArgs false
set_option maxRecDepth 20000
open Go Go.Proofs
open Go.Proofs.Tryz(prog)
open ByteArray(empty)
namespace Go.Am
section
abbrev VB(l:List (List Rel)):D:=.sl (l.map (Z6 Rel.enc))
theorem Tj(h)(l:List (List Rel))(hf:∀x∈l,Is (V7 x) x)(K)(hk:∀c h',Wb h' c (l.map W9)->(∀k∈labs c,h.ep<=k.1/\k.1<h'.ep)->Z0 h h' []->Zo h h'->K (.one c) h'):
  Z4 prog 105 [.l (l.map (Z6 Rel.enc)),.one (.fn 35 [])] h K:=by
 refine Z4.jE Tryz.func105 rfl kR λhg=>?_;refine Z4.qN Tryz.func105 rfl kR rfl rfl sI ?_;have hm:Is (Zd (λ_ x s next=>next (s++[x])) (λs=>some s) l 0 []) l:=by rw[Ff];rfl
 simp;intro ac;refine Z3.for (λi s e h'=>∃c,En e 22 [(1,.one (.fn 35 [])),(5,.one c),(8,.l (l.map (Z6 Rel.enc))),(9,.i l.length),(10,.i i)]/\Wb h' c (s.map W9)/\s.length=i/\Z0 h h' []/\∀k∈labs c,h.ep<=k.1/\k.1<h'.ep) hm
  ⟨.nil,sI,⟨[],by simpa[Zn] using MR.nil,rfl⟩,rfl,.refl,by simp[labs]⟩ ?_ ?_
 rintro i s e h' ⟨c,hE,mC,aa,hs,hl⟩ hlt hm;have hw:IntKind.i64.wrap ((i:Int)+1)=(i:Int)+1:=Y5 _ oM;obtain⟨rs,ab,he⟩:=mC;have ad:rs.length=s.length:=by have:=congrArg List.length he;simpa using this
 simp[hE,hlt];refine Zq ((CV l[i]).h l[i] (hf _ (Yf hlt))) sI ?_;simp[hE];refine W5 Bm kR dE dE (ab.frame λk _=>?_) (Zk.qU rfl) (by simp[Zn];omega) λc' h2 hm2 hs2 hl2=>?_;simp;simp[hE,hw];have hs3:=Z0.trans' (Z0.trans hs ?_) hs2 λk hk=>.inr (hl k hk).1;refine Zf.of (s++[l[i]]) ⟨⟨c',by simp[hE],⟨rs++[.d (W9 l[i])],by simpa[Zn] using hm2,by simp[he,C.toD]⟩,by simp[aa],hs3,λk hk=>?_⟩,hm⟩;rcases hl2 k hk with h9|h9
 have:=hl k h9
 have:=hs2.1
 simp at this;omega
 have:=hs.1
 simp at h9;omega;exact sm;rintro s e h' ⟨c,hE,mC,aa,hs,hl⟩ hm;obtain rfl:=Ze hm;simp[hE];exact hk _ _ mC hl hs (hs.jA hg)
theorem Ti(h)(l:List (List (List Rel)))(hf:∀x∈l,Is (CG x) x)(K)(hk:∀c h',Wb h' c (l.map VB)->(∀k∈labs c,h.ep<=k.1/\k.1<h'.ep)->Z0 h h' []->Zo h h'->K (.one c) h'):
  Z4 prog 80 [.l (l.map (Z6 (Z6 Rel.enc))),.one (.fn 79 [])] h K:=by
 refine Z4.jE Tryz.func80 rfl kR λhg=>?_;refine Z4.qN Tryz.func80 rfl kR rfl rfl sI ?_;have hm:Is (Zd (λ_ x s next=>next (s++[x])) (λs=>some s) l 0 []) l:=by rw[Ff];rfl
 simp;intro ac;refine Z3.for (λi s e h'=>∃c,En e 22 [(1,.one (.fn 79 [])),(5,.one c),(8,.l (l.map (Z6 (Z6 Rel.enc)))),(9,.i l.length),(10,.i i)]/\Wb h' c (s.map VB)/\s.length=i/\Z0 h h' []/\∀k∈labs c,h.ep<=k.1/\k.1<h'.ep) hm
  ⟨.nil,sI,⟨[],by simpa[Zn] using MR.nil,rfl⟩,rfl,.refl,by simp[labs]⟩ ?_ ?_
 rintro i s e h' ⟨c,hE,mC,aa,hs,hl⟩ hlt hm;have hw:IntKind.i64.wrap ((i:Int)+1)=(i:Int)+1:=Y5 _ oM;obtain⟨rs,ab,he⟩:=mC;have ad:rs.length=s.length:=by have:=congrArg List.length he;simpa using this
 simp[hE,hlt];refine Zq ((R9 l[i]).h l[i] (hf _ (Yf hlt))) sI ?_;simp[hE];refine W5 H9 kR dE dE (ab.frame λk _=>?_) (Zk.qU rfl) (by simp[Zn];omega) λc' h2 hm2 hs2 hl2=>?_;simp;simp[hE,hw];have hs3:=Z0.trans' (Z0.trans hs ?_) hs2 λk hk=>.inr (hl k hk).1;refine Zf.of (s++[l[i]]) ⟨⟨c',by simp[hE],⟨rs++[.d (VB l[i])],by simpa[Zn] using hm2,by simp[he,C.toD]⟩,by simp[aa],hs3,λk hk=>?_⟩,hm⟩;rcases hl2 k hk with h9|h9
 have:=hl k h9
 have:=hs2.1
 simp at this;omega
 have:=hs.1
 simp at h9;omega;exact sm;rintro s e h' ⟨c,hE,mC,aa,hs,hl⟩ hm;obtain rfl:=Ze hm;simp[hE];exact hk _ _ mC hl hs (hs.jA hg)
theorem Tk(h)(l:List (List Rel))(hf:∀x∈l,Is (V7 x) x)(K)(hk:∀c h',Wb h' c (l.map W9)->(∀k∈labs c,h.ep<=k.1/\k.1<h'.ep)->Z0 h h' []->Zo h h'->K (.one c) h'):
  Z4 prog 79 [.l (l.map (Z6 Rel.enc))] h K:=by
 refine Z4.qN Tryz.func79 rfl kR rfl rfl sI ?_;simp;refine Za (Tj h l hf _ λc h' m hl hs hb=>?_);simp;exact hk c h' m hl hs hb
theorem Rs(h:HS)(db:Db)(hf:∀x∈db.insts,Is (V7 x) x)(hg:∀x∈db.comps,Is (CG x) x)(K:V->HS->Prop)(hk:∀ci cc h',Wb h' ci (db.insts.map W9)->Wb h' cc (db.comps.map VB)->(∀k∈labs ci++labs cc,h.ep<=k.1/\k.1<h'.ep)->(∀k∈labs ci,k∉labs cc)->Z0 h h' []->K (.agg [ci,cc]) h'):
  Z4 prog 41 [.agg (db.enc.map C.d)] h K:=by
 refine Z4.qN Tryz.func41 rfl kR rfl rfl sI ?_;simp;refine Z3.cu [0,1,3,4,2,5,6,7] (λe1 h1=>∃ci cc,En e1 10 [(2,.p (h.ep+1,32))]/\h1.box (h.ep+1,32)=some [ci,cc]/\Wb h1 ci (db.insts.map W9)/\Wb h1 cc (db.comps.map VB)/\(∀k∈labs ci++labs cc,h.ep<=k.1/\k.1<h1.ep)/\(∀k∈labs ci,k∉labs cc)/\Z0 h h1 []) ?_ ?_;simp;refine Za (Tk _ db.insts hf _ λci h1 m1 ac aa ad=>?_);simp;refine⟨ad,Za (Ti _ db.comps hg _ λcc h2 m2 hl2 hs2 hb2=>?_)⟩;have b2:=hs2.2 (h.ep+1,32) (by have:=aa.1;simp at this|-;omega) sI;have b1:=aa.2 (h.ep+1,32) sI sI;simp at b1;rw[b1] at b2;simp[b2];refine⟨hb2,?_⟩;have ab:=aa.1;have ae:=hs2.1;simp at ab;have hA:∀k∈labs ci,h.ep+1<k.1/\k.1<h1.ep:=λk hk=>by have:=ac k hk;simp at this;omega
 have hB:=λk hk=>hl2 k hk;refine Zb.of ⟨ci,cc,sI,sI,m1.frame λk hk=>?_,m2.frame λk hk=>?_,λk hk=>?_,λk hk h9=>?_,?_⟩
 have:=hA k hk
 have h3:k≠(h.ep+1,32):=by rintro rfl;simp at this
 simp[h3];exact hs2.2 k this.2 sI
 have:=hB k hk
 have h3:k≠(h.ep+1,32):=by rintro rfl;simp at this;omega
 simp[h3];simp;rcases Y2.1 hk with h9|h9
 have:=hA k h9;omega
 have:=hB k h9;omega
 have:=hA k hk
 have:=hB k h9
 omega;refine Z0.qA (Z0.trans (Z0.trans ?_ aa) hs2) (.inr sI);exact sm;rintro e1 h1 ⟨ci,cc,hE,b2,m1,m2,hl,hd,hs⟩;simp[ZG,ZA,ZL,hE,b2];exact hk ci cc h1 m1 m2 hl hd hs
structure MC(h:HS)(gs:List (C×List D)):Prop where
 row:∀g∈gs,Wb h g.1 g.2
 lt:∀g∈gs,∀k∈labs g.1,k.1<h.ep
 dis:(gs.flatMap λg=>labs g.1).Nodup
theorem MC.new{h h' gs}(m:MC h gs)(hs:Z0 h h' []):MC h' gs:=
 ⟨λg hg=>(m.row g hg).frame λk hk=>hs.2 k (m.lt g hg k hk) sI,λg hg k hk=>Y3 (m.lt g hg k hk) hs.1,m.dis⟩
theorem U1:∀{xs:List (C×List D)},(xs.flatMap λg=>labs g.1).Nodup->∀{k1 k2:Nat} {g1 g2:C×List D},xs[k1]?=some g1->xs[k2]?=some g2->k1≠k2->∀k∈labs g1.1,k∉labs g2.1
 |[],_,k1,_,_,_,h1,_,_,_,_=>by simp at h1
 |_::_,_,0,0,_,_,_,_,hne,_,_=>absurd rfl hne
 |y::ys,hn,0,k2+1,g1,g2,h1,h2,hne,k,hk=>λh9=>by
   rw[YB,Yg] at hn;simp at h1 h2;subst h1;exact hn.2.2 k hk k (Yx.2 ⟨g2,Y4 h2,h9⟩) rfl
 |y::ys,hn,k1+1,0,g1,g2,h1,h2,hne,k,hk=>λh9=>by
   rw[YB,Yg] at hn;simp at h1 h2;subst h2;exact hn.2.2 k h9 k (Yx.2 ⟨g1,Y4 h1,hk⟩) rfl
 |y::ys,hn,k1+1,k2+1,g1,g2,h1,h2,hne,k,hk=>by rw[YB,Yg] at hn;exact U1 hn.2.1 (by simpa using h1) (by simpa using h2) (by omega) k hk
theorem MC.set{h h' gs}{j:Nat}{g ds}(m:MC h gs)(hj:gs[j]?=some g)(hc:Wb h' g.1 ds)(hs:Z0 h h' (labs g.1)):MC h' (gs.set j (g.1,ds)):=by
 have ad:=(Y0.1 hj).1;have aa:∀k1 g1,(gs.set j (g.1,ds))[k1]?=some g1->(k1=j/\g1=(g.1,ds))\/(k1≠j/\gs[k1]?=some g1):=by
  intro k1 g1 h1;rw[Xq] at h1;by_cases he:j=k1;subst he;simp[ad] at h1;exact .inl ⟨rfl,h1.symm⟩;rw[if_neg he] at h1;exact .inr ⟨λh9=>he h9.symm,h1⟩
 refine⟨λg1 ab=>?_,λg1 ab k hk=>?_,?_⟩;obtain⟨k1,ac⟩:=YQ ab;rcases aa k1 g1 ac with⟨_,rfl⟩|⟨hne,h1⟩;exact hc;exact(m.row g1 (Y4 h1)).frame λk hk=>hs.2 k (m.lt g1 (Y4 h1) k hk) (U1 m.dis h1 hj hne k hk);obtain⟨k1,ac⟩:=YQ ab;rcases aa k1 g1 ac with⟨_,rfl⟩|⟨_,h1⟩;exact Y3 (m.lt g (Y4 hj) k hk) hs.1;exact Y3 (m.lt g1 (Y4 h1) k hk) hs.1
 have:(gs.set j (g.1,ds)).map Prod.fst=gs.map Prod.fst:=by
  rw[YD];refine Xy λi=>?_;rw[Xq];by_cases he:j=i;subst he;rw[Y9,hj];simp[ad];simp[he]
 have e1:∀xs:List (C×List D),(xs.flatMap λg=>labs g.1)=(xs.map Prod.fst).flatMap labs:=λxs=>by rw[List.flatMap_map]
 rw[e1,this,<-e1];exact m.dis
theorem MC.at{h gs}{j i:Nat}{g}(m:MC h gs)(hj:gs[j]?=some g)(hi:i<g.2.length):∃lr cap bs,g.1=.mrow lr 0 g.2.length cap/\h.box lr=some bs/\i+1<=bs.length/\lr.1<h.ep/\(∃x,Zl 1 (bs.drop i)=some [x]/\some (x.toD)=some (g.2[i]?))/\
  ∀h2 (aa:List (C×List D)) (x:C) (d:D),MC h2 aa->aa[j]?=some g->x.toD=some d->MC (h2.qA lr (Zh bs i [x])) (aa.set j (g.1,g.2.set i d)):=by
 obtain⟨lr,cap,bs,h1,h2,h3,h4,h5⟩:=(m.row g (Y4 hj)).at hi;have hl:lr∈labs g.1:=by rw[h1];simp[labs]
 refine⟨lr,cap,bs,h1,h2,h3,m.lt g (Y4 hj) lr hl,h4,λH aa x d m' hj' hx=>?_⟩;exact m'.set hj' (h5 H x d hx) (Z0.refl.qA (.inl hl))
theorem HD{P:Program}{ty el:TypeId}{es ac d:Nat}{h:HS}{c x:C}{K:V->HS->Prop}{xs ys:List (List D)}(ad:Zv P ty=some (el,es,ac))(g:Zi h es c xs)(hx:x.qE=some ys)(h0:0<es)(hb:ac<=4096)(hy:∀y∈ys,y.length=es)(hl:xs.length+ys.length<=Zs)
  (hk:∀c' h',Zi h' es c' (xs++ys)->h'.box=h.box->h'.ep=h.ep+1->(∀ab c2 aa,Zi h ab c2 aa->Ws c c2->Zi h' ab c2 aa/\Ws c' c2)->K (.one c') h'):Vv P ty c x d h (K:=⟨K⟩):=by
 have hall:∀y∈xs++ys,y.length=es:=λy ae=>(Y2.1 ae).elim (g.2 y) (hy y);refine U2 ad g hx h0 hb hy hl (hk _ _ (Zi.own (by simp[HS.qC,HS.next]) (by show h.ep<(C.qI h c).ep+1;rw[Da];omega) hall) (by cases c<;>rfl) (by show(C.qI h c).ep+1=_;rw[Da]) λab c2 aa g2 ha=>⟨?_,g2.apart (Y7 _)⟩);exact((g2.qI ha).qW (by rw[Da];exact Y7 _)).next
def E5(g:Gr)(aa:Int):Option (List Hop×Int):=
 Z1 (Gj g aa) λv2=>bif v2.2 !=0 then some ([],v2.2) else
 Uy (λ(s:List Int×List Hop×Int) next=>bif decide (s.2.2<(s.1.length:Int)) then
  Zd (λ(i:Nat) (ab:Edg) (t:List Int×List Hop) next2=>Z7 t.1 s.2.2 λx=>Z1 (Ub t.1 ((i:Int)+1)) λa=>Z1 (Ub t.1 ab.parent) λb=>
   Zp (t.1.length+1<=2097152/\t.2.length+1<=2097152) (bif (ab.parent==x)&&!a then next2 (t.1++[(i:Int)+1],t.2++[⟨(i:Int),false⟩]) else bif (((i:Int)+1)==x)&&!b then next2 (t.1++[ab.parent],t.2++[⟨(i:Int),true⟩]) else next2 t))
   (λt=>next (t.1,t.2,s.2.2+1)) g.edges 0 (s.1,s.2.1)
  else some (s.2.1,0)) DB ([aa],[],0)
theorem R6(g:Gr)(aa:Int)(r:List Hop×Int)(hm:Is (E5 g aa) r):
  Zj prog 81 [.agg g.enc,.i aa] (.tup [.l (r.1.map Hop.enc),.i r.2]):=by
 unfold E5 at hm;refine Zj.of_heap ?_;show Z4 _ _ [.agg (g.enc.map C.d),.i aa] HS.init _;refine Z4.ov Tryz.func81 ?_;obtain⟨v2,ba,hm⟩:=hm.bind;simp;refine Zq ((Rt g aa).h v2 ba) sI ?_;simp;refine Zw hm ?_ ?_<;>clear hm<;>intro hc hm;obtain rfl:=Ze hm;simp[ZG,ZA,ZL,ZR];exact⟨.data rfl,.data rfl,trivial⟩;simp;refine Z3.jN (λs e h'=>∃cq co,En e 90 [(2,.p (0,32)),(8,.one cq),(9,.one co),(10,.i s.2.2)]/\h'.box (0,32)=some [.d (.sl (g.base.tables.map Tbl.enc)),.d (.sl (g.base.fks.map Fk.enc)),.d (.sl (g.base.cons.map Cons.enc)),.d (.sl (g.edges.map Edg.enc))]/\0<h'.ep/\Zi h' 1 cq (s.1.map Zc)/\Zi h' 2 co (s.2.1.map Hop.enc)/\Ws cq co/\0<=s.2.2) hm
  ⟨.own (3,368) [Zc aa],.nil,sI,sI,sI,Zi.own sI sI sI,Zi.nil,by rw[MP];trivial,sI⟩ ?_
 rintro n ⟨queue,out,k⟩ e h' ⟨cq,co,hE,bg,ad,gQ,gO,ae,a8⟩ hm;simp only at hE gQ gO a8 hm;simp[hE];refine Bn gQ.list (λa7=>?_);simp only[Yi] at a7;have bd:queue.length<=2097152:=a7;simp[hE];refine Zw hm ?_ ?_<;>clear hm<;>intro hc hm;simp[hE,bg];intro bf;have hk0:k<(queue.length:Int):=by simpa using hc
 refine Z3.for (xs:=g.edges) (s0:=(queue,out)) (λi t e h'=>∃cq co,En e 90 [(2,.p (0,32)),(8,.one cq),(9,.one co),(10,.i k),(31,.l (g.edges.map Edg.enc)),(32,.i (g.edges.length:Int)),(33,.i (i:Int))]/\
  h'.box (0,32)=some [.d (.sl (g.base.tables.map Tbl.enc)),.d (.sl (g.base.fks.map Fk.enc)),.d (.sl (g.base.cons.map Cons.enc)),.d (.sl (g.edges.map Edg.enc))]/\0<h'.ep/\Zi h' 1 cq (t.1.map Zc)/\Zi h' 2 co (t.2.map Hop.enc)/\Ws cq co) hm ⟨cq,co,by simp[hE],bg,ad,gQ,gO,ae⟩ ?_ ?_
 rintro i t e h' ⟨cq,co,hE,bg,ad,gQ,gO,ae⟩ hlt hm;have hw:IntKind.i64.wrap ((i:Int)+1)=(i:Int)+1:=Y5 _ oM;obtain⟨x,ag,hx,hm⟩:=hm.get;obtain⟨a,ha,hm⟩:=hm.bind;obtain⟨b,hb,hm⟩:=hm.bind;obtain⟨⟨bi,hl2⟩,hm⟩:=hm.chk;have ah:(t.1.map Zc)[k.toNat]?=some [.int .i64 x]:=by rw[Y9,hx];rfl
 have af:=gQ.list;simp[hE,hlt];refine Z3.cu [0,1,2,3,4,5,6,7,8,9,10,11,12,13,14] (λE h1=>Ek e E [] [2,8,9,10,31,32,33]/\
  E.get 11=.i (i:Int)/\E.get 12=.p (h'.ep,192)/\h1.box (h'.ep,192)=some [.d (.int .i64 g.edges[i].parent),.d (.sl (g.edges[i].script.map Stp.enc))]/\h1.box (0,32)=some [.d (.sl (g.base.tables.map Tbl.enc)),.d (.sl (g.base.fks.map Fk.enc)),.d (.sl (g.base.cons.map Cons.enc)),.d (.sl (g.edges.map Edg.enc))]/\h'.ep<h1.ep/\Zi h1 1 cq (t.1.map Zc)/\Zi h1 2 co (t.2.map Hop.enc)/\E.get 38=.b ((g.edges[i].parent==x)&&!a)) ?_ ?_
 have b0:((0,32):Z2)≠(h'.ep,192):=sI;cases hp:(g.edges[i].parent==x) with|true=>?_|false=>?_;simp[hE,af,ag,ah,hp,hw];refine Zq ((Ge t.1 ((i:Int)+1)).h a ha) (by simp[W0,V.toA,gQ.toA]) ?_;simp[hE,af,ag,ah,hp,hw]
 try refine⟨λ_ _ x=>x,?_⟩
 refine Zb.of ⟨by simp[hE],by simp[hE],by simp[hE],sI,by simp[bg],sI,gQ.qA.next.qA.next,gO.qA.next.qA.next,by simp[hE]⟩;simp[hE,af,ag,ah,hp,hw]
 try refine⟨λ_ _ x=>x,?_⟩
 refine Zb.of ⟨by simp[hE],by simp[hE],by simp[hE],sI,by simp[bg],sI,gQ.qA.next.qA,gO.qA.next.qA,by simp[hE]⟩;rintro e1 h1 ⟨hF,ab,ac,be,bg,bc,gQ,gO,bb⟩;have hE:=hF.an hE;simp[hE,ab,ac,bb];refine Zw hm ?_ ?_<;>clear hm<;>intro bj hm;simp[hE,ab,ac];refine HD (xs:=t.2.map Hop.enc) (ys:=[Hop.enc ⟨(i:Int),false⟩]) H0 (gO.qW sI).next rfl dE dE sI sO λc2 h4 a1 al az am=>?_;obtain⟨ax,ap⟩:=am 1 cq (t.1.map Zc) (gQ.qW sI).next ae.symm;have b4:h4.box (0,32)=some [.d (.sl (g.base.tables.map Tbl.enc)),.d (.sl (g.base.fks.map Fk.enc)),.d (.sl (g.base.cons.map Cons.enc)),.d (.sl (g.edges.map Edg.enc))]:=by rw[al];simpa using bg
 have ay:h4.box (h'.ep,192)=some [.d (.int .i64 g.edges[i].parent),.d (.sl (g.edges[i].script.map Stp.enc))]:=by rw[al];simpa using be
 simp at az;simp[hE,ab,ac,b4,ay,hw];refine HD (xs:=t.1.map Zc) (ys:=[Zc ((i:Int)+1)]) Bk (ax.qW sI).next rfl dE dE sI sO λc3 h5 aw ar ak aj=>?_;obtain⟨au,aq⟩:=aj 2 c2 _ (a1.qW sI).next ap.symm;have b5:h5.box (0,32)=some [.d (.sl (g.base.tables.map Tbl.enc)),.d (.sl (g.base.fks.map Fk.enc)),.d (.sl (g.base.cons.map Cons.enc)),.d (.sl (g.edges.map Edg.enc))]:=by rw[ar];simpa using b4
 simp at ak;simp[hE,ab,ac,b5,hw];exact Zf.of (t.1++[(i:Int)+1],t.2++[⟨(i:Int),false⟩]) ⟨⟨c3,c2,by simp[hE],b5,oM,by simpa using aw,by simpa using au,aq⟩,hm⟩;have af:=gQ.list;simp[hE,ab,ac,be,af,ag,ah,hw];cases hp:(((i:Int)+1)==x) with|true=>?_|false=>?_;rw[hp] at hm;simp[hE,ab,ac,be,af,ag,ah,hw,hp];refine Zq ((Ge t.1 g.edges[i].parent).h b hb) (by simp[W0,V.toA,gQ.toA]) ?_;simp[hE,ab,ac,be,af,ag,ah,hw,hp];refine Zw hm ?_ ?_<;>clear hm<;>intro bh hm;simp[hE,ab,ac];refine HD (xs:=t.2.map Hop.enc) (ys:=[Hop.enc ⟨(i:Int),true⟩]) H0 (gO.next.qW sI).next rfl dE dE sI sO λc2 h4 a1 al az am=>?_;obtain⟨ax,ap⟩:=am 1 cq (t.1.map Zc) (gQ.next.qW sI).next ae.symm;have b4:h4.box (0,32)=some [.d (.sl (g.base.tables.map Tbl.enc)),.d (.sl (g.base.fks.map Fk.enc)),.d (.sl (g.base.cons.map Cons.enc)),.d (.sl (g.edges.map Edg.enc))]:=by rw[al];simpa using bg
 have ay:h4.box (h'.ep,192)=some [.d (.int .i64 g.edges[i].parent),.d (.sl (g.edges[i].script.map Stp.enc))]:=by rw[al];simpa using be
 simp at az;simp[hE,ab,ac,b4,ay,hw];refine HD (xs:=t.1.map Zc) (ys:=[Zc (g.edges[i].parent)]) Bk (ax.qW sI).next rfl dE dE sI sO λc3 h5 aw ar ak aj=>?_;obtain⟨au,aq⟩:=aj 2 c2 _ (a1.qW sI).next ap.symm;have b5:h5.box (0,32)=some [.d (.sl (g.base.tables.map Tbl.enc)),.d (.sl (g.base.fks.map Fk.enc)),.d (.sl (g.base.cons.map Cons.enc)),.d (.sl (g.edges.map Edg.enc))]:=by rw[ar];simpa using b4
 simp at ak;simp[hE,ab,ac,b5,hw];exact Zf.of (t.1++[g.edges[i].parent],t.2++[⟨(i:Int),true⟩]) ⟨⟨c3,c2,by simp[hE],b5,oM,by simpa using aw,by simpa using au,aq⟩,hm⟩
 try simp[hE,ab,ac,hw]
 exact Zf.of t ⟨⟨cq,co,by simp[hE],by first|exact bg|simpa using bg,by first|exact ad|(simp<;>omega)|omega,gQ.next,gO.next,ae⟩,hm⟩;rw[hp] at hm;simp[hE,ab,ac,be,af,ag,ah,hw,hp];exact Zf.of t ⟨⟨cq,co,by simp[hE],by first|exact bg|simpa using bg,by first|exact ad|(simp<;>omega)|omega,gQ,gO,ae⟩,hm⟩;rintro t e h' ⟨cq,co,hE,bg,ad,gQ,gO,ae⟩ hm;have hw:IntKind.i64.wrap (k+1)=k+1:=Y5 _ oM;simp[hE,hw];exact Zf.of (t.1,t.2,k+1) ⟨⟨cq,co,by simp[hE],bg,ad,gQ,gO,ae,sO⟩,hm⟩;obtain rfl:=Ze hm;simp[ZG,ZA,ZL,ZR,hE];exact⟨.data gO.toD,.data rfl,trivial⟩
theorem Ha{x:C}{k}{n:Int}(h:x.toD=some (.int k n)):x=.d (.int k n):=by
 cases x<;>simp[C.toD] at h;rw[h]
theorem Jz{x:C}{b}(h:x.toD=some (.bool b)):x=.b b:=by
 cases x<;>simp[C.toD] at h;rw[h]
structure PSt where
 insts:List (List Rel)
 comps:List (List (List Rel))
 errs:List Int
 reached:List Bool
def PSt.rows(s:PSt)(ci cc ce cr:C):List (C×List D):=[(ci,s.insts.map W9),(cc,s.comps.map VB),(ce,s.errs.map λz=>.int .i64 z),(cr,s.reached.map D.bool)]
def Kg(b:Bool)(S:Sch)(steps:List Stp)(x:List Rel)(c:List (List Rel)):Option (List Rel×List (List Rel)×Int):=bif b then Ab S steps x c else Ad S steps x c
def Fs{ρ:Type}(aa:List Sch)(ab:Edg)(ac:Hop)(n f:Int)(s:PSt)(next:PSt->Option ρ):Option ρ:=
 Z7 s.reached n λrn=>bif !rn then next s else Z7 s.errs n λen=>bif en !=0 then next s else Zp (0<=f/\f<s.reached.length/\f<s.errs.length)<|
  Z7 aa ab.parent λad=>Z7 s.insts n λinst=>Z7 s.comps ac.edge λcm=>Z1 (Kg ac.back ad ab.script inst cm) λr=>
   bif r.2.2==0 then Zp (f<s.insts.length) (next ⟨s.insts.set f.toNat r.1,s.comps.set ac.edge.toNat r.2.1,s.errs.set f.toNat r.2.2,s.reached.set f.toNat true⟩)
   else next ⟨s.insts,s.comps,s.errs.set f.toNat r.2.2,s.reached.set f.toNat true⟩
def DZ(g:Gr)(aa:List Sch)(ae:List (List Rel))(ad:List (List (List Rel)))(v:Int):Option PSt:=
 Zp (0<=v/\v<aa.length)<|Z1 (E5 g v) λT=>
 Zd (λ(_:Nat) (ab:Hop) (s:PSt) next=>Z7 g.edges ab.edge λac=>Zp (W8 (ab.edge+1))<|
  Fs aa ac ab (bif ab.back then ab.edge+1 else ac.parent) (bif ab.back then ac.parent else ab.edge+1) s next) (λs=>some s) T.1 0
  ⟨ae,ad,List.replicate aa.length 0,(List.replicate aa.length false).set v.toNat true⟩
theorem QT(h)(g:Gr)(schemas)(ak)(ag)(v:Int)(ci cc)(r)(hm:Is (DZ g schemas ak ag v) r)(mC:MC h [(ci,ak.map W9),(cc,ag.map VB)])(K)
  (hK:∀ce cr h',MC h' (r.rows ci cc ce cr)->Z0 h h' (labs ci++labs cc)->(∀k∈labs ce++labs cr,h.ep<=k.1)->K (.tup [.one ce,.one cr]) h'):
  Z4 prog 42 [.agg (g.enc.map C.d),.l (schemas.map Sch.enc),.agg [ci,cc],.i v] h K:=by
 refine Z4.ov Tryz.func42 ?_;unfold DZ at hm;obtain⟨⟨el,e0⟩,hm⟩:=hm.chk;obtain⟨T,hT,hm⟩:=hm.bind;have mk:∀(H:HS) (le lr:Z2),schemas.length<=2097152->H.box le=some (List.replicate schemas.length (.i 0))->H.box lr=some (List.replicate schemas.length (.b false))->le≠lr->h.ep+1<le.1->le.1<H.ep->h.ep+1<lr.1->lr.1<H.ep->Z0 h H []->
   MC H ((⟨ak,ag,List.replicate schemas.length 0,List.replicate schemas.length false⟩:PSt).rows ci cc (.mrow le 0 schemas.length schemas.length) (.mrow lr 0 schemas.length schemas.length)):=by
  intro H le lr hn b1 b2 hne g1 g2 g3 g4 hs;have m2:=mC.new hs;have hlt:=mC.lt;have hd:=mC.dis;simp only[YB,Xv,Ym] at hd;have hi:∀k∈labs ci,k.1<h.ep:=hlt _ (Y6 ..);have hc:∀k∈labs cc,k.1<h.ep:=hlt _ (Yc _ (Y6 ..));have c1:=Wb.make b1 (d:=.int .i64 0) rfl hn;have c2:=Wb.make b2 (d:=.bool false) rfl hn;refine⟨λq hq=>?_,λq hq k hk=>?_,?_⟩;simp only[PSt.rows,XC,Y8,Xj,or_false] at hq;rcases hq with rfl|rfl|rfl|rfl;exact m2.row _ (Y6 ..);exact m2.row _ (Yc _ (Y6 ..));exact c1;exact c2;have eg:=hs.1;simp only[PSt.rows,XC,Y8,Xj,or_false] at hq;rcases hq with rfl|rfl|rfl|rfl
  have:=hi k hk;omega
  have:=hc k hk;omega
  simp only[labs,Yu] at hk;rw[hk];exact g2;simp only[labs,Yu] at hk;rw[hk];exact g4;simp only[PSt.rows,YB,Xv,Ym,labs];have hn:=Yg.1 hd;refine Yg.2 ⟨hn.1,Yg.2 ⟨hn.2.1,by simp[hne],λa ha b hb he=>?_⟩,λa ha b hb he=>?_⟩;subst he
  have:=hc a ha
  simp at hb;rcases hb with rfl|rfl<;>omega;subst he
  have:=hi a ha
  simp at hb;rcases hb with hb|rfl|rfl;exact hn.2.2 a ha a hb rfl;omega;omega
 simp;refine Z3.cut (Plan.qB [0,1,3,4] (.two 2 5 (Plan.qB [6,5,7] .done) (Plan.qB [2,6,7] .done))) follows kR (λe1 h1=>∃ce cr,En e1 118 [(1,.l (schemas.map Sch.enc)),(3,.i v),(4,.p (h.ep,64)),(6,.p (h.ep+1,96)),(8,.one ce),(9,.one cr)]/\
  h1.box (h.ep,64)=some (g.enc.map C.d)/\h1.box (h.ep+1,96)=some [ci,cc]/\MC h1 ((⟨ak,ag,List.replicate schemas.length 0,List.replicate schemas.length false⟩:PSt).rows ci cc ce cr)/\Z0 h h1 []/\(∀k∈labs ce++labs cr,h.ep+1<k.1)/\h.ep+1<h1.ep) ?_ ?_
 simp;intro dz;refine⟨⟨oM,Zb.of ⟨.mrow (h.ep+1+1,368) 0 schemas.length schemas.length,.mrow (h.ep+1+1+1,416) 0 schemas.length schemas.length,sI,sI,sI,mk _ (h.ep+1+1,368) (h.ep+1+1+1,416) dz sI sI sI sI sI sI sI ?_,?_,by simp[labs],sI⟩⟩,?_⟩;exact sm;exact sm;refine⟨oM,Zb.of ⟨.mrow (h.ep+1+1+1,368) 0 schemas.length schemas.length,.mrow (h.ep+1+1,416) 0 schemas.length schemas.length,sI,sI,sI,mk _ (h.ep+1+1+1,368) (h.ep+1+1,416) dz sI sI sI sI sI sI sI ?_,?_,by simp[labs],sI⟩⟩;exact sm;exact sm;rintro e1 h1 ⟨ce,cr,hE,bg,bd,mP,ef,bz,ew⟩;have ek:v.toNat<(List.map D.bool (List.replicate schemas.length false)).length:=sO
 obtain⟨lr,cap,bs,ap,ar,ed,dg,-,d1⟩:=mP.at (j:=3) rfl ek;simp only[Yi,X1] at ap;have ez:=Zm dg;have dy:v.toNat<schemas.length:=oM
 have d7:((h.ep,64)=lr)=False:=eq_false (by rintro rfl;have h9:h.ep+1<h.ep:=bz (h.ep,64) (by rw[ap];simp[labs]);omega);have em:((h.ep+1,96)=lr)=False:=eq_false (by rintro rfl;have h9:h.ep+1<h.ep+1:=bz (h.ep+1,96) (by rw[ap];simp[labs]);omega);have m1:=d1 h1 _ (.b true) (.bool true) mP rfl rfl;rw[ap] at hE;simp only[Gr.enc,Yb,Yd] at bg;simp[hE,el,dy,ar,ed,bg,d7];refine Zq (R6 g v T hT) sI ?_;simp[hE];intro ey;have d0:∀k∈labs ci,k.1<h.ep:=mC.lt _ (Y6 ..);have d5:∀k∈labs cc,k.1<h.ep:=mC.lt _ (Yc _ (Y6 ..));have d6:∀k∈labs ce,h.ep+1<k.1:=λk hk=>bz k (by simp[hk]);have cj:∀k∈labs cr,h.ep+1<k.1:=λk hk=>bz k (by simp[hk]);have ej:MC (h1.qA lr (Zh bs v.toNat [.b true])) ((⟨ak,ag,List.replicate schemas.length 0,(List.replicate schemas.length false).set v.toNat true⟩:PSt).rows ci cc ce cr):=by simpa[PSt.rows,hE] using m1
 rw[<-ap] at hE|-;refine Z3.for (xs:=T.1) (λi s E h'=>Ek e1 E [(36,.l (T.1.map Hop.enc)),(37,.i (T.1.length:Int)),(38,.i (i:Int))] [1,4,6,8,9]/\
  h'.box (h.ep,64)=some (g.enc.map C.d)/\h'.box (h.ep+1,96)=some [ci,cc]/\MC h' (s.rows ci cc ce cr)/\Z0 h h' (labs ci++labs cc)/\h.ep+1<h'.ep) hm
  ⟨by simp[hE],by simp[d7,bg],by simp[em,bd],ej.new sm,?_,sO⟩ ?_ ?_
 refine(Z0.qA (ef.mn) (.inr ?_)).next
 have:=cj lr (by rw[ap];simp[labs])
 omega
 .rintro i s e h' ⟨hF,bg,bd,mP,hs,eg⟩ hlt hm;have hE:=hF.an hE;have hw:IntKind.i64.wrap ((i:Int)+1)=(i:Int)+1:=Y5 _ oM;obtain⟨aa,bt,dl,hm⟩:=hm.get;obtain⟨d9,hm⟩:=hm.chk;have d8:=K0 d9;simp only[Gr.enc,Yb,Yd] at bg;simp[hE,hlt,bg,bt,dl];refine Z3.cu [0,1,2,3,4,5,6] (λE h2=>Ek e E [(13,.p (h'.ep,208)),(14,.p (h'.ep+1,224))] [1,4,6,8,9,36,37,38]/\h2.box (h'.ep,208)=some [.i T.1[i].edge,.b T.1[i].back]/\h2.box (h'.ep+1,224)=some [.i aa.parent,.l (aa.script.map Stp.enc)]/\E.get 15=.i aa.parent/\E.get 16=.i (T.1[i].edge+1)/\Z0 h' h2 []/\h'.ep+1<h2.ep) ?_ ?_;simp[hE,d8];refine Zb.of ⟨by simp[hE],sI,sI,sI,sI,?_,sI⟩;exact sm;rintro E2 h2 ⟨hF,am,d3,af,ad,bm,ex⟩;have hE:=hF.an hE;have ab:=mP.new bm;have bo:=(bm.2 (h.ep,64) sO sI).trans bg;have ay:=(bm.2 (h.ep+1,96) sO sI).trans bd;have hs2:=hs.trans (bm.mn);cases hbk:T.1[i].back with
  |false=>
    rw[hbk] at hm am;simp only[cond_false] at hm;simp[hE,af,am];unfold Fs at hm;obtain⟨rn,bn,bp,hm⟩:=hm.get;have bv:(aa.parent).toNat<(s.reached.map D.bool).length:=by simpa using(Y0.1 bp).1
    obtain⟨lr,capr,br,ap,ar,_,dg,⟨xr,df,cv⟩,dt⟩:=ab.at (j:=3) rfl bv;simp only[Y9,bp,Yj,Ya] at cv;obtain rfl:=Jz cv;have b0:cr=.mrow lr 0 s.reached.length capr:=by simpa using ap
    subst b0;have c6:(aa.parent).toNat<s.reached.length:=by simpa using bv
    simp[hE,af,bn,c6,ar,df];cases rn with|false=>?_|true=>?_;simp only[Xr,cond_true] at hm;simp[hE,af,hw];exact Zf.of s ⟨⟨by simp[hE],by simpa using bo,ay,ab,hs2,oM⟩,hm⟩;simp only[Xf,cond_false] at hm;obtain⟨eh,-,cy,hm⟩:=hm.get;have hne:(aa.parent).toNat < (s.errs.map λz=>D.int .i64 z).length:=by simpa using (Y0.1 cy).1
    obtain⟨le,cape,be,b9,bl,_,dk,⟨xe,dm,b6⟩,dx⟩:=ab.at (j:=2) rfl hne;simp only[Y9,cy,Yj,Ya] at b6;obtain rfl:=Ha b6;have b8:ce=.mrow le 0 s.errs.length cape:=by simpa using b9
    subst b8;have hne':(aa.parent).toNat < s.errs.length:=by simpa using hne
    simp[hE,af,bn,hne',bl,dm];refine Zw hm ?_ ?_<;>clear hm<;>intro _ hm;simp[hE,af,hw];exact Zf.of s ⟨⟨by simp[hE],by simpa using bo,ay,ab,hs2,oM⟩,hm⟩;obtain⟨⟨bh,et,eb⟩,hm⟩:=hm.chk;obtain⟨dq,dv,b4,hm⟩:=hm.get;obtain⟨inst,-,cz,hm⟩:=hm.get;obtain⟨cm,-,cd,hm⟩:=hm.get;obtain⟨r2,bu,hm⟩:=hm.bind;rw[hbk] at bu;have cq:(T.1[i].edge+1).toNat < s.reached.length:=oM
    have c7:(T.1[i].edge+1).toNat < s.errs.length:=oM;have cl:(aa.parent).toNat < s.insts.length:=(Y0.1 cz).1;have ba:T.1[i].edge.toNat < s.comps.length:=(Y0.1 cd).1;obtain⟨ei,dc,ea,ac,c8,bk,-,-,a7⟩:=ab.at (j:=3) (i:=(T.1[i].edge+1).toNat) rfl (by simpa using cq);simp at ac;obtain⟨rfl,rfl⟩:=ac;obtain rfl:=Option.some.inj (ar.symm.trans c8);obtain⟨ec,dr,eo,ac,cn,bf,-,-,au⟩:=ab.at (j:=2) (i:=(T.1[i].edge+1).toNat) rfl (by simpa using c7);simp at ac;obtain⟨rfl,rfl⟩:=ac;obtain rfl:=Option.some.inj (bl.symm.trans cn);obtain⟨li,capi,bi,ac,az,_,dp,⟨xi,du,ca⟩,-⟩:=ab.at (j:=0) (i:=(aa.parent).toNat) rfl (by simpa using cl);have aj:ci=.mrow li 0 s.insts.length capi:=by simpa using ac
    subst aj;simp only[Y9,cz,Yj,Ya] at ca;obtain⟨lc,capc,bc,ac,bq,cp,dj,⟨xc,dh,da⟩,bj⟩:=ab.at (j:=1) (i:=T.1[i].edge.toNat) rfl (by simpa using ba);have aj:cc=.mrow lc 0 s.comps.length capc:=by simpa using ac
    subst aj;simp only[Y9,cd,Yj,Ya] at da;have aw:lr.1 < h'.ep:=mP.lt _ (Yc _ (Yc _ (Yc _ (Y6 ..)))) lr (by simp[labs]);have cw:le.1 < h'.ep:=mP.lt _ (Yc _ (Yc _ (Y6 ..))) le (by simp[labs]);have q1:=ZP aw;have q2:=ZP cw;have b5:h.ep+1 < lr.1:=cj lr (by simp[labs]);have b3:h.ep+1 < le.1:=d6 le (by simp[labs]);have q3:((h.ep+1,96)=lr)=False:=eq_false (by rintro rfl;simp at b5);have q4:((h.ep+1,96)=le)=False:=eq_false (by rintro rfl;simp at b3);have q5:(li=lr)=False:=eq_false (λhq=>U1 ab.dis (k1:=0) (k2:=3) rfl rfl dE li (by simp[labs]) (by simp[labs,hq]));have q6:(lc=lr)=False:=eq_false (λhq=>U1 ab.dis (k1:=1) (k2:=3) rfl rfl dE lc (by simp[labs]) (by simp[labs,hq]));have q7:(le=lr)=False:=eq_false (λhq=>U1 ab.dis (k1:=2) (k2:=3) rfl rfl dE le (by simp[labs]) (by simp[labs,hq]));have q8:(li=le)=False:=eq_false (λhq=>U1 ab.dis (k1:=0) (k2:=2) rfl rfl dE li (by simp[labs]) (by simp[labs,hq]));have q9:(lc=le)=False:=eq_false (λhq=>U1 ab.dis (k1:=1) (k2:=2) rfl rfl dE lc (by simp[labs]) (by simp[labs,hq]));have dw:(lc=li)=False:=eq_false (λhq=>U1 ab.dis (k1:=1) (k2:=0) rfl rfl dE lc (by simp[labs]) (by simp[labs,hq]));have m3:=a7 h2 _ (.b true) (.bool true) ab rfl rfl;simp[hE,af,ad,am,bh,cq,ar,bk,q1];refine Z3.cu [0,1,2,3,4,5,6,7,8,9,10,11,12,13,14,15,16,17,18,19,20,21,22,23,24,25,26] (λE h4=>Ek E2 E [(8,.one (.mrow le 0 s.errs.length cape)),(9,.one (.mrow lr 0 s.reached.length capr))] [1,4,6,36,37,38] /\
     E.get 13=.p (h'.ep,208)/\E.get 16=.i (T.1[i].edge+1)/\E.get 18=.l (r2.1.map Rel.enc)/\E.get 19=.l (r2.2.1.map (Z6 Rel.enc))/\E.get 20=.i r2.2.2/\Z0 (h2.qA lr (Zh br (T.1[i].edge+1).toNat [.b true])) h4 []) ?_ ?_
    simp[hE,af,am,d3,dv,b4,cl,bt,ba,az,bq,du,dh,q1,q3,q5,q6,ay];refine Zq (Lw dq aa.script inst cm r2 bu) (by simp[W0,V.toA,(Dj ca).2.2,(Dj da).2.2]) ?_;simp[hE]
    try refine⟨λ_ _ x=>x,?_⟩
    refine Zb.of ⟨by simp[hE],by simp[hE],by simp[ad],sI,sI,sI,?_⟩;exact sm;rintro E3 h4 ⟨hF,de,ad,dd,dn,a1,ae⟩;have hE:=hF.an hE;have m4:=m3.new ae;have m5:=au h4 _ (.i r2.2.2) (.int .i64 r2.2.2) m4 rfl rfl;have old:∀ k:Z2,k.1 < h2.ep->k≠lr->h4.box k=h2.box k:=λk hk hq=>by
     have:=ae.2 k (by simpa using hk) sI
     rw[this];simp[hq]
    have cx:=(old le dk (by simpa using q7)).trans bl;have cb:=(old li dp (by simpa using q5)).trans az;have ck:=(old lc dj (by simpa using q6)).trans bq;have bw:=(old (h'.ep,208) (by show h'.ep < h2.ep;omega) (by intro hq;have h9:=aw;rw[<- hq] at h9;exact absurd h9 (Nat.lt_irrefl _))).trans am;have bb:=(old (h.ep+1,96) (by show h.ep+1 < h2.ep;omega) (λhq=>by rw[q3] at hq;exact hq)).trans ay;have cf:=(old (h.ep,64) (by show h.ep < h2.ep;omega) (by intro hq;have h9:=b5;rw[<- hq] at h9;have h9:h.ep+1 < h.ep:=h9;omega)).trans bo;have ax:((h.ep,64)=le)=False:=eq_false (by rintro rfl;have h9:h.ep+1 < h.ep:=b3;omega);have cg:=ae.1;simp at cg;have ch:Z0 h (h4.qA le (Zh be (T.1[i].edge+1).toNat [.i r2.2.2])) (labs (.mrow li 0 s.insts.length capi)++labs (.mrow lc 0 s.comps.length capc)):=
     Z0.qA (Z0.trans (Z0.qA hs2 (.inr oM)) (ae.mn)) (.inr oM)
    simp[hE,ad,a1,bh,c7,cx,bf];refine Zw hm ?_ ?_<;>clear hm<;>intro _ hm
    .obtain⟨d4,hm⟩:=hm.chk;have hfi:(T.1[i].edge+1).toNat < s.insts.length:=oM
     obtain⟨en,di,ee,ac,b7,a8,-,-,aq⟩:=ab.at (j:=0) (i:=(T.1[i].edge+1).toNat) rfl (by simpa using hfi);simp at ac;obtain⟨rfl,rfl⟩:=ac;obtain rfl:=Option.some.inj (az.symm.trans b7);have m6:=aq _ _ (.d (W9 r2.1)) (W9 r2.1) m5 rfl rfl;have m7:=bj _ _ (.d (VB r2.2.1)) (VB r2.2.1) m6 rfl rfl;have al:li.1 < h.ep:=d0 li (by simp[labs]);have ah:lc.1 < h.ep:=d5 lc (by simp[labs]);have p1:=ZP al;have p2:=ZP ah;have p3:=Zm al;have p4:=Zm ah;have p5:((h'.ep,208)=li)=False:=eq_false (by rintro rfl;simp at al;omega);have p6:((h'.ep,208)=lc)=False:=eq_false (by rintro rfl;simp at ah;omega);simp[hE,ad,a1];refine Z3.cut (Plan.qB [0,1,2,3,5,7,8,9] (.three 4 6 10 (Plan.qB [] (.two 6 10 (Plan.qB [10,11,12] .done) (Plan.qB [6,11,12] .done))) (Plan.qB [] (.two 4 10 (Plan.qB [10,11,12] .done) (Plan.qB [4,11,12] .done))) (Plan.qB [4,6,11,12] .done))) follows kR (λE h5=>Ek E3 E [] [1,4,6,8,9,36,37,38] /\
      h5=((h4.qA le (Zh be (T.1[i].edge+1).toNat [.i r2.2.2])).qA li (Zh bi (T.1[i].edge+1).toNat [.d (W9 r2.1)])).qA lc (Zh bc T.1[i].edge.toNat [.d (VB r2.2.1)])) ?_ ?_
     .simp[hE,de,ad,dd,dn,bh,hfi,bt,ba,cb,ck,a8,cp,bw,bb,q2,q4,q8,q9,dw,p1,p5]
      repeat' with_reducible refine And.intro ?_ ?_
      all_goals first
       | (refine Zb.of ⟨by simp[hE],rfl⟩)
     rintro E4 h5 ⟨hF,rfl⟩;have hE:=hF.an hE;simp[hE,hw];refine Zf.of _ ⟨⟨by simp[hE],?_,?_,?_,?_,?_⟩,hm⟩;simp[p1,p2,ax];simpa using cf;simp[p1,p2,q4];exact bb;simpa[PSt.rows,YD] using m7;exact (ch.qA (.inl (by simp[labs]))).qA (.inl (by simp[labs]));simp;omega
    simp[hE,ad,a1,hw];refine Zf.of _ ⟨⟨by simp[hE],?_,?_,?_,ch,?_⟩,hm⟩;simp[ax];simpa using cf;simp[q4];exact bb;simpa[PSt.rows,YD] using m5;simp;omega
  |true=>?_
  rw[hbk] at hm am;simp only[cond_true] at hm;simp[hE,af,ad,am];unfold Fs at hm;obtain⟨rn,bn,bp,hm⟩:=hm.get;have bv:(T.1[i].edge+1).toNat < (s.reached.map D.bool).length:=by simpa using (Y0.1 bp).1
  obtain⟨lr,capr,br,ap,ar,_,dg,⟨xr,df,cv⟩,dt⟩:=ab.at (j:=3) rfl bv;simp only[Y9,bp,Yj,Ya] at cv;obtain rfl:=Jz cv;have b0:cr=.mrow lr 0 s.reached.length capr:=by simpa using ap
  subst b0;have c6:(T.1[i].edge+1).toNat < s.reached.length:=by simpa using bv
  simp[hE,af,ad,bn,c6,ar,df];cases rn with|false=>?_|true=>?_;simp only[Xr,cond_true] at hm;simp[hE,af,ad,hw];exact Zf.of s ⟨⟨by simp[hE],by simpa using bo,ay,ab,hs2,oM⟩,hm⟩;simp only[Xf,cond_false] at hm;obtain⟨eh,-,cy,hm⟩:=hm.get;have hne:(T.1[i].edge+1).toNat < (s.errs.map λz=>D.int .i64 z).length:=by simpa using (Y0.1 cy).1
  obtain⟨le,cape,be,b9,bl,_,dk,⟨xe,dm,b6⟩,dx⟩:=ab.at (j:=2) rfl hne;simp only[Y9,cy,Yj,Ya] at b6;obtain rfl:=Ha b6;have b8:ce=.mrow le 0 s.errs.length cape:=by simpa using b9
  subst b8;have hne':(T.1[i].edge+1).toNat < s.errs.length:=by simpa using hne
  simp[hE,af,ad,bn,hne',bl,dm];refine Zw hm ?_ ?_<;>clear hm<;>intro _ hm;simp[hE,af,ad,hw];exact Zf.of s ⟨⟨by simp[hE],by simpa using bo,ay,ab,hs2,oM⟩,hm⟩;obtain⟨⟨bh,et,eb⟩,hm⟩:=hm.chk;obtain⟨dq,dv,b4,hm⟩:=hm.get;obtain⟨inst,-,cz,hm⟩:=hm.get;obtain⟨cm,-,cd,hm⟩:=hm.get;obtain⟨r2,bu,hm⟩:=hm.bind;rw[hbk] at bu;have cq:(aa.parent).toNat < s.reached.length:=oM
  have c7:(aa.parent).toNat < s.errs.length:=oM;have cl:(T.1[i].edge+1).toNat < s.insts.length:=(Y0.1 cz).1;have ba:T.1[i].edge.toNat < s.comps.length:=(Y0.1 cd).1;obtain⟨ei,dc,ea,ac,c8,bk,-,-,a7⟩:=ab.at (j:=3) (i:=(aa.parent).toNat) rfl (by simpa using cq);simp at ac;obtain⟨rfl,rfl⟩:=ac;obtain rfl:=Option.some.inj (ar.symm.trans c8);obtain⟨ec,dr,eo,ac,cn,bf,-,-,au⟩:=ab.at (j:=2) (i:=(aa.parent).toNat) rfl (by simpa using c7);simp at ac;obtain⟨rfl,rfl⟩:=ac;obtain rfl:=Option.some.inj (bl.symm.trans cn);obtain⟨li,capi,bi,ac,az,_,dp,⟨xi,du,ca⟩,-⟩:=ab.at (j:=0) (i:=(T.1[i].edge+1).toNat) rfl (by simpa using cl);have aj:ci=.mrow li 0 s.insts.length capi:=by simpa using ac
  subst aj;simp only[Y9,cz,Yj,Ya] at ca;obtain⟨lc,capc,bc,ac,bq,cp,dj,⟨xc,dh,da⟩,bj⟩:=ab.at (j:=1) (i:=T.1[i].edge.toNat) rfl (by simpa using ba);have aj:cc=.mrow lc 0 s.comps.length capc:=by simpa using ac
  subst aj;simp only[Y9,cd,Yj,Ya] at da;have aw:lr.1 < h'.ep:=mP.lt _ (Yc _ (Yc _ (Yc _ (Y6 ..)))) lr (by simp[labs]);have cw:le.1 < h'.ep:=mP.lt _ (Yc _ (Yc _ (Y6 ..))) le (by simp[labs]);have q1:=ZP aw;have q2:=ZP cw;have b5:h.ep+1 < lr.1:=cj lr (by simp[labs]);have b3:h.ep+1 < le.1:=d6 le (by simp[labs]);have q3:((h.ep+1,96)=lr)=False:=eq_false (by rintro rfl;simp at b5);have q4:((h.ep+1,96)=le)=False:=eq_false (by rintro rfl;simp at b3);have q5:(li=lr)=False:=eq_false (λhq=>U1 ab.dis (k1:=0) (k2:=3) rfl rfl dE li (by simp[labs]) (by simp[labs,hq]));have q6:(lc=lr)=False:=eq_false (λhq=>U1 ab.dis (k1:=1) (k2:=3) rfl rfl dE lc (by simp[labs]) (by simp[labs,hq]));have q7:(le=lr)=False:=eq_false (λhq=>U1 ab.dis (k1:=2) (k2:=3) rfl rfl dE le (by simp[labs]) (by simp[labs,hq]));have q8:(li=le)=False:=eq_false (λhq=>U1 ab.dis (k1:=0) (k2:=2) rfl rfl dE li (by simp[labs]) (by simp[labs,hq]));have q9:(lc=le)=False:=eq_false (λhq=>U1 ab.dis (k1:=1) (k2:=2) rfl rfl dE lc (by simp[labs]) (by simp[labs,hq]));have dw:(lc=li)=False:=eq_false (λhq=>U1 ab.dis (k1:=1) (k2:=0) rfl rfl dE lc (by simp[labs]) (by simp[labs,hq]));have m3:=a7 h2 _ (.b true) (.bool true) ab rfl rfl;simp[hE,af,ad,am,bh,cq,ar,bk,q1];refine Z3.cu [0,1,2,3,4,5,6,7,8,9,10,11,12,13,14,15,16,17,18,19,20,21,22,23,24,25,26] (λE h4=>Ek E2 E [(8,.one (.mrow le 0 s.errs.length cape)),(9,.one (.mrow lr 0 s.reached.length capr))] [1,4,6,36,37,38] /\
   E.get 13=.p (h'.ep,208)/\E.get 16=.i (aa.parent)/\E.get 18=.l (r2.1.map Rel.enc)/\E.get 19=.l (r2.2.1.map (Z6 Rel.enc))/\E.get 20=.i r2.2.2/\Z0 (h2.qA lr (Zh br (aa.parent).toNat [.b true])) h4 []) ?_ ?_
  simp[hE,am,d3,dv,b4,bn,cl,bt,ba,az,bq,du,dh,q1,q3,q5,q6,ay];refine Zq (Lr dq aa.script inst cm r2 bu) (by simp[W0,V.toA,(Dj ca).2.2,(Dj da).2.2]) ?_;simp[hE]
  try refine⟨λ_ _ x=>x,?_⟩
  refine Zb.of ⟨by simp[hE],by simp[hE],sI,sI,sI,sI,?_⟩;exact sm;rintro E3 h4 ⟨hF,de,ad,dd,dn,a1,ae⟩;have hE:=hF.an hE;have m4:=m3.new ae;have m5:=au h4 _ (.i r2.2.2) (.int .i64 r2.2.2) m4 rfl rfl;have old:∀ k:Z2,k.1 < h2.ep->k≠lr->h4.box k=h2.box k:=λk hk hq=>by
   have:=ae.2 k (by simpa using hk) sI
   rw[this];simp[hq]
  have cx:=(old le dk (by simpa using q7)).trans bl;have cb:=(old li dp (by simpa using q5)).trans az;have ck:=(old lc dj (by simpa using q6)).trans bq;have bw:=(old (h'.ep,208) (by show h'.ep < h2.ep;omega) (by intro hq;have h9:=aw;rw[<- hq] at h9;exact absurd h9 (Nat.lt_irrefl _))).trans am;have bb:=(old (h.ep+1,96) (by show h.ep+1 < h2.ep;omega) (λhq=>by rw[q3] at hq;exact hq)).trans ay;have cf:=(old (h.ep,64) (by show h.ep < h2.ep;omega) (by intro hq;have h9:=b5;rw[<- hq] at h9;have h9:h.ep+1 < h.ep:=h9;omega)).trans bo;have ax:((h.ep,64)=le)=False:=eq_false (by rintro rfl;have h9:h.ep+1 < h.ep:=b3;omega);have cg:=ae.1;simp at cg;have ch:Z0 h (h4.qA le (Zh be (aa.parent).toNat [.i r2.2.2])) (labs (.mrow li 0 s.insts.length capi)++labs (.mrow lc 0 s.comps.length capc)):=
   Z0.qA (Z0.trans (Z0.qA hs2 (.inr oM)) (ae.mn)) (.inr oM)
  simp[hE,ad,a1,bh,c7,cx,bf];refine Zw hm ?_ ?_<;>clear hm<;>intro _ hm
  .obtain⟨d4,hm⟩:=hm.chk;have hfi:(aa.parent).toNat < s.insts.length:=oM
   obtain⟨en,di,ee,ac,b7,a8,-,-,aq⟩:=ab.at (j:=0) (i:=(aa.parent).toNat) rfl (by simpa using hfi);simp at ac;obtain⟨rfl,rfl⟩:=ac;obtain rfl:=Option.some.inj (az.symm.trans b7);have m6:=aq _ _ (.d (W9 r2.1)) (W9 r2.1) m5 rfl rfl;have m7:=bj _ _ (.d (VB r2.2.1)) (VB r2.2.1) m6 rfl rfl;have al:li.1 < h.ep:=d0 li (by simp[labs]);have ah:lc.1 < h.ep:=d5 lc (by simp[labs]);have p1:=ZP al;have p2:=ZP ah;have p3:=Zm al;have p4:=Zm ah;have p5:((h'.ep,208)=li)=False:=eq_false (by rintro rfl;simp at al;omega);have p6:((h'.ep,208)=lc)=False:=eq_false (by rintro rfl;simp at ah;omega);simp[hE,ad,a1];refine Z3.cut (Plan.qB [0,1,2,3,5,7,8,9] (.three 4 6 10 (Plan.qB [] (.two 6 10 (Plan.qB [10,11,12] .done) (Plan.qB [6,11,12] .done))) (Plan.qB [] (.two 4 10 (Plan.qB [10,11,12] .done) (Plan.qB [4,11,12] .done))) (Plan.qB [4,6,11,12] .done))) follows kR (λE h5=>Ek E3 E [] [1,4,6,8,9,36,37,38] /\
    h5=((h4.qA le (Zh be (aa.parent).toNat [.i r2.2.2])).qA li (Zh bi (aa.parent).toNat [.d (W9 r2.1)])).qA lc (Zh bc T.1[i].edge.toNat [.d (VB r2.2.1)])) ?_ ?_
   .simp[hE,de,ad,dd,dn,bh,hfi,bt,ba,cb,ck,a8,cp,bw,bb,q2,q4,q8,q9,dw,p1,p5]
    repeat' with_reducible refine And.intro ?_ ?_
    all_goals first
     | (refine Zb.of ⟨by simp[hE],rfl⟩)
   rintro E4 h5 ⟨hF,rfl⟩;have hE:=hF.an hE;simp[hE,hw];refine Zf.of _ ⟨⟨by simp[hE],?_,?_,?_,?_,?_⟩,hm⟩;simp[p1,p2,ax];simpa using cf;simp[p1,p2,q4];exact bb;simpa[PSt.rows,YD] using m7;exact (ch.qA (.inl (by simp[labs]))).qA (.inl (by simp[labs]));simp;omega
  simp[hE,ad,a1,hw];refine Zf.of _ ⟨⟨by simp[hE],?_,?_,?_,ch,?_⟩,hm⟩;simp[ax];simpa using cf;simp[q4];exact bb;simpa[PSt.rows,YD] using m5;simp;omega
 rintro s e h' ⟨hF,_,_,mP,hs,_⟩ hm;have hE:=hF.an hE;obtain rfl:=Ze hm;simp[hE,ZG,ZA,ZL,ZR];exact hK ce cr h' mP hs λk hk=>by have:=bz k hk;omega
def Ga(row:List GV)(k0:Sch)(k1:List Rel)(k2:Fk):Option Bool:=
 Z1 (BN k0 k1 k2 row) λv1=>some !v1
instance QP(row:List GV)(k0:Sch)(k1:List Rel)(k2:Fk):Con (Ga row k0 k1 k2) prog 53 [.one (.d (.sl (row.map GV.enc))),.one (.rp [.sl (k0.tables.map Tbl.enc),.sl (k0.fks.map Fk.enc),.sl (k0.cons.map Cons.enc)]),.one (.rp [.sl (k1.map Rel.enc)]),.one (.rp [.str k2.table,.sl (k2.cols.map Zc),.str k2.ref])] (λr=>.one (.d (.bool r))):=by unfold Ga;exact go 12 Tryz.func53
instance Zaf(k0:Sch)(k1:List Rel)(k2:Fk):ConF (λx=>Ga x k0 k1 k2) prog (λx=>.one (.d (.sl (x.map GV.enc)))) (λr=>.one (.d (.bool r))) 53 [[.sl (k0.tables.map Tbl.enc),.sl (k0.fks.map Fk.enc),.sl (k0.cons.map Cons.enc)],[.sl (k1.map Rel.enc)],[.str k2.table,.sl (k2.cols.map Zc),.str k2.ref]]:=⟨λx=>(QP x k0 k1 k2)⟩
def G9(row:List GV)(k0:Cons):Option Bool:=
 Z1 (BO k0 row) λv1=>some !v1
instance QO(row:List GV)(k0:Cons):Con (G9 row k0) prog 55 [.one (.d (.sl (row.map GV.enc))),.one (.rp [.str k0.table,.int .i64 k0.left,.str k0.op,.int .i64 k0.right,.int .i64 k0.value.kind,.int .i64 k0.value.int,.str k0.value.text])] (λr=>.one (.d (.bool r))):=by unfold G9;exact go 8 Tryz.func55
instance Zae(k0:Cons):ConF (λx=>G9 x k0) prog (λx=>.one (.d (.sl (x.map GV.enc)))) (λr=>.one (.d (.bool r))) 55 [[.str k0.table,.int .i64 k0.left,.str k0.op,.int .i64 k0.right,.int .i64 k0.value.kind,.int .i64 k0.value.int,.str k0.value.text]]:=⟨λx=>(QO x k0)⟩
def AZ(s_:Sch)(inst:List Rel):Option Int:=
 Z1 (VH s_ inst) λv3=>bif (v3 !=0) then some v3 else Zd (λ(i6:Nat) (x6:Fk) (s6:Unit) next_6=>Z1 (WY s_ inst x6.table) λv8=>Z1 (AW v8.2 (λxa_=>Ga xa_ s_ inst x6)) λv10=>bif v10 then some 10 else next_6 ()) (λ(s6:Unit)=>Zd (λ(i13:Nat) (x13:Cons) (s13:Unit) next_13=>Z1 (WY s_ inst x13.table) λv15=>Z1 (AW v15.2 (λxa_=>G9 xa_ x13)) λv17=>bif v17 then some 11 else next_13 ()) (λ(s13:Unit)=>some 0) s_.cons 0 ()) s_.fks 0 ()
instance R8(s_:Sch)(inst:List Rel):Con (AZ s_ inst) prog 31 [.agg s_.enc,.one (.d (.sl (inst.map Rel.enc)))] (λr=>.one (.d (.int .i64 r))):=by unfold AZ;have l1:LH (σ:=Unit) 23 [2,3,21,22] []:=.intro;have l2:LH (σ:=Unit) 42 [2,3,40,41] []:=.intro;exact go 58 Tryz.func31
instance Zbd(s_:Sch)(script:List Stp)(source:List Rel)(comps:List (List Rel)):Con (Ad s_ script source comps) prog 57 [.agg s_.enc,.one (.d (.sl (script.map Stp.enc))),.one (.d (.sl (source.map Rel.enc))),.one (.d (.sl (comps.map (Z6 Rel.enc))))] (λr=>.tup [.one (.d (.sl (r.1.map Rel.enc))),.one (.d (.sl (r.2.1.map (Z6 Rel.enc)))),.one (.d (.int .i64 r.2.2))]):=⟨λr hm=>Lw s_ script source comps r hm⟩
instance Zb6(s_:Sch)(script:List Stp)(target:List Rel)(comps:List (List Rel)):Con (Ab s_ script target comps) prog 58 [.agg s_.enc,.one (.d (.sl (script.map Stp.enc))),.one (.d (.sl (target.map Rel.enc))),.one (.d (.sl (comps.map (Z6 Rel.enc))))] (λr=>.tup [.one (.d (.sl (r.1.map Rel.enc))),.one (.d (.sl (r.2.1.map (Z6 Rel.enc)))),.one (.d (.int .i64 r.2.2))]):=⟨λr hm=>Lr s_ script target comps r hm⟩
def I9(s1:List (List Rel))(s2:List (List Rel))(eq:(List Rel)->(List Rel)->Option Bool):Option Bool:=
 bif ((s1.length:Int) !=(s2.length:Int)) then some false else Zd (λ(i5:Nat) (x5:List Rel) (s5:Unit) next_5=>Z7 s2 (i5:Int) λx6=>Z1 (eq x5 x6) λv7=>bif !v7 then some false else next_5 ()) (λ(s5:Unit)=>some true) s1 0 ()
instance Z9i(s1:List (List Rel))(s2:List (List Rel))(eq:(List Rel)->(List Rel)->Option Bool){g:FuncId}{caps:List (List D)}[ConG eq prog (λx=>.one (.d (.sl (x.map Rel.enc)))) (λx=>.one (.d (.sl (x.map Rel.enc)))) (λv=>.one (.d (.bool v))) g caps]:Con (I9 s1 s2 eq) prog 94 [.one (.d (.sl (s1.map (Z6 Rel.enc)))),.one (.d (.sl (s2.map (Z6 Rel.enc)))),.one (.fn g caps)] (λr=>.one (.d (.bool r))):=by unfold I9;have l1:LH (σ:=Unit) 17 [1,2,15,16] []:=.intro;exact go 32 Tryz.func94
def CE(a:List (List Rel))(b:List (List Rel)):Option Bool:=
 Z1 (I9 a b (λxa_ xb_=>AJ xa_ xb_)) λv1=>some v1
instance Zax(a:List (List Rel))(b:List (List Rel)):Con (CE a b) prog 60 [.one (.d (.sl (a.map (Z6 Rel.enc)))),.one (.d (.sl (b.map (Z6 Rel.enc))))] (λr=>.one (.d (.bool r))):=by unfold CE;exact go 8 Tryz.func60
def DV(s_:Sch)(sc:List Stp)(parent:List Rel)(child:List Rel)(complements:List (List Rel)):Option Bool:=
 Z1 (Ad s_ sc parent complements) λv2=>Z1 (Ab s_ sc child complements) λv3=>bif (v2.2.2==0) then bif (v3.2.2==0) then Z1 (AJ v2.1 child) λv6=>(bif v6 then Z1 (AJ v3.1 parent) λv8=>(bif v8 then Z1 (CE v2.2.1 complements) λv10=>(bif v10 then Z1 (CE v3.2.1 complements) λv12=>(some v12) else some false) else some false) else some false) else(some false) else some false
instance Zaj(s_:Sch)(sc:List Stp)(parent:List Rel)(child:List Rel)(complements:List (List Rel)):Con (DV s_ sc parent child complements) prog 32 [.agg s_.enc,.one (.d (.sl (sc.map Stp.enc))),.one (.d (.sl (parent.map Rel.enc))),.one (.d (.sl (child.map Rel.enc))),.one (.d (.sl (complements.map (Z6 Rel.enc))))] (λr=>.one (.d (.bool r))):=by unfold DV;exact go 61 Tryz.func32
def CH(g_:Gr)(db:Db):Option Int:=
 Z1 (Ur g_) λv3=>bif (v3.2 !=0) then some v3.2 else bif ((db.insts.length:Int) !=(v3.1.length:Int)) then some 3 else bif ((db.comps.length:Int) !=(g_.edges.length:Int)) then some 3 else Zd (λ(i12:Nat) (x12:Sch) (s12:Unit) next_12=>Z7 db.insts (i12:Int) λx14=>Z1 (AZ x12 x14) λv15=>bif (v15 !=0) then some v15 else next_12 ()) (λ(s12:Unit)=>Zd (λ(i18:Nat) (x18:Edg) (s18:Unit) next_18=>Z7 v3.1 x18.parent λx20=>Z7 db.insts x18.parent λx21=>Z7 db.insts (i18+1:Int) λx22=>Z7 db.comps (i18:Int) λx23=>Z1 (DV x20 x18.script x21 x22 x23) λv24=>bif !v24 then some 13 else next_18 ()) (λ(s18:Unit)=>some 0) g_.edges 0 ()) v3.1 0 ()
instance Ra(g_:Gr)(db:Db):Con (CH g_ db) prog 12 [.agg g_.enc,.agg db.enc] (λr=>.one (.d (.int .i64 r))):=by unfold CH;have l1:LH (σ:=Unit) 37 [2,3,5,35,36] []:=.intro;have l2:LH (σ:=Unit) 56 [3,5,54,55] []:=.intro;have p1:PH [9] (Plan.qB [0,1,2,3,4,5,6,7] .done):=.intro;have p2:PH [16] (Plan.qB [0,1,2,3,4,5,6,7,8,9,10,11,12,13,14,15,16,17,18,19,20,21,22,23,24,25] .done):=.intro;exact go 88 Tryz.func12

def Fp(x:List Rel):Prop:=x.length<=2097152/\∀r∈x,r.rows.length<=2097152
instance(x:List Rel):Decidable (Fp x):=inferInstanceAs (Decidable (_/\_))
def KR(db:Db):Prop:=(∀x∈db.insts,Fp x)/\∀l∈db.comps,l.length<=2097152/\∀x∈l,Fp x
instance(db:Db):Decidable (KR db):=inferInstanceAs (Decidable (_/\_))
theorem GT{α β:Type}{f:α->Option β}{g:α->β->α}:∀(xs:List α) (i:Nat) (s:List α),s.length+xs.length<=2097152->(∀x∈xs,∃v,f x=some v/\g x v=x)->
  Zd (λ(_:Nat) x s next=>Z1 (f x) λv=>W6 s [g x v] λ_=>next (s++[g x v])) (λs=>some s) xs i s=some (s++xs)
 |[],i,s,_,_=>by simp[Zd]
 |x::xs,i,s,hs,hf=>by
   obtain⟨v,hv,hg⟩:=hf x sI;simp only[YN] at hs;show Z1 (f x) _=_;rw[hv];show W6 s [g x v] _=_;rw[hg];show Zp _ _=_;unfold Zp;rw[if_pos sO];show Zd _ _ xs (i+1) (s++[x])=_;rw[GT xs (i+1) (s++[x]) sO λy hy=>hf y (by simp[hy])];simp
theorem SL{rows:List (List GV)}(h:rows.length<=2097152):Is (Ve rows) rows:=
 GT (f:=Cy) (g:=λ_ v=>v) rows 0 [] (by simpa using h) λx _=>⟨x,rfl,rfl⟩
theorem LU{x:List Rel}(h:Fp x):Is (V7 x) x:=
 GT (f:=λr:Rel=>Ve r.rows) (g:=λr v=>⟨r.table,v⟩) x 0 [] (by simpa using h.1) λr hr=>⟨r.rows,SL (h.2 r hr),rfl⟩
theorem Tg{l:List (List Rel)}(h:l.length<=2097152)(hx:∀x∈l,Fp x):Is (CG l) l:=by
 have:FP l (λaa=>V7 aa)=some l:=
  GT (f:=λx=>V7 x) (g:=λ_ v=>v) l 0 [] (by simpa using h) λx hm=>⟨x,LU (hx x hm),rfl⟩
 unfold CG;rw[this];rfl
def AK(g:Gr)(db:Db)(v:Int)(aa:List Chg):Option (Db×List Int×Int):=
 Z1 (CH g db) λe=>bif e !=0 then some (⟨[],[]⟩,[],e) else
 bif decide (v<0)||decide ((db.insts.length:Int)<=v) then some (⟨[],[]⟩,[],4) else
 Z1 (Ur g) λq=>Z7 q.1 v λS=>Z7 db.insts v λinst=>Z1 (Eo S inst aa) λr=>
 bif r.2 !=0 then some (⟨[],[]⟩,(List.replicate q.1.length 0).set v.toNat r.2,0) else Zp (KR db)<|
 Z1 (DZ g q.1 (db.insts.set v.toNat r.1) db.comps v) λs=>
 Zd (λ(u:Nat) (S2:Sch) (t:List Int×Bool) next=>Z7 s.reached u λru=>Z7 t.1 u λeu=>
  bif ru&&(eu==0) then Z7 s.insts u λiu=>Z1 (AZ S2 iu) λe=>next (t.1.set u e,t.2||(e !=0)) else next (t.1,t.2||(eu !=0)))
  (λt=>bif t.2 then some (⟨[],[]⟩,t.1,0) else some (⟨s.insts,s.comps⟩,t.1,0)) q.1 0 (s.errs,false)
theorem JW{h:HS}{c:C}{aa:List Int}(m:Wb h c (aa.map λz=>.int .i64 z)):Frz h c (.sl (aa.map Zc)):=by
 have e1:(aa.map λz=>D.int .i64 z).map (λd=>[d])=aa.map Zc:=by rw[Xe];rfl
 rw[<-e1];exact m.frz
theorem Z2g{h:HS}{c:C}{l:List (List Rel)}(m:Wb h c (l.map W9)):Frz h c (.sl (l.map (Z6 Rel.enc))):=by
 have e1:(l.map W9).map (λd=>[d])=l.map (Z6 Rel.enc):=by rw[Xe];rfl
 rw[<-e1];exact m.frz
theorem Z2n{h:HS}{c:C}{l:List (List (List Rel))}(m:Wb h c (l.map VB)):Frz h c (.sl (l.map (Z6 (Z6 Rel.enc)))):=by
 have e1:(l.map VB).map (λd=>[d])=l.map (Z6 (Z6 Rel.enc)):=by rw[Xe];rfl
 rw[<-e1];exact m.frz
theorem RH(g:Gr)(db:Db)(v:Int)(aa:List Chg)(r:Db×List Int×Int)(hm:Is (AK g db v aa) r):
  Zj prog 18 [.agg g.enc,.agg db.enc,.i v,.l (aa.map Chg.enc)] (.tup [.agg (r.1.enc.map RC.d),.l (r.2.1.map Zc),.i r.2.2]):=by
 unfold AK at hm;refine Zj.of_heap ?_;show Z4 _ _ [.agg (g.enc.map C.d),.agg (db.enc.map C.d),.i v,.l (aa.map Chg.enc)] HS.init _;refine Z4.ov Tryz.func18 ?_;obtain⟨e,he,hm⟩:=hm.bind;simp;refine Zq ((Ra g db).h e he) sI ?_;simp;refine Zw hm ?_ ?_<;>clear hm<;>intro hc hm;obtain rfl:=Ze hm;simp[ZG,ZA,ZL,ZR];exact⟨⟨.data rfl,.data rfl,trivial⟩,.data rfl,.data rfl,trivial⟩;simp;have bad:∀(h':HS),Do h' (.tup [.agg [.nil,.nil],.one .nil,.i 4]) (.tup [.agg ((⟨[],[]⟩:Db).enc.map RC.d),.l (([]:List Int).map Zc),.i 4]):=λh'=>⟨⟨.data rfl,.data rfl,trivial⟩,.data rfl,.data rfl,trivial⟩;by_cases hv0:v<0;simp only[hv0,decide_true,Bool.true_or,cond_true] at hm;obtain rfl:=Ze hm;simp[hv0,ZG,ZA,ZL,ZR];exact bad _;have ca:decide (v<0)=false:=by simp[hv0]
 rw[ca,Bool.false_or] at hm;simp[hv0];intro dl
 try simp[hv0]
 refine Zw hm ?_ ?_<;>clear hm<;>intro dk hm;obtain rfl:=Ze hm;simp[ZG,ZA,ZL,ZR];exact bad _;obtain⟨q,hq,hm⟩:=hm.bind;obtain⟨S,au,hS,hm⟩:=hm.get;obtain⟨inst,-,bk,hm⟩:=hm.get;obtain⟨r1,cn,hm⟩:=hm.bind;simp;refine Zq ((Rf g).h q hq) sI ?_;simp;refine Z3.cu [0,1,2,3,4,5,6,7,8,9,10,11,12,13,14,15] (λe1 h1=>En e1 127 [(2,.i v),(4,.p (0,64)),(5,.p (1,80)),(8,.p (2,128)),(12,.l (q.1.map Sch.enc)),(14,.l (r1.1.map Rel.enc)),(15,.i r1.2)]/\
  h1.box (0,64)=some (g.enc.map C.d)/\h1.box (1,80)=some (db.enc.map C.d)/\h1.box (2,128)=some [.nil,.nil]/\2<h1.ep) ?_ ?_
 simp[au,hS,bk];refine Zq (Sf S inst aa r1 cn) sI ?_;simp[au,hS,bk]
 try refine⟨λ_ _ x=>x,?_⟩
 exact Zb.of ⟨sI,sI,sI,sI,sI⟩;rintro e1 h1 ⟨hE,bg,aj,br,dg⟩;simp[hE];refine Zw hm ?_ ?_<;>clear hm<;>intro dm hm;obtain rfl:=Ze hm;simp[hE];intro cq;refine⟨oM,?_⟩;have cb:v.toNat<q.1.length:=(Y0.1 hS).1;have c0:Wb (h1.qA (h1.ep,1008) (List.replicate q.1.length (.d (.int .i64 0)))) (.mrow (h1.ep,1008) 0 q.1.length q.1.length) (List.replicate q.1.length (.int .i64 0)):=Wb.make (zc:=.d (.int .i64 0)) sI rfl cq;obtain⟨lr,cap,bs,ch,b6,bv,-,ah⟩:=c0.at (i:=v.toNat) (by simpa using cb);simp only[X1,C.mrow.injEq,true_and] at ch;obtain⟨rfl,rfl⟩:=ch;simp at b6;subst b6;simp only[X1] at bv;simp[hE,au,cb,bv,br];simp[ZG,ZA,ZL,ZR,hE,br];refine⟨⟨.data rfl,.data rfl,trivial⟩,?_,.data rfl,trivial⟩;have e9:(List.replicate q.1.length [D.int IntKind.i64 0]).set v.toNat [D.int IntKind.i64 r1.2]=((List.replicate q.1.length (0:Int)).set v.toNat r1.2).map Zc:=by rw[YD,XC];rfl
 have c6:((List.replicate q.1.length (0:Int)).set v.toNat r1.2).map (λz=>D.int .i64 z)=(List.replicate q.1.length (D.int .i64 0)).set v.toNat (.int .i64 r1.2):=by rw[YD,XC]
 show Frz _ _ _;rw[e9];refine JW ?_;rw[c6];refine(ah h1 (.d (.int .i64 r1.2)) (.int .i64 r1.2) rfl).frame λl hl=>?_;simp[labs] at hl;subst hl;simp;obtain⟨bd,hm⟩:=hm.chk;obtain⟨s,hs,hm⟩:=hm.bind;simp only[Gr.enc,Db.enc,Yb,Yd] at bg aj;simp[hE,aj];refine Za (Rs _ db (λx hx=>LU (bd.1 x hx)) (λl hl=>Tg (bd.2 l hl).1 (bd.2 l hl).2) _ λci cc h2 mI mC hl hd hs2=>?_);simp[hE,aj];have mB:MC h2 [(ci,db.insts.map W9),(cc,db.comps.map VB)]:=by
  refine⟨λq hq=>?_,λq hq k hk=>?_,?_⟩;simp only[Y8,Xj,or_false] at hq;rcases hq with rfl|rfl;exact mI;exact mC;simp only[Y8,Xj,or_false] at hq;rcases hq with rfl|rfl;exact(hl k (by simp[hk])).2;exact(hl k (by simp[hk])).2;simp only[YB,Xv,Ym];exact Yg.2 ⟨V8,V8,λa ha b hb he=>hd a ha (he▸hb)⟩
 have b3:v.toNat<(db.insts.map W9).length:=by simpa using(Y0.1 bk).1
 obtain⟨li,capi,bi,cv,cm,ck,cg,-,ah⟩:=mB.at (j:=0) (i:=v.toNat) rfl b3;have bn:ci=.mrow li 0 db.insts.length capi:=by simpa using cv
 subst bn;have bq:v.toNat<db.insts.length:=by simpa using b3
 have p1:=Zm cg;have p2:=ZP cg;have dh:=hs2.1;have ae:∀k∈labs (.mrow li 0 db.insts.length capi)++labs cc,h1.ep<=k.1/\k.1 < h2.ep:=λk hk=>hl k hk;have p3:∀ a b:Nat,a<=2->((a,b)=li)=False:=λa b ha=>eq_false (by rintro rfl;have:=(ae (a,b) (by simp[labs])).1;simp at this;omega);have b0:=(hs2.2 (0,64) sO sI).trans bg;have b1:=(hs2.2 (1,80) sO sI).trans aj;have b2:=(hs2.2 (2,128) sO sI).trans br;simp[hE,aj,au,bq,cm,ck,p1,p2,p3,b0,b1,b2];have c7:(db.insts.set v.toNat r1.1).map W9=(db.insts.map W9).set v.toNat (W9 r1.1):=YD;refine Za (QT _ g q.1 (db.insts.set v.toNat r1.1) db.comps v (.mrow li 0 db.insts.length capi) cc s hs (by
  rw[c7];refine ah _ _ (.d (W9 r1.1)) (W9 r1.1) (mB.new ?_) rfl rfl;exact sm) _ λce cr h3 mP bl hge=>?_)
 have c2:=bl.2 (2,128) sO (λh9=>by have:=(ae _ h9).1;simp at this;omega);have b7:=bl.2 (h2.ep,272) sI (λh9=>by have:=(ae _ h9).2;simp at this);have di:((2,128):Z2)≠(h2.ep,272):=by intro h9;simp at h9
 simp[p2,p3,b2] at c2 b7;have bo:=bl.1;simp at bo;simp[hE];intro dp;have ba:∀ k ∈ labs ce++labs cr,h2.ep < k.1:=λk hk=>by have:=hge k hk;simp at this;omega
 have dd:∀ k ∈ labs (.mrow li 0 db.insts.length capi)++labs cc,h1.ep<=k.1/\k.1 < h2.ep:=ae;refine Z3.for (xs:=q.1) (s0:=(s.errs,false)) (λu t e h'=>En e 127 [(8,.p (2,128)),(17,.p (h2.ep,272)),(18,.one ce),(19,.one cr),(20,.b t.2),(85,.l (q.1.map Sch.enc)),(86,.i (q.1.length:Int)),(87,.i (u:Int))] /\
  h'.box (2,128)=some [.nil,.nil]/\h'.box (h2.ep,272)=some [.mrow li 0 db.insts.length capi,cc]/\MC h' ((⟨s.insts,s.comps,t.1,s.reached⟩:PSt).rows (.mrow li 0 db.insts.length capi) cc ce cr)/\h2.ep < h'.ep) hm
  ⟨by simp[hE],c2,b7,mP,oM⟩ ?_ ?_
 .rintro u t e h' ⟨hE,b2,af,mP,ag⟩ hlt hm;have hw:IntKind.i64.wrap ((u:Int)+1)=(u:Int)+1:=Y5 _ oM;obtain⟨ru,cf,hm⟩:=hm.qH;obtain⟨eu,bw,hm⟩:=hm.qH;have aq:u < s.reached.length:=(Y0.1 cf).1;have ad:u < t.1.length:=(Y0.1 bw).1;obtain⟨lr,capr,br,dc,bh,de,bt,⟨xr,bc,cj⟩,-⟩:=mP.at (j:=3) (i:=u) rfl (by simpa using aq);simp only[Y9,cf,Yj,Ya] at cj;obtain rfl:=Jz cj;have bp:cr=.mrow lr 0 s.reached.length capr:=by simpa using dc
  subst bp;obtain⟨le,cape,be,c8,ar,bu,b5,⟨xe,bj,bz⟩,bf⟩:=mP.at (j:=2) (i:=u) rfl (by simpa using ad);simp only[Y9,bw,Yj,Ya] at bz;obtain rfl:=Ha bz;have ac:ce=.mrow le 0 t.1.length cape:=by simpa using c8
  rw[ac] at hE;have q1:=ZP bt;have q2:=ZP b5;have q3:=Zm bt;have q4:=Zm b5;have q5:∀ b,((h2.ep,b)=le)=False->True:=λ_ _=>trivial;have bb:li.1 < h'.ep:=mP.lt _ (Y6 ..) li (by simp[labs]);have q6:=Zm bb;have q7:=ZP bb;have df:((2,128):Z2)≠(h'.ep,352):=by intro h9;simp at h9
  have b9:=Zm (l:=(h2.ep,272)) ag;have a7:∀ h6:HS,Z0 h' h6 []->h6.box (2,128)=some [.nil,.nil]/\h6.box (h2.ep,272)=some [.mrow li 0 db.insts.length capi,cc]/\MC h6 ((⟨s.insts,s.comps,t.1,s.reached⟩:PSt).rows (.mrow li 0 db.insts.length capi) cc ce (.mrow lr 0 s.reached.length capr))/\h2.ep < h6.ep:=λh6 al=>
   ⟨(al.2 _ sO sI).trans b2,(al.2 _ ag sI).trans af,mP.new al,Y3 ag al.1⟩
  simp[hE,hlt,aq,ad,bh,bc,q3,q1];cases ru with
  |false=>
    simp only[Bool.false_and,cond_false] at hm;cases ht2:t.2
    all_goals
     rw[ht2] at hE;simp[hE,ad,ar,bj,q1,q2,q3,q4,hw,Xr,bh,bc,aq];refine Zf.of (t.1,t.2 || (eu != 0)) ⟨⟨by simp[hE,ac,ht2],a7 _ ?_⟩,hm⟩;exact sm
  |true=>?_
  cases hz:(eu == 0) with
  |false=>
    rw[hz] at hm;simp only[Bool.and_false,cond_false] at hm;cases ht2:t.2
    all_goals
     rw[ht2] at hE;simp[hE,ad,ar,bj,q1,q2,q3,q4,hw,hz,bh,bc,aq];refine Zf.of (t.1,t.2 || (eu != 0)) ⟨⟨by simp[hE,ac,ht2],a7 _ ?_⟩,hm⟩;exact sm
  |true=>?_
  rw[hz] at hm;simp only[Bool.and_true,cond_true] at hm;obtain⟨iu,bm,hm⟩:=hm.qH;obtain⟨ab,da,hm⟩:=hm.bind;simp[hE,ad,ar,bj,q1,q2,q3,q4,hz];have cw:u < s.insts.length:=(Y0.1 bm).1;obtain⟨dn,cy,dj,az,ax,cp,-,⟨xi,cl,b4⟩,-⟩:=mP.at (j:=0) (i:=u) rfl (by simpa using cw);simp only[Y9,bm,Yj,Ya] at b4;simp at az;obtain⟨rfl,dt,rfl⟩:=az;have ay:u < db.insts.length:=oM
  refine Z3.cu [0,1,2,3,4,5,6,7,8,9,10] (λE h4=>Ek e E [(18,.one (.mrow le 0 t.1.length cape)),(19,.one (.mrow lr 0 s.reached.length capr)),(21,.i (u:Int))] [8,17,20,85,86,87] /\
   ∃ hX,Z0 h' hX []/\h4=hX.qA le (Zh be u [.d (.int .i64 ab)])) ?_ ?_
  simp[hE,af,b9,ay,ax,cl,q6,q7];refine Zq ((R8 q.1[u] iu).h ab da) (by simp[W0,V.toA,(Dj b4).2.2]) ?_;simp[hE,af,b9,ay,ax,cl,q6,q7,ad,bu,ar,q2,q4]
  try refine⟨λ_ _ x=>x,?_⟩
  refine Zb.of ⟨by simp[hE],_,?_,rfl⟩;exact sm;rintro E2 h4 ⟨hF,hX,am,rfl⟩;have hE:=hF.an hE;have m6:=bf _ _ (.d (.int .i64 ab)) (.int .i64 ab) (mP.new am) rfl rfl;have cd:MC (hX.qA le (Zh be u [.d (.int .i64 ab)])) ((⟨s.insts,s.comps,t.1.set u ab,s.reached⟩:PSt).rows (.mrow li 0 db.insts.length capi) cc ce (.mrow lr 0 s.reached.length capr)):=by simpa[PSt.rows,YD] using m6
  obtain⟨du,cz,dr,ak,aw,cx,-,⟨xe,b8,a8⟩,-⟩:=cd.at (j:=2) (i:=u) rfl (by simpa using ad);simp only[Y9,YL ad,Yj,Ya] at a8;obtain rfl:=Ha a8;rw[ac] at ak;simp at ak;obtain⟨rfl,rfl⟩:=ak;simp at aw;subst aw;have a1:∀ k:Z2,k.1<=h2.ep->(k=le)=False:=λk hk=>eq_false (by rintro rfl;have:=ba k (by rw[ac];simp[labs]);omega);have f1:(hX.qA le (Zh be u [.d (.int .i64 ab)])).box (2,128)=some [.nil,.nil]:=by simp[a1 (2,128) sO];exact (am.2 _ sO sI).trans b2
  have f2:(hX.qA le (Zh be u [.d (.int .i64 ab)])).box (h2.ep,272)=some [.mrow li 0 db.insts.length capi,cc]:=by simp[a1 (h2.ep,272) sI];exact (am.2 _ ag sI).trans af
  cases ht2:t.2
  all_goals
   rw[ht2] at hE;simp[hE,ad,b8,hw];refine Zf.of (t.1.set u ab,t.2 || (ab != 0)) ⟨⟨by simp[hE,ac,ht2],f1,f2,cd,by simpa using Y3 ag am.1⟩,hm⟩
 rintro t e h' ⟨hE,b2,af,mP,ag⟩ hm;have ap:∀ {cs:List C},∀ k ∈ labs (.mrow li 0 db.insts.length capi)++(labs cc++(labs ce++labs cr)),(h'.qA (2,128) cs).box k=h'.box k:=λ{cs} k hk=>by
  have:k≠(2,128):=by
   intro h9;rw[h9] at hk;rcases Y2.1 hk with h8 | h8
   have:=(ae (2,128) (Xn _ h8)).1;simp at this;omega
   rcases Y2.1 h8 with h8 | h8
   have:=(ae (2,128) (X6 _ h8)).1;simp at this;omega
   have:=ba (2,128) h8;simp at this;omega
  simp[this]
 simp[hE];refine Zw hm ?_ ?_<;>clear hm<;>intro dq hm;obtain rfl:=Ze hm;simp[hE,b2];simp[ZG,ZA,ZL,ZR,hE];exact⟨⟨.data rfl,.data rfl,trivial⟩,JW ((mP.row _ (Yc _ (Yc _ (Y6 ..)))).frame λk hk=>ap k (by simp[hk])),.data rfl,trivial⟩;obtain rfl:=Ze hm;simp[hE,b2,af];simp[ZG,ZA,ZL,ZR,hE];exact⟨⟨Z2g ((mP.row _ (Y6 ..)).frame λk hk=>ap k (by simp[hk])),Z2n ((mP.row _ (Yc _ (Y6 ..))).frame λk hk=>ap k (by simp[hk])),trivial⟩,JW ((mP.row _ (Yc _ (Yc _ (Y6 ..)))).frame λk hk=>ap k (by simp[hk])),.data rfl,trivial⟩
theorem Ma{S}(hS:VS S)(inst):Wp (AZ S inst) λe=>e=0->CF S inst/\VH S inst=some 0:=by
 have aa:=λT hT=>(hS.tab T hT).pk6;unfold AZ;refine Wp.bind (D1 S aa inst) λe he h=>Wp.cond (λh9=>Wp.ret λh0=>by rw[h0] at h9;cases h9) λh9=>?_;obtain rfl:e=0:=by simpa using h9
 have hc:=h rfl;have ct:∀{xs:List (List GV)} {f:List GV->Option Bool},(∀x,Wp (f x) λ_=>True)->Wp (AW xs f) λ_=>True:=λhf=>by
  unfold AW Cv;exact Wp.bind ((Wp.index λx _=>hf x).mono λ_ _ _=>trivial) λ_ _ _=>Wp.ret trivial
 refine Wp.for (λ_ _=>True) trivial ?_ λ_ _=>Wp.for (λ_ _=>True) trivial ?_ λ_ _=>Wp.ret λ_=>⟨hc,he⟩
 .intro i f _ next _ hm _ hn
  refine Wp.bind (Km aa hc.l24 f.table) λq _ _=>Wp.bind (ct λrow=>?_) λb _ _=>Wp.cr λ_=>hn () trivial;exact Wp.bind (LY aa hc.l24 (hS.fk f hm).1 row) λ_ _ _=>Wp.ret trivial
 intro i c _ next _ _ _ hn
 refine Wp.bind (Km aa hc.l24 c.table) λq _ _=>Wp.bind (ct λrow=>?_) λb _ _=>Wp.cr λ_=>hn () trivial;exact Wp.bind (Ny c row) λ_ _ _=>Wp.ret trivial
theorem Of(a b):Wp (CE a b) λr=>r=true↔a=b:=by
 unfold CE;exact Wp.bind (Kw λx y=>GY x y) λr _ hr=>Wp.ret hr
theorem SD{S sc}(hx:∀x∈sc,Uo x)(a b)(cs):Wp (DV S sc a b cs) λr=>r=true->Ad S sc a cs=some (b,cs,0)/\Ab S sc b cs=some (a,cs,0)/\SB sc.length (b,cs,0):=by
 unfold DV;refine Wp.bind (Lu S sc hx a cs) λp hp ab=>Wp.bind (Lp S sc hx b cs) λq hq af=>Wp.cond (λh1=>Wp.cond (λh2=>Wp.bind (GY _ _) λe1 _ ad=>Wp.cond (λh3=>Wp.bind (GY _ _) λe2 _ ac=>Wp.cond (λh4=>Wp.bind (Of _ _) λe3 _ aa=>Wp.cond (λh5=>Wp.bind (Of _ _) λe4 _ ae=>Wp.ret λh6=>?_) λ_=>Wp.ret sI) λ_=>Wp.ret sI) λ_=>Wp.ret sI) λ_=>Wp.ret sI) λ_=>Wp.ret sI;have e1:=ad.1 h3;have e2:=ac.1 h4;have e3:=aa.1 h5;have e4:=ae.1 h6;have h1:p.2.2=0:=by simpa using h1
 have h2:q.2.2=0:=by simpa using h2
 obtain⟨p1,p2,p3⟩:=p;obtain⟨q1,q2,q3⟩:=q;simp only at e1 e2 e3 e4 h1 h2;subst e1 e2 e3 h1 h2;rw[e4] at hq;exact⟨hp,hq,ab rfl⟩
structure DbV(g:Gr)(db:Db)(Ss:List Sch):Prop where
 ver:VerOK g Ss
 sch:Ur g=some (Ss,0)
 li:db.insts.length=Ss.length
 lc:db.comps.length=g.edges.length
 inst:∀(i:Nat) S x,Ss[i]?=some S->db.insts[i]?=some x->AZ S x=some 0/\CF S x/\VH S x=some 0
 edge:∀i e P a b c,g.edges[i]?=some e->Ss[e.parent.toNat]?=some P->db.insts[e.parent.toNat]?=some a->db.insts[i+1]?=some b->db.comps[i]?=some c->Ad P e.script a c=some (b,c,0)/\Ab P e.script b c=some (a,c,0)/\SB e.script.length (b,c,0)
def Hv(g:Gr):Prop:=∀e∈g.edges,∀x∈e.script,Uo x
theorem SC{g}(hx:Hv g)(db):Wp (CH g db) λe=>e=0->∃Ss,DbV g db Ss:=by
 unfold CH;refine Wp.bind (Rc g hx) λq ae hq=>Wp.cond (λh=>Wp.ret λh0=>by rw[h0] at h;cases h) λh=>?_;have h2:q.2=0:=by simpa using h
 have hv:=hq h2;refine Wp.cr λab=>Wp.cr λaa=>?_;have ab:db.insts.length=q.1.length:=by simp at ab;omega
 have aa:db.comps.length=g.edges.length:=by simp at aa;omega
 refine Wp.for (λi _=>∀(j:Nat) S x,j<i->q.1[j]?=some S->db.insts[j]?=some x->AZ S x=some 0/\CF S x/\VH S x=some 0) (λj S x h=>absurd h (XW _)) ?_ ?_
 .intro i S _ next hS hSm hI hn
  have hi:=(Y0.1 hS).1;refine Wp.get oM oM λx ad _=>Wp.bind (Ma (hv.vs S hSm) x) λe he af=>Wp.cond (λh=>Wp.ret λh0=>by rw[h0] at h;cases h) λh=>hn () λj S9 x9 hj hS9 hx9=>?_;obtain rfl:e=0:=by simpa using h
  rcases YA j i with h9|h9;exact hI j S9 x9 h9 hS9 hx9;obtain rfl:j=i:=oM;rw[hS] at hS9;cases hS9
  have:db.insts[j]?=some x:=by simpa using ad
  rw[this] at hx9;cases hx9;exact⟨he,af rfl⟩
 intro _ hI;refine Wp.for (λi _=>∀j e P a b c,j<i->g.edges[j]?=some e->q.1[e.parent.toNat]?=some P->db.insts[e.parent.toNat]?=some a->db.insts[j+1]?=some b->db.comps[j]?=some c->Ad P e.script a c=some (b,c,0)/\Ab P e.script b c=some (a,c,0)/\SB e.script.length (b,c,0)) (λj e P a b c h=>absurd h (XW _)) ?_ ?_
 .intro i e _ next he ac hJ hn
  have hi:=(Y0.1 he).1;have hp:=hv.edges i e he;have ag:=hv.len;refine Wp.get hp.1 oM λP hP _=>Wp.get hp.1 oM λa ha _=>Wp.get oM oM λb hb _=>Wp.get oM oM λc hc _=>Wp.bind (SD (hx e ac) a b c) λr _ hr=>Wp.cr λh=>hn () λj e9 P9 a9 b9 c9 hj h1 h2 h3 h4 h5=>?_;rcases YA j i with h9|h9;exact hJ j e9 P9 a9 b9 c9 h9 h1 h2 h3 h4 h5;obtain rfl:j=i:=oM
  rw[he] at h1;cases h1;have hb:db.insts[j+1]?=some b:=by simpa using hb
  have hc:db.comps[j]?=some c:=by simpa using hc
  rw[hP] at h2;rw[ha] at h3;rw[hb] at h4;rw[hc] at h5;cases h2;cases h3;cases h4;cases h5;exact hr (by simpa using h)
 intro _ hJ;refine Wp.ret λ_=>⟨q.1,hv,by rw[ae,<-h2],ab,aa,λi S x hS hx=>hI i S x (Y0.1 hS).1 hS hx,λi e P a b c h1 h2 h3 h4 h5=>hJ i e P a b c (Y0.1 h1).1 h1 h2 h3 h4 h5⟩
theorem DbV.ok{g db Ss}(v:DbV g db Ss):KR db:=by
 have hl:=v.ver.len;refine⟨λx hx=>?_,λl ab=>?_⟩;obtain⟨i,hi,rfl⟩:=Yz hx;have aa:i<Ss.length:=by rw[<-v.li];exact hi
 have hS:Ss[i]?=some Ss[i]:=Y1 aa;have h1:=(v.inst i _ _ hS (Y1 hi)).2.1.rb (v.ver.vs _ (Y4 hS));exact⟨by have:=h1.1;omega,λr hr=>by have:=h1.2 r hr;omega⟩;obtain⟨i,hi,rfl⟩:=Yz ab;have aa:i<g.edges.length:=by rw[<-v.lc];exact hi
 have he:=Y1 aa;have hp:=v.ver.edges i _ he;have ac:=v.li;have h1:=(v.edge i _ _ _ _ _ he (Y1 oM) (Y1 oM) (Y1 oM) (Y1 hi)).2.2;have h6:=h1.2.2.2;have h7:db.comps[i].length=g.edges[i].script.length:=h1.2.1;refine⟨oM,λx hx=>?_⟩;have h2:=h1.2.2.1 x hx;exact⟨by have:=h2.1;omega,λr hr=>by have:=h2.2 r hr;omega⟩
theorem Z82{l:List Int}{n:Nat}(h:l.Nodup)(hr:∀v∈l,0<=v/\v<=(n:Int)):l.length<=n+1:=by
 have h1:l.length<=(W1 (n+1)).length:=List.Nodup.length_le_of_subset h λv hv=>by
  have:=hr v hv
  simp only[W1,Yh,XR];exact⟨v.toNat,oM,oM⟩
 rwa [EX] at h1
theorem Tv{g:Gr}{Ss:List Sch}(hv:VerOK g Ss)(hs:Ur g=some (Ss,0)){v:Int}(h0:0<=v)(h1:v<Ss.length):Wp (E5 g v) λr=>∀h∈r.1,0<=h.edge/\h.edge<g.edges.length:=by
 have h7:=hv.l7;have hl:=hv.len;unfold E5;refine Wp.bind (R:=λq=>q.2=0) ?_ λq _ hq=>Wp.cond (λh=>by rw[hq] at h;cases h) λ_=>?_;unfold Gj;refine Wp.bind (Wg hs) λq _ hq=>?_;subst hq;refine Wp.cond (λh=>by cases h) λ_=>Wp.cond (λh=>by simp at h;omega) λ_=>Wp.cond (λh=>by simp at h;omega) λ_=>Wp.get h0 h1 λS _ _=>Wp.ret rfl;have ab:∀(t:List Int×List Hop),t.1.Nodup/\(∀v∈t.1,0<=v/\v<=(g.edges.length:Int))/\t.2.length<=t.1.length/\(∀h∈t.2,0<=h.edge/\h.edge<(g.edges.length:Int))->t.1.length<=8:=λt h=>by have:=Z82 h.1 h.2.1;omega
 refine Wp.jN (λs:List Int×List Hop×Int=>(s.1.Nodup/\(∀v∈s.1,0<=v/\v<=g.edges.length)/\s.2.1.length<=s.1.length/\(∀h∈s.2.1,0<=h.edge/\h.edge<g.edges.length))/\0<=s.2.2) (λs=>(9-s.2.2).toNat) ?_ DB _ ⟨⟨sI,sO,sI,sI⟩,sI⟩ (by simp[DB]);rintro⟨a,b,k⟩ next ⟨hI,hk⟩ hn
 simp only at hI hk;refine Wp.cond (λhlt=>?_) λ_=>Wp.ret hI.2.2.2;have hlt:k<a.length:=by simpa using hlt
 refine Wp.for (λ_ t=>(t.1.Nodup/\(∀v∈t.1,0<=v/\v<=g.edges.length)/\t.2.length<=t.1.length/\(∀h∈t.2,0<=h.edge/\h.edge<g.edges.length))/\k<t.1.length) ⟨hI,hlt⟩ ?_ ?_;intro i e t nx he _ ht aa;have hi:=(Y0.1 he).1;have hp:=hv.edges i e he;have h8:=ab t ht.1;obtain⟨⟨t1,t2,t3,t4⟩,t5⟩:=ht;have grow:∀v (h:Hop),v∉t.1->0<=v/\v<=g.edges.length->h.edge=i->((t.1++[v]).Nodup/\(∀w∈t.1++[v],0<=w/\w<=g.edges.length)/\(t.2++[h]).length<=(t.1++[v]).length/\(∀h'∈t.2++[h],0<=h'.edge/\h'.edge<g.edges.length))/\k<(t.1++[v]).length:=by
  intro v h ae ad ac;refine⟨⟨?_,λw hw=>?_,sO,λh' hh=>?_⟩,sO⟩;rw[Yg];refine⟨t1,sI,λa ha b hb=>?_⟩;rw[Yu.1 hb];exact λh9=>ae (h9▸ha);rcases Y2.1 hw with h9|h9;exact t2 w h9;rw[Yu.1 h9];exact ad;rcases Y2.1 hh with h9|h9;exact t4 h' h9;rw[Yu.1 h9,ac];omega
 refine Wp.get hk t5 λx _ _=>Wp.bind (AL t.1 (i+1)) λa9 _ ha=>Wp.bind (AL t.1 e.parent) λb9 _ hb=>Wp.chk ⟨oM,oM⟩ (Wp.cond (λh=>aa _ ?_) λ_=>Wp.cond (λh=>aa _ ?_) λ_=>aa _ ⟨⟨t1,t2,t3,t4⟩,t5⟩);simp at h;exact grow _ ⟨i,false⟩ (λh9=>by rw[ha.2 h9] at h;cases h.2) oM rfl;simp at h;exact grow _ ⟨i,true⟩ (λh9=>by rw[hb.2 h9] at h;cases h.2) oM rfl;intro t ht;have h8:=ab t ht.1;exact hn _ ⟨ht.1,by simp only;omega⟩ (by simp only;omega)
structure PrL(g:Gr)(Ss:List Sch)(s:PSt):Prop where
 i:s.insts.length=Ss.length
 c:s.comps.length=g.edges.length
 e:s.errs.length=Ss.length
 r:s.reached.length=Ss.length
theorem Z54{b S sc}(hx:∀x∈sc,Uo x)(a)(c):Wp (Kg b S sc a c) λ_=>True:=by
 unfold Kg;exact Wp.cond (λ_=>(Lp S sc hx a c).mono λ_ _ _=>trivial) λ_=>(Lu S sc hx a c).mono λ_ _ _=>trivial
theorem SY{g Ss}(hx:Hv g)(hv:VerOK g Ss)(hs:Ur g=some (Ss,0)){v:Int}(h0:0<=v)(h1:v<Ss.length){insts comps}(hi:insts.length=Ss.length)(hc:comps.length=g.edges.length):
  Wp (DZ g Ss insts comps v) (PrL g Ss):=by
 have hl:=hv.len;unfold DZ;refine Wp.chk ⟨h0,h1⟩ (Wp.bind (Tv hv hs h0 h1) λT _ hT=>Wp.for (λ_ s=>PrL g Ss s) ⟨hi,hc,sI,sI⟩ ?_ λs hs=>Wp.ret hs);intro k ab s next _ hm p hn
 have hh:=hT ab hm;refine Wp.get hh.1 hh.2 λe he ac=>Wp.chk (by simp only[W8];have:=hv.l7;omega) ?_;have hp:=hv.edges _ e he;have pi:=p.i;have pc:=p.c;have pe:=p.e;have pr:=p.r;have key:∀n f:Int,0<=n->n<Ss.length->0<=f->f<Ss.length->Wp (Fs Ss e ab n f s next) _:=λn f aa af ad ae=>by
  unfold Fs;refine Wp.get aa oM λrn _ _=>Wp.cond (λ_=>hn s p) λ_=>Wp.get aa oM λen _ _=>Wp.cond (λ_=>hn s p) λ_=>Wp.chk ⟨ad,oM,oM⟩ ?_;refine Wp.get hp.1 oM λS _ _=>Wp.get aa oM λa _ _=>Wp.get hh.1 oM λc _ _=>Wp.bind (Z54 (hx e ac) a c) λr _ _=>Wp.cond (λ_=>Wp.chk oM (hn _ ⟨by simp[pi],by simp[pc],by simp[pe],by simp[pr]⟩)) λ_=>hn _ ⟨pi,pc,by simp[pe],by simp[pr]⟩
 cases ab.back with
 |true=>exact key _ _ sO sO sO sO
 |false=>exact key _ _ sO sO sO sO
theorem Z56{g:Gr}(hx:Hv g)(db:Db)(v:Int)(cs:List Chg):Wp (AK g db v cs) λq=>q.2.2=0->q.2.1.length<=8/\((∀e∈q.2.1,e=0)->0<q.1.insts.length):=by
 unfold AK;refine Wp.bind (SC hx db) λe _ he=>Wp.cond (λh=>Wp.ret λh0=>by simp only at h0;rw[h0] at h;cases h) λh=>?_;obtain⟨Ss,dv⟩:=he (by simpa using h);have hl:=dv.ver.len;have h7:=dv.ver.l7;have ac:=dv.li;refine Wp.cr λhr=>?_;have hv:0<=v/\v<Ss.length:=by simp at hr;omega
 refine Wp.bind (Wg dv.sch) λq _ hq=>?_;subst hq;refine Wp.get hv.1 hv.2 λS _ hS=>Wp.get hv.1 oM λinst _ _=>Wp.bind (Tt (dv.ver.vs S hS) inst cs) λr _ _=>Wp.cond (λhr=>Wp.ret λ_=>⟨sO,λhall=>?_⟩) λ_=>?_;exfalso;have hm:r.2∈(List.replicate Ss.length (0:Int)).set v.toNat r.2:=Y4 (by rw[YL (by rw[X1];omega)])
 have:=hall _ hm
 rw[this] at hr;cases hr;refine Wp.chk dv.ok (Wp.bind (SY hx dv.ver dv.sch hv.1 hv.2 (by simp[ac]) dv.lc) λs _ p=>?_);have pi:=p.i;have pe:=p.e;have pr:=p.r;refine Wp.for (λi t=>t.1.length=Ss.length/\(t.2=true->∃(j:Nat) (e:Int),j<i/\t.1[j]?=some e/\e≠0)) ⟨pe,sI⟩ ?_ ?_
 .intro i S2 t next hxi hm ht hn
  have hi:i<Ss.length:=(Y0.1 hxi).1;refine Wp.get oM oM λru _ _=>Wp.get oM oM λeu ab _=>Wp.cond (λ_=>Wp.get oM oM λiu _ _=>Wp.bind (Ma (dv.ver.vs S2 hm) iu) λe9 _ _=>hn _ ⟨by simp[ht.1],λhh=>?_⟩) λ_=>hn _ ⟨ht.1,λhh=>?_⟩;cases h2:t.2 with|true=>?_|false=>?_;obtain⟨j,e0,hj,aa,hne⟩:=ht.2 h2;exact⟨j,e0,oM,by simp;rw[YR oM];exact aa,hne⟩;simp only[h2] at hh;exact⟨i,e9,oM,by simp only[Xk];rw[YL oM],by simpa using hh⟩;cases h2:t.2 with|true=>?_|false=>?_;obtain⟨j,e0,hj,aa,hne⟩:=ht.2 h2;exact⟨j,e0,oM,aa,hne⟩;simp only[h2] at hh;exact⟨i,eu,oM,by simpa using ab,by simpa using hh⟩
 intro t ht;refine Wp.cond (λhb=>Wp.ret λ_=>⟨by simp only;omega,λhall=>?_⟩) λ_=>Wp.ret λ_=>⟨by simp only;omega,λ_=>by simp only;omega⟩;obtain⟨j,e,-,hj,hne⟩:=ht.2 hb;exact absurd (hall e (Y4 hj)) hne
instance Zbf(g_:Gr)(db:Db)(v_:Int)(changes:List Chg):Con (AK g_ db v_ changes) prog 18 [.agg g_.enc,.agg db.enc,.one (.d (.int .i64 v_)),.one (.d (.sl (changes.map Chg.enc)))] (λr=>.tup [.agg (r.1.enc.map RC.d),.one (.d (.sl (r.2.1.map Zc))),.one (.d (.int .i64 r.2.2))]):=⟨λr hm=>RH g_ db v_ changes r hm⟩
def BS(g_:Gr)(db:Db)(v_:Int)(changes:List Chg):Option (Db×Int×Int):=
 Z1 (AK g_ db v_ changes) λv4=>bif (v4.2.2 !=0) then some ((Db.mk [] []),0,v4.2.2) else Zd (λ(i8:Nat) (x8:Int) (s8:Unit) next_8=>bif (x8 !=0) then some ((Db.mk [] []),(i8:Int),x8) else next_8 ()) (λ(s8:Unit)=>some (v4.1,0,0)) v4.2.1 0 ()
instance Zbj(g_:Gr)(db:Db)(v_:Int)(changes:List Chg):Con (BS g_ db v_ changes) prog 11 [.agg g_.enc,.agg db.enc,.one (.d (.int .i64 v_)),.one (.d (.sl (changes.map Chg.enc)))] (λr=>.tup [.agg (r.1.enc.map RC.d),.one (.d (.int .i64 r.2.1)),.one (.d (.int .i64 r.2.2))]):=by unfold BS;have l1:LH (σ:=Unit) 31 [8,11,29,30] []:=.intro;exact go 43 Tryz.func11
def ID(g_:Gr)(db:Db)(v_:Int):Option ((List Rel)×Int):=
 Z1 (CH g_ db) λv3=>bif (v3 !=0) then some ([],v3) else bif decide (v_<0) then some ([],4) else bif decide ((db.insts.length:Int)<=v_) then some ([],4) else Z7 db.insts v_ λx8=>Z1 (V7 x8) λv9=>some (v9,0)
instance Zbq(g_:Gr)(db:Db)(v_:Int):Con (ID g_ db v_) prog 15 [.agg g_.enc,.agg db.enc,.one (.d (.int .i64 v_))] (λr=>.tup [.one (.d (.sl (r.1.map Rel.enc))),.one (.d (.int .i64 r.2))]):=by unfold ID;exact go 30 Tryz.func15
instance Zbe(s_:Sch):Con (Us s_) prog 43 [.agg s_.enc] (λr=>.one (.d (.sl (r.map Rel.enc)))):=⟨λr hm=>IB s_ r hm⟩
def Im(s_:Sch)(step:Stp):Option ((List Rel)×Int):=
 Z1 (B9 s_ step) λv3=>bif (v3.2.2 !=0) then some ([],v3.2.2) else Z1 (Us v3.2.1) λv7=>some (v7,0)
instance Za8(s_:Sch)(step:Stp):Con (Im s_ step) prog 83 [.agg s_.enc,.agg step.enc] (λr=>.tup [.one (.d (.sl (r.1.map Rel.enc))),.one (.d (.int .i64 r.2))]):=by unfold Im;exact go 21 Tryz.func83
def Ib(s_:Sch)(script:List Stp):Option ((List (List Rel))×Int):=
 Z1 (Ac s_ script) λv2=>bif (v2.2 !=0) then some ([],v2.2) else Zd (λ(i5:Nat) (x5:Stp) (s5:(List (List Rel))) next_5=>Z7 v2.1 (i5:Int) λx7=>Z1 (Im x7 x5) λv8=>bif (v8.2 !=0) then some ([],v8.2) else W6 s5 [v8.1] λ_=>next_5 (s5++[v8.1])) (λ(s5:(List (List Rel)))=>some (s5,0)) script 0 []
instance Qa(s_:Sch)(script:List Stp):Con (Ib s_ script) prog 44 [.agg s_.enc,.one (.d (.sl (script.map Stp.enc)))] (λr=>.tup [.one (.d (.sl (r.1.map (Z6 Rel.enc)))),.one (.d (.int .i64 r.2))]):=by
 unfold Ib;have l1:LH (σ:=(List (List Rel))) 24 [6,22,23] [.g 8 1 (λs=>s.map (Z6 Rel.enc))]:=.intro;have p1:PH [8] (Plan.qB [0,1,2,3,4,5,6,7,8,9,10] .done):=.intro;exact go 47 Tryz.func44
def Gt(g_:Gr):Option (Db×Int):=
 Z1 (Ur g_) λv3=>bif (v3.2 !=0) then some ((Db.mk [] []),v3.2) else Zd (λ(i7:Nat) (x7:Sch) (s7:(List (List Rel))) next_7=>Z1 (Us x7) λv9=>W6 s7 [v9] λ_=>next_7 (s7++[v9])) (λ(s7:(List (List Rel)))=>Zd (λ(i13:Nat) (x13:Edg) (s13:(List (List (List Rel)))) next_13=>Z7 v3.1 x13.parent λx15=>Z1 (Ib x15 x13.script) λv16=>bif (v16.2 !=0) then some ((Db.mk [] []),v16.2) else W6 s13 [v16.1] λ_=>next_13 (s13++[v16.1])) (λ(s13:(List (List (List Rel))))=>some ((Db.mk s7 s13),0)) g_.edges 0 []) v3.1 0 []
theorem Se(g_:Gr)(r:Db×Int)(hm:Is (Gt g_) r):Zj prog 20 [.agg g_.enc] (.tup [.agg (r.1.enc.map RC.d),.one (.d (.int .i64 r.2))]):=by
 unfold Gt at hm;refine Zj.qN Tryz.func20 rfl (by kernel_rfl) (n:=66) rfl rfl (by simp) ?_
 try simp[*]
 refine Va (av:=[.agg g_.enc]) hm (λv hv=>Ll _ v hv) (by simp[*]) ?_;clear hm;intro v3 hvv3 hm
 try simp[*]
 refine Zw hm ?_ ?_<;>clear hm<;>intro hc4 hm
 .try simp[*]
  obtain rfl:=Ze hm;exact Wn (vs:=[_,_]) (by simp[*];try exact⟨rfl,rfl⟩) (by simp[*])
 .try simp[*]
  intro hl6;replace hl6:v3.1.length<=2097152:=by simpa using hl6
  refine Z3.for (xs:=v3.1) (s0:=[]) (λi7 s7 e7 h7=>∃c7_0:C,e7.n=66/\e7.get 1=.one (.ptr (0,16) 0)/\e7.get 2=.one (.ptr (1,32) 0)/\e7.get 4=.one (.d (.sl (v3.1.map Sch.enc)))/\e7.get 6=.one (.ptr (3,96) 0)/\e7.get 22=.one (.d (.sl (v3.1.map Sch.enc)))/\e7.get 23=.one (.d (.int .i64 (v3.1.length:Int)))/\e7.get 24=.one (.d (.int .i64 (i7:Int)))/\h7.box (0,16)=some [.d (.sl (g_.base.tables.map Tbl.enc)),.d (.sl (g_.base.fks.map Fk.enc)),.d (.sl (g_.base.cons.map Cons.enc)),.d (.sl (g_.edges.map Edg.enc))]/\h7.box (1,32)=some [.nil,.nil]/\h7.box (3,96)=some [c7_0,.nil]/\Zi h7 1 c7_0 (s7.map (Z6 Rel.enc))) hm ⟨.nil,by simp(maxDischargeDepth:=20) [*]⟩ ?_ ?_
  .rintro i7 s7 e7 h7 ⟨c7_0,hn7,h7_1,h7_2,h7_4,h7_6,h7_22,h7_23,h7_24,hb7_b1,hb7_b2,hb7_b5,gc7_0⟩ hlt7 hm;have hlc7_0:=gc7_0.list;have hdc7_0:=gc7_0.toD;have hac7_0:=gc7_0.toA;have huc7_0:=gc7_0.qG;have hw7:IntKind.i64.wrap ((i7:Int)+1)=(i7:Int)+1:=Y5 _ (by omega)
   try simp[*]
   refine Z3.of (Wd.draw (Plan.qB [0,1,2,3,4,5,6,7] .done) follows (by kernel_rfl) ?_)
   try simp[*]
   refine Va (av:=[.agg (v3.1[i7]).enc]) hm (λv hv=>IB _ v hv) (by simp[*]) ?_;clear hm;intro v9 hvv9 hm
   try simp[*]
   try refine⟨λ(_:Z2) (_:List C) hl=>hl,?_⟩
   refine UB (xs:=s7) (ys:=[v9]) (enc:=(Z6 Rel.enc)) hm Bm (by first|exact Zi.nil|(simp(maxDischargeDepth:=20) [*];done)|(simp(maxDischargeDepth:=20) [*];refine⟨?_,by omega⟩;intro hq;subst hq;simp at hz2<;>omega)) (by simp[*]) (by decide) (by decide) (λ_=>rfl) ?_;clear hm;intro hl11 hm g10
   try simp[*]
   exact Zf.of (s7++[v9]) ⟨⟨.own (h7.ep+3,528) ((s7++[v9]).map (Z6 Rel.enc)),by simp(maxDischargeDepth:=20) [*]⟩,hm⟩
  .rintro s7 e7 h7 ⟨c7_0,hn7,h7_1,h7_2,h7_4,h7_6,h7_22,h7_23,h7_24,hb7_b1,hb7_b2,hb7_b5,gc7_0⟩ hm;have hlc7_0:=gc7_0.list;have hdc7_0:=gc7_0.toD;have hac7_0:=gc7_0.toA;have huc7_0:=gc7_0.qG
   try simp[*]
   intro hl12;replace hl12:g_.edges.length<=2097152:=by simpa using hl12
   refine Z3.for (xs:=g_.edges) (s0:=[]) (λi13 s13 e13 h13=>∃c13_bb5_0 c13_0:C,(e13.n=66/\e13.get 2=.one (.ptr (1,32) 0)/\e13.get 4=.one (.d (.sl (v3.1.map Sch.enc)))/\e13.get 6=.one (.ptr (3,96) 0)/\e13.get 37=.one (.d (.sl (g_.edges.map Edg.enc)))/\e13.get 38=.one (.d (.int .i64 (g_.edges.length:Int)))/\e13.get 39=.one (.d (.int .i64 (i13:Int)))/\h13.box (1,32)=some [.nil,.nil]/\h13.box (3,96)=some [c13_bb5_0,c13_0]/\Zi h13 1 c13_bb5_0 (s7.map (Z6 Rel.enc))/\Zi h13 1 c13_0 (s13.map (Z6 (Z6 Rel.enc))))/\Ws c13_bb5_0 c13_0) hm ⟨c7_0,.nil,by simp(maxDischargeDepth:=20) [*],(by simp)⟩ ?_ ?_
   .rintro i13 s13 e13 h13 ⟨c13_bb5_0,c13_0,⟨hn13,h13_2,h13_4,h13_6,h13_37,h13_38,h13_39,hb13_b2,hb13_b5,gc13_bb5_0,gc13_0⟩,apc13_bb5_0_c13_0⟩ hlt13 hm;have hlc13_bb5_0:=gc13_bb5_0.list;have hdc13_bb5_0:=gc13_bb5_0.toD;have hac13_bb5_0:=gc13_bb5_0.toA;have huc13_bb5_0:=gc13_bb5_0.qG;have hlc13_0:=gc13_0.list;have hdc13_0:=gc13_0.toD;have hac13_0:=gc13_0.toA;have huc13_0:=gc13_0.qG;have hw13:IntKind.i64.wrap ((i13:Int)+1)=(i13:Int)+1:=Y5 _ (by omega)
    try simp[*]
    refine Z3.of (Wd.draw (Plan.qB [0,1,2,3,4,5,6,7,8,9,10,11,12] .done) follows (by kernel_rfl) ?_)
    try simp[*]
    replace hm:=hm.get;obtain⟨x15,h0x15,hxx15,hm⟩:=hm
    try simp[*]
    refine Va (av:=[.agg x15.enc,.one (.d (.sl ((g_.edges[i13].script).map Stp.enc)))]) hm (λv hv=>Qa _ _ v hv) (by simp[*]) ?_;clear hm;intro v16 hvv16 hm
    try simp[*]
    try refine⟨λ(_:Z2) (_:List C) hl=>hl,?_⟩
    refine Zw hm ?_ ?_<;>clear hm<;>intro hc17 hm
    .try simp[*]
     obtain rfl:=Ze hm;exact Wn (vs:=[_,_]) (by simp[*];try exact⟨rfl,rfl⟩) (by simp[*])
    .try simp[*]
     refine UB (xs:=s13) (ys:=[v16.1]) (enc:=(Z6 (Z6 Rel.enc))) hm H9 (by first|exact Zi.nil|(simp(maxDischargeDepth:=20) [*];done)|(simp(maxDischargeDepth:=20) [*];refine⟨?_,by omega⟩;intro hq;subst hq;simp at hz2<;>omega)) (by simp[*]) (by decide) (by decide) (λ_=>rfl) ?_;clear hm;intro hl19 hm g18
     try simp[*]
     exact Zf.of (s13++[v16.1]) ⟨⟨c13_bb5_0,.own (h13.ep+3,992) ((s13++[v16.1]).map (Z6 (Z6 Rel.enc))),by simp(maxDischargeDepth:=20) [*],(by first|(simp[*];done)|exact(gc13_bb5_0.apart (by simp)).symm)⟩,hm⟩
   .rintro s13 e13 h13 ⟨c13_bb5_0,c13_0,⟨hn13,h13_2,h13_4,h13_6,h13_37,h13_38,h13_39,hb13_b2,hb13_b5,gc13_bb5_0,gc13_0⟩,apc13_bb5_0_c13_0⟩ hm;have hlc13_bb5_0:=gc13_bb5_0.list;have hdc13_bb5_0:=gc13_bb5_0.toD;have hac13_bb5_0:=gc13_bb5_0.toA;have huc13_bb5_0:=gc13_bb5_0.qG;have hlc13_0:=gc13_0.list;have hdc13_0:=gc13_0.toD;have hac13_0:=gc13_0.toA;have huc13_0:=gc13_0.qG
    try simp[*]
    obtain rfl:=Ze hm;exact Wn (vs:=[_,_]) (by simp[*];try exact⟨rfl,rfl⟩) (by simp[*])
instance Zbv(g_:Gr):Con (Gt g_) prog 20 [.agg g_.enc] (λr=>.tup [.agg (r.1.enc.map RC.d),.one (.d (.int .i64 r.2))]):=⟨λr hm=>Se g_ r hm⟩
def Gs(n:Int):Option GV:=
 some (GV.mk 1 n empty)
instance Zbw(n:Int):Con (Gs n) prog 45 [.one (.d (.int .i64 n))] (λr=>.agg (r.enc.map RC.d)):=by unfold Gs;exact go 5 Tryz.func45
def Ik:Option Gr:=
 Z1 (Gs 5) λv2=>some (Gr.mk (Sch.mk [(Tbl.mk ({data:=#[116]}) [(Col.mk ({data:=#[105,100]}) 1 false),(Col.mk ({data:=#[110]}) 1 false)] [0])] [] []) [(Edg.mk 0 [(Stp.mk 1 ({data:=#[116]}) empty ({data:=#[120]}) empty 1 [] empty v2 (Tbl.mk empty [] []) (Cons.mk empty 0 empty 0 (GV.mk 0 0 empty)) (Fk.mk empty [] empty))])])
instance Za4  :Con (Ik) prog 23 [] (λr=>.agg (r.enc.map RC.d)):=by unfold Ik;exact go 16 Tryz.func23
def Gq(l:List Int):Option ((List GV)):=
 Zd (λ(i2:Nat) (x2:Int) (s2:(List GV)) next_2=>Z1 (Gs x2) λv3=>W6 s2 [v3] λ_=>next_2 (s2++[v3])) (λ(s2:(List GV))=>some s2) l 0 []
instance Zbp(l:List Int):Con (Gq l) prog 26 [.one (.d (.sl (l.map Zc)))] (λr=>.one (.d (.sl (r.map GV.enc)))):=by
 unfold Gq;have l1:LH (σ:=(List GV)) 8 [6,7] [.g 3 3 (λs=>s.map GV.enc)]:=.intro;exact go 19 Tryz.func26
def Iw(l:List Int):Option Chg:=
 Z1 (Gq l) λv2=>some (Chg.mk 1 ({data:=#[116]}) [] v2)
instance Zb9(l:List Int):Con (Iw l) prog 24 [.one (.d (.sl (l.map Zc)))] (λr=>.agg (r.enc.map RC.d)):=by unfold Iw;exact go 6 Tryz.func24
def It(a:List GV)(b:List GV):Option Bool:=
 bif ((a.length:Int) !=(b.length:Int)) then some false else Zd (λ(i5:Nat) (x5:GV) (s5:Unit) next_5=>Z7 b (i5:Int) λx6=>bif (!(x5.kind==x6.kind)||(!(x5.int==x6.int)||(!(x5.text==x6.text)))) then some false else next_5 ()) (λ(s5:Unit)=>some true) a 0 ()
instance Zav(a:List GV)(b:List GV):Con (It a b) prog 46 [.one (.d (.sl (a.map GV.enc))),.one (.d (.sl (b.map GV.enc)))] (λr=>.one (.d (.bool r))):=by unfold It;have l1:LH (σ:=Unit) 13 [0,1,12] []:=.intro;have p1:PH [6] (Plan.qB [0,1,2,3,4,5,6,7,8] .done):=.intro;exact go 26 Tryz.func46
def Gg(a:List (List GV))(b:List (List GV)):Option Bool:=
 bif ((a.length:Int) !=(b.length:Int)) then some false else Zd (λ(i5:Nat) (x5:List GV) (s5:Unit) next_5=>Z7 b (i5:Int) λx6=>Z1 (It x5 x6) λv7=>bif !v7 then some false else next_5 ()) (λ(s5:Unit)=>some true) a 0 ()
instance Zan(a:List (List GV))(b:List (List GV)):Con (Gg a b) prog 25 [.one (.d (.sl (a.map (Z6 GV.enc)))),.one (.d (.sl (b.map (Z6 GV.enc))))] (λr=>.one (.d (.bool r))):=by unfold Gg;have l1:LH (σ:=Unit) 13 [0,1,12] []:=.intro;have p1:PH [6] (Plan.qB [0,1,2,3,4,5,6,7,8,9] .done):=.intro;exact go 27 Tryz.func25
def AF:Option Bool:=
 Z1 (Ik) λv1=>Z1 (Gt v1) λv3=>bif (v3.2 !=0) then some false else Z1 (Iw [1,2]) λv6=>Z1 (BS v1 v3.1 0 [v6]) λv7=>bif (v7.2.2 !=0) then some false else Z1 (ID v1 v7.1 1) λv9=>bif (v9.2==0) then bif ((v9.1.length:Int)==1) then Z7 v9.1 0 λx13=>(Z1 (Gq [1,2,5]) λv14=>Z1 (Gg x13.rows [v14]) λv15=>some v15) else(some false) else some false
instance Z9s  :Con (AF) prog 9 [] (λr=>.one (.d (.bool r))):=by unfold AF;have p1:PH [5] (Plan.qB [0,1,2,3,4,5,6,7,8,9,10,11] .done):=.intro;have p2:PH [9] (Plan.qB [0,1,2,3,4,5,6,7,8,9,10,11,12,13,14,15,16,17] .done):=.intro;exact go 48 Tryz.func9
instance Z9w(slices:List (List (List Rel))):Con (DL slices) prog 27 [.one (.d (.sl (slices.map (Z6 (Z6 Rel.enc)))))] (λr=>.one (.d (.sl (r.map (Z6 Rel.enc))))):=⟨λr hm=>Qi slices r hm⟩
def FQ(s_:List Rel)(f:Rel->Option Bool):Option Int:=
 Zd (λ(i2:Nat) (x2:Rel) (s2:Unit) next_2=>Z1 (f x2) λv3=>bif v3 then some (i2:Int) else next_2 ()) (λ(s2:Unit)=>some (-1)) s_ 0 ()
instance Z9g(s_:List Rel)(f:Rel->Option Bool){g:FuncId}{caps:List (List D)}[ConF f prog (λx=>.agg x.enc) (λv=>.one (.d (.bool v))) g caps]:Con (FQ s_ f) prog 48 [.one (.d (.sl (s_.map Rel.enc))),.one (.fn g caps)] (λr=>.one (.d (.int .i64 r))):=by unfold FQ;have l1:LH (σ:=Unit) 8 [0,1,7] []:=.intro;exact go 19 Tryz.func48
def FM(s_:List Rel)(f:Rel->Option Bool):Option Bool:=
 Z1 (FQ s_ f) λv1=>some (decide (0<=v1))
instance Z96(s_:List Rel)(f:Rel->Option Bool){g:FuncId}{caps:List (List D)}[ConF f prog (λx=>.agg x.enc) (λv=>.one (.d (.bool v))) g caps]:Con (FM s_ f) prog 28 [.one (.d (.sl (s_.map Rel.enc))),.one (.fn g caps)] (λr=>.one (.d (.bool r))):=by unfold FM;exact go 9 Tryz.func28
def G7(r_:Rel):Option Bool:=
 some (decide (40<(r_.rows.length:Int)))
instance QK(r_:Rel):Con (G7 r_) prog 29 [.agg r_.enc] (λr=>.one (.d (.bool r))):=by unfold G7;exact go 7 Tryz.func29
instance Zac  :ConF (λx=>G7 x) prog (λx=>.agg x.enc) (λr=>.one (.d (.bool r))) 29 []:=⟨λx=>(QK x)⟩
def CC(g_:Gr)(db:Db)(changes:List Chg):Option Bool:=
 bif decide (8<(g_.edges.length:Int)) then some false else bif decide (9<(db.insts.length:Int)) then some false else bif decide (9<(db.comps.length:Int)) then some false else bif decide (50<(changes.length:Int)) then some false else Z1 (DL db.comps) λv11=>Z1 (DL [v11,db.insts]) λv12=>Zd (λ(i14:Nat) (x14:List Rel) (s14:Unit) next_14=>bif decide (20<(x14.length:Int)) then some false else Z1 (FM x14 (λxa_=>G7 xa_)) λv17=>bif v17 then some false else next_14 ()) (λ(s14:Unit)=>some true) v12 0 ()
instance Zaw(g_:Gr)(db:Db)(changes:List Chg):Con (CC g_ db changes) prog 10 [.agg g_.enc,.agg db.enc,.one (.d (.sl (changes.map Chg.enc)))] (λr=>.one (.d (.bool r))):=by unfold CC;have l1:LH (σ:=Unit) 38 [36,37] []:=.intro;have p1:PH [3] (Plan.qB [0,1,3,4,8,2,5,6,7] .done):=.intro;exact go 50 Tryz.func10
def Ih(a:List Rel)(b:List Rel):Option Bool:=
 bif ((a.length:Int) !=(b.length:Int)) then some false else Zd (λ(i5:Nat) (x5:Rel) (s5:Unit) next_5=>Z7 b (i5:Int) λx6=>bif !(strEq x5.table x6.table) then some false else Z1 (Gg x5.rows x6.rows) λv8=>bif !v8 then some false else next_5 ()) (λ(s5:Unit)=>some true) a 0 ()
instance Z9x(a:List Rel)(b:List Rel):Con (Ih a b) prog 16 [.one (.d (.sl (a.map Rel.enc))),.one (.d (.sl (b.map Rel.enc)))] (λr=>.one (.d (.bool r))):=by unfold Ih;have l1:LH (σ:=Unit) 13 [0,1,12] []:=.intro;have p1:PH [6] (Plan.qB [0,1,2,3,4,5,6,7,8,9,10,11,12,13,14,15,16,17,18,19,20,21,22,23,24] .done):=.intro;exact go 42 Tryz.func16
def FT(a:List (List Rel))(b:List (List Rel)):Option Bool:=
 bif ((a.length:Int) !=(b.length:Int)) then some false else Zd (λ(i5:Nat) (x5:List Rel) (s5:Unit) next_5=>Z7 b (i5:Int) λx6=>Z1 (Ih x5 x6) λv7=>bif !v7 then some false else next_5 ()) (λ(s5:Unit)=>some true) a 0 ()
instance Z9r(a:List (List Rel))(b:List (List Rel)):Con (FT a b) prog 40 [.one (.d (.sl (a.map (Z6 Rel.enc)))),.one (.d (.sl (b.map (Z6 Rel.enc))))] (λr=>.one (.d (.bool r))):=by unfold FT;have l1:LH (σ:=Unit) 13 [0,1,12] []:=.intro;have p1:PH [6] (Plan.qB [0,1,2,3,4,5,6,7,8,9] .done):=.intro;exact go 27 Tryz.func40
def L6(a:Db)(b:Db):Option Bool:=
 Z1 (FT a.insts b.insts) λv3=>bif !v3 then some false else bif ((a.comps.length:Int) !=(b.comps.length:Int)) then some false else Zd (λ(i9:Nat) (x9:List (List Rel)) (s9:Unit) next_9=>Z7 b.comps (i9:Int) λx10=>Z1 (FT x9 x10) λv11=>bif !v11 then some false else next_9 ()) (λ(s9:Unit)=>some true) a.comps 0 ()
instance Z9y(a:Db)(b:Db):Con (L6 a b) prog 17 [.agg a.enc,.agg b.enc] (λr=>.one (.d (.bool r))):=by unfold L6;have l1:LH (σ:=Unit) 24 [2,3,23] []:=.intro;have p1:PH [6] (Plan.qB [0,1,2,3,4,5,6,7,8,9,10,11] .done):=.intro;exact go 40 Tryz.func17
set_option maxRecDepth 100000 in
theorem LW:AF=some true:=by decide+kernel
theorem Nj{α:Type}{f:α->Option Bool}:∀(xs:List α) (i:Nat),(∀x∈xs,∃b,f x=some b)->Wp (Zd (λ(i:Nat) (x:α) (s:Unit) next=>Z1 (f x) λv=>bif v then some (i:Int) else next ()) (λ_=>some (-1)) xs i ()) λ_=>True
 |[],i,_=>Wp.ret trivial
 |x::xs,i,h=>by
   obtain⟨b,hb⟩:=h x sI;have ih:=Nj xs (i+1) λy hy=>h y (by simp[hy]);show Wp (Z1 (f x) _) _;rw[hb];cases b;exact ih;exact Wp.ret trivial
theorem Tu(g:Gr)(db:Db)(aa:List Chg)(hl:db.comps.flatten.length+db.insts.length<=2097152):Wp (CC g db aa) λ_=>True:=by
 unfold CC DL;refine Wp.cond (λ_=>Wp.ret trivial) λ_=>Wp.cond (λ_=>Wp.ret trivial) λ_=>Wp.cond (λ_=>Wp.ret trivial) λ_=>Wp.cond (λ_=>Wp.ret trivial) λ_=>?_;refine Wp.bind (R:=λv=>v=db.comps.flatten) (Wp.chk oM (Wp.ret rfl)) λv _ hv=>?_;subst hv;refine Wp.bind (R:=λ_=>True) (Wp.chk (by simp only[Xp,List.flatten_nil,Ym,Ye];exact hl) (Wp.ret trivial)) λv _ hv=>?_;refine Wp.for (λ_ _=>True) trivial ?_ λ_ _=>Wp.ret trivial;intro i x s next _ _ _ hn
 refine Wp.cond (λ_=>Wp.ret trivial) λ_=>Wp.bind (R:=λ_=>True) ?_ λ_ _ _=>Wp.cond (λ_=>Wp.ret trivial) λ_=>hn () trivial;unfold FM FQ;exact Wp.bind (Nj x 0 λr _=>⟨_,rfl⟩) λ_ _ _=>Wp.ret trivial
theorem Zhg(b:ByteArray):(b==b)=true:=by
 cases b with
 |mk d=>
   first
    |exact beq_self_eq_true _
    |(show(d==d)=true;exact beq_self_eq_true d)
theorem Zhn(a:List GV):Wp (It a a) λb=>b=true:=by
 unfold It;refine Wp.cond (λh=>by simp at h) λ_=>Wp.for (λ_ _=>True) trivial ?_ λ_ _=>Wp.ret rfl;intro i x s next hx _ _ hn
 exact Wp.qH hx (Wp.cond (λh=>by simp[Zhg] at h) λ_=>hn () trivial)
theorem Zhm(a:List (List GV)):Wp (Gg a a) λb=>b=true:=by
 unfold Gg;refine Wp.cond (λh=>by simp at h) λ_=>Wp.for (λ_ _=>True) trivial ?_ λ_ _=>Wp.ret rfl;intro i x s next hx _ _ hn
 refine Wp.qH hx (Wp.bind (Zhn x) λb _ hb=>Wp.cond (λh=>by simp[hb] at h) λ_=>hn () trivial)
theorem Zhq(b:ByteArray):strEq b b=true:=by
 unfold strEq
 first|exact Zhg b|simp[Zhg]
theorem Zhk(a:List Rel):Wp (Ih a a) λb=>b=true:=by
 unfold Ih;refine Wp.cond (λh=>by simp at h) λ_=>Wp.for (λ_ _=>True) trivial ?_ λ_ _=>Wp.ret rfl;intro i x s next hx _ _ hn
 refine Wp.qH hx (Wp.cond (λh=>by simp[Zhq] at h) λ_=>Wp.bind (Zhm x.rows) λb _ hb=>Wp.cond (λh=>by simp[hb] at h) λ_=>hn () trivial)
theorem Zhh(a:List (List Rel)):Wp (FT a a) λb=>b=true:=by
 unfold FT;refine Wp.cond (λh=>by simp at h) λ_=>Wp.for (λ_ _=>True) trivial ?_ λ_ _=>Wp.ret rfl;intro i x s next hx _ _ hn
 refine Wp.qH hx (Wp.bind (Zhk x) λb _ hb=>Wp.cond (λh=>by simp[hb] at h) λ_=>hn () trivial)
theorem Zhl(a:Db):Wp (L6 a a) λb=>b=true:=by
 unfold L6;refine Wp.bind (Zhh a.insts) λb _ hb=>Wp.cond (λh=>by simp[hb] at h) λ_=>Wp.cond (λh=>by simp at h) λ_=>Wp.for (λ_ _=>True) trivial ?_ λ_ _=>Wp.ret rfl;intro i x s next hx _ _ hn
 refine Wp.qH hx (Wp.bind (Zhh x) λb _ hb=>Wp.cond (λh=>by simp[hb] at h) λ_=>hn () trivial)
def fe:Nat->List Int->Option (Int×Int)
 |_,[]=>none
 |i,x::xs=>bif x !=0 then some (i,x) else fe (i+1) xs
theorem Kr{ρ:Type}{A:Int->Int->Option ρ}{B:Option ρ}:∀(xs:List Int) (i:Nat),Zd (λ(i:Nat) (x:Int) (_:Unit) next=>bif x !=0 then A (i:Int) x else next ()) (λ_=>B) xs i ()=match fe i xs with
  |some q=>A q.1 q.2
  |none=>B
 |[],_=>rfl
 |x::xs,i=>by
   have ih:=Kr (A:=A) (B:=B) xs (i+1);show(bif x !=0 then A (i:Int) x else Zd _ _ xs (i+1) ())=_;unfold fe;cases h:x !=0 with
   |true=>simp
   |false=>simp only[cond_false];exact ih
theorem Z2v{g:Gr}{db:Db}{v:Int}{cs:List Chg}{p:Db×List Int×Int}(h:AK g db v cs=some p):BS g db v cs=some (bif p.2.2 !=0 then(⟨[],[]⟩,0,p.2.2) else match fe 0 p.2.1 with
  |some q=>(⟨[],[]⟩,q.1,q.2)
  |none=>(p.1,0,0)):=by
 unfold BS;rw[h];show(bif p.2.2 !=0 then _ else _)=_;cases hp:p.2.2 !=0 with
 |true=>rfl
 |false=>?_
 simp only[cond_false];rw[Kr (A:=λk e=>some ((⟨[],[]⟩:Db),k,e))];cases fe 0 p.2.1<;>rfl
def DS(errs:List Int):Option (Int×Int):=
 Zd (λ(i2:Nat) (x2:Int) (s2:Unit) next_2=>bif (x2 !=0) then some ((i2:Int),x2) else next_2 ()) (λ(s2:Unit)=>some (0,0)) errs 0 ()
instance Zag(errs:List Int):Con (DS errs) prog 19 [.one (.d (.sl (errs.map Zc)))] (λr=>.tup [.one (.d (.int .i64 r.1)),.one (.d (.int .i64 r.2))]):=by unfold DS;have l1:LH (σ:=Unit) 8 [6,7] []:=.intro;exact go 18 Tryz.func19
def FK(g_:Gr)(db:Db)(v_:Int)(changes:List Chg):Option Bool:=
 Z1 (AF) λv3=>bif !v3 then Z1 (AF) λv5=>(some v5) else Z1 (CC g_ db changes) λv6=>bif !v6 then Z1 (AF) λv8=>(some v8) else Z1 (AK g_ db v_ changes) λv9=>Z1 (BS g_ db v_ changes) λv11=>bif (v9.2.2 !=0) then bif (v11.2.2==v9.2.2) then some (v11.2.1==0) else(some false) else Z1 (DS v9.2.1) λv15=>bif (v11.2.1==v15.1) then bif (v11.2.2==v15.2) then some ((v15.2==0)==(decide (0<v11.1.insts.length))) else(some false) else some false
instance PP(g_:Gr)(db:Db)(v_:Int)(changes:List Chg):Con (FK g_ db v_ changes) prog 6 [.agg g_.enc,.agg db.enc,.one (.d (.int .i64 v_)),.one (.d (.sl (changes.map Chg.enc)))] (λr=>.one (.d (.bool r))):=by unfold FK;exact go 76 Tryz.func6
def Io(g_:Gr)(db:Db)(w:Wr):Option ((List Rej)×Int):=
 Z1 (AK g_ db w.version w.changes) λv4=>bif (v4.2.2 !=0) then some ([],v4.2.2) else Zd (λ(i8:Nat) (x8:Int) (s8:(List Rej)) next_8=>bif (x8 !=0) then W6 s8 [(Rej.mk (i8:Int) x8)] λ_=>(next_8 (s8++[(Rej.mk (i8:Int) x8)])) else next_8 s8) (λ(s8:(List Rej))=>some (s8,0)) v4.2.1 0 []
instance Zaa(g_:Gr)(db:Db)(w:Wr):Con (Io g_ db w) prog 22 [.agg g_.enc,.agg db.enc,.agg w.enc] (λr=>.tup [.one (.d (.sl (r.1.map Rej.enc))),.one (.d (.int .i64 r.2))]):=by
 unfold Io;have l1:LH (σ:=(List Rej)) 30 [28,29] [.g 11 2 (λs=>s.map Rej.enc)]:=.intro;exact go 45 Tryz.func22
def KW(g_:Gr)(db:Db)(w:Wr):Option Bool:=
 Z1 (AF) λv4=>bif !v4 then Z1 (AF) λv6=>(some v6) else Z1 (CC g_ db w.changes) λv7=>bif !v7 then Z1 (AF) λv9=>(some v9) else Z1 (Io g_ db w) λv10=>Z1 (BS g_ db w.version w.changes) λv11=>bif (v10.2 !=0) then some (v11.2.2==v10.2) else bif ((v10.1.length:Int)==0) then some (v11.2.2==0) else Z7 v10.1 0 λx16=>some (x16.version==v11.2.1&&(x16.err==v11.2.2))
instance Z93(g_:Gr)(db:Db)(w:Wr):Con (KW g_ db w) prog 8 [.agg g_.enc,.agg db.enc,.agg w.enc] (λr=>.one (.d (.bool r))):=by unfold KW;exact go 58 Tryz.func8
def Zhe(g_:Gr)(db:Db)(v_:Int):Option Bool:=
 Z1 (AF) λv3=>bif !v3 then Z1 (AF) λv5=>(some v5) else Z1 (CC g_ db []) λv6=>bif !v6 then Z1 (AF) λv8=>(some v8) else Z1 (CH g_ db) λv9=>bif (v9 !=0) then Z1 (AF) λv11=>(some v11) else bif decide (v_<0) then Z1 (AF) λv13=>(some v13) else bif decide ((db.insts.length:Int)<=v_) then Z1 (AF) λv16=>(some v16) else Z1 (BS g_ db v_ []) λv17=>bif (v17.2.2==0) then bif (v17.2.1==0) then Z1 (L6 v17.1 db) λv21=>(some v21) else(some false) else some false
instance Zhj(g_:Gr)(db:Db)(v_:Int):Con (Zhe g_ db v_) prog 5 [.agg g_.enc,.agg db.enc,.one (.d (.int .i64 v_))] (λr=>.one (.d (.bool r))):=by unfold Zhe;exact go 55 Tryz.func5
theorem Zhf{α:Type}{l:List α}{i:Nat}{x:α}(h:l[i]?=some x):l.set i x=l:=by obtain⟨h1,h2⟩:=Y0.1 h;rw[<-h2];exact List.set_getElem_self h1
theorem Zhi{n i:Nat}:(List.replicate n (0:Int)).set i 0=List.replicate n 0:=by by_cases h:i<n;exact Zhf (by rw[List.getElem?_replicate,if_pos h]);exact List.set_eq_of_length_le sO
theorem Zhp{g:Gr}{db:Db}{Ss:List Sch}(d:DbV g db Ss){v:Int}(h0:0<=v)(h1:v<Ss.length):
  Wp (DZ g Ss db.insts db.comps v) λs=>s.insts=db.insts/\s.comps=db.comps/\s.errs=List.replicate Ss.length 0/\s.reached.length=Ss.length:=by
 have hl:=d.ver.len;have aj:=d.li;have ag:=d.lc;unfold DZ;refine Wp.chk ⟨h0,h1⟩ (Wp.bind (Tv d.ver d.sch h0 h1) λT _ hT=>Wp.for (λ_ s=>s.insts=db.insts/\s.comps=db.comps/\s.errs=List.replicate Ss.length 0/\s.reached.length=Ss.length) ⟨rfl,rfl,rfl,sI⟩ ?_ λs hs=>Wp.ret hs);intro k aa s next ak hm p hn
 have hh:=hT aa hm;obtain⟨p1,p2,p3,p4⟩:=p;refine Wp.get hh.1 hh.2 λe he af=>Wp.chk (by simp only[W8];have:=d.ver.l7;omega) ?_;have hp:=d.ver.edges _ e he;have i1:e.parent.toNat<db.insts.length:=oM
 have i2:aa.edge.toNat+1<db.insts.length:=oM;have i3:aa.edge.toNat<db.comps.length:=oM;have g0:Ss[e.parent.toNat]?=some (Ss[e.parent.toNat]'oM):=Y1 oM;have g1:=Y1 i1;have g2:=Y1 i2;have g3:=Y1 i3;obtain⟨hF,hB,-⟩:=d.edge _ e _ _ _ _ he g0 g1 g2 g3;have key:∀(n f:Int) (a b:List Rel),0<=n->n<Ss.length->0<=f->f<Ss.length->db.insts[n.toNat]?=some a->db.insts[f.toNat]?=some b->Kg aa.back (Ss[e.parent.toNat]'oM) e.script a db.comps[aa.edge.toNat]=some (b,db.comps[aa.edge.toNat],0)->Wp (Fs Ss e aa n f s next) _:=λn f a b ab al ae ah ha hb hc=>by
  unfold Fs;refine Wp.get ab oM λrn _ _=>Wp.cond (λ_=>hn s ⟨p1,p2,p3,p4⟩) λ_=>Wp.get ab (by rw[p3];simp;omega) λen _ _=>Wp.cond (λ_=>hn s ⟨p1,p2,p3,p4⟩) λ_=>Wp.chk ⟨ae,oM,by rw[p3];simp;omega⟩ ?_;refine Wp.get hp.1 oM λS hS _=>Wp.get ab (by rw[p1];omega) λa9 ad _=>Wp.get hh.1 (by rw[p2];omega) λc9 ac _=>?_;rw[g0] at hS;cases hS;rw[p1,ha] at ad;cases ad;rw[p2,g3] at ac;cases ac;refine Wp.bind (Wg hc) λr _ hr=>?_;subst hr;refine Wp.cond (λ_=>Wp.chk (by rw[p1];omega) (hn _ ⟨?_,?_,?_,by simp[p4]⟩)) λh=>by simp at h
  show s.insts.set f.toNat b=_;rw[p1,Zhf hb];show s.comps.set aa.edge.toNat _=_;rw[p2,Zhf g3];show s.errs.set f.toNat 0=_;rw[p3,Zhi]
 have e1:(aa.edge+1).toNat=aa.edge.toNat+1:=oM;cases hb:aa.back with|true=>?_|false=>?_;refine key _ _ db.insts[aa.edge.toNat+1] db.insts[e.parent.toNat] sO sO sO sO ?_ ?_ ?_;show db.insts[(aa.edge+1).toNat]?=_;rw[e1,g2];exact g1;rw[hb];exact hB;refine key _ _ db.insts[e.parent.toNat] db.insts[aa.edge.toNat+1] sO sO sO sO ?_ ?_ ?_;exact g1;show db.insts[(aa.edge+1).toNat]?=_;rw[e1,g2];rw[hb];exact hF
theorem Zho{g:Gr}{db:Db}{Ss:List Sch}(d:DbV g db Ss)(hv:CH g db=some 0){v:Int}(h0:0<=v)(h1:v<db.insts.length):Wp (AK g db v []) λq=>q.1=db/\q.2.2=0/\∀e∈q.2.1,e=0:=by
 have hl:=d.ver.len;have ad:=d.li;unfold AK;refine Wp.bind (Wg hv) λe _ he=>?_;subst he;refine Wp.cond (λh=>by cases h) λ_=>Wp.cond (λh=>by simp at h;omega) λ_=>Wp.bind (Wg d.sch) λq _ hq=>?_;subst hq;refine Wp.get h0 (by simp only;omega) λS hS hSm=>Wp.get h0 h1 λx hx _=>?_;obtain⟨h2,h3,h4⟩:=d.inst _ S x hS hx;have hb:=h3.rb (d.ver.vs S hSm);refine Wp.bind (R:=λr=>r=(x,(0:Int))) ?_ λr _ hr=>?_;unfold Eo;refine Wp.bind (Wg (d.ver.vs S hSm).ok) λe _ he=>?_;subst he;refine Wp.cond (λh=>by cases h) λ_=>Wp.bind (Wg h4) λe _ he=>?_;subst he;refine Wp.cond (λh=>by cases h) λ_=>Wp.cond (λh=>by simp at h) λ_=>Wp.bind (Eh x (by have:=hb.1;omega) λr hr=>by have:=hb.2 r hr;omega) λo _ ho=>?_;subst ho;exact Wp.ret rfl;subst hr;refine Wp.cond (λh=>by cases h) λ_=>Wp.chk d.ok ?_;rw[show db.insts.set v.toNat (x,(0:Int)).1=db.insts from Zhf hx];refine Wp.bind (Zhp d h0 oM) λs _ hs=>?_;obtain⟨s1,s2,s3,s4⟩:=hs;refine Wp.for (λ_ (t:List Int×Bool)=>t=(List.replicate Ss.length 0,false)) (by rw[s3]) ?_ ?_
 .intro i S2 t next hxi hm ht hn
  have hi:i<Ss.length:=(Y0.1 hxi).1;subst ht;refine Wp.get oM oM λru _ _=>Wp.get oM sO λeu ab _=>?_;have ac:eu=0:=by
   have:(List.replicate Ss.length (0:Int))[i]?=some eu:=by simpa using ab
   rw[List.getElem?_replicate,if_pos hi] at this;cases this;rfl
  subst ac;refine Wp.cond (λ_=>Wp.get oM (by rw[s1];omega) λiu aa _=>?_) λ_=>hn _ rfl;have aa:db.insts[i]?=some iu:=by rw[<-s1];simpa using aa
  refine Wp.bind (Wg (d.inst i S2 iu hxi aa).1) λe _ he=>?_;subst he;refine hn _ ?_;simp only[Xk,Zhi];rfl
 intro t ht;subst ht;refine Wp.cond (λh=>by cases h) λ_=>Wp.ret ⟨?_,rfl,λe he=>(List.mem_replicate.1 he).2⟩;rw[s1,s2]
theorem Zhr(g:Gr)(db:Db)(v:Int)(hx:Hv g)(hl:db.comps.flatten.length+db.insts.length<=2097152):Zhe g db v=some true:=by
 refine Av ?_;unfold Zhe;have aa:Wp (Z1 AF λv=>some v) λr=>r=true:=Wp.bind (Wg LW) λw _ hw=>Wp.ret hw;refine Wp.bind (Wg LW) λw _ hw=>?_;subst hw;refine Wp.cond (λh=>by cases h) λ_=>Wp.bind (Tu g db [] hl) λb _ _=>Wp.cond (λ_=>aa) λ_=>Wp.bind (SC hx db) λe he ae=>Wp.cond (λ_=>aa) λh=>?_;obtain rfl:e=0:=by simpa using h
 obtain⟨Ss,d⟩:=ae rfl;refine Wp.cond (λ_=>aa) λac=>Wp.cond (λ_=>aa) λad=>?_;obtain⟨p,hp,p1,p2,p3⟩:=Zho d he (v:=v) (by simpa using ac) (by simpa using ad);refine Wp.bind (Wg (Z2v hp)) λw _ hw=>?_;have ab:fe 0 p.2.1=none:=by
  cases ab:fe 0 p.2.1 with
  |none=>rfl
  |some q=>?_
  exfalso;have key:∀(xs:List Int) (i:Nat),(∀x∈xs,x=0)->fe i xs=none:=by
   intro xs
   induction xs with
   |nil=>intro i _;rfl
   |cons x xs ih=>?_
   intro i hx;unfold fe;rw[hx x sI];simp only[bne_self_eq_false,cond_false];exact ih _ λy hy=>hx y (by simp[hy])
  rw[key p.2.1 0 p3] at ab;cases ab
 rw[ab,p2,p1] at hw;simp only[bne_self_eq_false,cond_false] at hw;subst hw;refine Wp.cond (λ_=>Wp.cond (λ_=>Wp.bind (Zhl db) λr _ hr=>Wp.ret hr) λh=>by simp at h) λh=>by simp at h
theorem Z6i{P:Program}{B n:Nat}{t:TypeId}{ds:List D}(hu:P.underlying t=some (.int .i64))(h:ZM P B n t ds):∃v:Int,ds=Zc v:=by
 cases n with
 |zero=>cases h
 |succ n=>simp only[ZM,hu] at h;obtain⟨v,h1,_⟩:=h;exact⟨v,h1⟩
theorem Z45{P:Program}{B n:Nat}{t:TypeId}{ds:List D}(hu:P.underlying t=some .bool)(h:ZM P B n t ds):∃v:Bool,ds=HP v:=by
 cases n with
 |zero=>cases h
 |succ n=>simp only[ZM,hu] at h;exact h
theorem Z0b{P:Program}{B n:Nat}{t:TypeId}{ds:List D}(hu:P.underlying t=some .string)(h:ZM P B n t ds):∃v:ByteArray,ds=FC v:=by
 cases n with
 |zero=>cases h
 |succ n=>simp only[ZM,hu] at h;exact h
theorem Uj{P:Program}{B n:Nat}{t e:TypeId}{ds:List D}(hu:P.underlying t=some (.slice e))(h:ZM P B n t ds):∃m xs,ds=[.sl xs]/\xs.length<=B/\∀x∈xs,ZM P B m e x:=by
 cases n with
 |zero=>cases h
 |succ n=>simp only[ZM,hu] at h;obtain⟨xs,h1,h2,h3⟩:=h;exact⟨n,xs,h1,h2,h3⟩
theorem Ut{P:Program}{B n:Nat}{t:TypeId}{fs:Array Field}{ds:List D}(hu:P.underlying t=some (.struct fs))(h:ZM P B n t ds):∃m,HG (ZM P B m) fs.toList ds:=by
 cases n with
 |zero=>cases h
 |succ n=>simp only[ZM,hu] at h;exact⟨n,h⟩
theorem VZ{α:Type}{enc:α->List D}{S:α->Prop}:∀{xs:List (List D)},(∀x∈xs,∃v,x=enc v/\S v)->∃vs:List α,xs=vs.map enc/\vs.length=xs.length/\∀v∈vs,S v
 |[],_=>⟨[],rfl,rfl,by simp⟩
 |x::xs,h=>by
   obtain⟨v,h1,h2⟩:=h x sI;obtain⟨vs,h3,h4,h5⟩:=VZ λy hy=>h y (Yc _ hy);exact⟨v::vs,by simp[h1,<-h3],by simp[h4],by simpa using⟨h2,h5⟩⟩
theorem A0{B n:Nat}{ds:List D}(h:ZM prog B n 3 ds):∃v:Int,ds=Zc v/\True:=by obtain⟨v,hv⟩:=Z6i Tryz.underlying3 h;exact⟨v,hv,trivial⟩
theorem U7{B n:Nat}{ds:List D}(h:ZM prog B n 9 ds):∃v:ByteArray,ds=FC v/\True:=by obtain⟨v,hv⟩:=Z0b Tryz.underlying9 h;exact⟨v,hv,trivial⟩
def Fv(B:Nat)(x:GV):Prop:=True/\True/\True
theorem Ks{B n:Nat}{ds:List D}(h:ZM prog B n 115 ds):∃v:GV,ds=v.enc/\Fv B v:=by obtain⟨m,hm⟩:=Ut Tryz.underlying115 h;obtain⟨a0,r0,e0,t0,hm⟩:=hm;obtain⟨v0,w0,b0⟩:=A0 t0;obtain⟨a1,r1,e1,t1,hm⟩:=hm;obtain⟨v1,w1,b1⟩:=A0 t1;obtain⟨a2,r2,e2,t2,hm⟩:=hm;obtain⟨v2,w2,b2⟩:=U7 t2;have e3:r2=[]:=hm;subst w0 w1 w2;refine⟨⟨v0,v1,v2⟩,?_,b0,b1,b2⟩;rw[e0,e1,e2,e3];rfl
theorem Z8y{B n:Nat}{ds:List D}(h:ZM prog B n 4 ds):∃v:Bool,ds=HP v/\True:=by obtain⟨v,hv⟩:=Z45 Tryz.underlying4 h;exact⟨v,hv,trivial⟩
def KH(B:Nat)(x:Col):Prop:=True/\True/\True
theorem Z7p{B n:Nat}{ds:List D}(h:ZM prog B n 113 ds):∃v:Col,ds=v.enc/\KH B v:=by obtain⟨m,hm⟩:=Ut Tryz.underlying113 h;obtain⟨a0,r0,e0,t0,hm⟩:=hm;obtain⟨v0,w0,b0⟩:=U7 t0;obtain⟨a1,r1,e1,t1,hm⟩:=hm;obtain⟨v1,w1,b1⟩:=A0 t1;obtain⟨a2,r2,e2,t2,hm⟩:=hm;obtain⟨v2,w2,b2⟩:=Z8y t2;have e3:r2=[]:=hm;subst w0 w1 w2;refine⟨⟨v0,v1,v2⟩,?_,b0,b1,b2⟩;rw[e0,e1,e2,e3];rfl
def Pw(B:Nat)(xs:List Col):Prop:=xs.length<=B/\∀x∈xs,KH B x
theorem Z8d{B n:Nat}{ds:List D}(h:ZM prog B n 97 ds):∃v:List Col,ds=[.sl (v.map Col.enc)]/\Pw B v:=by
 obtain⟨m,xs,rfl,hl,hx⟩:=Uj Tryz.underlying97 h;obtain⟨vs,rfl,h1,h2⟩:=VZ (enc:=Col.enc) (S:=λx=>KH B x) λx aa=>Z7p (hx x aa);exact⟨vs,rfl,by simpa using hl,h2⟩
def HW(B:Nat)(xs:List Int):Prop:=xs.length<=B/\∀x∈xs,True
theorem KD{B n:Nat}{ds:List D}(h:ZM prog B n 98 ds):∃v:List Int,ds=[.sl (v.map Zc)]/\HW B v:=by
 obtain⟨m,xs,rfl,hl,hx⟩:=Uj Tryz.underlying98 h;obtain⟨vs,rfl,h1,h2⟩:=VZ (enc:=Zc) (S:=λx=>True) λx aa=>A0 (hx x aa);exact⟨vs,rfl,by simpa using hl,h2⟩
def Hz(B:Nat)(x:Tbl):Prop:=True/\Pw B x.cols/\HW B x.pk
theorem Pa{B n:Nat}{ds:List D}(h:ZM prog B n 100 ds):∃v:Tbl,ds=v.enc/\Hz B v:=by obtain⟨m,hm⟩:=Ut Tryz.underlying100 h;obtain⟨a0,r0,e0,t0,hm⟩:=hm;obtain⟨v0,w0,b0⟩:=U7 t0;obtain⟨a1,r1,e1,t1,hm⟩:=hm;obtain⟨v1,w1,b1⟩:=Z8d t1;obtain⟨a2,r2,e2,t2,hm⟩:=hm;obtain⟨v2,w2,b2⟩:=KD t2;have e3:r2=[]:=hm;subst w0 w1 w2;refine⟨⟨v0,v1,v2⟩,?_,b0,b1,b2⟩;rw[e0,e1,e2,e3];rfl
def Hx(B:Nat)(x:Fk):Prop:=True/\HW B x.cols/\True
theorem P7{B n:Nat}{ds:List D}(h:ZM prog B n 120 ds):∃v:Fk,ds=v.enc/\Hx B v:=by obtain⟨m,hm⟩:=Ut Tryz.underlying120 h;obtain⟨a0,r0,e0,t0,hm⟩:=hm;obtain⟨v0,w0,b0⟩:=U7 t0;obtain⟨a1,r1,e1,t1,hm⟩:=hm;obtain⟨v1,w1,b1⟩:=KD t1;obtain⟨a2,r2,e2,t2,hm⟩:=hm;obtain⟨v2,w2,b2⟩:=U7 t2;have e3:r2=[]:=hm;subst w0 w1 w2;refine⟨⟨v0,v1,v2⟩,?_,b0,b1,b2⟩;rw[e0,e1,e2,e3];rfl
def Hy(B:Nat)(x:Cons):Prop:=True/\True/\True/\True/\Fv B x.value
theorem P8{B n:Nat}{ds:List D}(h:ZM prog B n 118 ds):∃v:Cons,ds=v.enc/\Hy B v:=by obtain⟨m,hm⟩:=Ut Tryz.underlying118 h;obtain⟨a0,r0,e0,t0,hm⟩:=hm;obtain⟨v0,w0,b0⟩:=U7 t0;obtain⟨a1,r1,e1,t1,hm⟩:=hm;obtain⟨v1,w1,b1⟩:=A0 t1;obtain⟨a2,r2,e2,t2,hm⟩:=hm;obtain⟨v2,w2,b2⟩:=U7 t2;obtain⟨a3,r3,e3,t3,hm⟩:=hm;obtain⟨v3,w3,b3⟩:=A0 t3;obtain⟨a4,r4,e4,t4,hm⟩:=hm;obtain⟨v4,w4,b4⟩:=Ks t4;have e5:r4=[]:=hm;subst w0 w1 w2 w3 w4;refine⟨⟨v0,v1,v2,v3,v4⟩,?_,b0,b1,b2,b3,b4⟩;rw[e0,e1,e2,e3,e4,e5];rfl
def PF(B:Nat)(xs:List Tbl):Prop:=xs.length<=B/\∀x∈xs,Hz B x
theorem Z8s{B n:Nat}{ds:List D}(h:ZM prog B n 22 ds):∃v:List Tbl,ds=[.sl (v.map Tbl.enc)]/\PF B v:=by
 obtain⟨m,xs,rfl,hl,hx⟩:=Uj Tryz.underlying22 h;obtain⟨vs,rfl,h1,h2⟩:=VZ (enc:=Tbl.enc) (S:=λx=>Hz B x) λx aa=>Pa (hx x aa);exact⟨vs,rfl,by simpa using hl,h2⟩
def PE(B:Nat)(xs:List Fk):Prop:=xs.length<=B/\∀x∈xs,Hx B x
theorem Z8r{B n:Nat}{ds:List D}(h:ZM prog B n 23 ds):∃v:List Fk,ds=[.sl (v.map Fk.enc)]/\PE B v:=by
 obtain⟨m,xs,rfl,hl,hx⟩:=Uj Tryz.underlying23 h;obtain⟨vs,rfl,h1,h2⟩:=VZ (enc:=Fk.enc) (S:=λx=>Hx B x) λx aa=>P7 (hx x aa);exact⟨vs,rfl,by simpa using hl,h2⟩
def PD(B:Nat)(xs:List Cons):Prop:=xs.length<=B/\∀x∈xs,Hy B x
theorem Z8q{B n:Nat}{ds:List D}(h:ZM prog B n 24 ds):∃v:List Cons,ds=[.sl (v.map Cons.enc)]/\PD B v:=by
 obtain⟨m,xs,rfl,hl,hx⟩:=Uj Tryz.underlying24 h;obtain⟨vs,rfl,h1,h2⟩:=VZ (enc:=Cons.enc) (S:=λx=>Hy B x) λx aa=>P8 (hx x aa);exact⟨vs,rfl,by simpa using hl,h2⟩
def PC(B:Nat)(x:Sch):Prop:=PF B x.tables/\PE B x.fks/\PD B x.cons
theorem Z8p{B n:Nat}{ds:List D}(h:ZM prog B n 26 ds):∃v:Sch,ds=v.enc/\PC B v:=by obtain⟨m,hm⟩:=Ut Tryz.underlying26 h;obtain⟨a0,r0,e0,t0,hm⟩:=hm;obtain⟨v0,w0,b0⟩:=Z8s t0;obtain⟨a1,r1,e1,t1,hm⟩:=hm;obtain⟨v1,w1,b1⟩:=Z8r t1;obtain⟨a2,r2,e2,t2,hm⟩:=hm;obtain⟨v2,w2,b2⟩:=Z8q t2;have e3:r2=[]:=hm;subst w0 w1 w2;refine⟨⟨v0,v1,v2⟩,?_,b0,b1,b2⟩;rw[e0,e1,e2,e3];rfl
def KG(B:Nat)(x:Stp):Prop:=True/\True/\True/\True/\True/\True/\HW B x.cols/\True/\Fv B x.value/\Hz B x.newTable/\Hy B x.cons/\Hx B x.fk
theorem Z7o{B n:Nat}{ds:List D}(h:ZM prog B n 122 ds):∃v:Stp,ds=v.enc/\KG B v:=by obtain⟨m,hm⟩:=Ut Tryz.underlying122 h;obtain⟨a0,r0,e0,t0,hm⟩:=hm;obtain⟨v0,w0,b0⟩:=A0 t0;obtain⟨a1,r1,e1,t1,hm⟩:=hm;obtain⟨v1,w1,b1⟩:=U7 t1;obtain⟨a2,r2,e2,t2,hm⟩:=hm;obtain⟨v2,w2,b2⟩:=U7 t2;obtain⟨a3,r3,e3,t3,hm⟩:=hm;obtain⟨v3,w3,b3⟩:=U7 t3;obtain⟨a4,r4,e4,t4,hm⟩:=hm;obtain⟨v4,w4,b4⟩:=U7 t4;obtain⟨a5,r5,e5,t5,hm⟩:=hm;obtain⟨v5,w5,b5⟩:=A0 t5;obtain⟨a6,r6,e6,t6,hm⟩:=hm;obtain⟨v6,w6,b6⟩:=KD t6;obtain⟨a7,r7,e7,t7,hm⟩:=hm;obtain⟨v7,w7,b7⟩:=U7 t7;obtain⟨a8,r8,e8,t8,hm⟩:=hm;obtain⟨v8,w8,b8⟩:=Ks t8;obtain⟨a9,r9,e9,t9,hm⟩:=hm;obtain⟨v9,w9,b9⟩:=Pa t9;obtain⟨ap,am,ah,t10,hm⟩:=hm;obtain⟨ab,ag,af⟩:=P8 t10;obtain⟨al,ak,aa,t11,hm⟩:=hm;obtain⟨ad,ac,ae⟩:=P7 t11;have aj:ak=[]:=hm;subst w0 w1 w2 w3 w4 w5 w6 w7 w8 w9 ag ac;refine⟨⟨v0,v1,v2,v3,v4,v5,v6,v7,v8,v9,ab,ad⟩,?_,b0,b1,b2,b3,b4,b5,b6,b7,b8,b9,af,ae⟩;rw[e0,e1,e2,e3,e4,e5,e6,e7,e8,e9,ah,aa,aj];rfl
def Px(B:Nat)(xs:List Stp):Prop:=xs.length<=B/\∀x∈xs,KG B x
theorem Z8f{B n:Nat}{ds:List D}(h:ZM prog B n 88 ds):∃v:List Stp,ds=[.sl (v.map Stp.enc)]/\Px B v:=by
 obtain⟨m,xs,rfl,hl,hx⟩:=Uj Tryz.underlying88 h;obtain⟨vs,rfl,h1,h2⟩:=VZ (enc:=Stp.enc) (S:=λx=>KG B x) λx aa=>Z7o (hx x aa);exact⟨vs,rfl,by simpa using hl,h2⟩
def KM(B:Nat)(x:Edg):Prop:=True/\Px B x.script
theorem Z8e{B n:Nat}{ds:List D}(h:ZM prog B n 90 ds):∃v:Edg,ds=v.enc/\KM B v:=by obtain⟨m,hm⟩:=Ut Tryz.underlying90 h;obtain⟨a0,r0,e0,t0,hm⟩:=hm;obtain⟨v0,w0,b0⟩:=A0 t0;obtain⟨a1,r1,e1,t1,hm⟩:=hm;obtain⟨v1,w1,b1⟩:=Z8f t1;have e2:r1=[]:=hm;subst w0 w1;refine⟨⟨v0,v1⟩,?_,b0,b1⟩;rw[e0,e1,e2];rfl
def PB(B:Nat)(xs:List Edg):Prop:=xs.length<=B/\∀x∈xs,KM B x
theorem Z8o{B n:Nat}{ds:List D}(h:ZM prog B n 27 ds):∃v:List Edg,ds=[.sl (v.map Edg.enc)]/\PB B v:=by
 obtain⟨m,xs,rfl,hl,hx⟩:=Uj Tryz.underlying27 h;obtain⟨vs,rfl,h1,h2⟩:=VZ (enc:=Edg.enc) (S:=λx=>KM B x) λx aa=>Z8e (hx x aa);exact⟨vs,rfl,by simpa using hl,h2⟩
def PA(B:Nat)(x:Gr):Prop:=PC B x.base/\PB B x.edges
theorem Z8n{B n:Nat}{ds:List D}(h:ZM prog B n 29 ds):∃v:Gr,ds=v.enc/\PA B v:=by obtain⟨m,hm⟩:=Ut Tryz.underlying29 h;obtain⟨a0,r0,e0,t0,hm⟩:=hm;obtain⟨v0,w0,b0⟩:=Z8p t0;obtain⟨a1,r1,e1,t1,hm⟩:=hm;obtain⟨v1,w1,b1⟩:=Z8o t1;have e2:r1=[]:=hm;subst w0 w1;refine⟨⟨v0,v1⟩,?_,b0,b1⟩;rw[e0,e1,e2];rfl
def FD(B:Nat)(xs:List GV):Prop:=xs.length<=B/\∀x∈xs,Fv B x
theorem KE{B n:Nat}{ds:List D}(h:ZM prog B n 74 ds):∃v:List GV,ds=[.sl (v.map GV.enc)]/\FD B v:=by
 obtain⟨m,xs,rfl,hl,hx⟩:=Uj Tryz.underlying74 h;obtain⟨vs,rfl,h1,h2⟩:=VZ (enc:=GV.enc) (S:=λx=>Fv B x) λx aa=>Ks (hx x aa);exact⟨vs,rfl,by simpa using hl,h2⟩
def Py(B:Nat)(xs:List (List GV)):Prop:=xs.length<=B/\∀x∈xs,FD B x
theorem Z8i{B n:Nat}{ds:List D}(h:ZM prog B n 60 ds):∃v:List (List GV),ds=[.sl (v.map (Z6 GV.enc))]/\Py B v:=by
 obtain⟨m,xs,rfl,hl,hx⟩:=Uj Tryz.underlying60 h;obtain⟨vs,rfl,h1,h2⟩:=VZ (enc:=(Z6 GV.enc)) (S:=λx=>FD B x) λx aa=>KE (hx x aa);exact⟨vs,rfl,by simpa using hl,h2⟩
def KO(B:Nat)(x:Rel):Prop:=True/\Py B x.rows
theorem Z8h{B n:Nat}{ds:List D}(h:ZM prog B n 62 ds):∃v:Rel,ds=v.enc/\KO B v:=by obtain⟨m,hm⟩:=Ut Tryz.underlying62 h;obtain⟨a0,r0,e0,t0,hm⟩:=hm;obtain⟨v0,w0,b0⟩:=U7 t0;obtain⟨a1,r1,e1,t1,hm⟩:=hm;obtain⟨v1,w1,b1⟩:=Z8i t1;have e2:r1=[]:=hm;subst w0 w1;refine⟨⟨v0,v1⟩,?_,b0,b1⟩;rw[e0,e1,e2];rfl
def KP(B:Nat)(xs:List Rel):Prop:=xs.length<=B/\∀x∈xs,KO B x
theorem Z8j{B n:Nat}{ds:List D}(h:ZM prog B n 45 ds):∃v:List Rel,ds=[.sl (v.map Rel.enc)]/\KP B v:=by
 obtain⟨m,xs,rfl,hl,hx⟩:=Uj Tryz.underlying45 h;obtain⟨vs,rfl,h1,h2⟩:=VZ (enc:=Rel.enc) (S:=λx=>KO B x) λx aa=>Z8h (hx x aa);exact⟨vs,rfl,by simpa using hl,h2⟩
def HY(B:Nat)(xs:List (List Rel)):Prop:=xs.length<=B/\∀x∈xs,KP B x
theorem Pm{B n:Nat}{ds:List D}(h:ZM prog B n 30 ds):∃v:List (List Rel),ds=[.sl (v.map (Z6 Rel.enc))]/\HY B v:=by
 obtain⟨m,xs,rfl,hl,hx⟩:=Uj Tryz.underlying30 h;obtain⟨vs,rfl,h1,h2⟩:=VZ (enc:=(Z6 Rel.enc)) (S:=λx=>KP B x) λx aa=>Z8j (hx x aa);exact⟨vs,rfl,by simpa using hl,h2⟩
def Pz(B:Nat)(xs:List (List (List Rel))):Prop:=xs.length<=B/\∀x∈xs,HY B x
theorem Z8m{B n:Nat}{ds:List D}(h:ZM prog B n 31 ds):∃v:List (List (List Rel)),ds=[.sl (v.map (Z6 (Z6 Rel.enc)))]/\Pz B v:=by
 obtain⟨m,xs,rfl,hl,hx⟩:=Uj Tryz.underlying31 h;obtain⟨vs,rfl,h1,h2⟩:=VZ (enc:=(Z6 (Z6 Rel.enc))) (S:=λx=>HY B x) λx aa=>Pm (hx x aa);exact⟨vs,rfl,by simpa using hl,h2⟩
def Z91(B:Nat)(x:Db):Prop:=HY B x.insts/\Pz B x.comps
theorem Z8l{B n:Nat}{ds:List D}(h:ZM prog B n 33 ds):∃v:Db,ds=v.enc/\Z91 B v:=by obtain⟨m,hm⟩:=Ut Tryz.underlying33 h;obtain⟨a0,r0,e0,t0,hm⟩:=hm;obtain⟨v0,w0,b0⟩:=Pm t0;obtain⟨a1,r1,e1,t1,hm⟩:=hm;obtain⟨v1,w1,b1⟩:=Z8m t1;have e2:r1=[]:=hm;subst w0 w1;refine⟨⟨v0,v1⟩,?_,b0,b1⟩;rw[e0,e1,e2];rfl
theorem EI{P:Program}{w:World}:∀{l:List (String×DataW Unit)} {ps:List MemPlace},DataW.LaidVars P w l ps->∀n d,(n,d)∈l->
  ∃g t cs aa p,P.globalNamed n=some g/\(P.globals[g]?).map (·.type)=some t/\w.var? P n=some cs/\DataW.trod (λ_=>()) P w 0 (λ_=>true) false aa t cs.toList=some (d,p)
 |[],_,_,_,_,hm=>by cases hm
 |(n',d')::r,ps,h,n,d,hm=>by obtain⟨g,t,cs,aa,p,q,h1,h2,h3,h4,h5,_⟩:=h;rcases Y8.1 hm with e|e;cases e;exact⟨g,t,cs,aa,p,h1,h2,h3,h4⟩;exact EI h5 n d e
theorem GO{P:Program}{w:World}{n:String}{g:Nat}{cs:Array Value}(hg:P.globalNamed n=some g)(h:w.var? P n=some cs):∃T l,w.heap[g]?=some (.cells cs T l):=by unfold World.var? at h;rw[hg] at h;simp only[Option.bind_some] at h;split at h;cases h;exact⟨_,_,by assumption⟩;cases h
theorem MO{w:World}{g:Nat}{v:Value}{T:TypeId}{l:Nat×Nat}{cs:Array Value}(h:w.heap[g]?=some (.cells cs T l))(hc:cs.toList=[v]):w.cell? ⟨g,0,none⟩=some v:=by
 have:cs[0]?=some v:=by rw[<-Array.getElem?_toList,hc];rfl
 unfold World.cell?;simp[h,this]
theorem C3{α:Type}{x:Option α}{a b:α}(h:x=some a)(k:x=some b):b=a:=Option.some.inj (k.symm.trans h)
theorem Z7i{W:World}{l:List (String×DataW Unit)}(hl:l=Proofs.YtbcejndfbklikaaGreatDoor.Rows.databaseRejectionIsFirstUptoRow.laid)(hL:laidMetH prog l W)(aa:W.ShapedOpen prog):AC W:=by
 subst hl;rw[MakeChecks.laidMetH_plain _ _ _ kR] at hL;obtain⟨_,hv,_⟩:=hL;obtain⟨ga,ta,ca,_,_,a1,_,a3,_⟩:=EI hv _ _ (.tail _ (.head _));obtain rfl:=C3 (a:=5) kR a1;obtain⟨Ta,la,a5⟩:=GO a1 a3;obtain⟨gb,tb,cb,fb,pb,b1,b2,b3,b4⟩:=EI hv _ _ (.tail _ (.tail _ (.head _)));obtain rfl:=C3 (a:=1) kR b1;obtain rfl:=C3 (a:=297) kR b2;obtain⟨Tb,lb,b5⟩:=GO b1 b3;have hb:=Lib.cells_of_tab (zs:=Lib.pow10Tab) Tryz.underlying297 Tryz.underlying290 kR kR b4;obtain⟨gc,tc,cc,fc,pc,c1,c2,c3,c4⟩:=EI hv _ _ (.tail _ (.tail _ (.tail _ (.tail _ (.head _)))));obtain rfl:=C3 (a:=2) kR c1;obtain rfl:=C3 (a:=285) kR c2;obtain⟨Tc,lc,c5⟩:=GO c1 c3;obtain⟨_,uc,vc,hc,_⟩:=iface_of_trod Tryz.underlying285 c4;obtain⟨gd,td,cd,fd,pd,d1,d2,d3,d4⟩:=EI hv _ _ (.tail _ (.tail _ (.tail _ (.head _))));obtain rfl:=C3 (a:=3) kR d1;obtain rfl:=C3 (a:=285) kR d2;obtain⟨Td,ld,d5⟩:=GO d1 d3;obtain⟨_,ud,vd,hd,_⟩:=iface_of_trod Tryz.underlying285 d4;obtain⟨m,hm⟩:=cell_of_shapedOpen_int (P:=prog) (g:=0) (t:=3) (zero:=#[.int .i64 0]) aa (of_decide_eq_true kR) kR rfl kR kR Tryz.underlying3;have ab:6<=W.heap.size:=by
  have:=(YF.1 a5).1
  have:=(YF.1 c5).1
  have:=(YF.1 d5).1
  omega
 refine⟨ab,⟨Tb,lb,?_⟩,⟨uc,vc,MO c5 hc⟩,⟨ud,vd,MO d5 hd⟩,⟨m,hm⟩⟩;rw[b5,<-hb]
end
end Go.Am
namespace Go.Proofs.YtbcejndfbklikaaGreatDoor.databaseEmptyWrite
section
open Go Go.Am Go.ChangeShapes Go.WideShapes Go.ChangeAt Go.RowKit
theorem own:ownKnob Tryz.prog.godebug=none:=kR
theorem laid:laidOutB Tryz.prog=true:=kR
def Z81:List TypeId:=[29,26,22,100,9,97,113,3,4,98,23,120,24,118,115,27,90,88,122,33,30,45,62,60,74,31]
theorem H2:P0 Tryz.prog Z81=true:=kR
theorem Z7y{g:Gr}(h:PA 1048576 g):∀e∈g.edges,∀x∈e.script,Uo x:=by intro e he x hx;have h1:=(h.2.2 e he).2.2 x hx;obtain⟨_,_,_,_,_,_,hc,_,_,ht,_,hf⟩:=h1;exact⟨hc.1,ht.2.1.1,ht.2.2.1,hf.2.1.1⟩
theorem NZ:∀(l:List (List (List Rel))),l.flatten.length<=UD (l.map (Z6 (Z6 Rel.enc)))
 |[]=>by simp
 |y::l=>by have h1:=NZ l;have h2:=Js (y.map (Z6 Rel.enc));simp only[Yb,UD,Z6,Wt,Ci,Xp,Ye,Yi] at h2|-;omega
theorem Z92{db:Db}(k:Wt db.enc+1<=1048576):db.comps.flatten.length+db.insts.length<=2097152:=by have e1:=NZ db.comps;have e2:=Js (db.insts.map (Z6 Rel.enc));have e3:Wt db.enc=UD (db.insts.map (Z6 Rel.enc))+(UD (db.comps.map (Z6 (Z6 Rel.enc)))+0):=rfl;rw[Yi] at e2;omega
set_option maxRecDepth 100000 in
theorem Z4s(H:Type)(enc:TypeId×Value->H)(W:World)(ah:Nat)(args:Array Value)(ds gs:List (DataW H))(before:List MemPlace)
  (aa:∀(j:Nat) t v,Tryz.f5.params[j]?=some t->args[j]?=some v->Value.okWide Tryz.prog W .any ah t v)
  (hW:DataW.Whole enc Tryz.prog Tryz.f5.params.toList Rows.databaseEmptyWriteSpec.vars false W args.toList ds gs before)(hk:Rows.uptoSmall H (ds++gs)=true)(hL:laidMetH Tryz.prog Rows.databaseEmptyWriteUptoRow.laid W)(ba:W.ShapedOpen Tryz.prog):
  Calls Tryz.prog 5 args W λe W'=>∃v,e=.returned v/\Rows.databaseEmptyWriteSpec.post enc Tryz.prog Tryz.f5 false true false false W args v W':=by
 have a1:=hW;have hlt:=hW.lt;obtain⟨p,q,aw,hV,rfl,bl,bj⟩:=hW;have hA:DataW.TrodAll enc Tryz.prog W 0 (λ_=>true) true Tryz.f5.params.toList args.toList ds p:=aw;rw[Tryz.params5] at hA aa;obtain⟨v0,bk,d0,bf,p0,q0,ay,rfl,rfl,h0,r0⟩:=trodAll_cons hA;obtain⟨v1,be,d1,bi,p1,q1,rfl,rfl,rfl,h1,r1⟩:=trodAll_cons r0;obtain⟨v2,bg,d2,bm,p2,q2,rfl,rfl,rfl,h2,r2⟩:=trodAll_cons r1;obtain⟨rfl,rfl,rfl⟩:=trodAll_nil r2;obtain rfl:args=#[v0,v1,v2]:=by cases args;simp_all
 obtain⟨rfl,rfl⟩:=trodVars_none hV;have hb:=of_decide_eq_true hk;simp only[Ym,Rows.uptoBulkAll] at hb;obtain⟨cs0,rfl,_⟩:=okWide_struct Tryz.underlying29 (aa 0 29 v0 rfl rfl);obtain⟨ae,rfl,_⟩:=okWide_struct Tryz.underlying33 (aa 1 33 v1 rfl rfl);obtain⟨i2,rfl⟩:=okWide_int Tryz.underlying3 (aa 2 3 v2 rfl rfl);have ar:=h0;have ax:=h1;have au:=h2;obtain⟨n0,bc⟩:=h0;obtain⟨n1,aq⟩:=h1;obtain⟨n2,a8⟩:=h2;obtain⟨e0,aj,bd,hk0⟩:=GQ (B:=1048576) H2 dE n0 29 _ _ dE bc (by simp only;omega);have k0:Wt e0+1<=1048576:=by simp only at hk0;omega
 obtain⟨e1,ak,az,ag⟩:=GQ (B:=1048576) H2 dE n1 33 _ _ dE aq (by simp only;omega);have k1:Wt e1+1<=1048576:=by simp only at ag;omega
 obtain⟨e2,ap,a7,af⟩:=GQ (B:=1048576) H2 dE n2 3 _ _ dE a8 (by simp only;omega);have k2:Wt e2+1<=1048576:=by simp only at af;omega
 have kk:Wt e0+Wt e1+Wt e2<=1048576:=by simp only at hk0 ag af;omega
 obtain⟨x0,rfl,y0⟩:=Z8n bd;obtain⟨x1,rfl,y1⟩:=Z8l az;obtain⟨x2,rfl,y2⟩:=A0 a7;have hS:=(Zhj x0 x1 x2).h true (Zhr x0 x1 x2 (Z7y y0) (Z92 k1));refine(hS.2 W (cellsOf W) (λ_ _=>none) #[.agg cs0,.agg ae,.int .i64 i2] (Z7i rfl hL ba) (λ_ _ _ h=>h) (λ_ _ _ h=>by cases h) ?_).mono λe W' hpost=>?_;refine⟨rfl,λi a hi=>?_⟩
 match i with
 |0=>
   cases hi;refine⟨.agg cs0,rfl,cs0,rfl,by simpa[Value.cells] using aj.1,λj x hj=>?_⟩;obtain⟨u,ac,ad⟩:=aj.2 j x hj;exact⟨u,by simpa[Value.cells] using ac,ad⟩
 |1=>
   cases hi;refine⟨.agg ae,rfl,ae,rfl,by simpa[Value.cells] using ak.1,λj x hj=>?_⟩;obtain⟨u,ac,ad⟩:=ak.2 j x hj;exact⟨u,by simpa[Value.cells] using ac,ad⟩
 |2=>
   cases hi;obtain⟨u,ac,ad⟩:=ap.2 0 _ rfl;refine⟨.int .i64 i2,rfl,?_⟩
   have:u=.int .i64 i2:=by simpa[Value.cells] using ac.symm
   rw[<-this];exact ad
 |i+3=>simp at hi
 obtain⟨v,m',bh,rfl,_,_,_,ab,al,_⟩:=hpost;have hv:v=.bool true:=by cases al;rfl
 subst hv;refine⟨_,rfl,[d0,d1,d2],[],p0++(p1++(p2++[]))++[],[],p0++(p1++(p2++[])),[],a1,trodAll_mk1 (shut_bool Tryz.underlying4 true),?_,rfl,ab.frame _,λh=>by cases h⟩;have am:∀x∈p0,x.block<W.heap.size:=λx hx=>hlt x (by simp[hx]);have bb:∀x∈p1,x.block<W.heap.size:=λx hx=>hlt x (by simp[hx]);have hl2:∀x∈p2,x.block<W.heap.size:=λx hx=>hlt x (by simp[hx]);exact trodAll_cons_mk (Below.trod laid kR (of_decide_eq_true kR) ar ab am) (trodAll_cons_mk (Below.trod laid kR (of_decide_eq_true kR) ax ab bb) (trodAll_cons_mk (Below.trod laid kR (of_decide_eq_true kR) au ab hl2) trodAll_mk0))
theorem Z4k(os:Os):laidMet Tryz.prog Rows.databaseEmptyWriteUptoRow.laid ((World.laidAll Tryz.prog os Rows.databaseEmptyWriteUptoRow.laid).forCall (λ_ _=>0) ⟨#[],#[.agg #[.slice none 0 0,.slice none 0 0,.slice none 0 0,.slice none 0 0],.agg #[.slice none 0 0,.slice none 0 0],.int .i64 0],[]⟩).memory:=laidMet_laidAll _ kR kR
theorem Z80(os:Os){H:Type}(enc:TypeId×Value->H):∃places,DataW.whole enc Tryz.prog ((World.laidAll Tryz.prog os Rows.databaseEmptyWriteUptoRow.laid).forCall (λ_ _=>0) ⟨#[],#[.agg #[.slice none 0 0,.slice none 0 0,.slice none 0 0,.slice none 0 0],.agg #[.slice none 0 0,.slice none 0 0],.int .i64 0],[]⟩).memory Tryz.f5.params.toList Rows.databaseEmptyWriteSpec.vars false (#[.agg #[.slice none 0 0,.slice none 0 0,.slice none 0 0,.slice none 0 0],.agg #[.slice none 0 0,.slice none 0 0],.int .i64 0]:Array Value).toList 8=some ([.agg [.agg [.nil,.nil,.nil],.nil],.agg [.nil,.nil],.lit (.int .i64 0)],[],places):=⟨[],kR⟩
set_option maxRecDepth 100000 in
theorem lifted(os:Os)(started:os.Started)(H:Type)(enc:TypeId×Value->H)(F:Stop.Interp):
  ReturnsInHanded {} Tryz.checked os 5 .any ((Rows.OpenSpec.upto Rows.databaseEmptyWriteSpec).preRow enc Tryz.prog Tryz.f5 Rows.databaseEmptyWriteUptoRow.domain false Rows.databaseEmptyWriteUptoRow.laid) (((Rows.OpenSpec.upto Rows.databaseEmptyWriteSpec).at F).post enc Tryz.prog Tryz.f5 false true false false):=by
 obtain⟨places,hx⟩:=Z80 os enc;refine returnsInHanded_of_row (C:=Tryz.checked) (s:=Rows.OpenSpec.upto Rows.databaseEmptyWriteSpec) own started kR Tryz.func5
  (witness_row_atRef (enc:=enc) (C:=Tryz.checked) false (World.laidAll Tryz.prog os Rows.databaseEmptyWriteUptoRow.laid) #[.agg #[.slice none 0 0,.slice none 0 0,.slice none 0 0,.slice none 0 0],.agg #[.slice none 0 0,.slice none 0 0],.int .i64 0] (World.laidAll_os _ _ _) kR kR kR
   (OpenSpec.preRow_of_cond 8 hx kR (λk hk=>by cases hk;kernel_rfl) kR (Z4k os))) ?_
 intro W base args ds gs before hval hW _ hcond _ hL hsh _;exact Z4s H enc W base args ds gs before hval hW (hcond _ rfl) hL hsh
theorem Z8c:(Rows.databaseEmptyWriteUptoRow.inPlace==Tryz.prog.inPlace 5)=true:=kR
theorem Z8b:(Rows.databaseEmptyWriteUptoRow.unfollowed==Tryz.prog.unfollowed 5)=true:=kR
theorem Z8a:(Rows.databaseEmptyWriteUptoRow.recurses==Tryz.prog.recurses 5)=true:=kR
theorem Z89:(Rows.databaseEmptyWriteUptoRow.named==Tryz.prog.varsNamed 5)=true:=kR
theorem Z88:(Rows.databaseEmptyWriteUptoRow.plainKeys==Tryz.prog.plainKeys)=true:=kR
theorem Z87:Tryz.prog.stopsHeard=true:=kR
theorem Z86:Tryz.prog.mayEnter=true:=kR
theorem Z85:(Rows.databaseEmptyWriteUptoRow.lifted==Tryz.prog.liftsFinal)=true:=kR
theorem Z84:(Tryz.prog.make==some Rows.databaseEmptyWriteUptoRow.make)=true:=kR
theorem Z7n:mapsRowed Tryz.prog=true:=kR
theorem Z7m:Rows.databaseEmptyWriteUptoRow.wf (OpenSpec.ofChange (Rows.OpenSpec.upto Rows.databaseEmptyWriteSpec).bare)=true:=kR
theorem Z7l:laidOutB Tryz.prog=true:=kR
theorem Z7k:namedTie Tryz.prog Rows.databaseEmptyWriteUptoRow.named (Rows.OpenSpec.upto Rows.databaseEmptyWriteSpec).bare.vars=true:=kR
theorem Z7j:Tryz.pinned.checked.prog.funcNamed Rows.databaseEmptyWriteUptoRow.func=some 5:=kR
set_option maxRecDepth 100000 in
theorem Z7r:joinedFacts Tryz.prog 5 Tryz.f5 (Rows.OpenSpec.upto Rows.databaseEmptyWriteSpec).bare Rows.databaseEmptyWriteUptoRow=true:=by
 unfold joinedFacts;rw[Z8c,Z8b,Z8a,Z89,Z88,Z87,Z86,Z85,Z84,Z7n,Z7m,Z7l,Z7k]
 kernel_rfl
theorem Z8w:Rows.DatabaseEmptyWriteUptoSaid:=
 OpenClaim.holds_of_cond 5 Tryz.f5 rfl rfl rfl rfl rfl rfl rfl ⟨rfl,rfl,rfl,rfl,rfl⟩ rfl rfl rfl rfl rfl Z7j Tryz.func5 Z7r
  (of_decide_eq_true kR) (by unfold Func.isWrapper;first|(rw[if_pos (by decide+kernel)];kernel_rfl)|(rw[if_neg (by decide+kernel)];exact⟨rfl,rfl⟩))
  (λos started H enc _ F=>by rw[OpenClaim.pre_eq_preRow];exact lifted os started H enc F)
theorem Z7f(f:FuncId)(fn:Func)(hf:Tryz.pinned.checked.prog.funcNamed Rows.databaseEmptyWriteUptoRow.func=some f)(aa:Tryz.pinned.checked.prog.funcs[f]?=some fn):
  true=Tryz.pinned.checked.prog.looks []/\∀(j:Nat) t,fn.params[j]?=some t->Tryz.pinned.checked.prog.wantsStandIn t=false:=by
 obtain rfl:f=5:=Option.some.inj ((kR:Tryz.prog.funcNamed Rows.databaseEmptyWriteUptoRow.func=some 5).symm.trans hf)|>.symm;obtain rfl:fn=Tryz.f5:=(Option.some.inj (Tryz.func5.symm.trans aa)).symm;refine⟨kR,λj t ht=>?_⟩;rw[Tryz.params5] at ht;have hm:t∈[29,33,3]:=by simpa using Array.mem_of_getElem? ht
 have hall:([29,33,3].all λu=>!Tryz.prog.wantsStandIn u)=true:=kR;exact(show Tryz.prog.wantsStandIn t=false by simpa using YW.1 hall t hm)
theorem Zg3:Rows.DatabaseEmptyWriteUptoCardSaid:=
 Claim7.holds_tied_plain_at .later [] _ _ _ _ Z8w (λ_ h=>by cases h) kR (λ_ h=>by cases h) databaseEmptyWriteUpto_row_tie rfl ⟨rfl,rfl⟩ kR rfl Z7f kR
end
end Go.Proofs.YtbcejndfbklikaaGreatDoor.databaseEmptyWrite
