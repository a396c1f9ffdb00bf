/- joined by a program out of 42 texts -/
import Derived.Test.YtbledgpconnopaaGreatDoorK3
import Derived.Lib.Overlaps
set_option linter.unusedVariables false
set_option linter.unusedSimpArgs false
set_option maxRecDepth 20000
open Go Go.Proofs
open Go.Proofs.Tryz(prog)
open ByteArray(empty)
namespace Go.Am
section
def O6(n:Int)(step:Stp)(k:Nat){ρ:Type}(j:Nat)(S:Sch)(next:Sch->Option ρ):Option ρ:=
 Z7 S.fks k λf=>Z7 f.cols j λc=>Z1 (BN c n step) λv=>next {S with fks:=S.fks.set k ⟨f.table,f.cols.set j v,f.ref⟩}
def O5(T:Tbl)(n:Int)(step:Stp)(k:Nat)(S:Sch)(next:Sch->Option (Sch×Int)):Option (Sch×Int):=
 Z7 S.fks k λf=>bif !(strEq f.table T.name) then next S else
 Z1 (BT f.cols step.cols) λo=>bif o==1 then some (S,10) else bif o==2 then WI (O6 n step k) next f.cols.length 0 {S with fks:=S.fks.set k ⟨step.other,f.cols,f.ref⟩} else next S
def O4(T:Tbl)(n:Int)(step:Stp)(k:Nat)(S:Sch)(next:Sch->Option (Sch×Int)):Option (Sch×Int):=
 Z7 S.cons k λc=>bif !(strEq c.table T.name) then next S else
 Z1 (FU c) λcc=>Z1 (BT cc step.cols) λo=>bif o==1 then some (S,11) else bif o==2 then
  Z1 (BN c.left n step) λv=>bif decide (0<=c.right) then Z1 (BN c.right n step) λw=>next {S with cons:=S.cons.set k {c with table:=step.other,left:=v,right:=w}}
   else next {S with cons:=S.cons.set k {c with table:=step.other,left:=v}}
 else next S
def K2(T:Tbl){ρ:Type}(_:Nat)(aa:Int)(Vs:List Col)(next:List Col->Option ρ):Option ρ:=Z7 T.cols aa λc=>next (Vs++[c])
def Jd(T:Tbl)(step:Stp)(i:Nat)(S:Sch)(aa:List Col):Option (Sch×Int):=
 Z1 (Cu S i step.cols) λS3=>Z1 (BP S3 ⟨step.other,aa,W3 T.pk.length⟩) λS4=>Zp (S4.fks.length<Zs) (some ({S4 with fks:=S4.fks++[⟨step.other,W3 T.pk.length,T.name⟩]},0))
def Ge(S:Sch)(i:Nat)(step:Stp):Option (Sch×Int):=
 Z7 S.tables i λT=>Z1 (DY S T step) λe=>bif e !=0 then some (S,e) else
 WI (O5 T T.pk.length step) (λS1=>WI (O4 T T.pk.length step) (λS2=>Zp (T.pk.length+step.cols.length<=Zs) (Zc (K2 T) (Jd T step i S2) (T.pk++step.cols) 0 [])) S1.cons.length 0 S1) S.fks.length 0 S
set_option maxHeartbeats 2000000 in
theorem QK(h l tc fc oc xs ta fa oa lx S S')(i:Nat)(step)(r:Int)(hm:Is (Ge S i step) (S',r))(s:Sc h l S tc fc oc ta fa oa)(hx:Ow h BE xs step.enc lx)(hd:∀k∈lx,k.1<h.ep/\k∉l::(ta++(fa++oa)))(K)
  (hk:WV h l (ta++(fa++oa)) S' (.i r) K):
  Z3 prog 152 [.p l,.i (i:Int),.agg xs] h K:=by
 obtain⟨x6,am,ar,ap,a6,a12,ix,hu,rfl,rfl,o6,_,_,_⟩:=hx.stp;obtain⟨T,hi,hm⟩:=hm.qG;obtain⟨ce,ij,hm⟩:=hm.bind;have hlt:=(Y0.1 hi).1;obtain⟨lt,c1,c2,B,tv⟩:=s.tbl hi;obtain⟨cap,rfl⟩:=tv.hd;have hb:=s.box;have bx:=tv.el.box;have r0:=tv.el.rd0 3 oM;simp at r0;have hne:=Zm (s.lt l sI);have g7:=Zm (s.lt lt (by simp[tv.tm]));have gy:∀h',Z0 h h' []->Zx h' [C.d (D.str T.name),c1,c2] T.enc:=λh' hs=>⟨.data rfl,tv.f1 h' hs,tv.f2 h' hs,trivial⟩;have ea:∀h',Z0 h h' (l::(ta++(fa++oa)))->Ow h' BE (Zf step x6 am ar ap) step.enc (a6++(a12++(ix++hu))):=λh' hs=>hx.frame λk hk=>hs.2 k (hd k hk).1 (hd k hk).2;refine Z3.qN Tryz.func152 rfl kR rfl rfl sI ?_;have iv:Zf step x6 am ar ap≠[]:=by simp[Zf]
 have c8:Z0 h (((h.qA (h.ep,80) (Zf step x6 am ar ap)).next.qA (h.ep+1,112) [C.d (D.str empty),C.nil,C.nil]).next.qA (h.ep+1,112) [C.d (D.str T.name),c1,c2]) []:=(((Z0.refl.qA (.inr (Y7 _))).next.qA (.inr sI)).next.qA (.inr sI));have e2:Zl 1 ((Zf step x6 am ar ap).drop 2)=some [.s step.other]:=by simp[Zf]
 have e6:Zl 1 ((Zf step x6 am ar ap).drop 6)=some [x6]:=by simp[Zf]
 have gw:Zl 24 (Zf step x6 am ar ap)=some (Zf step x6 am ar ap):=by simp[Zf]
 simp[hb,hlt,bx,r0,hne,g7,iv];generalize hX:(((h.qA (h.ep,80) (Zf step x6 am ar ap)).next.qA (h.ep+1,112) _).next.qA (h.ep+1,112) _)=HX at*;have fd:HX.box (h.ep,80)=some (Zf step x6 am ar ap):=by rw[<-hX];simp
 have fb:HX.box (h.ep+1,112)=some [C.d (D.str T.name),c1,c2]:=by rw[<-hX];simp
 have fj:h.ep+1<HX.ep:=by rw[<-hX];simp
 have s0:=s.frame c8;have gm:=s0.box;refine Z4.cu [0,1,2,3,4,5,6] (λe h'=>En e 206 [(0,.p l),(1,.i i),(5,.p (h.ep,80)),(7,.p (h.ep+1,112)),(8,.i ce)]/\Z0 HX h' []) ?_ ?_;simp[gm,fd,fb,gw];refine Za (Z3.qD (QQ S T step ce ij) ⟨.agg s0.frz,.agg (gy _ c8),.agg (ea _ (c8.mn)).frz,trivial⟩ rfl ?_);simp;exact⟨λ_ _ x=>x,Zb.of (by simp[Z0.refl.next])⟩;rintro e h1 ⟨hE,dd⟩;have dp:=c8.trans dd;have s1:=s.frame dp;have iw:=s1.box;have e3:h1.box (h.ep,80)=some (Zf step x6 am ar ap):=by rw[dd.2 _ (by simp<;>omega) sI];exact fd
 have dm:h1.box (h.ep+1,112)=some [C.d (D.str T.name),c1,c2]:=by rw[dd.2 _ (by simpa using fj) sI];exact fb
 simp[hE];cases hce0:ce !=0 with|true=>?_|false=>?_;simp only[hce0,cond_true] at hm;obtain⟨rfl,rfl⟩:=ZJ hm;simp[hE];exact hk _ _ s1.ows (dp.mn) (λk hk=>.inl hk);simp only[hce0,cond_false] at hm;simp[hE,dm];refine WQ tv.n2.1 ?_;have fx:=Zm (s1.lt l sI);simp(maxDischargeDepth:=12) [hE,fx,iw];refine WQ s1.len.2.1.1 ?_;simp[hE];have hz:Z0 h1 ((h1.qA (h1.ep,144) [C.i 0]).next.qA (h1.ep,144) [C.i T.pk.length]) []:=((Z0.refl.qA (.inr (Y7 _))).next).qA (.inr (Y7 _));generalize hX2:(h1.qA (h1.ep,144) [C.i 0]).next.qA (h1.ep,144) [C.i T.pk.length]=HB at hz|-;have gt:HB.box (h1.ep,144)=some [C.i T.pk.length]:=by rw[<-hX2];simp
 have bu:h1.ep<HB.ep:=by rw[<-hX2];simp
 have d6:=dp.trans hz;have sB:=s.frame d6;have fp:=Y3 fj dd.1;have ib:HB.box lt=some B:=by rw[d6.2 _ (s.lt lt (by simp[tv.tm])) sI];exact bx
 have fresh:∀k:Z2,h.ep<=k.1->k∉l::(ta++(fa++oa)):=λk hk h2=>by have:=s.lt k h2;omega
 have bb:=λk hk h2=>fresh k hk (Yc _ (X6 _ h2));have en:∀h',Z0 HB h' (fa++oa)->h'.box (h.ep,80)=some (Zf step x6 am ar ap)/\h'.box (h.ep+1,112)=some [C.d (D.str T.name),c1,c2]/\h'.box (h1.ep,144)=some [C.i T.pk.length]/\h'.box lt=some B:=λh' ab=>by
  refine⟨?_,?_,?_,?_⟩;rw[ab.2 _ (by simp<;>omega) (bb _ sI),hz.2 _ (by simp<;>omega) sI];exact e3;rw[ab.2 _ (by simp<;>omega) (bb _ sI),hz.2 _ (by simpa using fp) sI];exact dm;rw[ab.2 _ (by simpa using bu) (bb _ (by simp<;>omega))];exact gt;refine(ab.2 lt (sB.lt lt (by simp[tv.tm])) λh2=>?_).trans ib;have h6:=s.nd;simp only[Xm,Yg] at h6;exact h6.2.2.2 lt tv.tm lt h2 rfl
 have all:∀h',Z0 HB h' (fa++oa)->Z0 h h' (l::(ta++(fa++oa))):=λh' ab=>(d6.mn).trans (ab.mono λk hk=>Yc _ (X6 _ hk));have ef:=λh' ab=>(ea h' (all h' ab)).frz;have d5:=λh' ab=>(ef h' ab).2.2.2.2.2.2.1;have b6:∀h',Z0 HB h' (fa++oa)->VN h' ([Cap.lab (h1.ep,144),Cap.lab (h.ep,80)].map WX) (We [[.int .i64 T.pk.length],step.enc]):=λh' ab=>⟨.one (.ptr (en h' ab).2.2.1 (Zx.qL (ds:=[.int .i64 T.pk.length]))),.one (.ptr (en h' ab).1 (ef h' ab)),trivial⟩;refine Z4.count (N:=(S.fks.length:Int)) (λk S1 E h2=>Ek e E [(9,.p (h1.ep,144)),(10,.one (.fn 171 [.lab (h1.ep,144),.lab (h.ep,80)])),(43,.one fc),(44,.i S.fks.length),(45,.i k)] [0,1,5,7]/\S1.fks.length=S.fks.length/\S1.tables=S.tables/\Sc h2 l S1 (.mrow lt 0 S.tables.length cap) fc oc ta fa oa/\Z0 HB h2 (fa++oa)) (by simpa using hm) ⟨by simp[hE],rfl,rfl,sB,.refl⟩ ?_ ?_;rintro k S1 e h2 ⟨hF,dx,ck,s2,hs2⟩ hlt2 hm;have hE:=hF.an hE;replace hm:=Is.qG hm;obtain⟨f,hf,hm⟩:=hm;have ah:k<S.fks.length:=oM
 have aa:k<S1.fks.length:=oM;have dy:=s2.len.2.1.2;simp only[U4] at dy;have hw:IntKind.i64.wrap ((k:Int)+1)=(k:Int)+1:=Y5 _ oM;obtain⟨lf,cf,Bf,rfl,bz,gq⟩:=s2.fkH hf;obtain⟨dt,_,c1f,el,hcf,f0,_,-⟩:=s2.fkK bz hf;have q0:=el.rd0 3 oM;have q1:=el.rd 1 1 oM;simp at q0 q1;obtain⟨b5,b7,_,_⟩:=en h2 hs2;have gg:=Zm (s2.lt lf (by simp[dt]));have i8:=Y3 bu hs2.1;have e4:=Zm (l:=(h.ep,80)) (n:=h2.ep) (by simp<;>omega);have cv:=Zm (l:=(h.ep+1,112)) (by simp<;>omega);have al:Z0 h2 ((h2.qA (h2.ep,192) [C.d (D.str empty),C.nil,C.d (D.str empty)]).next.qA (h2.ep,192) [.s f.table,c1f,.s f.ref]) []:=((Z0.refl.qA (.inr (Y7 _))).next).qA (.inr (Y7 _));cases bc:strEq f.table T.name with|false=>?_|true=>?_;simp only[bc,Xr,cond_true] at hm;simp[hE,ah,aa,bz,q0,b7,cv,bc,hw];exact Ze.of S1 ⟨⟨by simp[hE],dx,ck,s2.frame al,hs2.trans (al.mn)⟩,hm⟩;simp only[bc,Xf,cond_false] at hm;obtain⟨o,ho,hm⟩:=hm.bind;simp(maxDischargeDepth:=12) [hE,ah,aa,bz,q0,b7,b5,e4,cv,bc,e6];have bi:=hs2.trans (al.mn);generalize hX4:(h2.qA (h2.ep,192) [C.d (D.str empty),C.nil,C.d (D.str empty)]).next.qA (h2.ep,192) [.s f.table,c1f,.s f.ref]=HZ at al bi|-;have fq:HZ.box (h2.ep,192)=some [.s f.table,c1f,.s f.ref]:=by rw[<-hX4];simp
 have e9:HZ.box lf=some Bf:=by rw[al.2 lf (s2.lt lf (by simp[dt])) sI];exact bz
 refine Za (Z3.qD (Lv f.cols step.cols o ho) ⟨.one (.frz (hcf _ al)),.one (.frz (d5 _ bi)),trivial⟩ rfl ?_);have df:=bi.next;have ee:=al.next;have s3:=s2.frame ee;have b1:=s3.box;cases bm:o==1 with|true=>?_|false=>?_;simp only[bm,cond_true] at hm;obtain⟨rfl,rfl⟩:=ZJ hm;simp[hE,bm];exact hk _ _ s3.ows (all _ df) (λk hk=>.inl hk);simp only[bm,cond_false] at hm;cases bd:o==2 with|false=>?_|true=>?_;simp only[bd,cond_false] at hm;simp[hE,bm,bd,hw];exact Ze.of S1 ⟨⟨by simp[hE],dx,ck,s3,df⟩,hm⟩;simp only[bd,cond_true] at hm;simp[hE,bm,bd];obtain⟨fl,_,_,_⟩:=en _ df;simp at fl b1;obtain⟨-,-,cy,g0,-,-,w3,-⟩:=s3.fkK (by simpa using e9) hf;obtain rfl:cy=c1f:=by
  have:=g0.rd 1 1 oM
  simp[q1] at this;exact this.symm
 refine Z4.cu [0,1,2,3,4,5,6,7,8,9] (λE h3=>Ek e E [(43,.one (.mrow lf 0 S1.fks.length cf)),(11,.i k),(12,.p (h2.ep,192))] [0,1,5,7,9,10,44,45]/\h3.box (h2.ep,192)=some [.s f.table,cy,.s f.ref]/\
  Sc h3 l {S1 with fks:=S1.fks.set k ⟨step.other,f.cols,f.ref⟩} (.mrow lt 0 S.tables.length cap) (.mrow lf 0 S1.fks.length cf) oc ta fa oa/\h3.box lf=some (Zg Bf (k*3) [.s step.other])/\Z0 HB h3 (fa++oa)) ?_ ?_
 simp[hE,aa,b1,fl,e9,e2];refine⟨oM,Zb.of ⟨by simp[hE],?_,w3 step.other,sI,df.qA (.inl (by simp[dt]))⟩⟩
 have:¬(h2.ep,192)=lf:=λhe=>by have:=gg h2.ep 192 (Y7 _);rw[<-he] at this;simp at this
 simp[this,fq];rintro e h3 ⟨hF,ir,s4,e8,bw⟩;have hE:=hF.an hE;have iy:=(s2.fkK bz hf).2.2.choose_spec.1.set (g:=0) (vs:=[.s step.other]) sI sI;have r4:Zl 1 ((Zg Bf (k*3) [.s step.other]).drop (k*3+1))=some [cy]:=by have e1:=(s2.fkK bz hf).2.2.choose_spec.1.rd 1 1 oM;simp[q1] at e1;have e2:=iy.rd 1 1 oM;simp at e2;rw[e2,e1]
 simp[hE,ir];refine WQ f0.1 ?_;simp[hE];refine Z4.count (N:=(f.cols.length:Int)) (s0:=({S1 with fks:=S1.fks.set k ⟨step.other,f.cols,f.ref⟩}:Sch)) (λj S2 E h4=>Ek e E [(74,.one cy),(75,.i (f.cols.length:Int)),(76,.i (j:Int))] [0,1,5,7,9,10,43,44,45,11]/\
  S2.fks.length=S.fks.length/\S2.tables=S.tables/\(∃f2,S2.fks[k]?=some f2/\f2.cols.length=f.cols.length)/\h4.box lf=some (Zg Bf (k*3) [.s step.other])/\Sc h4 l S2 (.mrow lt 0 S.tables.length cap) (.mrow lf 0 S1.fks.length cf) oc ta fa oa/\Z0 HB h4 (fa++oa)) (by simpa using hm) ⟨by simp[hE],by simpa using dx,ck,⟨⟨step.other,f.cols,f.ref⟩,by simp[aa],rfl⟩,e8,s4,bw⟩ ?_ ?_
 rintro j S2 e h4 ⟨hF,hl2,az,⟨f2,d0,dk⟩,dg,s3,hs3⟩ hltj hm;have hE:=hF.an hE;obtain⟨f3,em,hm⟩:=hm.qG;rw[d0] at em;cases em;obtain⟨v,hv,hm⟩:=hm.qG;obtain⟨v',ie,hm⟩:=hm.bind;have dq:j<f.cols.length:=oM
 have cp:j<f2.cols.length:=oM;have ex:=f0.2;simp only[U4] at ex;have hwj:IntKind.i64.wrap ((j:Int)+1)=(j:Int)+1:=Y5 _ oM;obtain⟨l2,cap2,B2,rfl,e0,fw,_,d7,r5,i1,_⟩:=s3.fkN dg d0 hv r4;have b1:=s3.box;simp[hE,dq,cp,d7,r5];refine Z4.cu [0,1,2,3,4,5,6,7,8,9,10,11,12,13] (λE h5=>Ek e E [(74,.one (.mrow l2 0 f2.cols.length cap2))] [0,1,5,7,9,10,43,44,45,11,75,76]/\
  h5.box lf=some (Zg Bf (k*3) [.s step.other])/\Sc h5 l {S2 with fks:=S2.fks.set k ⟨f2.table,f2.cols.set j v',f2.ref⟩} (.mrow lt 0 S.tables.length cap) (.mrow lf 0 S1.fks.length cf) oc ta fa oa/\Z0 HB h5 (fa++oa)) ?_ ?_
 simp[b1,hE,aa,dg,r4];refine Za (Z3.qD (It v T.pk.length step v' ie) ⟨.one (.frz (.data rfl)),b6 h4 hs3⟩ rfl ?_);simp[hE,cp,d7];refine⟨λ_ _ x=>x,oM,Zb.of ⟨by simp[hE],?_,?_,?_⟩⟩;simp[fw.symm,dg]
 have:=(s3.frame (Z0.refl.next:Z0 h4 h4.next [])).fkN (by simpa using dg) d0 hv r4
 obtain⟨jc,gn,B2',e1,k2,k3,k4,k5,k6,k7,k8⟩:=this;simp at e1;obtain⟨rfl,rfl⟩:=e1;simp only[JV,d7] at k5;cases k5;exact k8 v';exact(hs3.next).qA (.inl (by simp[e0]));rintro e jb ⟨hF,et,s5,ax⟩;have hE:=hF.an hE;simp[hE,hwj];have c6:k<S2.fks.length:=oM
 exact Ze.of ({S2 with fks:=S2.fks.set k ⟨f2.table,f2.cols.set j v',f2.ref⟩}:Sch) ⟨⟨by simp[hE],by simpa using hl2,az,⟨⟨f2.table,f2.cols.set j v',f2.ref⟩,by simp[c6],by simpa using dk⟩,et,s5,ax⟩,hm⟩;rintro j S2 e h4 ⟨hF,hl2,az,⟨f2,_,dk⟩,_,s3,hs3⟩ hge hm;have hE:=hF.an hE;have bo:¬j<f.cols.length:=oM
 simp[hE,bo,hw];exact Ze.of S2 ⟨⟨by simp[hE],hl2,az,s3,hs3⟩,hm⟩;rintro k S1 e h2 ⟨hF,_,ck,s2,hs2⟩ hge hm;have hE:=hF.an hE;have bo:¬k<S.fks.length:=oM
 have hb2:=s2.box;simp[hE,bo,hb2];refine WQ s2.len.2.2.1 ?_;simp[hE];refine Z4.count (N:=(S1.cons.length:Int)) (s0:=S1) (λk S2 E h3=>Ek e E [(99,.one oc),(100,.i (S1.cons.length:Int)),(101,.i (k:Int))] [0,1,5,7,9,10]/\S2.cons.length=S1.cons.length/\S2.tables=S.tables/\Sc h3 l S2 (.mrow lt 0 S.tables.length cap) fc oc ta fa oa/\Z0 HB h3 (fa++oa)) (by simpa using hm) ⟨by simp[hE],rfl,ck,s2,hs2⟩ ?_ ?_;rintro k S2 e h3 ⟨hF,da,az,s3,hs3⟩ hlt2 hm;have hE:=hF.an hE;replace hm:=Is.qG hm;obtain⟨c,hc,hm⟩:=hm;have ah:k<S1.cons.length:=oM
 have aa:k<S2.cons.length:=oM;have dy:=s3.len.2.2.2;simp only[U4] at dy;have hw:IntKind.i64.wrap ((k:Int)+1)=(k:Int)+1:=Y5 _ oM;obtain⟨lo,co,Bo,rfl,cz,gq⟩:=s3.wF hc;obtain⟨b8,_,el,-,-,-⟩:=s3.jT cz hc;have q0:=el.rd0 7 oM;simp at q0;obtain⟨b5,b7,_,_⟩:=en h3 hs3;have gf:=Zm (s3.lt lo (by simp[b8]));have di:h1.ep<h3.ep:=Y3 bu hs3.1;have e4:=Zm (l:=(h.ep,80)) (n:=h3.ep) (by simp<;>omega);have cv:=Zm (l:=(h.ep+1,112)) (n:=h3.ep) (by simp<;>omega);have al:Z0 h3 ((h3.qA (h3.ep,256) [C.d (D.str empty),C.i 0,C.d (D.str empty),C.i 0,C.i 0,C.i 0,C.d (D.str empty)]).next.qA (h3.ep,256) [C.d (D.str c.table),C.i c.left,C.d (D.str c.op),C.i c.right,C.i c.value.kind,C.i c.value.int,C.d (D.str c.value.text)]) []:=((Z0.refl.qA (.inr (Y7 _))).next).qA (.inr (Y7 _));cases bc:strEq c.table T.name with|false=>?_|true=>?_;simp only[bc,Xr,cond_true] at hm;simp[hE,ah,aa,cz,q0,b7,cv,bc,hw];exact Ze.of S2 ⟨⟨by simp[hE],da,az,s3.frame al,hs3.trans (al.mn)⟩,hm⟩;simp only[bc,Xf,cond_false] at hm;obtain⟨cc,b3,hm⟩:=hm.bind;obtain⟨o,ho,hm⟩:=hm.bind;simp(maxDischargeDepth:=12) [hE,ah,aa,cz,q0,b7,cv,bc];have bi:=hs3.trans (al.mn);generalize hX4:((h3.qA (h3.ep,256) [C.d (D.str empty),C.i 0,C.d (D.str empty),C.i 0,C.i 0,C.i 0,C.d (D.str empty)]).next.qA (h3.ep,256) [C.d (D.str c.table),C.i c.left,C.d (D.str c.op),C.i c.right,C.i c.value.kind,C.i c.value.int,C.d (D.str c.value.text)])=HZ at al bi|-;have cm:HZ.box (h3.ep,256)=some [C.d (D.str c.table),C.i c.left,C.d (D.str c.op),C.i c.right,C.i c.value.kind,C.i c.value.int,C.d (D.str c.value.text)]:=by rw[<-hX4];simp
 have d8:HZ.box lo=some Bo:=by rw[al.2 lo (s3.lt lo (by simp[b8])) sI];exact cz
 obtain⟨ec,-⟩:=en HZ bi;have bw:=bi.next.next;have dl:=al.next.next;refine Z4.cu [0,2,3,1,4] (λE h4=>Ek e E [(99,.one (.mrow lo 0 S2.cons.length co)),(15,.i (k:Int)),(16,.p (h3.ep,256)),(115,.i o)] [0,1,5,7,9,10,100,101]/\h4=HZ.next.next) ?_ ?_;simp[hE,cm,ec,e6];refine Zq (Qc c cc b3) sI ?_;simp[hE];refine⟨λ_ _ x=>x,?_⟩;refine Za (Z3.qD (Lv cc step.cols o ho) ⟨.one (.frz (.data rfl)),.one (.frz (d5 _ bi.next)),trivial⟩ rfl ?_);simp;exact⟨λ_ _ x=>x,Zb.of ⟨by simp[hE],rfl⟩⟩;rintro e h4 ⟨hF,rfl⟩;have hE:=hF.an hE;have s4:=s3.frame dl;have fy:=s4.box;simp at fy;simp[hE];cases bm:o==1 with|true=>?_|false=>?_;simp only[bm,cond_true] at hm;obtain⟨rfl,rfl⟩:=ZJ hm;simp[hE];exact hk _ _ s4.ows (all _ bw) (λk hk=>.inl hk);simp only[bm,cond_false] at hm;cases bd:o==2 with|false=>?_|true=>?_;simp only[bd,cond_false] at hm;simp[hE,bd,hw];exact Ze.of S2 ⟨⟨by simp[hE],da,az,s4,bw⟩,hm⟩;simp only[bd,cond_true] at hm;obtain⟨v,hv,hm⟩:=hm.bind;simp[hE,bd];obtain⟨-,-,-,w0,-,-⟩:=s4.jT (by simpa using d8) hc;have ig:({S2 with cons:=S2.cons.set k {c with table:=step.other}}:Sch).cons[k]?=some {c with table:=step.other}:=by simp[aa]
 refine Z4.cu [0,1,2,3,4,5,6,7,8,9,10,11,12,13,14,15,16,17,18,19,20,21] (λE h4=>Ek e E [] [0,1,5,7,9,10,99,100,101,15,16]/\h4.box (h3.ep,256)=some [C.d (D.str c.table),C.i c.left,C.d (D.str c.op),C.i c.right,C.i c.value.kind,C.i c.value.int,C.d (D.str c.value.text)]/\
  (∃B4,h4.box lo=some B4/\B4.length=Bo.length)/\Sc h4 l {S2 with cons:=S2.cons.set k {c with table:=step.other,left:=v}} (.mrow lt 0 S.tables.length cap) fc (.mrow lo 0 S2.cons.length co) ta fa oa/\Z0 HB h4 (fa++oa)) ?_ ?_
 simp[hE,fy,ec,cm,e2];refine Za (Z3.qD (It c.left T.pk.length step v hv) ⟨.one (.frz (.data rfl)),b6 _ bw⟩ rfl ?_);have sc:=s3.frame dl.next;obtain⟨-,-,-,g8,-,-⟩:=sc.jT (by simpa using d8) hc;obtain⟨-,-,-,-,gd,-⟩:=(g8 step.other).jT (B:=Zg Bo (k*7) [.s step.other]) sI ig;have dj:(Zg Bo (k*7) [C.d (D.str step.other)]).length=Bo.length:=Ui (by simp<;>omega);have ei:(Zg (Zg Bo (k*7) [C.d (D.str step.other)]) (k*7+1) [C.i v]).length=Bo.length:=by rw[Ui (by simp<;>omega),dj]
 have eo:¬(h3.ep,256)=lo:=λhe=>by have:=gf h3.ep 256 (Y7 _);rw[<-he] at this;simp at this
 simp[hE,aa,d8,dj];refine⟨λ_ _ x=>x,oM,oM,Zb.of ⟨by simp[hE],?_,⟨_,sI,ei⟩,?_,((bw.next).qA (.inl (by simp[b8]))).qA (.inl (by simp[b8]))⟩⟩;simp[eo,cm];simpa using gd v;rintro e h4 ⟨hF,d3,⟨B4,ew,i6⟩,s6,dv⟩;have hE:=hF.an hE;have gp:({S2 with cons:=S2.cons.set k {c with table:=step.other,left:=v}}:Sch).cons[k]?=some {c with table:=step.other,left:=v}:=by simp[aa]
 cases hr:decide (0<=c.right) with|false=>?_|true=>?_;simp only[hr,cond_false] at hm;simp at hr;have f8:¬0<=c.right:=oM
 simp[hE,d3,f8,hw];exact Ze.of ({S2 with cons:=S2.cons.set k {c with table:=step.other,left:=v}}:Sch) ⟨⟨by simp[hE],by simpa using da,az,s6,dv⟩,hm⟩;simp only[hr,cond_true] at hm;simp at hr;obtain⟨w,gz,hm⟩:=hm.bind;have g9:=s6.box;simp[hE,d3,hr];refine Z4.cu [0,1,2,3,4,5,6,7,8,9,10,11] (λE h4=>Ek e E [] [0,1,5,7,9,10,99,100,101]/\
  Sc h4 l {S2 with cons:=S2.cons.set k {c with table:=step.other,left:=v,right:=w}} (.mrow lt 0 S.tables.length cap) fc (.mrow lo 0 S2.cons.length co) ta fa oa/\Z0 HB h4 (fa++oa)) ?_ ?_
 simp[hE,g9,d3];refine Za (Z3.qD (It c.right T.pk.length step w gz) ⟨.one (.frz (.data rfl)),b6 _ dv⟩ rfl ?_);simp[hE,aa,ew];refine⟨λ_ _ x=>x,oM,Zb.of ⟨by simp[hE],?_,dv.next.qA (.inl (by simp[b8]))⟩⟩
 have:=((s6.frame (Z0.refl.next:Z0 h4 h4.next [])).jT (by simpa using ew) gp).2.2.2.2.2 w
 simpa using this;rintro e h4 ⟨hF,s7,f6⟩;have hE:=hF.an hE;simp[hE,hw];exact Ze.of ({S2 with cons:=S2.cons.set k {c with table:=step.other,left:=v,right:=w}}:Sch) ⟨⟨by simp[hE],by simpa using da,az,s7,f6⟩,hm⟩;rintro k S2 e h3 ⟨hF,_,az,s3,hs3⟩ hge hm;have hE:=hF.an hE;have bo:¬k<S1.cons.length:=oM
 obtain⟨hlim,hm⟩:=hm.chk;obtain⟨b5,b7,b9,_⟩:=en h3 hs3;have di:h1.ep<h3.ep:=Y3 bu hs3.1;simp[hE,bo];have bg:T.pk.length<=Zs:=tv.n2.2;have n5:=Zm (l:=(h.ep,80)) (n:=h3.ep) (by simp<;>omega);have n9:=Zm (l:=(h1.ep,144)) (n:=h3.ep) (by simpa using di);refine Z4.cut (Plan.qB [0,1,2] (.two 3 5 (Plan.qB [] (.two 4 5 (Plan.qB [5,6] .done) (Plan.qB [4,6] .done))) (Plan.qB [3,4,6] .done))) follows kR (λE h4=>Ek e E [] [0,1,5,7,9]/\Z0 h3 h4 []/\∃(p17:Z2) (pc:C),E.get 17=.p p17/\h4.box p17=some [.s step.other,.nil,pc]/\(h3.ep<=p17.1/\p17.1<h4.ep)/\MR h4 1 pc ((W3 T.pk.length).map λc=>(Zd c).map C.d)/\∀k∈labs pc,h3.ep<=k.1/\k.1<h4.ep/\k≠p17) ?_ ?_
 .simp(maxDischargeDepth:=12) [hE,b5,b9,e2];refine⟨?_,?_⟩
  .refine Za (Ea _ T.pk.length bg _ (λpc h4 mp ay ag ba=>?_));simp[hE];have bk:=ay.1;have cn:∀k∈labs pc,k≠(h4.ep,272):=λk hk he=>by have:=(ag k hk).2;rw[he] at this;simp at this
   refine⟨ba,?_⟩
   repeat' (with_reducible apply And.intro)
   all_goals
    refine Zb.of ⟨by simp[hE],((ay.qA (.inr (by simpa using bk))).next.qA (.inr (by simpa using bk))),(h4.ep,272),pc,sI,sI,⟨by simpa using bk,sI⟩,mp.frame λk hk=>by simp[cn k hk],λk hk=>⟨(ag k hk).1,by have:=(ag k hk).2;simp<;>omega,cn k hk⟩⟩
  have gh:Z0 h3 ((h3.qA (h3.ep,272) [C.d (D.str empty),C.nil,C.nil]).next) []:=(Z0.refl.qA (.inr (Y7 _))).next;refine Za (Ea _ T.pk.length bg _ (λpc h4 mp ay ag ba=>?_));have bk:=ay.1;simp at bk;have cn:∀k∈labs pc,k≠(h3.ep,272):=λk hk he=>by have:=(ag k hk).1;rw[he] at this;exact absurd (show h3.ep+1<=h3.ep by simpa using this) oM
  have dz:h4.box (h3.ep,272)=some [C.d (D.str empty),C.nil,C.nil]:=ba _ _ sI;simp[hE,dz];refine⟨ba,?_⟩;refine Zb.of ⟨by simp[hE],((gh.trans ay).qA (.inr (Y7 _))),(h3.ep,272),pc,sI,sI,⟨sI,by simp<;>omega⟩,mp.frame λk hk=>by simp[cn k hk],λk hk=>⟨by have:=(ag k hk).1;simp at this;omega,by simpa using(ag k hk).2,cn k hk⟩⟩
 rintro e h4 ⟨hF,ay,p17,pc,aw,dz,a7,mp,ag⟩;have hE:=hF.an hE;have cq:=hs3.trans (ay.mn);obtain⟨gu,gx,_,_⟩:=en h4 cq;have s4:=s3.frame ay;have c6:S2.tables[i]?=some T:=by rw[az];exact hi
 have gb:∀h',Z0 h4 h' []->TblV h' l S2 (.mrow lt 0 S.tables.length cap) fc oc ta fa oa i T lt c1 c2 B:=λh' ab=>by
  obtain⟨a1,a2,ci⟩:=(s4.frame ab).jC ((en h' (cq.trans (ab.mn))).2.2.2) c6;obtain⟨rfl,rfl⟩:a1=c1/\a2=c2:=by
   have:=ci.el.rd0 3 oM
   rw[r0] at this;simp at this;exact⟨this.1.symm,this.2.symm⟩
  exact ci
 have eg:=o6.wK;simp at eg;simp;refine Z4.cu [0,1,3,4,7,2,5,6] (λE h5=>Ek e E [] [0,1,5,7,9]/\Z0 h4 h5 []/\E.get 17=.p p17/\∃hc:C,E.get 165=.one hc/\E.get 166=.i ((T.pk++step.cols).length:Int)/\E.get 167=.i 0/\MR h5 1 hc ((T.pk++step.cols).map λc=>(Zd c).map C.d)/\∀k∈labs hc,h4.ep<=k.1/\k.1<h5.ep) ?_ ?_;simp[hE,gu,gx,e6];refine Za (CN _ c2 (T.pk.map λc=>(Zd c).map C.d) (by rw[Uo];exact((gb h4 .refl).f2 _ .refl).rowAt (n:=1) (by simp[D.flat]) (by simpa using bg)) _ (λhc g5 mh ax dh ba=>?_));simp[hE];refine⟨ba,?_⟩;have fm:=(d5 g5 (cq.trans (ax.mn))).rowAt (n:=1) (by simp[D.flat]) (by simpa using eg.2);rw[<-Uo] at fm;refine W5 (by simp;exact⟨rfl,rfl⟩) sI sI sI mh fm (by simpa using hlim) (λeu g6 ip ae ff=>?_);simp[hE];have fg:MR g6 1 eu ((T.pk++step.cols).map λc=>(Zd c).map C.d):=by simpa using ip
 refine WQ (n:=(T.pk++step.cols).length) (by rw[fg.len];simp) ?_;simp;have i7:=ax.1;have iz:=ae.1;refine Zb.of ⟨by simp[hE],ax.trans' ae (λk hk=>.inr (dh k hk).1),by simp[aw],eu,sI,sI,sI,fg,λk hk=>?_⟩;rcases ff k hk with h2|h2
 have:=dh k h2;omega
 omega;rintro e g5 ⟨hF,ax,aw,hc,au,ak,aj,mh,dh⟩;have hE:=hF.an hE;have cd:=ax.1;have eh:g5.box p17=some [.s step.other,.nil,pc]:=by rw[ax.2 p17 a7.2 sI];exact dz
 have gk:MR g5 1 pc ((W3 T.pk.length).map λc=>(Zd c).map C.d):=mp.frame λk hk=>ax.2 k (ag k hk).2.1 sI;refine Z4.for (xs:=T.pk++step.cols) (s0:=[]) (λk Vs E g=>Ek e E [] [0,1,5,7,9]/\Z0 h4 g [p17]/\E.get 17=.p p17/\E.get 165=.one hc/\E.get 166=.i ((T.pk++step.cols).length:Int)/\E.get 167=.i (k:Int)/\MR g 1 hc ((T.pk++step.cols).map λc=>(Zd c).map C.d)/\MR g 1 pc ((W3 T.pk.length).map λc=>(Zd c).map C.d)/\g5.ep<=g.ep/\Vs.length<=k/\
  ∃ch,g.box p17=some [.s step.other,ch,pc]/\MR g 3 ch (Vs.map λc=>c.enc.map C.d)/\∀k∈labs ch,g5.ep<=k.1/\k.1<g.ep) hm ⟨by simp[hE],ax.mn,by simp[aw],by simp[au],by simp[ak],by simp[aj],mh,gk,Y7 _,sI,.nil,eh,MR.nil,by simp[labs]⟩ ?_ ?_
 rintro k Vs e g ⟨hF,b0,aw,au,ak,aj,mh,mp,cg,ja,ch,a8,mc,aq⟩ ah hm;have hE:=hF.an hE;simp only[K2] at hm;obtain⟨c,hc0,b3,hm⟩:=hm.get;have hw:IntKind.i64.wrap ((k:Int)+1)=(k:Int)+1:=Y5 _ (by have:=hlim;simp at ah this;omega);obtain⟨lh,dn,Bh,rfl,bh,rh⟩:=mh.at (k:=k) (x:=[.i (T.pk++step.cols)[k]]) (by rw[Y8,Y1 ah];rfl);simp only[Yh] at mh au;simp at rh;obtain⟨n,f9⟩:∃n:Nat,(T.pk++step.cols)[k]=n:=⟨((T.pk++step.cols)[k]).toNat,oM⟩;rw[f9] at rh b3;simp at b3;have ik:n<T.cols.length:=(Y0.1 b3).1;have bj:Z0 h3 g []:=ay.trans' b0 (λk hk=>.inr (by simp at hk;rw[hk];exact a7.1));have bv:=hs3.trans (bj.mn);obtain⟨_,dw,_,gj⟩:=en g bv;have gi:TblV g l S2 (.mrow lt 0 S.tables.length cap) fc oc ta fa oa i T lt c1 c2 B:=by
  obtain⟨a1,a2,ci⟩:=(s3.frame bj).jC gj c6;obtain⟨rfl,rfl⟩:a1=c1/\a2=c2:=by
   have:=ci.el.rd0 3 oM
   rw[r0] at this;simp at this;exact⟨this.1.symm,this.2.symm⟩
  exact ci
 obtain⟨l2,cap2,B2,rfl,fh,-⟩:=gi.e1 n c b3;have h7:=fh.box;have q0:=fh.rd0 3 oM;simp at q0;have d9:k<T.pk.length+step.cols.length:=by simpa using ah
 have fu:(k:Int)<(T.pk.length:Int)+(step.cols.length:Int):=oM;simp[hE,au,ak,aj,d9,fu,bh,rh];refine Z4.cu [0,1,2,3,4,5,6,7,8,9,10] (λE g'=>Ek e E [] [0,1,5,7,9]/\Z0 h4 g' [p17]/\E.get 17=.p p17/\E.get 165=.one (.mrow lh 0 (T.pk++step.cols).length dn)/\E.get 166=.i ((T.pk++step.cols).length:Int)/\E.get 167=.i (k:Int)/\MR g' 1 (.mrow lh 0 (T.pk++step.cols).length dn) ((T.pk++step.cols).map λc=>(Zd c).map C.d)/\MR g' 1 pc ((W3 T.pk.length).map λc=>(Zd c).map C.d)/\g5.ep<=g'.ep/\
  ∃ch,g'.box p17=some [.s step.other,ch,pc]/\MR g' 3 ch ((Vs++[c]).map λc=>c.enc.map C.d)/\∀k∈labs ch,g5.ep<=k.1/\k.1<g'.ep) ?_ ?_
 simp[hE,aw,a8,dw,ik,h7,q0];have hz:Z0 g ((g.qC (g.ep,16*178) (some (1,3))).next) []:=Z0.refl.qC.next;simp only[Nat.reduceMul] at hz;refine W5 (by simp;exact⟨rfl,rfl⟩) sI sI sI (mc.frame λk hk=>hz.2 k (aq k hk).2 sI) (Zk.qU sI) (by simp<;>omega) (λc' g' bq ae bn=>?_);have eb:=ae.1;simp at eb;have fo:p17.1<g5.ep:=Y3 a7.2 cd;have ad:∀q:Z2,q.1<g5.ep->g'.box q=g.box q:=λq hq=>by
  rw[ae.2 q (by simp<;>omega) λh2=>by have:=(aq q h2).1;omega];exact hz.2 q oM sI
 have ed:g'.box p17=some [.s step.other,ch,pc]:=by rw[ad _ fo];exact a8
 have d1:∀q∈labs c',q≠p17/\g5.ep<=q.1/\q.1<g'.ep:=λq hq=>by
  rcases bn q hq with h2|h2
  have:=aq q h2;exact⟨λhe=>by rw[he] at this;omega,this.1,oM⟩
  simp at h2;exact⟨λhe=>by rw[he] at h2;omega,oM,h2.2⟩
 simp[hE,aw,ed];refine Zb.of ⟨by simp[hE],((b0.trans (hz.mn)).trans' ae λq hq=>.inr (by have:=(aq q hq).1;omega)).qA (.inl sI),by simp[aw],by simp[au],by simp[ak],by simp[aj],mh.frame λq hq=>?_,mp.frame λq hq=>?_,by simp<;>omega,c',sI,?_,λq hq=>⟨(d1 q hq).2.1,by simpa using(d1 q hq).2.2⟩⟩;have h2:=dh q hq
 have:q≠p17:=λhe=>by rw[he] at h2;have:=a7.2;omega
 simp[this,ad q h2.2];have h2:=ag q hq;simp[h2.2.2,ad q oM];refine MR.frame (h:=g') (by simpa using bq) λq hq=>?_;simp[(d1 q hq).1];rintro e g' ⟨hF,b0,aw,au,ak,aj,mh,mp,cg,ch,a8,mc,aq⟩;have hE:=hF.an hE;simp[hE,aj,hw];exact Ze.of (Vs++[c]) ⟨⟨by simp[hE],b0,by simp[aw],by simp[au],by simp[ak],sI,by rw[Yh];exact mh,mp,cg,by simp<;>omega,ch,a8,mc,aq⟩,hm⟩;rintro cl e g ⟨hF,b0,aw,_,ak,aj,_,mp,cg,_,ch,a8,mc,aq⟩ hm;have hE:=hF.an hE;simp only[Jd] at hm;obtain⟨S3,hm3,hm⟩:=hm.bind;obtain⟨S4,hm4,hm⟩:=hm.bind;obtain⟨cw,hm⟩:=hm.chk;obtain⟨rfl,rfl⟩:=ZJ hm;have bj:Z0 h3 g []:=ay.trans' b0 (λk hk=>.inr (by simp at hk;rw[hk];exact a7.1));have bv:=hs3.trans (bj.mn);obtain⟨ft,dw,f7,_⟩:=en g bv;have sg:=s3.frame bj;have e7:=all g bv;simp at ak aj;simp[hE,ak,aj,ft,e6];refine Za (Ip _ l _ fc oc _ ta fa oa S2 S3 i step.cols hm3 sg (λh' ab=>(ea h' (e7.trans (ab.mono λk hk=>Yc _ hk))).frz.2.2.2.2.2.2.1) _ (λg2 il iq cx bt=>?_));have fo:p17.1<g5.ep:=Y3 a7.2 cd;have gl:=cx.1;have ad:∀q:Z2,h.ep<=q.1->q.1<g.ep->g2.box q=g.box q:=λq de dc=>cx.2 q dc λh2=>fresh q de (Yc _ h2);have ej:g2.box p17=some [.s step.other,ch,pc]:=by rw[ad p17 oM oM];exact a8
 have fv:MR g2 3 ch (cl.map λc=>c.enc.map C.d):=mc.frame λq hq=>ad q (by have:=(aq q hq).1;omega) (aq q hq).2;have e5:MR g2 1 pc ((W3 T.pk.length).map λc=>(Zd c).map C.d):=mp.frame λq hq=>ad q (by have:=(ag q hq).1;omega) (by have:=(ag q hq).2.1;omega);have hT:Ow g2 Wn [.s step.other,ch,pc] (⟨step.other,cl,W3 T.pk.length⟩:Tbl).enc (labs ch++(labs pc++[])):=by rw[Uo] at fv e5;exact .data rfl ((Ow.rL (n:=3) fv rfl sI).join ((Ow.rL (n:=1) e5 rfl sI).join .nil))
 simp[hE,aw,ej];refine Za (Gc _ l _ fc oc il fa oa (labs ch++(labs pc++[])) S3 S4 _ _ hm4 iq hT ⟨?_,λq hq=>?_⟩ _ (λg3 bp b4 br hs3' ez=>?_));rw[Ym,Yg];refine⟨Va,Va,λa ha b hb he=>?_⟩
 have:=(aq a ha).1;have:=(ag b hb).2.1;rw[<-he] at this;omega
 have dc:h3.ep<=q.1/\q.1<g.ep:=by
  simp only[Ym,Y2] at hq;rcases hq with hq|hq
  have:=aq q hq;omega
  have:=ag q hq;omega
 refine⟨oM,λh2=>?_⟩;simp only[Y9,Y2] at h2;have hf:=fresh q oM;simp only[Y9,Y2,not_or] at hf;rcases h2 with h2|h2|h2|h2;exact hf.1 h2;rcases bt q h2 with h4|h4;exact hf.2.1 h4;omega;exact hf.2.2.1 h2;exact hf.2.2.2 h2;have ic:=hs3'.1;have be:∀q:Z2,h.ep<=q.1->q.1<g.ep->g3.box q=g.box q:=λq de dc=>by
  rw[hs3'.2 q oM λh2=>?_,ad q de dc];have hf:=fresh q de;simp only[Y9,Y2,not_or] at hf h2;rcases h2 with h2|h2;exact hf.1 h2;rcases bt q h2 with h4|h4;exact hf.2.1 h4;omega
 have im:g3.box (h.ep,80)=some (Zf step x6 am ar ap):=by rw[be _ sI (by simp<;>omega)];exact ft
 have ii:g3.box (h.ep+1,112)=some [C.d (D.str T.name),c1,c2]:=by rw[be _ sI (by simp<;>omega)];exact dw
 have ia:g3.box (h1.ep,144)=some [C.i T.pk.length]:=by rw[be _ (by simp<;>omega) (by simp<;>omega)];exact f7
 have b1:=br.box;have ey:∀q∈b4,q∈ta\/h.ep<=q.1:=λq hq=>by
  rcases ez q hq with h2|h2|h2;exact(bt q h2).imp_right λh=>oM;simp only[Ym,Y2] at h2;rcases h2 with h2|h2
  have:=aq q h2;exact .inr oM
  have:=ag q h2;exact .inr oM
  exact .inr oM
 have dr:Z0 h g3 (l::(ta++(fa++oa))):=(e7.trans (cx.mono λk hk=>Yc _ hk)).trans' hs3' λq hq=>by
  simp only[Y9] at hq;rcases hq with rfl|hq;exact .inl sI;exact(bt q hq).imp (λh=>by simp[h]) λh=>oM
 simp;refine Z4.cu [0,1,2,3,4,5,6,7,9,10,8,11,12,13,14,15,16] (λe h'=>e.n=206/\∃af fi,Sc h' l {S4 with fks:=S4.fks++[⟨step.other,W3 T.pk.length,T.name⟩]} bp fi oc b4 af oa/\(∀k∈af,k∈fa\/h.ep<=k.1)/\Z0 h h' (l::(ta++(fa++oa)))) ?_ ?_;simp[hE,b1,im,ii,ia,e2];refine Za (Ea _ T.pk.length bg _ (λbf g4 ge bl cb du=>?_));simp[hE];refine⟨du,?_⟩;have fz:Ow g4 Vb [.s step.other,bf,.s T.name] (⟨step.other,W3 T.pk.length,T.name⟩:Fk).enc (labs bf):=by
  refine .data rfl ?_
  have:=Ow.rU (es:=[.d]) (n:=1) (ts:=(W3 T.pk.length).map Zd) (by rw[<-Uo];exact ge) rfl sI (Ow.data (c:=.s T.name) (x:=.str T.name) rfl .nil)
  simpa using this
 have f4:=bl.1;have fin:∀(h5:HS) (x':List C) (lx:List Z2),Z0 g4 h5 []->∀ys:List (List C),ys.length=S4.fks.length->MR h5 3 fc ys->
   (∀(h':HS) (c':C) (x:List C) (d:List D) (lx:List Z2),MR h' 3 c' (ys++[x])->Z0 h5 h' (labs fc)->(∀k∈labs c',k∈labs fc\/(h5.ep<=k.1/\k.1<h'.ep))->Ow h' Vb x d lx->lx.Nodup->(∀k∈lx,k.1<h'.ep/\k∉l::(b4++(fa++oa))/\k∉labs c')->∀T,d=Fk.enc T->∃af,Sc (h'.qA l [bp,c',oc]) l {S4 with fks:=S4.fks++[T]} bp c' oc b4 af oa/\∀k∈af,k∈fa\/k∈lx\/h5.ep<=k.1)->
   (∀h',(∀k∈labs bf,h'.box k=g4.box k)->Ow h' Vb x' (⟨step.other,W3 T.pk.length,T.name⟩:Fk).enc lx)->(∀k∈lx,k∈labs bf)->lx.Nodup->∀(c':C) (h':HS),MR h' 3 c' (ys++[x'])->Z0 h5 h' (labs fc)->(∀k∈labs c',k∈labs fc\/(h5.ep<=k.1/\k.1<h'.ep))->
   h'.box l=some [bp,fc,oc]/\∃af,Sc (h'.qA l [bp,c',oc]) l {S4 with fks:=S4.fks++[⟨step.other,W3 T.pk.length,T.name⟩]} bp c' oc b4 af oa/\(∀k∈af,k∈fa\/h.ep<=k.1)/\Z0 h (h'.qA l [bp,c',oc]) (l::(ta++(fa++oa))):=by
  intro h5 x' lx ac ys _ _ add ih ek io c' h' bq ae bn;have hh:=ae.1;have f5:=ac.1;have c7:∀k∈labs fc,k∈fa:=s.qJ.2.1;obtain⟨af,s6,ca⟩:=add h' c' x' _ lx bq ae bn (ih h' λk hk=>by
   have h2:=cb k hk;rw[ae.2 k oM λh3=>by have:=br.lt k (by simp[c7 k h3]);omega];exact ac.2 k h2.2 sI) io (λk hk=>by
    have h2:=cb k (ek k hk);refine⟨oM,λh3=>by have:=br.lt k h3;omega,λh3=>?_⟩;rcases bn k h3 with h4|h4
    have:=br.lt k (by simp[c7 k h4]);omega
    omega) _ rfl
  refine⟨(br.frame (bl.trans ac)).keep ae λk hk=>.inr (.inl (c7 k hk)),af,s6,λk hk=>?_,((dr.trans ((bl.trans ac).mn)).trans' ae λk hk=>.inl (by simp[c7 k hk])).qA (.inl sI)⟩;rcases ca k hk with h2|h2|h2;exact .inl h2
  have:=cb k (ek k h2);exact .inr oM
  exact .inr oM
 refine Cc (x:=[.s step.other,bf,.s T.name]) (by simp[Zt];cases bf.toD<;>rfl) sI (λd gv=>?_) (λ_=>?_);obtain⟨rfl,ga⟩:=fz.ofD gv;have ac:Z0 g4 ((g4.qC (g4.ep,16*202) (some (1,3))).next) []:=Z0.refl.qC.next;simp only[Nat.reduceMul] at ac;obtain⟨ys,my,cj,add⟩:=(br.frame (bl.trans ac)).rB;simp[hE];refine W5 (by simp;exact⟨rfl,rfl⟩) sI sI sI my (Zk.qU sI) (by rw[cj];exact cw) (λc' h' bq ae bn=>?_);obtain⟨d4,af,s6,t1,t2⟩:=fin _ _ [] ac ys cj my add (λh' _=>ga h') sI XJ c' h' bq ae bn;simp[hE,d4];exact Zb.of ⟨by simp[hE],af,c',s6,t1,t2⟩
 skip
 have ac:Z0 g4 ((g4.qA (g4.ep,16*202) [.s step.other,bf,.s T.name]).next) []:=(Z0.refl.qA (.inr (Y7 _))).next;simp only[Nat.reduceMul] at ac;obtain⟨ys,my,cj,add⟩:=(br.frame (bl.trans ac)).rB;simp[hE];refine W5 (by simp;exact⟨rfl,rfl⟩) sI sI sI my (Zk.jY (x:=[.s step.other,bf,.s T.name]) sI sI) (by rw[cj];exact cw) (λc' h' bq ae bn=>?_);obtain⟨d4,af,s6,t1,t2⟩:=fin _ _ (labs bf) ac ys cj my add (λh' hb'=>fz.frame hb') (λ_ h=>h) Va c' h' bq ae bn;simp[hE,d4];exact Zb.of ⟨by simp[hE],af,c',s6,t1,t2⟩;rintro e h' ⟨hn,af,fi,s7,ca,hy⟩;simp[hn];refine hk _ _ s7.ows hy λk hk=>?_;simp only[Y2] at hk|-;rcases hk with hk|hk|hk;exact(ey k hk).imp_left .inl;exact(ca k hk).imp_left λh=>.inr (.inl h);exact .inl (.inr (.inr hk))
def G7(fk:Fk)(k0:ByteArray):Option Bool:=
 some (strEq fk.ref k0)
instance Qz(fk:Fk)(k0:ByteArray):Con (G7 fk k0) prog 176 [.agg fk.enc,.one (.rp [.str k0])] (λr=>.one (.d (.bool r))):=by unfold G7;exact go 8 Tryz.func176
def DU(column:Int)(k0:Int)(k1:Tbl)(k2:Int):Option Int:=
 bif decide (column<k0) then Z7 k1.pk column λx2=>(some x2) else Zp (W9 (k2+column)) (Zp (W9 ((k2+column)-k0)) (some ((k2+column)-k0)))
instance Qy(column:Int)(k0:Int)(k1:Tbl)(k2:Int):Con (DU column k0 k1 k2) prog 178 [.one (.d (.int .i64 column)),.one (.rp [.int .i64 k0]),.one (.rp [.str k1.name,.sl (k1.cols.map Col.enc),.sl (k1.pk.map Zd)]),.one (.rp [.int .i64 k2])] (λr=>.one (.d (.int .i64 r))):=by unfold DU;exact go 19 Tryz.func178
theorem GT{σ ρ:Type}{body:Nat->σ->(σ->Option ρ)->Option ρ}{k:σ->Option ρ}(P:σ->Prop)(Q:ρ->Prop)(hb:∀i s next r,P s->(∀s' r,P s'->next s'=some r->Q r)->body i s next=some r->Q r)(hk:∀s r,P s->k s=some r->Q r):∀n i s r,P s->WI body k n i s=some r->Q r
 |0,_,s,r,hP,h=>hk s r hP h
 |n+1,i,s,r,hP,h=>hb i s _ r hP (λs' r' aa h'=>GT P Q hb hk n (i+1) s' r' aa h') h
theorem T6{S S':Sch}{table:ByteArray}{mr:Int->Option Int}(h:Is (BO S table mr) S'):S'.tables=S.tables:=by
 refine GT (λs:Sch=>s.tables=S.tables) (λs=>s.tables=S.tables) (λi s next r hP hn hb=>?_) (λs r hP hk=>?_) _ _ S S' rfl h
 .obtain⟨f,hf,hb⟩:=Is.qG hb;cases hc:strEq f.table table with
  |false=>rw[hc] at hb;exact hn _ _ hP hb
  |true=>?_
  rw[hc] at hb;refine GT (λs:Sch=>s.tables=S.tables) (λs=>s.tables=S.tables) (λj s next r hP hn hb=>?_) hn _ _ s r hP hb;obtain⟨f,hf,hb⟩:=Is.qG hb;obtain⟨v,hv,hb⟩:=Is.qG hb;obtain⟨v',aa,hb⟩:=hb.bind;exact hn {s with fks:=s.fks.set i ⟨f.table,f.cols.set j v',f.ref⟩} _ hP hb
 refine GT (λs:Sch=>s.tables=S.tables) (λs=>s.tables=S.tables) (λj s next r hP hn hb=>?_) (λs r hP hk=>?_) _ _ s r hP hk;obtain⟨c,hc,hb⟩:=Is.qG hb;cases hct:strEq c.table table with
 |false=>rw[hct] at hb;exact hn _ _ hP hb
 |true=>?_
 rw[hct] at hb;obtain⟨v,hv,hb⟩:=Is.bind hb;cases hr:decide (0<=c.right) with
 |false=>rw[hr] at hb;exact hn {s with cons:=s.cons.set j {c with left:=v}} _ hP hb
 |true=>?_
 rw[hr] at hb;obtain⟨w,hw,hb⟩:=Is.bind hb;exact hn {s with cons:=s.cons.set j {c with left:=v,right:=w}} _ hP hb;obtain rfl:=Zh hk;exact hP
theorem SN{S S':Sch}{c:Fk}{r:Int}(h:Is (BM S c) (S',r)):S'.tables=S.tables:=by
 obtain⟨k,hk,h⟩:=h.bind;split at h
 have:=Zh h
 simp only[Yt] at this;rw[<-this.1];obtain⟨_,h⟩:=Is.chk h
 have:=Zh h
 simp only[Yt] at this;rw[<-this.1]
theorem Sc.wW{h:HS}{l:Z2}{S:Sch}{tc fc oc:C}{ta fa oa:List Z2}(s:Sc h l S tc fc oc ta fa oa){i:Nat}{T:Tbl}{lt:Z2}{c1 c2:C}{B:List C}(tv:TblV h l S tc fc oc ta fa oa i T lt c1 c2 B)(hi:S.tables[i]?=some T):∀h',(∀k∈ta,h'.box k=h.box k)->Zx h' [.d (.str T.name),c1,c2] T.enc:=by
 obtain⟨qt,qf,qo,rfl,rfl,rfl,s⟩:=s;obtain⟨q,lr,cap,sp,h1,h2,h3,h4,h5,h6⟩:=s.t.elem (Uq (f:=Tbl.enc) hi);obtain⟨cap',e⟩:=tv.hd;rw[h4] at e;simp at e;obtain⟨rfl,-⟩:=e;have hu:=h6.uniq tv.el h3.len.1 (by simp[Wn]);intro h' hb
 have:=h3.frame (h':=h') λk hk=>hb k (VY h1 hk)
 rw[hu.1] at this;exact this.frz
theorem MR.tail{h:HS}{w:Nat}{l:Z2}{n cap:Nat}{xs:List (List C)}(m:MR h w (.mrow l 0 n cap) xs)(k:Nat)(hk:k<=n):Zk h w (.mrow l (k*w) (n-k) (cap-k)) (xs.drop k):=by
 have hn:=m.len;simp[ZW] at hn;subst hn;have hb:∃sp,h.box l=some (Z8 xs sp):=by rcases m.2.2 with⟨_,h2|h2⟩|⟨l',cap',sp,h1,h2,_⟩;cases h2;cases h2;simp at h1;obtain⟨rfl,rfl⟩:=h1;exact⟨sp,h2⟩
 obtain⟨sp,hb⟩:=hb;have hr:=Da (off:=k) (k:=xs.length-k) (cap:=cap-k) m.1 hb oM;refine⟨?_,by simp[ZW],m.1.drop,by have:=m.2.1;simp at this|-;omega⟩;rw[hr,Yr sI]
end
end Go.Am
section
namespace Go.Am
open Go.RowKit (Below)
section
variable{P:Program}
@[simp] def dutyK:Op->Bool
 | .call c=>match c.callee with
   | .value _=>true
   | .builtin .append=>true
   |_=>false
 |_=>false
@[simp] def stK:Op->Bool
 | .store _ _ _=>true
 | .call c=>match c.callee with
   | .builtin .copy=>true
   | .builtin .clear=>true
   |_=>false
 |_=>false
theorem MZ{op}(h:Vy op=true):dutyK op=false:=by
 cases op<;>simp_all [Vy];rename_i c;cases hc:c.callee<;>simp_all;rename_i b;cases b<;>simp_all
theorem Ng{op}(h1:stK op=false)(h2:dutyK op=false):storeKind op=false/\callKind op=false:=by
 cases op<;>simp_all [storeKind,callKind];rename_i c;cases hc:c.callee<;>simp_all;rename_i b;cases b<;>simp_all
@[simp] def Uy(ops:List Oper)(i:Nat):Bool:=match ops[i]? with
 |some o=>dutyK o.op
 |none=>false
theorem Ai{md ops listed}{i:Nat}(hm:i∈Region.ready md ops listed){e h l K}(hv:W6 P ops.toList (planOps ops.toList (i::l)) e h K):
  ∃o,ops[i]?=some o/\Uy ops.toList i=dutyK o.op/\VU P ops.toList o e h (λe h=>W6 P ops.toList (planOps ops.toList l) e h K):=by
 obtain⟨o,ho,_,hv⟩:=UT hm hv;have aa:ops.toList[i]?=some o:=by simpa using ho
 exact⟨o,ho,by simp only[Uy,aa],hv⟩
theorem Z1s{c:Prop}{ops}{oi oj:Oper}{e h v}{K:Env->HS->Prop}(ac:oi.apart ops oj=true)(hst:stK oj.op=false\/loadKind oi.op=false)(ab:loadKind oi.op=true->dutyK oj.op=true->c)(hr:WC (e.put oi.dst v) h)
  (hv:VU P ops.toList oj (e.put oi.dst v) h (λe' h'=>(c->Zo h h')/\K e' h')):
  VU P ops.toList oj e h (λe' h'=>(c->Zo h h')/\e'.n=e.n/\(∀t∈oi.looksAt ops,e'.get t=e.get t)/\(loadKind oi.op=true->Zo h h')/\K (e'.put oi.dst v) h'):=by
 obtain⟨h1,h2,h3⟩:=Oper.apart_spec ac;have aa:∀t∈oj.looksAt ops,e.get t=(e.put oi.dst v).get t:=λt ht=>(Ha (λd hd he=>h1 d hd (he▸ht))).symm;have fin:∀u h',(storeKind oj.op=false->callKind oj.op=false->Zo h h')->((c->Zo h h')/\K ((e.put oi.dst v).put oj.dst u) h')->
   (c->Zo h h')/\(e.put oj.dst u).n=e.n/\(∀t∈oi.looksAt ops,(e.put oj.dst u).get t=e.get t)/\(loadKind oi.op=true->Zo h h')/\K ((e.put oj.dst u).put oi.dst v) h':=λu h' hb hk=>
  ⟨hk.1,Hu,λt ht=>Ha (λd hd he=>h3 d hd (he▸ht)),λhl=>by
   cases hc:dutyK oj.op with
   |true=>exact hk.1 (ab hl hc)
   |false=>exact hb (Ng (hst.resolve_right (by simp[hl])) hc).1 (Ng (hst.resolve_right (by simp[hl])) hc).2,by rw[<-Nk h2];exact hk.2⟩
 obtain⟨hd,hv⟩:=hv;refine⟨Dm Hu.symm hd,?_⟩;have go:Z9 P oj (e.put oi.dst v) h (λe' h'=>(c->Zo h h')/\K e' h')->Z9 P oj e h (λe' h'=>(c->Zo h h')/\e'.n=e.n/\(∀t∈oi.looksAt ops,e'.get t=e.get t)/\(loadKind oi.op=true->Zo h h')/\K (e'.put oi.dst v) h'):=λhs=>
  J3 hr (K9 aa) (λu h' hb hk=>fin u h' hb hk) hs
 cases hg:oj.guard with
 |none=>simp only[hg] at hv|-;exact go hv
 |some gw=>?_
 obtain⟨j,want⟩:=gw;simp only[hg] at hv|-;rw[EC aa hg];split at hv;exact⟨λhb=>go (hv.1 hb),λhb=>fin _ _ (λ_ _=>Zo.refl h) (hv.2 hb)⟩;exact fin _ _ (λ_ _=>Zo.refl h) hv;exact hv.elim
def Ft(P:Program)(md:Region.Mode)(ops:Array Oper)(bl:Nat->Bool)(K:Env->HS->Prop):Nat->Array Bool->Env->HS->Prop
 |0,listed,e,h=>Region.ready md ops listed=[]/\(WC e h->K e h)
 |f+1,listed,e,h=>WC e h->(Region.ready md ops listed=[]->K e h)/\
     ∀i∈Region.ready md ops listed,∃o,ops[i]?=some o/\VU P ops.toList o e h (λe' h'=>((bl i=true/\dutyK o.op=true)->Zo h h')/\Ft P md ops bl K f (listed.setIfInBounds i true) e' h')
theorem Mi{bl md ops Γ Q K μ0}(hN:∀e' h' μ' a' w',K e' h'->Inv Γ h' μ' w'->Zu μ' e' a'->Mem.Le μ0 μ'->Q .normal a' w'):
  ∀f listed {e:Env} {h:HS} {μ:Mem} {a:Act} {w:World},Inv Γ h μ w->Zu μ e a->Mem.Le μ0 μ->Ft P md ops bl K f listed e h->wpAny P md ops Q f listed a w
 |0,listed,e,h,μ,a,w,hI,hE,aa,hv=>⟨hv.1,hN _ _ _ _ _ (hv.2 ⟨_,_,_,_,hI,hE⟩) hI hE aa⟩
 |f+1,listed,e,h,μ,a,w,hI,hE,aa,hv=>by
   obtain⟨h0,h1⟩:=hv ⟨_,_,_,_,hI,hE⟩;refine⟨λhr=>hN _ _ _ _ _ (h0 hr) hI hE aa,λi hi=>?_⟩;obtain⟨o,ho,hg⟩:=h1 i hi;exact Nd ho hI hE (λe' h' μ' a' w' hk hI' hE' hle'=>Mi hN f _ hI' hE' (aa.trans hle') hk.2) hg
theorem T4{bl}{md:Region.Mode}{ops K}{i:Nat}{oi}{v:V}(W:Nat->Bool)(hi:ops[i]?=some oi)(hp:Vy oi.op=true)
  (hW:∀j,W j=true->∃oj,ops[j]?=some oj/\∃x∈oj.after,Region.binds md x=true/\(x.on=i\/W x.on=true)):
  ∀f listed e h,(∀j,W j=true->listed.getD j true=false)->
    (∀j oj,ops[j]?=some oj->j≠i->listed.getD j true=false->W j=false->oi.apart ops oj=true/\(stK oj.op=false\/loadKind oi.op=false)/\(loadKind oi.op=true->dutyK oj.op=true->bl j=true))->
    i∈Region.ready md ops listed->Aw P ops oi e h v->
    Ft P md ops bl K f (listed.setIfInBounds i true) (e.put oi.dst v) h->Ft P md ops bl K (f+1) listed e h:=by
 intro f
 induction f with|zero=>?_|succ f ih=>?_
 intro listed e h _ _ hr hg H hR;refine⟨λh=>(by rw[h] at hr;cases hr),λj hj=>?_⟩;by_cases hji:j=i;subst hji;exact⟨oi,hi,hg e h _ rfl (λ_ _=>rfl) (λ_=>Zo.refl h) ⟨λhc=>(by rw[MZ hp] at hc;cases hc.2),H⟩⟩
 have:=ready_mono hj hji
 rw[H.1] at this;cases this;intro listed e h ak aa hr hg H hR;have aj:=hg.real hp hR;refine⟨λh=>(by rw[h] at hr;cases hr),λj hj=>?_⟩;by_cases hji:j=i;subst hji;exact⟨oi,hi,hg e h _ rfl (λ_ _=>rfl) (λ_=>Zo.refl h) ⟨λhc=>(by rw[MZ hp] at hc;cases hc.2),H⟩⟩;obtain⟨oj,ae,h1⟩:=(H aj).2 j (ready_mono hj hji);obtain⟨af,oj',al,hall⟩:=mem_ready.1 hj
 have:oj'=oj:=Option.some.inj (al.symm.trans ae)
 subst this;have ap:∀k,listed.getD k true=false->listed.getD k false=true->False:=λk h1 h2=>by rcases YA k listed.size with h'|h';simp[h'] at h1 h2;rw[h1] at h2;cases h2;simp[X3 h'] at h2
 have ag:W j=false:=by
  cases hw:W j with
  |false=>rfl
  |true=>?_
  obtain⟨ok,az,x,hx,hb,ab⟩:=hW j hw
  have:ok=oj':=Option.some.inj (az.symm.trans ae)
  subst this;have h1:=hall x hx hb;rcases ab with ab|ab;rw[ab] at h1;exact(ap i (mem_ready.1 hr).1 h1).elim;exact(ap _ (ak _ ab) h1).elim
 obtain⟨ay,hst,au⟩:=aa j oj' ae hji af ag;have ac:∀k ok,ops[k]?=some ok->k≠i->(listed.setIfInBounds j true).getD k true=false->
   W k=false->oi.apart ops ok=true/\(stK ok.op=false\/loadKind oi.op=false)/\(loadKind oi.op=true->dutyK ok.op=true->bl k=true):=λk ok hk aw am aq=>by
  refine aa k ok hk aw ?_ aq;by_cases ad:j=k;subst ad;exact af;rw[getD_set_ne true ad] at am;exact am
 have ah:∀k,W k=true->(listed.setIfInBounds j true).getD k true=false:=λk hk=>by
  have ad:j≠k:=by rintro rfl;rw[ag] at hk;cases hk
  rw[getD_set_ne true ad];exact ak k hk
 refine⟨oj',ae,V1 hR (λe' h' hk=>?_) (Z1s ay hst (λhl hc=>⟨au hl hc,hc⟩) aj h1)⟩;obtain⟨ar,hn,ax,hb,hk⟩:=hk;refine⟨ar,?_⟩;refine ih (listed.setIfInBounds j true) e' h' ah ac (ready_mono hr (Ne.symm hji)) (hg.step hn ax hb) ?_;rw[Array.setIfInBounds_comm _ _ hji];exact hk
def Kw(bl:Nat->Bool)(md:Region.Mode)(ops:Array Oper)(listed:Array Bool)(i:Nat):Bool:=
 match ops[i]? with
 |none=>false
 |some oi=>
   let w:=Fq md ops i ops.size []
   Vy oi.op&&(Region.ready md ops listed).contains i&&P7 md ops i w&&w.all (λj=>!listed.getD j true)&&(List.range ops.size).all λj=>j==i||listed.getD j true||w.contains j||match ops[j]? with
    |some oj=>oi.apart ops oj&&((!stK oj.op||!loadKind oi.op)&&(!loadKind oi.op||!dutyK oj.op||bl j))
    |none=>true
def V2(bl:Nat->Bool)(md:Region.Mode)(ops:Array Oper):Plan->Nat->Array Bool->Bool
 | .done,f,listed=>f==0&&(Region.ready md ops listed).isEmpty
 | .one _ _,0,_=>false
 | .one i p,f+1,listed=>(Region.ready md ops listed==[i]||Kw bl md ops listed i)&&V2 bl md ops p f (listed.setIfInBounds i true)
 | .two _ _ _ _,0,_=>false
 | .two i j p q,f+1,listed=>Region.ready md ops listed==[i,j]&&V2 bl md ops p f (listed.setIfInBounds i true)&&V2 bl md ops q f (listed.setIfInBounds j true)
 | .three _ _ _ _ _ _,0,_=>false
 | .three i j k p q r,f+1,listed=>Region.ready md ops listed==[i,j,k]&&V2 bl md ops p f (listed.setIfInBounds i true)&&V2 bl md ops q f (listed.setIfInBounds j true)&&V2 bl md ops r f (listed.setIfInBounds k true)
 | .four _ _ _ _ _ _ _ _,0,_=>false
 | .four i j k l p q r s,f+1,listed=>Region.ready md ops listed==[i,j,k,l]&&V2 bl md ops p f (listed.setIfInBounds i true)&&V2 bl md ops q f (listed.setIfInBounds j true)&&V2 bl md ops r f (listed.setIfInBounds k true)&&V2 bl md ops s f (listed.setIfInBounds l true)
def Wc(P:Program)(ops:List Oper)(bl:Nat->Bool)(K:Env->HS->Prop):Plan->Env->HS->Prop
 | .done,e,h=>K e h
 | .one i p,e,h=>W6 P ops (planOps ops [i]) e h (λe' h'=>((bl i=true/\Uy ops i=true)->Zo h h')/\Wc P ops bl K p e' h')
 | .two i j p q,e,h=>W6 P ops (planOps ops [i]) e h (λe' h'=>((bl i=true/\Uy ops i=true)->Zo h h')/\Wc P ops bl K p e' h')/\W6 P ops (planOps ops [j]) e h (λe' h'=>((bl j=true/\Uy ops j=true)->Zo h h')/\Wc P ops bl K q e' h')
 | .four i j k l p q r s,e,h=>W6 P ops (planOps ops [i]) e h (λe' h'=>((bl i=true/\Uy ops i=true)->Zo h h')/\Wc P ops bl K p e' h')/\W6 P ops (planOps ops [j]) e h (λe' h'=>((bl j=true/\Uy ops j=true)->Zo h h')/\Wc P ops bl K q e' h')/\W6 P ops (planOps ops [k]) e h (λe' h'=>((bl k=true/\Uy ops k=true)->Zo h h')/\Wc P ops bl K r e' h')/\W6 P ops (planOps ops [l]) e h (λe' h'=>((bl l=true/\Uy ops l=true)->Zo h h')/\Wc P ops bl K s e' h')
 | .three i j k p q r,e,h=>W6 P ops (planOps ops [i]) e h (λe' h'=>((bl i=true/\Uy ops i=true)->Zo h h')/\Wc P ops bl K p e' h')/\W6 P ops (planOps ops [j]) e h (λe' h'=>((bl j=true/\Uy ops j=true)->Zo h h')/\Wc P ops bl K q e' h')/\W6 P ops (planOps ops [k]) e h (λe' h'=>((bl k=true/\Uy ops k=true)->Zo h h')/\Wc P ops bl K r e' h')
theorem UQ{bl}{md:Region.Mode}{ops K}:∀p f listed e h,V2 bl md ops p f listed=true->
  Wc P ops.toList bl K p e h->Ft P md ops bl K f listed e h
 | .done,f,listed,e,h,hB,hv=>by
   unfold V2 at hB;simp only[YC,beq_iff_eq] at hB;obtain⟨rfl,hB⟩:=hB;exact⟨by simpa using hB,λ_=>hv⟩
 | .one i p,0,listed,e,h,hB,hv=>by unfold V2 at hB;cases hB
 | .one i p,f+1,listed,e,h,hB,hv=>by
   unfold V2 at hB;simp only[YC,X9] at hB;obtain⟨hB,ae⟩:=hB;have ih:=λe h=>UQ (K:=K) p f (listed.setIfInBounds i true) e h ae;have ad:i∈Region.ready md ops listed:=by rcases hB with hB|hB;rw[eq_of_beq hB];simp;unfold Kw at hB;split at hB;cases hB;simp only[YC] at hB;simpa using hB.1.1.1.2
   obtain⟨o,ho,ab,aa⟩:=Ai ad hv;rw[ab] at aa;by_cases hR:WC e h;rcases hB with hB|hB;intro _;refine⟨λh0=>(by rw[h0] at ad;cases ad),λj hj=>?_⟩;rw[eq_of_beq hB] at hj
   have:j=i:=by simpa using hj
   subst this;exact⟨o,ho,V1 hR (λe' h' hk=>⟨hk.1,ih e' h' hk.2⟩) aa⟩;unfold Kw at hB;simp only[ho,YC] at hB;obtain⟨⟨⟨⟨hp,_⟩,ag⟩,af⟩,hall⟩:=hB;obtain⟨v,hk,_,hg⟩:=J6 hp hR aa;generalize Fq md ops i ops.size []=w at ag af hall;refine T4 (λj=>w.contains j) ho hp (λj hj=>?_) f listed e h (λj hj=>?_) (λj oj hj hne al ah=>?_) ad hg (ih _ _ hk.2);have h1:=YW.1 ag j (by simpa using hj);split at h1;rename_i o aj;obtain⟨x,hx,hb⟩:=Array.any_eq_true'.1 h1;simp only[YC,X9,beq_iff_eq] at hb;exact⟨o,aj,x,hx,hb.1,hb.2⟩;cases h1;have h1:=YW.1 af j (by simpa using hj);simpa using h1;have h1:=YW.1 hall j (XR.2 (YF.1 hj).1);simp only[hj,X9,beq_iff_eq,hne,false_or,al,YH,ah] at h1;simp only[YC,X9,Bool.not_eq_true'] at h1;refine⟨h1.1,h1.2.1,λhl hc=>?_⟩;rcases h1.2.2 with(h2|h2)|h2;rw[h2] at hl;cases hl;rw[h2] at hc;cases hc;exact h2;exact λak=>absurd ak hR
 | .two i j p q,0,listed,e,h,hB,_=>by unfold V2 at hB;cases hB
 | .two i j p q,f+1,listed,e,h,hB,hv=>by
   unfold V2 at hB;simp only[YC] at hB;have hr:=eq_of_beq hB.1.1;intro hR;refine⟨λh0=>(by rw[hr] at h0;cases h0),λk hk=>?_⟩;have ac:=hk;rw[hr] at ac;simp only[Y9,Xj,or_false] at ac;rcases ac with rfl|rfl;obtain⟨o,ho,ab,aa⟩:=Ai hk hv.1;rw[ab] at aa;exact⟨o,ho,V1 hR (λe' h' hk=>⟨hk.1,UQ p f _ e' h' hB.1.2 hk.2⟩) aa⟩;obtain⟨o,ho,ab,aa⟩:=Ai hk hv.2;rw[ab] at aa;exact⟨o,ho,V1 hR (λe' h' hk=>⟨hk.1,UQ q f _ e' h' hB.2 hk.2⟩) aa⟩
 | .three i j l p q r,0,listed,e,h,hB,_=>by unfold V2 at hB;cases hB
 | .three i j l p q r,f+1,listed,e,h,hB,hv=>by
   unfold V2 at hB;simp only[YC] at hB;have hr:=eq_of_beq hB.1.1.1;intro hR;refine⟨λh0=>(by rw[hr] at h0;cases h0),λk hk=>?_⟩;have ac:=hk;rw[hr] at ac;simp only[Y9,Xj,or_false] at ac;rcases ac with rfl|rfl|rfl;obtain⟨o,ho,ab,aa⟩:=Ai hk hv.1;rw[ab] at aa;exact⟨o,ho,V1 hR (λe' h' hk=>⟨hk.1,UQ p f _ e' h' hB.1.1.2 hk.2⟩) aa⟩;obtain⟨o,ho,ab,aa⟩:=Ai hk hv.2.1;rw[ab] at aa;exact⟨o,ho,V1 hR (λe' h' hk=>⟨hk.1,UQ q f _ e' h' hB.1.2 hk.2⟩) aa⟩;obtain⟨o,ho,ab,aa⟩:=Ai hk hv.2.2;rw[ab] at aa;exact⟨o,ho,V1 hR (λe' h' hk=>⟨hk.1,UQ r f _ e' h' hB.2 hk.2⟩) aa⟩
 | .four i j l m p q r s,0,listed,e,h,hB,_=>by unfold V2 at hB;cases hB
 | .four i j l m p q r s,f+1,listed,e,h,hB,hv=>by
   unfold V2 at hB;simp only[YC] at hB;have hr:=eq_of_beq hB.1.1.1.1;intro hR;refine⟨λh0=>(by rw[h0] at hr;cases hr),λk hk=>?_⟩;have ac:=hk;rw[hr] at ac;simp only[Y9,Xj,or_false] at ac;rcases ac with rfl|rfl|rfl|rfl;obtain⟨o,ho,ab,aa⟩:=Ai hk hv.1;rw[ab] at aa;exact⟨o,ho,V1 hR (λe' h' hk=>⟨hk.1,UQ p f _ e' h' hB.1.1.1.2 hk.2⟩) aa⟩;obtain⟨o,ho,ab,aa⟩:=Ai hk hv.2.1;rw[ab] at aa;exact⟨o,ho,V1 hR (λe' h' hk=>⟨hk.1,UQ q f _ e' h' hB.1.1.2 hk.2⟩) aa⟩;obtain⟨o,ho,ab,aa⟩:=Ai hk hv.2.2.1;rw[ab] at aa;exact⟨o,ho,V1 hR (λe' h' hk=>⟨hk.1,UQ r f _ e' h' hB.1.2 hk.2⟩) aa⟩;obtain⟨o,ho,ab,aa⟩:=Ai hk hv.2.2.2;rw[ab] at aa;exact⟨o,ho,V1 hR (λe' h' hk=>⟨hk.1,UQ s f _ e' h' hB.2 hk.2⟩) aa⟩
theorem Wi.wZ(bl){id:Nat}{ops Q e h}(plan)(hm:P.follows .mixedOrders=true)
  (hB:V2 bl .any ops plan ops.size (Array.replicate ops.size false)=true)(hv:Wc P ops.toList bl (Q .normal) plan e h):Wi P (.region id ops true) Q e h:=by
 intro Γ a w μ hI hE;exact wp_region_any hm (Mi (λe' h' μ' a' w' hk ab aa ac=>⟨e',h',μ',hk,ab,aa,ac⟩) ops.size _ (hI.drew) hE (.refl μ) (UQ plan _ _ e h hB hv))
end
theorem Z4.jU{P}{id:Nat}{ops Q e h}(bl)(plan)(hm:P.follows .mixedOrders=true)
  (hB:V2 bl .any ops plan ops.size (Array.replicate ops.size false)=true)(J)(h1:Wc P ops.toList bl (λe h=>Zb (J:=⟨J⟩) e h) plan e h)(h2:∀e h,J e h->Q .normal e h):
  Z4 P (c:=⟨.region id ops true⟩) (Q:=⟨Q⟩) e h:=by
 refine Wi.mono (Q:=λx e h=>match x with| .normal=>J e h|_=>False) (Wi.wZ bl plan hm hB h1) ?_;intro x e h hq;cases x with
 |normal=>exact h2 e h hq
 |_=>exact hq.elim
end Go.Am
end
namespace Go.Am
section
def Ks(S:Sch)(T O:Tbl)(j:Nat)(aa:Int)(_:Unit)(next:Unit->Option (Sch×Int)):Option (Sch×Int):=
 Z7 T.cols aa λa=>Z7 O.cols (j:Int) λb=>bif a.kind !=b.kind then some (S,9) else next ()
def Kp(name tn:ByteArray){ρ:Type}(k:Nat)(S:Sch)(next:Sch->Option ρ):Option ρ:=
 Z7 S.fks (k:Int) λf=>bif strEq f.table name then next {S with fks:=S.fks.set k ⟨tn,f.cols,f.ref⟩} else next S
def Ko(name tn:ByteArray){ρ:Type}(k:Nat)(S:Sch)(next:Sch->Option ρ):Option ρ:=
 Z7 S.cons (k:Int) λc=>bif strEq c.table name then next {S with cons:=S.cons.set k {c with table:=tn}} else next S
def Jx(T O:Tbl)(i j:Nat)(S:Sch):Option (Sch×Int):=
 Zp (T.pk.length<=O.cols.length/\0<O.cols.length/\0<T.cols.length/\T.cols.length+O.cols.length<=Zs) (some ({S with tables:=(S.tables.set i {T with cols:=T.cols++O.cols.drop T.pk.length}).take j++(S.tables.set i {T with cols:=T.cols++O.cols.drop T.pk.length}).drop (j+1)},0))
def Gf(S:Sch)(i:Nat)(name:ByteArray):Option (Sch×Int):=
 Z1 (ZY S name) λv=>bif !v.2 then some (S,4) else Z7 S.tables (i:Int) λT=>Z7 S.tables v.1 λO=>bif ((i:Int)==v.1) then some (S,9) else
 Z1 (AN O.pk (W3 T.pk.length)) λb=>bif !b then some (S,9) else
 Zc (Ks S T O) (λ_=>Z1 (BM S ⟨name,W3 T.pk.length,T.name⟩) λq=>bif q.2 !=0 then some (q.1,10) else
  Z1 (A2 q.1.fks λfk=>G7 fk name) λb=>bif b then some (q.1,10) else
  Z1 (BO q.1 name λc=>DU c T.pk.length T T.cols.length) λS2=>
  WI (Kp name T.name) (λS3=>WI (Ko name T.name) (Jx T O i v.1.toNat) S3.cons.length 0 S3) S2.fks.length 0 S2) T.pk 0 ()
set_option maxHeartbeats 2000000 in
theorem QL(h l tc fc oc ta fa oa S S')(i:Nat)(name)(r:Int)(hm:Is (Gf S i name) (S',r))(s:Sc h l S tc fc oc ta fa oa)(K)
  (hk:WV h l (ta++(fa++oa)) S' (.i r) K):
  Z3 prog 153 [.p l,.i (i:Int),.s name] h K:=by
 obtain⟨v,hv,hm⟩:=hm.bind;have dc:Z0 h ((h.qA (h.ep,80) [.d (.str name)]).next) []:=(Z0.refl.qA (.inr (Y7 _))).next;have s0:=s.frame dc;have eh:=s0.box;have dp:(h.qA (h.ep,80) [.d (.str name)]).next.box (h.ep,80)=some [.d (.str name)]:=sI
 refine Z3.ov Tryz.func153 ?_;have fp:=s.box;have bh:h.ep<((h.qA (h.ep,80) [.d (.str name)]).next).ep:=sI
 simp;generalize(h.qA (h.ep,80) [.d (.str name)]).next=HX at*;refine Z4.cu [0,1,2,3,4,5,6,7,8,9] (λe h'=>En e 188 [(0,.p l),(1,.i (i:Int)),(5,.p (h.ep,80)),(7,.i v.1),(8,.b v.2)]/\Z0 HX h' []) ?_ ?_;simp[eh,dp];refine Za (Z3.qD (UO S name v hv) ⟨.agg s0.frz,.one (.frz (.data rfl)),trivial⟩ rfl ?_);simp;exact⟨λ_ _ x=>x,Zb.of (by simp[Z0.refl.next])⟩;rintro e h1 ⟨hE,bg⟩;have dd:h1.box (h.ep,80)=some [.d (.str name)]:=by rw[bg.2 _ bh sI];exact dp
 have s1:=s0.frame bg;have ff:=s1.box;have hy:=dc.trans bg;simp[hE];cases hv2:v.2 with|false=>?_|true=>?_;rw[hv2] at hm;obtain⟨rfl,rfl⟩:=ZJ hm;simp[hE];exact hk _ _ s1.ows (hy.mn) (λk hk=>.inl hk);simp only[hv2,Xf,cond_false] at hm;obtain⟨T,hi,hm⟩:=hm.qG;obtain⟨O,fw,hj,hm⟩:=hm.get;obtain⟨j,ed⟩:∃j:Nat,v.1=j:=⟨v.1.toNat,oM⟩;rw[ed] at hE hj hm;simp at hj;have hlt:i<S.tables.length:=(Y0.1 hi).1;have b6:j<S.tables.length:=(Y0.1 hj).1;obtain⟨lt,c1,c2,B,tv⟩:=s1.tbl hi;obtain⟨cap,rfl⟩:=tv.hd;have bx:=tv.el.box;have r0:=tv.el.rd0 3 oM;have r1:=tv.el.rd 1 1 oM;have r2:=tv.el.rd 2 1 oM;simp at r0 r1 r2;obtain⟨d1,d2,tw⟩:=s1.jC bx hj;have q0:=tw.el.rd0 3 oM;simp at q0;simp;refine Z4.cut (Plan.qB [0,1,2,3,4,5,6,7,8,9,11] (.three 10 14 15 (Plan.qB [12] (.three 13 14 15 (Plan.qB [] (.two 14 15 (Plan.qB [15,16,17] .done) (Plan.qB [14,16,17] .done))) (Plan.qB [] (.two 13 15 (Plan.qB [15,16,17] .done) (Plan.qB [] (.two 13 16 (Plan.qB [16,17] .done) (Plan.qB [13,17] .done))))) (Plan.qB [] (.two 13 14 (Plan.qB [14,16,17] .done) (Plan.qB [] (.two 13 16 (Plan.qB [16,17] .done) (Plan.qB [13,17] .done))))))) (Plan.qB [] (.two 10 15 (Plan.qB [12] (.two 13 15 (Plan.qB [15,16,17] .done) (Plan.qB [] (.two 13 16 (Plan.qB [16,17] .done) (Plan.qB [13,17] .done))))) (Plan.qB [] (.two 10 16 (Plan.qB [12] (.two 13 16 (Plan.qB [16,17] .done) (Plan.qB [13,17] .done))) (Plan.qB [10,12,13,17] .done))))) (Plan.qB [] (.two 10 14 (Plan.qB [12] (.two 13 14 (Plan.qB [14,16,17] .done) (Plan.qB [] (.two 13 16 (Plan.qB [16,17] .done) (Plan.qB [13,17] .done))))) (Plan.qB [] (.two 10 16 (Plan.qB [12] (.two 13 16 (Plan.qB [16,17] .done) (Plan.qB [13,17] .done))) (Plan.qB [10,12,13,17] .done))))))) follows kR (λE h'=>Ek e E [(7,.i (j:Int))] [0,1,5]/\Z0 h1 h' []/\
  ∃p9 ad:Z2,p9≠ad/\(h1.ep<=p9.1/\p9.1<h'.ep)/\(h1.ep<=ad.1/\ad.1<h'.ep)/\E.get 9=.p p9/\E.get 10=.p ad/\h'.box p9=some [.d (.str T.name),c1,c2]/\h'.box ad=some [.d (.str O.name),d1,d2]) ?_ ?_
 .have cz:=Zm (s1.lt l sI);have ex:=Zm (s1.lt lt (by simp[tv.tm]));simp(maxDischargeDepth:=12) [hE,ff,hlt,b6,bx,r0,q0,cz,ex,BF]
  repeat' (with_reducible apply And.intro)
  all_goals first
   | (refine Zb.of ⟨?_,(((Z0.refl.qA (.inr ?_)).next.qA (.inr ?_)).next.qA (.inr ?_)).qA (.inr ?_),(h1.ep,144),(h1.ep+1,160),?_,⟨?_,?_⟩,⟨?_,?_⟩,?_,?_,?_,?_⟩
      all_goals first
       |(simp[hE];done)
       |(simp<;>omega))
   | (refine Zb.of ⟨?_,(((Z0.refl.qA (.inr ?_)).next.qA (.inr ?_)).next.qA (.inr ?_)).qA (.inr ?_),(h1.ep+1,144),(h1.ep,160),?_,⟨?_,?_⟩,⟨?_,?_⟩,?_,?_,?_,?_⟩
      all_goals first
       |(simp[hE];done)
       |(simp<;>omega))
 rintro e h2 ⟨hF,hs2,p9,ad,_,ek,dm,h9,ef,b9,ew⟩;have hE:=And.intro h9 (And.intro ef (hF.an hE));have s2:=s1.frame hs2;have hb2:=s2.box;have da:=hy.trans hs2;have dk:h2.box (h.ep,80)=some [.d (.str name)]:=by rw[hs2.2 _ (Y3 bh bg.1) sI];exact dd
 have b0:h2.box lt=some B:=by rw[hs2.2 _ (s1.lt lt (by simp[tv.tm])) sI];exact bx
 have tT:∀h',Z0 h2 h' []->TblV h' l S (.mrow lt 0 S.tables.length cap) fc oc ta fa oa i T lt c1 c2 B:=λh' ab=>by
  have e9:=ab.2 lt (s2.lt lt (by simp[tv.tm])) sI;rw[b0] at e9;obtain⟨a1,a2,aj⟩:=(s2.frame ab).jC e9 hi;obtain⟨rfl,rfl⟩:a1=c1/\a2=c2:=by
   have:=aj.el.rd0 3 oM
   rw[r0] at this;simp at this;exact⟨this.1.symm,this.2.symm⟩
  exact aj
 have tO:∀h',Z0 h2 h' []->TblV h' l S (.mrow lt 0 S.tables.length cap) fc oc ta fa oa j O lt d1 d2 B:=λh' ab=>by
  have e9:=ab.2 lt (s2.lt lt (by simp[tv.tm])) sI;rw[b0] at e9;obtain⟨a1,a2,aj⟩:=(s2.frame ab).jC e9 hj;obtain⟨rfl,rfl⟩:a1=d1/\a2=d2:=by
   have:=aj.el.rd0 3 oM
   rw[q0] at this;simp at this;exact⟨this.1.symm,this.2.symm⟩
  exact aj
 simp[hE,b9];refine WQ tv.n2.1 ?_;simp[hE];have hz:Z0 h2 ((h2.qA (h2.ep,176) [C.d (D.int IntKind.i64 0)]).next.qA (h2.ep,176) [C.d (D.int IntKind.i64 T.pk.length)]) []:=((Z0.refl.qA (.inr (Y7 _))).next).qA (.inr (Y7 _));generalize hX2:(h2.qA (h2.ep,176) [C.d (D.int IntKind.i64 0)]).next.qA (h2.ep,176) [C.d (D.int IntKind.i64 T.pk.length)]=HB at hz|-;have bz:HB.box (h2.ep,176)=some [C.d (D.int IntKind.i64 T.pk.length)]:=by rw[<-hX2];simp
 have dj:h2.ep<HB.ep:=by rw[<-hX2];simp
 have du:=da.trans hz;have eo:HB.box p9=some [.d (.str T.name),c1,c2]:=by rw[hz.2 _ ek.2 sI];exact b9
 have b7:HB.box ad=some [.d (.str O.name),d1,d2]:=by rw[hz.2 _ dm.2 sI];exact ew
 have a7:T.pk.length<=Zs:=tv.n2.2;have fo:h.ep<h1.ep:=Y3 bh bg.1;have et:=hs2.1;have eb:HB.box (h.ep,80)=some [.d (.str name)]:=by rw[hz.2 _ (by simp<;>omega) sI];exact dk
 cases hij:(i:Int)==(j:Int) with|true=>?_|false=>?_;simp only[hij,cond_true] at hm;obtain⟨rfl,rfl⟩:=ZJ hm;refine Z4.cu [0,1,2,3,4,5,6,7,8,9,10] (λe h'=>En e 188 [(55,.b true)]/\h'=HB) ?_ ?_;simp[hE,hij];exact⟨Zo.refl _,Zb.of ⟨by simp[hE],rfl⟩⟩;rintro e h3 ⟨hE,rfl⟩;simp[hE];exact hk _ _ (s.frame du).ows (du.mn) (λk hk=>.inl hk);simp only[hij,cond_false] at hm;obtain⟨b,cn,hm⟩:=hm.bind;have fi:¬(i:Int)=(j:Int):=by simpa using hij
 have c6:¬i=j:=oM;refine Z4.cu [0,1,2,3,4,5,6,7,8,9,10] (λE h'=>Ek e E [(9,.p p9),(10,.p ad),(11,.p (h2.ep,176)),(55,.b !b)] [0,1,5,7]/\Z0 HB h' []) ?_ ?_;simp[hE,hij,b7,bz];refine Za (Ea _ T.pk.length a7 _ (λpc g mp hs3 d7 bj=>?_));simp[hE];refine⟨bj,?_⟩;rw[Uo] at mp;refine Za (Z3.qD (LA O.pk (W3 T.pk.length) b cn) ⟨.one (.frz ((tO g (hz.trans hs3)).f2 _ .refl)),.one (.frz ((Ow.rL (n:=1) mp rfl sI).rT)),trivial⟩ rfl ?_);simp[hE];exact⟨λ_ _ x=>x,Zb.of ⟨by simp[hE],hs3.next⟩⟩;rintro e h3 ⟨hF,hs3⟩;have hE:=hF.an hE;have ce:=hz.trans hs3;have bt:=da.trans ce;have s3:=s.frame bt;simp[hE];cases b with|false=>?_|true=>?_;obtain⟨rfl,rfl⟩:=ZJ hm;simp[hE];exact hk _ _ s3.ows (bt.mn) (λk hk=>.inl hk);simp only[Xf,cond_false] at hm;have br:h3.box p9=some [.d (.str T.name),c1,c2]:=by rw[hs3.2 _ oM sI];exact eo
 have b1:h3.box ad=some [.d (.str O.name),d1,d2]:=by rw[hs3.2 _ oM sI];exact b7
 have b3:h3.box (h2.ep,176)=some [C.d (D.int IntKind.i64 T.pk.length)]:=by rw[hs3.2 _ (by simpa using dj) sI];exact bz
 have d6:h3.box (h.ep,80)=some [.d (.str name)]:=by rw[hs3.2 _ (by simp<;>omega) sI];exact eb
 simp[hE,br];refine WQ tv.n2.1 ?_;simp[hE];have t3:=tT h3 ce;have u3:=tO h3 ce;refine Z4.for (xs:=T.pk) (s0:=()) (λk _ E g=>Ek e E [(57,.one c2),(58,.i (T.pk.length:Int)),(59,.i (k:Int))] [0,1,5,7,9,10,11]/\g=h3) hm ⟨by simp[hE],rfl⟩ ?_ ?_;rintro k _ e g ⟨hF,rfl⟩ am hm;have hE:=hF.an hE;simp only[Ks] at hm;obtain⟨ca,fh,bl,hm⟩:=hm.get;obtain⟨cb,dx,hm⟩:=hm.qG;have hw:IntKind.i64.wrap ((k:Int)+1)=(k:Int)+1:=Y5 _ (by have fu:T.pk.length<=2097152:=a7;omega);obtain⟨lp,cp,Bp,rfl,ep,-⟩:=t3.e2 k _ (Y1 am);have bp:=ep.box;have rp:=ep.rd0 1 oM;obtain⟨n,d8⟩:∃n:Nat,T.pk[k]=n:=⟨(T.pk[k]).toNat,oM⟩;rw[d8] at rp bl;simp at rp bl;have cz:n<T.cols.length:=(Y0.1 bl).1;have e6:k< O.cols.length:=(Y0.1 dx).1;obtain⟨l1,fv,B1,rfl,d5,-⟩:=t3.e1 n ca bl;obtain⟨l2,fq,B2,rfl,dt,-⟩:=u3.e1 k cb dx;have ey:=d5.box;have e5:=dt.box;have q1:=d5.rd 1 1 oM;have q2:=dt.rd 1 1 oM;simp at q1 q2;simp[hE,am,bp,rp];refine Z4.cu [0,1,2,3,4,5,6,7,8,9,10,11,12] (λE g'=>Ek e E [(57,.one (.mrow lp 0 T.pk.length cp)),(76,.b (ca.kind != cb.kind))] [0,1,5,7,9,10,11,58,59]/\g'=g) ?_ ?_;simp[hE,br,b1,cz,e6,ey,e5,q1,q2];exact Zb.of ⟨by simp[hE],rfl⟩;rintro e g' ⟨hF,rfl⟩;have hE:=hF.an hE;simp[hE];cases hkk:ca.kind != cb.kind with|true=>?_|false=>?_;simp only[hkk,cond_true] at hm;obtain⟨rfl,rfl⟩:=ZJ hm;simp[hE];exact hk _ _ s3.ows (bt.mn) (λk hk=>.inl hk);simp only[hkk,cond_false] at hm;simp[hE,hw];exact Ze.of () ⟨⟨by simp[hE],rfl⟩,hm⟩;rintro _ e g ⟨hF,rfl⟩ hm;have hE:=hF.an hE;obtain⟨q,hq,hm⟩:=hm.bind;simp[hE];have fg:=hs3.1;refine Z4.jU (λk=>k == 3) (Plan.qB [0,1,2,4,5,3,6,7,8] .done) follows kR (λE g'=>Ek e E [(14,.i q.2)] [0,1,5,7,9,10,11]/\∃ ae aa,Sc g' l q.1 (.mrow lt 0 S.tables.length cap) ae oc ta aa oa/\Z0 g g' (l::fa)/\(∀ k ∈ aa,k ∈ fa)) ?_ ?_;simp[hE,d6,br,b3,Plan.qB,Wc,planOps]
 refine Za (Ea _ T.pk.length a7 _ (λpc g2 mp al d7 bj=>?_));simp[hE];refine⟨bj,?_⟩;refine Za (Qe g2 l _ fc oc ta fa oa S q.1 ⟨name,W3 T.pk.length,T.name⟩ [.d (.str name),pc,.d (.str T.name)] q.2 hq (s3.frame al) (λh' ab=>⟨.data rfl,?_,.data rfl,trivial⟩) _ (λg3 ae aa s4 ee ah=>?_));rw[Uo] at mp;exact (Ow.rL (n:=1) (mp.frame λk hk=>ab.2 k (d7 k hk).2 sI) rfl sI).rT;simp[hE];exact Zb.of ⟨by simp[hE],ae,aa,s4,(al.mn).trans ee,ah⟩;rintro e ga ⟨hF,ae,aa,s4,al,ah⟩;have hE:=hF.an hE;obtain⟨S1,q2⟩:=q;simp only at hq hm hE s4;have cy:=SN hq;have eg:S1.tables[i]? = some T:=by rw[cy];exact hi
 have cc:Z0 h ga (l::(ta++(fa++oa))):=(bt.mn).trans (al.mono λk hk=>by simp only[Y9,Y2] at hk |-;exact hk.imp_right λh=>.inr (.inl h));have fresh:∀ k:Z2,h.ep<=k.1->k ∉ l::(ta++(fa++oa)):=λk hk h2=>by have:=s.lt k h2;omega
 have af:∀ k:Z2,h.ep<=k.1->k ∉ l::fa:=λk hk h2=>fresh k hk (by simp only[Y9,Y2] at h2 |-;exact h2.imp_right λh=>.inr (.inl h));have cv:ga.box p9=some [.d (.str T.name),c1,c2]:=by rw[al.2 _ oM (af _ oM)];exact br
 have dh:ga.box ad=some [.d (.str O.name),d1,d2]:=by rw[al.2 _ oM (af _ oM)];exact b1
 have b4:ga.box (h2.ep,176)=some [C.d (D.int IntKind.i64 T.pk.length)]:=by rw[al.2 _ (by simp<;>omega) (af _ (by simp<;>omega))];exact b3
 have cl:ga.box (h.ep,80)=some [.d (.str name)]:=by rw[al.2 _ (by simp<;>omega) (af _ sI)];exact d6
 have fl:=al.1;have bv:=s.nd;simp only[Xm,Yg,Y2,not_or] at bv;have bd:∀ k ∈ ta,k≠l/\k ∉ fa/\k ∉ oa:=λk hk=>⟨λhe=>bv.1.1 (he ▸ hk),λh2=>bv.2.2.2 k hk k (.inl h2) rfl,λh2=>bv.2.2.2 k hk k (.inr h2) rfl⟩;have eu:ga.box lt=some B:=by
  rw[al.2 lt (s3.lt lt (by simp[tv.tm])) (λh2=>by
   have:=bd lt tv.tm
   simp only[Y9] at h2;exact h2.elim this.1 this.2.1)]
  exact t3.el.box
 have dr:∀ {h':HS} {S9:Sch} {bq bn:C} {bw bu:List Z2},Sc h' l S9 (.mrow lt 0 S.tables.length cap) bq bn ta bw bu->S9.tables=S.tables->h'.box lt=some B->TblV h' l S9 (.mrow lt 0 S.tables.length cap) bq bn ta bw bu i T lt c1 c2 B/\TblV h' l S9 (.mrow lt 0 S.tables.length cap) bq bn ta bw bu j O lt d1 d2 B:=λ{h' S9 bq bn bw bu} s9 ht9 a8=>by
  refine⟨?_,?_⟩;obtain⟨a1,a2,aj⟩:=s9.jC a8 (i:=i) (T:=T) (by rw[ht9];exact hi);obtain⟨rfl,rfl⟩:a1=c1/\a2=c2:=by
   have:=aj.el.rd0 3 oM
   rw[r0] at this;simp at this;exact⟨this.1.symm,this.2.symm⟩
  exact aj;obtain⟨a1,a2,aj⟩:=s9.jC a8 (i:=j) (T:=O) (by rw[ht9];exact hj);obtain⟨rfl,rfl⟩:a1=d1/\a2=d2:=by
   have:=aj.el.rd0 3 oM
   rw[q0] at this;simp at this;exact⟨this.1.symm,this.2.symm⟩
  exact aj
 have ks:∀ k ∈ ta++(aa++oa),k ∈ ta++(fa++oa):=λk hk=>by simp only[Y2] at hk |-;exact hk.imp_right λh=>h.imp_left (ah k)
 simp[hE];cases hq0:q2 != 0 with|true=>?_|false=>?_;simp only[hq0,cond_true] at hm;obtain⟨rfl,rfl⟩:=ZJ hm;simp[hE];exact hk _ _ s4.ows cc (λk hk=>.inl (ks k hk));simp only[hq0,cond_false] at hm;obtain⟨b,cn,hm⟩:=hm.bind;have fd:=s4.box;simp[hE,fd];refine Za (Z3.qD (Ia S1.fks 176 [[.str name]] (λfk=>G7 fk name) (λxa v hv=>Qz xa name v hv) b cn) ⟨.one (.frz s4.wS),.one (.fn rfl ?_),trivial⟩ rfl ?_);intro jj cp ds hj hd;cases jj with
 |zero=>?_
 |succ jj=>simp at hj
 simp at hj hd;subst hj hd;exact⟨_,cl,Zx.qL (ds:=[.str name])⟩;have ci:Z0 ga ga.next []:=Z0.refl.next;have s5:=s4.frame ci;simp;cases b with|true=>?_|false=>?_;obtain⟨rfl,rfl⟩:=ZJ hm;simp[hE];exact hk _ _ s5.ows (cc.trans (ci.mn)) (λk hk=>.inl (ks k hk));simp only[cond_false] at hm;obtain⟨S2,hm2,hm⟩:=hm.bind;simp[hE,cv];refine WQ tv.n1.1 ?_;have ej:=Zm (l:=(h.ep,80)) (n:=ga.ep) (by simp<;>omega);simp (maxDischargeDepth:=12) [hE,ej,cl,BF];have bo:Z0 ga ((ga.next.qA (ga.ep+1,240) [C.d (D.int IntKind.i64 0)]).next.qA (ga.ep+1,240) [C.d (D.int IntKind.i64 T.cols.length)]) []:=((ci.qA (.inr sI)).next).qA (.inr sI);generalize hX7:(ga.next.qA (ga.ep+1,240) [C.d (D.int IntKind.i64 0)]).next.qA (ga.ep+1,240) [C.d (D.int IntKind.i64 T.cols.length)]=HC at bo |-;have s6:=s4.frame bo;have df:ga.ep+1 < HC.ep:=by rw[<- hX7];simp
 have em:HC.box (ga.ep+1,240)=some [C.d (D.int IntKind.i64 T.cols.length)]:=by rw[<- hX7];simp
 have kC:∀ k:Z2,k.1 < ga.ep->HC.box k=ga.box k:=λk hk=>bo.2 k hk sI;have ax:∀ k:Z2,h.ep<=k.1->k ∉ aa++oa:=λk hk h2=>fresh k hk (by simp only[Y9,Y2] at h2 |-;exact .inr (.inr (h2.imp_left (ah k))));have dy:HC.box lt=some B:=by rw[kC lt (s4.lt lt (by simp[tv.tm]))];exact eu
 obtain⟨t6,u6⟩:=dr s6 cy dy;have c7:∀ h',Z0 HC h' (aa++oa)->VN h' ([Cap.lab (h2.ep,176),Cap.lab p9,Cap.lab (ga.ep+1,240)].map WX) (We [[.int .i64 T.pk.length],T.enc,[.int .i64 T.cols.length]]):=λh' ab=>by
  refine⟨.one (.ptr (cs:=[C.d (D.int IntKind.i64 T.pk.length)]) ?_ (Zx.qL (ds:=[.int .i64 T.pk.length]))),.one (.ptr (cs:=[.d (.str T.name),c1,c2]) ?_ (s6.wW t6 eg h' λk hk=>ab.2 k (s6.lt k (by simp[hk])) λh2=>?_)),.one (.ptr (cs:=[C.d (D.int IntKind.i64 T.cols.length)]) ?_ (Zx.qL (ds:=[.int .i64 T.cols.length]))),trivial⟩;rw[ab.2 _ (by simp<;>omega) (ax _ (by simp<;>omega)),kC _ (by simp<;>omega)];exact b4;rw[ab.2 _ oM (ax _ oM),kC _ oM];exact cv
  have:=bd k hk
  rcases Y2.1 h2 with h2 | h2;exact this.2.1 (ah k h2);exact this.2.2 h2;rw[ab.2 _ (by simpa using df) (ax _ (by simp<;>omega))];exact em
 refine Za (Lk HC l _ ae oc ta aa oa S1 S2 name 178 [Cap.lab (h2.ep,176),Cap.lab p9,Cap.lab (ga.ep+1,240)] [[.int .i64 T.pk.length],T.enc,[.int .i64 T.cols.length]] _ hm2 s6 c7 (λx v hv=>Qy x T.pk.length T T.cols.length v hv) _ (λg7 s7 e0=>?_));have e4:S2.tables=S.tables:=(T6 hm2).trans cy;have fb:=s7.box;simp[hE,fb];refine WQ s7.len.2.1.1 ?_;simp[hE];have cx:∀ h',Z0 HC h' (aa++oa)->h'.box (h.ep,80)=some [.d (.str name)]/\h'.box p9=some [.d (.str T.name),c1,c2]/\h'.box ad=some [.d (.str O.name),d1,d2]/\h'.box (h2.ep,176)=some [C.d (D.int IntKind.i64 T.pk.length)]/\h'.box lt=some B:=λh' ab=>by
  refine⟨?_,?_,?_,?_,?_⟩;rw[ab.2 _ (by simp<;>omega) (ax _ sI),kC _ (by simp<;>omega)];exact cl;rw[ab.2 _ oM (ax _ oM),kC _ oM];exact cv;rw[ab.2 _ oM (ax _ oM),kC _ oM];exact dh;rw[ab.2 _ (by simp<;>omega) (ax _ (by simp<;>omega)),kC _ (by simp<;>omega)];exact b4;rw[ab.2 lt (s6.lt lt (by simp[tv.tm])) λh2=>?_];exact dy
  have:=bd lt tv.tm
  rcases Y2.1 h2 with h2 | h2;exact this.2.1 (ah lt h2);exact this.2.2 h2
 refine Z4.count (N:=(S2.fks.length:Int)) (s0:=S2) (λk S3 E g=>Ek e E [(105,.i (S2.fks.length:Int)),(106,.i (k:Int))] [0,1,5,7,9,10,11]/\S3.fks.length=S2.fks.length/\S3.tables=S.tables/\Sc g l S3 (.mrow lt 0 S.tables.length cap) ae oc ta aa oa/\Z0 HC g (aa++oa)) (by simpa using hm) ⟨by simp[hE],rfl,e4,s7,e0⟩ ?_ ?_;rintro k S3 e g ⟨hF,be,az,s8,ap⟩ hlt8 hm;have hE:=hF.an hE;simp only[Kp] at hm;obtain⟨f,hf,hm⟩:=hm.qG;have am:k < S2.fks.length:=oM
 have ag:k < S3.fks.length:=oM;have cj:=s8.len.2.1.2;simp only[U4] at cj;have hw:IntKind.i64.wrap ((k:Int)+1)=(k:Int)+1:=Y5 _ oM;have aw:=s8.box;obtain⟨lf,cf,Bf,rfl,ay,en⟩:=s8.fkH hf;obtain⟨cd,_,c1f,el,-,-,w0,-⟩:=s8.fkK ay hf;have rf:=el.rd0 1 oM;simp at rf;obtain⟨cq,cm,dz,dl,ea⟩:=cx g ap;simp[hE,am];refine Z4.cu [0,1,2,3,4,5,6,7,8,9] (λE g'=>Ek e E [(9,.p p9),(10,.p ad),(11,.p (h2.ep,176)),(105,.i (S2.fks.length:Int)),(106,.i (k:Int)),(16,.i (k:Int)),(118,.b (strEq f.table name))] [0,1,5,7]/\g'=g) ?_ ?_;simp[hE,ag,aw,cq,ay,rf];exact Zb.of ⟨by simp[hE],rfl⟩;rintro e g' ⟨hF,rfl⟩;have hE:=hF.an hE;simp[hE];cases hbt:strEq f.table name with|false=>?_|true=>?_;simp only[hbt,cond_false] at hm;simp[hE,hw];exact Ze.of S3 ⟨⟨by simp[hE],be,az,s8,ap⟩,hm⟩;simp only[hbt,cond_true] at hm;simp;refine Z4.cu [0,1,2,3,4,5,6,7,8,9] (λE au=>Ek e E [(9,.p p9),(10,.p ad),(11,.p (h2.ep,176)),(105,.i (S2.fks.length:Int)),(106,.i (k:Int))] [0,1,5,7]/\Sc au l { S3 with fks:=S3.fks.set k ⟨T.name,f.cols,f.ref⟩ } (.mrow lt 0 S.tables.length cap) (.mrow lf 0 S3.fks.length cf) oc ta aa oa/\Z0 HC au (aa++oa)) ?_ ?_;simp[hE,ag,aw,cm,ay];exact⟨oM,Zb.of ⟨by simp[hE],w0 T.name,ap.qA (.inl (by simp[cd]))⟩⟩;rintro e au ⟨hF,s9,ba⟩;have hE:=hF.an hE;simp[hE,hw];exact Ze.of ({ S3 with fks:=S3.fks.set k ⟨T.name,f.cols,f.ref⟩ }:Sch) ⟨⟨by simp[hE],by simpa using be,az,s9,ba⟩,hm⟩;rintro k S3 e g ⟨hF,_,az,s8,ap⟩ hge hm;have hE:=hF.an hE;have bk:¬ k < S2.fks.length:=oM
 have aw:=s8.box;simp[hE,bk,aw];refine WQ s8.len.2.2.1 ?_;simp[hE];refine Z4.count (N:=(S3.cons.length:Int)) (s0:=S3) (λk S4 E g=>Ek e E [(133,.i (S3.cons.length:Int)),(134,.i (k:Int))] [0,1,5,7,9,10,11]/\S4.cons.length=S3.cons.length/\S4.tables=S.tables/\Sc g l S4 (.mrow lt 0 S.tables.length cap) ae oc ta aa oa/\Z0 HC g (aa++oa)) (by simpa using hm) ⟨by simp[hE],rfl,az,s8,ap⟩ ?_ ?_;rintro k S4 e g ⟨hF,be,az,s8,ap⟩ hlt8 hm;have hE:=hF.an hE;simp only[Ko] at hm;obtain⟨f,hf,hm⟩:=hm.qG;have am:k < S3.cons.length:=oM
 have ag:k < S4.cons.length:=oM;have cj:=s8.len.2.2.2;simp only[U4] at cj;have hw:IntKind.i64.wrap ((k:Int)+1)=(k:Int)+1:=Y5 _ oM;have aw:=s8.box;obtain⟨lf,cf,Bf,rfl,ay,en⟩:=s8.wF hf;obtain⟨cd,_,el,w0,-,-⟩:=s8.jT ay hf;have rf:=el.rd0 1 oM;simp at rf;obtain⟨cq,cm,dz,dl,ea⟩:=cx g ap;simp[hE,am];refine Z4.cu [0,1,2,3,4,5,6,7,8,9] (λE g'=>Ek e E [(9,.p p9),(10,.p ad),(11,.p (h2.ep,176)),(133,.i (S3.cons.length:Int)),(134,.i (k:Int)),(17,.i (k:Int)),(146,.b (strEq f.table name))] [0,1,5,7]/\g'=g) ?_ ?_;simp[hE,ag,aw,cq,ay,rf];exact Zb.of ⟨by simp[hE],rfl⟩;rintro e g' ⟨hF,rfl⟩;have hE:=hF.an hE;simp[hE];cases hbt:strEq f.table name with|false=>?_|true=>?_;simp only[hbt,cond_false] at hm;simp[hE,hw];exact Ze.of S4 ⟨⟨by simp[hE],be,az,s8,ap⟩,hm⟩;simp only[hbt,cond_true] at hm;simp;refine Z4.cu [0,1,2,3,4,5,6,7,8,9] (λE au=>Ek e E [(9,.p p9),(10,.p ad),(11,.p (h2.ep,176)),(133,.i (S3.cons.length:Int)),(134,.i (k:Int))] [0,1,5,7]/\Sc au l { S4 with cons:=S4.cons.set k { f with table:=T.name } } (.mrow lt 0 S.tables.length cap) ae (.mrow lf 0 S4.cons.length cf) ta aa oa/\Z0 HC au (aa++oa)) ?_ ?_;simp[hE,ag,aw,cm,ay];exact⟨oM,Zb.of ⟨by simp[hE],w0 T.name,ap.qA (.inl (by simp[cd]))⟩⟩;rintro e au ⟨hF,s9,ba⟩;have hE:=hF.an hE;simp[hE,hw];exact Ze.of ({ S4 with cons:=S4.cons.set k { f with table:=T.name } }:Sch) ⟨⟨by simp[hE],by simpa using be,az,s9,ba⟩,hm⟩;rintro k S4 e g ⟨hF,_,ar,s9,ba⟩ hge hm;have hE:=hF.an hE;have bk:¬ k < S3.cons.length:=oM
 simp only[Jx] at hm;obtain⟨⟨di,b8,hc0,d9⟩,hm⟩:=hm.chk;obtain⟨rfl,rfl⟩:=ZJ hm;simp[hE,bk];obtain⟨_,_,dg,d4,bm⟩:=cx g ba;obtain⟨t9,u9⟩:=dr s9 ar bm;have de:i < S4.tables.length:=by rw[ar];exact hlt
 have ei:j < S4.tables.length:=by rw[ar];exact b6
 have a8:=s9.box;have e7:S.tables.length=S4.tables.length:=by rw[ar]
 obtain⟨lo,cpo,Bo,ez,-,-⟩:=u9.e1 0 _ (Y1 b8);have mo:=u9.m1 (by intro h0;simp[h0] at b8);subst ez;have d3:O.cols.length<=cpo:=by rcases mo.2.2 with ⟨h2,_⟩ | ⟨l',cap',sp,h2,h3,h4⟩;simp at h2;simp[h2] at b8;simp at h2;obtain⟨rfl,rfl⟩:=h2;rw[WL mo.1] at h4;simp at h4;omega
 have fm:T.cols.length+O.cols.length<=2097152:=d9;have dn:=t9.el.rd 1 1 oM;simp at dn;refine Z4.cut (Plan.qB [0,1,2,4,5,6,7,8,9,10,11,12,13,14,15,16] (.two 3 17 (Plan.qB [17,18,19,20] .done) (Plan.qB [3,18,19,20] .done))) follows kR (λE g'=>Ek e E [] [0,7]/\∃ ta',Sc g' l { S4 with tables:=S4.tables.set i { T with cols:=T.cols++O.cols.drop T.pk.length } } (.mrow lt 0 S.tables.length cap) ae oc ta' aa oa/\Z0 g g' ta/\∀ k ∈ ta',k ∈ ta\/g.ep<=k.1) ?_ ?_
 .simp[hE,a8,de,e7,bm,dn,dg,d4];refine WM ⟨di,d3⟩ (λ_=>?_) (λft=>?_)
  .have ch:=mo.tail T.pk.length di;simp[hE,a8];refine⟨?_,?_⟩
   all_goals
    refine W5 (by simp;exact⟨rfl,rfl⟩) sI sI sI (t9.m1 (by intro h0;simp[h0] at hc0)) ch (by simp<;>omega) (λc' g' cg ac aq=>?_);have bf:g'.box lt=some B:=by
     rw[ac.2 lt (s9.lt lt (by simp[tv.tm])) λh2=>(t9.l1 lt h2).2 rfl];exact bm
    have bc:g'.box l=some [.mrow lt 0 S.tables.length cap,ae,oc]:=s9.keep ac λk hk=>.inl (t9.l1 k hk).1;obtain⟨ta',ak,ck⟩:=t9.s1 g' c' (T.cols++O.cols.drop T.pk.length) (by simpa[Xg] using cg) ac (λk hk=>(aq k hk).imp_right λh2=>⟨λh3=>by have:=s9.lt k h3;omega,h2.2⟩);have d0:=t9.el.le;simp[hE,hlt,bf,bc];refine⟨oM,Zb.of ⟨by simp[hE],ta',ak,(ac.mono λk hk=>(t9.l1 k hk).1).qA (.inl t9.tm),λk hk=>?_⟩⟩;rcases ck k hk with h2 | h2;exact .inl h2;rcases aq k h2 with h3 | h3;exact .inl (t9.l1 k h3).1;exact .inr h3.1
  have cw:O.cols.drop T.pk.length=[]:=YQ oM;have ch:Zk g 3 .z ((O.cols.map λc=>c.enc.map C.d).drop T.pk.length):=by rw[<- Xg,cw];exact (MR.z).rd
  simp[hE,a8];refine⟨?_,?_⟩
  all_goals
   refine W5 (by simp;exact⟨rfl,rfl⟩) sI sI sI (t9.m1 (by intro h0;simp[h0] at hc0)) ch (by simp<;>omega) (λc' g' cg ac aq=>?_);have bf:g'.box lt=some B:=by
    rw[ac.2 lt (s9.lt lt (by simp[tv.tm])) λh2=>(t9.l1 lt h2).2 rfl];exact bm
   have bc:g'.box l=some [.mrow lt 0 S.tables.length cap,ae,oc]:=s9.keep ac λk hk=>.inl (t9.l1 k hk).1;obtain⟨ta',ak,ck⟩:=t9.s1 g' c' (T.cols++O.cols.drop T.pk.length) (by simpa[Xg] using cg) ac (λk hk=>(aq k hk).imp_right λh2=>⟨λh3=>by have:=s9.lt k h3;omega,h2.2⟩);have d0:=t9.el.le;simp[hE,hlt,bf,bc];refine⟨oM,Zb.of ⟨by simp[hE],ta',ak,(ac.mono λk hk=>(t9.l1 k hk).1).qA (.inl t9.tm),λk hk=>?_⟩⟩;rcases ck k hk with h2 | h2;exact .inl h2;rcases aq k h2 with h3 | h3;exact .inl (t9.l1 k h3).1;exact .inr h3.1
 rintro e g' ⟨hF,ta',ak,ac,b5⟩;have hE:=hF.an hE;have c8:(S4.tables.set i { T with cols:=T.cols++O.cols.drop T.pk.length })[j]? = some O:=by rw[YS c6,ar];exact hj
 obtain⟨xs,a1,a2,lx,lr,capr,Br,e1,e2,_,_,_,_,_,e8⟩:=ak.wY (T:=O) c8;have dv:=ak.box;have e3:=ak.len.1.2;simp only[U4,YT] at e3 e2;have hw:IntKind.i64.wrap ((j:Int)+1)=((j+1:Nat):Int):=Y5 _ oM;simp[hE,dv,hw];refine Za (Lo _ _ xs j (j+1) e1 oM oM _ (λc' g2 hm2 dq bh _ hlab=>?_));have bi:Z0 g' g2 (labs (.mrow lt 0 S.tables.length cap)):=⟨by rw[bh];exact Y7 _,λk _ hk=>dq k hk⟩;have bf:g2.box l=some [.mrow lt 0 S.tables.length cap,ae,oc]:=ak.keep bi λk hk=>.inl (ak.qJ.1 k hk);obtain⟨fx,ec,dw,-⟩:=e8 g2 c' hm2 bi hlab;simp[hE,bf];have bb:Z0 h g (l::(ta++(fa++oa))):=(cc.trans (bo.mn)).trans (ba.mono λk hk=>by simp only[Y9,Y2] at hk |-;exact .inr (.inr (hk.imp_left (ah k))));have fj:=bb.1;refine hk _ _ ec.ows ((((bb.trans (ac.mono λk hk=>by simp[hk])).trans' bi λk hk=>?_)).qA (.inl sI)) λk hk=>?_;exact (b5 k (ak.qJ.1 k hk)).imp (λh=>by simp[h]) λh=>oM
 simp only[Y2] at hk;rcases hk with hk | hk;exact (b5 k (dw k hk)).imp (λh=>by simp[h]) λh=>oM
 exact .inl (ks k (by simp only[Y2];exact .inr hk))
def KN(S:Sch):Prop:=(S.tables.length<=Zs/\S.fks.length<=Zs/\S.cons.length<=Zs)/\(∀T∈S.tables,T.cols.length<=Zs/\T.pk.length<=Zs)/\∀f∈S.fks,f.cols.length<=Zs
instance(S:Sch):Decidable (KN S):=inferInstanceAs (Decidable (_/\_/\_))
def KM(x:Stp):Prop:=x.cols.length<=Zs/\x.newTable.cols.length<=Zs/\x.newTable.pk.length<=Zs/\x.fk.cols.length<=Zs
instance(x:Stp):Decidable (KM x):=inferInstanceAs (Decidable (_/\_))
def Z89(h:HS)(S:Sch)(K:V->HS->Prop):Prop:=∀tc fc oc qt qf qo h',Part h' Wn tc qt (S.tables.map Tbl.enc)->Part h' Vb fc qf (S.fks.map Fk.enc)->Part h' AC oc qo (S.cons.map Cons.enc)->(Z5 tc qt++(Z5 fc qf++Z5 oc qo)).Nodup->
 (∀k∈Z5 tc qt++(Z5 fc qf++Z5 oc qo),h.ep<=k.1/\k.1<h'.ep)->Z0 h h' []->K (.agg [tc,fc,oc]) h'
theorem RK(h:HS)(x:Stp)(hl:KM x)(K:V->HS->Prop)(hk:PI h BE x.enc K):
  Z3 prog 140 [.agg (x.enc.map C.d)] h K:=by
 refine Z3.jE Tryz.func140 rfl kR λhg=>?_;refine Z3.ov Tryz.func140 ?_;obtain⟨l1,l2,l3,l4⟩:=hl;simp;refine Za (CN _ _ _ (Zk.data (n:=1) (ts:=x.cols.map Zd) sI (by simpa using l1)) _ (λc6 g1 m6 ak aq au=>?_));have ag:Z0 h (((h.qA (h.ep,16) (x.enc.map C.d)).next.qA (h.ep+1,32) [C.d (D.int IntKind.i64 0),C.d (D.str empty),C.d (D.str empty),C.d (D.str empty),C.d (D.str empty),C.d (D.int IntKind.i64 0),C.nil,C.d (D.str empty),C.d (D.int IntKind.i64 0),C.d (D.int IntKind.i64 0),C.d (D.str empty),C.d (D.str empty),C.nil,C.nil,C.d (D.str empty),C.d (D.int IntKind.i64 0),C.d (D.str empty),C.d (D.int IntKind.i64 0),C.d (D.int IntKind.i64 0),C.d (D.int IntKind.i64 0),C.d (D.str empty),C.d (D.str empty),C.nil,C.d (D.str empty)]).next) []:=(((Z0.refl.qA (.inr (Y7 _))).next.qA (.inr sI)).next);have al:=ak.1;have b1:=au (h.ep,16) _ (by simp;rfl);have b2:=au (h.ep+1,32) _ (by simp;rfl);simp only[Stp.enc,Yb,Yd] at ag;have a1:=ag.trans ak;simp at aq al;simp[b1];refine Za (IC _ (x.newTable.enc.map C.d) x.newTable (λh' _=>Zx.qL (ds:=x.newTable.enc)) ⟨l2,l3⟩ _ (λcs g2 az o2 ad be hs2 ae=>?_));obtain⟨c12,ab,rfl⟩:∃c12 ab,cs=[C.d (D.str x.newTable.name),c12,ab]:=by
  have h9:=o2.len.1
  match cs,h9,o2 with
  |[a,b,c],_,hO=>obtain rfl:=hO.frz.1.flat rfl;exact⟨b,c,rfl⟩
 have ar:=hs2.1;have bd:=ae (h.ep,16) _ (by simp;rfl);have b22:=ae (h.ep+1,32) _ (by simpa using b2);have a7:Z0 h g2 []:=(a1.qA (l:=(h.ep,16)) (.inr sI)).trans hs2;simp at ar;simp[bd];refine Za (CN _ _ _ (Zk.data (n:=1) (ts:=x.fk.cols.map Zd) sI (by simpa using l4)) _ (λaa g3 m22 hs3 am aw=>?_));have hs3':=hs3.1;have a8:=aw (h.ep,16) _ (by simp;rfl);have bb:=aw (h.ep+1,32) _ (by simpa using b22);have ba:Z0 h g3 []:=(a7.qA (l:=(h.ep,16)) (.inr sI)).trans hs3;simp at am hs3';simp[a8,bb,ZG,Zz,ZL];have aj:=(ba.qA (l:=(h.ep,16)) (cs:=Zf x c6 c12 ab aa) (.inr sI)).qA (l:=(h.ep+1,32)) (cs:=Zf x c6 c12 ab aa) (.inr sI);have k3:∀k:Z2,h.ep+2<=k.1->((g3.qA (h.ep,16) (Zf x c6 c12 ab aa)).qA (h.ep+1,32) (Zf x c6 c12 ab aa)).box k=g3.box k:=λk hk=>by
  have h1:k≠(h.ep,16):=λhe=>by
   have h9:k.1=h.ep:=by rw[he]
   omega
  have h2:k≠(h.ep+1,32):=λhe=>by
   have h9:k.1=h.ep+1:=by rw[he]
   omega
  simp[h1,h2]
 have k2:∀k:Z2,h.ep+2<=k.1->k.1<g2.ep->g3.box k=g2.box k:=λk hk af=>by
  have h1:k≠(h.ep,16):=λhe=>by
   have h9:k.1=h.ep:=by rw[he]
   omega
  rw[hs3.2 k (by simpa using af) sI];simp[h1]
 have k1:∀k:Z2,h.ep+2<=k.1->k.1<g1.ep->g2.box k=g1.box k:=λk hk af=>by
  have h1:k≠(h.ep,16):=λhe=>by
   have h9:k.1=h.ep:=by rw[he]
   omega
  rw[hs2.2 k (by simpa using af) sI];simp[h1]
 have e6:∀k∈labs c6,h.ep+2<=k.1/\k.1<g1.ep:=λk hk=>by have:=aq k.1 k.2 hk;omega
 have e2:∀k∈az,g1.ep<=k.1/\k.1<g2.ep:=λk hk=>by have:=be k hk;simp at this;omega
 have ac:∀k∈labs aa,g2.ep<=k.1/\k.1<g3.ep:=λk hk=>by have:=am k.1 k.2 hk;omega
 obtain⟨_,e0,oa⟩:=o2.qS (c:=.nil) rfl;simp at e0;subst e0;obtain⟨d1,_,la,_,e1,rfl,ax,ob⟩:=oa.split;simp at e1;obtain⟨rfl,rfl⟩:=e1;obtain⟨d2,_,lb,_,e1,rfl,ay,od⟩:=ob.split;simp at e1;obtain⟨rfl,rfl⟩:=e1;obtain⟨_,_,rfl⟩:=od.qV;simp only[Ym] at e2 ad;have o6:Ow ((g3.qA (h.ep,16) (Zf x c6 c12 ab aa)).qA (h.ep+1,32) (Zf x c6 c12 ab aa)) [.r [.d]] [c6] [.sl (x.cols.map Zd)] (labs c6):=Ow.rL (n:=1) (m6.frame λk hk=>by have:=e6 k hk;rw[k3 k oM,k2 k oM oM,k1 k oM oM]) rfl sI;have bc:Ow ((g3.qA (h.ep,16) (Zf x c6 c12 ab aa)).qA (h.ep+1,32) (Zf x c6 c12 ab aa)) [.r [.d]] [aa] [.sl (x.fk.cols.map Zd)] (labs aa):=Ow.rL (n:=1) (m22.frame λk hk=>by have:=ac k hk;rw[k3 k oM]) rfl sI;have ah:=ax.frame (h':=((g3.qA (h.ep,16) (Zf x c6 c12 ab aa)).qA (h.ep+1,32) (Zf x c6 c12 ab aa))) λk hk=>by have:=e2 k (by simp[hk]);rw[k3 k oM,k2 k oM oM]
 have ap:=ay.frame (h':=((g3.qA (h.ep,16) (Zf x c6 c12 ab aa)).qA (h.ep+1,32) (Zf x c6 c12 ab aa))) λk hk=>by have:=e2 k (by simp[hk]);rw[k3 k oM,k2 k oM oM]
 refine hk (Zf x c6 c12 ab aa) _ _ (Ow.xC o6 ah ap bc) ?_ (λk hk=>?_) aj (aj.jA hg);simp only[Yg,Y2] at ad|-;refine⟨Va,⟨ad.1,⟨ad.2.1,Va,λa ha b hb he=>?_⟩,λa ha b hb he=>?_⟩,λa ha b hb he=>?_⟩;have t1:=e2 a (by simp[ha]);have t2:=ac b hb;rw[<-he] at t2;omega
 subst he;rcases hb with hb|hb;exact ad.2.2 a ha a hb rfl
 have:=e2 a (by simp[ha]);have:=ac a hb;omega
 subst he;have h6:=e6 a ha;rcases hb with hb|hb|hb
 have:=e2 a (by simp[hb]);omega
 have:=e2 a (by simp[hb]);omega
 have:=ac a hb;omega
 simp only[Y2] at hk
 have:k.1<g3.ep/\h.ep<=k.1:=by
  rcases hk with hk|hk|hk|hk
  have:=e6 k hk;omega
  have:=e2 k (by simp[hk]);omega
  have:=e2 k (by simp[hk]);omega
  have:=ac k hk;omega
 simp;omega
theorem Sc.start{g p oc cons}(hb:g.box p=some [.nil,.nil,oc])(mo:MR g 7 oc (cons.map λc=>c.enc.map C.d))(hp:p.1<g.ep)(hl:∀k∈labs oc,k≠p/\k.1<g.ep):Sc g p ⟨[],[],cons⟩ .nil .nil oc [] [] (labs oc):=by
 have e:(cons.map λc=>((c.enc.map C.d,c.enc,[]):Q)).flatMap (·.2.2)=[]:=by rw[Xw];intro q hq;obtain⟨c,_,rfl⟩:=Yi.1 hq;rfl
 have pl:Z5 oc (cons.map λc=>((c.enc.map C.d,c.enc,[]):Q))=labs oc:=by rw[Z5,e,Ym]
 refine⟨[],[],cons.map λc=>(c.enc.map C.d,c.enc,[]),rfl,rfl,pl.symm,hb,⟨MR.nil,rfl,sI⟩,⟨MR.nil,rfl,sI⟩,⟨by simpa[AC,Function.comp_def] using mo,by simp[Function.comp_def],λq hq=>?_⟩,?_,?_⟩;obtain⟨c,_,rfl⟩:=Yi.1 hq;exact Ow.qL (ds:=c.enc);rw[pl];simp only[Z5,labs,Xv,Yn,Ym,Xm];exact⟨λh=>(hl p h).1 rfl,Va⟩;rw[pl];intro k hk;simp only[Z5,labs,Xv,Yn,Ym,Y9] at hk;rcases hk with rfl|hk;exact hp;exact(hl k hk).2
def L8(h:HS)(p3:Z2)(S:Sch)(S1:Sch)(aa:List C)(e:Env)(g:HS):Prop:=∃tc fc oc ta fa oa,e.n=46/\e.get 1=.p (h.ep,16)/\e.get 2=.p (h.ep+1,32)/\e.get 3=.p p3/\g.box (h.ep,16)=some aa/\g.box (h.ep+1,32)=some [.nil,.nil,.nil]/\
 Sc g p3 S1 tc fc oc ta fa oa/\(∀k∈ta++(fa++oa),h.ep+2<=k.1)/\h.ep+2<=p3.1/\Z0 h g []
set_option maxHeartbeats 1000000 in
theorem St(h S)(hS:KN S)(K)(hk:Z89 h S K):
  Z3 prog 73 [.agg (S.enc.map C.d)] h K:=by
 obtain⟨⟨l1,l2,l3⟩,l4,l5⟩:=hS;have cp:=l1;have cq:=l2;refine Z3.qN Tryz.func73 rfl kR rfl rfl sI ?_;simp;refine Za (Ql _ _ _ (Zk.data sI (by simpa using l3)) _ (λoc g1 mo bw cj b3=>?_));have bv:Z0 h (((h.qA (h.ep,16) (S.enc.map C.d)).next.qA (h.ep+1,32) [.nil,.nil,.nil]).next) []:=(((Z0.refl.qA (.inr (Y7 _))).next.qA (.inr sI)).next);have b1:=b3 (h.ep,16) _ (by simp;rfl);have b2:=b3 (h.ep+1,32) _ (by simp;rfl);have bz:=bw.1;simp only[Sch.enc,Yb,Yd] at bv;have b6:=bv.trans bw;simp at bz;have b7:=Zm (l:=(h.ep,16)) (n:=g1.ep) (by simp<;>omega);simp(maxDischargeDepth:=12) [b1,b7];have bj:Z0 g1 ((g1.qA (g1.ep,48) [.nil,.nil,.nil]).next.qA (g1.ep,48) [.nil,.nil,oc]) []:=((Z0.refl.qA (.inr (Y7 _))).next).qA (.inr (Y7 _));obtain⟨p3,bh⟩:∃p:Z2,p=(g1.ep,48):=⟨_,rfl⟩;have ba:∀(α:Type) (xs:List α) (i:Nat),Zc (ρ:=Unit) (λ_ (_:α) (s:Unit) next=>next s) (λ_=>some ()) xs i ()=some ():=λα xs=>by
  induction xs with
  |nil=>intro i;rfl
  |cons _ _ ih=>intro i;exact ih (i+1)
 intro _;have b9:=b6.trans bj;have az:=λk hk=>by have:=cj k hk;simp at this;omega
 refine Z4.for (xs:=S.tables) (λk _ e g=>L8 h p3 S ⟨S.tables.take k,[],S.cons⟩ (S.enc.map C.d) e g/\e.get 13=.l (S.tables.map Tbl.enc)/\e.get 14=.i S.tables.length/\e.get 15=.i k) (ba _ _ _) ⟨⟨.nil,.nil,oc,[],[],labs oc,sI,sI,sI,by simp[bh],?_,?_,?_,?_,by rw[bh];simp<;>omega,b9⟩,sI,sI,sI⟩ ?_ ?_;rw[bj.2 _ (by simp<;>omega) sI];simpa using b1;rw[bj.2 _ (by simp<;>omega) sI];exact b2;rw[bh];refine Sc.start sI ?_ sI λk hk=>⟨λhe=>by have:=(az k hk).2;rw[he] at this;simp at this,by have:=(az k hk).2;simp<;>omega⟩;rw[Uo];exact mo.frame λk hk=>bj.2 k (az k hk).2 sI;simp only[Yn];exact λk hk=>(az k hk).1;rintro k _ e g ⟨⟨tc,fc,oc,ta,fa,oa,hn,ap,ah,ag,b1,b2,s1,aa,ad,hs⟩,a1,au,aw⟩ hlt hm;have hw:IntKind.i64.wrap ((k:Int)+1)=(k:Int)+1:=Y5 _ oM;have hT:=l4 _ (Yf hlt);have cl:h.ep+2<g.ep:=by have:=s1.lt p3 sI;omega
 have ae:Z0 g ((g.qA (g.ep,80) [C.d (D.str empty),C.nil,C.nil]).next.qA (g.ep,80) (S.tables[k].enc.map C.d)) []:=((Z0.refl.qA (.inr (Y7 _))).next).qA (.inr (Y7 _));simp only[Tbl.enc,Yb,Yd] at ae;simp[hn,a1,au,aw,hlt];generalize hX:(g.qA (g.ep,80) [C.d (D.str empty),C.nil,C.nil]).next.qA (g.ep,80) _=GZ at ae|-;have bu:GZ.box (g.ep,80)=some (S.tables[k].enc.map C.d):=by rw[<-hX];simp
 have br:=(s1.frame ae).box;simp only[Tbl.enc,Yb,Yd] at bu;have ca:=hs.1;have ce:=ae.1;refine Z4.cu [0,1,2,3,4,5,6,7] (λe g'=>L8 h p3 S ⟨S.tables.take (k+1),[],S.cons⟩ (S.enc.map C.d) e g'/\e.get 13=.l (S.tables.map Tbl.enc)/\e.get 14=.i S.tables.length/\e.get 15=.i k) ?_ ?_;simp[hn,ag,bu,br];refine Za (IC _ (S.tables[k].enc.map C.d) S.tables[k] (λh' _=>Zx.qL) hT _ (λcs g2 b5 o2 cb bf hs2 hb2=>?_));have aj:=λk hk=>by have:=bf k hk;omega
 obtain⟨c0,c1,c2,rfl⟩:∃a b c,cs=[a,b,c]:=by
  have h9:=o2.len.1
  match cs,h9 with
  |[a,b,c],_=>exact⟨a,b,c,rfl⟩
 simp[hn];refine⟨hb2,?_⟩;have b0:=hs2.1;refine Cc (x:=[c0,c1,c2]) (by simp[Zt];cases c0.toD<;>cases c1.toD<;>cases c2.toD<;>rfl) sI (λd a7=>?_) (λa7=>?_);obtain⟨rfl,bo⟩:=o2.ofD a7;have ab:Z0 g2 ((g2.qC (g2.ep,16*23) (some (1,3))).next) []:=Z0.refl.qC.next;simp only[Nat.reduceMul] at ab;have s5:=s1.frame ((ae.trans hs2).trans ab);obtain⟨ys,my,ax,add⟩:=s5.wE;simp[hn];refine W5 (by simp;exact⟨rfl,rfl⟩) sI sI sI my (Zk.qU sI) (by rw[ax];simp at hlt|-;omega) (λc' g' ar ac ak=>?_);have bd:=ac.1;have a8:=ab.1;have aq:=s5.keep ac λk hk=>.inl (s5.qJ.1 k hk);have hlab:=s1.qJ.1;obtain⟨a',s6,ay⟩:=add g' c' _ _ [] ar ac ak (bo g') XJ (λk hk=>by
  have h9:=aj k ((λk (hk:k∈[])=>by simp at hk) k hk);refine⟨oM,λh8=>by have:=s1.lt k h8;omega,λh8=>?_⟩;rcases ak k h8 with h7|h7
  have:=s1.lt k (by simp[hlab k h7]);omega
  omega) S.tables[k] rfl
 have ft:∀k:Z2,k.1<g.ep->k.1<h.ep+2->g'.box k=g.box k:=λk hk bn=>by
  rw[ac.2 k oM λh9=>by have:=aa k (by simp[hlab k h9]);omega];exact((ae.trans hs2).trans ab).2 k hk sI
 have am:((h.ep,16):Z2)≠p3:=λhe=>by rw[<-he] at ad;have h9:=ad;omega
 have al:((h.ep+1,32):Z2)≠p3:=λhe=>by rw[<-he] at ad;have h9:=ad;omega
 simp[hn,ag,aq];refine Zb.of ⟨⟨c',fc,oc,a',fa,oa,by simp[hn],by simp[ap],by simp[ah],by simp[ag],?_,?_,by simpa[XF hlt] using s6,λk hk=>?_,ad,((hs.trans ((ae.trans hs2).trans ab)).trans' ac λk hk=>.inr (by have:=aa k (by simp[hlab k hk]);omega)).qA (.inr oM)⟩,by simp[a1],by simp[au],by simp[aw]⟩;simpa[am,ft (h.ep,16) (by simp<;>omega) sI] using b1;simpa[al,ft (h.ep+1,32) (by simp<;>omega) sI] using b2;simp only[Y2] at hk;rcases hk with hk|hk;rcases ay k hk with h9|h9|h9;exact aa k (by simp[h9])
 have:=aj k ((λk (hk:k∈[])=>by simp at hk) k h9);omega
 omega;exact aa k (by simp only[Y2];exact .inr hk)
 skip
 have ab:Z0 g2 ((g2.qA (g2.ep,16*23) [c0,c1,c2]).next) []:=(Z0.refl.qA (.inr (Y7 _))).next;simp only[Nat.reduceMul] at ab;have s5:=s1.frame ((ae.trans hs2).trans ab);obtain⟨ys,my,ax,add⟩:=s5.wE;simp[hn];refine W5 (by simp;exact⟨rfl,rfl⟩) sI sI sI my (Zk.jY (x:=[c0,c1,c2]) sI sI) (by rw[ax];simp at hlt|-;omega) (λc' g' ar ac ak=>?_);have bd:=ac.1;have a8:=ab.1;have aq:=s5.keep ac λk hk=>.inl (s5.qJ.1 k hk);have hlab:=s1.qJ.1;obtain⟨a',s6,ay⟩:=add g' c' _ _ b5 ar ac ak (o2.frame λk hk=>by have h9:=aj k hk;rw[ac.2 k oM λh8=>by have:=s1.lt k (by simp[s1.qJ.1 k h8]);omega];exact ab.2 k h9.2 sI) cb (λk hk=>by
  have h9:=aj k ((λ_ h=>h) k hk);refine⟨oM,λh8=>by have:=s1.lt k h8;omega,λh8=>?_⟩;rcases ak k h8 with h7|h7
  have:=s1.lt k (by simp[hlab k h7]);omega
  omega) S.tables[k] rfl
 have ft:∀k:Z2,k.1<g.ep->k.1<h.ep+2->g'.box k=g.box k:=λk hk bn=>by
  rw[ac.2 k oM λh9=>by have:=aa k (by simp[hlab k h9]);omega];exact((ae.trans hs2).trans ab).2 k hk sI
 have am:((h.ep,16):Z2)≠p3:=λhe=>by rw[<-he] at ad;have h9:h.ep+2<=h.ep:=ad;omega
 have al:((h.ep+1,32):Z2)≠p3:=λhe=>by rw[<-he] at ad;have h9:h.ep+2<=h.ep+1:=ad;omega
 simp[hn,ag,aq];refine Zb.of ⟨⟨c',fc,oc,a',fa,oa,by simp[hn],by simp[ap],by simp[ah],by simp[ag],?_,?_,by simpa[XF hlt] using s6,λk hk=>?_,ad,((hs.trans ((ae.trans hs2).trans ab)).trans' ac λk hk=>.inr (by have:=aa k (by simp[hlab k hk]);omega)).qA (.inr oM)⟩,by simp[a1],by simp[au],by simp[aw]⟩;simpa[am,ft (h.ep,16) (by simp<;>omega) sI] using b1;simpa[al,ft (h.ep+1,32) (by simp<;>omega) sI] using b2;simp only[Y2] at hk;rcases hk with hk|hk;rcases ay k hk with h9|h9|h9;exact aa k (by simp[h9])
 have:=aj k ((λ_ h=>h) k h9);omega
 omega;exact aa k (by simp only[Y2];exact .inr hk);rintro e g' ⟨hI,a1,au,aw⟩;have hn:=hI;obtain⟨_,_,_,_,_,_,hn,ap,ah,ag,-⟩:=hn;simp[hn,aw,hw];obtain⟨cc,cd,ci,cf,b8,ch,-,-,-,-,q⟩:=hI;exact Ze.of () ⟨⟨⟨cc,cd,ci,cf,b8,ch,by simp[hn],by simp[ap],by simp[ah],by simp[ag],q⟩,by simp[a1],by simp[au],sI⟩,hm⟩;rintro _ e g ⟨⟨tc,fc,oc,ta,fa,oa,hn,ap,ah,ag,b1,b2,s1,aa,ad,hs⟩,a1,au,aw⟩ _;rw[Yp] at s1;simp[hn,ap,au,aw,b1];intro _;refine Z4.for (xs:=S.fks) (s0:=()) (k:=λ_=>some ()) (body:=λ_ _ s next=>next s) (r:=()) (λk _ e g=>L8 h p3 S ⟨S.tables,S.fks.take k,S.cons⟩ (S.enc.map C.d) e g/\e.get 28=.l (S.fks.map Fk.enc)/\e.get 29=.i (S.fks.length:Int)/\e.get 30=.i (k:Int)) (ba _ _ _) ⟨⟨tc,fc,oc,ta,fa,oa,by simp[hn],by simp[ap],by simp[ah],by simp[ag],b1,b2,by simpa using s1,aa,ad,hs⟩,sI,sI,sI⟩ ?_ ?_;rintro k _ e g ⟨⟨tc,fc,oc,ta,fa,oa,hn,ap,ah,ag,b1,b2,s1,aa,ad,hs⟩,bi,bc,bb⟩ hlt hm;have hw:IntKind.i64.wrap ((k:Int)+1)=(k:Int)+1:=Y5 _ oM;have hF:=l5 _ (Yf hlt);have cl:h.ep+2<g.ep:=by have:=s1.lt p3 sI;omega
 simp[hn,bi,bc,bb,hlt];refine Za (CN _ _ _ (Zk.data (n:=1) (ts:=S.fks[k].cols.map Zd) sI (by simpa using hF)) _ (λpc af mp bg bq hb2=>?_));have be:Z0 g ((g.qA (g.ep,112) [C.d (D.str empty),C.nil,C.d (D.str empty)]).next.qA (g.ep,112) (S.fks[k].enc.map C.d)) []:=((Z0.refl.qA (.inr (Y7 _))).next).qA (.inr (Y7 _));have bt:=hb2 (g.ep,112) _ (by simp;rfl);simp only[Fk.enc,Yb,Yd] at be;have bp:=bg.1;simp at bp bq;have ae:Z0 g (af.qA (g.ep,112) [.d (.str S.fks[k].table),pc,.d (.str S.fks[k].ref)]) []:=(be.trans bg).qA (.inr (Y7 _));have bk:Ow (af.qA (g.ep,112) [.d (.str S.fks[k].table),pc,.d (.str S.fks[k].ref)]) Vb [.d (.str S.fks[k].table),pc,.d (.str S.fks[k].ref)] S.fks[k].enc (labs pc):=by
  refine .data rfl ?_
  have:=Ow.rU (es:=[.d]) (n:=1) (ts:=S.fks[k].cols.map Zd) (mp.frame (h':=af.qA (g.ep,112) [.d (.str S.fks[k].table),pc,.d (.str S.fks[k].ref)]) λq hq=>by
   have h9:=bq q.1 q.2 hq
   have:q≠(g.ep,112):=λhe=>by
    have h8:q.1=g.ep:=by rw[he]
    omega
   simp[this]) rfl sI (Ow.data (c:=.d (.str S.fks[k].ref)) (x:=.str S.fks[k].ref) rfl .nil)
  simpa using this
 have bf:∀q∈labs pc,g.ep<=q.1/\q.1<af.ep:=λq hq=>by have:=bq q.1 q.2 hq;omega
 have cv:(af.qA (g.ep,112) [.d (.str S.fks[k].table),pc,.d (.str S.fks[k].ref)]).box (g.ep,112)=some [.d (.str S.fks[k].table),pc,.d (.str S.fks[k].ref)]:=sI;have cn:(af.qA (g.ep,112) [.d (.str S.fks[k].table),pc,.d (.str S.fks[k].ref)]).ep=af.ep:=sI;have br:(af.qA (g.ep,112) [.d (.str S.fks[k].table),pc,.d (.str S.fks[k].ref)]).box p3=some [tc,fc,oc]:=(s1.frame ae).box
 try simp at bt
 simp[hn,bt];have bl:=s1.lt p3 sI;have cm:¬p3=(g.ep,112):=λhe=>by rw[he] at bl;simp at bl
 have b4:af.box p3=some [tc,fc,oc]:=(s1.frame (be.trans bg)).box;have hs2:Z0 (af.qA (g.ep,112) [.d (.str S.fks[k].table),pc,.d (.str S.fks[k].ref)]) (af.qA (g.ep,112) [.d (.str S.fks[k].table),pc,.d (.str S.fks[k].ref)]) []:=.refl;have aj:∀q∈labs pc,g.ep<=q.1/\q.1<(af.qA (g.ep,112) [.d (.str S.fks[k].table),pc,.d (.str S.fks[k].ref)]).ep:=λq hq=>by have:=bf q hq;omega
 have ca:=hs.1;have ce:=ae.1;have b0:=hs2.1;simp[hn,ag,cm,b4];refine Cc (x:=[.d (.str S.fks[k].table),pc,.d (.str S.fks[k].ref)]) (by simp[Zt];cases pc.toD<;>rfl) sI (λd a7=>?_) (λa7=>?_);obtain⟨rfl,bo⟩:=bk.ofD a7;have ab:Z0 (af.qA (g.ep,112) [.d (.str S.fks[k].table),pc,.d (.str S.fks[k].ref)]) (((af.qA (g.ep,112) [.d (.str S.fks[k].table),pc,.d (.str S.fks[k].ref)]).qC (af.ep,16*41) (some (1,3))).next) []:=Z0.refl.qC.next;simp only[Nat.reduceMul] at ab;have s5:=s1.frame ((ae.trans hs2).trans ab);obtain⟨ys,my,ax,add⟩:=s5.rB;simp[hn];refine W5 (by simp;exact⟨rfl,rfl⟩) sI sI sI my (Zk.qU sI) (by rw[ax];simp at hlt|-;omega) (λc' g' ar ac ak=>?_);have bd:=ac.1;have a8:=ab.1;have aq:=s5.keep ac λk hk=>.inr (.inl (s5.qJ.2.1 k hk));have hlab:∀k∈labs fc,k∈fa:=s1.qJ.2.1;obtain⟨a',s6,ay⟩:=add g' c' _ _ [] ar ac ak (bo g') XJ (λk hk=>by
  have h9:=aj k ((λq (hq:q∈[])=>by simp at hq) k hk);refine⟨oM,λh8=>by have:=s1.lt k h8;omega,λh8=>?_⟩;rcases ak k h8 with h7|h7
  have:=s1.lt k (by simp[hlab k h7]);omega
  omega) S.fks[k] rfl
 have ft:∀k:Z2,k.1<g.ep->k.1<h.ep+2->g'.box k=g.box k:=λk hk bn=>by
  rw[ac.2 k oM λh9=>by have:=aa k (by simp[hlab k h9]);omega];exact((ae.trans hs2).trans ab).2 k hk sI
 have am:((h.ep,16):Z2)≠p3:=λhe=>by rw[<-he] at ad;have h9:h.ep+2<=h.ep:=ad;omega
 have al:((h.ep+1,32):Z2)≠p3:=λhe=>by rw[<-he] at ad;have h9:h.ep+2<=h.ep+1:=ad;omega
 simp[hn,ag,aq,bb,hw];refine Ze.of () ⟨⟨⟨tc,c',oc,ta,a',oa,by simp[hn],by simp[ap],by simp[ah],by simp[ag],?_,?_,by simpa[XF hlt] using s6,λk hk=>?_,ad,((hs.trans ((ae.trans hs2).trans ab)).trans' ac λk hk=>.inr (by have:=aa k (by simp[hlab k hk]);omega)).qA (.inr oM)⟩,by simp[bi],by simp[bc],sI⟩,hm⟩;simpa[am,ft (h.ep,16) (by simp<;>omega) sI] using b1;simpa[al,ft (h.ep+1,32) (by simp<;>omega) sI] using b2;simp only[Y2] at hk;rcases hk with hk|hk|hk;exact aa k (by simp[hk]);rcases ay k hk with h9|h9|h9;exact aa k (by simp[h9])
 have:=aj k ((λq (hq:q∈[])=>by simp at hq) k h9);omega
 omega;exact aa k (by simp[hk])
 skip
 have ab:Z0 (af.qA (g.ep,112) [.d (.str S.fks[k].table),pc,.d (.str S.fks[k].ref)]) (((af.qA (g.ep,112) [.d (.str S.fks[k].table),pc,.d (.str S.fks[k].ref)]).qA (af.ep,16*41) [.d (.str S.fks[k].table),pc,.d (.str S.fks[k].ref)]).next) []:=(Z0.refl.qA (.inr (Y7 _))).next;simp only[Nat.reduceMul] at ab;have s5:=s1.frame ((ae.trans hs2).trans ab);obtain⟨ys,my,ax,add⟩:=s5.rB;simp[hn];refine W5 (by simp;exact⟨rfl,rfl⟩) sI sI sI my (Zk.jY (x:=[.d (.str S.fks[k].table),pc,.d (.str S.fks[k].ref)]) sI sI) (by rw[ax];simp at hlt|-;omega) (λc' g' ar ac ak=>?_);have bd:=ac.1;have a8:=ab.1;have aq:=s5.keep ac λk hk=>.inr (.inl (s5.qJ.2.1 k hk));have hlab:∀k∈labs fc,k∈fa:=s1.qJ.2.1;obtain⟨a',s6,ay⟩:=add g' c' _ _ (labs pc) ar ac ak (bk.frame λk hk=>by have h9:=aj k hk;rw[ac.2 k oM λh8=>by have:=s1.lt k (by simp[s1.qJ.2.1 k h8]);omega];exact ab.2 k h9.2 sI) Va (λk hk=>by
  have h9:=aj k ((λ_ h=>h) k hk);refine⟨oM,λh8=>by have:=s1.lt k h8;omega,λh8=>?_⟩;rcases ak k h8 with h7|h7
  have:=s1.lt k (by simp[hlab k h7]);omega
  omega) S.fks[k] rfl
 have ft:∀k:Z2,k.1<g.ep->k.1<h.ep+2->g'.box k=g.box k:=λk hk bn=>by
  rw[ac.2 k oM λh9=>by have:=aa k (by simp[hlab k h9]);omega];exact((ae.trans hs2).trans ab).2 k hk sI
 have am:((h.ep,16):Z2)≠p3:=λhe=>by rw[<-he] at ad;have h9:h.ep+2<=h.ep:=ad;omega
 have al:((h.ep+1,32):Z2)≠p3:=λhe=>by rw[<-he] at ad;have h9:h.ep+2<=h.ep+1:=ad;omega
 simp[hn,ag,aq,bb,hw];refine Ze.of () ⟨⟨⟨tc,c',oc,ta,a',oa,by simp[hn],by simp[ap],by simp[ah],by simp[ag],?_,?_,by simpa[XF hlt] using s6,λk hk=>?_,ad,((hs.trans ((ae.trans hs2).trans ab)).trans' ac λk hk=>.inr (by have:=aa k (by simp[hlab k hk]);omega)).qA (.inr oM)⟩,by simp[bi],by simp[bc],sI⟩,hm⟩;simpa[am,ft (h.ep,16) (by simp<;>omega) sI] using b1;simpa[al,ft (h.ep+1,32) (by simp<;>omega) sI] using b2;simp only[Y2] at hk;rcases hk with hk|hk|hk;exact aa k (by simp[hk]);rcases ay k hk with h9|h9|h9;exact aa k (by simp[h9])
 have:=aj k ((λ_ h=>h) k h9);omega
 omega;exact aa k (by simp[hk]);rintro _ e g ⟨⟨tc,fc,oc,ta,fa,oa,hn,_,ah,ag,_,b2,s1,aa,ad,hs⟩,bi,bc,bb⟩ _;rw[Yp] at s1;have ck:=s1.box;simp[hn,ah,ag,bc,bb,ck,b2,ZG,Zz,ZL];obtain⟨qt,qf,qo,rfl,rfl,rfl,sc⟩:=s1;have cg:Z0 h (g.qA (h.ep+1,32) [tc,fc,oc]) []:=hs.qA (.inr sI);have kb:∀k∈Z5 tc qt++(Z5 fc qf++Z5 oc qo),(g.qA (h.ep+1,32) [tc,fc,oc]).box k=g.box k:=λk hk=>by
  have h9:=aa k hk
  have:k≠(h.ep+1,32):=λhe=>by rw[he] at h9;simp at h9
  simp[this]
 simp only[Y2] at kb;have bm:=sc.nd;rw[Xm] at bm;refine hk tc fc oc qt qf qo _ (sc.t.frame λk hk=>kb k (.inl hk)) (sc.f.frame λk hk=>kb k (.inr (.inl hk))) (sc.o.frame λk hk=>kb k (.inr (.inr hk))) bm.2 (λk hk=>⟨by have:=aa k hk;omega,by have:=sc.lt k (Yc _ hk);simpa using this⟩) cg
def Em(S:Sch)(x:Stp):Option (Sch×Int):=
 bif x.kind==13 then Zp (S.cons.length<Zs) (some ({S with cons:=S.cons++[x.cons]},0)) else
 bif x.kind==14 then G2 S x.cons else
 bif x.kind==15 then Zp (S.fks.length<Zs) (some ({S with fks:=S.fks++[x.fk]},0)) else
 bif x.kind==16 then BM S x.fk else
 bif x.kind==10 then Ga S x.newTable else
 Z1 (ZY S x.table) λv=>bif !v.2 then some (S,4) else
 bif x.kind==4 then G8 S v.1.toNat x.newName else
 bif x.kind==6 then Ge S v.1.toNat x else
 bif x.kind==7 then Gf S v.1.toNat x.other else
 bif x.kind==8 then G1 S v.1.toNat x else
 bif x.kind==9 then G9 S v.1.toNat x else
 bif x.kind==11 then Gk S x.table else
 bif x.kind==12 then G5 S v.1.toNat x else
 bif x.kind==1 then Gl S v.1.toNat x else Gb S v.1.toNat x
theorem Tj{S nm v}(h:Is (ZY S nm) v):0<=v.1:=by
 obtain⟨k,_,h⟩:=Is.bind h
 have:=Zh h
 rw[<-this];show 0<=(if k<0 then 0 else k)
 split<;>omega
theorem WV.sub{h l ls ls' S' v K}(hk:WV h l ls S' v K)(hs:∀k∈ls',k∈ls):WV h l ls' S' v K:=
 λh' lz ho hm hl=>hk h' lz ho (hm.mono λk hk=>by simp only[Y9] at hk|-;exact hk.imp_right (hs k)) λk hk=>(hl k hk).imp_left (hs k)
theorem WV.to{h l ls S' v K K'}(hk:WV h l ls S' v K)(hs:∀h',K v h'->K' v h'):WV h l ls S' v K':=
 λh' lz ho hm hl=>hs _ (hk h' lz ho hm hl)
set_option maxHeartbeats 2000000 in
theorem RJ(h l tc fc oc xs ta fa oa lx)(S S':Sch)(x:Stp)(r:Int)(hm:Is (Em S x) (S',r))(s:Sc h l S tc fc oc ta fa oa)(hx:Ow h BE xs x.enc lx)(hd:lx.Nodup/\∀k∈lx,k.1<h.ep/\k∉l::(ta++(fa++oa)))(K)
  (hk:WV h l (ta++(fa++oa)++lx) S' (.i r) K):
  Z3 prog 139 [.p l,.agg xs] h K:=by
 refine Z3.jE Tryz.func139 rfl kR λ_=>?_;obtain⟨x6,ab,ac,aa,a6,a12,bw,bt,rfl,rfl,-,-,-,-⟩:=hx.stp;refine Z3.qN Tryz.func139 rfl kR rfl rfl sI ?_;have b9:Zf x x6 ab ac aa≠[]:=by simp[Zf]
 have bj:Z0 h ((h.qA (h.ep,48) (Zf x x6 ab ac aa)).next) []:=(Z0.refl.qA (.inr (Y7 _))).next;have s0:=s.frame bj;have bl:=s0.box;have bd:(h.qA (h.ep,48) (Zf x x6 ab ac aa)).next.box (h.ep,48)=some (Zf x x6 ab ac aa):=sI
 have hx0:=hx.frame λk hk=>bj.2 k (hd.2 k hk).1 sI;have ah:∀k∈a6++(a12++(bw++bt)),k.1<((h.qA (h.ep,48) (Zf x x6 ab ac aa)).next).ep/\k∉l::(ta++(fa++oa)):=λk hk=>⟨by have:=(hd.2 k hk).1;simp<;>omega,(hd.2 k hk).2⟩;have hk0:=hk.after bj;have aw:=hk0.sub λk hk=>Xn _ hk;have e0:Zl 1 (Zf x x6 ab ac aa)=some [.d (.int .i64 x.kind)]:=by simp[Zf]
 have al:Zl 24 (Zf x x6 ab ac aa)=some (Zf x x6 ab ac aa):=by simp[Zf]
 have e1:Zl 1 ((Zf x x6 ab ac aa).drop 1)=some [.d (.str x.table)]:=by simp[Zf]
 have b0:Zl 1 ((Zf x x6 ab ac aa).tail)=some [.d (.str x.table)]:=by simp[Zf]
 have e2:Zl 1 ((Zf x x6 ab ac aa).drop 2)=some [.d (.str x.other)]:=by simp[Zf]
 have e4:Zl 1 ((Zf x x6 ab ac aa).drop 4)=some [.d (.str x.newName)]:=by simp[Zf]
 have b3:Zl 3 ((Zf x x6 ab ac aa).drop 11)=some [.d (.str x.newTable.name),ab,ac]:=by simp[Zf]
 have bh:Zl 7 ((Zf x x6 ab ac aa).drop 14)=some (x.cons.enc.map C.d):=by simp[Zf]
 have bv:Zl 3 ((Zf x x6 ab ac aa).drop 21)=some [.d (.str x.fk.table),aa,.d (.str x.fk.ref)]:=by simp[Zf]
 simp only[Cons.enc,Yb,Yd] at bh;unfold Em at hm;simp[b9,e0];cases k13:x.kind==13 with|true=>?_|false=>?_;simp only[k13,cond_true] at hm;obtain⟨hlim,hm⟩:=hm.chk;obtain⟨rfl,rfl⟩:=ZJ hm;simp;generalize(h.qA (h.ep,48) (Zf x x6 ab ac aa)).next=HX at*;refine Z4.cu [0,1,2,3,4,5,6,7,8,9,10,11] (λe h'=>e.n=120/\∃bn a1,Sc h' l {S with cons:=S.cons++[x.cons]} tc fc bn ta fa a1/\Z0 HX h' (l::oa)/\∀k∈a1,k∈oa\/HX.ep<=k.1) ?_ ?_;simp[bl,bd,bh];have hz:Z0 HX ((HX.qC (HX.ep,16*18) (some (1,7))).next) []:=Z0.refl.qC.next;simp only[Nat.reduceMul] at hz;have s1:=s0.frame hz;obtain⟨ys,my,az,add⟩:=s1.wR;refine W5 (by simp;exact⟨rfl,rfl⟩) sI sI sI my (Zk.qU sI) (by rw[az];exact hlim) (λc' h' ar ae ap=>?_);have au:=s1.keep ae λk hk=>.inr (.inr (s1.qJ.2.2 k hk));obtain⟨a1,s6,ay⟩:=add h' c' x.cons (by simpa using ar) ae ap;have be:=hz.1;simp[au];exact Zb.of ⟨sI,c',a1,s6,((hz.mn).trans (ae.mono λk hk=>Yc _ (s1.qJ.2.2 k hk))).qA (.inl sI),λk hk=>(ay k hk).imp_right λh9=>oM⟩;rintro e h' ⟨hn,bn,a1,s6,ae,ay⟩;simp[hn];refine aw _ _ s6.ows (ae.mono λk hk=>by simp only[Y9,Y2] at hk|-;exact hk.imp_right λh=>.inr (.inr h)) λk hk=>?_;simp only[Y2] at hk|-;rcases hk with hk|hk|hk;exact .inl (.inl hk);exact .inl (.inr (.inl hk));exact(ay k hk).imp_left λh=>.inr (.inr h);simp only[k13,cond_false] at hm;cases k14:x.kind==14 with|true=>?_|false=>?_;simp only[k14,cond_true] at hm;simp[k14,bh];refine Za (Qj _ l _ S S' x.cons r hm s0.ows _ (aw.to λh' hK=>?_));simp;exact hK;simp only[k14,cond_false] at hm;cases am:x.kind==15 with|true=>?_|false=>?_;simp only[am,cond_true] at hm;obtain⟨hlim,hm⟩:=hm.chk;obtain⟨rfl,rfl⟩:=ZJ hm;simp[k14,am];obtain⟨y6,a8,ax,y22,b6,bm,bi,b22,f1,f2,p6,bg,bf,bb⟩:=hx0.stp;obtain⟨rfl,rfl,rfl,rfl⟩:x6=y6/\ab=a8/\ac=ax/\aa=y22:=by simpa[Zf] using f1
 have af:=hd.1;rw[f2] at ah hk0 af;have bu:Ow ((h.qA (h.ep,48) (Zf x x6 ab ac aa)).next) Vb [.d (.str x.fk.table),aa,.d (.str x.fk.ref)] x.fk.enc b22:=by
  have:=Ow.data (c:=.d (.str x.fk.table)) rfl (bb.join (.data (c:=.d (.str x.fk.ref)) rfl .nil))
  simp only[Ym] at this;exact this
 have bo:b22.Nodup:=by simp only[Yg] at af;exact af.2.1.2.1.2.1
 have bz:∀k∈b22,k.1<((h.qA (h.ep,48) (Zf x x6 ab ac aa)).next).ep/\k∉l::(ta++(fa++oa)):=λk hk=>ah k (by simp[hk]);have ag:=hk0.sub (ls':=ta++(fa++oa)++b22) (λk hk=>by simp only[Y2] at hk|-;exact hk.imp_right λh=>.inr (.inr (.inr h)));clear hk0 aw hx0 ah;generalize hHX:(h.qA (h.ep,48) (Zf x x6 ab ac aa)).next=HX at*;refine Z4.cu [0,1,2,3,4,5,6,7,8,9,10,11] (λe h'=>e.n=120/\∃br ak,Sc h' l {S with fks:=S.fks++[x.fk]} tc br oc ta ak oa/\Z0 HX h' (l::fa)/\∀k∈ak,k∈fa\/k∈b22\/HX.ep<=k.1) ?_ ?_;simp[bl,bd,bv];refine Cc (x:=[.d (.str x.fk.table),aa,.d (.str x.fk.ref)]) (by simp[Zt];cases aa.toD<;>rfl) sI (λd b1=>?_) (λ_=>?_);obtain⟨rfl,b7⟩:=bu.ofD b1;have hz:Z0 HX ((HX.qC (HX.ep,16*37) (some (1,3))).next) []:=Z0.refl.qC.next;simp only[Nat.reduceMul] at hz;have s1:=s0.frame hz;obtain⟨ys,my,az,add⟩:=s1.rB;simp;refine W5 (by simp;exact⟨rfl,rfl⟩) sI sI sI my (Zk.qU sI) (by rw[az];exact hlim) (λc' h' ar ae ap=>?_);have au:=s1.keep ae λk hk=>.inr (.inl (s1.qJ.2.1 k hk));obtain⟨ak,s6,aj⟩:=add h' c' _ _ [] ar ae ap (b7 h') XJ sI x.fk rfl;have be:=hz.1;simp[au];exact Zb.of ⟨sI,c',ak,s6,((hz.mn).trans (ae.mono λk hk=>Yc _ (s1.qJ.2.1 k hk))).qA (.inl sI),λk hk=>(aj k hk).imp_right λh9=>.inr (by rcases h9 with h9|h9;simp at h9;omega)⟩;have hz:Z0 HX ((HX.qA (HX.ep,16*37) [.d (.str x.fk.table),aa,.d (.str x.fk.ref)]).next) []:=(Z0.refl.qA (.inr (Y7 _))).next;simp only[Nat.reduceMul] at hz;have s1:=s0.frame hz;obtain⟨ys,my,az,add⟩:=s1.rB;simp;refine W5 (by simp;exact⟨rfl,rfl⟩) sI sI sI my (Zk.jY (x:=[.d (.str x.fk.table),aa,.d (.str x.fk.ref)]) sI sI) (by rw[az];exact hlim) (λc' h' ar ae ap=>?_);have au:=s1.keep ae λk hk=>.inr (.inl (s1.qJ.2.1 k hk));have be:=hz.1
 have cb:=ae.1;obtain⟨ak,s6,aj⟩:=add h' c' _ _ b22 ar ae ap (bu.frame λk hk=>by
  have h9:=bz k hk;simp only[Y9,Y2,not_or] at h9;rw[ae.2 k oM λh8=>h9.2.2.2.1 (s1.qJ.2.1 k h8)];exact hz.2 k h9.1 sI) bo (λk hk=>by
  have h9:=bz k hk;refine⟨oM,h9.2,λh8=>?_⟩;simp only[Y9,Y2,not_or] at h9;rcases ap k h8 with h7|h7;exact h9.2.2.2.1 (s1.qJ.2.1 k h7)
  omega) x.fk rfl
 simp[au];exact Zb.of ⟨sI,c',ak,s6,((hz.mn).trans (ae.mono λk hk=>Yc _ (s1.qJ.2.1 k hk))).qA (.inl sI),λk hk=>(aj k hk).imp_right λh9=>h9.imp_right λh8=>oM⟩;rintro e h' ⟨hn,br,ak,s6,ae,aj⟩;simp[hn];refine ag _ _ s6.ows (ae.mono λk hk=>by simp only[Y9,Y2] at hk|-;exact hk.imp_right λh=>.inl (.inr (.inl h))) λk hk=>?_;simp only[Y2] at hk|-;rcases hk with hk|hk|hk;exact .inl (.inl (.inl hk));rcases aj k hk with h9|h9|h9;exact .inl (.inl (.inr (.inl h9)));exact .inl (.inr h9);exact .inr h9;exact .inl (.inl (.inr (.inr hk)));simp only[am,cond_false] at hm;cases a7:x.kind==16 with|true=>?_|false=>?_;simp only[a7,cond_true] at hm;simp[k14,am,a7,bv];refine Za (Qi _ l _ S S' x.fk [.d (.str x.fk.table),aa,.d (.str x.fk.ref)] r hm s0.ows (λh' b4=>?_) _ (aw.to λh' hK=>?_))
 have:=(hx0.frame (h':=h') λk hk=>b4.2 k (ah k hk).1 sI).stp
 obtain⟨y6,a8,ax,y22,b6,bm,bi,b22,f1,_,p6,bg,bf,bb⟩:=this;obtain⟨rfl,rfl,rfl,rfl⟩:x6=y6/\ab=a8/\ac=ax/\aa=y22:=by simpa[Zf] using f1
 exact⟨.data rfl,bb.rT,.data rfl,trivial⟩;simp;exact hK;simp only[a7,cond_false] at hm;cases bc:x.kind==10 with|true=>?_|false=>?_;simp only[bc,cond_true] at hm;simp[k14,am,a7,bc,b3];obtain⟨y6,a8,ax,y22,b6,bm,bi,b22,f1,f2,p6,bg,bf,bb⟩:=hx0.stp;obtain⟨rfl,rfl,rfl,rfl⟩:x6=y6/\ab=a8/\ac=ax/\aa=y22:=by simpa[Zf] using f1
 have af:=hd.1;rw[f2] at ah hk0 af;refine Za (QE _ l tc fc oc ta fa oa (bm++(bi++[])) S S' x.newTable r _ hm s0 (.data rfl (bg.join (bf.join .nil))) ⟨?_,λk hk=>?_⟩ _ ((hk0.sub λk hk=>?_).to λh' hK=>?_));simp only[Yg,Ym,Y2] at af|-;exact⟨af.2.1.1,af.2.1.2.1.1,λa ha b hb=>af.2.1.2.2 a ha b (.inl hb)⟩;exact ah k (by simp only[Ym,Y2] at hk|-;exact .inr (hk.imp_right .inl));simp only[Ym,Y2] at hk|-;exact hk.imp_right λh=>.inr (h.imp_right .inl);simp;exact hK;simp only[bc,cond_false] at hm;obtain⟨v,hv,hm⟩:=hm.bind;obtain⟨n,b5⟩:∃n:Nat,v.1=n:=⟨v.1.toNat,by have:=Tj hv;omega⟩;simp[k14,am,a7,bc];have ca:h.ep<((h.qA (h.ep,48) (Zf x x6 ab ac aa)).next).ep:=sI
 generalize hHX:(h.qA (h.ep,48) (Zf x x6 ab ac aa)).next=HX at*;refine Z4.cu [0,1,2,3,4,5,6,7,8,9,10] (λe h'=>e.n=120/\e.get 0=.p l/\e.get 3=.p (h.ep,48)/\e.get 5=.i v.1/\e.get 6=.b v.2/\h'=HX.next) ?_ ?_;simp[bl,bd,b0];refine Za (Z3.qD (UO S x.table v hv) ⟨.agg s0.frz,.one (.frz (.data rfl)),trivial⟩ rfl ?_);simp;exact⟨λ_ _ x=>x,Zb.of sI⟩;rintro e h' ⟨hn,h0,h3,h5,h6,rfl⟩;have bk:Z0 HX HX.next []:=Z0.refl.next;have s1:=s0.frame bk;have ad:HX.next.box (h.ep,48)=some (Zf x x6 ab ac aa):=bd;have bp:=hx0.frame (h':=HX.next) λk hk=>bk.2 k (ah k hk).1 sI;have bq:∀k∈a6++(a12++(bw++bt)),k.1<HX.next.ep/\k∉l::(ta++(fa++oa)):=λk hk=>⟨by have:=(ah k hk).1;simp<;>omega,(ah k hk).2⟩;have ag:=aw.after bk;rw[b5] at h5;have b8:v.1.toNat=n:=oM
 rw[b8] at hm;simp[hn,h6];cases hv2:v.2 with|false=>?_|true=>?_;rw[hv2] at hm;obtain⟨rfl,rfl⟩:=ZJ hm;simp[hn];exact ag _ _ s1.ows .refl (λk hk=>.inl hk);simp only[hv2,Xf,cond_false] at hm;simp at ad;simp[hn,h3,ad,e0];cases k4:x.kind==4 with|true=>?_|false=>?_;simp only[k4,cond_true] at hm;simp[hn,h0,h3,h5,ad,e4];refine Za (QC _ l tc fc oc ta fa oa S S' n x.newName r hm s1 _ (ag.to λh' hK=>?_));simp[hn];exact hK;simp only[k4,cond_false] at hm;cases k6:x.kind==6 with|true=>?_|false=>?_;simp only[k6,cond_true] at hm;simp[k6,hn,h0,h3,h5,ad,al];refine Za (QK _ l tc fc oc _ ta fa oa _ S S' n x r hm s1 bp bq _ (ag.to λh' hK=>?_));simp[hn];exact hK;simp only[k6,cond_false] at hm;cases k7:x.kind==7 with|true=>?_|false=>?_;simp only[k7,cond_true] at hm;simp[k6,k7,hn,h0,h3,h5,ad,e2];refine Za (QL _ l tc fc oc ta fa oa S S' n x.other r hm s1 _ (ag.to λh' hK=>?_));simp[hn];exact hK;simp only[k7,cond_false] at hm;cases k8:x.kind==8 with|true=>?_|false=>?_;simp only[k8,cond_true] at hm;simp[k6,k7,k8,hn,h0,h3,h5,ad,al];refine Za (Qh _ l tc fc oc x6 ab ac aa ta fa oa S S' n x r hm s1 _ (ag.to λh' hK=>?_));simp[hn];exact hK;simp only[k8,cond_false] at hm;cases k9:x.kind==9 with|true=>?_|false=>?_;simp only[k9,cond_true] at hm;simp[k6,k7,k8,k9,hn,h0,h3,h5,ad,al];refine Za (QD _ l tc fc oc x6 ab ac aa ta fa oa S S' n x r hm s1 _ (ag.to λh' hK=>?_));simp[hn];exact hK;simp only[k9,cond_false] at hm;cases aq:x.kind==11 with|true=>?_|false=>?_;simp only[aq,cond_true] at hm;simp[k6,k7,k8,k9,aq,hn,h0,h3,ad,b0];refine Za (QZ _ l _ S S' x.table r hm s1.ows _ (ag.to λh' hK=>?_));simp[hn];exact hK;simp only[aq,cond_false] at hm;cases ba:x.kind==12 with|true=>?_|false=>?_;simp only[ba,cond_true] at hm;simp[k6,k7,k8,k9,aq,ba,hn,h0,h3,h5,ad,al];refine Za (Qm _ l tc fc oc _ ta fa oa _ S S' n x r hm s1 bp bq _ (ag.to λh' hK=>?_));simp[hn];exact hK;simp only[ba,cond_false] at hm;cases k1:x.kind==1 with|true=>?_|false=>?_
 simp only[k1,cond_true] at hm;simp[k6,k7,k8,k9,aq,ba,k1,hn,h0,h3,h5,ad,al];refine Za (R0 _ l tc fc oc x6 ab ac aa ta fa oa S S' n x r hm s1 _ (ag.to λh' hK=>?_));simp[hn];exact hK;simp only[k1,cond_false] at hm;simp[k6,k7,k8,k9,aq,ba,k1,hn,h0,h3,h5,ad,al];refine Za (QF _ l tc fc oc x6 ab ac aa ta fa oa S S' n x r hm s1 _ (ag.to λh' hK=>?_));simp[hn];exact hK
def Gs(a:Tbl)(b:Tbl):Option Bool:=
 bif strEq a.name b.name then Z1 (Cz a.cols b.cols) λv4=>(bif v4 then Z1 (AN a.pk b.pk) λv6=>(some v6) else some false) else some false
instance Zb5(a:Tbl)(b:Tbl):Con (Gs a b) prog 202 [.agg a.enc,.agg b.enc] (λr=>.one (.d (.bool r))):=by unfold Gs;exact go 24 Tryz.func202
def E7(a:Tbl)(b:Tbl):Option Bool:=
 Z1 (Gs a b) λv3=>some v3
instance Zb6(a:Tbl)(b:Tbl):Con (E7 a b) prog 164 [.agg a.enc,.agg b.enc] (λr=>.one (.d (.bool r))):=by unfold E7;exact go 8 Tryz.func164
def Gv(a:Stp)(b:Stp):Option Bool:=
 bif (a.kind==b.kind) then bif strEq a.table b.table then bif strEq a.other b.other then bif strEq a.column b.column then bif strEq a.newName b.newName then bif (a.type==b.type) then Z1 (AN a.cols b.cols) λv9=>(bif v9 then bif strEq a.op b.op then bif (a.value.kind==b.value.kind&&(a.value.int==b.value.int&&(a.value.text==b.value.text))) then Z1 (E7 a.newTable b.newTable) λv13=>(bif v13 then bif (a.cons.table==b.cons.table&&(a.cons.left==b.cons.left&&(a.cons.op==b.cons.op&&(a.cons.right==b.cons.right&&(a.cons.value.kind==b.cons.value.kind&&(a.cons.value.int==b.cons.value.int&&(a.cons.value.text==b.cons.value.text))))))) then Z1 (A5 a.fk b.fk) λv16=>(some v16) else(some false) else some false) else(some false) else(some false) else some false) else(some false) else(some false) else(some false) else(some false) else(some false) else some false
instance Zbt(a:Stp)(b:Stp):Con (Gv a b) prog 146 [.agg a.enc,.agg b.enc] (λr=>.one (.d (.bool r))):=by unfold Gv;exact go 87 Tryz.func146
def Vr(x:Stp):Stp:=⟨x.kind,x.table,empty,empty,empty,0,[],empty,⟨0,0,empty⟩,⟨empty,[],[]⟩,⟨empty,0,empty,0,⟨0,0,empty⟩⟩,⟨empty,[],empty⟩⟩
def DX(x:Stp):Option Stp:=
 bif x.kind==1 then some {Vr x with column:=x.column,type:=x.type,value:=x.value} else
 bif x.kind==2 then some {Vr x with column:=x.column,value:=x.value} else
 bif x.kind==3 then some {Vr x with column:=x.column,newName:=x.newName} else
 bif x.kind==4 then some {Vr x with newName:=x.newName} else
 bif x.kind==5 then some {Vr x with column:=x.column,type:=x.type} else
 bif x.kind==6 then some {Vr x with other:=x.other,cols:=x.cols} else
 bif x.kind==7 then some {Vr x with other:=x.other} else
 bif x.kind==8 then some {Vr x with other:=x.other,column:=x.column,op:=x.op,value:=x.value} else
 bif x.kind==9 then some {Vr x with other:=x.other,column:=x.column} else
 bif x.kind==10 then some {Vr x with table:=empty,newTable:=x.newTable} else
 bif x.kind==12 then some {Vr x with column:=x.column,cols:=x.cols} else
 bif x.kind==13 then some {Vr x with table:=empty,cons:=x.cons} else
 bif x.kind==14 then some {Vr x with table:=empty,cons:=x.cons} else
 bif x.kind==15 then some {Vr x with table:=empty,fk:=x.fk} else
 bif x.kind==16 then some {Vr x with table:=empty,fk:=x.fk} else
 some (Vr x)
theorem MM{h:HS}{aa:Nat->Option Z2}:∀{cs:List C} {ds:List D},Zt cs=some ds->Cg h aa cs (ds.map RC.d)
 |[],ds,hd=>by simp[Zt] at hd;subst hd;trivial
 |c::cs,ds,hd=>by
   cases h1:c.toD<;>cases h2:Zt cs<;>simp[Zt,h1,h2] at hd;subst hd;exact⟨h1,MM h2⟩
theorem NW:∀{cs:List C} {ds:List D},Zt cs=some ds->cs.length=ds.length
 |[],ds,hd=>by simp[Zt] at hd;subst hd;rfl
 |c::cs,ds,hd=>by
   cases h1:c.toD<;>cases h2:Zt cs<;>simp[Zt,h1,h2] at hd;subst hd;simp[NW h2]
theorem I1{P:Program}{id:Nat}{ops:Array Oper}{Q:Exit->Env->HS->Prop}{e:Env}{h:HS}(n:Nat)(_:ops.size=n)(aa:Plan)(hm:P.follows .mixedOrders=true)
  (hB:WK .any ops aa ops.size (Array.replicate ops.size false)=true)(J:Env->HS->Prop)(h1:vcPlan P ops.toList (λe h=>Zb (J:=⟨J⟩) e h) aa e h)(h2:∀e h,J e h->Q .normal e h):
  Z4 P (c:=⟨.region id ops true⟩) (Q:=⟨Q⟩) e h:=Z4.cut aa hm hB J h1 h2
set_option maxHeartbeats 4000000 in
theorem QP(x:Stp)(r:Stp)(hm:Is (DX x) r):Zj prog 147 [.agg x.enc] (.agg (r.enc.map RC.d)):=by
 unfold DX at hm;obtain⟨NX,hN⟩:∃NX:Env->HS->Prop,NX=λe h=>e.n=115/\e.get 2=.p (1,32)/\e.get 3=.p (2,48)/\(∃cs,h.box (1,32)=some cs/\cs.length=24)/\∃cs,h.box (2,48)=some cs/\Zt cs=some r.enc:=⟨_,rfl⟩;refine Zj.qN Tryz.func147 rfl kR (n:=115) rfl rfl sI ?_;simp
 repeat' (first
  |((with_reducible refine Zy hm ?_ ?_)<;>(clear hm;intro hc hm;simp[hc]))
  | (with_reducible have hr:=Zh hm
     clear hm
     first
     | (subst hr
        exact V8 (vs:=[_]) (by simp;exact rfl) (by simp[Vr,BA,Vu,Cg,Uc,C.toD,Stp.enc]))
     | (skip
        first
        |refine I1 6 rfl (Plan.qB [0,2] (.two 1 3 (Plan.qB [3,4,5] .done) (Plan.qB [1,4,5] .done))) follows kR NX ?_ ?_
        |refine I1 8 rfl (Plan.qB [0,1,2,4] (.two 3 5 (Plan.qB [5,6,7] .done) (Plan.qB [3,6,7] .done))) follows kR NX ?_ ?_
        |refine I1 12 rfl (Plan.qB [0,1,2,4,6] (.three 3 5 7 (Plan.qB [] (.two 5 7 (Plan.qB [7,8,9,10,11] .done) (Plan.qB [8] (.two 5 9 (Plan.qB [9,10,11] .done) (Plan.qB [5,10,11] .done))))) (Plan.qB [] (.two 3 7 (Plan.qB [7,8,9,10,11] .done) (Plan.qB [3,8,9,10,11] .done))) (Plan.qB [3,8] (.two 5 9 (Plan.qB [9,10,11] .done) (Plan.qB [5,10,11] .done))))) follows kR NX ?_ ?_
        |refine I1 16 rfl (Plan.qB [0,1,2,4,6,8] (.four 3 5 7 9 (Plan.qB [] (.three 5 7 9 (Plan.qB [] (.two 7 9 (Plan.qB [9,10,11,12,13,14,15] .done) (Plan.qB [10] (.two 7 11 (Plan.qB [11,12,13,14,15] .done) (Plan.qB [12] (.two 7 13 (Plan.qB [13,14,15] .done) (Plan.qB [7,14,15] .done))))))) (Plan.qB [] (.two 5 9 (Plan.qB [9,10,11,12,13,14,15] .done) (Plan.qB [10] (.two 5 11 (Plan.qB [11,12,13,14,15] .done) (Plan.qB [5,12,13,14,15] .done))))) (Plan.qB [10] (.three 5 7 11 (Plan.qB [] (.two 7 11 (Plan.qB [11,12,13,14,15] .done) (Plan.qB [12] (.two 7 13 (Plan.qB [13,14,15] .done) (Plan.qB [7,14,15] .done))))) (Plan.qB [] (.two 5 11 (Plan.qB [11,12,13,14,15] .done) (Plan.qB [5,12,13,14,15] .done))) (Plan.qB [5,12] (.two 7 13 (Plan.qB [13,14,15] .done) (Plan.qB [7,14,15] .done))))))) (Plan.qB [] (.three 3 7 9 (Plan.qB [] (.two 7 9 (Plan.qB [9,10,11,12,13,14,15] .done) (Plan.qB [10] (.two 7 11 (Plan.qB [11,12,13,14,15] .done) (Plan.qB [12] (.two 7 13 (Plan.qB [13,14,15] .done) (Plan.qB [7,14,15] .done))))))) (Plan.qB [] (.two 3 9 (Plan.qB [9,10,11,12,13,14,15] .done) (Plan.qB [3,10,11,12,13,14,15] .done))) (Plan.qB [3,10] (.two 7 11 (Plan.qB [11,12,13,14,15] .done) (Plan.qB [12] (.two 7 13 (Plan.qB [13,14,15] .done) (Plan.qB [7,14,15] .done))))))) (Plan.qB [] (.three 3 5 9 (Plan.qB [] (.two 5 9 (Plan.qB [9,10,11,12,13,14,15] .done) (Plan.qB [10] (.two 5 11 (Plan.qB [11,12,13,14,15] .done) (Plan.qB [5,12,13,14,15] .done))))) (Plan.qB [] (.two 3 9 (Plan.qB [9,10,11,12,13,14,15] .done) (Plan.qB [3,10,11,12,13,14,15] .done))) (Plan.qB [3,10] (.two 5 11 (Plan.qB [11,12,13,14,15] .done) (Plan.qB [5,12,13,14,15] .done))))) (Plan.qB [3,10] (.three 5 7 11 (Plan.qB [] (.two 7 11 (Plan.qB [11,12,13,14,15] .done) (Plan.qB [12] (.two 7 13 (Plan.qB [13,14,15] .done) (Plan.qB [7,14,15] .done))))) (Plan.qB [] (.two 5 11 (Plan.qB [11,12,13,14,15] .done) (Plan.qB [5,12,13,14,15] .done))) (Plan.qB [5,12] (.two 7 13 (Plan.qB [13,14,15] .done) (Plan.qB [7,14,15] .done))))))) follows kR NX ?_ ?_
        .simp
         repeat' (first|with_reducible refine And.intro ?_ ?_|(refine Zb.of ?_;rw[hN];exact⟨sI,sI,sI,⟨_,by simp;rfl,rfl⟩,_,by simp;rfl,by rw[<-hr];simp[Vr,Zt,C.toD,Stp.enc]⟩))
        .intro e5 h5 hq;rw[hN] at hq;obtain⟨hn,h2,h3,⟨zs,hz,ab⟩,cs,hb,aa⟩:=hq;have hl:=NW aa;have hT:Zl 24 cs=some cs:=by rw[Zl,if_pos (by simp[hl,Stp.enc]),Yr (by simp[hl,Stp.enc])]
         simp[hn,h2,h3,hz,hb,hT,ab];have hq:Zg zs 0 cs=cs:=by simp[Zg,hl,ab,Stp.enc]
         exact⟨by simp[hl,Stp.enc],V8 (vs:=[.agg cs]) (by simp[hn,h2,hq,hT]) (MM aa)⟩)))
instance Zak(step:Stp):Con (DX step) prog 147 [.agg step.enc] (λr=>.agg (r.enc.map RC.d)):=⟨λr hm=>QP step r hm⟩
def E8(step:Stp):Option Int:=
 bif decide (step.kind<1) then some 3 else bif decide (16<step.kind) then some 3 else Z1 (DX step) λv4=>Z1 (Gv step v4) λv5=>bif !v5 then some 3 else some 0
instance Rh(step:Stp):Con (E8 step) prog 138 [.agg step.enc] (λr=>.one (.d (.int .i64 r))):=by unfold E8;have p1:PH [1] (Plan.qB [0,1,2,3,4,5,6,7,8,9,10,11,12,13,14] .done):=.intro;exact go 18 Tryz.func138
def HO:Sch:=⟨[],[],[]⟩
def Uh(S:Sch)(x:Stp):Option (Sch×Int):=
 Z1 (Ug S) λe=>bif e !=0 then some (HO,e) else Z1 (E8 x) λe2=>bif e2 !=0 then some (HO,e2) else
 Zp (KN S/\KM x) (Z1 (Em S x) λq=>bif q.2 !=0 then some (HO,q.2) else Z1 (Ug q.1) λe3=>bif e3 !=0 then some (HO,e3) else some (q.1,0))
theorem Fl{h:HS}{cs:List C}{S:Sch}{r:Int}(hf:Zx h cs S.enc):Du h (.tup [.agg cs,.i r]) (.tup [.agg (S.enc.map RC.d),.i r]):=by
 match cs,hf with
 |[a,b,c],hf=>exact⟨⟨hf.1,hf.2.1,hf.2.2.1,trivial⟩,Frz.data rfl,trivial⟩
set_option maxHeartbeats 1000000 in
theorem LL(S:Sch)(x:Stp)(r:Sch×Int)(hm:Is (Uh S x) r):Zj prog 127 [.agg S.enc,.agg x.enc] (.tup [.agg (r.1.enc.map RC.d),.i r.2]):=by
 refine Zj.of_heap ?_;obtain⟨R,q⟩:=r;simp only at hm|-;obtain⟨ev,aj,hm⟩:=hm.bind;show Z3 _ _ [.agg (S.enc.map C.d),.agg (x.enc.map C.d)] HS.init _;refine Z3.jE Tryz.func127 rfl kR λhg=>?_;refine Z3.ov Tryz.func127 ?_;simp;refine Za (Z3.qD (IF S ev aj) ⟨.agg (Zx.qL (ds:=S.enc)),trivial⟩ rfl ?_);simp;cases hev0:ev !=0 with|true=>?_|false=>?_;simp only[hev0,cond_true] at hm;obtain⟨rfl,rfl⟩:=ZJ hm;simp[hev0,ZG,Zz,ZL,ZR];exact Fl ⟨.data rfl,.data rfl,.data rfl,trivial⟩;simp only[hev0,cond_false] at hm;obtain⟨e2,ap,hm⟩:=hm.bind;simp[hev0];refine Za (Z3.qD (Rh x e2 ap) ⟨.agg (Zx.qL (ds:=x.enc)),trivial⟩ rfl ?_);simp;cases he20:e2 !=0 with|true=>?_|false=>?_;simp only[he20,cond_true] at hm;obtain⟨rfl,rfl⟩:=ZJ hm;simp[he20,ZG,Zz,ZL,ZR];exact Fl ⟨.data rfl,.data rfl,.data rfl,trivial⟩;simp only[he20,cond_false] at hm;obtain⟨⟨hS,hx⟩,hm⟩:=hm.chk;obtain⟨⟨S1,q1⟩,al,hm⟩:=hm.bind;simp only at hm;simp[he20];refine Za (St _ S hS _ (λtc fc oc qt qf qo g1 pt pf po nd new ae=>?_));have b4:=ae.2 (2,64) sI sI;have b3:=ae.2 (1,48) sI sI;have ab:=ae.1;simp at b4 b3 ab;simp[b3];have hz:Z0 g1 ((g1.qA (g1.ep,128) [.nil,.nil,.nil]).next.qA (g1.ep,128) [tc,fc,oc]) []:=((Z0.refl.qA (.inr (Y7 _))).next).qA (.inr (Y7 _));have sB:Sc ((g1.qA (g1.ep,128) [.nil,.nil,.nil]).next.qA (g1.ep,128) [tc,fc,oc]) (g1.ep,128) S tc fc oc (Z5 tc qt) (Z5 fc qf) (Z5 oc qo):=by
  refine⟨qt,qf,qo,rfl,rfl,rfl,sI,pt.frame λk hk=>hz.2 k (new k (by simp[hk])).2 sI,pf.frame λk hk=>hz.2 k (new k (by simp[hk])).2 sI,po.frame λk hk=>hz.2 k (new k (by simp[hk])).2 sI,?_,λk hk=>?_⟩;rw[Xm];exact⟨λhk=>by have:=(new _ hk).2;simp at this,nd⟩;rcases Y9.1 hk with rfl|hk;simp
  have:=(new k hk).2;simp<;>omega
 have ag:((g1.qA (g1.ep,128) [.nil,.nil,.nil]).next.qA (g1.ep,128) [tc,fc,oc]).box (2,64)=some [.nil,.nil,.nil]:=by simp[b4]
 have au:g1.ep<((g1.qA (g1.ep,128) [.nil,.nil,.nil]).next.qA (g1.ep,128) [tc,fc,oc]).ep:=sI;have ac:∀k∈(g1.ep,128)::(Z5 tc qt++(Z5 fc qf++Z5 oc qo)),5<=k.1:=λk hk=>by
  rcases Y9.1 hk with rfl|hk;exact ab
  have:=(new k hk).1;simpa using this
 refine Za (RK _ x hx _ (λcs g2 lx ox ak aa hs2 hb2=>?_));have s2:=sB.frame hs2;have ar:g2.box (2,64)=some [.nil,.nil,.nil]:=by rw[hs2.2 _ (by simp<;>omega) sI];exact ag
 simp;refine Za (RJ g2 (g1.ep,128) tc fc oc cs _ _ _ lx S S1 x q1 al s2 ox ⟨ak,λk hk=>⟨(aa k hk).2,λh9=>by have:=sB.lt k h9;have:=(aa k hk).1;omega⟩⟩ _ ?_);intro g3 ay ah hs3 aq;obtain⟨ax,a8,a1,aw,a7,az,rfl,s3⟩:=ah.sc;have ad:g3.box (2,64)=some [.nil,.nil,.nil]:=by
  rw[hs3.2 _ (by have:=hs2.1;simp at this|-;omega) λh9=>?_];exact ar;simp only[Y9,Y2] at h9;rcases h9 with h9|h9|h9;simp at h9
  have:=ac (2,64) (by simp only[Y9,Y2];exact .inr h9);simp at this
  have:=(aa _ h9).1;simp at this;omega
 have af:=s3.box;simp;cases hq0:q1 !=0 with|true=>?_|false=>?_;simp only[hq0,cond_true] at hm;obtain⟨rfl,rfl⟩:=ZJ hm;simp[hq0,ad,ZG,Zz,ZL,ZR];exact Fl ⟨.data rfl,.data rfl,.data rfl,trivial⟩;simp only[hq0,cond_false] at hm;obtain⟨e3,am,hm⟩:=hm.bind;simp[hq0,af];refine Za (Z3.qD (IF S1 e3 am) ⟨.agg s3.frz,trivial⟩ rfl ?_);simp;cases he30:e3 !=0 with|true=>?_|false=>?_;simp only[he30,cond_true] at hm;obtain⟨rfl,rfl⟩:=ZJ hm;simp[he30,ad,ZG,Zz,ZL,ZR];exact Fl ⟨.data rfl,.data rfl,.data rfl,trivial⟩;simp only[he30,cond_false] at hm;obtain⟨rfl,rfl⟩:=ZJ hm;simp[he30,ad,af,ZG,Zz,ZL,ZR];refine Fl ((s3.rX (lz:=[(2,64)]) (Z0.refl.next.qA (.inl sI)) λk hk h9=>?_).frz);simp at hk;subst hk;simp only[Y9] at h9;rcases h9 with h9|h9;simp at h9;rcases aq _ h9 with h8|h8;rcases Y2.1 h8 with h8|h8
 have:=ac (2,64) (Yc _ h8);simp at this
 have:=(aa _ h8).1;simp at this;omega
 have:=hs2.1;simp at this h8;omega
def Lf(s_:List Cons):Option (List Cons):=some s_
theorem Qo(s_:List Cons)(r:List Cons)(hm:Is (Lf s_) r):Zj prog 111 [.one (.d (.sl (s_.map Cons.enc)))] (.one (.fresh 0 7 (r.map Cons.enc))):=by
 obtain rfl:=Zh hm;refine Hz ⟨_,Tryz.func111,by kernel_rfl,by kernel_rfl⟩ (λhl=>?_);have hxs:∀x∈s_.map Cons.enc,x.length=7:=by intro x hx;obtain⟨y,_,rfl⟩:=Yi.1 hx;rfl
 generalize s_.map Cons.enc=xs at*;refine Zj.qN Tryz.func111 rfl (by kernel_rfl) (n:=8) rfl rfl (by simp) ?_;simp;refine EU C5 rfl (xs:=xs) rfl (λb hb=>?_);cases b with
 |true=>
   have:xs=[]:=Classical.byContradiction λh=>by simpa using hb h
   subst this;simp;exact Aj (by simpa using U6.nil)
 |false=>
   simp;refine D6 (by simp) ?_;simp;refine U3 C5 (Zi.own (by simp) (by simp) (by simp)) rfl (by decide) (by decide) hxs (by simpa using hl) ?_;simp;exact Aj (by simpa using U6.app (by simp) (by simp) hxs rfl)
def CK(s_:List Int):Option (List Int):=some s_
theorem LB(s_:List Int)(r:List Int)(hm:Is (CK s_) r):Zj prog 113 [.one (.d (.sl (s_.map Zd)))] (.one (.fresh 0 1 (r.map Zd))):=by
 obtain rfl:=Zh hm;refine Hz ⟨_,Tryz.func113,by kernel_rfl,by kernel_rfl⟩ (λhl=>?_);have hxs:∀x∈s_.map Zd,x.length=1:=by intro x hx;obtain⟨y,_,rfl⟩:=Yi.1 hx;rfl
 generalize s_.map Zd=xs at*;refine Zj.qN Tryz.func113 rfl (by kernel_rfl) (n:=8) rfl rfl (by simp) ?_;simp;refine EU Bs rfl (xs:=xs) rfl (λb hb=>?_);cases b with
 |true=>
   have:xs=[]:=Classical.byContradiction λh=>by simpa using hb h
   subst this;simp;exact Aj (by simpa using U6.nil)
 |false=>
   simp;refine D6 (by simp) ?_;simp;refine U3 Bs (Zi.own (by simp) (by simp) (by simp)) rfl (by decide) (by decide) hxs (by simpa using hl) ?_;simp;exact Aj (by simpa using U6.app (by simp) (by simp) hxs rfl)
instance Zbg(s_:List Int):Con (CK s_) prog 113 [.one (.d (.sl (s_.map Zd)))] (λr=>.one (.fresh 0 1 (r.map Zd))):=⟨λr hm=>LB s_ r hm⟩
def Iy(s_:List Col):Option (List Col):=some s_
theorem R5(s_:List Col)(r:List Col)(hm:Is (Iy s_) r):Zj prog 132 [.one (.d (.sl (s_.map Col.enc)))] (.one (.fresh 0 3 (r.map Col.enc))):=by
 obtain rfl:=Zh hm;refine Hz ⟨_,Tryz.func132,by kernel_rfl,by kernel_rfl⟩ (λhl=>?_);have hxs:∀x∈s_.map Col.enc,x.length=3:=by intro x hx;obtain⟨y,_,rfl⟩:=Yi.1 hx;rfl
 generalize s_.map Col.enc=xs at*;refine Zj.qN Tryz.func132 rfl (by kernel_rfl) (n:=8) rfl rfl (by simp) ?_;simp;refine EU BZ rfl (xs:=xs) rfl (λb hb=>?_);cases b with
 |true=>
   have:xs=[]:=Classical.byContradiction λh=>by simpa using hb h
   subst this;simp;exact Aj (by simpa using U6.nil)
 |false=>
   simp;refine D6 (by simp) ?_;simp;refine U3 BZ (Zi.own (by simp) (by simp) (by simp)) rfl (by decide) (by decide) hxs (by simpa using hl) ?_;simp;exact Aj (by simpa using U6.app (by simp) (by simp) hxs rfl)
instance Zas(s_:List Col):Con (Iy s_) prog 132 [.one (.d (.sl (s_.map Col.enc)))] (λr=>.one (.fresh 0 3 (r.map Col.enc))):=⟨λr hm=>R5 s_ r hm⟩
def BS(t:Tbl):Option Tbl:=
 Z1 (Iy t.cols) λv3=>Z1 (CK t.pk) λv4=>some (Tbl.mk t.name v3 v4)
instance Lu(t:Tbl):Con (BS t) prog 112 [.agg t.enc] (λr=>.agg (r.enc.map RC.d)):=by unfold BS;have p1:PH [1] (Plan.qB [0,1,2,3,5,6,4,7,8,9] .done):=.intro;exact go 12 Tryz.func112
def VW(s_:Sch):Option Sch:=
 Z1 (Lf s_.cons) λv3=>Zc (λ(i6:Nat) (x6:Tbl) (s6:(List Tbl)) next_6=>Z1 (BS x6) λv8=>W0 s6 [v8] λ_=>next_6 (s6++[v8])) (λ(s6:(List Tbl))=>Zc (λ(i12:Nat) (x12:Fk) (s12:(List Fk)) next_12=>Z1 (CK x12.cols) λv14=>W0 s12 [(Fk.mk x12.table v14 x12.ref)] λ_=>next_12 (s12++[(Fk.mk x12.table v14 x12.ref)])) (λ(s12:(List Fk))=>some (Sch.mk s6 s12 v3)) s_.fks 0 []) s_.tables 0 []
theorem IQ(s_:Sch)(r:Sch)(hm:Is (VW s_) r):Zj prog 73 [.agg s_.enc] (.agg (r.enc.map RC.d)):=by
 unfold VW at hm;refine Zj.qN Tryz.func73 rfl (by kernel_rfl) (n:=46) rfl rfl (by simp) ?_
 try simp[*]
 refine VJ (av:=[.one (.d (.sl (s_.cons.map Cons.enc)))]) hm (λv hv=>Qo _ v hv) (by simp[*]) ?_;clear hm;intro v3 hvv3 hm
 try simp[*]
 intro hl5;replace hl5:s_.tables.length<=2097152:=by simpa using hl5
 refine Z4.for (xs:=s_.tables) (s0:=[]) (λi6 s6 e6 h6=>∃c6_0 c6_bb4_2:C,(e6.n=46/\e6.get 1=.one (.ptr (0,16) 0)/\e6.get 2=.one (.ptr (1,32) 0)/\e6.get 3=.one (.ptr (3,48) 0)/\e6.get 13=.one (.d (.sl (s_.tables.map Tbl.enc)))/\e6.get 14=.one (.d (.int .i64 (s_.tables.length:Int)))/\e6.get 15=.one (.d (.int .i64 (i6:Int)))/\h6.box (0,16)=some [.d (.sl (s_.tables.map Tbl.enc)),.d (.sl (s_.fks.map Fk.enc)),.d (.sl (s_.cons.map Cons.enc))]/\h6.box (1,32)=some [.nil,.nil,.nil]/\h6.box (3,48)=some [c6_0,.nil,c6_bb4_2]/\Zi h6 3 c6_0 (s6.map Tbl.enc)/\Zi h6 7 c6_bb4_2 (v3.map Cons.enc))/\Ws c6_0 c6_bb4_2) hm ⟨.nil,.own (2,161) (v3.map Cons.enc),by simp(maxDischargeDepth:=20) [*],(by simp)⟩ ?_ ?_
 .rintro i6 s6 e6 h6 ⟨c6_0,c6_bb4_2,⟨hn6,h6_1,h6_2,h6_3,h6_13,h6_14,h6_15,hb6_b1,hb6_b2,hb6_b4,gc6_0,gc6_bb4_2⟩,apc6_0_c6_bb4_2⟩ hlt6 hm;have hlc6_0:=gc6_0.list;have hdc6_0:=gc6_0.toD;have hac6_0:=gc6_0.toA;have huc6_0:=gc6_0.qH;have hlc6_bb4_2:=gc6_bb4_2.list;have hdc6_bb4_2:=gc6_bb4_2.toD;have hac6_bb4_2:=gc6_bb4_2.toA;have huc6_bb4_2:=gc6_bb4_2.qH;have hw6:IntKind.i64.wrap ((i6:Int)+1)=(i6:Int)+1:=Y5 _ (by omega)
  try simp[*]
  refine Z4.of (Wi.draw (Plan.qB [0,1,2,3,4,5,6,7] .done) follows (by kernel_rfl) ?_)
  try simp[*]
  refine VJ (av:=[.agg (s_.tables[i6]).enc]) hm (λv hv=>Lu _ v hv) (by simp[*]) ?_;clear hm;intro v8 hvv8 hm
  try simp[*]
  try refine⟨λ(_:Z2) (_:List C) hl=>hl,?_⟩
  refine AW (xs:=s6) (ys:=[v8]) (enc:=Tbl.enc) hm Fe (by first|exact Zi.nil|(simp(maxDischargeDepth:=20) [*];done)|(simp(maxDischargeDepth:=20) [*];refine⟨?_,by omega⟩;intro hq;subst hq;simp at hz2<;>omega)) (by simp[*]) (by decide) (by decide) (λ_=>rfl) ?_;clear hm;intro hl10 hm g9
  try simp[*]
  exact Ze.of (s6++[v8]) ⟨⟨.own (h6.ep+3,384) ((s6++[v8]).map Tbl.enc),c6_bb4_2,by simp(maxDischargeDepth:=20) [*],(by first|(simp[*];done)|exact gc6_bb4_2.apart (by simp))⟩,hm⟩
 .rintro s6 e6 h6 ⟨c6_0,c6_bb4_2,⟨hn6,h6_1,h6_2,h6_3,h6_13,h6_14,h6_15,hb6_b1,hb6_b2,hb6_b4,gc6_0,gc6_bb4_2⟩,apc6_0_c6_bb4_2⟩ hm;have hlc6_0:=gc6_0.list;have hdc6_0:=gc6_0.toD;have hac6_0:=gc6_0.toA;have huc6_0:=gc6_0.qH;have hlc6_bb4_2:=gc6_bb4_2.list;have hdc6_bb4_2:=gc6_bb4_2.toD;have hac6_bb4_2:=gc6_bb4_2.toA;have huc6_bb4_2:=gc6_bb4_2.qH
  try simp[*]
  intro hl11;replace hl11:s_.fks.length<=2097152:=by simpa using hl11
  refine Z4.for (xs:=s_.fks) (s0:=[]) (λi12 s12 e12 h12=>∃c12_bb4_0 c12_0 c12_bb4_2:C,(e12.n=46/\e12.get 2=.one (.ptr (1,32) 0)/\e12.get 3=.one (.ptr (3,48) 0)/\e12.get 28=.one (.d (.sl (s_.fks.map Fk.enc)))/\e12.get 29=.one (.d (.int .i64 (s_.fks.length:Int)))/\e12.get 30=.one (.d (.int .i64 (i12:Int)))/\h12.box (1,32)=some [.nil,.nil,.nil]/\h12.box (3,48)=some [c12_bb4_0,c12_0,c12_bb4_2]/\Zi h12 3 c12_bb4_0 (s6.map Tbl.enc)/\Zi h12 3 c12_0 (s12.map Fk.enc)/\Zi h12 7 c12_bb4_2 (v3.map Cons.enc))/\Ws c12_bb4_0 c12_0/\Ws c12_bb4_0 c12_bb4_2/\Ws c12_0 c12_bb4_2) hm ⟨c6_0,.nil,c6_bb4_2,by simp(maxDischargeDepth:=20) [*],(by simp),(by first|assumption|exact Ws.symm (by assumption)),(by simp)⟩ ?_ ?_
  .rintro i12 s12 e12 h12 ⟨c12_bb4_0,c12_0,c12_bb4_2,⟨hn12,h12_2,h12_3,h12_28,h12_29,h12_30,hb12_b2,hb12_b4,gc12_bb4_0,gc12_0,gc12_bb4_2⟩,apc12_bb4_0_c12_0,apc12_bb4_0_c12_bb4_2,apc12_0_c12_bb4_2⟩ hlt12 hm;have hlc12_bb4_0:=gc12_bb4_0.list;have hdc12_bb4_0:=gc12_bb4_0.toD;have hac12_bb4_0:=gc12_bb4_0.toA;have huc12_bb4_0:=gc12_bb4_0.qH;have hlc12_0:=gc12_0.list;have hdc12_0:=gc12_0.toD;have hac12_0:=gc12_0.toA;have huc12_0:=gc12_0.qH;have hlc12_bb4_2:=gc12_bb4_2.list;have hdc12_bb4_2:=gc12_bb4_2.toD;have hac12_bb4_2:=gc12_bb4_2.toA;have huc12_bb4_2:=gc12_bb4_2.qH;have hw12:IntKind.i64.wrap ((i12:Int)+1)=(i12:Int)+1:=Y5 _ (by omega)
   try simp[*]
   refine VJ (av:=[.one (.d (.sl ((s_.fks[i12].cols).map Zd)))]) hm (λv hv=>LB _ v hv) (by simp[*]) ?_;clear hm;intro v14 hvv14 hm
   try simp[*]
   refine AW (xs:=s12) (ys:=[(Fk.mk s_.fks[i12].table v14 s_.fks[i12].ref)]) (enc:=Fk.enc) hm Fc (by first|exact Zi.nil|(simp(maxDischargeDepth:=20) [*];done)|(simp(maxDischargeDepth:=20) [*];refine⟨?_,by omega⟩;intro hq;subst hq;simp at hz2<;>omega)) (by simp[*]) (by decide) (by decide) (λ_=>rfl) ?_;clear hm;intro hl16 hm g15
   try simp[*]
   exact Ze.of (s12++[(Fk.mk s_.fks[i12].table v14 s_.fks[i12].ref)]) ⟨⟨c12_bb4_0,.own (h12.ep+3,672) ((s12++[(Fk.mk s_.fks[i12].table v14 s_.fks[i12].ref)]).map Fk.enc),c12_bb4_2,by simp(maxDischargeDepth:=20) [*],(by first|(simp[*];done)|exact(gc12_bb4_0.apart (by simp)).symm),(by first|assumption|exact Ws.symm (by assumption)),(by first|(simp[*];done)|exact gc12_bb4_2.apart (by simp))⟩,hm⟩
  .rintro s12 e12 h12 ⟨c12_bb4_0,c12_0,c12_bb4_2,⟨hn12,h12_2,h12_3,h12_28,h12_29,h12_30,hb12_b2,hb12_b4,gc12_bb4_0,gc12_0,gc12_bb4_2⟩,apc12_bb4_0_c12_0,apc12_bb4_0_c12_bb4_2,apc12_0_c12_bb4_2⟩ hm;have hlc12_bb4_0:=gc12_bb4_0.list;have hdc12_bb4_0:=gc12_bb4_0.toD;have hac12_bb4_0:=gc12_bb4_0.toA;have huc12_bb4_0:=gc12_bb4_0.qH;have hlc12_0:=gc12_0.list;have hdc12_0:=gc12_0.toD;have hac12_0:=gc12_0.toA;have huc12_0:=gc12_0.qH;have hlc12_bb4_2:=gc12_bb4_2.list;have hdc12_bb4_2:=gc12_bb4_2.toD;have hac12_bb4_2:=gc12_bb4_2.toA;have huc12_bb4_2:=gc12_bb4_2.qH
   try simp[*]
   obtain rfl:=Zh hm;exact V8 (vs:=[_]) (by simp[*];try exact rfl) (by simp[*])
instance Zca(s_:Sch):Con (VW s_) prog 73 [.agg s_.enc] (λr=>.agg (r.enc.map RC.d)):=⟨λr hm=>IQ s_ r hm⟩
theorem Oy{α β:Type}{xs:List α}{f:α->β}{Q:List β->Prop}{ρ:Type}{R:ρ->Prop}{body:Nat->α->List β->(List β->Option ρ)->Option ρ}{k:List β->Option ρ}(hl:xs.length<=1048576)
  (hb:∀i x s next,s.length<1048576->Wp (next (s++[f x])) R->Wp (body i x s next) R)(hk:Wp (k (xs.map f)) R):Wp (Zc body k xs 0 []) R:=by
 refine Wp.for (λi s=>s=(xs.take i).map f) sI ?_ ?_
 .intro i x s next hx hm hI hn
  have hi:=(Y0.1 hx).1;subst hI;refine hb i x _ next sO (hn _ ?_)
  rw[List.take_add_one,hx];simp
 intro s hs;rw[hs,Yp];exact hk
theorem Et(S:Sch)(h1:S.tables.length<=1048576)(h2:S.fks.length<=1048576):Wp (VW S) λr=>r=S:=by
 unfold VW;refine Wp.bind (R:=λr=>r=S.cons) (Wp.ret rfl) λo _ ho=>?_;subst ho;refine Oy (f:=id) (Q:=λ_=>True) h1 ?_ ?_
 .intro i x s next hs hn
  refine Wp.bind (R:=λr=>r=x) (Wp.ret (by cases x;rfl)) λy _ hy=>?_;subst hy;exact Wp.app sO hn
 refine Oy (f:=id) (Q:=λ_=>True) h2 ?_ ?_
 .intro i x s next hs hn
  refine Wp.bind (R:=λr=>r=x.cols) (Wp.ret rfl) λy _ hy=>?_;subst hy;exact Wp.app sO (by cases x;exact hn)
 exact Wp.ret (by cases S;simp)
theorem PD{a b:ByteArray}(h:(a==b)=true):a=b:=by
 cases a with
 |mk d=>cases b with
   |mk e=>
     have h':(d==e)=true:=h;rw[eq_of_beq h']
theorem M5(a b:List Col):Wp (Cz a b) λr=>r=true->a=b:=by
 unfold Cz;refine Wp.cr λh=>?_;have hl:a.length=b.length:=by simp at h;omega
 refine Wp.for (λi _=>∀j,j<i->a[j]?=b[j]?) (by intro j h;omega) (λi x s next hx _ hI hn=>?_) λs hI=>Wp.ret λ_=>Xy λj=>?_;have hi:=(Y0.1 hx).1;refine Wp.get oM oM λy hy _=>Wp.cr λh2=>hn () λj hj=>?_;rcases YA j i with h3|h3;exact hI j h3;obtain rfl:j=i:=oM
 have aa:b[j]?=some y:=by rw[<-hy];congr 1
 rw[hx,aa];obtain⟨n1,k1,l1⟩:=x;obtain⟨n2,k2,l2⟩:=y;simp at h2;obtain⟨e1,e2,e3⟩:=h2;rw[PD e1,e2,e3];rcases YA j a.length with h3|h3;exact hI j h3;rw[YK h3,YK oM]
theorem SG(a b:Tbl):Wp (E7 a b) λ_=>True:=by
 unfold E7 Gs;refine Wp.bind (R:=λ_=>True) (Wp.cond (λ_=>Wp.bind (M5 _ _) λ_ _ _=>Wp.cond (λ_=>Wp.bind (EE _ _) λ_ _ _=>Wp.ret trivial) λ_=>Wp.ret trivial) λ_=>Wp.ret trivial) λ_ _ _=>Wp.ret trivial
theorem Lr(x:Stp):Wp (E8 x) λe=>e=0->1<=x.kind/\x.kind<=16:=by
 unfold E8;refine Wp.cr λh1=>Wp.cr λh2=>Wp.bind (R:=λ_=>True) ?_ λy _ _=>Wp.bind (R:=λ_=>True) ?_ λ_ _ _=>Wp.cr λ_=>Wp.ret λ_=>⟨by simp at h1;omega,by simp at h2;omega⟩
 .unfold DX
  repeat' first|exact Wp.ret trivial|refine Wp.cond (λ_=>?_) λ_=>?_
 unfold Gv
 repeat' first|exact Wp.ret trivial|refine Wp.bind (EE _ _) λ_ _ _=>?_|refine Wp.bind (SG _ _) λ_ _ _=>?_|refine Wp.bind (Ef _ _) λ_ _ _=>?_|refine Wp.cond (λ_=>?_) λ_=>?_
theorem IV(xs:List Int)(v:Int):Wp (BU xs v) λk=>(k=-1/\v∉xs)\/(0<=k/\k<xs.length/\v∈xs):=by
 unfold BU;refine Wp.for (λi _=>∀(j:Nat) (y:Int),j<i->xs[j]?=some y->y≠v) (by intro j y h;omega) ?_ ?_
 .intro i x s next hx hm hI hn
  have hi:=(Y0.1 hx).1;refine Wp.cond (λh=>Wp.ret (.inr ⟨oM,oM,?_⟩)) λh=>hn () (Ul hI hx ?_)
  have:v=x:=by simpa using h
  rw[this];exact hm;intro h0;simp[h0] at h
 intro s hI;exact Wp.ret (.inl ⟨rfl,λhv=>Ao hI v hv rfl⟩)
theorem AP(xs:List Int)(v:Int):Wp (Ue xs v) λb=>b=true↔v∈xs:=by
 unfold Ue;refine Wp.bind (IV xs v) λk _ hk=>Wp.ret ?_;rcases hk with⟨rfl,h⟩|⟨h1,_,h⟩;simp[h];simp[h,h1]
theorem Jl(a b:List Int)(hl:a.length<=2097152):Wp (BT a b) λo=>o=0->∀v∈a,v∉b:=by
 unfold BT;refine Wp.for (λi s=>(0<=s/\s<=i)/\(s=0->∀(j:Nat) (v:Int),j<i->a[j]?=some v->v∉b)) ⟨sI,λ_ j v h=>oM⟩ ?_ ?_
 .rintro i x s next hx hm ⟨⟨h0,h1⟩,hI⟩ hn
  have hi:=(Y0.1 hx).1;refine Wp.bind (AP _ _) λc _ hc=>Wp.cond (λ_=>Wp.chk ⟨oM,oM⟩ (hn _ ⟨⟨oM,oM⟩,λh=>oM⟩)) λh=>hn _ ⟨⟨h0,oM⟩,λhs=>Ul (hI hs) hx λhb=>by rw[hc.2 hb] at h;cases h⟩
 rintro s ⟨_,hI⟩;exact Wp.cond (λh=>Wp.ret λ_=>Ao (hI (by simpa using h))) λ_=>Wp.cr λ_=>Wp.ret sI
theorem RW(S:Sch)(c:Cons):Wp (G2 S c) λq=>q.1.tables=S.tables:=by
 unfold G2 Ct;refine Wp.bind (R:=λk=>k<S.cons.length) (Wp.for (λ_ _=>True) trivial (λi x s next hx _ _ hn=>Wp.cond (λ_=>Wp.ret ?_) λ_=>hn () trivial) λ_ _=>Wp.ret oM) λk _ hk=>Wp.ite (λ_=>Wp.ret rfl) λh=>Wp.chk oM (Wp.ret rfl);have hi:=(Y0.1 hx).1;omega
theorem LN(S:Sch)(c:Fk):Wp (BM S c) λq=>q.1.tables=S.tables/\q.1.cons=S.cons/\∀f∈q.1.fks,f∈S.fks:=by
 unfold BM BK;refine Wp.bind (Wp.index λx _=>?_) λk _ hk=>Wp.ite (λ_=>Wp.ret ⟨rfl,rfl,λ_ h=>h⟩) λh=>Wp.chk (by have:=hk.lt;omega) (Wp.ret ⟨rfl,rfl,λf hf=>?_⟩);unfold Cq;exact Wp.bind (Ef _ _) λ_ _ _=>Wp.ret trivial;simp only at hf;rcases Y2.1 hf with h1|h1;exact XP h1;exact List.mem_of_mem_drop h1
end
end Go.Am
section
namespace Go.Am
section
variable{α:Type}
def Vo(rm:List Int):Nat->List α->List α
 |_,[]=>[]
 |i,x::xs=>if(i:Int)∈rm then Vo rm (i+1) xs else x::Vo rm (i+1) xs
theorem MQ(rm:List Int)(x:α):∀(xs:List α) (i:Nat),Vo rm i (xs++[x])=Vo rm i xs++(if((i+xs.length:Nat):Int)∈rm then[] else[x])
 |[],i=>by simp only[Yn,Vo,Xt,YY]
 |y::ys,i=>by have h:=MQ rm x ys (i+1);rw[show i+1+ys.length=i+(y::ys).length by simp;omega] at h;simp only[Yk,Vo,h];split;rfl;rfl
theorem EH{xs:List α}{i:Nat}{x:α}(h:xs[i]?=some x):xs.take (i+1)=xs.take i++[x]:=by rw[List.take_add_one,h];rfl
theorem Jg(rm:List Int){xs:List α}{i:Nat}{x:α}(h:xs[i]?=some x):Vo rm 0 (xs.take (i+1))=Vo rm 0 (xs.take i)++(if(i:Int)∈rm then[] else[x]):=by have hi:=(Y0.1 h).1;rw[EH h,MQ,YE,Nat.min_eq_left oM,Xu]
end
def L5(rm:List Int)(v:Int):Int:=v-(rm.filter λr=>decide (r<v)).length
theorem Vh:Zs=2097152:=rfl
theorem Ps(v:Int)(rm:List Int)(h0:0<=v)(h1:v<2097152)(hl:rm.length<=2097152):Wp (Cs v rm) λr=>r=L5 rm v:=by
 unfold Cs;refine Wp.for (λi s=>s=((rm.take i).filter λr=>decide (r<v)).length) sI ?_ ?_
 .rintro i x s next hx hm rfl hn
  have hi:=(Y0.1 hx).1;have hb:((rm.take i).filter λr=>decide (r<v)).length<=i:=Yv (XC _ _) sO;have e:((rm.take (i+1)).filter λr=>decide (r<v)).length=((rm.take i).filter λr=>decide (r<v)).length+(if x<v then 1 else 0):=by rw[EH hx,List.filter_append,Ye];by_cases h:x<v<;>simp[h]
  refine Wp.cond (λh=>Wp.chk ⟨oM,oM⟩ (hn _ ?_)) λh=>hn _ ?_;have h:x<v:=by simpa using h
  rw[e,if_pos h];omega;have h:¬x<v:=by simpa using h
  rw[e,if_neg h];omega
 rintro s rfl;have hb:=XC (λr=>decide (r<v)) (rm.take rm.length);rw[Yp] at hb|-;exact Wp.chk ⟨oM,oM⟩ (Wp.ret rfl)
def AE(T:Tbl)(rm:List Int):Tbl:={T with cols:=Vo rm 0 T.cols,pk:=T.pk.map (L5 rm)}
theorem TO{α:Type}{xs:List α}{p:Nat->α->Prop}{i:Nat}{x:α}(h:∀(j:Nat) (y:α),j<i->xs[j]?=some y->p j y)(hx:xs[i]?=some x)(hp:p i x):∀(j:Nat) (y:α),j<i+1->xs[j]?=some y->p j y:=by
 intro j y hj hy;rcases YA j i with h1|h1;exact h j y h1 hy;obtain rfl:j=i:=oM
 rw[hx] at hy;cases hy;exact hp
def KW(v:GV)(c:Col):Prop:=WD v=some 0/\(v.kind=0->c.nullable=true)/\(v.kind≠0->v.kind=c.kind)
def Z9b:Col:=⟨ByteArray.empty,0,false⟩
def Wo(T:Tbl)(c:Int):Col:=(T.cols[c.toNat]?).getD Z9b
structure SplitOK(T:Tbl)(cs:List Int):Prop where
 ne:cs≠[]
 rng:∀v∈cs,0<=v/\v<T.cols.length
 asc:∀(i:Nat) (a b:Int),cs[i]?=some a->cs[i+1]?=some b->a<b
 pk:∀v∈cs,v∉T.pk
inductive EvT(S:Sch)(ts:List Tbl)(x:Stp):Prop
 |add {i:Nat} {T:Tbl} (k:x.kind=1) (hi:S.tables[i]?=some T) (hn:strEq T.name x.table=true) (hd:KW x.value ⟨x.column,x.type,x.value.kind==0⟩) (e:ts=S.tables.set i {T with cols:=T.cols++[⟨x.column,x.type,x.value.kind==0⟩]})
 |drop {i:Nat} {T:Tbl} {c:Int} {col:Col} (k:x.kind=2) (hi:S.tables[i]?=some T) (hn:strEq T.name x.table=true) (hc:W7 T x.column=some (c,true)) (hcol:T.cols[c.toNat]?=some col) (hp:c∉T.pk) (hd:KW x.value col) (e:ts=S.tables.set i (AE T [c]))
 |rencol {i:Nat} {T:Tbl} {c:Int} {col:Col} (k:x.kind=3) (hi:S.tables[i]?=some T) (hn:strEq T.name x.table=true) (hcol:T.cols[c.toNat]?=some col) (e:ts=S.tables.set i {T with cols:=T.cols.set c.toNat {col with name:=x.newName}})
 |ren {i:Nat} {T:Tbl} (k:x.kind=4) (hi:S.tables[i]?=some T) (hn:strEq T.name x.table=true) (ho:∀U∈S.tables,strEq U.name x.newName=false) (e:ts=WG UI (S.tables.length-1) 1 (S.tables.take i++S.tables.drop (i+1)++[{T with name:=x.newName}]))
 |type {i:Nat} {T:Tbl} {c:Int} {col:Col} (k:x.kind=5) (hi:S.tables[i]?=some T) (hn:strEq T.name x.table=true) (hc:W7 T x.column=some (c,true)) (hcol:T.cols[c.toNat]?=some col) (hp:c∉T.pk) (e:ts=S.tables.set i {T with cols:=T.cols.set c.toNat {col with kind:=x.type}})
 |split {i:Nat} {T:Tbl} (k:x.kind=6) (hi:S.tables[i]?=some T) (hn:strEq T.name x.table=true) (ho:∀U∈S.tables,strEq U.name x.other=false) (hs:SplitOK T x.cols) (e:ts=WG UI S.tables.length 1 (S.tables.set i (AE T x.cols)++[⟨x.other,(T.pk++x.cols).map (Wo T),W3 T.pk.length⟩]))
 |join {i j:Nat} {T O:Tbl} (k:x.kind=7) (hi:S.tables[i]?=some T) (hn:strEq T.name x.table=true) (hj:S.tables[j]?=some O) (ho:strEq O.name x.other=true) (hij:i≠j) (hp:O.pk=W3 T.pk.length) (hk:∀(n:Nat) (v:Int),T.pk[n]?=some v->(Wo T v).kind=(Wo O n).kind) (e:ts=(S.tables.set i {T with cols:=T.cols++O.cols.drop T.pk.length}).take j++(S.tables.set i {T with cols:=T.cols++O.cols.drop T.pk.length}).drop (j+1))
 |part {i:Nat} {T:Tbl} {c:Int} {col:Col} {b:Bool} (k:x.kind=8) (hi:S.tables[i]?=some T) (hn:strEq T.name x.table=true) (hc:W7 T x.column=some (c,true)) (hcol:T.cols[c.toNat]?=some col) (hq:Aa x.value x.op x.value=some (b,0)) (hv:WD x.value=some 0) (hk:x.value.kind=col.kind) (ho:∀U∈S.tables,strEq U.name x.other=false) (e:ts=WG UI S.tables.length 1 (S.tables++[{T with name:=x.other}]))
 |merge {i j:Nat} {T O:Tbl} (k:x.kind=9) (hi:S.tables[i]?=some T) (hn:strEq T.name x.table=true) (hj:S.tables[j]?=some O) (ho:strEq O.name x.other=true) (hij:i≠j) (hc:T.cols=O.cols) (hp:T.pk=O.pk) (e:ts=(S.tables.set i {T with pk:=T.pk++[(T.cols.length:Int)],cols:=T.cols++[⟨x.column,2,false⟩]}).filter λt=>!strEq t.name O.name)
 |create (k:x.kind=10) (ho:∀U∈S.tables,strEq U.name x.newTable.name=false) (e:ts=WG UI S.tables.length 1 (S.tables++[x.newTable]))
 |droptab (k:x.kind=11) (ho:∃T∈S.tables,strEq T.name x.table=true) (e:ts=S.tables.filter λt=>!strEq t.name x.table)
 |concat {i:Nat} {T:Tbl} {a b:Int} (k:x.kind=12) (hi:S.tables[i]?=some T) (hn:strEq T.name x.table=true) (hx:x.cols=[a,b]) (ha:0<=a) (hab:a<b) (hb:b<T.cols.length) (hka:(Wo T a).kind=3) (hkb:(Wo T b).kind=3) (hp:a∉T.pk/\b∉T.pk) (e:ts=S.tables.set i {AE T x.cols with cols:=Vo x.cols 0 T.cols++[⟨x.column,3,(Wo T a).nullable&&(Wo T b).nullable⟩]})
 |rule (k:13<=x.kind) (e:ts=S.tables)
end Go.Am
end
section
namespace Go.Am
theorem GF(S T)(h:S.tables.length<19):Wp (BP S T) λS'=>S'.fks=S.fks/\S'.cons=S.cons/\S'.tables=WG UI S.tables.length 1 (S.tables++[T]):=by unfold BP;exact Wp.chk h (Wp.ret ⟨rfl,rfl,rfl⟩)
theorem SE(S x)(h:S.tables.length<19)(hk:x.kind=10):Wp (Ga S x.newTable) λq=>q.2=0->EvT S q.1.tables x:=by
 unfold Ga;exact Wp.bind (VI _ _) λv _ hv=>Wp.cr λhf=>Wp.bind (GF S _ h) λ_ _ he=>Wp.ret λ_=>.create hk (hv.2.2 hf) he.2.2
theorem SC(S)(i:Nat)(x)(h:S.tables.length<19){T}(hT:S.tables[i]?=some T)(hn:strEq T.name x.table=true)(hk:x.kind=4):Wp (G8 S i x.newName) λq=>q.2=0->EvT S q.1.tables x:=by
 have hi:=(Y0.1 hT).1;have hl:(S.tables.take i++S.tables.drop (i+1)).length=S.tables.length-1:=sO
 unfold G8;refine Wp.bind (VI _ _) λv _ hv=>Wp.cr λhf=>Wp.qG hT (Wp.bind (GF _ _ (by show(S.tables.take i++S.tables.drop (i+1)).length<19;omega)) λS1 _ hS1=>?_);have e1:=hS1.2.2;simp only at e1;rw[hl] at e1;refine Wp.count (λ_ S2=>S2.fks.length=S1.fks.length/\S2.tables=S1.tables) ⟨rfl,rfl⟩ ?_ ?_
 .rintro k S2 next hk ⟨hl,ht⟩ hn
  refine Wp.get oM oM λf _ _=>?_
  repeat' first|exact hn _ ⟨by simpa using hl,ht⟩|refine Wp.cond (λ_=>?_) λ_=>?_
 rintro S2 ⟨_,aa⟩;refine Wp.count (λ_ S3=>S3.cons.length=S2.cons.length/\S3.tables=S1.tables) ⟨rfl,aa⟩ ?_ λS3 h3=>Wp.ret λ_=>.ren hk hT hn (hv.2.2 hf) (h3.2.trans e1);rintro k S3 next hk ⟨hl,ht⟩ hn
 refine Wp.get oM oM λf _ _=>?_
 repeat' first|exact hn _ ⟨by simpa using hl,ht⟩|refine Wp.cond (λ_=>?_) λ_=>?_
theorem M3(S table mr)(P:Int->Prop)(ab:∀v,P v->Wp (mr v) λ_=>True)
  (hf:∀f∈S.fks,strEq f.table table=true->∀v∈f.cols,P v)(ho:∀c∈S.cons,strEq c.table table=true->P c.left/\(0<=c.right->P c.right)):
  Wp (BO S table mr) λS'=>S'.tables=S.tables/\S'.fks.length=S.fks.length/\S'.cons.length=S.cons.length:=by
 unfold BO;refine Wp.count (λi S1=>S1.tables=S.tables/\S1.cons=S.cons/\S1.fks.length=S.fks.length/\∀j,i<=j->S1.fks[j]?=S.fks[j]?) ⟨rfl,rfl,rfl,λ_ _=>rfl⟩ ?_ ?_
 .rintro i S1 next hi ⟨h1,h2,h3,h4⟩ hn
  unfold O8;refine Wp.get oM oM λf ad _=>?_;have ac:S.fks[i]?=some f:=by rw[<-h4 i (Y7 _),<-ad];congr 1
  refine Wp.cond (λhst=>?_) λ_=>hn _ ⟨h1,h2,h3,λj hj=>h4 j oM⟩;have hP:=hf f (Y4 ac) hst;refine Wp.count (λk S2=>S2.tables=S.tables/\S2.cons=S.cons/\S2.fks.length=S.fks.length/\(∀j,i+1<=j->S2.fks[j]?=S.fks[j]?)/\∃f',S2.fks[i]?=some f'/\f'.cols.length=f.cols.length/\∀j,k<=j->f'.cols[j]?=f.cols[j]?)
   ⟨h1,h2,h3,λj hj=>h4 j oM,f,by rw[<-ad];congr 1,rfl,λ_ _=>rfl⟩ ?_ ?_
  rintro k S2 next2 hk ⟨g1,g2,g3,g4,f',g5,g6,g7⟩ hn2;refine Wp.qG g5 (Wp.get oM oM λv hv _=>?_);have ae:f.cols[k]?=some v:=by rw[<-g7 k (Y7 _),<-hv];congr 1
  refine Wp.bind (ab v (hP v (Y4 ae))) λw _ _=>hn2 _ ⟨g1,g2,by simpa using g3,λj hj=>?_,⟨f'.table,f'.cols.set k w,f'.ref⟩,?_,by simpa using g6,λj hj=>?_⟩;rw[YS oM];exact g4 j hj;rw[YL oM];simp only;rw[YS oM];exact g7 j oM;rintro S2 ⟨g1,g2,g3,g4,_⟩;exact hn _ ⟨g1,g2,g3,g4⟩
 rintro S1 ⟨h1,h2,h3,_⟩;refine Wp.count (λi S2=>S2.tables=S.tables/\S2.fks.length=S.fks.length/\S2.cons.length=S.cons.length/\∀j,i<=j->S2.cons[j]?=S.cons[j]?) ⟨h1,h3,by rw[h2],λ_ _=>by rw[h2]⟩ ?_ λS2 h=>Wp.ret ⟨h.1,h.2.1,h.2.2.1⟩;rintro i S2 next hi ⟨g1,g2,g3,g4⟩ hn
 unfold O7;have ag:i<S.cons.length:=by rw[<-h2];exact hi
 refine Wp.get oM oM λc hc _=>?_;have af:S.cons[i]?=some c:=by rw[<-g4 i (Y7 _),<-hc];congr 1
 refine Wp.cond (λ_=>hn _ ⟨g1,g2,g3,λj hj=>g4 j oM⟩) λhst=>?_;have hP:=ho c (Y4 af) (by simpa using hst);have aa:∀c',∀j,i+1<=j->(S2.cons.set i c')[j]?=S.cons[j]?:=λc' j hj=>by rw[YS oM];exact g4 j oM
 refine Wp.bind (ab _ hP.1) λv _ _=>Wp.cond (λh=>Wp.bind (ab _ (hP.2 (by simpa using h))) λw _ _=>hn _ ⟨g1,g2,by simpa using g3,aa _⟩) λ_=>hn _ ⟨g1,g2,by simpa using g3,aa _⟩
theorem IL(S)(i:Nat)(T)(rm)(hT:S.tables[i]?=some T)(hV:VT T)(hl:rm.length<=2097152)
  (hf:∀f∈S.fks,strEq f.table T.name=true->∀v∈f.cols,0<=v/\v<6)(ho:∀c∈S.cons,strEq c.table T.name=true->(0<=c.left/\c.left<6)/\c.right<6):
  Wp (Cu S i rm) λS'=>S'.tables=S.tables.set i (AE T rm)/\S'.fks.length=S.fks.length/\S'.cons.length=S.cons.length:=by
 unfold Cu;have hi:=(Y0.1 hT).1;have h6:=hV.cols6;refine Wp.qG hT ?_;refine Wp.for (λk s=>s=Vo rm 0 (T.cols.take k)) rfl ?_ ?_
 .rintro k c s next hx _ rfl hn
  unfold Nq;refine Wp.bind (AP _ _) λb _ hb=>Wp.cond (λh=>hn _ ?_) λh=>hn _ ?_;rw[Jg rm hx,if_neg];exact λh'=>by rw[hb.2 h'] at h;cases h
  rw[Jg rm hx,if_pos (hb.1 (by simpa using h)),Ym]
 rintro cols rfl;rw[Yp];refine Wp.count (λk S1=>S1.fks=S.fks/\S1.cons=S.cons/\S1.tables=S.tables.set i {T with pk:=(T.pk.take k).map (L5 rm)++T.pk.drop k}) ⟨rfl,rfl,?_⟩ ?_ ?_;simp only[List.take_zero,Yd,Yn,Xx];exact(F3 hT).symm
 .rintro k S1 next hk ⟨g1,g2,g3⟩ hn
  unfold Np;have hx:=Y1 hk;have hp:=hV.pk _ (Yf hk);refine Wp.qG (by rw[g3,YL hi]) (Wp.qG ?_ (Wp.bind (Ps _ rm hp.1 oM hl) λv _ hv=>hn _ ⟨g1,g2,?_⟩));rw[YM sO];simp[Nat.min_eq_left (Nat.le_of_lt hk)];subst hv;simp only;rw[g3,List.set_set,EH hx,YP]
  congr 2
  rw[List.set_append_right _ _ sO];simp[Nat.min_eq_left (Nat.le_of_lt hk)];rw[Ys hk];rfl
 rintro S1 ⟨g1,g2,g3⟩;rw[Yp,List.drop_length,Ym] at g3;refine Wp.qG (by rw[g3,YL hi]) (Wp.bind (M3 _ _ _ (λv=>0<=v/\v<6) (λv hv=>(Ps v rm hv.1 oM hl).mono λ_ _ _=>trivial) ?_ ?_) λS2 _ hS2=>Wp.ret ⟨?_,?_,?_⟩);simp only[g1];exact hf;simp only[g2];exact λc hc he=>⟨(ho c hc he).1,λh=>⟨h,(ho c hc he).2⟩⟩;rw[hS2.1,g3,List.set_set];rfl;rw[hS2.2.1];simp only[g1];rw[hS2.2.2];simp only[g2]
theorem M8(S T)(v:Int):Wp (Cx S T v) λe=>e=0->v∉T.pk:=by
 unfold Cx Zj8 DK;refine Wp.bind (AP _ _) λb _ hb=>Wp.cr λh1=>?_;have hn:v∉T.pk:=λh=>by rw[hb.2 h] at h1;cases h1
 refine Wp.bind (CO _ _ λx _=>?_) λ_ _ _=>Wp.cr λ_=>Wp.bind (R:=λ_=>True) (Wp.bind (Wp.index λx _=>?_) λ_ _ _=>Wp.ret trivial) λ_ _ _=>Wp.cr λ_=>Wp.ret λ_=>hn;unfold DR;exact Wp.cond (λ_=>Wp.bind (AP _ _) λ_ _ _=>Wp.ret trivial) λ_=>Wp.ret trivial;unfold DQ;exact Wp.cond (λ_=>Wp.cond (λ_=>Wp.ret trivial) λ_=>Wp.ret trivial) λ_=>Wp.ret trivial
theorem M4(v c):Wp (Cv v c) λe=>e=0->KW v c:=by
 unfold Cv;refine Wp.bind (CV _) λe he _=>Wp.cond (λh=>Wp.ret λh0=>by simp[h0] at h) λh=>?_;obtain rfl:e=0:=by simpa using h
 refine Wp.cond (λh1=>?_) λh1=>?_;have k0:v.kind=0:=by simpa using h1
 refine Wp.cr λh2=>Wp.cond (λh3=>by simp[k0] at h3) λ_=>Wp.ret λ_=>⟨he,λ_=>by simpa using h2,λh=>absurd k0 h⟩;have k0:v.kind≠0:=by simpa using h1
 refine Wp.cond (λ_=>Wp.cr λh3=>Wp.ret λ_=>⟨he,λh=>absurd h k0,λ_=>by simpa using h3⟩) λh2=>by simp[k0] at h2
section
variable{S:Sch}{i:Nat}{T:Tbl}
theorem Tp(x)(hT:S.tables[i]?=some T)(hV:VT T)(hn:strEq T.name x.table=true)(hk:x.kind=1):Wp (Gl S i x) λq=>q.2=0->EvT S q.1.tables x:=by
 unfold Gl;have h1:=hV.cols0;have h2:=hV.cols6;exact Wp.bind (M4 _ _) λe _ he=>Wp.cond (λh=>Wp.ret λh0=>by simp only at h0;simp[h0] at h) λh=>Wp.qG hT (Wp.chk ⟨h1,by have:=Vh;omega⟩ (Wp.ret λ_=>.add hk hT hn (he (by simpa using h)) rfl))
theorem VS.hf(h:VS S)(nm):∀f∈S.fks,strEq f.table nm=true->∀v∈f.cols,0<=v/\v<6:=λf hf _=>(h.fk f hf).2
theorem VS.ho(h:VS S)(nm):∀c∈S.cons,strEq c.table nm=true->(0<=c.left/\c.left<6)/\c.right<6:=λc hc _=>⟨(h.con c hc).1,(h.con c hc).2.2⟩
theorem SF(x:Stp)(hT:S.tables[i]?=some T)(hS:VS S)(hn:strEq T.name x.table=true)(hk:x.kind=2\/x.kind=3\/x.kind=5):Wp (Gb S i x) λq=>q.2=0->EvT S q.1.tables x:=by
 unfold Gb;have hV:=hS.tab T (Y4 hT);refine Wp.qG hT (Wp.bind (US _ _) λr ac hr=>Wp.cr λh=>?_);have h':r.2=true:=by simpa using h
 have ab:=hr.2.1 h';have hc:W7 T x.column=some (r.1,true):=by rw[ac,<-h']
 refine Wp.cond (λk3=>Wp.bind (US _ _) λ_ _ _=>Wp.cr λ_=>Wp.get hr.1 ab λ_ aa _=>Wp.ret λ_=>.rencol (by simpa using k3) hT hn aa rfl) λk3=>?_;refine Wp.bind (M8 _ _ _) λe _ he=>Wp.cond (λh=>Wp.ret λh0=>by simp only at h0;simp[h0] at h) λh0=>Wp.cond (λk5=>Wp.get hr.1 ab λ_ aa _=>Wp.ret λ_=>.type (by simpa using k5) hT hn hc aa (he (by simpa using h0)) rfl) λk5=>Wp.get hr.1 ab λ_ aa _=>?_;have k2:=hk.resolve_right λh=>h.elim (λh=>by simp[h] at k3) λh=>by simp[h] at k5
 exact Wp.bind (M4 _ _) λe _ hd=>Wp.cond (λh=>Wp.ret λh0=>by simp only at h0;simp[h0] at h) λad=>Wp.bind (IL S i T [r.1] hT hV sI (hS.hf _) (hS.ho _)) λ_ _ hr=>Wp.ret λ_=>.drop k2 hT hn hc aa (he (by simpa using h0)) (hd (by simpa using ad)) hr.1
theorem Nt{α:Type}{rm}:∀{xs:List α} {i:Nat},(∃k,k<xs.length/\((i+k:Nat):Int)∉rm)->0<(Vo rm i xs).length
 |[],_,⟨k,h,_⟩=>by simp at h
 |x::xs,i,⟨k,h,h2⟩=>by
   unfold Vo;split;rename_i h3;cases k with
   |zero=>exact absurd h3 h2
   |succ k=>exact Nt ⟨k,by simpa using h,by rw[show i+1+k=i+(k+1) by omega];exact h2⟩
   simp
theorem Oa{α:Type}{rm}:∀{xs:List α} {i:Nat},(Vo rm i xs).length<=xs.length
 |[],_=>Y7 _
 |x::xs,i=>by
   unfold Vo
   have:=Oa (rm:=rm) (xs:=xs) (i:=i+1)
   split<;>simp<;>omega
theorem Sb(x:Stp)(hT:S.tables[i]?=some T)(hS:VS S)(hn:strEq T.name x.table=true)(hk:x.kind=12):Wp (G5 S i x) λq=>q.2=0->EvT S q.1.tables x:=by
 unfold G5;have hV:=hS.tab T (Y4 hT);have hi:=(Y0.1 hT).1;refine Wp.qG hT (Wp.cr λh1=>?_);have hl:x.cols.length=2:=by simp at h1;omega
 obtain⟨a,b,ab⟩:∃a b,x.cols=[a,b]:=by
  match x.cols,hl with
  |[a,b],_=>exact⟨a,b,rfl⟩
 rw[ab];refine Wp.get oM sI λa' ha _=>Wp.cr λh2=>Wp.get oM sI λb' hb _=>Wp.cr λh3=>Wp.cr λh4=>?_;simp at ha hb h2 h3 h4;subst ha hb;refine Wp.for (λj ae=>(∀k y,k<j->([a,b]:List Int)[k]?=some y->(Wo T y).kind=3)/\ae=(([a,b]:List Int).take j).all λy=>(Wo T y).nullable) ⟨by intro j y h;omega,rfl⟩ ?_ λae aa=>?_
 .rintro j ac s next hx hm ⟨hI,rfl⟩ hn
  have hc:ac=a\/ac=b:=by simpa using hm
  refine Wp.get oM oM λc ad _=>Wp.cr λah=>hn _ ⟨Ul hI hx ?_,?_⟩;simpa[Wo,ad] using ah;rw[EH hx,List.all_append];simp[Wo,ad]
 refine Wp.for (λi _=>∀j y,j<i->([a,b]:List Int)[j]?=some y->y∉T.pk) (by intro j y h;omega) ?_ λ_ hI=>?_
 .intro j ac _ next hx _ hI hn
  exact Wp.bind (M8 _ _ _) λe _ he=>Wp.cond (λh=>Wp.ret λh0=>by simp only at h0;simp[h0] at h) λh=>hn () (Ul hI hx (he (by simpa using h)))
 have hU:=Ao hI;have hK:=Ao aa.1;refine Wp.bind (IL S i T [a,b] hT hV sI (hS.hf _) (hS.ho _)) λS1 _ hS1=>?_;have h6:=hV.cols6;have aj:=Oa (rm:=[a,b]) (xs:=T.cols) (i:=0);refine Wp.qG (by rw[hS1.1,YL hi]) (Wp.chk ⟨?_,by have:=Vh;show(Vo _ _ _).length<_;omega⟩ (Wp.ret λ_=>.concat hk hT hn ab h2 h3 h4 (hK a sI) (hK b sI) ⟨hU a sI,hU b sI⟩ ?_));have ag:=hV.pk0;have hp:=hV.pk _ (Yf ag);refine Nt ⟨(T.pk[0]).toNat,oM,λaf=>?_⟩;rw[show((0+(T.pk[0]).toNat:Nat):Int)=T.pk[0] by omega] at af;exact hU _ af (Yf ag);rw[aa.2,ab];simp only;rw[hS1.1,List.set_set];simp[AE]
theorem To(x)(hT:∃T∈S.tables,strEq T.name x.table=true)(hk:x.kind=11):Wp (Gk S x.table) λq=>q.2=0->EvT S q.1.tables x:=by
 unfold Gk;refine Wp.bind (CO _ _ λx _=>?_) λ_ _ _=>Wp.ite (λ_=>Wp.ret sI) λ_=>Wp.ret λ_=>.droptab hk hT rfl;unfold DW;exact Wp.cond (λ_=>Wp.ret trivial) λ_=>Wp.ret trivial
end
end Go.Am
end
section
namespace Go.Am
theorem Z11{a b:ByteArray}:strEq a b=strEq b a:=by
 unfold strEq
 first|exact Bool.beq_comm|exact BEq.comm|exact decide_eq_decide.2 eq_comm
section
variable{S:Sch}{i:Nat}{T:Tbl}
theorem SX(x:Stp)(hl:x.cols.length<=1048576):Wp (DY S T x) λe=>e=0->SplitOK T x.cols/\∀t∈S.tables,strEq t.name x.other=false:=by
 have hL:=Vh;unfold DY;refine Wp.for (λi _=>(∀(j:Nat) (y:Int),j<i->x.cols[j]?=some y->0<=y/\y<T.cols.length)/\∀(j:Nat) (a b:Int),j+1<i->x.cols[j]?=some a->x.cols[j+1]?=some b->a<b) ⟨by intro j y h;omega,by intro j a b h;omega⟩ ?_ ?_
 .rintro i y s next hx hm ⟨hI,hJ⟩ hn
  have hi:=(Y0.1 hx).1;refine Wp.cr λh1=>Wp.cr λh2=>?_;have aa:=Ul hI hx ⟨by simpa using h1,by simpa using h2⟩;refine Wp.cond (λh3=>?_) λh3=>hn () ⟨aa,λj a b hj ha hb=>by simp at h3;omega⟩;have ab:0<i:=by simpa using h3
  refine Wp.chk ⟨oM,oM⟩ (Wp.get oM oM λz hz _=>Wp.cr λh4=>hn () ⟨aa,λj a b hj ha hb=>?_⟩);rcases YA (j+1) i with h5|h5;exact hJ j a b h5 ha hb;obtain rfl:i=j+1:=oM
  rw[hx] at hb;rw[show(((j+1:Nat):Int)-1).toNat=j by omega,ha] at hz;cases hb;cases hz;simpa using h4
 rintro s ⟨hI,hJ⟩;refine Wp.cr λh0=>Wp.bind (Jl _ _ oM) λo _ ho=>Wp.cr λh1=>Wp.bind (VI _ _) λv _ hv=>Wp.cr λh=>Wp.ret λ_=>⟨⟨λhe=>by simp[he] at h0,Ao hI,λn a b ha hb=>hJ n a b (Y0.1 hb).1 ha hb,ho (by simpa using h1)⟩,hv.2.2 h⟩
theorem IN(v n:Int)(x:Stp)(hl:x.cols.length<=1048576)(h0:0<=n)(h6:n<=6):Wp (BN v n x) λ_=>True:=by
 have hL:=Vh;unfold BN;refine Wp.bind (IV _ _) λk _ hk=>Wp.chk ?_ (Wp.ret trivial);rcases hk with⟨rfl,_⟩|⟨h1,h2,_⟩;exact⟨oM,oM⟩;exact⟨oM,oM⟩
def Q2(S:Sch)(other:ByteArray)(S1:Sch):Prop:=S1.tables=S.tables/\S1.cons=S.cons/\S1.fks.length=S.fks.length/\∀f∈S1.fks,f.cols.length<=6/\(f.table=other\/f∈S.fks)
theorem Kn{α:Type}{xs:List α}{k:Nat}{a b:α}(h:b∈xs.set k a):b∈xs\/b=a:=YU h
theorem SS(x:Stp)(hT:S.tables[i]?=some T)(hS:VS S)(hl:x.cols.length<=1048576)(hn:strEq T.name x.table=true)(ap:x.kind=6):Wp (Ge S i x) λq=>q.2=0->EvT S q.1.tables x:=by
 have am:=hn;have hL:=Vh;have hV:=hS.tab T (Y4 hT);have aw:=hV.pk6;have au:=hV.cols6;unfold Ge;refine Wp.qG hT (Wp.bind (SX x hl) λe _ he=>Wp.cond (λh=>Wp.ret λh0=>by simp only at h0;simp[h0] at h) λal=>?_);obtain⟨ae,ac⟩:=he (by simpa using al);have ag:=ae.rng;have hne:strEq x.other T.name=false:=by rw[Z11];exact ac T (Y4 hT)
 refine Wp.count (λ_ S1=>Q2 S x.other S1) ⟨rfl,rfl,rfl,λf hf=>⟨(hS.fk f hf).1,.inr hf⟩⟩ ?_ ?_
 .rintro k S1 next hk ⟨h1,h2,h3,h4⟩ hn
  unfold O5;refine Wp.get oM oM λf hf ah=>Wp.cond (λ_=>hn _ ⟨h1,h2,h3,h4⟩) λ_=>?_;have ak:=(h4 f ah).1;refine Wp.bind (Jl _ _ oM) λo _ _=>Wp.cr λ_=>Wp.cond (λ_=>?_) λ_=>hn _ ⟨h1,h2,h3,h4⟩;refine Wp.count (λ_ S2=>Q2 S x.other S2/\∃f',S2.fks[k]?=some f'/\f'.cols.length=f.cols.length/\f'.table=x.other) ⟨⟨h1,h2,by simpa using h3,?_⟩,⟨x.other,f.cols,f.ref⟩,YL oM,rfl,rfl⟩ ?_ λS2 h=>hn _ h.1;intro g hg;rcases Kn hg with h|rfl;exact h4 g h;exact⟨ak,.inl rfl⟩;rintro j S2 next2 hj ⟨⟨g1,g2,g3,g4⟩,f',g5,g6,g7⟩ hn2;unfold O6;refine Wp.qG g5 (Wp.get oM oM λv _ _=>Wp.bind (IN _ _ _ hl oM oM) λw _ _=>hn2 _ ⟨⟨g1,g2,by simpa using g3,λg hg=>?_⟩,⟨f'.table,f'.cols.set j w,f'.ref⟩,YL oM,by simpa using g6,g7⟩);rcases Kn hg with h|rfl;exact g4 g h;exact⟨sO,.inl g7⟩
 rintro S1 ⟨h1,h2,h3,h4⟩;refine Wp.count (λ_ (S2:Sch)=>S2.tables=S.tables/\S2.fks=S1.fks/\S2.cons.length=S.cons.length/\∀c∈S2.cons,c.table=x.other\/c∈S.cons) ⟨h1,rfl,by rw[h2],λc hc=>.inr (h2▸hc)⟩ ?_ ?_
 .rintro k S2 next hk ⟨g1,g2,g3,g4⟩ hn
  rw[h2] at hk;unfold O4;refine Wp.get oM oM λc hc ar=>Wp.cond (λ_=>hn _ ⟨g1,g2,g3,g4⟩) λ_=>?_;refine Wp.bind (R:=λcc=>cc.length<=2) ?_ λcc _ aq=>Wp.bind (Jl _ _ oM) λo _ _=>Wp.cr λ_=>Wp.cond (λ_=>?_) λ_=>hn _ ⟨g1,g2,g3,g4⟩;unfold FU;exact Wp.cr λ_=>Wp.ret sI;have ab:∀c':Cons,c'.table=x.other->∀d∈S2.cons.set k c',d.table=x.other\/d∈S.cons:=by intro c' aj d hd;rcases Kn hd with h|rfl;exact g4 d h;exact .inl aj
  refine Wp.bind (IN _ _ _ hl oM oM) λv _ _=>Wp.cond (λ_=>Wp.bind (IN _ _ _ hl oM oM) λw _ _=>hn _ ⟨g1,g2,by simpa using g3,ab _ rfl⟩) λ_=>hn _ ⟨g1,g2,by simpa using g3,ab _ rfl⟩
 rintro S2 ⟨g1,g2,g3,g4⟩;refine Wp.chk ?_ (Wp.for (λj s=>s=((T.pk++x.cols).take j).map (Wo T)) rfl ?_ ?_);omega
 .rintro j aa s next hx hm rfl hn
  unfold K2;have hb:0<=aa/\aa<T.cols.length:=by rcases Y2.1 hm with h|h;exact hV.pk aa h;exact ag aa h
  refine Wp.get hb.1 hb.2 λc hc _=>hn _ ?_;rw[EH hx,YP];simp[Wo,hc]
 rintro oc rfl;unfold Jd;refine Wp.bind (IL S2 i T x.cols (by rw[g1];exact hT) hV oM ?_ ?_) λS3 _ hS3=>Wp.bind (GF S3 _ ?_) λS4 _ hS4=>Wp.chk ?_ (Wp.ret λ_=>.split ap hT am ac ae ?_);intro f hf af;rw[g2] at hf;rcases(h4 f hf).2 with h|h;rw[h,hne] at af;cases af;exact(hS.fk f h).2;intro c hc ad;rcases g4 c hc with h|h;rw[h,hne] at ad;cases ad;exact⟨(hS.con c h).1,(hS.con c h).2.2⟩
 have:=hS.t6;rw[hS3.1,g1,YT];omega
 have:=hS.f8;rw[hS4.1,hS3.2.1,g2,h3];omega
 simp only;rw[hS4.2.2,hS3.1,g1,YT,Yp]
end
end Go.Am
end
section
namespace Go.Am
theorem VT.xK{T}(h:VT T):T.pk.length<=T.cols.length:=by
 have:∀(n:Nat) v,T.pk[n]?=some v->n<=v:=by
  intro n
  induction n with
  |zero=>intro v hv;have:=(h.pk v (Y4 hv)).1;omega
  |succ n ih=>?_
  intro v hv;have hn:=(Y0.1 hv).1;have h1:=ih _ (Y1 oM);have h2:=h.asc n _ v (Y1 oM) hv;omega
 have hp:=h.pk0;have h1:=this (T.pk.length-1) _ (Y1 oM);have h2:=(h.pk _ (Yf (oM:T.pk.length-1<T.pk.length))).2;omega
section
variable{S:Sch}{i:Nat}{T:Tbl}
theorem Sl(v:Int)(h0:0<=v)(h6:v<6)(n:Nat)(hn:n=T.pk.length)(m:Nat)(hm:m<=6)(aa:n<=6):Wp (DU v n T m) λ_=>True:=by
 subst hn;unfold DU;refine Wp.cond (λh=>?_) λ_=>Wp.chk ⟨oM,oM⟩ (Wp.chk ⟨oM,oM⟩ (Wp.ret trivial));exact Wp.get h0 (by simpa using h) λ_ _ _=>Wp.ret trivial
theorem SU(x:Stp)(hT:S.tables[i]?=some T)(hS:VS S)(hn:strEq T.name x.table=true)(al:x.kind=7):Wp (Gf S i x.other) λq=>q.2=0->EvT S q.1.tables x:=by
 have ah:=hn;have hL:=Vh;have hV:=hS.tab T (Y4 hT);have ag:=hV.pk6;have ae:=hV.cols6;have hc0:=hV.cols0;unfold Gf;refine Wp.bind (VI S x.other) λv _ hv=>Wp.cr λhf=>Wp.qG hT (Wp.get hv.1 (hv.2.1 (by simpa using hf)).1 λO hO hOm=>Wp.cr λaq=>Wp.bind (EE _ _) λb _ hb=>Wp.cr λaj=>?_);have ab:=hS.tab O hOm;have aa:=hb (by simpa using aj);have ak:T.pk.length<=O.cols.length:=by
  have:=ab.xK
  rw[aa] at this;simpa[W3] using this
 have au:=ab.cols6;have af:=ab.cols0;refine Wp.for (λi _=>∀n v,n<i->T.pk[n]?=some v->(Wo T v).kind=(Wo O n).kind) (by intro n v h;omega) ?_ λ_ ac=>?_
 .intro j ap s next hx hm ac hn
  have hj:=(Y0.1 hx).1;have hp:=hV.pk ap hm;unfold Ks;exact Wp.get hp.1 hp.2 λa ha _=>Wp.get oM oM λb hb _=>Wp.cr λar=>hn () (TO ac hx (by simp only[Wo,ha,hb,Option.getD_some];simpa using ar))
 refine Wp.bind (LN S _) λq _ hq=>Wp.cr λ_=>Wp.bind (CO _ _ λx _=>Wp.ret sI) λ_ _ _=>Wp.cr λ_=>?_;refine Wp.bind (M3 q.1 x.other _ (λv=>0<=v/\v<6) (λv hv=>Sl v hv.1 hv.2 _ rfl _ ae ag) (λf hf _=>(hS.fk f (hq.2.2 f hf)).2) (λc hc _=>?_)) λS2 _ hS2=>?_;rw[hq.2.1] at hc;exact⟨(hS.con c hc).1,λh=>⟨h,(hS.con c hc).2.2⟩⟩;refine Wp.count (λ_ S3=>S3.fks.length=S2.fks.length/\S3.tables=S2.tables) ⟨rfl,rfl⟩ ?_ λS3 h3=>Wp.count (λ_ S4=>S4.cons.length=S3.cons.length/\S4.tables=S2.tables) ⟨rfl,h3.2⟩ ?_ λS4 h4=>?_
 .rintro k S3 next hk ⟨hl,ht⟩ hn
  unfold Kp;exact Wp.get oM oM λ_ _ _=>Wp.cond (λ_=>hn _ ⟨by simpa using hl,ht⟩) λ_=>hn _ ⟨hl,ht⟩
 .rintro k S4 next hk ⟨hl,ht⟩ hn
  unfold Ko;exact Wp.get oM oM λ_ _ _=>Wp.cond (λ_=>hn _ ⟨by simpa using hl,ht⟩) λ_=>hn _ ⟨hl,ht⟩
 unfold Jx;obtain⟨_,O',ad,am⟩:=hv.2.1 (by simpa using hf);rw[hO] at ad;cases ad;refine Wp.chk ⟨ak,af,hc0,oM⟩ (Wp.ret λ_=>.join al hT ah hO am ?_ aa (λn v hv=>ac n v (Y0.1 hv).1 hv) ?_);intro e
 have:i=v.1:=by have:=hv.1;omega
 simp[this] at aq;simp only;rw[h4.2,hS2.1,hq.1]
theorem RU(x)(hT:S.tables[i]?=some T)(hS:VS S)(hn:strEq T.name x.table=true)(ag:x.kind=8):Wp (G1 S i x) λq=>q.2=0->EvT S q.1.tables x:=by
 have ae:=hn;have hL:=Vh;have h6:=hS.t6;have h8:=hS.f8;have h9:=hS.o8;unfold G1;refine Wp.qG hT (Wp.bind (US _ _) λv ac hv=>Wp.cr λh=>Wp.bind (ED _ _ _) λq hq _=>Wp.cond (λh=>Wp.ret λh0=>by simp only at h0;simp[h0] at h) λah=>Wp.bind (CV _) λe he _=>Wp.cond (λh=>Wp.ret λh0=>by simp only at h0;simp[h0] at h) λaf=>Wp.get hv.1 (hv.2.1 (by simpa using h)) λak aa _=>Wp.cr λad=>Wp.bind (VI _ _) λw _ hw=>Wp.cr λhw0=>Wp.bind (CO _ _ λx _=>Wp.ret trivial) λ_ _ _=>Wp.cr λ_=>?_);have ab:v.2=true:=by simpa using h
 obtain rfl:e=0:=by simpa using af
 have aj:q.2=0:=by simpa using ah
 refine Wp.for (λk S1=>S1.tables=S.tables/\S1.cons=S.cons/\S1.fks.length<=S.fks.length+k) ⟨rfl,rfl,oM⟩ ?_ ?_
 .rintro k f S1 next hx _ ⟨h1,h2,h3⟩ hn
  have hk:=(Y0.1 hx).1;unfold Kr;exact Wp.cond (λ_=>Wp.chk oM (hn _ ⟨h1,h2,sO⟩)) λ_=>hn _ ⟨h1,h2,oM⟩
 rintro S1 ⟨h1,h2,_⟩;refine Wp.for (λk S2=>S2.tables=S.tables/\S2.cons.length<=S.cons.length+k) ⟨h1,by rw[h2];omega⟩ ?_ ?_
 .rintro k f S2 next hx _ ⟨g1,g2⟩ hn
  have hk:=(Y0.1 hx).1;unfold Kq;exact Wp.cond (λ_=>Wp.chk oM (hn _ ⟨g1,sO⟩)) λ_=>hn _ ⟨g1,oM⟩
 rintro S2 ⟨g1,_⟩;refine Wp.bind (GF _ _ (by rw[g1];omega)) λ_ _ hI=>Wp.ret λ_=>.part ag hT ae (by rw[ac,<-ab]) aa (by rw[hq,<-aj]) he (by simpa using ad) (hw.2.2 hw0) ?_;simp only;rw[hI.2.2,g1]
theorem Sm(a b):Wp (DL a b (λx y=>A5 x y)) λ_=>True:=by
 unfold DL;refine Wp.cond (λ_=>Wp.ret trivial) λh=>?_;have hl:a.length=b.length:=by simp at h;omega
 refine Wp.for (λ_ _=>True) trivial (λi x _ next hx _ _ hn=>?_) λ_ _=>Wp.ret trivial;have hi:=(Y0.1 hx).1;exact Wp.get oM oM λ_ _ _=>Wp.bind (Ef _ _) λ_ _ _=>Wp.cond (λ_=>Wp.ret trivial) λ_=>hn () trivial
theorem SY(a b):Wp (DP a b) λ_=>True:=by
 unfold DP;refine Wp.cond (λ_=>Wp.ret trivial) λh=>?_;have hl:a.length=b.length:=by simp at h;omega
 refine Wp.for (λ_ _=>True) trivial (λi x _ next hx _ _ hn=>?_) λ_ _=>Wp.ret trivial;have hi:=(Y0.1 hx).1;exact Wp.get oM oM λ_ _ _=>Wp.cond (λ_=>Wp.ret trivial) λ_=>hn () trivial
theorem Tm(a b)(hS:VS S):Wp (E0 S a b) λ_=>True:=by
 have h8:=hS.f8;have h9:=hS.o8;unfold E0;refine Wp.for (λk s=>s.1.length<=k/\s.2.length<=k) sI ?_ ?_
 .rintro k f s next hx _ ⟨h1,h2⟩ hn
  have hk:=(Y0.1 hx).1;refine Wp.cond (λ_=>Wp.ret trivial) λ_=>Wp.cond (λ_=>Wp.ret trivial) λ_=>Wp.cond (λ_=>Wp.app sO (hn _ ⟨sO,sO⟩)) λ_=>Wp.cond (λ_=>Wp.app sO (hn _ ⟨sO,sO⟩)) λ_=>hn _ ⟨sO,sO⟩
 rintro s _;refine Wp.bind (Sm _ _) λ_ _ _=>Wp.cond (λ_=>Wp.ret trivial) λ_=>?_;refine Wp.for (λk s=>s.1.length<=k/\s.2.length<=k) sI ?_ ?_
 .rintro k f s next hx _ ⟨h1,h2⟩ hn
  have hk:=(Y0.1 hx).1;refine Wp.cond (λ_=>Wp.app sO (hn _ ⟨sO,sO⟩)) λ_=>Wp.cond (λ_=>Wp.app sO (hn _ ⟨sO,sO⟩)) λ_=>hn _ ⟨sO,sO⟩
 rintro s _;exact Wp.bind (SY _ _) λ_ _ _=>Wp.cond (λ_=>Wp.ret trivial) λ_=>Wp.ret trivial
theorem SD(x:Stp)(hT:S.tables[i]?=some T)(hS:VS S)(hn:strEq T.name x.table=true)(ad:x.kind=9):Wp (G9 S i x) λq=>q.2=0->EvT S q.1.tables x:=by
 have hL:=Vh;have hV:=hS.tab T (Y4 hT);have aj:=hV.pk6;have ae:=hV.pk0;have ah:=hV.cols6;have hc0:=hV.cols0;unfold G9;refine Wp.bind (VI S _) λv _ hv=>Wp.cr λhf=>Wp.qG hT (Wp.get hv.1 (hv.2.1 (by simpa using hf)).1 λO hO _=>Wp.cr λag=>Wp.bind (M5 _ _) λb _ hb=>Wp.cr λac=>Wp.bind (EE _ _) λc _ hc=>Wp.cr λaa=>Wp.bind (Tm _ _ hS) λ_ _ _=>Wp.cond (λh=>Wp.ret λh0=>by simp only at h0;simp[h0] at h) λ_=>Wp.chk ⟨⟨ae,oM⟩,hc0,oM⟩ (Wp.ret λ_=>?_));obtain⟨_,O',ab,af⟩:=hv.2.1 (by simpa using hf);rw[hO] at ab;cases ab;refine .merge ad hT hn hO af (λe=>?_) (hb (by simpa using ac)) (hc (by simpa using aa)) rfl
 have:i=v.1:=by have:=hv.1;omega
 simp[this] at ag
end
theorem Z5p(S)(x:Stp)(hS:VS S)(hl:x.cols.length<=1048576)(hk:1<=x.kind/\x.kind<=16):Wp (Em S x) λq=>q.2=0->EvT S q.1.tables x:=by
 have hL:=Vh;have h6:=hS.t6;have h8:=hS.f8;have h9:=hS.o8;have kk:∀{n:Int},(x.kind==n)=true->x.kind=n:=λh=>by simpa using h
 have nk:∀{n:Int},(x.kind==n)=false->x.kind≠n:=λh=>by simpa using h
 unfold Em;refine Wp.cond (λh=>Wp.chk oM (Wp.ret λ_=>.rule (by have:=kk h;omega) rfl)) λae=>Wp.cond (λh=>(RW _ _).mono λ_ _ he _=>.rule (by have:=kk h;omega) he) λaf=>Wp.cond (λh=>Wp.chk oM (Wp.ret λ_=>.rule (by have:=kk h;omega) rfl)) λag=>Wp.cond (λh=>(LN _ _).mono λ_ _ he _=>.rule (by have:=kk h;omega) he.1) λab=>Wp.cond (λh=>SE _ _ oM (kk h)) λad=>?_;refine Wp.bind (VI _ _) λv _ hv=>Wp.cr λhf=>?_;obtain⟨_,T,hT,hn⟩:=hv.2.1 (by simpa using hf);refine Wp.cond (λh=>SC _ _ _ oM hT hn (kk h)) λn4=>Wp.cond (λh=>SS x hT hS hl hn (kk h)) λn6=>Wp.cond (λh=>SU x hT hS hn (kk h)) λn7=>Wp.cond (λh=>RU x hT hS hn (kk h)) λn8=>Wp.cond (λh=>SD x hT hS hn (kk h)) λn9=>Wp.cond (λh=>To x ⟨T,Y4 hT,hn⟩ (kk h)) λaa=>Wp.cond (λh=>Sb x hT hS hn (kk h)) λac=>Wp.cond (λh=>Tp x hT (hS.tab T (Y4 hT)) hn (kk h)) λn1=>SF x hT hS hn ?_
 have:=nk ae;have:=nk af;have:=nk ag;have:=nk ab;have:=nk ad;have:=nk n4;have:=nk n6;have:=nk n7;have:=nk n8;have:=nk n9;have:=nk aa;have:=nk ac;have:=nk n1
 omega
def Ur(x:Stp):Prop:=x.cols.length<=1048576/\x.newTable.cols.length<=1048576/\x.newTable.pk.length<=1048576/\x.fk.cols.length<=1048576
theorem OA(S x)(hx:Ur x):Wp (Uh S x) λr=>r.2=0->VS r.1/\VS S/\EvT S r.1.tables x:=by
 have hL:=Vh;unfold Uh;refine Wp.bind (Gt S) λe _ he=>Wp.cond (λh=>Wp.ret λh0=>?_) λh1=>Wp.bind (Lr x) λe2 _ hk=>Wp.cond (λh=>Wp.ret λh0=>?_) λhk0=>?_;simp only at h0;rw[h0] at h;cases h;simp only at h0;rw[h0] at h;cases h;have hS:=he (by simpa using h1);refine Wp.chk ⟨⟨⟨by have:=hS.t6;omega,by have:=hS.f8;omega,by have:=hS.o8;omega⟩,λT hT=>⟨by have:=(hS.tab T hT).cols6;omega,by have:=(hS.tab T hT).pk6;omega⟩,λf hf=>by have:=(hS.fk f hf).1;omega⟩,by obtain⟨a,b,c,d⟩:=hx;exact⟨oM,oM,oM,oM⟩⟩ ?_;refine Wp.bind (Z5p S x hS hx.1 (hk (by simpa using hk0))) λq _ hE=>Wp.cond (λh=>Wp.ret λh0=>?_) λhq=>Wp.bind (Gt q.1) λe3 _ aa=>Wp.cond (λh=>Wp.ret λh0=>?_) λh3=>Wp.ret λ_=>⟨aa (by simpa using h3),hS,hE (by simpa using hq)⟩;simp only at h0;rw[h0] at h;cases h;simp only at h0;rw[h0] at h;cases h
end Go.Am
end
namespace Go.Am
section
instance Zbq(s_:Sch)(step:Stp):Con (Uh s_ step) prog 127 [.agg s_.enc,.agg step.enc] (λr=>.tup [.agg (r.1.enc.map RC.d),.one (.d (.int .i64 r.2))]):=⟨λr hm=>LL s_ step r hm⟩
set_option maxHeartbeats 4000000
def AO(s_:Sch)(script:List Stp):Option ((List Sch)×Int):=
 bif decide (6<(script.length:Int)) then some ([],2) else Z1 (Ug s_) λv4=>bif (v4 !=0) then some ([],v4) else Z1 (VW s_) λv6=>Zc (λ(i8:Nat) (x8:Stp) (s8:(List Sch)) next_8=>Z7 s8 (i8:Int) λx10=>Z1 (Uh x10 x8) λv11=>bif (v11.2 !=0) then some ([],v11.2) else W0 s8 [v11.1] λ_=>next_8 (s8++[v11.1])) (λ(s8:(List Sch))=>some (s8,0)) script 0 [v6]
instance LQ(s_:Sch)(script:List Stp):Con (AO s_ script) prog 95 [.agg s_.enc,.one (.d (.sl (script.map Stp.enc)))] (λr=>.tup [.one (.d (.sl (r.1.map Sch.enc))),.one (.d (.int .i64 r.2))]):=by
 unfold AO;have l1:LH (σ:=(List Sch)) 25 [23,24] [.g 7 3 (λs=>s.map Sch.enc)]:=.intro;have p1:PH [10] (Plan.qB [0,1,2,3,4] (.two 5 9 (Plan.qB [6,7,8,9,10,11] .done) (Plan.qB [5,6,7,8,10,11] .done))):=.intro;exact go 48 Tryz.func95
def BW(s_:Sch)(script:List Stp):Option (Sch×Int):=
 Z1 (AO s_ script) λv3=>bif (v3.2 !=0) then some ((Sch.mk [] [] []),v3.2) else Zp (W9 ((v3.1.length:Int)-1)) (Z7 v3.1 ((v3.1.length:Int)-1) λx7=>some (x7,0))
instance Zce(s_:Sch)(script:List Stp):Con (BW s_ script) prog 74 [.agg s_.enc,.one (.d (.sl (script.map Stp.enc)))] (λr=>.tup [.agg (r.1.enc.map RC.d),.one (.d (.int .i64 r.2))]):=by unfold BW;exact go 24 Tryz.func74
set_option maxHeartbeats 4000000
def UN(g_:Gr):Option ((List Sch)×Int):=
 bif decide (8<=(g_.edges.length:Int)) then some ([],2) else Z1 (Ug g_.base) λv4=>bif (v4 !=0) then some ([],v4) else Z1 (VW g_.base) λv6=>Zc (λ(i8:Nat) (x8:Edg) (s8:(List Sch)) next_8=>bif decide (x8.parent<0) then some ([],1) else bif decide ((i8:Int)<x8.parent) then some ([],1) else Z7 s8 x8.parent λx12=>Z1 (BW x12 x8.script) λv13=>bif (v13.2 !=0) then some ([],v13.2) else W0 s8 [v13.1] λ_=>next_8 (s8++[v13.1])) (λ(s8:(List Sch))=>some (s8,0)) g_.edges 0 [v6]
instance Lz(g_:Gr):Con (UN g_) prog 45 [.agg g_.enc] (λr=>.tup [.one (.d (.sl (r.1.map Sch.enc))),.one (.d (.int .i64 r.2))]):=by
 unfold UN;have l1:LH (σ:=(List Sch)) 27 [25,26] [.g 5 3 (λs=>s.map Sch.enc)]:=.intro;have p1:PH [12] (Plan.qB [0,1,2,3,4,5,6] (.two 7 11 (Plan.qB [8,9,10,11,12,13] .done) (Plan.qB [7,8,9,10,12,13] .done))):=.intro;exact go 61 Tryz.func45
def Gu(g_:Gr)(version:Int):Option (Sch×Int):=
 Z1 (UN g_) λv3=>bif (v3.2 !=0) then some ((Sch.mk [] [] []),v3.2) else bif decide (version<0) then some ((Sch.mk [] [] []),1) else bif decide ((v3.1.length:Int)<=version) then some ((Sch.mk [] [] []),1) else Z7 v3.1 version λx8=>some (x8,0)
instance RM(g_:Gr)(version:Int):Con (Gu g_ version) prog 18 [.agg g_.enc,.one (.d (.int .i64 version))] (λr=>.tup [.agg (r.1.enc.map RC.d),.one (.d (.int .i64 r.2))]):=by unfold Gu;exact go 30 Tryz.func18
theorem Oc{α:Type}{xs:List α}{x y:α}{i:Nat}(h:(xs++[x])[i]?=some y):xs[i]?=some y\/(i=xs.length/\y=x):=by
 rcases YA i xs.length with h1|h1;rw[Yq h1] at h;exact .inl h;have h2:=(Y0.1 h).1;obtain rfl:i=xs.length:=by simp at h2;omega
 simp at h;exact .inr ⟨rfl,h.symm⟩
structure ScrOK(S:Sch)(script:List Stp)(all:List Sch):Prop where
 len:all.length=script.length+1
 l6:script.length<=6
 vs:∀T∈all,VS T
 fst:all[0]?=some S
 step:∀(i:Nat) (x:Stp) (y z:Sch),script[i]?=some x->all[i]?=some y->all[i+1]?=some z->Uh y x=some (z,0)
theorem IG(S:Sch)(script:List Stp)(hx:∀x∈script,Ur x):Wp (AO S script) λr=>r.2=0->ScrOK S script r.1:=by
 have hL:=Vh;unfold AO;refine Wp.cr λh6=>Wp.bind (Gt S) λe _ he=>Wp.cond (λh=>Wp.ret λh0=>?_) λh1=>?_;simp only at h0;rw[h0] at h;cases h;have hS:VS S:=he (by simpa using h1);have hl:script.length<=6:=by simp at h6;omega
 refine Wp.bind (Et S (by have:=hS.t6;omega) (by have:=hS.f8;omega)) λS0 _ hS0=>?_;subst hS0;refine Wp.for (λi (s:List Sch)=>s.length=i+1/\(∀T∈s,VS T)/\s[0]?=some S0/\∀(j:Nat) (x:Stp) (y z:Sch),script[j]?=some x->s[j]?=some y->s[j+1]?=some z->Uh y x=some (z,0)) ⟨rfl,by simpa using hS,rfl,λj x y z _ _ hz=>by simp at hz⟩ ?_ ?_
 .rintro i x s next ad hm ⟨hs,hv,hf,hI⟩ hn
  have hi:=(Y0.1 ad).1;refine Wp.get oM oM λy hy _=>Wp.bind (OA y x (hx x hm)) λr ae hr=>Wp.cond (λh=>Wp.ret λh0=>?_) λh2=>Wp.app sO (hn _ ⟨sO,λT hT=>?_,by rw[Yq oM];exact hf,λj x' y' z' aa af ac=>?_⟩);simp only at h0;rw[h0] at h;cases h;rcases Y2.1 hT with h|h;exact hv T h;rw[Yu.1 h];exact(hr (by simpa using h2)).1;have ab:s[j]?=some y':=by
   rcases Oc af with h|⟨h,_⟩;exact h
   have:=(Y0.1 ac).1
   simp at this;omega
  rcases Oc ac with h|⟨h,rfl⟩;exact hI j x' y' z' aa ab h;obtain rfl:j=i:=oM;simp only[Xk] at hy;rw[ad] at aa;rw[hy] at ab;cases aa;cases ab;rw[ae,<-show r.2=0 by simpa using h2]
 rintro s ⟨hs,hv,hf,hI⟩;exact Wp.ret λ_=>⟨hs,hl,hv,hf,hI⟩
theorem Sk(S:Sch)(script:List Stp)(hx:∀x∈script,Ur x):Wp (BW S script) λr=>r.2=0->∃all,AO S script=some (all,0)/\ScrOK S script all/\all[script.length]?=some r.1:=by
 unfold BW;refine Wp.bind (IG S script hx) λr aa hr=>Wp.cond (λh=>Wp.ret λh0=>?_) λh1=>?_;simp only at h0;rw[h0] at h;cases h;have h2:=hr (by simpa using h1);have hl:=h2.len;refine Wp.chk ⟨by have:=h2.l6;omega,by have:=h2.l6;omega⟩ (Wp.get oM oM λT hT _=>Wp.ret λ_=>⟨r.1,by rw[aa,<-show r.2=0 by simpa using h1],h2,?_⟩);rw[<-hT];congr 1;omega
theorem ScrOK.last{S:Sch}{script:List Stp}{all:List Sch}(h:ScrOK S script all){T:Sch}(hT:all[script.length]?=some T):VS T:=h.vs T (Y4 hT)
def Z7c(g:Gr):Prop:=∀(i:Nat) (e:Edg),g.edges[i]?=some e->0<=e.parent/\e.parent<=i
structure VerOK(g:Gr)(Ss:List Sch):Prop where
 edges:Z7c g
 l7:g.edges.length<=7
 len:Ss.length=g.edges.length+1
 vs:∀T∈Ss,VS T
 edge:∀(i:Nat) (e:Edg) (P C:Sch),g.edges[i]?=some e->Ss[e.parent.toNat]?=some P->Ss[i+1]?=some C->BW P e.script=some (C,0)
theorem Rt(g:Gr)(hx:∀e∈g.edges,∀x∈e.script,Ur x):Wp (UN g) λr=>r.2=0->VerOK g r.1:=by
 have hL:=Vh;unfold UN;refine Wp.cr λh6=>Wp.bind (Gt _) λe _ he=>Wp.cond (λh=>Wp.ret λh0=>?_) λh1=>?_;simp only at h0;rw[h0] at h;cases h;have hS:VS g.base:=he (by simpa using h1);have hl:g.edges.length<=7:=by simp at h6;omega
 refine Wp.bind (Et g.base (by have:=hS.t6;omega) (by have:=hS.f8;omega)) λS0 _ hS0=>?_;rw[hS0];refine Wp.for (λi (s:List Sch)=>s.length=i+1/\(∀T∈s,VS T)/\(∀(j:Nat) (e:Edg),j<i->g.edges[j]?=some e->0<=e.parent/\e.parent<=j)/\∀(j:Nat) (e:Edg) (P C:Sch),j<i->g.edges[j]?=some e->s[e.parent.toNat]?=some P->s[j+1]?=some C->BW P e.script=some (C,0))
  ⟨rfl,by simpa using hS,by intro j e h;omega,by intro j e P C h;omega⟩ ?_ ?_
 .rintro i x s next aa hm ⟨hs,hv,hI,hE⟩ hn
  have hi:=(Y0.1 aa).1;refine Wp.cr λh2=>Wp.cr λh3=>?_;have a2:0<=x.parent:=by simpa using h2
  have a3:x.parent<=i:=by simpa using h3
  refine Wp.get oM oM λy hy _=>Wp.bind (Sk y x.script (hx x hm)) λr ab hr=>Wp.cond (λh=>Wp.ret λh0=>?_) λh2=>Wp.app sO (hn _ ⟨sO,λT hT=>?_,λj e hj he=>?_,λj e P C hj he hP hC=>?_⟩);simp only at h0;rw[h0] at h;cases h;rcases Y2.1 hT with h|h;exact hv T h;rw[Yu.1 h];obtain⟨all,_,ha,hl⟩:=hr (by simpa using h2);exact ha.last hl;rcases YA j i with h|h;exact hI j e h he;obtain rfl:j=i:=oM
  rw[aa] at he;cases he;exact⟨a2,a3⟩;rcases YA j i with h|h;have hp:=hI j e h he;rw[Yq oM] at hP hC;exact hE j e P C h he hP hC;obtain rfl:j=i:=oM
  rw[aa] at he;cases he;rw[Yq oM,hy] at hP;rw[YM oM,hs,Nat.sub_self] at hC;cases hP;cases hC;rw[ab,<-show r.2=0 by simpa using h2]
 rintro s ⟨hs,hv,hI,hE⟩;exact Wp.ret λ_=>⟨λi e he=>hI i e (Y0.1 he).1 he,hl,hs,hv,λi e P C he=>hE i e P C (Y0.1 he).1 he⟩
def A9(t:Tbl)(row:List GV):Option Int:=
 bif ((row.length:Int) !=(t.cols.length:Int)) then some 3 else Zc (λ(i6:Nat) (x6:GV) (s6:Unit) next_6=>Z1 (WD x6) λv8=>bif (v8 !=0) then some v8 else bif (x6.kind==0) then Z7 t.cols (i6:Int) λx11=>(bif !x11.nullable then some 8 else bif (x6.kind !=0) then bif (x6.kind !=x11.kind) then some 7 else(next_6 ()) else next_6 ()) else bif (x6.kind !=0) then Z7 t.cols (i6:Int) λx16=>(bif (x6.kind !=x16.kind) then some 7 else next_6 ()) else next_6 ()) (λ(s6:Unit)=>some 0) row 0 ()
instance Zar(t:Tbl)(row:List GV):Con (A9 t row) prog 82 [.agg t.enc,.one (.d (.sl (row.map GV.enc)))] (λr=>.one (.d (.int .i64 r))):=by unfold A9;have l1:LH (σ:=Unit) 16 [2,14,15] []:=.intro;have p1:PH [11] (Plan.qB [0,1,2,3,4,5,6,7,8,9,10,11,12,13] .done):=.intro;exact go 53 Tryz.func82
def CG(a:List GV)(b:List GV):Option Int:=
 WI (λ(i3:Nat) (s3:Unit) next_3=>Z7 a (i3:Int) λx4=>Z7 b (i3:Int) λx5=>Z1 (Af x4 x5) λv6=>bif (v6 !=0) then some v6 else Zp (W9 ((i3:Int)+1)) (next_3 ())) (λ(s3:Unit)=>Z1 (B9 (a.length:Int) (b.length:Int)) λv11=>some v11) (Int.toNat (if(b.length:Int)<(a.length:Int) then(b.length:Int) else(a.length:Int))) 0 ()
instance Zbc(a:List GV)(b:List GV):Con (CG a b) prog 83 [.one (.d (.sl (a.map GV.enc))),.one (.d (.sl (b.map GV.enc)))] (λr=>.one (.d (.int .i64 r))):=by unfold CG;have l1:LH (σ:=Unit) 12 [0,1,11] []:=.intro;have p1:PH [4] (Plan.qB [0,1,2,3,4,5,6,7,8,9] .done):=.intro;exact go 33 Tryz.func83
def Vl(t:Tbl)(row:List GV):Option ((List GV)):=
 Zc (λ(i3:Nat) (x3:Int) (s3:(List GV)) next_3=>bif decide (0<=x3) then bif decide (x3<(row.length:Int)) then Z7 row x3 λx8=>(W0 s3 [x8] λ_=>next_3 (s3++[x8])) else(W0 s3 [(GV.mk 0 0 empty)] λ_=>next_3 (s3++[(GV.mk 0 0 empty)])) else W0 s3 [(GV.mk 0 0 empty)] λ_=>next_3 (s3++[(GV.mk 0 0 empty)])) (λ(s3:(List GV))=>some s3) t.pk 0 []
instance Uk(t:Tbl)(row:List GV):Con (Vl t row) prog 84 [.agg t.enc,.one (.d (.sl (row.map GV.enc)))] (λr=>.one (.fresh 0 3 (r.map GV.enc))):=by
 unfold Vl;have l1:LH (σ:=(List GV)) 12 [1,10,11] [.g 5 3 (λs=>s.map GV.enc)]:=.intro;exact go 35 Tryz.func84
def VH(s_:Sch)(inst:List Rel):Option Int:=
 bif ((inst.length:Int) !=(s_.tables.length:Int)) then some 3 else Zc (λ(i6:Nat) (x6:Rel) (s6:Unit) next_6=>Z7 s_.tables (i6:Int) λx8=>bif !(strEq x6.table x8.name) then some 3 else bif decide (24<(x6.rows.length:Int)) then some 2 else Zc (λ(i14:Nat) (x14:List GV) (s14:Unit) next_14=>Z1 (A9 x8 x14) λv15=>bif (v15 !=0) then some v15 else bif ((i14:Int)==0) then next_14 () else Zp (W9 ((i14:Int)-1)) (Z7 x6.rows ((i14:Int)-1) λx19=>Z1 (Vl x8 x19) λv20=>Z1 (Vl x8 x14) λv21=>Z1 (CG v20 v21) λv22=>bif (v22==0) then some 9 else bif decide (0<v22) then some 6 else next_14 ())) (λ(s14:Unit)=>next_6 ()) x6.rows 0 ()) (λ(s6:Unit)=>some 0) inst 0 ()
instance Ee(s_:Sch)(inst:List Rel):Con (VH s_ inst) prog 47 [.agg s_.enc,.one (.d (.sl (inst.map Rel.enc)))] (λr=>.one (.d (.int .i64 r))):=by unfold VH;have l1:LH (σ:=Unit) 20 [2,18,19] []:=.intro;have l2:LH (σ:=Unit) 42 [2,6,7,18,19,20,40,41] []:=.intro;have p1:PH [18] (Plan.qB [0,1,2,3,4,5,6,8,9,7,10,11,12] .done):=.intro;exact go 75 Tryz.func47
def WB(a b:Int):Int:=if a<b then-1 else if b<a then 1 else 0
theorem IP(a b:Int):B9 a b=some (WB a b):=by unfold B9 WB;by_cases h1:a<b;simp[h1];by_cases h2:b<a<;>simp[h1,h2]
def WO(a b:GV):Int:=if WB a.kind b.kind≠0 then WB a.kind b.kind else if WB a.int b.int≠0 then WB a.int b.int else Cj a.text b.text
theorem Z1n(a b:GV):Af a b=some (WO a b):=by
 unfold Af CP WO;rw[IP,IP];simp only[Z1];by_cases h1:WB a.kind b.kind=0;by_cases h2:WB a.int b.int=0;simp[h1,h2];have h3:(WB a.int b.int !=0)=true:=by simpa using h2
 simp[h1,h2,h3];have h3:(WB a.kind b.kind !=0)=true:=by simpa using h1
 simp[h1,h3]
def ZN:List GV->List GV->Int
 |[],[]=>0
 |[],_::_=>-1
 |_::_,[]=>1
 |x::xs,y::ys=>if WO x y≠0 then WO x y else ZN xs ys
theorem Ma(a b:List GV)(ha:a.length<=2097152):Wp (CG a b) λc=>c=ZN a b:=by
 unfold CG;have aa:(Int.toNat (if(b.length:Int)<(a.length:Int) then(b.length:Int) else(a.length:Int)))=min a.length b.length:=by
  split<;>omega
 rw[aa];refine Wp.count (λi _=>ZN a b=ZN (a.drop i) (b.drop i)) sI ?_ ?_
 .intro i s next hi hI hn
  have ab:i<a.length:=oM;have ac:i<b.length:=oM;refine Wp.qG (Y1 ab) (Wp.qG (Y1 ac) ?_);rw[Ys ab,Ys ac,ZN] at hI;rw[Z1n];refine Wp.bind (R:=λv=>v=WO a[i] b[i]) ⟨_,rfl,rfl⟩ λv _ hv=>?_;subst hv;refine Wp.cond (λh=>Wp.ret ?_) λh=>Wp.chk ⟨oM,oM⟩ (hn () ?_);have h':WO a[i] b[i]≠0:=by simpa using h
  rw[hI,if_pos h'];have h':WO a[i] b[i]=0:=by simpa using h
  rw[hI,if_neg (by simp[h'])]
 intro s hI;rw[IP];refine Wp.bind (R:=λv=>v=WB a.length b.length) ⟨_,rfl,rfl⟩ λv _ hv=>Wp.ret ?_;subst hv;rw[hI];unfold WB;rcases Nat.lt_trichotomy a.length b.length with h|h|h;have e1:a.drop (min a.length b.length)=[]:=YQ oM;rw[e1,Ys (oM:min a.length b.length<b.length)];simp[ZN,h];have e1:a.drop (min a.length b.length)=[]:=YQ oM;have e2:b.drop (min a.length b.length)=[]:=YQ oM;rw[e1,e2];simp[ZN,h];have e2:b.drop (min a.length b.length)=[]:=YQ oM;rw[e2,Ys (oM:min a.length b.length<a.length)];have h3:¬(a.length<b.length):=oM
 simp[ZN,h,h3]
def DI:GV:=⟨0,0,empty⟩
def AY(row:List GV)(c:Int):GV:=if 0<=c then(row[c.toNat]?).getD DI else DI
def ZF(T:Tbl)(row:List GV):List GV:=T.pk.map (AY row)
theorem Jm{α β:Type}{xs:List α}{i:Nat}{x:α}{f:α->β}(h:xs[i]?=some x):(xs.take (i+1)).map f=(xs.take i).map f++[f x]:=by obtain⟨h1,h2⟩:=Y0.1 h;rw[Yl h1,h2];simp
theorem VP(T:Tbl)(row:List GV)(hl:T.pk.length<=2097152):Wp (Vl T row) λk=>k=ZF T row:=by
 have hL:=Vh;unfold Vl;refine Wp.for (λi (s:List GV)=>s=(T.pk.take i).map (AY row)) sI ?_ (λs hs=>Wp.ret (by rw[hs,Yp];rfl));intro i x s next hx hm hI hn
 have hi:=(Y0.1 hx).1;have aa:s.length<=i:=by rw[hI];simp;omega
 refine Wp.cond (λh1=>Wp.cond (λh2=>?_) λh2=>?_) λh1=>?_;have a1:0<=x:=by simpa using h1
 have a2:x<row.length:=by simpa using h2
 refine Wp.get a1 a2 λy hy _=>Wp.app sO (hn _ ?_);rw[Jm hx,hI];simp[AY,a1,hy];have a1:0<=x:=by simpa using h1
 have a2:¬(x<row.length):=by simpa using h2
 refine Wp.app sO (hn _ ?_);rw[Jm hx,hI]
 have:row[x.toNat]?=none:=YK oM
 simp[AY,a1,this,DI];have a1:¬(0<=x):=by simpa using h1
 refine Wp.app sO (hn _ ?_);rw[Jm hx,hI];simp[AY,a1,DI]
structure CR(T:Tbl)(row:List GV):Prop where
 len:row.length=T.cols.length
 cell:∀(i:Nat) (x:GV) (c:Col),row[i]?=some x->T.cols[i]?=some c->WD x=some 0/\(x.kind=0->c.nullable=true)/\(x.kind≠0->x.kind=c.kind)
theorem J4{α β:Type}{xs:List α}{ys:List β}{p:α->β->Prop}{i:Nat}{x:α}{y:β}(h:∀(j:Nat) (a:α) (b:β),j<i->xs[j]?=some a->ys[j]?=some b->p a b)(hx:xs[i]?=some x)(hy:ys[i]?=some y)(hp:p x y):
  ∀(j:Nat) (a:α) (b:β),j<i+1->xs[j]?=some a->ys[j]?=some b->p a b:=by
 intro j a b hj ha hb;rcases YA j i with h1|h1;exact h j a b h1 ha hb;obtain rfl:j=i:=oM
 rw[hx] at ha;rw[hy] at hb;cases ha;cases hb;exact hp
theorem M9(T:Tbl)(row:List GV):Wp (A9 T row) λe=>e=0->CR T row:=by
 unfold A9;refine Wp.cr λh1=>?_;have hl:row.length=T.cols.length:=by simp at h1;omega
 refine Wp.for (λi _=>∀(j:Nat) (x:GV) (c:Col),j<i->row[j]?=some x->T.cols[j]?=some c->WD x=some 0/\(x.kind=0->c.nullable=true)/\(x.kind≠0->x.kind=c.kind)) (by intro j x c h;omega) ?_ λs hI=>Wp.ret λ_=>⟨hl,λi x c hx hc=>hI i x c (Y0.1 hx).1 hx hc⟩;intro i x s next hx hm hI hn
 have hi:=(Y0.1 hx).1;have hic:i<T.cols.length:=oM
 have aa:T.cols[i]?=some T.cols[i]:=Y1 hic;generalize T.cols[i]=c at aa;refine Wp.bind (CV x) λv hv _=>Wp.cond (λh=>Wp.ret (by intro h0;simp[h0] at h)) λh2=>?_;obtain rfl:v=0:=by simpa using h2
 refine Wp.cond (λh3=>?_) λh3=>?_;have a3:x.kind=0:=by simpa using h3
 refine Wp.qG aa (Wp.cr λh4=>Wp.cond (λh5=>?_) λ_=>hn () (J4 hI hx aa ⟨hv,λ_=>by simpa using h4,λh=>absurd a3 h⟩));simp[a3] at h5;have a3:x.kind≠0:=by simpa using h3
 refine Wp.cond (λ_=>Wp.qG aa (Wp.cr λh4=>hn () (J4 hI hx aa ⟨hv,λh=>absurd h a3,λ_=>by simpa using h4⟩))) λh5=>?_;simp[a3] at h5
def FP(T:Tbl)(rows:List (List GV)):Prop:=∀(i:Nat) (a b:List GV),rows[i]?=some a->rows[i+1]?=some b->ZN (ZF T a) (ZF T b)<0
structure CF(S:Sch)(inst:List Rel):Prop where
 len:inst.length=S.tables.length
 name:∀(i:Nat) (x:Rel) (T:Tbl),inst[i]?=some x->S.tables[i]?=some T->strEq x.table T.name=true
 l24:∀x∈inst,x.rows.length<=24
 row:∀(i:Nat) (x:Rel) (T:Tbl),inst[i]?=some x->S.tables[i]?=some T->∀row∈x.rows,CR T row
 asc:∀(i:Nat) (x:Rel) (T:Tbl),inst[i]?=some x->S.tables[i]?=some T->FP T x.rows
theorem D3(S:Sch)(hS:∀T∈S.tables,T.pk.length<=6)(inst:List Rel):Wp (VH S inst) λe=>e=0->CF S inst:=by
 unfold VH;refine Wp.cr λh1=>?_;have hl:inst.length=S.tables.length:=by simp at h1;omega
 refine Wp.for (λi _=>∀(j:Nat) (x:Rel) (T:Tbl),j<i->inst[j]?=some x->S.tables[j]?=some T->strEq x.table T.name=true/\x.rows.length<=24/\(∀row∈x.rows,CR T row)/\FP T x.rows) (by intro j x c h;omega) ?_ ?_
 .intro i x s next hx hm hI hn
  have hi:=(Y0.1 hx).1;have hic:i<S.tables.length:=oM
  have ab:S.tables[i]?=some S.tables[i]:=Y1 hic;have af:=hS _ (Yf hic);generalize S.tables[i]=T at ab af;refine Wp.qG ab (Wp.cr λh2=>Wp.cr λh3=>?_);have a3:x.rows.length<=24:=by simp at h3;omega
  refine Wp.for (λi _=>(∀(j:Nat) (row:List GV),j<i->x.rows[j]?=some row->CR T row)/\∀(j:Nat) (a b:List GV),j+1<i->x.rows[j]?=some a->x.rows[j+1]?=some b->ZN (ZF T a) (ZF T b)<0) ⟨by intro j r h;omega,by intro j a b h;omega⟩ ?_ ?_;rintro k row s ae hr ag ⟨hJ,hK⟩ hn2;have hk:=(Y0.1 hr).1;refine Wp.bind (M9 T row) λe _ he=>Wp.cond (λh=>Wp.ret (by intro h0;simp[h0] at h)) λh4=>?_;have ac:=he (by simpa using h4);refine Wp.cond (λh5=>hn2 () ⟨Ul hJ hr ac,?_⟩) λh5=>Wp.chk ⟨oM,oM⟩ ?_;have hk0:k=0:=by simp at h5;omega
  intro j a b hj;omega;have hk0:k≠0:=by simp at h5;omega
  have ad:k-1<x.rows.length:=oM;have aa:x.rows[k-1]?=some x.rows[k-1]:=Y1 ad;rw[show(k:Int)-1=((k-1:Nat):Int) by omega];generalize x.rows[k-1]=row0 at aa;refine Wp.qG aa (Wp.bind (VP T row0 oM) λk0 _ h0=>Wp.bind (VP T row oM) λk1 _ h1=>?_);subst h0 h1;refine Wp.bind (Ma _ _ (by simp[ZF];omega)) λc _ hc=>Wp.cr λh6=>Wp.cr λh7=>hn2 () ⟨Ul hJ hr ac,?_⟩;have a6:c≠0:=by simpa using h6
  have a7:¬(0<c):=by simpa using h7
  intro j a b hj ha hb;rcases YA (j+1) k with h|h;exact hK j a b h ha hb;obtain rfl:k=j+1:=oM
  rw[hr] at hb;rw[show j+1-1=j by omega,ha] at aa;cases hb;cases aa;rw[<-hc];omega;rintro s ⟨hJ,hK⟩;exact hn () (J4 hI hx ab ⟨by simpa using h2,a3,Ao hJ,λi a b ha hb=>hK i a b (Y0.1 hb).1 ha hb⟩)
 intro s hI;refine Wp.ret λ_=>⟨hl,λi x T hx hT=>(hI i x T (Y0.1 hx).1 hx hT).1,λx hx=>?_,λi x T hx hT=>(hI i x T (Y0.1 hx).1 hx hT).2.2.1,λi x T hx hT=>(hI i x T (Y0.1 hx).1 hx hT).2.2.2⟩;obtain⟨i,hi,rfl⟩:=Yz hx;exact(hI i _ _ hi (Y1 hi) (Y1 oM)).2.1
def Z8a(S:Sch):Prop:=∀(i j:Nat) a b,S.tables[i]?=some a->S.tables[j]?=some b->strEq a.name b.name=true->i=j
theorem Tl(S):Wp (Ug S) λe=>e=0->(∀T∈S.tables,B8 T=some 0)/\∀i a b,S.tables[i]?=some a->S.tables[i+1]?=some b->Uz b.name a.name=false/\strEq b.name a.name=false:=by
 unfold Ug;refine Wp.cr λh1=>Wp.cr λh2=>Wp.cr λh3=>?_;have a1:S.tables.length<=6:=by simp at h1;omega
 refine Wp.for (λi _=>(∀j T,j<i->S.tables[j]?=some T->VT T/\B8 T=some 0)/\∀j a b,j+1<i->S.tables[j]?=some a->S.tables[j+1]?=some b->Uz b.name a.name=false/\strEq b.name a.name=false) ⟨by intro j T h;omega,by intro j a b h;omega⟩ ?_ ?_
 .rintro i T _ next hx _ ⟨hI,hJ⟩ hn
  have hi:=(Y0.1 hx).1;refine Wp.bind (LV T) λe ab he=>Wp.cond (λh=>Wp.ret (by intro h0;simp[h0] at h)) λh4=>?_;obtain rfl:e=0:=by simpa using h4
  have aa:=Ul hI hx ⟨he rfl,ab⟩;refine Wp.cond (λh5=>?_) λh5=>hn () ⟨aa,λj a b hj=>?_⟩;have ac:0<i:=by simpa using h5
  refine Wp.chk ⟨oM,oM⟩ (Wp.get oM oM λy hy _=>Wp.cr λh6=>hn () ⟨aa,λj a b hj ha hb=>?_⟩);rcases YA (j+1) i with h|h;exact hJ j a b h ha hb;obtain rfl:i=j+1:=oM
  rw[hx] at hb;rw[show(((j+1:Nat):Int)-1).toNat=j by omega,ha] at hy;cases hb;cases hy;simpa using h6
  have:¬(0<i):=by simpa using h5
  omega
 rintro _ ⟨hI,hJ⟩;have hT:=Ao hI;refine Wp.for (λ_ _=>True) trivial ?_ ?_
 .intro i f _ next hx _ _ hn
  have hi:=(Y0.1 hx).1;refine Wp.bind (Lp S (λT h=>(hT T h).1) f) λe _ _=>Wp.cond (λh=>Wp.ret (by intro h0;simp[h0] at h)) λ_=>?_;refine Wp.chk ⟨oM,oM,oM⟩ (Wp.bind (CO _ _ λx _=>?_) λ_ _ _=>Wp.cr λ_=>hn () trivial);unfold CI;exact Wp.bind (Ef _ _) λ_ _ _=>Wp.ret trivial
 intro _ _;refine Wp.for (λ_ _=>True) trivial ?_ ?_
 .intro i f _ next hx _ _ hn
  have hi:=(Y0.1 hx).1;refine Wp.bind (Lq S (λT h=>(hT T h).1) f) λe _ _=>Wp.cond (λh=>Wp.ret (by intro h0;simp[h0] at h)) λ_=>?_;exact Wp.chk ⟨oM,oM,oM⟩ (Wp.bind (LW _ _) λ_ _ _=>Wp.cr λ_=>hn () trivial)
 intro _ _;exact Wp.ret λ_=>⟨λT h=>(hT T h).2,λi a b ha hb=>hJ i a b (Y0.1 hb).1 ha hb⟩
theorem Z1d:∀{a b c:List UInt8},Op.bytesLess a b=true->Op.bytesLess b c=true->Op.bytesLess a c=true:=by
 intro a
 induction a with|nil=>?_|cons x a ih=>?_
 intro b c h1 h2;cases c with
 |nil=>cases b<;>simp[Op.bytesLess] at h1 h2
 |cons z c=>simp[Op.bytesLess]
 intro b c h1 h2;cases b with
 |nil=>simp[Op.bytesLess] at h1
 |cons y b=>?_
 cases c with
 |nil=>simp[Op.bytesLess] at h2
 |cons z c=>?_
 simp only[Op.bytesLess,X9,YC,decide_eq_true_eq,beq_iff_eq] at h1 h2|-;rcases h1 with h1|⟨rfl,h1⟩<;>rcases h2 with h2|⟨rfl,h2⟩;exact .inl (UInt8.lt_trans h1 h2);exact .inl h1;exact .inl h2;exact .inr ⟨rfl,ih h1 h2⟩
theorem IY:∀a:List UInt8,Op.bytesLess a a=false
 |[]=>rfl
 |x::a=>by simp[Op.bytesLess,IY a]
theorem MP:∀{a b:List UInt8},Op.bytesLess a b=false->a≠b->Op.bytesLess b a=true:=by
 intro a
 induction a with|nil=>?_|cons x a ih=>?_
 intro b h1 h2;cases b with
 |nil=>exact absurd rfl h2
 |cons y b=>simp[Op.bytesLess] at h1
 intro b h1 h2;cases b with
 |nil=>rfl
 |cons y b=>?_
 simp only[Op.bytesLess,XZ,Bool.and_eq_false_iff,decide_eq_false_iff_not,beq_eq_false_iff_ne] at h1;simp only[Op.bytesLess,X9,YC,decide_eq_true_eq,beq_iff_eq];by_cases hxy:x=y;subst hxy;exact .inr ⟨rfl,ih (h1.2.resolve_left (λh=>h rfl)) (λh=>h2 (by rw[h]))⟩;refine .inl ?_;have h3:¬(x.toNat<y.toNat):=λh=>h1.1 (UInt8.lt_iff_toNat_lt.2 h);have h4:x.toNat≠y.toNat:=λh=>hxy (UInt8.toNat_inj.1 h);exact UInt8.lt_iff_toNat_lt.2 oM
theorem D9{a b}:strEq a b=true↔a.toList=b.toList:=by simp[strEq]
def WT(ts:List Tbl):Prop:=ts.Pairwise λa b=>Uz a.name b.name=true
theorem Z52{ts}(h:∀i a b,ts[i]?=some a->ts[i+1]?=some b->Uz b.name a.name=false/\strEq b.name a.name=false):WT ts:=by
 have key:∀n i a b,ts[i]?=some a->ts[i+1+n]?=some b->Uz a.name b.name=true:=by
  intro n
  induction n with|zero=>?_|succ n ih=>?_
  intro i a b ha hb;obtain⟨h1,h2⟩:=h i a b ha hb;refine MP h1 λh3=>?_;rw[D9.2 h3] at h2;cases h2;intro i a b ha hb;have hl:=(Y0.1 hb).1;have hc:ts[i+1+n]?=some ts[i+1+n]:=Y1 oM;refine Z1d (ih i a _ ha hc) ?_;obtain⟨h1,h2⟩:=h (i+1+n) _ b hc hb;refine MP h1 λh3=>?_;rw[D9.2 h3] at h2;cases h2
 refine YV.2 λi j hi hj hij=>?_;refine key (j-(i+1)) i _ _ (Y1 hi) ?_;rw[show i+1+(j-(i+1))=j by omega];exact Y1 hj
theorem WT.uniq{S}(h:WT S.tables):Z8a S:=by intro i j a b ha hb he;obtain⟨hi,rfl⟩:=Y0.1 ha;obtain⟨hj,rfl⟩:=Y0.1 hb;have e:=D9.1 he;rcases Nat.lt_trichotomy i j with h1|h1|h1;have h2:Op.bytesLess _ _=true:=YV.1 h i j hi hj h1;rw[e,IY] at h2;cases h2;exact h1;have h2:Op.bytesLess _ _=true:=YV.1 h j i hj hi h1;rw[<-e,IY] at h2;cases h2
theorem VS.ord{S}(h:VS S):WT S.tables/\∀T∈S.tables,B8 T=some 0:=by obtain⟨e,he,hp⟩:=Tl S;rw[h.ok] at he;cases he;exact⟨Z52 (hp rfl).2,(hp rfl).1⟩
theorem OY{a b:Int}:WB a b<0↔a<b:=by
 unfold WB;split;simp[*]
 split<;>simp[*]
theorem Bl{a b:Int}:WB a b=0↔a=b:=by
 unfold WB;split
 simp;omega
 split
 simp;omega
 simp;omega
theorem Z77:∀{a b:List UInt8},Lib.compareBytes a b=0->a=b:=by
 intro a
 induction a with
 |nil=>intro b h;cases b with
   |nil=>rfl
   |cons y b=>simp[Lib.compareBytes] at h
 |cons x a ih=>?_
 intro b h;cases b with
 |nil=>simp[Lib.compareBytes] at h
 |cons y b=>?_
 simp only[Lib.compareBytes] at h;split at h;simp at h;split at h;simp at h;rename_i h1 h2;have h3:¬(x.toNat<y.toNat):=λh=>h1 (UInt8.lt_iff_toNat_lt.2 h);have h4:¬(y.toNat<x.toNat):=λh=>h2 (UInt8.lt_iff_toNat_lt.2 h)
 have:x=y:=UInt8.toNat_inj.1 oM
 rw[this,ih h]
theorem OZ:∀a:List UInt8,Lib.compareBytes a a=0
 |[]=>rfl
 |x::a=>by
   have:¬(x<x):=λh=>Nat.lt_irrefl _ (UInt8.lt_iff_toNat_lt.1 h)
   simp[Lib.compareBytes,this,OZ a]
theorem Z5e:∀{a b c:List UInt8},Lib.compareBytes a b<0->Lib.compareBytes b c<0->Lib.compareBytes a c<0:=by
 intro a
 induction a with|nil=>?_|cons x a ih=>?_
 intro b c h1 h2;cases c with
 |nil=>cases b<;>simp[Lib.compareBytes] at h1 h2
 |cons z c=>simp[Lib.compareBytes]
 intro b c h1 h2;cases b with
 |nil=>simp[Lib.compareBytes] at h1
 |cons y b=>?_
 cases c with
 |nil=>simp[Lib.compareBytes] at h2
 |cons z c=>?_
 simp only[Lib.compareBytes,UInt8.lt_iff_toNat_lt] at h1 h2|-;split at h1;split at h2;rw[if_pos oM];decide;split at h2;simp at h2;rw[if_pos oM];decide;split at h1;simp at h1;split at h2;rw[if_pos oM];decide;split at h2;simp at h2;rw[if_neg oM,if_neg oM];exact ih h1 h2
theorem OX{a b}:WO a b<0↔a.kind<b.kind\/(a.kind=b.kind/\(a.int<b.int\/(a.int=b.int/\Cj a.text b.text<0))):=by
 unfold WO;by_cases h1:WB a.kind b.kind=0;have e1:=Bl.1 h1;by_cases h2:WB a.int b.int=0;have e2:=Bl.1 h2;simp[e1,e2,WB];have e2:a.int≠b.int:=λh=>h2 (Bl.2 h);rw[if_neg (by simp[h1]),if_pos h2,OY];simp[e1,e2];have e1:a.kind≠b.kind:=λh=>h1 (Bl.2 h);rw[if_pos h1,OY];simp[e1]
theorem H5{a b}(h:WO a b=0):a=b:=by
 unfold WO at h;by_cases h1:WB a.kind b.kind=0;by_cases h2:WB a.int b.int=0;rw[if_neg (by simp[h1]),if_neg (by simp[h2])] at h;have e3:=Z77 h;obtain⟨k,n,t⟩:=a;obtain⟨k',n',t'⟩:=b;have e1:=Bl.1 h1;have e2:=Bl.1 h2;simp only at e1 e2 e3;subst e1 e2
 have:t=t':=by
  cases t with
  |mk d=>cases t' with
    |mk d'=>
      have:=Array.toList_inj.1 e3
      rw[show d=d' from this]
 rw[this];rw[if_neg (by simp[h1]),if_pos h2] at h;exact absurd h h2;rw[if_pos h1] at h;exact absurd h h1
theorem Z1o{a b c}(h1:WO a b<0)(h2:WO b c<0):WO a c<0:=by rw[OX] at h1 h2|-;rcases h1 with h1|⟨e1,h1⟩;rcases h2 with h2|⟨e2,_⟩;exact .inl oM;exact .inl oM;rcases h2 with h2|⟨e2,h2⟩;exact .inl oM;refine .inr ⟨oM,?_⟩;rcases h1 with h1|⟨f1,h1⟩;rcases h2 with h2|⟨f2,_⟩;exact .inl oM;exact .inl oM;rcases h2 with h2|⟨f2,h2⟩;exact .inl oM;exact .inr ⟨oM,Z5e h1 h2⟩
theorem EP:∀{a b c:List GV},ZN a b<0->ZN b c<0->ZN a c<0:=by
 intro a
 induction a with|nil=>?_|cons x a ih=>?_
 intro b c h1 h2;cases c with
 |nil=>cases b<;>simp[ZN] at h1 h2
 |cons z c=>simp[ZN]
 intro b c h1 h2;cases b with
 |nil=>simp[ZN] at h1
 |cons y b=>?_
 cases c with
 |nil=>simp[ZN] at h2
 |cons z c=>?_
 simp only[ZN] at h1 h2|-;by_cases e1:WO x y=0
 have:=H5 e1
 subst this;rw[if_neg (by simp[e1])] at h1;by_cases e2:WO x z=0;rw[if_neg (by simp[e2])] at h2|-;exact ih h1 h2;rw[if_pos e2] at h2|-;exact h2;rw[if_pos e1] at h1;by_cases e2:WO y z=0
 have:=H5 e2
 subst this;rw[if_pos e1];exact h1;rw[if_pos e2] at h2
 have:=Z1o h1 h2
 rw[if_pos oM];exact this
def Wh(T:Tbl)(rows:List (List GV)):Prop:=rows.Pairwise λa b=>ZN (ZF T a) (ZF T b)<0
theorem FP.pw{T rows}(h:FP T rows):Wh T rows:=by
 have key:∀n i a b,rows[i]?=some a->rows[i+1+n]?=some b->ZN (ZF T a) (ZF T b)<0:=by
  intro n
  induction n with
  |zero=>intro i a b ha hb;exact h i a b ha hb
  |succ n ih=>?_
  intro i a b ha hb;have hl:=(Y0.1 hb).1;have hc:rows[i+1+n]?=some rows[i+1+n]:=Y1 oM;exact EP (ih i a _ ha hc) (h (i+1+n) _ b hc hb)
 refine YV.2 λi j hi hj hij=>?_;refine key (j-(i+1)) i _ _ (Y1 hi) ?_;rw[show i+1+(j-(i+1))=j by omega];exact Y1 hj
theorem Wh.asc{T rows}(h:Wh T rows):FP T rows:=by intro i a b ha hb;obtain⟨h1,rfl⟩:=Y0.1 ha;obtain⟨h2,rfl⟩:=Y0.1 hb;exact YV.1 h i (i+1) h1 h2 oM
theorem Wp.eq{α:Type}{m}{v:α}(h:Wp m λr=>r=v):m=some v:=by obtain⟨r,h1,rfl⟩:=h;exact h1
theorem H3{α:Type}{aa:List (List α)}{i:Nat}{x:List α}(h:aa[i]?=some x):(aa.take (i+1)).flatten=(aa.take i).flatten++x:=by obtain⟨h1,h2⟩:=Y0.1 h;rw[Yl h1,h2];simp
theorem IZ{h:HS}{ds:List D}:Zx h (ds.map C.d) ds:=by
 induction ds with
 |nil=>trivial
 |cons d ds ih=>exact⟨.data rfl,ih⟩
def WJ{α:Type}(aa:List (List α))(i:Nat):Nat:=(aa.take i).flatten.length
theorem H4{α:Type}(aa:List (List α))(i:Nat):(aa.take i).flatten.length<=aa.flatten.length:=by
 conv=>rhs;rw[<-YI i aa]
 rw[Xo,Ye];omega
theorem J2{α:Type}{aa:List (List α)}{i:Nat}{x:List α}(h:aa[i]?=some x):WJ aa (i+1)=WJ aa i+x.length:=by unfold WJ;rw[H3 h,Ye]
theorem JE{α:Type}(aa:List (List α))(i:Nat):WJ aa i<=aa.flatten.length:=H4 aa i
theorem Jj{α:Type}(aa:List (List α)):WJ aa aa.length=aa.flatten.length:=by unfold WJ;rw[Yp]
theorem J1{α:Type}(aa:List (List α)):WJ aa 0=0:=rfl
theorem Rb(h:HS)(n:Nat)(hn:n<=2097152)(K:V->HS->Prop)
  (hk:∀c' h',MR h' 4 c' []->Z0 h h' []->(∀l∈labs c',h.ep<=l.1/\l.1<h'.ep)->K (.one c') h'):
  Z3 prog 39 [.one .nil,.i (n:Int)] h K:=by
 refine Z3.ov Tryz.func39 ?_;simp;have h0:¬((n:Int)<0):=oM
 have hw:IntKind.i64.wrap ((n:Int)-0)=(n:Int):=by rw[Int.sub_zero];exact Y5 _ oM
 have hw0:IntKind.i64.wrap 0=0:=Y5 _ oM;have aa:IntKind.i64.wrap (n:Int)=(n:Int):=Y5 _ oM
 try simp[h0]
 refine Di Dj ?_;simp[hw,hw0,aa];refine WR (λhp=>?_) (λhp=>?_);simp[hw,hw0,aa];refine Di Dj ?_;simp[hw,hw0,aa];refine Jk Dj dE (kk:=.i64) rfl kR dE dE oM (by show(n:Int)<=2097152;omega) (λcap' hcap=>?_);have hc0:0<cap':=oM
 simp at hcap;simp[hw0,aa,hc0];refine hk _ _ ⟨Zr.nil,sI,.inr ⟨(h.ep,352),cap',List.replicate (cap'*4) .any,sI,by simp[Z8],by simp[Z8]⟩⟩ ((Z0.refl.qA (.inr (Y7 _))).next) (by simp[labs]);simp;exact hk _ _ MR.nil .refl (by simp[labs])
theorem QJ(h:HS)(c:C)(aa:List (List (List D)))(hc:c=.d (.sl (aa.map λxs=>[.sl xs]))\/∃lab,c=.own lab (aa.map λxs=>[.sl xs]))(hall:∀xs∈aa,∀x∈xs,x.length=4)(hl:aa.flatten.length<=2097152)(K:V->HS->Prop)
  (hk:∀c' h',MR h' 4 c' (aa.flatten.map (·.map C.d))->Z0 h h' []->(∀l∈labs c',h.ep<=l.1/\l.1<h'.ep)->K (.one c') h'):
  Z3 prog 14 [.one c] h K:=by
 refine Z3.ov Tryz.func14 ?_;simp;have aj:c.qE=some (aa.map λxs=>[.sl xs]):=by rcases hc with rfl|⟨lab,rfl⟩<;>rfl
 refine As aj (λhX=>?_);simp only[Yh] at hX;have ax:aa.length<=2097152:=hX;simp;refine Z4.rounds (λn e h'=>∃i,n=aa.length-i/\i<=aa.length/\h'=h/\e.n=36/\e.get 0=.one c/\e.get 9=.one c/\e.get 10=.i (aa.length:Int)/\e.get 11=.i (i:Int)/\e.get 3=.i (WJ aa i:Int)) aa.length
  ⟨0,rfl,oM,rfl,sI,sI,sI,sI,sI,by simp[J1]⟩ ?_
 rintro n e h' ⟨i,rfl,hi,rfl,hn,h0,h9,ab,ae,h3⟩;simp[h0,h9,ab,ae,h3,hn];refine WR (λhlt=>?_) (λhge=>?_)
 .have ah:IntKind.i64.wrap ((i:Int)+1)=(i:Int)+1:=Y5 _ oM;obtain⟨x,hx⟩:∃x,aa[i]?=some x:=⟨_,Y1 hlt⟩;have hs2:=JE aa (i+1);have hs3:=J2 hx;have ar:IntKind.i64.wrap ((WJ aa i:Int)+(x.length:Int))=(WJ aa (i+1):Int):=by rw[hs3,Int.natCast_add];exact Y5 _ oM
  have ak:¬((WJ aa (i+1):Int)<0):=oM;have hi0:(0:Int)<=(i:Int):=oM;rcases hc with rfl|⟨lab,rfl⟩
  all_goals
   simp[h0,h9,ab,ae,h3,hn,hx,hi0];intro hxl;simp[h0,h9,ab,ae,h3,hn,ah,ar,ak];exact Ud.of (n':=aa.length-(i+1)) oM ⟨i+1,rfl,oM,rfl,by simp[hn],by simp[h0],by simp[h9],by simp[ab],sI,sI⟩
 obtain rfl:i=aa.length:=oM;have hl':WJ aa aa.length<=2097152:=by rw[Jj];exact hl
 simp[h0,h3,hn];refine Za (Rb h' (WJ aa aa.length) hl' _ (λc1 h1 aq al am=>?_));simp[h0,hn];refine As aj (λhX=>?_);simp[h0,hn];refine Z4.rounds (λn e h2=>∃(i:Nat) (c2:C),n=aa.length-i/\i<=aa.length/\MR h2 4 c2 ((aa.take i).flatten.map (·.map C.d))/\Z0 h' h2 []/\(∀l∈labs c2,h'.ep<=l.1/\l.1<h2.ep)/\e.n=36/\e.get 25=.one c/\e.get 26=.i (aa.length:Int)/\e.get 27=.i (i:Int)/\e.get 6=.one c2) aa.length ?_ ?_;exact⟨0,c1,rfl,oM,(aq.frame (λ_ _=>rfl)),al,am,by simp[hn],by simp[h0,hn],by simp[hn],by simp[hn],by simp[hn]⟩;clear h0 h9 ab ae h3 hn hi hge;rintro n e h2 ⟨i,c2,rfl,hi,hm2,hs2,hl2,hn,ad,ac,ag,h6⟩;simp[ad,ac,ag,h6,hn];refine WR (λhlt=>?_) (λhge=>?_)
 .have ah:IntKind.i64.wrap ((i:Int)+1)=(i:Int)+1:=Y5 _ oM;obtain⟨x,hx⟩:∃x,aa[i]?=some x:=⟨_,Y1 hlt⟩;have af:=H3 hx;have au:=H4 aa (i+1);have aw:(aa.take (i+1)).flatten.length=(aa.take i).flatten.length+x.length:=by rw[af,Ye]
  have hi0:(0:Int)<=(i:Int):=oM;have hrd:Zk h2 4 (.d (.sl x)) (x.map (·.map C.d)):=Zk.data (hall x (Y4 hx)) (by show x.length<=2097152;omega);rcases hc with rfl|⟨lab,rfl⟩
  all_goals
   simp[ad,ac,ag,h6,hn,hx,hi0];refine W5 Dj kR dE dE hm2 hrd (by simp only[Yh];show _<=2097152;omega) (λc3 h3 hm3 hs3 ap=>?_);simp[ad,ac,ag,hn,ah];refine Ud.of (n':=aa.length-(i+1)) oM ⟨i+1,c3,rfl,oM,?_,hs2.trans' hs3 (λk hk=>.inr (hl2 k hk).1),?_,by simp[hn],by simp[ad],by simp[ac],sI,sI⟩;rw[af,YP];exact hm3;intro k hk;rcases ap k hk with h9|h9
   have:=hl2 k h9
   have:=hs3.1
   omega
   have:=hs2.1
   omega
 obtain rfl:i=aa.length:=oM;rw[Yp] at hm2;simp[h6,hn];exact hk _ _ hm2 hs2 hl2
def Gd(s_:List (List Chg)):Option (List Chg):=Zp (s_.flatten.length<=2097152) (some s_.flatten)
theorem QO(s_:List (List Chg))(r:List Chg)(hm:Is (Gd s_) r):Zj prog 14 [.l (s_.map (Z6 Chg.enc))] (.l (r.map Chg.enc)):=by
 obtain⟨hl,hm⟩:=hm.chk;obtain rfl:=Zh hm;refine Zj.of_heap ?_;have hX:s_.map (Z6 Chg.enc)=(s_.map (·.map Chg.enc)).map λxs=>[D.sl xs]:=by simp[Z6]
 have hF:(s_.map (·.map Chg.enc)).flatten=s_.flatten.map Chg.enc:=by simp[XA]
 refine QJ HS.init _ (s_.map (·.map Chg.enc)) (.inl (by rw[<-hX])) (λxs ab x hx=>?_) (by rw[hF,Yh];exact hl) _ (λc' h' aa _ _=>?_);obtain⟨ys,_,rfl⟩:=Yi.1 ab;obtain⟨y,_,rfl⟩:=Yi.1 hx;rfl;rw[hF] at aa;exact aa.frz (Yh _) (λt ht=>by obtain⟨y,_,rfl⟩:=Yi.1 ht;rfl) (λi x t hx ht=>by rw[Y8] at hx;rw[ht] at hx;simp only[Yj,Ya] at hx;subst hx;exact IZ)
theorem QI(h:HS)(n:Nat)(hn:n<=2097152)(K:V->HS->Prop)
  (hk:∀c' h',MR h' 1 c' []->Z0 h h' []->(∀l∈labs c',h.ep<=l.1/\l.1<h'.ep)->K (.one c') h'):
  Z3 prog 62 [.one .nil,.i (n:Int)] h K:=by
 refine Z3.ov Tryz.func62 ?_;simp;have h0:¬((n:Int)<0):=oM
 have hw:IntKind.i64.wrap ((n:Int)-0)=(n:Int):=by rw[Int.sub_zero];exact Y5 _ oM
 have hw0:IntKind.i64.wrap 0=0:=Y5 _ oM;have aa:IntKind.i64.wrap (n:Int)=(n:Int):=Y5 _ oM
 try simp[h0]
 refine Di Bu ?_;simp[hw,hw0,aa];refine WR (λhp=>?_) (λhp=>?_);simp[hw,hw0,aa];refine Di Bu ?_;simp[hw,hw0,aa];refine Jk Bu dE (kk:=.i64) rfl kR dE dE oM (by show(n:Int)<=2097152;omega) (λcap' hcap=>?_);have hc0:0<cap':=oM
 simp at hcap;simp[hw0,aa,hc0];refine hk _ _ ⟨Zr.nil,sI,.inr ⟨(h.ep,352),cap',List.replicate (cap'*1) .any,sI,by simp[Z8],by simp[Z8]⟩⟩ ((Z0.refl.qA (.inr (Y7 _))).next) (by simp[labs]);simp;exact hk _ _ MR.nil .refl (by simp[labs])
theorem Qv(h:HS)(c:C)(aa:List (List (List D)))(hc:c=.d (.sl (aa.map λxs=>[.sl xs]))\/∃lab,c=.own lab (aa.map λxs=>[.sl xs]))(hall:∀xs∈aa,∀x∈xs,x.length=1)(hl:aa.flatten.length<=2097152)(K:V->HS->Prop)
  (hk:∀c' h',MR h' 1 c' (aa.flatten.map (·.map C.d))->Z0 h h' []->(∀l∈labs c',h.ep<=l.1/\l.1<h'.ep)->K (.one c') h'):
  Z3 prog 32 [.one c] h K:=by
 refine Z3.ov Tryz.func32 ?_;simp;have aj:c.qE=some (aa.map λxs=>[.sl xs]):=by rcases hc with rfl|⟨lab,rfl⟩<;>rfl
 refine As aj (λhX=>?_);simp only[Yh] at hX;have ax:aa.length<=2097152:=hX;simp;refine Z4.rounds (λn e h'=>∃i,n=aa.length-i/\i<=aa.length/\h'=h/\e.n=36/\e.get 0=.one c/\e.get 9=.one c/\e.get 10=.i (aa.length:Int)/\e.get 11=.i (i:Int)/\e.get 3=.i (WJ aa i:Int)) aa.length
  ⟨0,rfl,oM,rfl,sI,sI,sI,sI,sI,by simp[J1]⟩ ?_
 rintro n e h' ⟨i,rfl,hi,rfl,hn,h0,h9,ab,ae,h3⟩;simp[h0,h9,ab,ae,h3,hn];refine WR (λhlt=>?_) (λhge=>?_)
 .have ah:IntKind.i64.wrap ((i:Int)+1)=(i:Int)+1:=Y5 _ oM;obtain⟨x,hx⟩:∃x,aa[i]?=some x:=⟨_,Y1 hlt⟩;have hs2:=JE aa (i+1);have hs3:=J2 hx;have ar:IntKind.i64.wrap ((WJ aa i:Int)+(x.length:Int))=(WJ aa (i+1):Int):=by rw[hs3,Int.natCast_add];exact Y5 _ oM
  have ak:¬((WJ aa (i+1):Int)<0):=oM;have hi0:(0:Int)<=(i:Int):=oM;rcases hc with rfl|⟨lab,rfl⟩
  all_goals
   simp[h0,h9,ab,ae,h3,hn,hx,hi0];intro hxl;simp[h0,h9,ab,ae,h3,hn,ah,ar,ak];exact Ud.of (n':=aa.length-(i+1)) oM ⟨i+1,rfl,oM,rfl,by simp[hn],by simp[h0],by simp[h9],by simp[ab],sI,sI⟩
 obtain rfl:i=aa.length:=oM;have hl':WJ aa aa.length<=2097152:=by rw[Jj];exact hl
 simp[h0,h3,hn];refine Za (QI h' (WJ aa aa.length) hl' _ (λc1 h1 aq al am=>?_));simp[h0,hn];refine As aj (λhX=>?_);simp[h0,hn];refine Z4.rounds (λn e h2=>∃(i:Nat) (c2:C),n=aa.length-i/\i<=aa.length/\MR h2 1 c2 ((aa.take i).flatten.map (·.map C.d))/\Z0 h' h2 []/\(∀l∈labs c2,h'.ep<=l.1/\l.1<h2.ep)/\e.n=36/\e.get 25=.one c/\e.get 26=.i (aa.length:Int)/\e.get 27=.i (i:Int)/\e.get 6=.one c2) aa.length ?_ ?_;exact⟨0,c1,rfl,oM,(aq.frame (λ_ _=>rfl)),al,am,by simp[hn],by simp[h0,hn],by simp[hn],by simp[hn],by simp[hn]⟩;clear h0 h9 ab ae h3 hn hi hge;rintro n e h2 ⟨i,c2,rfl,hi,hm2,hs2,hl2,hn,ad,ac,ag,h6⟩;simp[ad,ac,ag,h6,hn];refine WR (λhlt=>?_) (λhge=>?_)
 .have ah:IntKind.i64.wrap ((i:Int)+1)=(i:Int)+1:=Y5 _ oM;obtain⟨x,hx⟩:∃x,aa[i]?=some x:=⟨_,Y1 hlt⟩;have af:=H3 hx;have au:=H4 aa (i+1);have aw:(aa.take (i+1)).flatten.length=(aa.take i).flatten.length+x.length:=by rw[af,Ye]
  have hi0:(0:Int)<=(i:Int):=oM;have hrd:Zk h2 1 (.d (.sl x)) (x.map (·.map C.d)):=Zk.data (hall x (Y4 hx)) (by show x.length<=2097152;omega);rcases hc with rfl|⟨lab,rfl⟩
  all_goals
   simp[ad,ac,ag,h6,hn,hx,hi0];refine W5 Bu kR dE dE hm2 hrd (by simp only[Yh];show _<=2097152;omega) (λc3 h3 hm3 hs3 ap=>?_);simp[ad,ac,ag,hn,ah];refine Ud.of (n':=aa.length-(i+1)) oM ⟨i+1,c3,rfl,oM,?_,hs2.trans' hs3 (λk hk=>.inr (hl2 k hk).1),?_,by simp[hn],by simp[ad],by simp[ac],sI,sI⟩;rw[af,YP];exact hm3;intro k hk;rcases ap k hk with h9|h9
   have:=hl2 k h9
   have:=hs3.1
   omega
   have:=hs2.1
   omega
 obtain rfl:i=aa.length:=oM;rw[Yp] at hm2;simp[h6,hn];exact hk _ _ hm2 hs2 hl2
def DS(s_:List (List (List Rel))):Option (List (List Rel)):=Zp (s_.flatten.length<=2097152) (some s_.flatten)
theorem Qx(s_:List (List (List Rel)))(r:List (List Rel))(hm:Is (DS s_) r):Zj prog 32 [.l (s_.map (Z6 (Z6 Rel.enc)))] (.l (r.map (Z6 Rel.enc))):=by
 obtain⟨hl,hm⟩:=hm.chk;obtain rfl:=Zh hm;refine Zj.of_heap ?_;have hX:s_.map (Z6 (Z6 Rel.enc))=(s_.map (·.map (Z6 Rel.enc))).map λxs=>[D.sl xs]:=by simp[Z6]
 have hF:(s_.map (·.map (Z6 Rel.enc))).flatten=s_.flatten.map (Z6 Rel.enc):=by simp[XA]
 refine Qv HS.init _ (s_.map (·.map (Z6 Rel.enc))) (.inl (by rw[<-hX])) (λxs ab x hx=>?_) (by rw[hF,Yh];exact hl) _ (λc' h' aa _ _=>?_);obtain⟨ys,_,rfl⟩:=Yi.1 ab;obtain⟨y,_,rfl⟩:=Yi.1 hx;rfl;rw[hF] at aa;exact aa.frz (Yh _) (λt ht=>by obtain⟨y,_,rfl⟩:=Yi.1 ht;rfl) (λi x t hx ht=>by rw[Y8] at hx;rw[ht] at hx;simp only[Yj,Ya] at hx;subst hx;exact IZ)
theorem Rk(h:HS)(n:Nat)(hn:n<=2097152)(K:V->HS->Prop)
  (hk:∀c' h',MR h' 3 c' []->Z0 h h' []->(∀l∈labs c',h.ep<=l.1/\l.1<h'.ep)->K (.one c') h'):
  Z3 prog 245 [.one .nil,.i (n:Int)] h K:=by
 refine Z3.ov Tryz.func245 ?_;simp;have h0:¬((n:Int)<0):=oM
 have hw:IntKind.i64.wrap ((n:Int)-0)=(n:Int):=by rw[Int.sub_zero];exact Y5 _ oM
 have hw0:IntKind.i64.wrap 0=0:=Y5 _ oM;have aa:IntKind.i64.wrap (n:Int)=(n:Int):=Y5 _ oM
 try simp[h0]
 refine Di Wv ?_;simp[hw,hw0,aa];refine WR (λhp=>?_) (λhp=>?_);simp[hw,hw0,aa];refine Di Wv ?_;simp[hw,hw0,aa];refine Jk Wv dE (kk:=.i64) rfl kR dE dE oM (by show(n:Int)<=2097152;omega) (λcap' hcap=>?_);have hc0:0<cap':=oM
 simp at hcap;simp[hw0,aa,hc0];refine hk _ _ ⟨Zr.nil,sI,.inr ⟨(h.ep,352),cap',List.replicate (cap'*3) .any,sI,by simp[Z8],by simp[Z8]⟩⟩ ((Z0.refl.qA (.inr (Y7 _))).next) (by simp[labs]);simp;exact hk _ _ MR.nil .refl (by simp[labs])
theorem QV(h:HS)(c:C)(aa:List (List (List D)))(hc:c=.d (.sl (aa.map λxs=>[.sl xs]))\/∃lab,c=.own lab (aa.map λxs=>[.sl xs]))(hall:∀xs∈aa,∀x∈xs,x.length=3)(hl:aa.flatten.length<=2097152)(K:V->HS->Prop)
  (hk:∀c' h',MR h' 3 c' (aa.flatten.map (·.map C.d))->Z0 h h' []->(∀l∈labs c',h.ep<=l.1/\l.1<h'.ep)->K (.one c') h'):
  Z3 prog 227 [.one c] h K:=by
 refine Z3.ov Tryz.func227 ?_;simp;have aj:c.qE=some (aa.map λxs=>[.sl xs]):=by rcases hc with rfl|⟨lab,rfl⟩<;>rfl
 refine As aj (λhX=>?_);simp only[Yh] at hX;have ax:aa.length<=2097152:=hX;simp;refine Z4.rounds (λn e h'=>∃i,n=aa.length-i/\i<=aa.length/\h'=h/\e.n=36/\e.get 0=.one c/\e.get 9=.one c/\e.get 10=.i (aa.length:Int)/\e.get 11=.i (i:Int)/\e.get 3=.i (WJ aa i:Int)) aa.length
  ⟨0,rfl,oM,rfl,sI,sI,sI,sI,sI,by simp[J1]⟩ ?_
 rintro n e h' ⟨i,rfl,hi,rfl,hn,h0,h9,ab,ae,h3⟩;simp[h0,h9,ab,ae,h3,hn];refine WR (λhlt=>?_) (λhge=>?_)
 .have ah:IntKind.i64.wrap ((i:Int)+1)=(i:Int)+1:=Y5 _ oM;obtain⟨x,hx⟩:∃x,aa[i]?=some x:=⟨_,Y1 hlt⟩;have hs2:=JE aa (i+1);have hs3:=J2 hx;have ar:IntKind.i64.wrap ((WJ aa i:Int)+(x.length:Int))=(WJ aa (i+1):Int):=by rw[hs3,Int.natCast_add];exact Y5 _ oM
  have ak:¬((WJ aa (i+1):Int)<0):=oM;have hi0:(0:Int)<=(i:Int):=oM;rcases hc with rfl|⟨lab,rfl⟩
  all_goals
   simp[h0,h9,ab,ae,h3,hn,hx,hi0];intro hxl;simp[h0,h9,ab,ae,h3,hn,ah,ar,ak];exact Ud.of (n':=aa.length-(i+1)) oM ⟨i+1,rfl,oM,rfl,by simp[hn],by simp[h0],by simp[h9],by simp[ab],sI,sI⟩
 obtain rfl:i=aa.length:=oM;have hl':WJ aa aa.length<=2097152:=by rw[Jj];exact hl
 simp[h0,h3,hn];refine Za (Rk h' (WJ aa aa.length) hl' _ (λc1 h1 aq al am=>?_));simp[h0,hn];refine As aj (λhX=>?_);simp[h0,hn];refine Z4.rounds (λn e h2=>∃(i:Nat) (c2:C),n=aa.length-i/\i<=aa.length/\MR h2 3 c2 ((aa.take i).flatten.map (·.map C.d))/\Z0 h' h2 []/\(∀l∈labs c2,h'.ep<=l.1/\l.1<h2.ep)/\e.n=36/\e.get 25=.one c/\e.get 26=.i (aa.length:Int)/\e.get 27=.i (i:Int)/\e.get 6=.one c2) aa.length ?_ ?_;exact⟨0,c1,rfl,oM,(aq.frame (λ_ _=>rfl)),al,am,by simp[hn],by simp[h0,hn],by simp[hn],by simp[hn],by simp[hn]⟩;clear h0 h9 ab ae h3 hn hi hge;rintro n e h2 ⟨i,c2,rfl,hi,hm2,hs2,hl2,hn,ad,ac,ag,h6⟩;simp[ad,ac,ag,h6,hn];refine WR (λhlt=>?_) (λhge=>?_)
 .have ah:IntKind.i64.wrap ((i:Int)+1)=(i:Int)+1:=Y5 _ oM;obtain⟨x,hx⟩:∃x,aa[i]?=some x:=⟨_,Y1 hlt⟩;have af:=H3 hx;have au:=H4 aa (i+1);have aw:(aa.take (i+1)).flatten.length=(aa.take i).flatten.length+x.length:=by rw[af,Ye]
  have hi0:(0:Int)<=(i:Int):=oM;have hrd:Zk h2 3 (.d (.sl x)) (x.map (·.map C.d)):=Zk.data (hall x (Y4 hx)) (by show x.length<=2097152;omega);rcases hc with rfl|⟨lab,rfl⟩
  all_goals
   simp[ad,ac,ag,h6,hn,hx,hi0];refine W5 Wv kR dE dE hm2 hrd (by simp only[Yh];show _<=2097152;omega) (λc3 h3 hm3 hs3 ap=>?_);simp[ad,ac,ag,hn,ah];refine Ud.of (n':=aa.length-(i+1)) oM ⟨i+1,c3,rfl,oM,?_,hs2.trans' hs3 (λk hk=>.inr (hl2 k hk).1),?_,by simp[hn],by simp[ad],by simp[ac],sI,sI⟩;rw[af,YP];exact hm3;intro k hk;rcases ap k hk with h9|h9
   have:=hl2 k h9
   have:=hs3.1
   omega
   have:=hs2.1
   omega
 obtain rfl:i=aa.length:=oM;rw[Yp] at hm2;simp[h6,hn];exact hk _ _ hm2 hs2 hl2
def DZ(s_:List (List GV)):Option (List GV):=Zp (s_.flatten.length<=2097152) (some s_.flatten)
theorem E6(s_:List (List GV))(r:List GV)(hm:Is (DZ s_) r):Zj prog 227 [.l (s_.map (Z6 GV.enc))] (.l (r.map GV.enc)):=by
 obtain⟨hl,hm⟩:=hm.chk;obtain rfl:=Zh hm;refine Zj.of_heap ?_;have hX:s_.map (Z6 GV.enc)=(s_.map (·.map GV.enc)).map λxs=>[D.sl xs]:=by simp[Z6]
 have hF:(s_.map (·.map GV.enc)).flatten=s_.flatten.map GV.enc:=by simp[XA]
 refine QV HS.init _ (s_.map (·.map GV.enc)) (.inl (by rw[<-hX])) (λxs ab x hx=>?_) (by rw[hF,Yh];exact hl) _ (λc' h' aa _ _=>?_);obtain⟨ys,_,rfl⟩:=Yi.1 ab;obtain⟨y,_,rfl⟩:=Yi.1 hx;rfl;rw[hF] at aa;exact aa.frz (Yh _) (λt ht=>by obtain⟨y,_,rfl⟩:=Yi.1 ht;rfl) (λi x t hx ht=>by rw[Y8] at hx;rw[ht] at hx;simp only[Yj,Ya] at hx;subst hx;exact IZ)
theorem Rc(h:HS)(c:C)(xs:List (List C))(hr:Zk h 3 c xs)(K:V->HS->Prop)
  (hk:∀c' h',MR h' 3 c' xs->Z0 h h' []->(∀l∈labs c',h.ep<=l.1/\l.1<h'.ep)->Zo h h'->K (.one c') h'):
  Z3 prog 89 [.one c] h K:=by
 have F:=Tryz.func89;have EL:=@Wv;exact EY
theorem QA(h:HS)(c:C)(xs:List (List C))(ts:List (List D))(g:FuncId)(caps:List Cap)(aa:List (List D))(p:List D->Bool)(i0:Int)(hm:MR h 1 c xs)(hlab:∀k∈labs c,k.1<h.ep)(hl:xs.length=ts.length)
  (ht:∀t∈ts,t.length=1)(hf:∀h',Z0 h h' (labs c)->∀(i:Nat) (x:List C) (t:List D),xs[i]?=some x->ts[i]?=some t->Zx h' x t)
  (hcv:∀h',Z0 h h' (labs c)->VN h' (caps.map WX) (We aa))(hcf:LendC h (.fn g caps) (.fn g aa))
  (hp:∀t∈ts,Zj prog g (PE t::We aa) (.b (p t)))
  (hidx:Zj prog 129 [.l ts,.one (.fn g aa)] (.i i0))(hi0:i0=match ts.findIdx? p with|some i=>(i:Int)|none=>-1)(K:V->HS->Prop)
  (hk:∀c' h',MR h' 1 c' (keep p xs ts)->Z0 h h' (labs c)->labs c'=labs c->K (.one c') h'):
  Z3 prog 247 [.one c,.one (.fn g caps)] h K:=by
 have F:=Tryz.func247;have EL:=@ZQ;have ZE:=@Ki;obtain⟨B,hB⟩:∃B,B=HM 1:=⟨_,rfl⟩;exact He
theorem Rl(h:HS)(c:C)(xs:List (List C))(i j:Nat)(hm:MR h 1 c xs)(hij:i<=j)(hj:j<=xs.length)(K:V->HS->Prop)
  (hk:∀c' h',MR h' 1 c' (xs.take i++xs.drop j)->(∀l,l∉labs c->h'.box l=h.box l)->h'.ep=h.ep->h'.arr=h.arr->labs c'=labs c->K (.one c') h'):
  Z3 prog 92 [.one c,.i i,.i j] h K:=by
 have F:=Tryz.func92;have EL:=@ZQ;have ZE:=@Ki;exact Fo
theorem QU(h:HS)(c:C)(xs:List (List C))(i j:Nat)(hm:MR h 3 c xs)(hij:i<=j)(hj:j<=xs.length)(K:V->HS->Prop)
  (hk:∀c' h',MR h' 3 c' (xs.take i++xs.drop j)->(∀l,l∉labs c->h'.box l=h.box l)->h'.ep=h.ep->h'.arr=h.arr->labs c'=labs c->K (.one c') h'):
  Z3 prog 224 [.one c,.i i,.i j] h K:=by
 have F:=Tryz.func224;have EL:=@Wv;have ZE:=@NM;exact Fo
theorem Sr{h:HS}{lv l:Z2}{vs:List (List D)}{nv ev off k cap:Nat}{cs:List C}(ha:h.arr lv=some (nv,ev))(ap:0<nv)(hb:h.box l=some cs)(h0:0<cs.length):
  Dz prog 123 [.one (.own lv vs),.one (.mrow l off k cap)] h (.b false):=by
 intro Γ μ w vals hI hR;obtain⟨ag,hg⟩:=hR;obtain⟨u0,al,r0⟩:=hg 0 _ rfl;obtain⟨u1,ah,r1⟩:=hg 1 _ rfl;have hv:vals=#[u0,u1]:=by
  apply XB;intro i
  match i with
  |0=>simpa using al
  |1=>simpa using ah
  |i+2=>rw[X3 (by simp at ag;omega)];simp
 subst hv;obtain⟨_,g,ab,af,rfl⟩:=(show ZX μ (.own lv vs) u0 from r0);obtain⟨b,kk,hl,rfl,_⟩:=(show ZX μ (.mrow l off k cap) u1 from r1);refine⟨.bool false,?_,RepD.bool _⟩;rw[run_callFunc_extern (fn:=Tryz.f123) Tryz.func123 kR kR kR (e:=Extern.SlicesOverlaps.overlaps #[85,85] #[4]) kR];obtain⟨b2,n2,T2,aa,hl2,_,aj,ak,_⟩:=hI.box l cs hb;rw[hl] at hl2;cases hl2;obtain⟨gc,ae,ac⟩:=hI.arr lv ev nv ha;rw[af] at ae;cases ae;cases g with|none=>?_|some g=>?_
 have:=(ac.1 rfl).2
 omega;obtain⟨_,T1,cur,ad,_⟩:=ac.2 g rfl;have hne:g≠b:=by
  rintro rfl
  have:=hI.inj lv l g ab kk (.inr (by rw[ha];simp)) (.inl (by rw[hb];simp)) af hl
  subst this;exact hI.both lv (by rw[hb];simp) (by rw[ha];simp)
 have am:aa.size=cs.length:=ak.1;obtain⟨i,z,hu,hi,ag,_⟩:=Un ZQ;show Result.andThen (Sem.run prog (Extern.SlicesOverlaps.overlaps #[85,85] #[4] #[.slice (some ⟨g,0,none⟩) vs.length ab,.slice (some ⟨b,off,none⟩) k cap]) w) _=_;rw[Lib.run_overlaps_apart w 85 4 52 hu i.size (λw=>by simp[sizeOf,typeInfo,hi]) ⟨g,0,none⟩ ⟨b,off,none⟩ vs.length ab k cap hne T1 T2 cur.size aa.size (by simp[World.shape?,ad]) (by simp[World.shape?,aj]) oM (by simp[World.frozen?,ad]) (by simp[World.frozen?,ad])];rfl
def Zn(rs:List C):List (List C):=rs.map λr=>[r]
theorem Nn:∀rs:List C,(Zn rs).flatten=rs
 |[]=>rfl
 |r::rs=>by
   have:=Nn rs
   simp only[Zn] at this;simp[Zn,this]
theorem Z51(rs:List C):Zr 1 (Zn rs):=by intro x hx;obtain⟨y,_,rfl⟩:=Yi.1 hx;rfl
theorem Hb(rs:List C):(Zn rs).length=rs.length:=by simp[Zn]
theorem F8(rs sp:List C):Z8 (Zn rs) sp=rs++sp:=by rw[Z8,Nn]
theorem Hl{h:HS}{l:Z2}{cap:Nat}{rs sp:List C}(hb:h.box l=some (rs++sp))(hl:rs.length+sp.length=cap)(hlim:rs.length<=2097152):MR h 1 (.mrow l 0 rs.length cap) (Zn rs):=
 ⟨Z51 rs,by rw[Hb];exact hlim,.inr ⟨l,cap,sp,by rw[Hb],by rw[F8];exact hb,by rw[F8];simp[hl]⟩⟩
theorem J8{h:HS}{l:Z2}{cs:List C}{off k cap:Nat}(hb:h.box l=some cs)(hk:off+k<=cs.length):Wg h 1 (.mrow l off k cap)=some ((cs.drop off).take k):=by simp only[Wg,hb,Zl,Nat.mul_one];rw[if_pos sO]
theorem AQ{a b vs:List C}{n:Nat}(hn:n=a.length):Zg (a++b) n vs=a++vs++b.drop vs.length:=by subst hn;simp[Zg,Yy]
theorem Bk{P:Program}{ty el:TypeId}{n ad off k cap m mk:Nat}{l:Z2}{x:C}{h:HS}{new cs cs':List C}{f:V->HS->Prop}(ac:Zv P ty=some (el,n,ad))(hx:Wg h n x=some new)(hm:ZW x=some m)(hb:h.box l=some cs)(h0:0<n)(ab:new.length=m*n)(aa:off+k*n<=cs.length)
  (ae:min m k=mk)(af:Zg cs off (new.take (mk*n))=cs')(hk:f (Wk .i64 (mk:Int)) (h.qA l cs')):FA P ty (.mrow l off k cap) x h (K:=⟨f⟩):=by
 unfold FA AS;simp only[ac,hx,hm,hb];refine⟨⟨h0,ab,aa⟩,?_⟩;rw[ae,af];exact hk
set_option maxHeartbeats 2000000 in
theorem Rj(h:HS)(c:C)(rs:List C)(lv:Z2)(d:List D)(i:Nat)(hm:MR h 1 c (Zn rs))(ax:∀k∈labs c,k.1<h.ep)(hi:i<=rs.length)(ha:h.arr lv=some (1,1))(hd:d.length=1)(hlim:rs.length+1<=2097152)(K:V->HS->Prop)
  (hk:∀c' h',MR h' 1 c' (Zn (rs.take i++d.map C.d++rs.drop i))->Z0 h h' (labs c)->(∀k∈labs c',k∈labs c\/(h.ep<=k.1/\k.1<h'.ep))->K (.one c') h'):
  Z3 prog 91 [.one c,.i (i:Int),.one (.own lv [d])] h K:=by
 obtain⟨v,rfl⟩:∃v,d=[v]:=by
  match d,hd with
  |[v],_=>exact⟨v,rfl⟩
 refine Z3.ov Tryz.func91 ?_;rcases hm.2.2 with⟨h1,bb⟩|⟨l,cap,sp,rfl,hb,hcap⟩
 .have az:rs=[]:=by simpa[Zn] using h1
  subst az;obtain rfl:i=0:=by simpa using hi
  rcases bb with rfl|rfl
  all_goals
   simp;refine W5 ZQ kR dE dE hm (Zk.qU rfl) (by simp[Zn]) (λc' h' af ag hl'=>?_);simp;exact hk _ _ (by simpa[Zn] using af) ag hl'
 rw[F8] at hb hcap;rw[Hb] at hm hk|-;simp only[Ye,Nat.mul_one] at hcap;simp;refine WM ⟨oM,oM⟩ (λ_=>?_) (λ_=>?_)
 all_goals
  simp;refine Aq (λhe=>?_) (λhe=>?_);have ak:i=rs.length:=by simp at he;omega
  subst ak;simp;refine W5 ZQ kR dE dE hm (Zk.qU rfl) (by simp[Zn];omega) (λc' h' af ag hl'=>?_);simp;exact hk _ _ (by simpa[Zn] using af) ag hl';have ak:i<rs.length:=by
   have:(i:Int)≠rs.length:=by simpa using he
   omega
  have aa:IntKind.i64.wrap ((rs.length:Int)+1)=(rs.length:Int)+1:=Y5 _ oM;have ab:IntKind.i64.wrap ((i:Int)+1)=(i:Int)+1:=Y5 _ oM;simp[aa];refine NC ZQ ?_;simp[aa,ab];refine WR (λhlt=>?_) (λhge=>?_);have bc:cap<rs.length+1:=oM
  have hic:i<=cap:=oM;have hc0:0<cap:=oM;have ac:IntKind.i64.wrap ((rs.length:Int)+1-i)=(rs.length:Int)+1-i:=Y5 _ oM;simp[aa,ab,ac];refine WM oM (λ_=>?_) (λh9=>absurd hc0 (by simpa using h9));simp[aa,ab,ac];have hN:i+((rs.length:Int)+1-i).toNat=rs.length+1:=oM
  refine N6 ZQ dE (kk:=.i64) rfl kR dE dE oM (by show(i:Int)+_<=2097152;omega) oM (old:=rs.take i) (by rw[J8 hb sO,Xx,X0 hi]) sO (λcap' am=>?_);rw[hN] at am|-;have ar:i<cap':=oM
  simp[aa,ab,ac];refine WM oM (λ_=>?_) (λh9=>absurd ar (by simpa using h9));simp[aa,ab,ac];have ah:(rs.take i).length=i:=sO
  have hlen:(rs.take i++[C.d v]++rs.drop i).length=rs.length+1:=sO;have hz:(0:Int)<=(i:Int)+1:=oM;refine Bk (n:=1) (new:=[.d v]) (m:=1) (mk:=1) (cs':=rs.take i++[.d v]++List.replicate (cap'-i-1) .any) ZQ (by simp[Wg,C.qE]) (by simp[ZW,C.qE]) (by simp;rfl) dE rfl sO oM (by rw[AQ ah.symm];simp) ?_;simp[aa,ab,ac];refine Z4.cu [0,1,2,3,4,5,6,7,8] (λe1 h1=>e1.n=95/\e1.get 9=.one (.mrow (h.ep,640) 0 (rs.length+1) cap')/\h1.box (h.ep,640)=some (rs.take i++[.d v]++rs.drop i++List.replicate (cap'-(rs.length+1)) .any)/\Z0 h h1 []/\h.ep<h1.ep) ?_ ?_;simp[aa,ab,ac];simp only[hz,if_true];refine WM sO (λ_=>?_) (λh9=>absurd (oM:i+1<cap') (by simpa using h9));simp[aa,ab,ac];refine WM oM (λ_=>?_) (λh9=>absurd (oM:i<cap) (by simpa using h9));simp[aa,ab,ac];have aq:l.1<h.ep:=ax l (by simp[labs]);have hne:l≠(h.ep,640):=by rintro rfl;simp at aq
  have ae:(rs.take i++[C.d v]).length=i+1:=sO;have a7:((rs++sp).drop i).take (rs.length-i)=rs.drop i:=by rw[Xa hi,X0 sI];exact Yr sI
  refine Bk (n:=1) (new:=rs.drop i) (m:=rs.length-i) (mk:=rs.length-i) (cs:=rs.take i++[.d v]++List.replicate (cap'-i-1) .any) (cs':=rs.take i++[.d v]++rs.drop i++List.replicate (cap'-(rs.length+1)) .any) ZQ
   (by rw[J8 (cs:=rs++sp) (by simp[hne,hb]) sO,a7]) rfl sI dE sI sO oM ?_ ?_
  have e9:cap'-i-1-(rs.length-i)=cap'-(rs.length+1):=oM;have aj:(rs.drop i).take ((rs.length-i)*1)=rs.drop i:=Yr sI;rw[aj,AQ ae.symm];simp[e9];refine Zb.of ?_;simp;exact(((Z0.refl.qA (.inr sI)).next).qA (.inr sI)).qA (.inr sI);rintro e1 h1 ⟨hn,h9,ap,al,be⟩;simp[hn,h9];refine hk _ _ ?_ (al.mn) (by simp[labs];exact .inr oM)
  have:=Hl (cap:=cap') ap sO sO
  rw[hlen] at this;simpa using this;have bd:rs.length+1<=cap:=oM
  have hic:i<cap:=oM;have hz:(0:Int)<=(rs.length:Int)+1:=oM;have ad:(0:Int)<=(i:Int)+1:=oM;have hN:((rs.length:Int)+1).toNat=rs.length+1:=oM;simp[aa,ab,hz,ad,hN];refine WM oM (λ_=>?_) (λh9=>absurd (oM:0<cap) (by simpa using h9));simp[aa,ab,hz,ad,hN];refine WM oM (λ_=>?_) (λh9=>absurd (oM:i+1<cap) (by simpa using h9));simp[aa,ab,hz,ad,hN];refine P0 (Sr ha dE hb sO) ?_;simp[aa,ab,hz,ad,hN];obtain⟨s0,sp1,a8⟩:∃s0 sp1,sp=s0::sp1:=by
   match sp,hcap with
   |[],h9=>simp at h9;omega
   |s0::sp1,_=>exact⟨s0,sp1,rfl⟩
  subst a8;simp only[YN] at hcap;have aq:l.1<h.ep:=ax l (by simp[labs]);have ah:(rs.take i).length=i:=sO
  have ae:(rs.take (i+1)).length=i+1:=sO;have aw:((rs++s0::sp1).drop i).take (rs.length+1-i)=rs.drop i++[s0]:=by
   rw[Xa hi,List.take_append];rw[Yr sO]
   have:rs.length+1-i-(rs.drop i).length=1:=sO
   rw[this];rfl
  refine Z4.cu [0,1,2,3,4,5,6,7,8] (λe1 h1=>e1.n=95/\e1.get 0=.one (.mrow l 0 (rs.length+1) cap)/\e1.get 1=.i (i:Int)/\e1.get 2=.one (.own lv [[v]])/\h1.box l=some (rs.take (i+1)++rs.drop i++sp1)/\Z0 h h1 [l]) ?_ ?_;simp[aa,ab,hz,ad,hN];refine WM oM (λ_=>?_) (λh9=>absurd (oM:i+1<cap) (by simpa using h9));simp[aa,ab,hz,ad,hN];refine WM oM (λ_=>?_) (λh9=>absurd (oM:i<cap) (by simpa using h9));simp[aa,ab,hz,ad,hN];refine Bk (n:=1) (new:=rs.drop i++[s0]) (m:=rs.length+1-i) (mk:=rs.length-i) (cs:=rs++s0::sp1) (cs':=rs.take (i+1)++rs.drop i++sp1) ZQ
   (by rw[J8 (cs:=rs++s0::sp1) (by simp[hb]) sO,aw]) rfl (by simp[hb]) dE sO sO oM ?_ ?_
  have aj:(rs.drop i++[s0]).take ((rs.length-i)*1)=rs.drop i:=by rw[Nat.mul_one,X0 sI,Yr sI]
  have ay:rs++s0::sp1=rs.take (i+1)++(rs.drop (i+1)++s0::sp1):=by rw[<-Yy,YI]
  have ba:(rs.drop (i+1)++s0::sp1).drop (rs.drop i).length=sp1:=by
   have:(rs.drop i).length=(rs.drop (i+1)).length+1:=sO
   rw[this,<-Xb,XI];rfl
  rw[aj,ay,AQ ae.symm,ba];refine Zb.of ?_;simp;exact Z0.refl.qA (.inl sI);rintro e1 h1 ⟨hn,h0,au,h2,ap,al⟩;simp[hn,h0,au,h2];refine WM oM (λ_=>?_) (λh9=>absurd hic (by simpa using h9));simp[hn,h0,au,h2];refine Bk (n:=1) (new:=[.d v]) (m:=1) (mk:=1) (cs:=rs.take (i+1)++rs.drop i++sp1) (cs':=rs.take i++[.d v]++rs.drop i++sp1) ZQ (by simp[Wg,C.qE]) (by simp[ZW,C.qE]) (by simp[ap]) dE rfl sO oM ?_ ?_;have a1:rs.take (i+1)++rs.drop i++sp1=rs.take i++(rs[i]::(rs.drop i++sp1)):=by rw[Yl ak,Yy,Yy];rfl
  rw[a1,AQ ah.symm];simp;simp[hn,h0];refine hk _ _ ?_ ((al.qA (.inl sI)).mono (by simp[labs])) (by simp[labs]);have hlen:(rs.take i++[C.d v]++rs.drop i).length=rs.length+1:=sO
  have:=Hl (h:=h1.qA l (rs.take i++[C.d v]++rs.drop i++sp1)) (l:=l) (cap:=cap) (rs:=rs.take i++[C.d v]++rs.drop i) (sp:=sp1) sI (by rw[hlen];omega) (by rw[hlen];omega)
  rw[hlen] at this;simpa using this
def CC(s_:List GV):Option (List GV):=some s_
theorem CE(s_:List GV)(r:List GV)(hm:Is (CC s_) r):Zj prog 89 [.one (.d (.sl (s_.map GV.enc)))] (.one (.fresh 0 3 (r.map GV.enc))):=by
 obtain rfl:=Zh hm;refine Hz ⟨_,Tryz.func89,by kernel_rfl,by kernel_rfl⟩ (λhl=>?_);have hxs:∀x∈s_.map GV.enc,x.length=3:=by intro x hx;obtain⟨y,_,rfl⟩:=Yi.1 hx;rfl
 generalize s_.map GV.enc=xs at*;refine Zj.qN Tryz.func89 rfl (by kernel_rfl) (n:=8) rfl rfl (by simp) ?_;simp;refine EU Wv rfl (xs:=xs) rfl (λb hb=>?_);cases b with
 |true=>
   have:xs=[]:=Classical.byContradiction λh=>by simpa using hb h
   subst this;simp;exact Aj (by simpa using U6.nil)
 |false=>
   simp;refine D6 (by simp) ?_;simp;refine U3 Wv (Zi.own (by simp) (by simp) (by simp)) rfl (by decide) (by decide) hxs (by simpa using hl) ?_;simp;exact Aj (by simpa using U6.app (by simp) (by simp) hxs rfl)
instance Ls(s_:List GV):Con (CC s_) prog 89 [.one (.d (.sl (s_.map GV.enc)))] (λr=>.one (.fresh 0 3 (r.map GV.enc))):=⟨λr hm=>CE s_ r hm⟩
end
end Go.Am
