/- joined by a program out of 34 texts -/
import Derived.Test.YthiojhcimecdgaaGreatDoorL4
set_option linter.unusedVariables false
set_option linter.unusedSimpArgs false
set_option maxRecDepth 20000
namespace Go.Proofs.YthiojhcimecdgaaGreatDoor
section
open Go Go.Am
def Zhj (S:Sch) (T O:Tbl) (j:Nat) (col:Int) (_:Unit) (next:Unit→Option (Sch × Int)):Option (Sch × Int):=
 getK T.cols col fun a=>getK O.cols (j:Int) fun b=>bif a.kind != b.kind then some (S,9) else next ()
def Zhg (name tn:ByteArray) {ρ:Type} (k:Nat) (S:Sch) (next:Sch→Option ρ):Option ρ:=
 getK S.fks (k:Int) fun f=>bif strEq f.table name then next { S with fks:=S.fks.set k ⟨tn,f.cols,f.ref⟩ } else next S
def Zhf (name tn:ByteArray) {ρ:Type} (k:Nat) (S:Sch) (next:Sch→Option ρ):Option ρ:=
 getK S.cons (k:Int) fun c=>bif strEq c.table name then next { S with cons:=S.cons.set k { c with table:=tn } } else next S
def Zdg (T O:Tbl) (i j:Nat) (S:Sch):Option (Sch × Int):=
 chkK (T.pk.length≤O.cols.length∧0 < O.cols.length∧0 < T.cols.length∧T.cols.length+O.cols.length≤LIM) (some ({ S with tables:=(S.tables.set i { T with cols:=T.cols++O.cols.drop T.pk.length }).take j++(S.tables.set i { T with cols:=T.cols++O.cols.drop T.pk.length }).drop (j+1) },0))
def Z3j (S:Sch) (i:Nat) (name:ByteArray):Option (Sch × Int):=
 bindK (Z05 S name) fun v=>bif !v.2 then some (S,4) else getK S.tables (i:Int) fun T=>getK S.tables v.1 fun O=>bif ((i:Int) == v.1) then some (S,9) else
 bindK (Z19 O.pk (seqI T.pk.length)) fun b=>bif !b then some (S,9) else
 forK (Zhj S T O) (fun _=>bindK (Z0g S ⟨name,seqI T.pk.length,T.name⟩) fun q=>bif q.2 != 0 then some (q.1,10) else
  bindK (Z07 q.1.fks fun fk=>Z2x fk name) fun b=>bif b then some (q.1,10) else
  bindK (Z0v q.1 name fun c=>Z23 c T.pk.length T T.cols.length) fun S2=>
  countK (Zhg name T.name) (fun S3=>countK (Zhf name T.name) (Zdg T O i v.1.toNat) S3.cons.length 0 S3) S2.fks.length 0 S2) T.pk 0 ()
set_option maxHeartbeats 2000000 in
theorem Z8m (h:HS) (l:Lab) (tc fc oc:C) (ta fa oa:List Lab) (S S':Sch) (i:Nat) (name:ByteArray) (r:Int) (hm:Is (Z3j S i name) (S',r)) (s:Sc h l S tc fc oc ta fa oa) (K:V→HS→Prop)
  (hk:KeepS h l (ta++(fa++oa)) S' (.one (.d (.int .i64 r))) K) :
  HSpec Tryz.prog 161 [.one (.ptr l 0),.one (.d (.int .i64 (i:Int))),.one (.d (.str name))] h K:=by
 replace hm:=hm.bind;obtain⟨v,hv,hm⟩:=hm;have hs0:Same h ((h.setBox (h.ep,80) [.d (.str name)]).next) []:=(Same.refl.setBox (.inr (Nat.le_refl _))).next;have s0:=s.frame hs0;have hb0:=s0.box;have bx5:(h.setBox (h.ep,80) [.d (.str name)]).next.box (h.ep,80)=some [.d (.str name)]:=by simp
 refine HSpec.of_vc Tryz.func161 rfl (by kernel_rfl) (n:=188) rfl rfl (by simp) ?_;have hbs:=s.box;have hep:h.ep < ((h.setBox (h.ep,80) [.d (.str name)]).next).ep:=by simp
 simp;generalize (h.setBox (h.ep,80) [.d (.str name)]).next=HX at *;refine Wait.cut (Plan.then_ [0,1,2,3,4,5,6,7,8,9] .done) follows (by kernel_rfl) (fun e h'=>e.n=188∧e.get 0=.one (.ptr l 0)∧e.get 1=.one (.d (.int .i64 (i:Int)))∧e.get 5=.one (.ptr (h.ep,80) 0)∧e.get 7=.one (.d (.int .i64 v.1))∧e.get 8=.one (.d (.bool v.2))∧Same HX h' []) ?_ ?_
 ·simp[hb0,bx5,Plan.then_,vcPlan,Z02,Z00,callKind];refine Z01 (HSpec.of_lend (c_schema_FindTable S name v hv) ⟨.agg s0.frz,.one (.frz (.data rfl)),trivial⟩ rfl ?_);simp;exact⟨fun _ _ x=>x,CutK.of (by simp[Same.refl.next])⟩
 ·rintro e h1 ⟨hn,h0,h1',h5,h7,h8,hs1⟩;have bx5':h1.box (h.ep,80)=some [.d (.str name)]:=by rw[hs1.2 _ hep (by simp)];exact bx5
  have s1:=s0.frame hs1;have hb1:=s1.box;have hy:=hs0.trans hs1;simp[hn,h8];cases hv2:v.2 with
  | false=>
    rw[hv2] at hm;have e1:=r_ret hm;simp only[Prod.mk.injEq] at e1;obtain⟨rfl,rfl⟩:=e1;simp[hn];exact hk _ _ s1.ows (hy.mono (by simp)) (fun k hk=>.inl hk)
  | true=>
    simp only[hv2,Bool.not_true,cond_false] at hm;replace hm:=hm.getN;obtain⟨T,hi,hm⟩:=hm;replace hm:=hm.get;obtain⟨O,hv0,hj,hm⟩:=hm;obtain⟨j,hj1⟩:∃ j:Nat,v.1=j:=⟨v.1.toNat,by omega⟩;rw[hj1] at h7 hj hm;simp at hj;have hlt:i < S.tables.length:=(List.getElem?_eq_some_iff.1 hi).1;have hltj:j < S.tables.length:=(List.getElem?_eq_some_iff.1 hj).1;obtain⟨lt,c1,c2,B,tv⟩:=s1.tbl hi;obtain⟨cap,rfl⟩:=tv.hd;have bx:=tv.el.box;have r0:=tv.el.rd0 3 (by omega);have r1:=tv.el.rd 1 1 (by omega);have r2:=tv.el.rd 2 1 (by omega);simp at r0 r1 r2;obtain⟨d1,d2,tw⟩:=s1.tblK bx hj;have q0:=tw.el.rd0 3 (by omega);simp at q0;simp;refine Wait.cut (Plan.then_ [0,1,2,3,4,5,6,7,8,9,11] (.three 10 14 15 (Plan.then_ [12] (.three 13 14 15 (Plan.then_ [] (.two 14 15 (Plan.then_ [15,16,17] .done) (Plan.then_ [14,16,17] .done))) (Plan.then_ [] (.two 13 15 (Plan.then_ [15,16,17] .done) (Plan.then_ [] (.two 13 16 (Plan.then_ [16,17] .done) (Plan.then_ [13,17] .done))))) (Plan.then_ [] (.two 13 14 (Plan.then_ [14,16,17] .done) (Plan.then_ [] (.two 13 16 (Plan.then_ [16,17] .done) (Plan.then_ [13,17] .done))))))) (Plan.then_ [] (.two 10 15 (Plan.then_ [12] (.two 13 15 (Plan.then_ [15,16,17] .done) (Plan.then_ [] (.two 13 16 (Plan.then_ [16,17] .done) (Plan.then_ [13,17] .done))))) (Plan.then_ [] (.two 10 16 (Plan.then_ [12] (.two 13 16 (Plan.then_ [16,17] .done) (Plan.then_ [13,17] .done))) (Plan.then_ [10,12,13,17] .done))))) (Plan.then_ [] (.two 10 14 (Plan.then_ [12] (.two 13 14 (Plan.then_ [14,16,17] .done) (Plan.then_ [] (.two 13 16 (Plan.then_ [16,17] .done) (Plan.then_ [13,17] .done))))) (Plan.then_ [] (.two 10 16 (Plan.then_ [12] (.two 13 16 (Plan.then_ [16,17] .done) (Plan.then_ [13,17] .done))) (Plan.then_ [10,12,13,17] .done))))))) follows (by kernel_rfl) (fun e h'=>e.n=188∧e.get 0=.one (.ptr l 0)∧e.get 1=.one (.d (.int .i64 (i:Int)))∧e.get 5=.one (.ptr (h.ep,80) 0)∧e.get 7=.one (.d (.int .i64 (j:Int)))∧Same h1 h' [] ∧
     ∃ p9 p10:Lab,p9≠p10∧(h1.ep≤p9.1∧p9.1 < h'.ep)∧(h1.ep≤p10.1∧p10.1 < h'.ep)∧e.get 9=.one (.ptr p9 0)∧e.get 10=.one (.ptr p10 0)∧h'.box p9=some [.d (.str T.name),c1,c2]∧h'.box p10=some [.d (.str O.name),d1,d2]) ?_ ?_
    ·have hnl:=ne_new (s1.lt l (by simp));have hnt:=ne_new (s1.lt lt (by simp[tv.tm]));simp (maxDischargeDepth:=12) [hn,h0,h1',h5,h7,hb1,hlt,hltj,bx,r0,q0,hnl,hnt,le_s,Plan.then_,vcPlan,Z02,Z00,callKind]
     repeat' (with_reducible apply And.intro)
     all_goals first
      | (refine CutK.of ⟨?_,?_,?_,?_,?_,(((Same.refl.setBox (.inr ?_)).next.setBox (.inr ?_)).next.setBox (.inr ?_)).setBox (.inr ?_),(h1.ep,144),(h1.ep+1,160),?_,⟨?_,?_⟩,⟨?_,?_⟩,?_,?_,?_,?_⟩
         all_goals first
          | (simp[hn,h0,h1',h5,h7];done)
          | (simp<;>omega))
      | (refine CutK.of ⟨?_,?_,?_,?_,?_,(((Same.refl.setBox (.inr ?_)).next.setBox (.inr ?_)).next.setBox (.inr ?_)).setBox (.inr ?_),(h1.ep+1,144),(h1.ep,160),?_,⟨?_,?_⟩,⟨?_,?_⟩,?_,?_,?_,?_⟩
         all_goals first
          | (simp[hn,h0,h1',h5,h7];done)
          | (simp<;>omega))
    ·rintro e h2 ⟨hn,h0,h1',h5,h7,hs2,p9,p10,hp,hp9,hp10,h9,h10,b9,b10⟩;have s2:=s1.frame hs2;have hb2:=s2.box;have hy2:=hy.trans hs2;have bx52:h2.box (h.ep,80)=some [.d (.str name)]:=by rw[hs2.2 _ (Nat.lt_of_lt_of_le hep hs1.1) (by simp)];exact bx5'
     have bxl2:h2.box lt=some B:=by rw[hs2.2 _ (s1.lt lt (by simp[tv.tm])) (by simp)];exact bx
     have tT:∀ h',Same h2 h' []→TblV h' l S (.mrow lt 0 S.tables.length cap) fc oc ta fa oa i T lt c1 c2 B:=fun h' hs'=>by
      have e9:=hs'.2 lt (s2.lt lt (by simp[tv.tm])) (by simp);rw[bxl2] at e9;obtain⟨a1,a2,tv9⟩:=(s2.frame hs').tblK e9 hi;obtain⟨rfl,rfl⟩:a1=c1∧a2=c2:=by
       have:=tv9.el.rd0 3 (by omega)
       rw[r0] at this;simp at this;exact⟨this.1.symm,this.2.symm⟩
      exact tv9
     have tO:∀ h',Same h2 h' []→TblV h' l S (.mrow lt 0 S.tables.length cap) fc oc ta fa oa j O lt d1 d2 B:=fun h' hs'=>by
      have e9:=hs'.2 lt (s2.lt lt (by simp[tv.tm])) (by simp);rw[bxl2] at e9;obtain⟨a1,a2,tv9⟩:=(s2.frame hs').tblK e9 hj;obtain⟨rfl,rfl⟩:a1=d1∧a2=d2:=by
       have:=tv9.el.rd0 3 (by omega)
       rw[q0] at this;simp at this;exact⟨this.1.symm,this.2.symm⟩
      exact tv9
     simp[hn,h9,b9];refine Z1h tv.n2.1 ?_;simp[hn];have hz:Same h2 ((h2.setBox (h2.ep,176) [C.d (D.int IntKind.i64 0)]).next.setBox (h2.ep,176) [C.d (D.int IntKind.i64 T.pk.length)]) []:=((Same.refl.setBox (.inr (Nat.le_refl _))).next).setBox (.inr (Nat.le_refl _));generalize hX2:(h2.setBox (h2.ep,176) [C.d (D.int IntKind.i64 0)]).next.setBox (h2.ep,176) [C.d (D.int IntKind.i64 T.pk.length)]=HB at hz ⊢;have bb11:HB.box (h2.ep,176)=some [C.d (D.int IntKind.i64 T.pk.length)]:=by rw[← hX2];simp
     have hepB:h2.ep < HB.ep:=by rw[← hX2];simp
     have hyB:=hy2.trans hz;have bb9:HB.box p9=some [.d (.str T.name),c1,c2]:=by rw[hz.2 _ hp9.2 (by simp)];exact b9
     have bb10:HB.box p10=some [.d (.str O.name),d1,d2]:=by rw[hz.2 _ hp10.2 (by simp)];exact b10
     have hplim:T.pk.length≤LIM:=tv.n2.2;have hep1:h.ep < h1.ep:=Nat.lt_of_lt_of_le hep hs1.1;have hep12:=hs2.1;have bb5:HB.box (h.ep,80)=some [.d (.str name)]:=by rw[hz.2 _ (by simp<;>omega) (by simp)];exact bx52
     cases hij:(i:Int) == (j:Int) with
     | true=>
       simp only[hij,cond_true] at hm;have e1:=r_ret hm;simp only[Prod.mk.injEq] at e1;obtain⟨rfl,rfl⟩:=e1;refine Wait.cut (Plan.then_ [0,1,2,3,4,5,6,7,8,9,10] .done) follows (by kernel_rfl) (fun e h'=>e.n=188∧e.get 55=.one (.d (.bool true))∧h'=HB) ?_ ?_
       ·simp[hn,h1',h7,hij,Plan.then_,vcPlan,Z02,Z00,callKind];exact⟨BoxLe.refl _,CutK.of ⟨by simp[hn],by simp,rfl⟩⟩
       ·rintro e h3 ⟨hn,h55,rfl⟩;simp[hn,h55];exact hk _ _ (s.frame hyB).ows (hyB.mono (by simp)) (fun k hk=>.inl hk)
     | false=>
       simp only[hij,cond_false] at hm;replace hm:=hm.bind;obtain⟨b,hbv,hm⟩:=hm;have hij1:¬ (i:Int)=(j:Int):=by simpa using hij
       have hij2:¬ i=j:=by omega
       refine Wait.cut (Plan.then_ [0,1,2,3,4,5,6,7,8,9,10] .done) follows (by kernel_rfl) (fun e h'=>e.n=188∧e.get 0=.one (.ptr l 0)∧e.get 1=.one (.d (.int .i64 (i:Int)))∧e.get 5=.one (.ptr (h.ep,80) 0)∧e.get 7=.one (.d (.int .i64 (j:Int)))∧e.get 9=.one (.ptr p9 0)∧e.get 10=.one (.ptr p10 0)∧e.get 11=.one (.ptr (h2.ep,176) 0)∧e.get 55=.one (.d (.bool !b))∧Same HB h' []) ?_ ?_
       ·simp[hn,h1',h7,h10,hij,bb10,bb11,Plan.then_,vcPlan,Z02,Z00,callKind];refine Z01 (Z34 _ T.pk.length hplim _ (fun pc g mp hs3 hlp hbox=>?_));simp[hn];refine⟨hbox,?_⟩;rw[Z55] at mp;refine Z01 (HSpec.of_lend (c_slices_Equal_Int O.pk (seqI T.pk.length) b hbv) ⟨.one (.frz ((tO g (hz.trans hs3)).f2 _ .refl)),.one (.frz ((Ow.nrow (n:=1) mp rfl (by simp)).nfrz)),trivial⟩ rfl ?_);simp[hn];exact⟨fun _ _ x=>x,CutK.of ⟨by simp[hn],by simp[h0],by simp[h1'],by simp[h5],by simp[h7],by simp[h9],by simp[h10],by simp,by simp,hs3.next⟩⟩
       ·rintro e h3 ⟨hn,h0,h1',h5,h7,h9,h10,h11,h55,hs3⟩;have hz3:=hz.trans hs3;have hy3:=hy2.trans hz3;have s3:=s.frame hy3;simp[hn,h55];cases b with
        | false=>
          have e1:=r_ret hm;simp only[Prod.mk.injEq] at e1;obtain⟨rfl,rfl⟩:=e1;simp[hn];exact hk _ _ s3.ows (hy3.mono (by simp)) (fun k hk=>.inl hk)
        | true=>
          simp only[Bool.not_true,cond_false] at hm;have b93:h3.box p9=some [.d (.str T.name),c1,c2]:=by rw[hs3.2 _ (by omega) (by simp)];exact bb9
          have b103:h3.box p10=some [.d (.str O.name),d1,d2]:=by rw[hs3.2 _ (by omega) (by simp)];exact bb10
          have b113:h3.box (h2.ep,176)=some [C.d (D.int IntKind.i64 T.pk.length)]:=by rw[hs3.2 _ (by simpa using hepB) (by simp)];exact bb11
          have b53:h3.box (h.ep,80)=some [.d (.str name)]:=by rw[hs3.2 _ (by simp<;>omega) (by simp)];exact bb5
          simp[hn,h9,b93];refine Z1h tv.n2.1 ?_;simp[hn];have t3:=tT h3 hz3;have u3:=tO h3 hz3;refine Wait.for (xs:=T.pk) (s0:=()) (fun k _ e g=>e.n=188∧e.get 0=.one (.ptr l 0)∧e.get 1=.one (.d (.int .i64 (i:Int)))∧e.get 5=.one (.ptr (h.ep,80) 0)∧e.get 7=.one (.d (.int .i64 (j:Int)))∧e.get 9=.one (.ptr p9 0)∧e.get 10=.one (.ptr p10 0)∧e.get 11=.one (.ptr (h2.ep,176) 0)∧e.get 57=.one c2∧e.get 58=.one (.d (.int .i64 (T.pk.length:Int)))∧e.get 59=.one (.d (.int .i64 (k:Int)))∧g=h3) hm ⟨by simp[hn],by simp[h0],by simp[h1'],by simp[h5],by simp[h7],by simp[h9],by simp[h10],by simp[h11],by simp,by simp,by simp,rfl⟩ ?_ ?_
          ·rintro k _ e g ⟨hn,h0,h1',h5,h7,h9,h10,h11,h57,h58,h59,rfl⟩ hltk hm;simp only[Zhj] at hm;replace hm:=hm.get;obtain⟨ca,hca0,hca,hm⟩:=hm;replace hm:=hm.getN;obtain⟨cb,hcb,hm⟩:=hm;have hw:IntKind.i64.wrap ((k:Int)+1)=(k:Int)+1:=IntWalk.i64_in _ (by have h9':T.pk.length≤2097152:=hplim;omega);obtain⟨lp,cp,Bp,rfl,ep,-⟩:=t3.e2 k _ (List.getElem?_eq_getElem hltk);have bp:=ep.box;have rp:=ep.rd0 1 (by omega);obtain⟨n,hn1⟩:∃ n:Nat,T.pk[k]=n:=⟨(T.pk[k]).toNat,by omega⟩;rw[hn1] at rp hca;simp at rp hca;have hnl:n < T.cols.length:=(List.getElem?_eq_some_iff.1 hca).1;have hkl:k < O.cols.length:=(List.getElem?_eq_some_iff.1 hcb).1;obtain⟨l1,cp1,B1,rfl,el1,-⟩:=t3.e1 n ca hca;obtain⟨l2,cp2,B2,rfl,el2,-⟩:=u3.e1 k cb hcb;have bx1:=el1.box;have bx2:=el2.box;have q1:=el1.rd 1 1 (by omega);have q2:=el2.rd 1 1 (by omega);simp at q1 q2;simp[hn,h57,h58,h59,hltk,bp,rp];refine Wait.cut (Plan.then_ [0,1,2,3,4,5,6,7,8,9,10,11,12] .done) follows (by kernel_rfl) (fun e g'=>e.n=188∧e.get 0=.one (.ptr l 0)∧e.get 1=.one (.d (.int .i64 (i:Int)))∧e.get 5=.one (.ptr (h.ep,80) 0)∧e.get 7=.one (.d (.int .i64 (j:Int)))∧e.get 9=.one (.ptr p9 0)∧e.get 10=.one (.ptr p10 0)∧e.get 11=.one (.ptr (h2.ep,176) 0)∧e.get 57=.one (.mrow lp 0 T.pk.length cp)∧e.get 58=.one (.d (.int .i64 (T.pk.length:Int)))∧e.get 59=.one (.d (.int .i64 (k:Int)))∧e.get 76=.one (.d (.bool (ca.kind != cb.kind)))∧g'=g) ?_ ?_
           ·simp[hn,h9,h10,b93,b103,hn1,hnl,hkl,bx1,bx2,q1,q2,Plan.then_,vcPlan,Z02,Z00,callKind];exact CutK.of ⟨by simp[hn],by simp[h0],by simp[h1'],by simp[h5],by simp[h7],by simp[h9],by simp[h10],by simp[h11],by simp[h57],by simp[h58],by simp[h59],by simp,rfl⟩
           ·rintro e g' ⟨hn,h0,h1',h5,h7,h9,h10,h11,h57,h58,h59,h76,rfl⟩;simp[hn,h76];cases hkk:ca.kind != cb.kind with
            | true=>
              simp only[hkk,cond_true] at hm;have e1:=r_ret hm;simp only[Prod.mk.injEq] at e1;obtain⟨rfl,rfl⟩:=e1;simp[hn,hkk];exact hk _ _ s3.ows (hy3.mono (by simp)) (fun k hk=>.inl hk)
            | false=>
              simp only[hkk,cond_false] at hm;simp[hn,h59,hkk,hw];exact BackF.of () ⟨⟨by simp[hn],by simp[h0],by simp[h1'],by simp[h5],by simp[h7],by simp[h9],by simp[h10],by simp[h11],by simp[h57],by simp[h58],by simp,rfl⟩,hm⟩
          ·rintro _ e g ⟨hn,h0,h1',h5,h7,h9,h10,h11,h57,h58,h59,rfl⟩ hm;replace hm:=hm.bind;obtain⟨q,hq,hm⟩:=hm;simp[hn,h58,h59];have hep3:=hs3.1;refine Wait.cutB (fun k=>k == 3) (Plan.then_ [0,1,2,4,5,3,6,7,8] .done) follows (by kernel_rfl) (fun e g'=>e.n=188∧e.get 0=.one (.ptr l 0)∧e.get 1=.one (.d (.int .i64 (i:Int)))∧e.get 5=.one (.ptr (h.ep,80) 0)∧e.get 7=.one (.d (.int .i64 (j:Int)))∧e.get 9=.one (.ptr p9 0)∧e.get 10=.one (.ptr p10 0)∧e.get 11=.one (.ptr (h2.ep,176) 0)∧e.get 14=.one (.d (.int .i64 q.2))∧∃ fc' fa',Sc g' l q.1 (.mrow lt 0 S.tables.length cap) fc' oc ta fa' oa∧Same g g' (l::fa)∧(∀ k ∈ fa',k ∈ fa)) ?_ ?_
           ·simp[hn,h0,h5,h9,h11,b53,b93,b113,Plan.then_,Z45,Z02,Z00,callKind];refine Z01 (Z34 _ T.pk.length hplim _ (fun pc g2 mp hs4 hlp hbox=>?_));simp[hn];refine⟨hbox,?_⟩;refine Z01 (Z77 g2 l _ fc oc ta fa oa S q.1 ⟨name,seqI T.pk.length,T.name⟩ [.d (.str name),pc,.d (.str T.name)] q.2 hq (s3.frame hs4) (fun h' hs'=>⟨.data rfl,?_,.data rfl,trivial⟩) _ (fun g3 fc' fa' s4 hs5 hfa'=>?_))
            ·rw[Z55] at mp;exact (Ow.nrow (n:=1) (mp.frame fun k hk=>hs'.2 k (hlp k hk).2 (by simp)) rfl (by simp)).nfrz
            ·simp[hn];exact CutK.of ⟨by simp[hn],by simp[h0],by simp[h1'],by simp[h5],by simp[h7],by simp[h9],by simp[h10],by simp[h11],by simp,fc',fa',s4,(hs4.mono (by simp)).trans hs5,hfa'⟩
           ·rintro e ga ⟨hn,h0,h1',h5,h7,h9,h10,h11,h14,fc',fa',s4,hs4,hfa'⟩;obtain⟨S1,q2⟩:=q;simp only at hq hm h14 s4;have ht4:=Zfq hq;have hi4:S1.tables[i]?=some T:=by rw[ht4];exact hi
            have hj4:S1.tables[j]?=some O:=by rw[ht4];exact hj
            have hy4:Same h ga (l::(ta++(fa++oa))):=(hy3.mono (by simp)).trans (hs4.mono fun k hk=>by simp only[List.mem_cons,List.mem_append] at hk ⊢;exact hk.imp_right fun h=>.inr (.inl h));have fresh:∀ k:Lab,h.ep≤k.1→k ∉ l::(ta++(fa++oa)):=fun k hk h2=>by have:=s.lt k h2;omega
            have fresh2:∀ k:Lab,h.ep≤k.1→k ∉ l::fa:=fun k hk h2=>fresh k hk (by simp only[List.mem_cons,List.mem_append] at h2 ⊢;exact h2.imp_right fun h=>.inr (.inl h));have b94:ga.box p9=some [.d (.str T.name),c1,c2]:=by rw[hs4.2 _ (by omega) (fresh2 _ (by omega))];exact b93
            have b104:ga.box p10=some [.d (.str O.name),d1,d2]:=by rw[hs4.2 _ (by omega) (fresh2 _ (by omega))];exact b103
            have b114:ga.box (h2.ep,176)=some [C.d (D.int IntKind.i64 T.pk.length)]:=by rw[hs4.2 _ (by simp<;>omega) (fresh2 _ (by simp<;>omega))];exact b113
            have b54:ga.box (h.ep,80)=some [.d (.str name)]:=by rw[hs4.2 _ (by simp<;>omega) (fresh2 _ (by simp))];exact b53
            have hep4:=hs4.1;have hnd:=s.nd;simp only[List.nodup_cons,List.nodup_append,List.mem_append,not_or] at hnd;have htaf:∀ k ∈ ta,k≠l∧k ∉ fa∧k ∉ oa:=fun k hk=>⟨fun he=>hnd.1.1 (he ▸ hk),fun h2=>hnd.2.2.2 k hk k (.inl h2) rfl,fun h2=>hnd.2.2.2 k hk k (.inr h2) rfl⟩;have bl4:ga.box lt=some B:=by
             rw[hs4.2 lt (s3.lt lt (by simp[tv.tm])) (fun h2=>by
              have:=htaf lt tv.tm
              simp only[List.mem_cons] at h2;exact h2.elim this.1 this.2.1)]
             exact t3.el.box
            have mkT:∀ {h':HS} {S9:Sch} {fc9 oc9:C} {fa9 oa9:List Lab},Sc h' l S9 (.mrow lt 0 S.tables.length cap) fc9 oc9 ta fa9 oa9→S9.tables=S.tables→h'.box lt=some B→TblV h' l S9 (.mrow lt 0 S.tables.length cap) fc9 oc9 ta fa9 oa9 i T lt c1 c2 B∧TblV h' l S9 (.mrow lt 0 S.tables.length cap) fc9 oc9 ta fa9 oa9 j O lt d1 d2 B:=fun {h' S9 fc9 oc9 fa9 oa9} s9 ht9 hb9=>by
             refine⟨?_,?_⟩
             ·obtain⟨a1,a2,tv9⟩:=s9.tblK hb9 (i:=i) (T:=T) (by rw[ht9];exact hi);obtain⟨rfl,rfl⟩:a1=c1∧a2=c2:=by
               have:=tv9.el.rd0 3 (by omega)
               rw[r0] at this;simp at this;exact⟨this.1.symm,this.2.symm⟩
              exact tv9
             ·obtain⟨a1,a2,tv9⟩:=s9.tblK hb9 (i:=j) (T:=O) (by rw[ht9];exact hj);obtain⟨rfl,rfl⟩:a1=d1∧a2=d2:=by
               have:=tv9.el.rd0 3 (by omega)
               rw[q0] at this;simp at this;exact⟨this.1.symm,this.2.symm⟩
              exact tv9
            have ks:∀ k ∈ ta++(fa'++oa),k ∈ ta++(fa++oa):=fun k hk=>by simp only[List.mem_append] at hk ⊢;exact hk.imp_right fun h=>h.imp_left (hfa' k)
            simp[hn,h14];cases hq0:q2 != 0 with
            | true=>
              simp only[hq0,cond_true] at hm;have e1:=r_ret hm;simp only[Prod.mk.injEq] at e1;obtain⟨rfl,rfl⟩:=e1;simp[hn,hq0];exact hk _ _ s4.ows hy4 (fun k hk=>.inl (ks k hk))
            | false=>
              simp only[hq0,cond_false] at hm;replace hm:=hm.bind;obtain⟨b,hbv,hm⟩:=hm;have hb4:=s4.box;simp[hn,h0,h5,h14,hq0,hb4];refine Z01 (HSpec.of_lend (Z2d S1.fks 186 [[.str name]] (fun fk=>Z2x fk name) (fun xa v hv=>c_evolution_joinTables_1 xa name v hv) b hbv) ⟨.one (.frz s4.ffrz),.one (.fn rfl ?_),trivial⟩ rfl ?_)
              ·intro jj cp ds hj hd;cases jj with
               | zero=>
                 simp at hj hd;subst hj hd;exact⟨_,b54,FrzCs.datas (ds:=[.str name])⟩
               | succ jj=>simp at hj
              ·have hz5:Same ga ga.next []:=Same.refl.next;have s5:=s4.frame hz5;simp[hn];cases b with
               | true=>
                 have e1:=r_ret hm;simp only[Prod.mk.injEq] at e1;obtain⟨rfl,rfl⟩:=e1;simp[hn];exact hk _ _ s5.ows (hy4.trans (hz5.mono (by simp))) (fun k hk=>.inl (ks k hk))
               | false=>
                 simp only[cond_false] at hm;replace hm:=hm.bind;obtain⟨S2,hm2,hm⟩:=hm;simp[hn,h9,b94];refine Z1h tv.n1.1 ?_;have h5n:=ne_new (l:=(h.ep,80)) (n:=ga.ep) (by simp<;>omega);simp (maxDischargeDepth:=12) [hn,h0,h5,h9,h11,h5n,b54,le_s];have hz6:Same ga ((ga.next.setBox (ga.ep+1,240) [C.d (D.int IntKind.i64 0)]).next.setBox (ga.ep+1,240) [C.d (D.int IntKind.i64 T.cols.length)]) []:=((hz5.setBox (.inr (by simp))).next).setBox (.inr (by simp));generalize hX7:(ga.next.setBox (ga.ep+1,240) [C.d (D.int IntKind.i64 0)]).next.setBox (ga.ep+1,240) [C.d (D.int IntKind.i64 T.cols.length)]=HC at hz6 ⊢;have s6:=s4.frame hz6;have hep6:ga.ep+1 < HC.ep:=by rw[← hX7];simp
                 have b15:HC.box (ga.ep+1,240)=some [C.d (D.int IntKind.i64 T.cols.length)]:=by rw[← hX7];simp
                 have kC:∀ k:Lab,k.1 < ga.ep→HC.box k=ga.box k:=fun k hk=>hz6.2 k hk (by simp);have fr6:∀ k:Lab,h.ep≤k.1→k ∉ fa'++oa:=fun k hk h2=>fresh k hk (by simp only[List.mem_cons,List.mem_append] at h2 ⊢;exact .inr (.inr (h2.imp_left (hfa' k))));have blC:HC.box lt=some B:=by rw[kC lt (s4.lt lt (by simp[tv.tm]))];exact bl4
                 obtain⟨t6,u6⟩:=mkT s6 ht4 blC;have lend:∀ h',Same HC h' (fa'++oa)→LendVs h' ([Cap.lab (h2.ep,176),Cap.lab p9,Cap.lab (ga.ep+1,240)].map capV) (capsOf [[.int .i64 T.pk.length],T.enc,[.int .i64 T.cols.length]]):=fun h' hs'=>by
                  refine⟨.one (.ptr (cs:=[C.d (D.int IntKind.i64 T.pk.length)]) ?_ (FrzCs.datas (ds:=[.int .i64 T.pk.length]))),.one (.ptr (cs:=[.d (.str T.name),c1,c2]) ?_ (s6.tblFrz t6 hi4 h' fun k hk=>hs'.2 k (s6.lt k (by simp[hk])) fun h2=>?_)),.one (.ptr (cs:=[C.d (D.int IntKind.i64 T.cols.length)]) ?_ (FrzCs.datas (ds:=[.int .i64 T.cols.length]))),trivial⟩
                  ·rw[hs'.2 _ (by simp<;>omega) (fr6 _ (by simp<;>omega)),kC _ (by simp<;>omega)];exact b114
                  ·rw[hs'.2 _ (by omega) (fr6 _ (by omega)),kC _ (by omega)];exact b94
                  ·have:=htaf k hk
                   rcases List.mem_append.1 h2 with h2 | h2
                   ·exact this.2.1 (hfa' k h2)
                   ·exact this.2.2 h2
                  ·rw[hs'.2 _ (by simpa using hep6) (fr6 _ (by simp<;>omega))];exact b15
                 refine Z01 (Z5r HC l _ fc' oc ta fa' oa S1 S2 name 188 [Cap.lab (h2.ep,176),Cap.lab p9,Cap.lab (ga.ep+1,240)] [[.int .i64 T.pk.length],T.enc,[.int .i64 T.cols.length]] _ hm2 s6 lend (fun x v hv=>c_evolution_joinTables_2 x T.pk.length T T.cols.length v hv) _ (fun g7 s7 hs7=>?_));have ht7:S2.tables=S.tables:=(Zg6 hm2).trans ht4;have hb7:=s7.box;simp[hn,h0,hb7];refine Z1h s7.len.2.1.1 ?_;simp[hn];have en2:∀ h',Same HC h' (fa'++oa)→h'.box (h.ep,80)=some [.d (.str name)]∧h'.box p9=some [.d (.str T.name),c1,c2]∧h'.box p10=some [.d (.str O.name),d1,d2]∧h'.box (h2.ep,176)=some [C.d (D.int IntKind.i64 T.pk.length)]∧h'.box lt=some B:=fun h' hs'=>by
                  refine⟨?_,?_,?_,?_,?_⟩
                  ·rw[hs'.2 _ (by simp<;>omega) (fr6 _ (by simp)),kC _ (by simp<;>omega)];exact b54
                  ·rw[hs'.2 _ (by omega) (fr6 _ (by omega)),kC _ (by omega)];exact b94
                  ·rw[hs'.2 _ (by omega) (fr6 _ (by omega)),kC _ (by omega)];exact b104
                  ·rw[hs'.2 _ (by simp<;>omega) (fr6 _ (by simp<;>omega)),kC _ (by simp<;>omega)];exact b114
                  ·rw[hs'.2 lt (s6.lt lt (by simp[tv.tm])) fun h2=>?_]
                   ·exact blC
                   ·have:=htaf lt tv.tm
                    rcases List.mem_append.1 h2 with h2 | h2
                    ·exact this.2.1 (hfa' lt h2)
                    ·exact this.2.2 h2
                 refine Wait.count (N:=(S2.fks.length:Int)) (s0:=S2) (fun k S3 e g=>e.n=188∧e.get 0=.one (.ptr l 0)∧e.get 1=.one (.d (.int .i64 (i:Int)))∧e.get 5=.one (.ptr (h.ep,80) 0)∧e.get 7=.one (.d (.int .i64 (j:Int)))∧e.get 9=.one (.ptr p9 0)∧e.get 10=.one (.ptr p10 0)∧e.get 11=.one (.ptr (h2.ep,176) 0)∧e.get 105=.one (.d (.int .i64 (S2.fks.length:Int)))∧e.get 106=.one (.d (.int .i64 (k:Int)))∧S3.fks.length=S2.fks.length∧S3.tables=S.tables∧Sc g l S3 (.mrow lt 0 S.tables.length cap) fc' oc ta fa' oa∧Same HC g (fa'++oa)) (by simpa using hm) ⟨by simp[hn],by simp[h0],by simp[h1'],by simp[h5],by simp[h7],by simp[h9],by simp[h10],by simp[h11],by simp,by simp,rfl,ht7,s7,hs7⟩ ?_ ?_
                 ·rintro k S3 e g ⟨hn,h0,h1',h5,h7,h9,h10,h11,hlen,hcnt,hl3,ht3,s8,hs8⟩ hlt8 hm;simp only[Zhg] at hm;replace hm:=hm.getN;obtain⟨f,hf,hm⟩:=hm;have hltk:k < S2.fks.length:=by omega
                  have hltk2:k < S3.fks.length:=by omega
                  have hfl:=s8.len.2.1.2;simp only[lim_eq] at hfl;have hw:IntKind.i64.wrap ((k:Int)+1)=(k:Int)+1:=IntWalk.i64_in _ (by omega);have hb8:=s8.box;obtain⟨lf,cf,Bf,rfl,bxf,hle⟩:=s8.fkH hf;obtain⟨hlf,hllf,c1f,el,-,-,w0,-⟩:=s8.fkK bxf hf;have rf:=el.rd0 1 (by omega);simp at rf;obtain⟨b58,b98,b108,b118,bl8⟩:=en2 g hs8;simp[hn,hlen,hcnt,hltk];refine Wait.cut (Plan.then_ [0,1,2,3,4,5,6,7,8,9] .done) follows (by kernel_rfl) (fun e g'=>e.n=188∧e.get 0=.one (.ptr l 0)∧e.get 1=.one (.d (.int .i64 (i:Int)))∧e.get 5=.one (.ptr (h.ep,80) 0)∧e.get 7=.one (.d (.int .i64 (j:Int)))∧e.get 9=.one (.ptr p9 0)∧e.get 10=.one (.ptr p10 0)∧e.get 11=.one (.ptr (h2.ep,176) 0)∧e.get 105=.one (.d (.int .i64 (S2.fks.length:Int)))∧e.get 106=.one (.d (.int .i64 (k:Int)))∧e.get 16=.one (.d (.int .i64 (k:Int)))∧e.get 118=.one (.d (.bool (strEq f.table name)))∧g'=g) ?_ ?_
                  ·simp[hn,h0,h5,hltk2,hb8,b58,bxf,rf,Plan.then_,vcPlan,Z02,Z00,callKind];exact CutK.of ⟨by simp[hn],by simp[h0],by simp[h1'],by simp[h5],by simp[h7],by simp[h9],by simp[h10],by simp[h11],by simp[hlen],by simp[hcnt],by simp,by simp,rfl⟩
                  ·rintro e g' ⟨hn,h0,h1',h5,h7,h9,h10,h11,hlen,hcnt,hidx,hcmp,rfl⟩;simp[hn,hcmp];cases hbt:strEq f.table name with
                   | false=>
                     simp only[hbt,cond_false] at hm;simp[hn,hcnt,hw];exact BackF.of S3 ⟨⟨by simp[hn],by simp[h0],by simp[h1'],by simp[h5],by simp[h7],by simp[h9],by simp[h10],by simp[h11],by simp[hlen],by simp,hl3,ht3,s8,hs8⟩,hm⟩
                   | true=>
                     simp only[hbt,cond_true] at hm;simp[hn];refine Wait.cut (Plan.then_ [0,1,2,3,4,5,6,7,8,9] .done) follows (by kernel_rfl) (fun e g''=>e.n=188∧e.get 0=.one (.ptr l 0)∧e.get 1=.one (.d (.int .i64 (i:Int)))∧e.get 5=.one (.ptr (h.ep,80) 0)∧e.get 7=.one (.d (.int .i64 (j:Int)))∧e.get 9=.one (.ptr p9 0)∧e.get 10=.one (.ptr p10 0)∧e.get 11=.one (.ptr (h2.ep,176) 0)∧e.get 105=.one (.d (.int .i64 (S2.fks.length:Int)))∧e.get 106=.one (.d (.int .i64 (k:Int)))∧Sc g'' l { S3 with fks:=S3.fks.set k ⟨T.name,f.cols,f.ref⟩ } (.mrow lt 0 S.tables.length cap) (.mrow lf 0 S3.fks.length cf) oc ta fa' oa∧Same HC g'' (fa'++oa)) ?_ ?_
                     ·simp[hn,h0,h9,hidx,hltk2,hb8,b98,bxf,Plan.then_,vcPlan,Z02,Z00,callKind];exact⟨by omega,CutK.of ⟨by simp[hn],by simp[h0],by simp[h1'],by simp[h5],by simp[h7],by simp[h9],by simp[h10],by simp[h11],by simp[hlen],by simp[hcnt],w0 T.name,hs8.setBox (.inl (by simp[hlf]))⟩⟩
                     ·rintro e g'' ⟨hn,h0,h1',h5,h7,h9,h10,h11,hlen,hcnt,s9,hs9⟩;simp[hn,hcnt,hw];exact BackF.of ({ S3 with fks:=S3.fks.set k ⟨T.name,f.cols,f.ref⟩ }:Sch) ⟨⟨by simp[hn],by simp[h0],by simp[h1'],by simp[h5],by simp[h7],by simp[h9],by simp[h10],by simp[h11],by simp[hlen],by simp,by simpa using hl3,ht3,s9,hs9⟩,hm⟩
                 ·rintro k S3 e g ⟨hn,h0,h1',h5,h7,h9,h10,h11,h105,h106,hl3,ht3,s8,hs8⟩ hge hm;have hge1:¬ k < S2.fks.length:=by omega
                  have hb8:=s8.box;simp[hn,h0,h105,h106,hge1,hb8];refine Z1h s8.len.2.2.1 ?_;simp[hn];refine Wait.count (N:=(S3.cons.length:Int)) (s0:=S3) (fun k S4 e g=>e.n=188∧e.get 0=.one (.ptr l 0)∧e.get 1=.one (.d (.int .i64 (i:Int)))∧e.get 5=.one (.ptr (h.ep,80) 0)∧e.get 7=.one (.d (.int .i64 (j:Int)))∧e.get 9=.one (.ptr p9 0)∧e.get 10=.one (.ptr p10 0)∧e.get 11=.one (.ptr (h2.ep,176) 0)∧e.get 133=.one (.d (.int .i64 (S3.cons.length:Int)))∧e.get 134=.one (.d (.int .i64 (k:Int)))∧S4.cons.length=S3.cons.length∧S4.tables=S.tables∧Sc g l S4 (.mrow lt 0 S.tables.length cap) fc' oc ta fa' oa∧Same HC g (fa'++oa)) (by simpa using hm) ⟨by simp[hn],by simp[h0],by simp[h1'],by simp[h5],by simp[h7],by simp[h9],by simp[h10],by simp[h11],by simp,by simp,rfl,ht3,s8,hs8⟩ ?_ ?_
                  ·rintro k S4 e g ⟨hn,h0,h1',h5,h7,h9,h10,h11,hlen,hcnt,hl3,ht3,s8,hs8⟩ hlt8 hm;simp only[Zhf] at hm;replace hm:=hm.getN;obtain⟨f,hf,hm⟩:=hm;have hltk:k < S3.cons.length:=by omega
                   have hltk2:k < S4.cons.length:=by omega
                   have hfl:=s8.len.2.2.2;simp only[lim_eq] at hfl;have hw:IntKind.i64.wrap ((k:Int)+1)=(k:Int)+1:=IntWalk.i64_in _ (by omega);have hb8:=s8.box;obtain⟨lf,cf,Bf,rfl,bxf,hle⟩:=s8.conH hf;obtain⟨hlf,hllf,el,w0,-,-⟩:=s8.conK bxf hf;have rf:=el.rd0 1 (by omega);simp at rf;obtain⟨b58,b98,b108,b118,bl8⟩:=en2 g hs8;simp[hn,hlen,hcnt,hltk];refine Wait.cut (Plan.then_ [0,1,2,3,4,5,6,7,8,9] .done) follows (by kernel_rfl) (fun e g'=>e.n=188∧e.get 0=.one (.ptr l 0)∧e.get 1=.one (.d (.int .i64 (i:Int)))∧e.get 5=.one (.ptr (h.ep,80) 0)∧e.get 7=.one (.d (.int .i64 (j:Int)))∧e.get 9=.one (.ptr p9 0)∧e.get 10=.one (.ptr p10 0)∧e.get 11=.one (.ptr (h2.ep,176) 0)∧e.get 133=.one (.d (.int .i64 (S3.cons.length:Int)))∧e.get 134=.one (.d (.int .i64 (k:Int)))∧e.get 17=.one (.d (.int .i64 (k:Int)))∧e.get 146=.one (.d (.bool (strEq f.table name)))∧g'=g) ?_ ?_
                   ·simp[hn,h0,h5,hltk2,hb8,b58,bxf,rf,Plan.then_,vcPlan,Z02,Z00,callKind];exact CutK.of ⟨by simp[hn],by simp[h0],by simp[h1'],by simp[h5],by simp[h7],by simp[h9],by simp[h10],by simp[h11],by simp[hlen],by simp[hcnt],by simp,by simp,rfl⟩
                   ·rintro e g' ⟨hn,h0,h1',h5,h7,h9,h10,h11,hlen,hcnt,hidx,hcmp,rfl⟩;simp[hn,hcmp];cases hbt:strEq f.table name with
                    | false=>
                      simp only[hbt,cond_false] at hm;simp[hn,hcnt,hw];exact BackF.of S4 ⟨⟨by simp[hn],by simp[h0],by simp[h1'],by simp[h5],by simp[h7],by simp[h9],by simp[h10],by simp[h11],by simp[hlen],by simp,hl3,ht3,s8,hs8⟩,hm⟩
                    | true=>
                      simp only[hbt,cond_true] at hm;simp[hn];refine Wait.cut (Plan.then_ [0,1,2,3,4,5,6,7,8,9] .done) follows (by kernel_rfl) (fun e g''=>e.n=188∧e.get 0=.one (.ptr l 0)∧e.get 1=.one (.d (.int .i64 (i:Int)))∧e.get 5=.one (.ptr (h.ep,80) 0)∧e.get 7=.one (.d (.int .i64 (j:Int)))∧e.get 9=.one (.ptr p9 0)∧e.get 10=.one (.ptr p10 0)∧e.get 11=.one (.ptr (h2.ep,176) 0)∧e.get 133=.one (.d (.int .i64 (S3.cons.length:Int)))∧e.get 134=.one (.d (.int .i64 (k:Int)))∧Sc g'' l { S4 with cons:=S4.cons.set k { f with table:=T.name } } (.mrow lt 0 S.tables.length cap) fc' (.mrow lf 0 S4.cons.length cf) ta fa' oa∧Same HC g'' (fa'++oa)) ?_ ?_
                      ·simp[hn,h0,h9,hidx,hltk2,hb8,b98,bxf,Plan.then_,vcPlan,Z02,Z00,callKind];exact⟨by omega,CutK.of ⟨by simp[hn],by simp[h0],by simp[h1'],by simp[h5],by simp[h7],by simp[h9],by simp[h10],by simp[h11],by simp[hlen],by simp[hcnt],w0 T.name,hs8.setBox (.inl (by simp[hlf]))⟩⟩
                      ·rintro e g'' ⟨hn,h0,h1',h5,h7,h9,h10,h11,hlen,hcnt,s9,hs9⟩;simp[hn,hcnt,hw];exact BackF.of ({ S4 with cons:=S4.cons.set k { f with table:=T.name } }:Sch) ⟨⟨by simp[hn],by simp[h0],by simp[h1'],by simp[h5],by simp[h7],by simp[h9],by simp[h10],by simp[h11],by simp[hlen],by simp,by simpa using hl3,ht3,s9,hs9⟩,hm⟩
                  ·rintro k S4 e g ⟨hn,h0,h1',h5,h7,h9,h10,h11,h133,h134,hl4,ht4',s9,hs9⟩ hge hm;have hge1:¬ k < S3.cons.length:=by omega
                   simp only[Zdg] at hm;replace hm:=hm.chk;obtain⟨⟨hpo,ho0,hc0,hto⟩,hm⟩:=hm;have e1:=r_ret hm;simp only[Prod.mk.injEq] at e1;obtain⟨rfl,rfl⟩:=e1;simp[hn,h133,h134,hge1];obtain⟨b59,b99,b109,b119,bl9⟩:=en2 g hs9;obtain⟨t9,u9⟩:=mkT s9 ht4' bl9;have hlt9:i < S4.tables.length:=by rw[ht4'];exact hlt
                   have hltj9:j < S4.tables.length:=by rw[ht4'];exact hltj
                   have hb9:=s9.box;have htl:S.tables.length=S4.tables.length:=by rw[ht4']
                   obtain⟨lo,cpo,Bo,hd1,-,-⟩:=u9.e1 0 _ (List.getElem?_eq_getElem ho0);have mo:=u9.m1 (by intro h0;simp[h0] at ho0);subst hd1;have hcpo:O.cols.length≤cpo:=by
                    rcases mo.2.2 with ⟨h2,_⟩ | ⟨l',cap',sp,h2,h3,h4⟩
                    ·simp at h2;simp[h2] at ho0
                    ·simp at h2;obtain⟨rfl,rfl⟩:=h2;rw[Z04 mo.1] at h4;simp at h4;omega
                   have hto2:T.cols.length+O.cols.length≤2097152:=hto;have r19:=t9.el.rd 1 1 (by omega);simp at r19;have hep8:=hs9.1;refine Wait.cut (Plan.then_ [0,1,2,4,5,6,7,8,9,10,11,12,13,14,15,16] (.two 3 17 (Plan.then_ [17,18,19,20] .done) (Plan.then_ [3,18,19,20] .done))) follows (by kernel_rfl) (fun e g'=>e.n=188∧e.get 0=.one (.ptr l 0)∧e.get 7=.one (.d (.int .i64 (j:Int)))∧∃ ta',Sc g' l { S4 with tables:=S4.tables.set i { T with cols:=T.cols++O.cols.drop T.pk.length } } (.mrow lt 0 S.tables.length cap) fc' oc ta' fa' oa∧Same g g' ta∧∀ k ∈ ta',k ∈ ta∨g.ep≤k.1) ?_ ?_
                   ·simp[hn,h0,h1',h10,h11,hb9,hlt,hlt9,htl,bl9,r19,b109,b119,Plan.then_,vcPlan,Z02,Z00,callKind];refine Z1u ⟨hpo,hcpo⟩ (fun hlo=>?_) (fun hlo=>?_)
                    ·have hro:=mo.tail T.pk.length hpo;have hdl:(O.cols.drop T.pk.length).length≤O.cols.length:=by simp
                     simp[hn,h0,h1',hlt,hlt9,hb9];refine⟨?_,?_⟩
                     all_goals
                      refine app_mr (by simp;exact⟨rfl,rfl⟩) (by simp) (by simp) (by simp) (t9.m1 (by intro h0;simp[h0] at hc0)) hro (by simp<;>omega) (fun c' g' hm' hs10 hl10=>?_);have hbl:g'.box lt=some B:=by
                       rw[hs10.2 lt (s9.lt lt (by simp[tv.tm])) fun h2=>(t9.l1 lt h2).2 rfl];exact bl9
                      have hbs':g'.box l=some [.mrow lt 0 S.tables.length cap,fc',oc]:=s9.keep hs10 fun k hk=>.inl (t9.l1 k hk).1;have hep10:=hs10.1;obtain⟨ta',s10,hta⟩:=t9.s1 g' c' (T.cols++O.cols.drop T.pk.length) (by simpa[List.map_drop] using hm') hs10 (fun k hk=>(hl10 k hk).imp_right fun h2=>⟨fun h3=>by have:=s9.lt k h3;omega,h2.2⟩);have hle9:=t9.el.le;simp[hn,h0,h1',hlt,hlt9,hbl,hbs'];refine⟨by omega,CutK.of ⟨by simp[hn],by simp[h0],by simp[h7],ta',s10,(hs10.mono fun k hk=>(t9.l1 k hk).1).setBox (.inl t9.tm),fun k hk=>?_⟩⟩;rcases hta k hk with h2 | h2
                      ·exact .inl h2
                      ·rcases hl10 k h2 with h3 | h3
                       ·exact .inl (t9.l1 k h3).1
                       ·exact .inr h3.1
                    ·have hdrop:O.cols.drop T.pk.length=[]:=List.drop_eq_nil_of_le (by omega);have hro:RowAt g 3 .z ((O.cols.map fun c=>c.enc.map C.d).drop T.pk.length):=by
                      rw[← List.map_drop,hdrop];exact (MR.z).rd
                     simp[hn,h0,h1',hlt,hlt9,hb9];refine⟨?_,?_⟩
                     all_goals
                      refine app_mr (by simp;exact⟨rfl,rfl⟩) (by simp) (by simp) (by simp) (t9.m1 (by intro h0;simp[h0] at hc0)) hro (by simp<;>omega) (fun c' g' hm' hs10 hl10=>?_);have hbl:g'.box lt=some B:=by
                       rw[hs10.2 lt (s9.lt lt (by simp[tv.tm])) fun h2=>(t9.l1 lt h2).2 rfl];exact bl9
                      have hbs':g'.box l=some [.mrow lt 0 S.tables.length cap,fc',oc]:=s9.keep hs10 fun k hk=>.inl (t9.l1 k hk).1;have hep10:=hs10.1;obtain⟨ta',s10,hta⟩:=t9.s1 g' c' (T.cols++O.cols.drop T.pk.length) (by simpa[List.map_drop] using hm') hs10 (fun k hk=>(hl10 k hk).imp_right fun h2=>⟨fun h3=>by have:=s9.lt k h3;omega,h2.2⟩);have hle9:=t9.el.le;simp[hn,h0,h1',hlt,hlt9,hbl,hbs'];refine⟨by omega,CutK.of ⟨by simp[hn],by simp[h0],by simp[h7],ta',s10,(hs10.mono fun k hk=>(t9.l1 k hk).1).setBox (.inl t9.tm),fun k hk=>?_⟩⟩;rcases hta k hk with h2 | h2
                      ·exact .inl h2
                      ·rcases hl10 k h2 with h3 | h3
                       ·exact .inl (t9.l1 k h3).1
                       ·exact .inr h3.1
                   ·rintro e g' ⟨hn,h0,h7,ta',s10,hs10,hta'⟩;have hj10:(S4.tables.set i { T with cols:=T.cols++O.cols.drop T.pk.length })[j]?=some O:=by
                     rw[List.getElem?_set_ne hij2,ht4'];exact hj
                    obtain⟨xs,a1,a2,lx,lr,capr,Br,e1,e2,e3,e4,e5,e6,e7,e8⟩:=s10.delT (T:=O) hj10;have hb10:=s10.box;have hli:=s10.len.1.2;simp only[lim_eq,List.length_set] at hli e2;have hw:IntKind.i64.wrap ((j:Int)+1)=((j+1:Nat):Int):=IntWalk.i64_in _ (by omega);simp[hn,h0,h7,hb10,hw];refine Z01 (Z6g _ _ xs j (j+1) e1 (by omega) (by omega) _ (fun c' g2 hm2 hs11 hep hharr hlab=>?_));have hs12:Same g' g2 (labs (.mrow lt 0 S.tables.length cap)):=⟨by rw[hep];exact Nat.le_refl _,fun k _ hk=>hs11 k hk⟩;have hbl:g2.box l=some [.mrow lt 0 S.tables.length cap,fc',oc]:=s10.keep hs12 fun k hk=>.inl (s10.hlabs.1 k hk);obtain⟨ta2,s11,ht11,-⟩:=e8 g2 c' hm2 hs12 hlab;simp[hn,h0,hbl];have hallC:Same h g (l::(ta++(fa++oa))):=(hy4.trans (hz6.mono (by simp))).trans (hs9.mono fun k hk=>by simp only[List.mem_cons,List.mem_append] at hk ⊢;exact .inr (.inr (hk.imp_left (hfa' k))));have hepC:=hallC.1;refine hk _ _ s11.ows ((((hallC.trans (hs10.mono fun k hk=>by simp[hk])).trans' hs12 fun k hk=>?_)).setBox (.inl (by simp))) fun k hk=>?_
                    ·exact (hta' k (s10.hlabs.1 k hk)).imp (fun h=>by simp[h]) fun h=>by omega
                    ·simp only[List.mem_append] at hk;rcases hk with hk | hk
                     ·exact (hta' k (ht11 k hk)).imp (fun h=>by simp[h]) fun h=>by omega
                     ·exact .inl (ks k (by simp only[List.mem_append];exact .inr hk))
def schOK (S:Sch):Prop:=(S.tables.length≤LIM∧S.fks.length≤LIM∧S.cons.length≤LIM)∧(∀ T ∈ S.tables,T.cols.length≤LIM∧T.pk.length≤LIM)∧∀ f ∈ S.fks,f.cols.length≤LIM
instance (S:Sch):Decidable (schOK S):=inferInstanceAs (Decidable (_∧_∧_))
def stpOK (x:Stp):Prop:=x.cols.length≤LIM∧x.newTable.cols.length≤LIM∧x.newTable.pk.length≤LIM∧x.fk.cols.length≤LIM
instance (x:Stp):Decidable (stpOK x):=inferInstanceAs (Decidable (_∧_))
def NewSch (h:HS) (S:Sch) (K:V→HS→Prop):Prop:=∀ tc fc oc qt qf qo h',Part h' TblSh tc qt (S.tables.map Tbl.enc)→Part h' FkSh fc qf (S.fks.map Fk.enc)→Part h' ConSh oc qo (S.cons.map Cons.enc)→(plabs tc qt++(plabs fc qf++plabs oc qo)).Nodup →
 (∀ k ∈ plabs tc qt++(plabs fc qf++plabs oc qo),h.ep≤k.1∧k.1 < h'.ep)→Same h h' []→K (.agg [tc,fc,oc]) h'
theorem Zbx (h:HS) (x:Stp) (hl:stpOK x) (K:V→HS→Prop) (hk:NewOw h StpSh x.enc K) :
  HSpec Tryz.prog 137 [.agg (x.enc.map C.d)] h K:=by
 refine HSpec.good Tryz.func137 rfl (by kernel_rfl) fun hg=>?_;refine HSpec.of_vc Tryz.func137 rfl (by kernel_rfl) (n:=18) rfl rfl (by simp) ?_;obtain⟨l1,l2,l3,l4⟩:=hl;simp;refine Z01 (Z2y _ _ _ (RowAt.data (n:=1) (ts:=x.cols.map encI) (by simp) (by simpa using l1)) _ (fun c6 g1 m6 hs1 hl1 hb1=>?_));have hz0:Same h (((h.setBox (h.ep,16) (x.enc.map C.d)).next.setBox (h.ep+1,32) [C.d (D.int IntKind.i64 0),C.d (D.str ByteArray.empty),C.d (D.str ByteArray.empty),C.d (D.str ByteArray.empty),C.d (D.str ByteArray.empty),C.d (D.int IntKind.i64 0),C.nil,C.d (D.str ByteArray.empty),C.d (D.int IntKind.i64 0),C.d (D.int IntKind.i64 0),C.d (D.str ByteArray.empty),C.d (D.str ByteArray.empty),C.nil,C.nil,C.d (D.str ByteArray.empty),C.d (D.int IntKind.i64 0),C.d (D.str ByteArray.empty),C.d (D.int IntKind.i64 0),C.d (D.int IntKind.i64 0),C.d (D.int IntKind.i64 0),C.d (D.str ByteArray.empty),C.d (D.str ByteArray.empty),C.nil,C.d (D.str ByteArray.empty)]).next) []:=(((Same.refl.setBox (.inr (Nat.le_refl _))).next.setBox (.inr (by simp))).next);have hs1':=hs1.1;have b1:=hb1 (h.ep,16) _ (by simp;rfl);have b2:=hb1 (h.ep+1,32) _ (by simp;rfl);simp only[Stp.enc,List.map_cons,List.map_nil] at hz0;have hy1:=hz0.trans hs1;simp at hl1 hs1';simp[b1];refine Z01 (Z5o _ (x.newTable.enc.map C.d) x.newTable (fun h' _=>FrzCs.datas (ds:=x.newTable.enc)) ⟨l2,l3⟩ _ (fun cs g2 ls2 o2 nd2 nw2 hs2 hb2'=>?_));obtain⟨c12,c13,rfl⟩:∃ c12 c13,cs=[C.d (D.str x.newTable.name),c12,c13]:=by
  have h9:=o2.len.1
  match cs,h9,o2 with
  | [a,b,c],_,hO=>obtain rfl:=hO.frz.1.flat rfl;exact⟨b,c,rfl⟩
 have hs2':=hs2.1;have b12:=hb2' (h.ep,16) _ (by simp;rfl);have b22:=hb2' (h.ep+1,32) _ (by simpa using b2);have hy2:Same h g2 []:=(hy1.setBox (l:=(h.ep,16)) (.inr (by simp))).trans hs2;simp at hs2';simp[b12];refine Z01 (Z2y _ _ _ (RowAt.data (n:=1) (ts:=x.fk.cols.map encI) (by simp) (by simpa using l4)) _ (fun c22 g3 m22 hs3 hl3 hb3=>?_));have hs3':=hs3.1;have b13:=hb3 (h.ep,16) _ (by simp;rfl);have b23:=hb3 (h.ep+1,32) _ (by simpa using b22);have hy3:Same h g3 []:=(hy2.setBox (l:=(h.ep,16)) (.inr (by simp))).trans hs3;simp at hl3 hs3';simp[b13,b23,retH,resVs,resV];have hyF:=(hy3.setBox (l:=(h.ep,16)) (cs:=stpC x c6 c12 c13 c22) (.inr (by simp))).setBox (l:=(h.ep+1,32)) (cs:=stpC x c6 c12 c13 c22) (.inr (by simp));have k3:∀ k:Lab,h.ep+2≤k.1→((g3.setBox (h.ep,16) (stpC x c6 c12 c13 c22)).setBox (h.ep+1,32) (stpC x c6 c12 c13 c22)).box k=g3.box k:=fun k hk=>by
  have h1:k≠(h.ep,16):=fun he=>by have h9:k.1=h.ep:=by rw[he]
                                  omega
  have h2:k≠(h.ep+1,32):=fun he=>by have h9:k.1=h.ep+1:=by rw[he]
                                    omega
  simp[h1,h2]
 have k2:∀ k:Lab,h.ep+2≤k.1→k.1 < g2.ep→g3.box k=g2.box k:=fun k hk hk2=>by
  have h1:k≠(h.ep,16):=fun he=>by have h9:k.1=h.ep:=by rw[he]
                                  omega
  rw[hs3.2 k (by simpa using hk2) (by simp)];simp[h1]
 have k1:∀ k:Lab,h.ep+2≤k.1→k.1 < g1.ep→g2.box k=g1.box k:=fun k hk hk2=>by
  have h1:k≠(h.ep,16):=fun he=>by have h9:k.1=h.ep:=by rw[he]
                                  omega
  rw[hs2.2 k (by simpa using hk2) (by simp)];simp[h1]
 have e6:∀ k ∈ labs c6,h.ep+2≤k.1∧k.1 < g1.ep:=fun k hk=>by have:=hl1 k.1 k.2 hk;omega
 have e2:∀ k ∈ ls2,g1.ep≤k.1∧k.1 < g2.ep:=fun k hk=>by have:=nw2 k hk;simp at this;omega
 have e22:∀ k ∈ labs c22,g2.ep≤k.1∧k.1 < g3.ep:=fun k hk=>by have:=hl3 k.1 k.2 hk;omega
 obtain⟨_,e0,oa⟩:=o2.dcons (c:=.nil) rfl;simp at e0;subst e0;obtain⟨d1,_,la,_,e1,rfl,o12,ob⟩:=oa.split;simp at e1;obtain⟨rfl,rfl⟩:=e1;obtain⟨d2,_,lb,_,e1,rfl,o13,od⟩:=ob.split;simp at e1;obtain⟨rfl,rfl⟩:=e1;obtain⟨_,_,rfl⟩:=od.inv_nil;simp only[List.append_nil] at e2 nd2;have o6:Ow ((g3.setBox (h.ep,16) (stpC x c6 c12 c13 c22)).setBox (h.ep+1,32) (stpC x c6 c12 c13 c22)) [.r [.d]] [c6] [.sl (x.cols.map encI)] (labs c6):=Ow.nrow (n:=1) (m6.frame fun k hk=>by have:=e6 k hk;rw[k3 k (by omega),k2 k (by omega) (by omega),k1 k (by omega) (by omega)]) rfl (by simp);have o22:Ow ((g3.setBox (h.ep,16) (stpC x c6 c12 c13 c22)).setBox (h.ep+1,32) (stpC x c6 c12 c13 c22)) [.r [.d]] [c22] [.sl (x.fk.cols.map encI)] (labs c22):=Ow.nrow (n:=1) (m22.frame fun k hk=>by have:=e22 k hk;rw[k3 k (by omega)]) rfl (by simp);have o12':=o12.frame (h':=((g3.setBox (h.ep,16) (stpC x c6 c12 c13 c22)).setBox (h.ep+1,32) (stpC x c6 c12 c13 c22))) fun k hk=>by have:=e2 k (by simp[hk]);rw[k3 k (by omega),k2 k (by omega) (by omega)]
 have o13':=o13.frame (h':=((g3.setBox (h.ep,16) (stpC x c6 c12 c13 c22)).setBox (h.ep+1,32) (stpC x c6 c12 c13 c22))) fun k hk=>by have:=e2 k (by simp[hk]);rw[k3 k (by omega),k2 k (by omega) (by omega)]
 refine hk (stpC x c6 c12 c13 c22) _ _ (Ow.mkStp o6 o12' o13' o22) ?_ (fun k hk=>?_) hyF (hyF.boxLe hg)
 ·simp only[List.nodup_append,List.mem_append] at nd2 ⊢;refine⟨Z1r,⟨nd2.1,⟨nd2.2.1,Z1r,fun a ha b hb he=>?_⟩,fun a ha b hb he=>?_⟩,fun a ha b hb he=>?_⟩
  ·have t1:=e2 a (by simp[ha]);have t2:=e22 b hb;rw[← he] at t2;omega
  ·subst he;rcases hb with hb | hb
   ·exact nd2.2.2 a ha a hb rfl
   ·have:=e2 a (by simp[ha]);have:=e22 a hb;omega
  ·subst he;have h6:=e6 a ha;rcases hb with hb | hb | hb
   ·have:=e2 a (by simp[hb]);omega
   ·have:=e2 a (by simp[hb]);omega
   ·have:=e22 a hb;omega
 ·simp only[List.mem_append] at hk
  have:k.1 < g3.ep∧h.ep≤k.1:=by
   rcases hk with hk | hk | hk | hk
   ·have:=e6 k hk;omega
   ·have:=e2 k (by simp[hk]);omega
   ·have:=e2 k (by simp[hk]);omega
   ·have:=e22 k hk;omega
  simp;omega
theorem Sc.start {g:HS} {p:Lab} {oc:C} {cons:List Cons} (hb:g.box p=some [.nil,.nil,oc]) (mo:MR g 7 oc (cons.map fun c=>c.enc.map C.d)) (hp:p.1 < g.ep) (hl:∀ k ∈ labs oc,k≠p∧k.1 < g.ep):Sc g p ⟨[],[],cons⟩ .nil .nil oc [] [] (labs oc):=by
 have e:(cons.map fun c=>((c.enc.map C.d,c.enc,[]):Q)).flatMap (·.2.2)=[]:=by rw[List.flatMap_eq_nil_iff];intro q hq;obtain⟨c,_,rfl⟩:=List.mem_map.1 hq;rfl
 have pl:plabs oc (cons.map fun c=>((c.enc.map C.d,c.enc,[]):Q))=labs oc:=by rw[plabs,e,List.append_nil]
 refine⟨[],[],cons.map fun c=>(c.enc.map C.d,c.enc,[]),rfl,rfl,pl.symm,hb,⟨MR.nil,rfl,by simp⟩,⟨MR.nil,rfl,by simp⟩,⟨by simpa[ConSh,Function.comp_def] using mo,by simp[Function.comp_def],fun q hq=>?_⟩,?_,?_⟩
 ·obtain⟨c,_,rfl⟩:=List.mem_map.1 hq;exact Ow.datas (ds:=c.enc)
 ·rw[pl];simp only[plabs,labs,List.flatMap_nil,List.nil_append,List.append_nil,List.nodup_cons];exact⟨fun h=>(hl p h).1 rfl,Z1r⟩
 ·rw[pl];intro k hk;simp only[plabs,labs,List.flatMap_nil,List.nil_append,List.append_nil,List.mem_cons] at hk;rcases hk with rfl | hk
  ·exact hp
  ·exact (hl k hk).2
def ClI (h:HS) (p3:Lab) (S:Sch) (S1:Sch) (dat:List C) (e:Env) (g:HS):Prop:=∃ tc fc oc ta fa oa,e.n=46∧e.get 1=.one (.ptr (h.ep,16) 0)∧e.get 2=.one (.ptr (h.ep+1,32) 0)∧e.get 3=.one (.ptr p3 0)∧g.box (h.ep,16)=some dat∧g.box (h.ep+1,32)=some [.nil,.nil,.nil] ∧
 Sc g p3 S1 tc fc oc ta fa oa∧(∀ k ∈ ta++(fa++oa),h.ep+2≤k.1)∧h.ep+2≤p3.1∧Same h g []
set_option maxHeartbeats 1000000 in
theorem Zed (h:HS) (S:Sch) (hS:schOK S) (K:V→HS→Prop) (hk:NewSch h S K) :
  HSpec Tryz.prog 67 [.agg (S.enc.map C.d)] h K:=by
 obtain⟨⟨l1,l2,l3⟩,l4,l5⟩:=hS;have l1':S.tables.length≤2097152:=l1;have l2':S.fks.length≤2097152:=l2;refine HSpec.of_vc Tryz.func67 rfl (by kernel_rfl) (n:=46) rfl rfl (by simp) ?_;simp;refine Z01 (Z7l _ _ _ (RowAt.data (n:=7) (ts:=S.cons.map Cons.enc) (by simp) (by simpa using l3)) _ (fun oc g1 mo hs1 hlo hb1=>?_));have hz0:Same h (((h.setBox (h.ep,16) (S.enc.map C.d)).next.setBox (h.ep+1,32) [.nil,.nil,.nil]).next) []:=(((Same.refl.setBox (.inr (Nat.le_refl _))).next.setBox (.inr (by simp))).next);have b1:=hb1 (h.ep,16) _ (by simp;rfl);have b2:=hb1 (h.ep+1,32) _ (by simp;rfl);have hs1':=hs1.1;simp only[Sch.enc,List.map_cons,List.map_nil] at hz0;have hy1:=hz0.trans hs1;simp at hs1';have hn1:=ne_new (l:=(h.ep,16)) (n:=g1.ep) (by simp<;>omega);simp (maxDischargeDepth:=12) [b1,hn1,le_s];have hz2:Same g1 ((g1.setBox (g1.ep,48) [.nil,.nil,.nil]).next.setBox (g1.ep,48) [.nil,.nil,oc]) []:=((Same.refl.setBox (.inr (Nat.le_refl _))).next).setBox (.inr (Nat.le_refl _));obtain⟨p3,hp3d⟩:∃ p:Lab,p=(g1.ep,48):=⟨_,rfl⟩;have trivF:∀ (α:Type) (xs:List α) (i:Nat),forK (ρ:=Unit) (fun _ (_:α) (s:Unit) next=>next s) (fun _=>some ()) xs i ()=some ():=fun α xs=>by
  induction xs with
  | nil=>intro i;rfl
  | cons x xs ih=>intro i;exact ih (i+1)
 intro _;have hg1:Same h ((g1.setBox (g1.ep,48) [.nil,.nil,.nil]).next.setBox (g1.ep,48) [.nil,.nil,oc]) []:=hy1.trans hz2;have hlo':∀ k ∈ labs oc,h.ep+2≤k.1∧k.1 < g1.ep:=fun k hk=>by have:=hlo k hk;simp at this;omega
 refine Wait.for (xs:=S.tables) (s0:=()) (k:=fun _=>some ()) (body:=fun _ _ s next=>next s) (r:=()) (fun k _ e g=>ClI h p3 S ⟨S.tables.take k,[],S.cons⟩ (S.enc.map C.d) e g∧e.get 13=.one (.d (.sl (S.tables.map Tbl.enc)))∧e.get 14=.one (.d (.int .i64 (S.tables.length:Int)))∧e.get 15=.one (.d (.int .i64 (k:Int)))) (trivF _ _ _) ⟨⟨.nil,.nil,oc,[],[],labs oc,by simp,by simp,by simp,by simp[hp3d],?_,?_,?_,?_,by rw[hp3d];simp<;>omega,hg1⟩,by simp,by simp,by simp⟩ ?_ ?_
 ·rw[hz2.2 _ (by simp<;>omega) (by simp)];simpa using b1
 ·rw[hz2.2 _ (by simp<;>omega) (by simp)];exact b2
 ·rw[hp3d];refine Sc.start (by simp) ?_ (by simp) fun k hk=>⟨fun he=>by have:=(hlo' k hk).2;rw[he] at this;simp at this,by have:=(hlo' k hk).2;simp<;>omega⟩;rw[Z55];exact mo.frame fun k hk=>hz2.2 k (hlo' k hk).2 (by simp)
 ·simp only[List.nil_append];exact fun k hk=>(hlo' k hk).1
 ·rintro k _ e g ⟨⟨tc,fc,oc,ta,fa,oa,hn,h1',h2',h3',b1,b2,s1,hnew,hp3,hs⟩,h13,h14,h15⟩ hlt hm;have hw:IntKind.i64.wrap ((k:Int)+1)=(k:Int)+1:=IntWalk.i64_in _ (by omega);have hT:=l4 _ (List.getElem_mem hlt);have hgp:h.ep+2 < g.ep:=by have:=s1.lt p3 (by simp);omega
  have hz4:Same g ((g.setBox (g.ep,80) [C.d (D.str ByteArray.empty),C.nil,C.nil]).next.setBox (g.ep,80) (S.tables[k].enc.map C.d)) []:=((Same.refl.setBox (.inr (Nat.le_refl _))).next).setBox (.inr (Nat.le_refl _));simp only[Tbl.enc,List.map_cons,List.map_nil] at hz4;simp[hn,h13,h14,h15,hlt];generalize hX:(g.setBox (g.ep,80) [C.d (D.str ByteArray.empty),C.nil,C.nil]).next.setBox (g.ep,80) _=GZ at hz4 ⊢;have bz5:GZ.box (g.ep,80)=some (S.tables[k].enc.map C.d):=by rw[← hX];simp
  have bz3:GZ.box p3=some [tc,fc,oc]:=(s1.frame hz4).box;simp only[Tbl.enc,List.map_cons,List.map_nil] at bz5;have hg2:=hs.1;have hgz:=hz4.1;refine Wait.cut (Plan.then_ [0,1,2,3,4,5,6,7] .done) follows (by kernel_rfl) (fun e g'=>ClI h p3 S ⟨S.tables.take (k+1),[],S.cons⟩ (S.enc.map C.d) e g'∧e.get 13=.one (.d (.sl (S.tables.map Tbl.enc)))∧e.get 14=.one (.d (.int .i64 (S.tables.length:Int)))∧e.get 15=.one (.d (.int .i64 (k:Int)))) ?_ ?_
  ·simp[hn,h3',bz5,bz3,Plan.then_,vcPlan,Z02,Z00,callKind];refine Z01 (Z5o _ (S.tables[k].enc.map C.d) S.tables[k] (fun h' _=>FrzCs.datas (ds:=S.tables[k].enc)) hT _ (fun cs g2 ls2 o2 nd2 hnw0 hs2 hb2=>?_));have hnw:∀ k ∈ ls2,g.ep≤k.1∧k.1 < g2.ep:=fun k hk=>by have:=hnw0 k hk;omega
   obtain⟨c0,c1,c2,rfl⟩:∃ a b c,cs=[a,b,c]:=by
    have h9:=o2.len.1
    match cs,h9 with
    | [a,b,c],_=>exact⟨a,b,c,rfl⟩
   simp[hn];refine⟨hb2,?_⟩;have hep2:=hs2.1;refine bld_ow (x:=[c0,c1,c2]) (by simp[toDs];cases c0.toD<;>cases c1.toD<;>cases c2.toD<;>rfl) (by simp) (fun d hd2=>?_) (fun hd2=>?_)
   ·obtain⟨rfl,hT2⟩:=o2.ofD hd2;have hz5:Same g2 ((g2.setArr (g2.ep,16 * 23) (some (1,3))).next) []:=Same.refl.setArr.next;simp only[Nat.reduceMul] at hz5;have s5:=s1.frame ((hz4.trans hs2).trans hz5);obtain⟨ys,my,hly,add⟩:=s5.addT;simp[hn];refine app_mr (by simp;exact⟨rfl,rfl⟩) (by simp) (by simp) (by simp) my (RowAt.own1 (by simp)) (by rw[hly];simp at hlt ⊢;omega) (fun c' g' hm' hs6 hl6=>?_);have hep6:=hs6.1;have hep5:=hz5.1;have hbl:=s5.keep hs6 fun k hk=>.inl (s5.hlabs.1 k hk);have hlab:∀ k ∈ labs tc,k ∈ ta:=s1.hlabs.1;obtain⟨a',s6,ha'⟩:=add g' c' _ _ [] hm' hs6 hl6 (hT2 g') List.nodup_nil (fun k hk=>by
     have h9:=hnw k ((fun k (hk:k ∈ [])=>by simp at hk) k hk);refine⟨by omega,fun h8=>by have:=s1.lt k h8;omega,fun h8=>?_⟩;rcases hl6 k h8 with h7 | h7
     ·have:=s1.lt k (by simp[hlab k h7]);omega
     ·omega) S.tables[k] rfl
    have ft:∀ k:Lab,k.1 < g.ep→k.1 < h.ep+2→g'.box k=g.box k:=fun k hk hk2=>by
     rw[hs6.2 k (by omega) fun h9=>by have:=hnew k (by simp[hlab k h9]);omega];exact ((hz4.trans hs2).trans hz5).2 k hk (by simp)
    have hne1:((h.ep,16):Lab)≠p3:=fun he=>by rw[← he] at hp3;have h9:h.ep+2≤h.ep:=hp3;omega
    have hne2:((h.ep+1,32):Lab)≠p3:=fun he=>by rw[← he] at hp3;have h9:h.ep+2≤h.ep+1:=hp3;omega
    simp[hn,h3',hbl];refine CutK.of ⟨⟨c',fc,oc,a',fa,oa,by simp[hn],by simp[h1'],by simp[h2'],by simp[h3'],?_,?_,by simpa[List.take_append_getElem hlt] using s6,fun k hk=>?_,hp3,((hs.trans ((hz4.trans hs2).trans hz5)).trans' hs6 fun k hk=>.inr (by have:=hnew k (by simp[hlab k hk]);omega)).setBox (.inr (by omega))⟩,by simp[h13],by simp[h14],by simp[h15]⟩
    ·simpa[hne1,ft (h.ep,16) (by simp<;>omega) (by simp)] using b1
    ·simpa[hne2,ft (h.ep+1,32) (by simp<;>omega) (by simp)] using b2
    ·simp only[List.mem_append] at hk;rcases hk with hk | hk
     ·rcases ha' k hk with h9 | h9 | h9
      ·exact hnew k (by simp[h9])
      ·have:=hnw k ((fun k (hk:k ∈ [])=>by simp at hk) k h9);omega
      ·omega
     ·exact hnew k (by simp only[List.mem_append];exact .inr hk)
   ·skip
    have hz5:Same g2 ((g2.setBox (g2.ep,16 * 23) [c0,c1,c2]).next) []:=(Same.refl.setBox (.inr (Nat.le_refl _))).next;simp only[Nat.reduceMul] at hz5;have s5:=s1.frame ((hz4.trans hs2).trans hz5);obtain⟨ys,my,hly,add⟩:=s5.addT;simp[hn];refine app_mr (by simp;exact⟨rfl,rfl⟩) (by simp) (by simp) (by simp) my (RowAt.new1 (x:=[c0,c1,c2]) (by simp) (by simp)) (by rw[hly];simp at hlt ⊢;omega) (fun c' g' hm' hs6 hl6=>?_);have hep6:=hs6.1;have hep5:=hz5.1;have hbl:=s5.keep hs6 fun k hk=>.inl (s5.hlabs.1 k hk);have hlab:∀ k ∈ labs tc,k ∈ ta:=s1.hlabs.1;obtain⟨a',s6,ha'⟩:=add g' c' _ _ ls2 hm' hs6 hl6 (o2.frame fun k hk=>by have h9:=hnw k hk;rw[hs6.2 k (by omega) fun h8=>by have:=s1.lt k (by simp[s1.hlabs.1 k h8]);omega];exact hz5.2 k h9.2 (by simp)) nd2 (fun k hk=>by
     have h9:=hnw k ((fun _ h=>h) k hk);refine⟨by omega,fun h8=>by have:=s1.lt k h8;omega,fun h8=>?_⟩;rcases hl6 k h8 with h7 | h7
     ·have:=s1.lt k (by simp[hlab k h7]);omega
     ·omega) S.tables[k] rfl
    have ft:∀ k:Lab,k.1 < g.ep→k.1 < h.ep+2→g'.box k=g.box k:=fun k hk hk2=>by
     rw[hs6.2 k (by omega) fun h9=>by have:=hnew k (by simp[hlab k h9]);omega];exact ((hz4.trans hs2).trans hz5).2 k hk (by simp)
    have hne1:((h.ep,16):Lab)≠p3:=fun he=>by rw[← he] at hp3;have h9:h.ep+2≤h.ep:=hp3;omega
    have hne2:((h.ep+1,32):Lab)≠p3:=fun he=>by rw[← he] at hp3;have h9:h.ep+2≤h.ep+1:=hp3;omega
    simp[hn,h3',hbl];refine CutK.of ⟨⟨c',fc,oc,a',fa,oa,by simp[hn],by simp[h1'],by simp[h2'],by simp[h3'],?_,?_,by simpa[List.take_append_getElem hlt] using s6,fun k hk=>?_,hp3,((hs.trans ((hz4.trans hs2).trans hz5)).trans' hs6 fun k hk=>.inr (by have:=hnew k (by simp[hlab k hk]);omega)).setBox (.inr (by omega))⟩,by simp[h13],by simp[h14],by simp[h15]⟩
    ·simpa[hne1,ft (h.ep,16) (by simp<;>omega) (by simp)] using b1
    ·simpa[hne2,ft (h.ep+1,32) (by simp<;>omega) (by simp)] using b2
    ·simp only[List.mem_append] at hk;rcases hk with hk | hk
     ·rcases ha' k hk with h9 | h9 | h9
      ·exact hnew k (by simp[h9])
      ·have:=hnw k ((fun _ h=>h) k h9);omega
      ·omega
     ·exact hnew k (by simp only[List.mem_append];exact .inr hk)
  ·rintro e g' ⟨hI,h13,h14,h15⟩;have hn:=hI;obtain⟨_,_,_,_,_,_,hn,h1',h2',h3',-⟩:=hn;simp[hn,h15,hw];obtain⟨tc2,fc2,oc2,ta2,fa2,oa2,-,-,-,-,q⟩:=hI;exact BackF.of () ⟨⟨⟨tc2,fc2,oc2,ta2,fa2,oa2,by simp[hn],by simp[h1'],by simp[h2'],by simp[h3'],q⟩,by simp[h13],by simp[h14],by simp⟩,hm⟩
 ·rintro _ e g ⟨⟨tc,fc,oc,ta,fa,oa,hn,h1',h2',h3',b1,b2,s1,hnew,hp3,hs⟩,h13,h14,h15⟩ _;rw[List.take_length] at s1;simp[hn,h1',h14,h15,b1];intro _;refine Wait.for (xs:=S.fks) (s0:=()) (k:=fun _=>some ()) (body:=fun _ _ s next=>next s) (r:=()) (fun k _ e g=>ClI h p3 S ⟨S.tables,S.fks.take k,S.cons⟩ (S.enc.map C.d) e g∧e.get 28=.one (.d (.sl (S.fks.map Fk.enc)))∧e.get 29=.one (.d (.int .i64 (S.fks.length:Int)))∧e.get 30=.one (.d (.int .i64 (k:Int)))) (trivF _ _ _) ⟨⟨tc,fc,oc,ta,fa,oa,by simp[hn],by simp[h1'],by simp[h2'],by simp[h3'],b1,b2,by simpa using s1,hnew,hp3,hs⟩,by simp,by simp,by simp⟩ ?_ ?_
  ·rintro k _ e g ⟨⟨tc,fc,oc,ta,fa,oa,hn,h1',h2',h3',b1,b2,s1,hnew,hp3,hs⟩,h28,h29,h30⟩ hlt hm;have hw:IntKind.i64.wrap ((k:Int)+1)=(k:Int)+1:=IntWalk.i64_in _ (by omega);have hF:=l5 _ (List.getElem_mem hlt);have hgp:h.ep+2 < g.ep:=by have:=s1.lt p3 (by simp);omega
   simp[hn,h28,h29,h30,hlt];refine Z01 (Z2y _ _ _ (RowAt.data (n:=1) (ts:=S.fks[k].cols.map encI) (by simp) (by simpa using hF)) _ (fun pc g2' mp hs2' hlp hb2=>?_));have hz4':Same g ((g.setBox (g.ep,112) [C.d (D.str ByteArray.empty),C.nil,C.d (D.str ByteArray.empty)]).next.setBox (g.ep,112) (S.fks[k].enc.map C.d)) []:=((Same.refl.setBox (.inr (Nat.le_refl _))).next).setBox (.inr (Nat.le_refl _));have bz7:=hb2 (g.ep,112) _ (by simp;rfl);simp only[Fk.enc,List.map_cons,List.map_nil] at hz4';have hep2':=hs2'.1;simp at hep2' hlp;have hz4:Same g (g2'.setBox (g.ep,112) [.d (.str S.fks[k].table),pc,.d (.str S.fks[k].ref)]) []:=(hz4'.trans hs2').setBox (.inr (Nat.le_refl _));have hoF0:Ow (g2'.setBox (g.ep,112) [.d (.str S.fks[k].table),pc,.d (.str S.fks[k].ref)]) FkSh [.d (.str S.fks[k].table),pc,.d (.str S.fks[k].ref)] S.fks[k].enc (labs pc):=by
    refine .data rfl ?_
    have:=Ow.rowD (es:=[.d]) (n:=1) (ts:=S.fks[k].cols.map encI) (mp.frame (h':=g2'.setBox (g.ep,112) [.d (.str S.fks[k].table),pc,.d (.str S.fks[k].ref)]) fun q hq=>by
     have h9:=hlp q.1 q.2 hq
     have:q≠(g.ep,112):=fun he=>by have h8:q.1=g.ep:=by rw[he]
                                   omega
     simp[this]) rfl (by simp) (Ow.data (c:=.d (.str S.fks[k].ref)) (x:=.str S.fks[k].ref) rfl .nil)
    simpa using this
   have hnw0:∀ q ∈ labs pc,g.ep≤q.1∧q.1 < g2'.ep:=fun q hq=>by have:=hlp q.1 q.2 hq;omega
   have b70:(g2'.setBox (g.ep,112) [.d (.str S.fks[k].table),pc,.d (.str S.fks[k].ref)]).box (g.ep,112)=some [.d (.str S.fks[k].table),pc,.d (.str S.fks[k].ref)]:=by simp
   have hepx:(g2'.setBox (g.ep,112) [.d (.str S.fks[k].table),pc,.d (.str S.fks[k].ref)]).ep=g2'.ep:=by simp
   have bz3:(g2'.setBox (g.ep,112) [.d (.str S.fks[k].table),pc,.d (.str S.fks[k].ref)]).box p3=some [tc,fc,oc]:=(s1.frame hz4).box
   try simp at bz7
   simp[hn,bz7];have hp3g:=s1.lt p3 (by simp);have hnp:¬ p3=(g.ep,112):=fun he=>by rw[he] at hp3g;simp at hp3g
   have bz3':g2'.box p3=some [tc,fc,oc]:=(s1.frame (hz4'.trans hs2')).box;have hs2:Same (g2'.setBox (g.ep,112) [.d (.str S.fks[k].table),pc,.d (.str S.fks[k].ref)]) (g2'.setBox (g.ep,112) [.d (.str S.fks[k].table),pc,.d (.str S.fks[k].ref)]) []:=.refl;have hnw:∀ q ∈ labs pc,g.ep≤q.1∧q.1 < (g2'.setBox (g.ep,112) [.d (.str S.fks[k].table),pc,.d (.str S.fks[k].ref)]).ep:=fun q hq=>by have:=hnw0 q hq;omega
   have hg2:=hs.1;have hgz:=hz4.1;have hep2:=hs2.1;simp[hn,h3',hnp,bz3'];refine bld_ow (x:=[.d (.str S.fks[k].table),pc,.d (.str S.fks[k].ref)]) (by simp[toDs];cases pc.toD<;>rfl) (by simp) (fun d hd2=>?_) (fun hd2=>?_)
   ·obtain⟨rfl,hT2⟩:=hoF0.ofD hd2;have hz5:Same (g2'.setBox (g.ep,112) [.d (.str S.fks[k].table),pc,.d (.str S.fks[k].ref)]) (((g2'.setBox (g.ep,112) [.d (.str S.fks[k].table),pc,.d (.str S.fks[k].ref)]).setArr (g2'.ep,16 * 41) (some (1,3))).next) []:=Same.refl.setArr.next;simp only[Nat.reduceMul] at hz5;have s5:=s1.frame ((hz4.trans hs2).trans hz5);obtain⟨ys,my,hly,add⟩:=s5.addF;simp[hn];refine app_mr (by simp;exact⟨rfl,rfl⟩) (by simp) (by simp) (by simp) my (RowAt.own1 (by simp)) (by rw[hly];simp at hlt ⊢;omega) (fun c' g' hm' hs6 hl6=>?_);have hep6:=hs6.1;have hep5:=hz5.1;have hbl:=s5.keep hs6 fun k hk=>.inr (.inl (s5.hlabs.2.1 k hk));have hlab:∀ k ∈ labs fc,k ∈ fa:=s1.hlabs.2.1;obtain⟨a',s6,ha'⟩:=add g' c' _ _ [] hm' hs6 hl6 (hT2 g') List.nodup_nil (fun k hk=>by
     have h9:=hnw k ((fun q (hq:q ∈ [])=>by simp at hq) k hk);refine⟨by omega,fun h8=>by have:=s1.lt k h8;omega,fun h8=>?_⟩;rcases hl6 k h8 with h7 | h7
     ·have:=s1.lt k (by simp[hlab k h7]);omega
     ·omega) S.fks[k] rfl
    have ft:∀ k:Lab,k.1 < g.ep→k.1 < h.ep+2→g'.box k=g.box k:=fun k hk hk2=>by
     rw[hs6.2 k (by omega) fun h9=>by have:=hnew k (by simp[hlab k h9]);omega];exact ((hz4.trans hs2).trans hz5).2 k hk (by simp)
    have hne1:((h.ep,16):Lab)≠p3:=fun he=>by rw[← he] at hp3;have h9:h.ep+2≤h.ep:=hp3;omega
    have hne2:((h.ep+1,32):Lab)≠p3:=fun he=>by rw[← he] at hp3;have h9:h.ep+2≤h.ep+1:=hp3;omega
    simp[hn,h3',hbl,h30,hw];refine BackF.of () ⟨⟨⟨tc,c',oc,ta,a',oa,by simp[hn],by simp[h1'],by simp[h2'],by simp[h3'],?_,?_,by simpa[List.take_append_getElem hlt] using s6,fun k hk=>?_,hp3,((hs.trans ((hz4.trans hs2).trans hz5)).trans' hs6 fun k hk=>.inr (by have:=hnew k (by simp[hlab k hk]);omega)).setBox (.inr (by omega))⟩,by simp[h28],by simp[h29],by simp⟩,hm⟩
    ·simpa[hne1,ft (h.ep,16) (by simp<;>omega) (by simp)] using b1
    ·simpa[hne2,ft (h.ep+1,32) (by simp<;>omega) (by simp)] using b2
    ·simp only[List.mem_append] at hk;rcases hk with hk | hk | hk
     ·exact hnew k (by simp[hk])
     ·rcases ha' k hk with h9 | h9 | h9
      ·exact hnew k (by simp[h9])
      ·have:=hnw k ((fun q (hq:q ∈ [])=>by simp at hq) k h9);omega
      ·omega
     ·exact hnew k (by simp[hk])
   ·skip
    have hz5:Same (g2'.setBox (g.ep,112) [.d (.str S.fks[k].table),pc,.d (.str S.fks[k].ref)]) (((g2'.setBox (g.ep,112) [.d (.str S.fks[k].table),pc,.d (.str S.fks[k].ref)]).setBox (g2'.ep,16 * 41) [.d (.str S.fks[k].table),pc,.d (.str S.fks[k].ref)]).next) []:=(Same.refl.setBox (.inr (Nat.le_refl _))).next;simp only[Nat.reduceMul] at hz5;have s5:=s1.frame ((hz4.trans hs2).trans hz5);obtain⟨ys,my,hly,add⟩:=s5.addF;simp[hn];refine app_mr (by simp;exact⟨rfl,rfl⟩) (by simp) (by simp) (by simp) my (RowAt.new1 (x:=[.d (.str S.fks[k].table),pc,.d (.str S.fks[k].ref)]) (by simp) (by simp)) (by rw[hly];simp at hlt ⊢;omega) (fun c' g' hm' hs6 hl6=>?_);have hep6:=hs6.1;have hep5:=hz5.1;have hbl:=s5.keep hs6 fun k hk=>.inr (.inl (s5.hlabs.2.1 k hk));have hlab:∀ k ∈ labs fc,k ∈ fa:=s1.hlabs.2.1;obtain⟨a',s6,ha'⟩:=add g' c' _ _ (labs pc) hm' hs6 hl6 (hoF0.frame fun k hk=>by have h9:=hnw k hk;rw[hs6.2 k (by omega) fun h8=>by have:=s1.lt k (by simp[s1.hlabs.2.1 k h8]);omega];exact hz5.2 k h9.2 (by simp)) Z1r (fun k hk=>by
     have h9:=hnw k ((fun _ h=>h) k hk);refine⟨by omega,fun h8=>by have:=s1.lt k h8;omega,fun h8=>?_⟩;rcases hl6 k h8 with h7 | h7
     ·have:=s1.lt k (by simp[hlab k h7]);omega
     ·omega) S.fks[k] rfl
    have ft:∀ k:Lab,k.1 < g.ep→k.1 < h.ep+2→g'.box k=g.box k:=fun k hk hk2=>by
     rw[hs6.2 k (by omega) fun h9=>by have:=hnew k (by simp[hlab k h9]);omega];exact ((hz4.trans hs2).trans hz5).2 k hk (by simp)
    have hne1:((h.ep,16):Lab)≠p3:=fun he=>by rw[← he] at hp3;have h9:h.ep+2≤h.ep:=hp3;omega
    have hne2:((h.ep+1,32):Lab)≠p3:=fun he=>by rw[← he] at hp3;have h9:h.ep+2≤h.ep+1:=hp3;omega
    simp[hn,h3',hbl,h30,hw];refine BackF.of () ⟨⟨⟨tc,c',oc,ta,a',oa,by simp[hn],by simp[h1'],by simp[h2'],by simp[h3'],?_,?_,by simpa[List.take_append_getElem hlt] using s6,fun k hk=>?_,hp3,((hs.trans ((hz4.trans hs2).trans hz5)).trans' hs6 fun k hk=>.inr (by have:=hnew k (by simp[hlab k hk]);omega)).setBox (.inr (by omega))⟩,by simp[h28],by simp[h29],by simp⟩,hm⟩
    ·simpa[hne1,ft (h.ep,16) (by simp<;>omega) (by simp)] using b1
    ·simpa[hne2,ft (h.ep+1,32) (by simp<;>omega) (by simp)] using b2
    ·simp only[List.mem_append] at hk;rcases hk with hk | hk | hk
     ·exact hnew k (by simp[hk])
     ·rcases ha' k hk with h9 | h9 | h9
      ·exact hnew k (by simp[h9])
      ·have:=hnw k ((fun _ h=>h) k h9);omega
      ·omega
     ·exact hnew k (by simp[hk])
  ·rintro _ e g ⟨⟨tc,fc,oc,ta,fa,oa,hn,h1',h2',h3',b1,b2,s1,hnew,hp3,hs⟩,h28,h29,h30⟩ _;rw[List.take_length] at s1;have hb3:=s1.box;simp[hn,h2',h3',h29,h30,hb3,b2,retH,resVs,resV];obtain⟨qt,qf,qo,rfl,rfl,rfl,sc⟩:=s1;have hsF:Same h (g.setBox (h.ep+1,32) [tc,fc,oc]) []:=hs.setBox (.inr (by simp));have kb:∀ k ∈ plabs tc qt++(plabs fc qf++plabs oc qo),(g.setBox (h.ep+1,32) [tc,fc,oc]).box k=g.box k:=fun k hk=>by
    have h9:=hnew k hk
    have:k≠(h.ep+1,32):=fun he=>by rw[he] at h9;simp at h9
    simp[this]
   simp only[List.mem_append] at kb;have hndA:=sc.nd;rw[List.nodup_cons] at hndA;refine hk tc fc oc qt qf qo _ (sc.t.frame fun k hk=>kb k (.inl hk)) (sc.f.frame fun k hk=>kb k (.inr (.inl hk))) (sc.o.frame fun k hk=>kb k (.inr (.inr hk))) hndA.2 (fun k hk=>⟨by have:=hnew k hk;omega,by have:=sc.lt k (List.mem_cons_of_mem _ hk);simpa using this⟩) hsF
def Z44 (S:Sch) (x:Stp):Option (Sch × Int):=
 bif x.kind == 13 then chkK (S.cons.length < LIM) (some ({ S with cons:=S.cons++[x.cons] },0)) else
 bif x.kind == 14 then Z2f S x.cons else
 bif x.kind == 15 then chkK (S.fks.length < LIM) (some ({ S with fks:=S.fks++[x.fk] },0)) else
 bif x.kind == 16 then Z0g S x.fk else
 bif x.kind == 10 then Z37 S x.newTable else
 bindK (Z05 S x.table) fun v=>bif !v.2 then some (S,4) else
 bif x.kind == 4 then Z35 S v.1.toNat x.newName else
 bif x.kind == 6 then Z3i S v.1.toNat x else
 bif x.kind == 7 then Z3j S v.1.toNat x.other else
 bif x.kind == 8 then Z2e S v.1.toNat x else
 bif x.kind == 9 then Z36 S v.1.toNat x else
 bif x.kind == 11 then Z3s S x.table else
 bif x.kind == 12 then Z2s S v.1.toNat x else
 bif x.kind == 1 then Z3t S v.1.toNat x else Z38 S v.1.toNat x
theorem Zgn {S:Sch} {nm:ByteArray} {v:Int × Bool} (h:Is (Z05 S nm) v):0≤v.1:=by
 obtain⟨k,_,h⟩:=Is.bind h
 have:=r_ret h
 rw[← this];show 0≤(if k < 0 then 0 else k)
 split<;>omega
theorem KeepS.sub {h:HS} {l:Lab} {ls ls':List Lab} {S':Sch} {v:V} {K:V→HS→Prop} (hk:KeepS h l ls S' v K) (hs:∀ k ∈ ls',k ∈ ls):KeepS h l ls' S' v K:=
 fun h' lz ho hm hl=>hk h' lz ho (hm.mono fun k hk=>by simp only[List.mem_cons] at hk ⊢;exact hk.imp_right (hs k)) fun k hk=>(hl k hk).imp_left (hs k)
theorem KeepS.to {h:HS} {l:Lab} {ls:List Lab} {S':Sch} {v:V} {K K':V→HS→Prop} (hk:KeepS h l ls S' v K) (hs:∀ h',K v h'→K' v h'):KeepS h l ls S' v K':=
 fun h' lz ho hm hl=>hs _ (hk h' lz ho hm hl)
set_option maxHeartbeats 2000000 in
theorem Zbw (h:HS) (l:Lab) (tc fc oc:C) (xs:List C) (ta fa oa lx:List Lab) (S S':Sch) (x:Stp) (r:Int) (hm:Is (Z44 S x) (S',r)) (s:Sc h l S tc fc oc ta fa oa) (hx:Ow h StpSh xs x.enc lx) (hd:lx.Nodup∧∀ k ∈ lx,k.1 < h.ep∧k ∉ l::(ta++(fa++oa))) (K:V→HS→Prop)
  (hk:KeepS h l (ta++(fa++oa)++lx) S' (.one (.d (.int .i64 r))) K) :
  HSpec Tryz.prog 136 [.one (.ptr l 0),.agg xs] h K:=by
 refine HSpec.good Tryz.func136 rfl (by kernel_rfl) fun hg=>?_;obtain⟨x6,x12,x13,x22,a6,a12,a13,a22,rfl,rfl,-,-,-,-⟩:=hx.stp;refine HSpec.of_vc Tryz.func136 rfl (by kernel_rfl) (n:=120) rfl rfl (by simp) ?_;have hnn:stpC x x6 x12 x13 x22≠[]:=by simp[stpC]
 have hs0:Same h ((h.setBox (h.ep,48) (stpC x x6 x12 x13 x22)).next) []:=(Same.refl.setBox (.inr (Nat.le_refl _))).next;have s0:=s.frame hs0;have hb0:=s0.box;have bx3:(h.setBox (h.ep,48) (stpC x x6 x12 x13 x22)).next.box (h.ep,48)=some (stpC x x6 x12 x13 x22):=by simp
 have hx0:Ow ((h.setBox (h.ep,48) (stpC x x6 x12 x13 x22)).next) StpSh (stpC x x6 x12 x13 x22) x.enc (a6++(a12++(a13++a22))):=hx.frame fun k hk=>hs0.2 k (hd.2 k hk).1 (by simp);have hd0:∀ k ∈ a6++(a12++(a13++a22)),k.1 < ((h.setBox (h.ep,48) (stpC x x6 x12 x13 x22)).next).ep∧k ∉ l::(ta++(fa++oa)):=fun k hk=>⟨by have:=(hd.2 k hk).1;simp<;>omega,(hd.2 k hk).2⟩;have hk0:KeepS ((h.setBox (h.ep,48) (stpC x x6 x12 x13 x22)).next) l (ta++(fa++oa)++(a6++(a12++(a13++a22)))) S' (.one (.d (.int .i64 r))) K:=hk.after hs0;have hk1:KeepS ((h.setBox (h.ep,48) (stpC x x6 x12 x13 x22)).next) l (ta++(fa++oa)) S' (.one (.d (.int .i64 r))) K:=hk0.sub fun k hk=>List.mem_append_left _ hk;have e0:takeN 1 (stpC x x6 x12 x13 x22)=some [.d (.int .i64 x.kind)]:=by simp[stpC]
 have e24:takeN 24 (stpC x x6 x12 x13 x22)=some (stpC x x6 x12 x13 x22):=by simp[stpC]
 have e1:takeN 1 ((stpC x x6 x12 x13 x22).drop 1)=some [.d (.str x.table)]:=by simp[stpC]
 have e1':takeN 1 ((stpC x x6 x12 x13 x22).tail)=some [.d (.str x.table)]:=by simp[stpC]
 have e2:takeN 1 ((stpC x x6 x12 x13 x22).drop 2)=some [.d (.str x.other)]:=by simp[stpC]
 have e4:takeN 1 ((stpC x x6 x12 x13 x22).drop 4)=some [.d (.str x.newName)]:=by simp[stpC]
 have e11:takeN 3 ((stpC x x6 x12 x13 x22).drop 11)=some [.d (.str x.newTable.name),x12,x13]:=by simp[stpC]
 have e14:takeN 7 ((stpC x x6 x12 x13 x22).drop 14)=some (x.cons.enc.map C.d):=by simp[stpC]
 have e21:takeN 3 ((stpC x x6 x12 x13 x22).drop 21)=some [.d (.str x.fk.table),x22,.d (.str x.fk.ref)]:=by simp[stpC]
 simp only[Cons.enc,List.map_cons,List.map_nil] at e14;unfold Z44 at hm;simp[hnn,e0];cases k13:x.kind == 13 with
 | true=>
   simp only[k13,cond_true] at hm;replace hm:=hm.chk;obtain⟨hlim,hm⟩:=hm;have e1:=r_ret hm;simp only[Prod.mk.injEq] at e1;obtain⟨rfl,rfl⟩:=e1;simp[k13];generalize (h.setBox (h.ep,48) (stpC x x6 x12 x13 x22)).next=HX at *;refine Wait.cut (Plan.then_ [0,1,2,3,4,5,6,7,8,9,10,11] .done) follows (by kernel_rfl) (fun e h'=>e.n=120∧∃ oc' oa',Sc h' l { S with cons:=S.cons++[x.cons] } tc fc oc' ta fa oa'∧Same HX h' (l::oa)∧∀ k ∈ oa',k ∈ oa∨HX.ep≤k.1) ?_ ?_
   ·simp[hb0,bx3,e14,Plan.then_,vcPlan,Z02,Z00,callKind];have hz:Same HX ((HX.setArr (HX.ep,16 * 18) (some (1,7))).next) []:=Same.refl.setArr.next;simp only[Nat.reduceMul] at hz;have s1:=s0.frame hz;obtain⟨ys,my,hly,add⟩:=s1.addO;refine app_mr (by simp;exact⟨rfl,rfl⟩) (by simp) (by simp) (by simp) my (RowAt.own1 (by simp)) (by rw[hly];exact hlim) (fun c' h' hm' hs6 hl6=>?_);have hbl:=s1.keep hs6 fun k hk=>.inr (.inr (s1.hlabs.2.2 k hk));obtain⟨oa',s6,hoa'⟩:=add h' c' x.cons (by simpa using hm') hs6 hl6;have hepz:=hz.1;simp[hbl];exact CutK.of ⟨by simp,c',oa',s6,((hz.mono (by simp)).trans (hs6.mono fun k hk=>List.mem_cons_of_mem _ (s1.hlabs.2.2 k hk))).setBox (.inl (by simp)),fun k hk=>(hoa' k hk).imp_right fun h9=>by omega⟩
   ·rintro e h' ⟨hn,oc',oa',s6,hs6,hoa'⟩;simp[hn];refine hk1 _ _ s6.ows (hs6.mono fun k hk=>by simp only[List.mem_cons,List.mem_append] at hk ⊢;exact hk.imp_right fun h=>.inr (.inr h)) fun k hk=>?_;simp only[List.mem_append] at hk ⊢;rcases hk with hk | hk | hk
    ·exact .inl (.inl hk)
    ·exact .inl (.inr (.inl hk))
    ·exact (hoa' k hk).imp_left fun h=>.inr (.inr h)
 | false=>
 simp only[k13,cond_false] at hm;cases k14:x.kind == 14 with
 | true=>
   simp only[k14,cond_true] at hm;simp[k13,k14,e14];refine Z01 (Z7c _ l _ S S' x.cons r hm s0.ows _ (hk1.to fun h' hK=>?_));simp;exact hK
 | false=>
 simp only[k14,cond_false] at hm;cases k15:x.kind == 15 with
 | true=>
   simp only[k15,cond_true] at hm;replace hm:=hm.chk;obtain⟨hlim,hm⟩:=hm;have e1:=r_ret hm;simp only[Prod.mk.injEq] at e1;obtain⟨rfl,rfl⟩:=e1;simp[k13,k14,k15];obtain⟨y6,y12,y13,y22,b6,b12,b13,b22,f1,f2,p6,p12,p13,p22⟩:=hx0.stp;obtain⟨rfl,rfl,rfl,rfl⟩:x6=y6∧x12=y12∧x13=y13∧x22=y22:=by simpa[stpC] using f1
   have hnd0:=hd.1;rw[f2] at hd0 hk0 hnd0;have hoF:Ow ((h.setBox (h.ep,48) (stpC x x6 x12 x13 x22)).next) FkSh [.d (.str x.fk.table),x22,.d (.str x.fk.ref)] x.fk.enc b22:=by
    have:=Ow.data (c:=.d (.str x.fk.table)) (x:=.str x.fk.table) rfl (p22.join (.data (c:=.d (.str x.fk.ref)) (x:=.str x.fk.ref) rfl .nil))
    simp only[List.append_nil] at this;exact this
   have hndb:b22.Nodup:=by
    simp only[List.nodup_append] at hnd0;exact hnd0.2.1.2.1.2.1
   have hdb:∀ k ∈ b22,k.1 < ((h.setBox (h.ep,48) (stpC x x6 x12 x13 x22)).next).ep∧k ∉ l::(ta++(fa++oa)):=fun k hk=>hd0 k (by simp[hk]);have hk2:=hk0.sub (ls':=ta++(fa++oa)++b22) (fun k hk=>by simp only[List.mem_append] at hk ⊢;exact hk.imp_right fun h=>.inr (.inr (.inr h)));clear hk0 hk1 hx0 hd0;generalize hHX:(h.setBox (h.ep,48) (stpC x x6 x12 x13 x22)).next=HX at *;refine Wait.cut (Plan.then_ [0,1,2,3,4,5,6,7,8,9,10,11] .done) follows (by kernel_rfl) (fun e h'=>e.n=120∧∃ fc' fa',Sc h' l { S with fks:=S.fks++[x.fk] } tc fc' oc ta fa' oa∧Same HX h' (l::fa)∧∀ k ∈ fa',k ∈ fa∨k ∈ b22∨HX.ep≤k.1) ?_ ?_
   ·simp[hb0,bx3,e21,Plan.then_,vcPlan,Z02,Z00,callKind];refine bld_ow (x:=[.d (.str x.fk.table),x22,.d (.str x.fk.ref)]) (by simp[toDs];cases x22.toD<;>rfl) (by simp) (fun d hd2=>?_) (fun hd2=>?_)
    ·obtain⟨rfl,hT2⟩:=hoF.ofD hd2;have hz:Same HX ((HX.setArr (HX.ep,16 * 37) (some (1,3))).next) []:=Same.refl.setArr.next;simp only[Nat.reduceMul] at hz;have s1:=s0.frame hz;obtain⟨ys,my,hly,add⟩:=s1.addF;simp;refine app_mr (by simp;exact⟨rfl,rfl⟩) (by simp) (by simp) (by simp) my (RowAt.own1 (by simp)) (by rw[hly];exact hlim) (fun c' h' hm' hs6 hl6=>?_);have hbl:=s1.keep hs6 fun k hk=>.inr (.inl (s1.hlabs.2.1 k hk));obtain⟨fa',s6,hfa'⟩:=add h' c' _ _ [] hm' hs6 hl6 (hT2 h') List.nodup_nil (by simp) x.fk rfl;have hepz:=hz.1;simp[hbl];exact CutK.of ⟨by simp,c',fa',s6,((hz.mono (by simp)).trans (hs6.mono fun k hk=>List.mem_cons_of_mem _ (s1.hlabs.2.1 k hk))).setBox (.inl (by simp)),fun k hk=>(hfa' k hk).imp_right fun h9=>.inr (by rcases h9 with h9 | h9;simp at h9;omega)⟩
    ·have hz:Same HX ((HX.setBox (HX.ep,16 * 37) [.d (.str x.fk.table),x22,.d (.str x.fk.ref)]).next) []:=(Same.refl.setBox (.inr (Nat.le_refl _))).next;simp only[Nat.reduceMul] at hz;have s1:=s0.frame hz;obtain⟨ys,my,hly,add⟩:=s1.addF;simp;refine app_mr (by simp;exact⟨rfl,rfl⟩) (by simp) (by simp) (by simp) my (RowAt.new1 (x:=[.d (.str x.fk.table),x22,.d (.str x.fk.ref)]) (by simp) (by simp)) (by rw[hly];exact hlim) (fun c' h' hm' hs6 hl6=>?_);have hbl:=s1.keep hs6 fun k hk=>.inr (.inl (s1.hlabs.2.1 k hk));have hepz:=hz.1;have hep6:=hs6.1;obtain⟨fa',s6,hfa'⟩:=add h' c' _ _ b22 hm' hs6 hl6 (hoF.frame fun k hk=>by
      have h9:=hdb k hk;simp only[List.mem_cons,List.mem_append,not_or] at h9;rw[hs6.2 k (by omega) fun h8=>h9.2.2.2.1 (s1.hlabs.2.1 k h8)];exact hz.2 k h9.1 (by simp)) hndb (fun k hk=>by
      have h9:=hdb k hk;refine⟨by omega,h9.2,fun h8=>?_⟩;simp only[List.mem_cons,List.mem_append,not_or] at h9;rcases hl6 k h8 with h7 | h7
      ·exact h9.2.2.2.1 (s1.hlabs.2.1 k h7)
      ·omega) x.fk rfl
     simp[hbl];exact CutK.of ⟨by simp,c',fa',s6,((hz.mono (by simp)).trans (hs6.mono fun k hk=>List.mem_cons_of_mem _ (s1.hlabs.2.1 k hk))).setBox (.inl (by simp)),fun k hk=>(hfa' k hk).imp_right fun h9=>h9.imp_right fun h8=>by omega⟩
   ·rintro e h' ⟨hn,fc',fa',s6,hs6,hfa'⟩;simp[hn];refine hk2 _ _ s6.ows (hs6.mono fun k hk=>by simp only[List.mem_cons,List.mem_append] at hk ⊢;exact hk.imp_right fun h=>.inl (.inr (.inl h))) fun k hk=>?_;simp only[List.mem_append] at hk ⊢;rcases hk with hk | hk | hk
    ·exact .inl (.inl (.inl hk))
    ·rcases hfa' k hk with h9 | h9 | h9
     ·exact .inl (.inl (.inr (.inl h9)))
     ·exact .inl (.inr h9)
     ·exact .inr h9
    ·exact .inl (.inl (.inr (.inr hk)))
 | false=>
 simp only[k15,cond_false] at hm;cases k16:x.kind == 16 with
 | true=>
   simp only[k16,cond_true] at hm;simp[k13,k14,k15,k16,e21];refine Z01 (Z7b _ l _ S S' x.fk [.d (.str x.fk.table),x22,.d (.str x.fk.ref)] r hm s0.ows (fun h' hs'=>?_) _ (hk1.to fun h' hK=>?_))
   ·have:=(hx0.frame (h':=h') fun k hk=>hs'.2 k (hd0 k hk).1 (by simp)).stp
    obtain⟨y6,y12,y13,y22,b6,b12,b13,b22,f1,f2,p6,p12,p13,p22⟩:=this;obtain⟨rfl,rfl,rfl,rfl⟩:x6=y6∧x12=y12∧x13=y13∧x22=y22:=by simpa[stpC] using f1
    exact⟨.data rfl,p22.nfrz,.data rfl,trivial⟩
   ·simp;exact hK
 | false=>
 simp only[k16,cond_false] at hm;cases k10:x.kind == 10 with
 | true=>
   simp only[k10,cond_true] at hm;simp[k13,k14,k15,k16,k10,e11];obtain⟨y6,y12,y13,y22,b6,b12,b13,b22,f1,f2,p6,p12,p13,p22⟩:=hx0.stp;obtain⟨rfl,rfl,rfl,rfl⟩:x6=y6∧x12=y12∧x13=y13∧x22=y22:=by simpa[stpC] using f1
   have hnd0:=hd.1;rw[f2] at hd0 hk0 hnd0;refine Z01 (Z8d _ l tc fc oc ta fa oa (b12++(b13++[])) S S' x.newTable r _ hm s0 (.data (c:=.d (.str x.newTable.name)) (x:=.str x.newTable.name) rfl (p12.join (p13.join .nil))) ⟨?_,fun k hk=>?_⟩ _ ((hk0.sub fun k hk=>?_).to fun h' hK=>?_))
   ·simp only[List.nodup_append,List.append_nil,List.mem_append] at hnd0 ⊢;exact⟨hnd0.2.1.1,hnd0.2.1.2.1.1,fun a ha b hb=>hnd0.2.1.2.2 a ha b (.inl hb)⟩
   ·exact hd0 k (by simp only[List.append_nil,List.mem_append] at hk ⊢;exact .inr (hk.imp_right .inl))
   ·simp only[List.append_nil,List.mem_append] at hk ⊢;exact hk.imp_right fun h=>.inr (h.imp_right .inl)
   ·simp;exact hK
 | false=>
 simp only[k10,cond_false] at hm;replace hm:=hm.bind;obtain⟨v,hv,hm⟩:=hm;obtain⟨n,hn1⟩:∃ n:Nat,v.1=n:=⟨v.1.toNat,by have:=Zgn hv;omega⟩;simp[k13,k14,k15,k16,k10];have hepX:h.ep < ((h.setBox (h.ep,48) (stpC x x6 x12 x13 x22)).next).ep:=by simp
 generalize hHX:(h.setBox (h.ep,48) (stpC x x6 x12 x13 x22)).next=HX at *;refine Wait.cut (Plan.then_ [0,1,2,3,4,5,6,7,8,9,10] .done) follows (by kernel_rfl) (fun e h'=>e.n=120∧e.get 0=.one (.ptr l 0)∧e.get 3=.one (.ptr (h.ep,48) 0)∧e.get 5=.one (.d (.int .i64 v.1))∧e.get 6=.one (.d (.bool v.2))∧h'=HX.next) ?_ ?_
 ·simp[hb0,bx3,e1',Plan.then_,vcPlan,Z02,Z00,callKind];refine Z01 (HSpec.of_lend (c_schema_FindTable S x.table v hv) ⟨.agg s0.frz,.one (.frz (.data rfl)),trivial⟩ rfl ?_);simp;exact⟨fun _ _ x=>x,CutK.of (by simp)⟩
 ·rintro e h' ⟨hn,h0,h3,h5,h6,rfl⟩;have hs1:Same HX HX.next []:=Same.refl.next;have s1:=s0.frame hs1;have bx31:HX.next.box (h.ep,48)=some (stpC x x6 x12 x13 x22):=bx3;have hx1:=hx0.frame (h':=HX.next) fun k hk=>hs1.2 k (hd0 k hk).1 (by simp);have hd1:∀ k ∈ a6++(a12++(a13++a22)),k.1 < HX.next.ep∧k ∉ l::(ta++(fa++oa)):=fun k hk=>⟨by have:=(hd0 k hk).1;simp<;>omega,(hd0 k hk).2⟩;have hk2:=hk1.after hs1;rw[hn1] at h5;have hvn:v.1.toNat=n:=by omega
  rw[hvn] at hm;simp[hn,h6];cases hv2:v.2 with
  | false=>
    rw[hv2] at hm;have e1:=r_ret hm;simp only[Prod.mk.injEq] at e1;obtain⟨rfl,rfl⟩:=e1;simp[hn];exact hk2 _ _ s1.ows .refl (fun k hk=>.inl hk)
  | true=>
  simp only[hv2,Bool.not_true,cond_false] at hm;simp at bx31;simp[hn,h3,bx31,e0];cases k4:x.kind == 4 with
  | true=>
    simp only[k4,cond_true] at hm;simp[k4,hn,h0,h3,h5,bx31,e4];refine Z01 (Z8b _ l tc fc oc ta fa oa S S' n x.newName r hm s1 _ (hk2.to fun h' hK=>?_));simp[hn];exact hK
  | false=>
  simp only[k4,cond_false] at hm;cases k6:x.kind == 6 with
  | true=>
    simp only[k6,cond_true] at hm;simp[k4,k6,hn,h0,h3,h5,bx31,e24];refine Z01 (Z8l _ l tc fc oc _ ta fa oa _ S S' n x r hm s1 hx1 hd1 _ (hk2.to fun h' hK=>?_));simp[hn];exact hK
  | false=>
  simp only[k6,cond_false] at hm;cases k7:x.kind == 7 with
  | true=>
    simp only[k7,cond_true] at hm;simp[k4,k6,k7,hn,h0,h3,h5,bx31,e2];refine Z01 (Z8m _ l tc fc oc ta fa oa S S' n x.other r hm s1 _ (hk2.to fun h' hK=>?_));simp[hn];exact hK
  | false=>
  simp only[k7,cond_false] at hm;cases k8:x.kind == 8 with
  | true=>
    simp only[k8,cond_true] at hm;simp[k4,k6,k7,k8,hn,h0,h3,h5,bx31,e24];refine Z01 (Z7a _ l tc fc oc x6 x12 x13 x22 ta fa oa S S' n x r hm s1 _ (hk2.to fun h' hK=>?_));simp[hn];exact hK
  | false=>
  simp only[k8,cond_false] at hm;cases k9:x.kind == 9 with
  | true=>
    simp only[k9,cond_true] at hm;simp[k4,k6,k7,k8,k9,hn,h0,h3,h5,bx31,e24];refine Z01 (Z8c _ l tc fc oc x6 x12 x13 x22 ta fa oa S S' n x r hm s1 _ (hk2.to fun h' hK=>?_));simp[hn];exact hK
  | false=>
  simp only[k9,cond_false] at hm;cases k11:x.kind == 11 with
  | true=>
    simp only[k11,cond_true] at hm;simp[k4,k6,k7,k8,k9,k11,hn,h0,h3,h5,bx31,e1,e1'];refine Z01 (Z95 _ l _ S S' x.table r hm s1.ows _ (hk2.to fun h' hK=>?_));simp[hn];exact hK
  | false=>
  simp only[k11,cond_false] at hm;cases k12:x.kind == 12 with
  | true=>
    simp only[k12,cond_true] at hm;simp[k4,k6,k7,k8,k9,k11,k12,hn,h0,h3,h5,bx31,e24];refine Z01 (Z7m _ l tc fc oc _ ta fa oa _ S S' n x r hm s1 hx1 hd1 _ (hk2.to fun h' hK=>?_));simp[hn];exact hK
  | false=>
  simp only[k12,cond_false] at hm;cases k1:x.kind == 1 with
  | true=>
    simp only[k1,cond_true] at hm;simp[k4,k6,k7,k8,k9,k11,k12,k1,hn,h0,h3,h5,bx31,e24];refine Z01 (Z96 _ l tc fc oc x6 x12 x13 x22 ta fa oa S S' n x r hm s1 _ (hk2.to fun h' hK=>?_));simp[hn];exact hK
  | false=>
  simp only[k1,cond_false] at hm;simp[k4,k6,k7,k8,k9,k11,k12,k1,hn,h0,h3,h5,bx31,e24];refine Z01 (Z8e _ l tc fc oc x6 x12 x13 x22 ta fa oa S S' n x r hm s1 _ (hk2.to fun h' hK=>?_));simp[hn];exact hK
end
section
open Go.Am
def Z3z (a:Tbl) (b:Tbl):Option Bool:=
 (bif strEq a.name b.name then (bindK (Z21 a.cols b.cols) fun v4=>(bif v4 then (bindK (Z19 a.pk b.pk) fun v6=>(some v6)) else (some false))) else (some false))
instance c_schema_equalTables (a:Tbl) (b:Tbl):Con (Z3z a b) Tryz.prog 202 [.agg a.enc,.agg b.enc] (fun r=>.one (.d (.bool r))):=by
 unfold Z3z;exact go 24 Tryz.func202 rfl (by kernel_rfl) rfl rfl (by simp)
def Z32 (a:Tbl) (b:Tbl):Option Bool:=
 (bindK (Z3z a b) fun v3=>(some v3))
instance c_schema_EqualTables (a:Tbl) (b:Tbl):Con (Z32 a b) Tryz.prog 174 [.agg a.enc,.agg b.enc] (fun r=>.one (.d (.bool r))):=by
 unfold Z32;exact go 8 Tryz.func174 rfl (by kernel_rfl) rfl rfl (by simp)
def Z52 (a:Stp) (b:Stp):Option Bool:=
 (bif (a.kind == b.kind) then (bif strEq a.table b.table then (bif strEq a.other b.other then (bif strEq a.column b.column then (bif strEq a.newName b.newName then (bif (a.type == b.type) then (bindK (Z19 a.cols b.cols) fun v9=>(bif v9 then (bif strEq a.op b.op then (bif (a.value.kind == b.value.kind && (a.value.int == b.value.int && (a.value.text == b.value.text))) then (bindK (Z32 a.newTable b.newTable) fun v13=>(bif v13 then (bif (a.cons.table == b.cons.table && (a.cons.left == b.cons.left && (a.cons.op == b.cons.op && (a.cons.right == b.cons.right && (a.cons.value.kind == b.cons.value.kind && (a.cons.value.int == b.cons.value.int && (a.cons.value.text == b.cons.value.text))))))) then (bindK (Z09 a.fk b.fk) fun v16=>(some v16)) else (some false)) else (some false))) else (some false)) else (some false)) else (some false))) else (some false)) else (some false)) else (some false)) else (some false)) else (some false)) else (some false))
instance c_evolution_Equal (a:Stp) (b:Stp):Con (Z52 a b) Tryz.prog 154 [.agg a.enc,.agg b.enc] (fun r=>.one (.d (.bool r))):=by
 unfold Z52;exact go 87 Tryz.func154 rfl (by kernel_rfl) rfl rfl (by simp)
def Z2h (step:Stp):Option Stp:=
 (bif (step.kind == 1) then (some (Stp.mk step.kind step.table ByteArray.empty step.column ByteArray.empty step.type [] ByteArray.empty step.value (Tbl.mk ByteArray.empty [] []) (Cons.mk ByteArray.empty 0 ByteArray.empty 0 (GV.mk 0 0 ByteArray.empty)) (Fk.mk ByteArray.empty [] ByteArray.empty))) else (bif (step.kind == 2) then (some (Stp.mk step.kind step.table ByteArray.empty step.column ByteArray.empty 0 [] ByteArray.empty step.value (Tbl.mk ByteArray.empty [] []) (Cons.mk ByteArray.empty 0 ByteArray.empty 0 (GV.mk 0 0 ByteArray.empty)) (Fk.mk ByteArray.empty [] ByteArray.empty))) else (bif (step.kind == 3) then (some (Stp.mk step.kind step.table ByteArray.empty step.column step.newName 0 [] ByteArray.empty (GV.mk 0 0 ByteArray.empty) (Tbl.mk ByteArray.empty [] []) (Cons.mk ByteArray.empty 0 ByteArray.empty 0 (GV.mk 0 0 ByteArray.empty)) (Fk.mk ByteArray.empty [] ByteArray.empty))) else (bif (step.kind == 4) then (some (Stp.mk step.kind step.table ByteArray.empty ByteArray.empty step.newName 0 [] ByteArray.empty (GV.mk 0 0 ByteArray.empty) (Tbl.mk ByteArray.empty [] []) (Cons.mk ByteArray.empty 0 ByteArray.empty 0 (GV.mk 0 0 ByteArray.empty)) (Fk.mk ByteArray.empty [] ByteArray.empty))) else (bif (step.kind == 5) then (some (Stp.mk step.kind step.table ByteArray.empty step.column ByteArray.empty step.type [] ByteArray.empty (GV.mk 0 0 ByteArray.empty) (Tbl.mk ByteArray.empty [] []) (Cons.mk ByteArray.empty 0 ByteArray.empty 0 (GV.mk 0 0 ByteArray.empty)) (Fk.mk ByteArray.empty [] ByteArray.empty))) else (bif (step.kind == 6) then (some (Stp.mk step.kind step.table step.other ByteArray.empty ByteArray.empty 0 step.cols ByteArray.empty (GV.mk 0 0 ByteArray.empty) (Tbl.mk ByteArray.empty [] []) (Cons.mk ByteArray.empty 0 ByteArray.empty 0 (GV.mk 0 0 ByteArray.empty)) (Fk.mk ByteArray.empty [] ByteArray.empty))) else (bif (step.kind == 7) then (some (Stp.mk step.kind step.table step.other ByteArray.empty ByteArray.empty 0 [] ByteArray.empty (GV.mk 0 0 ByteArray.empty) (Tbl.mk ByteArray.empty [] []) (Cons.mk ByteArray.empty 0 ByteArray.empty 0 (GV.mk 0 0 ByteArray.empty)) (Fk.mk ByteArray.empty [] ByteArray.empty))) else (bif (step.kind == 8) then (some (Stp.mk step.kind step.table step.other step.column ByteArray.empty 0 [] step.op step.value (Tbl.mk ByteArray.empty [] []) (Cons.mk ByteArray.empty 0 ByteArray.empty 0 (GV.mk 0 0 ByteArray.empty)) (Fk.mk ByteArray.empty [] ByteArray.empty))) else (bif (step.kind == 9) then (some (Stp.mk step.kind step.table step.other step.column ByteArray.empty 0 [] ByteArray.empty (GV.mk 0 0 ByteArray.empty) (Tbl.mk ByteArray.empty [] []) (Cons.mk ByteArray.empty 0 ByteArray.empty 0 (GV.mk 0 0 ByteArray.empty)) (Fk.mk ByteArray.empty [] ByteArray.empty))) else (bif (step.kind == 10) then (some (Stp.mk step.kind ByteArray.empty ByteArray.empty ByteArray.empty ByteArray.empty 0 [] ByteArray.empty (GV.mk 0 0 ByteArray.empty) step.newTable (Cons.mk ByteArray.empty 0 ByteArray.empty 0 (GV.mk 0 0 ByteArray.empty)) (Fk.mk ByteArray.empty [] ByteArray.empty))) else (bif (step.kind == 12) then (some (Stp.mk step.kind step.table ByteArray.empty step.column ByteArray.empty 0 step.cols ByteArray.empty (GV.mk 0 0 ByteArray.empty) (Tbl.mk ByteArray.empty [] []) (Cons.mk ByteArray.empty 0 ByteArray.empty 0 (GV.mk 0 0 ByteArray.empty)) (Fk.mk ByteArray.empty [] ByteArray.empty))) else (bif (step.kind == 13) then (some (Stp.mk step.kind ByteArray.empty ByteArray.empty ByteArray.empty ByteArray.empty 0 [] ByteArray.empty (GV.mk 0 0 ByteArray.empty) (Tbl.mk ByteArray.empty [] []) step.cons (Fk.mk ByteArray.empty [] ByteArray.empty))) else (bif (step.kind == 14) then (some (Stp.mk step.kind ByteArray.empty ByteArray.empty ByteArray.empty ByteArray.empty 0 [] ByteArray.empty (GV.mk 0 0 ByteArray.empty) (Tbl.mk ByteArray.empty [] []) step.cons (Fk.mk ByteArray.empty [] ByteArray.empty))) else (bif (step.kind == 15) then (some (Stp.mk step.kind ByteArray.empty ByteArray.empty ByteArray.empty ByteArray.empty 0 [] ByteArray.empty (GV.mk 0 0 ByteArray.empty) (Tbl.mk ByteArray.empty [] []) (Cons.mk ByteArray.empty 0 ByteArray.empty 0 (GV.mk 0 0 ByteArray.empty)) step.fk)) else (bif (step.kind == 16) then (some (Stp.mk step.kind ByteArray.empty ByteArray.empty ByteArray.empty ByteArray.empty 0 [] ByteArray.empty (GV.mk 0 0 ByteArray.empty) (Tbl.mk ByteArray.empty [] []) (Cons.mk ByteArray.empty 0 ByteArray.empty 0 (GV.mk 0 0 ByteArray.empty)) step.fk)) else (some (Stp.mk step.kind step.table ByteArray.empty ByteArray.empty ByteArray.empty 0 [] ByteArray.empty (GV.mk 0 0 ByteArray.empty) (Tbl.mk ByteArray.empty [] []) (Cons.mk ByteArray.empty 0 ByteArray.empty 0 (GV.mk 0 0 ByteArray.empty)) (Fk.mk ByteArray.empty [] ByteArray.empty))))))))))))))))))
@[simp] def zs:C:=.d (.str ByteArray.empty)
@[simp] def zi:C:=.d (.int .i64 0)
@[simp] def zS:List C:=[zi,zs,zs,zs,zs,zi,.nil,zs,zi,zi,zs,zs,.nil,.nil,zs,zi,zs,zi,zi,zi,zs,zs,.nil,zs]
theorem Z8p (step:Stp) (r:Stp) (hm:Is (Z2h step) r):PSpec Tryz.prog 155 [.agg step.enc] (.agg (r.enc.map RC.d)):=by
 unfold Z2h at hm;refine PSpec.of_vc Tryz.func155 rfl (by kernel_rfl) (n:=115) rfl rfl (by simp) ?_
 try simp[*]
 refine r_cond hm ?_ ?_<;>clear hm<;>intro hc4 hm
 ·try simp[*]
  refine Wait.cut (Plan.then_ [0,1,2,4,6] (.three 3 5 7 (Plan.then_ [] (.two 5 7 (Plan.then_ [7,8,9,10,11] .done) (Plan.then_ [8] (.two 5 9 (Plan.then_ [9,10,11] .done) (Plan.then_ [5,10,11] .done))))) (Plan.then_ [] (.two 3 7 (Plan.then_ [7,8,9,10,11] .done) (Plan.then_ [3,8,9,10,11] .done))) (Plan.then_ [3,8] (.two 5 9 (Plan.then_ [9,10,11] .done) (Plan.then_ [5,10,11] .done))))) follows (by kernel_rfl) (fun e5 h5=>e5.n=115∧e5.get 2=.one (.ptr (1,32) 0)∧e5.get 3=.one (.ptr (2,48) 0)∧h5.box (1,32)=some zS∧h5.box (2,48)=some [.d (.int .i64 step.kind),.d (.str step.table),zs,.d (.str step.column),zs,.d (.int .i64 step.type),.nil,zs,.d (.int .i64 step.value.kind),.d (.int .i64 step.value.int),.d (.str step.value.text),zs,.nil,.nil,zs,zi,zs,zi,zi,zi,zs,zs,.nil,zs]) ?_ ?_
  ·try simp[*,Plan.then_,vcPlan,Z02,Z00,callKind]
   repeat' (first | with_reducible refine And.intro ?_ ?_ | (refine CutK.of ?_;simp[*];done))
  ·rintro e5 h5 ⟨hn5,h5_2,h5_3,hb5_b2,hb5_b3⟩
   try simp[*]
   obtain rfl:=r_ret hm;exact ret0 (vs:=[_]) (by simp[*];try exact rfl) (by simp[*])
 ·try simp[*]
  refine r_cond hm ?_ ?_<;>clear hm<;>intro hc6 hm
  ·try simp[*]
   refine Wait.cut (Plan.then_ [0,1,2,4] (.two 3 5 (Plan.then_ [5,6,7] .done) (Plan.then_ [3,6,7] .done))) follows (by kernel_rfl) (fun e7 h7=>e7.n=115∧e7.get 2=.one (.ptr (1,32) 0)∧e7.get 3=.one (.ptr (2,48) 0)∧h7.box (1,32)=some zS∧h7.box (2,48)=some [.d (.int .i64 step.kind),.d (.str step.table),zs,.d (.str step.column),zs,zi,.nil,zs,.d (.int .i64 step.value.kind),.d (.int .i64 step.value.int),.d (.str step.value.text),zs,.nil,.nil,zs,zi,zs,zi,zi,zi,zs,zs,.nil,zs]) ?_ ?_
   ·try simp[*,Plan.then_,vcPlan,Z02,Z00,callKind]
    repeat' (first | with_reducible refine And.intro ?_ ?_ | (refine CutK.of ?_;simp[*];done))
   ·rintro e7 h7 ⟨hn7,h7_2,h7_3,hb7_b2,hb7_b3⟩
    try simp[*]
    obtain rfl:=r_ret hm;exact ret0 (vs:=[_]) (by simp[*];try exact rfl) (by simp[*])
  ·try simp[*]
   refine r_cond hm ?_ ?_<;>clear hm<;>intro hc8 hm
   ·try simp[*]
    refine Wait.cut (Plan.then_ [0,1,2,4] (.two 3 5 (Plan.then_ [5,6,7] .done) (Plan.then_ [3,6,7] .done))) follows (by kernel_rfl) (fun e9 h9=>e9.n=115∧e9.get 2=.one (.ptr (1,32) 0)∧e9.get 3=.one (.ptr (2,48) 0)∧h9.box (1,32)=some zS∧h9.box (2,48)=some [.d (.int .i64 step.kind),.d (.str step.table),zs,.d (.str step.column),.d (.str step.newName),zi,.nil,zs,zi,zi,zs,zs,.nil,.nil,zs,zi,zs,zi,zi,zi,zs,zs,.nil,zs]) ?_ ?_
    ·try simp[*,Plan.then_,vcPlan,Z02,Z00,callKind]
     repeat' (first | with_reducible refine And.intro ?_ ?_ | (refine CutK.of ?_;simp[*];done))
    ·rintro e9 h9 ⟨hn9,h9_2,h9_3,hb9_b2,hb9_b3⟩
     try simp[*]
     obtain rfl:=r_ret hm;exact ret0 (vs:=[_]) (by simp[*];try exact rfl) (by simp[*])
   ·try simp[*]
    refine r_cond hm ?_ ?_<;>clear hm<;>intro hc10 hm
    ·try simp[*]
     obtain rfl:=r_ret hm;exact ret0 (vs:=[_]) (by simp[*];try exact rfl) (by simp[*])
    ·try simp[*]
     refine r_cond hm ?_ ?_<;>clear hm<;>intro hc11 hm
     ·try simp[*]
      refine Wait.cut (Plan.then_ [0,1,2,4] (.two 3 5 (Plan.then_ [5,6,7] .done) (Plan.then_ [3,6,7] .done))) follows (by kernel_rfl) (fun e12 h12=>e12.n=115∧e12.get 2=.one (.ptr (1,32) 0)∧e12.get 3=.one (.ptr (2,48) 0)∧h12.box (1,32)=some zS∧h12.box (2,48)=some [.d (.int .i64 step.kind),.d (.str step.table),zs,.d (.str step.column),zs,.d (.int .i64 step.type),.nil,zs,zi,zi,zs,zs,.nil,.nil,zs,zi,zs,zi,zi,zi,zs,zs,.nil,zs]) ?_ ?_
      ·try simp[*,Plan.then_,vcPlan,Z02,Z00,callKind]
       repeat' (first | with_reducible refine And.intro ?_ ?_ | (refine CutK.of ?_;simp[*];done))
      ·rintro e12 h12 ⟨hn12,h12_2,h12_3,hb12_b2,hb12_b3⟩
       try simp[*]
       obtain rfl:=r_ret hm;exact ret0 (vs:=[_]) (by simp[*];try exact rfl) (by simp[*])
     ·try simp[*]
      refine r_cond hm ?_ ?_<;>clear hm<;>intro hc13 hm
      ·try simp[*]
       refine Wait.cut (Plan.then_ [0,1,2,4] (.two 3 5 (Plan.then_ [5,6,7] .done) (Plan.then_ [3,6,7] .done))) follows (by kernel_rfl) (fun e14 h14=>e14.n=115∧e14.get 2=.one (.ptr (1,32) 0)∧e14.get 3=.one (.ptr (2,48) 0)∧h14.box (1,32)=some zS∧h14.box (2,48)=some [.d (.int .i64 step.kind),.d (.str step.table),.d (.str step.other),zs,zs,zi,.d (.sl (step.cols.map encI)),zs,zi,zi,zs,zs,.nil,.nil,zs,zi,zs,zi,zi,zi,zs,zs,.nil,zs]) ?_ ?_
       ·try simp[*,Plan.then_,vcPlan,Z02,Z00,callKind]
        repeat' (first | with_reducible refine And.intro ?_ ?_ | (refine CutK.of ?_;simp[*];done))
       ·rintro e14 h14 ⟨hn14,h14_2,h14_3,hb14_b2,hb14_b3⟩
        try simp[*]
        obtain rfl:=r_ret hm;exact ret0 (vs:=[_]) (by simp[*];try exact rfl) (by simp[*])
      ·try simp[*]
       refine r_cond hm ?_ ?_<;>clear hm<;>intro hc15 hm
       ·try simp[*]
        obtain rfl:=r_ret hm;exact ret0 (vs:=[_]) (by simp[*];try exact rfl) (by simp[*])
       ·try simp[*]
        refine r_cond hm ?_ ?_<;>clear hm<;>intro hc16 hm
        ·try simp[*]
         refine Wait.cut (Plan.then_ [0,1,2,4,6,8] (.four 3 5 7 9 (Plan.then_ [] (.three 5 7 9 (Plan.then_ [] (.two 7 9 (Plan.then_ [9,10,11,12,13,14,15] .done) (Plan.then_ [10] (.two 7 11 (Plan.then_ [11,12,13,14,15] .done) (Plan.then_ [12] (.two 7 13 (Plan.then_ [13,14,15] .done) (Plan.then_ [7,14,15] .done))))))) (Plan.then_ [] (.two 5 9 (Plan.then_ [9,10,11,12,13,14,15] .done) (Plan.then_ [10] (.two 5 11 (Plan.then_ [11,12,13,14,15] .done) (Plan.then_ [5,12,13,14,15] .done))))) (Plan.then_ [10] (.three 5 7 11 (Plan.then_ [] (.two 7 11 (Plan.then_ [11,12,13,14,15] .done) (Plan.then_ [12] (.two 7 13 (Plan.then_ [13,14,15] .done) (Plan.then_ [7,14,15] .done))))) (Plan.then_ [] (.two 5 11 (Plan.then_ [11,12,13,14,15] .done) (Plan.then_ [5,12,13,14,15] .done))) (Plan.then_ [5,12] (.two 7 13 (Plan.then_ [13,14,15] .done) (Plan.then_ [7,14,15] .done))))))) (Plan.then_ [] (.three 3 7 9 (Plan.then_ [] (.two 7 9 (Plan.then_ [9,10,11,12,13,14,15] .done) (Plan.then_ [10] (.two 7 11 (Plan.then_ [11,12,13,14,15] .done) (Plan.then_ [12] (.two 7 13 (Plan.then_ [13,14,15] .done) (Plan.then_ [7,14,15] .done))))))) (Plan.then_ [] (.two 3 9 (Plan.then_ [9,10,11,12,13,14,15] .done) (Plan.then_ [3,10,11,12,13,14,15] .done))) (Plan.then_ [3,10] (.two 7 11 (Plan.then_ [11,12,13,14,15] .done) (Plan.then_ [12] (.two 7 13 (Plan.then_ [13,14,15] .done) (Plan.then_ [7,14,15] .done))))))) (Plan.then_ [] (.three 3 5 9 (Plan.then_ [] (.two 5 9 (Plan.then_ [9,10,11,12,13,14,15] .done) (Plan.then_ [10] (.two 5 11 (Plan.then_ [11,12,13,14,15] .done) (Plan.then_ [5,12,13,14,15] .done))))) (Plan.then_ [] (.two 3 9 (Plan.then_ [9,10,11,12,13,14,15] .done) (Plan.then_ [3,10,11,12,13,14,15] .done))) (Plan.then_ [3,10] (.two 5 11 (Plan.then_ [11,12,13,14,15] .done) (Plan.then_ [5,12,13,14,15] .done))))) (Plan.then_ [3,10] (.three 5 7 11 (Plan.then_ [] (.two 7 11 (Plan.then_ [11,12,13,14,15] .done) (Plan.then_ [12] (.two 7 13 (Plan.then_ [13,14,15] .done) (Plan.then_ [7,14,15] .done))))) (Plan.then_ [] (.two 5 11 (Plan.then_ [11,12,13,14,15] .done) (Plan.then_ [5,12,13,14,15] .done))) (Plan.then_ [5,12] (.two 7 13 (Plan.then_ [13,14,15] .done) (Plan.then_ [7,14,15] .done))))))) follows (by kernel_rfl) (fun e17 h17=>e17.n=115∧e17.get 2=.one (.ptr (1,32) 0)∧e17.get 3=.one (.ptr (2,48) 0)∧h17.box (1,32)=some zS∧h17.box (2,48)=some [.d (.int .i64 step.kind),.d (.str step.table),.d (.str step.other),.d (.str step.column),zs,zi,.nil,.d (.str step.op),.d (.int .i64 step.value.kind),.d (.int .i64 step.value.int),.d (.str step.value.text),zs,.nil,.nil,zs,zi,zs,zi,zi,zi,zs,zs,.nil,zs]) ?_ ?_
         ·try simp[*,Plan.then_,vcPlan,Z02,Z00,callKind]
          repeat' (first | with_reducible refine And.intro ?_ ?_ | (refine CutK.of ?_;simp[*];done))
         ·rintro e17 h17 ⟨hn17,h17_2,h17_3,hb17_b2,hb17_b3⟩
          try simp[*]
          obtain rfl:=r_ret hm;exact ret0 (vs:=[_]) (by simp[*];try exact rfl) (by simp[*])
        ·try simp[*]
         refine r_cond hm ?_ ?_<;>clear hm<;>intro hc18 hm
         ·try simp[*]
          refine Wait.cut (Plan.then_ [0,1,2,4] (.two 3 5 (Plan.then_ [5,6,7] .done) (Plan.then_ [3,6,7] .done))) follows (by kernel_rfl) (fun e19 h19=>e19.n=115∧e19.get 2=.one (.ptr (1,32) 0)∧e19.get 3=.one (.ptr (2,48) 0)∧h19.box (1,32)=some zS∧h19.box (2,48)=some [.d (.int .i64 step.kind),.d (.str step.table),.d (.str step.other),.d (.str step.column),zs,zi,.nil,zs,zi,zi,zs,zs,.nil,.nil,zs,zi,zs,zi,zi,zi,zs,zs,.nil,zs]) ?_ ?_
          ·try simp[*,Plan.then_,vcPlan,Z02,Z00,callKind]
           repeat' (first | with_reducible refine And.intro ?_ ?_ | (refine CutK.of ?_;simp[*];done))
          ·rintro e19 h19 ⟨hn19,h19_2,h19_3,hb19_b2,hb19_b3⟩
           try simp[*]
           obtain rfl:=r_ret hm;exact ret0 (vs:=[_]) (by simp[*];try exact rfl) (by simp[*])
         ·try simp[*]
          refine r_cond hm ?_ ?_<;>clear hm<;>intro hc20 hm
          ·try simp[*]
           refine Wait.cut (Plan.then_ [0,2] (.two 1 3 (Plan.then_ [3,4,5] .done) (Plan.then_ [1,4,5] .done))) follows (by kernel_rfl) (fun e21 h21=>e21.n=115∧e21.get 2=.one (.ptr (1,32) 0)∧e21.get 3=.one (.ptr (2,48) 0)∧h21.box (1,32)=some zS∧h21.box (2,48)=some [.d (.int .i64 step.kind),zs,zs,zs,zs,zi,.nil,zs,zi,zi,zs,.d (.str step.newTable.name),.d (.sl (step.newTable.cols.map Col.enc)),.d (.sl (step.newTable.pk.map encI)),zs,zi,zs,zi,zi,zi,zs,zs,.nil,zs]) ?_ ?_
           ·try simp[*,Plan.then_,vcPlan,Z02,Z00,callKind]
            repeat' (first | with_reducible refine And.intro ?_ ?_ | (refine CutK.of ?_;simp[*];done))
           ·rintro e21 h21 ⟨hn21,h21_2,h21_3,hb21_b2,hb21_b3⟩
            try simp[*]
            obtain rfl:=r_ret hm;exact ret0 (vs:=[_]) (by simp[*];try exact rfl) (by simp[*])
          ·try simp[*]
           refine r_cond hm ?_ ?_<;>clear hm<;>intro hc22 hm
           ·try simp[*]
            refine Wait.cut (Plan.then_ [0,1,2,4] (.two 3 5 (Plan.then_ [5,6,7] .done) (Plan.then_ [3,6,7] .done))) follows (by kernel_rfl) (fun e23 h23=>e23.n=115∧e23.get 2=.one (.ptr (1,32) 0)∧e23.get 3=.one (.ptr (2,48) 0)∧h23.box (1,32)=some zS∧h23.box (2,48)=some [.d (.int .i64 step.kind),.d (.str step.table),zs,.d (.str step.column),zs,zi,.d (.sl (step.cols.map encI)),zs,zi,zi,zs,zs,.nil,.nil,zs,zi,zs,zi,zi,zi,zs,zs,.nil,zs]) ?_ ?_
            ·try simp[*,Plan.then_,vcPlan,Z02,Z00,callKind]
             repeat' (first | with_reducible refine And.intro ?_ ?_ | (refine CutK.of ?_;simp[*];done))
            ·rintro e23 h23 ⟨hn23,h23_2,h23_3,hb23_b2,hb23_b3⟩
             try simp[*]
             obtain rfl:=r_ret hm;exact ret0 (vs:=[_]) (by simp[*];try exact rfl) (by simp[*])
           ·try simp[*]
            refine r_cond hm ?_ ?_<;>clear hm<;>intro hc24 hm
            ·try simp[*]
             refine Wait.cut (Plan.then_ [0,2] (.two 1 3 (Plan.then_ [3,4,5] .done) (Plan.then_ [1,4,5] .done))) follows (by kernel_rfl) (fun e25 h25=>e25.n=115∧e25.get 2=.one (.ptr (1,32) 0)∧e25.get 3=.one (.ptr (2,48) 0)∧h25.box (1,32)=some zS∧h25.box (2,48)=some [.d (.int .i64 step.kind),zs,zs,zs,zs,zi,.nil,zs,zi,zi,zs,zs,.nil,.nil,.d (.str step.cons.table),.d (.int .i64 step.cons.left),.d (.str step.cons.op),.d (.int .i64 step.cons.right),.d (.int .i64 step.cons.value.kind),.d (.int .i64 step.cons.value.int),.d (.str step.cons.value.text),zs,.nil,zs]) ?_ ?_
             ·try simp[*,Plan.then_,vcPlan,Z02,Z00,callKind]
              repeat' (first | with_reducible refine And.intro ?_ ?_ | (refine CutK.of ?_;simp[*];done))
             ·rintro e25 h25 ⟨hn25,h25_2,h25_3,hb25_b2,hb25_b3⟩
              try simp[*]
              obtain rfl:=r_ret hm;exact ret0 (vs:=[_]) (by simp[*];try exact rfl) (by simp[*])
            ·try simp[*]
             refine r_cond hm ?_ ?_<;>clear hm<;>intro hc26 hm
             ·try simp[*]
              refine Wait.cut (Plan.then_ [0,2] (.two 1 3 (Plan.then_ [3,4,5] .done) (Plan.then_ [1,4,5] .done))) follows (by kernel_rfl) (fun e27 h27=>e27.n=115∧e27.get 2=.one (.ptr (1,32) 0)∧e27.get 3=.one (.ptr (2,48) 0)∧h27.box (1,32)=some zS∧h27.box (2,48)=some [.d (.int .i64 step.kind),zs,zs,zs,zs,zi,.nil,zs,zi,zi,zs,zs,.nil,.nil,.d (.str step.cons.table),.d (.int .i64 step.cons.left),.d (.str step.cons.op),.d (.int .i64 step.cons.right),.d (.int .i64 step.cons.value.kind),.d (.int .i64 step.cons.value.int),.d (.str step.cons.value.text),zs,.nil,zs]) ?_ ?_
              ·try simp[*,Plan.then_,vcPlan,Z02,Z00,callKind]
               repeat' (first | with_reducible refine And.intro ?_ ?_ | (refine CutK.of ?_;simp[*];done))
              ·rintro e27 h27 ⟨hn27,h27_2,h27_3,hb27_b2,hb27_b3⟩
               try simp[*]
               obtain rfl:=r_ret hm;exact ret0 (vs:=[_]) (by simp[*];try exact rfl) (by simp[*])
             ·try simp[*]
              refine r_cond hm ?_ ?_<;>clear hm<;>intro hc28 hm
              ·try simp[*]
               refine Wait.cut (Plan.then_ [0,2] (.two 1 3 (Plan.then_ [3,4,5] .done) (Plan.then_ [1,4,5] .done))) follows (by kernel_rfl) (fun e29 h29=>e29.n=115∧e29.get 2=.one (.ptr (1,32) 0)∧e29.get 3=.one (.ptr (2,48) 0)∧h29.box (1,32)=some zS∧h29.box (2,48)=some [.d (.int .i64 step.kind),zs,zs,zs,zs,zi,.nil,zs,zi,zi,zs,zs,.nil,.nil,zs,zi,zs,zi,zi,zi,zs,.d (.str step.fk.table),.d (.sl (step.fk.cols.map encI)),.d (.str step.fk.ref)]) ?_ ?_
               ·try simp[*,Plan.then_,vcPlan,Z02,Z00,callKind]
                repeat' (first | with_reducible refine And.intro ?_ ?_ | (refine CutK.of ?_;simp[*];done))
               ·rintro e29 h29 ⟨hn29,h29_2,h29_3,hb29_b2,hb29_b3⟩
                try simp[*]
                obtain rfl:=r_ret hm;exact ret0 (vs:=[_]) (by simp[*];try exact rfl) (by simp[*])
              ·try simp[*]
               refine r_cond hm ?_ ?_<;>clear hm<;>intro hc30 hm
               ·try simp[*]
                refine Wait.cut (Plan.then_ [0,2] (.two 1 3 (Plan.then_ [3,4,5] .done) (Plan.then_ [1,4,5] .done))) follows (by kernel_rfl) (fun e31 h31=>e31.n=115∧e31.get 2=.one (.ptr (1,32) 0)∧e31.get 3=.one (.ptr (2,48) 0)∧h31.box (1,32)=some zS∧h31.box (2,48)=some [.d (.int .i64 step.kind),zs,zs,zs,zs,zi,.nil,zs,zi,zi,zs,zs,.nil,.nil,zs,zi,zs,zi,zi,zi,zs,.d (.str step.fk.table),.d (.sl (step.fk.cols.map encI)),.d (.str step.fk.ref)]) ?_ ?_
                ·try simp[*,Plan.then_,vcPlan,Z02,Z00,callKind]
                 repeat' (first | with_reducible refine And.intro ?_ ?_ | (refine CutK.of ?_;simp[*];done))
                ·rintro e31 h31 ⟨hn31,h31_2,h31_3,hb31_b2,hb31_b3⟩
                 try simp[*]
                 obtain rfl:=r_ret hm;exact ret0 (vs:=[_]) (by simp[*];try exact rfl) (by simp[*])
               ·try simp[*]
                obtain rfl:=r_ret hm;exact ret0 (vs:=[_]) (by simp[*];try exact rfl) (by simp[*])
instance i_evolution_normalized (step:Stp):Con (Z2h step) Tryz.prog 155 [.agg step.enc] (fun r=>.agg (r.enc.map RC.d)):=⟨fun r hm=>Z8p step r hm⟩
def Z33 (step:Stp):Option Int:=
 (bif decide (step.kind < 1) then (some 3) else (bif decide (16 < step.kind) then (some 3) else (bindK (Z2h step) fun v4=>(bindK (Z52 step v4) fun v5=>(bif !v5 then (some 3) else (some 0))))))
instance c_evolution_Validate (step:Stp):Con (Z33 step) Tryz.prog 135 [.agg step.enc] (fun r=>.one (.d (.int .i64 r))):=by
 unfold Z33;have p1:PH [1] (Plan.then_ [0,1,2,3,4,5,6,7,8,9,10,11,12,13,14] .done):=.intro;exact go 18 Tryz.func135 rfl (by kernel_rfl) rfl rfl (by simp)
end
section
open Go Go.Am
def schZ:Sch:=⟨[],[],[]⟩
def Z1o (S:Sch) (x:Stp):Option (Sch × Int):=
 bindK (Z0i S) fun e=>bif e != 0 then some (schZ,e) else bindK (Z33 x) fun e2=>bif e2 != 0 then some (schZ,e2) else
 chkK (schOK S∧stpOK x) (bindK (Z44 S x) fun q=>bif q.2 != 0 then some (schZ,q.2) else bindK (Z0i q.1) fun e3=>bif e3 != 0 then some (schZ,e3) else some (q.1,0))
theorem Zdp {h:HS} {cs:List C} {S:Sch} {r:Int} (hf:FrzCs h cs S.enc):FrzFin h (.tup [.agg cs,.one (.d (.int .i64 r))]) (.tup [.agg (S.enc.map RC.d),.one (.d (.int .i64 r))]):=by
 match cs,hf with
 | [a,b,c],hf=>exact⟨⟨hf.1,hf.2.1,hf.2.2.1,trivial⟩,Frz.data rfl,trivial⟩
set_option maxHeartbeats 1000000 in
theorem Z57 (S:Sch) (x:Stp) (r:Sch × Int) (hm:Is (Z1o S x) r):PSpec Tryz.prog 97 [.agg S.enc,.agg x.enc] (.tup [.agg (r.1.enc.map RC.d),.one (.d (.int .i64 r.2))]):=by
 refine PSpec.of_heap ?_;obtain⟨R,q⟩:=r;simp only at hm ⊢;replace hm:=hm.bind;obtain⟨ev,hev,hm⟩:=hm;show HSpec _ _ [.agg (S.enc.map C.d),.agg (x.enc.map C.d)] HS.init _;refine HSpec.good Tryz.func97 rfl (by kernel_rfl) fun hg=>?_;refine HSpec.of_vc Tryz.func97 rfl (by kernel_rfl) (n:=39) rfl rfl (by simp) ?_;simp;refine Z01 (HSpec.of_lend (c_schema_Validate S ev hev) ⟨.agg (FrzCs.datas (ds:=S.enc)),trivial⟩ rfl ?_);simp;cases hev0:ev != 0 with
 | true=>
   simp only[hev0,cond_true] at hm;have e1:=r_ret hm;simp only[Prod.mk.injEq] at e1;obtain⟨rfl,rfl⟩:=e1;simp[hev0,retH,resVs,resV,notTup];exact Zdp ⟨.data rfl,.data rfl,.data rfl,trivial⟩
 | false=>
   simp only[hev0,cond_false] at hm;replace hm:=hm.bind;obtain⟨e2,he2,hm⟩:=hm;simp[hev0];refine Z01 (HSpec.of_lend (c_evolution_Validate x e2 he2) ⟨.agg (FrzCs.datas (ds:=x.enc)),trivial⟩ rfl ?_);simp;cases he20:e2 != 0 with
   | true=>
     simp only[he20,cond_true] at hm;have e1:=r_ret hm;simp only[Prod.mk.injEq] at e1;obtain⟨rfl,rfl⟩:=e1;simp[he20,retH,resVs,resV,notTup];exact Zdp ⟨.data rfl,.data rfl,.data rfl,trivial⟩
   | false=>
     simp only[he20,cond_false] at hm;replace hm:=hm.chk;obtain⟨⟨hS,hx⟩,hm⟩:=hm;replace hm:=hm.bind;obtain⟨⟨S1,q1⟩,hm1,hm⟩:=hm;simp only at hm;simp[he20];refine Z01 (Zed _ S hS _ (fun tc fc oc qt qf qo g1 pt pf po nd new hs1=>?_));have b4:=hs1.2 (2,64) (by simp) (by simp);have b3:=hs1.2 (1,48) (by simp) (by simp);have hep1:=hs1.1;simp at b4 b3 hep1;simp[b3];have hz:Same g1 ((g1.setBox (g1.ep,128) [.nil,.nil,.nil]).next.setBox (g1.ep,128) [tc,fc,oc]) []:=((Same.refl.setBox (.inr (Nat.le_refl _))).next).setBox (.inr (Nat.le_refl _));have sB:Sc ((g1.setBox (g1.ep,128) [.nil,.nil,.nil]).next.setBox (g1.ep,128) [tc,fc,oc]) (g1.ep,128) S tc fc oc (plabs tc qt) (plabs fc qf) (plabs oc qo):=by
      refine⟨qt,qf,qo,rfl,rfl,rfl,by simp,pt.frame fun k hk=>hz.2 k (new k (by simp[hk])).2 (by simp),pf.frame fun k hk=>hz.2 k (new k (by simp[hk])).2 (by simp),po.frame fun k hk=>hz.2 k (new k (by simp[hk])).2 (by simp),?_,fun k hk=>?_⟩
      ·rw[List.nodup_cons];exact⟨fun hk=>by have:=(new _ hk).2;simp at this,nd⟩
      ·rcases List.mem_cons.1 hk with rfl | hk
       ·simp
       ·have:=(new k hk).2;simp<;>omega
     have b4B:((g1.setBox (g1.ep,128) [.nil,.nil,.nil]).next.setBox (g1.ep,128) [tc,fc,oc]).box (2,64)=some [.nil,.nil,.nil]:=by simp[b4]
     have hepB:g1.ep < ((g1.setBox (g1.ep,128) [.nil,.nil,.nil]).next.setBox (g1.ep,128) [tc,fc,oc]).ep:=by simp
     have newB:∀ k ∈ (g1.ep,128)::(plabs tc qt++(plabs fc qf++plabs oc qo)),5≤k.1:=fun k hk=>by
      rcases List.mem_cons.1 hk with rfl | hk
      ·exact hep1
      ·have:=(new k hk).1;simpa using this
     refine Z01 (Zbx _ x hx _ (fun cs g2 lx ox ndx nwx hs2 hb2=>?_));have s2:=sB.frame hs2;have b42:g2.box (2,64)=some [.nil,.nil,.nil]:=by rw[hs2.2 _ (by simp<;>omega) (by simp)];exact b4B
     simp;refine Z01 (Zbw g2 (g1.ep,128) tc fc oc cs _ _ _ lx S S1 x q1 hm1 s2 ox ⟨ndx,fun k hk=>⟨(nwx k hk).2,fun h9=>by have:=sB.lt k h9;have:=(nwx k hk).1;omega⟩⟩ _ ?_);intro g3 ls3 ho3 hs3 hl3;obtain⟨tc3,fc3,oc3,ta3,fa3,oa3,rfl,s3⟩:=ho3.sc;have b43:g3.box (2,64)=some [.nil,.nil,.nil]:=by
      rw[hs3.2 _ (by have:=hs2.1;simp at this ⊢;omega) fun h9=>?_]
      ·exact b42
      ·simp only[List.mem_cons,List.mem_append] at h9;rcases h9 with h9 | h9 | h9
       ·simp at h9
       ·have:=newB (2,64) (by simp only[List.mem_cons,List.mem_append];exact .inr h9);simp at this
       ·have:=(nwx _ h9).1;simp at this;omega
     have hb3:=s3.box;simp;cases hq0:q1 != 0 with
     | true=>
       simp only[hq0,cond_true] at hm;have e1:=r_ret hm;simp only[Prod.mk.injEq] at e1;obtain⟨rfl,rfl⟩:=e1;simp[hq0,b43,retH,resVs,resV,notTup];exact Zdp ⟨.data rfl,.data rfl,.data rfl,trivial⟩
     | false=>
       simp only[hq0,cond_false] at hm;replace hm:=hm.bind;obtain⟨e3,he3,hm⟩:=hm;simp[hq0,hb3];refine Z01 (HSpec.of_lend (c_schema_Validate S1 e3 he3) ⟨.agg s3.frz,trivial⟩ rfl ?_);simp;cases he30:e3 != 0 with
       | true=>
         simp only[he30,cond_true] at hm;have e1:=r_ret hm;simp only[Prod.mk.injEq] at e1;obtain⟨rfl,rfl⟩:=e1;simp[he30,b43,retH,resVs,resV,notTup];exact Zdp ⟨.data rfl,.data rfl,.data rfl,trivial⟩
       | false=>
         simp only[he30,cond_false] at hm;have e1:=r_ret hm;simp only[Prod.mk.injEq] at e1;obtain⟨rfl,rfl⟩:=e1;simp[he30,b43,hb3,retH,resVs,resV,notTup];refine Zdp ((s3.frame2 (lz:=[(2,64)]) (Same.refl.next.setBox (.inl (by simp))) fun k hk h9=>?_).frz);simp at hk;subst hk;simp only[List.mem_cons] at h9;rcases h9 with h9 | h9
         ·simp at h9
         ·rcases hl3 _ h9 with h8 | h8
          ·rcases List.mem_append.1 h8 with h8 | h8
           ·have:=newB (2,64) (List.mem_cons_of_mem _ h8);simp at this
           ·have:=(nwx _ h8).1;simp at this;omega
          ·have:=hs2.1;simp at this h8;omega
end
section
open Go.Am
def Z5f (s_:List Cons):Option (List Cons):=some s_
theorem Z7p (s_:List Cons) (r:List Cons) (hm:Is (Z5f s_) r):PSpec Tryz.prog 92 [.one (.d (.sl (s_.map Cons.enc)))] (.one (.fresh 0 7 (r.map Cons.enc))):=by
 obtain rfl:=r_ret hm;refine bound1 ⟨_,Tryz.func92,by kernel_rfl,by kernel_rfl⟩ (fun hl=>?_);have hxs:∀ x ∈ s_.map Cons.enc,x.length=7:=by
  intro x hx;obtain⟨y,_,rfl⟩:=List.mem_map.1 hx;rfl
 generalize s_.map Cons.enc=xs at *;refine PSpec.of_vc Tryz.func92 rfl (by kernel_rfl) (n:=8) rfl rfl (by simp) ?_;simp;refine Z8z Z6l rfl (xs:=xs) rfl (fun b hb=>?_);cases b with
 | true=>
   have:xs=[]:=Classical.byContradiction fun h=>by simpa using hb h
   subst this;simp;exact Z4i (by simpa using GrowsV.nil)
 | false=>
   simp;refine Z7y (by simp) ?_;simp;refine Ze0 Z6l (Grows.own (by simp) (by simp) (by simp)) rfl (by decide) (by decide) hxs (by simpa using hl) ?_;simp;exact Z4i (by simpa using GrowsV.app (by simp) (by simp) hxs rfl)
def Z4w (s_:List Col):Option (List Col):=some s_
theorem Z9a (s_:List Col) (r:List Col) (hm:Is (Z4w s_) r):PSpec Tryz.prog 133 [.one (.d (.sl (s_.map Col.enc)))] (.one (.fresh 0 3 (r.map Col.enc))):=by
 obtain rfl:=r_ret hm;refine bound1 ⟨_,Tryz.func133,by kernel_rfl,by kernel_rfl⟩ (fun hl=>?_);have hxs:∀ x ∈ s_.map Col.enc,x.length=3:=by
  intro x hx;obtain⟨y,_,rfl⟩:=List.mem_map.1 hx;rfl
 generalize s_.map Col.enc=xs at *;refine PSpec.of_vc Tryz.func133 rfl (by kernel_rfl) (n:=8) rfl rfl (by simp) ?_;simp;refine Z8z Z8r rfl (xs:=xs) rfl (fun b hb=>?_);cases b with
 | true=>
   have:xs=[]:=Classical.byContradiction fun h=>by simpa using hb h
   subst this;simp;exact Z4i (by simpa using GrowsV.nil)
 | false=>
   simp;refine Z7y (by simp) ?_;simp;refine Ze0 Z8r (Grows.own (by simp) (by simp) (by simp)) rfl (by decide) (by decide) hxs (by simpa using hl) ?_;simp;exact Z4i (by simpa using GrowsV.app (by simp) (by simp) hxs rfl)
instance i_slices_Clone_Column (s_:List Col):Con (Z4w s_) Tryz.prog 133 [.one (.d (.sl (s_.map Col.enc)))] (fun r=>.one (.fresh 0 3 (r.map Col.enc))):=⟨fun r hm=>Z9a s_ r hm⟩
def Z2w (s_:List Int):Option (List Int):=some s_
theorem Z7h (s_:List Int) (r:List Int) (hm:Is (Z2w s_) r):PSpec Tryz.prog 94 [.one (.d (.sl (s_.map encI)))] (.one (.fresh 0 1 (r.map encI))):=by
 obtain rfl:=r_ret hm;refine bound1 ⟨_,Tryz.func94,by kernel_rfl,by kernel_rfl⟩ (fun hl=>?_);have hxs:∀ x ∈ s_.map encI,x.length=1:=by
  intro x hx;obtain⟨y,_,rfl⟩:=List.mem_map.1 hx;rfl
 generalize s_.map encI=xs at *;refine PSpec.of_vc Tryz.func94 rfl (by kernel_rfl) (n:=8) rfl rfl (by simp) ?_;simp;refine Z8z Za5 rfl (xs:=xs) rfl (fun b hb=>?_);cases b with
 | true=>
   have:xs=[]:=Classical.byContradiction fun h=>by simpa using hb h
   subst this;simp;exact Z4i (by simpa using GrowsV.nil)
 | false=>
   simp;refine Z7y (by simp) ?_;simp;refine Ze0 Za5 (Grows.own (by simp) (by simp) (by simp)) rfl (by decide) (by decide) hxs (by simpa using hl) ?_;simp;exact Z4i (by simpa using GrowsV.app (by simp) (by simp) hxs rfl)
instance i_slices_Clone_Int (s_:List Int):Con (Z2w s_) Tryz.prog 94 [.one (.d (.sl (s_.map encI)))] (fun r=>.one (.fresh 0 1 (r.map encI))):=⟨fun r hm=>Z7h s_ r hm⟩
def Z3h (t:Tbl):Option Tbl:=
 (bindK (Z4w t.cols) fun v3=>(bindK (Z2w t.pk) fun v4=>(some (Tbl.mk t.name v3 v4))))
instance c_schema_CloneTable (t:Tbl):Con (Z3h t) Tryz.prog 93 [.agg t.enc] (fun r=>.agg (r.enc.map RC.d)):=by
 unfold Z3h;have p1:PH [1] (Plan.then_ [0,1,2,3,5,6,4,7,8,9] .done):=.intro;exact go 12 Tryz.func93 rfl (by kernel_rfl) rfl rfl (by simp)
def Z15 (s_:Sch):Option Sch:=
 (bindK (Z5f s_.cons) fun v3=>(forK (fun (i6:Nat) (x6:Tbl) (s6:(List Tbl)) next_6=>(bindK (Z3h x6) fun v8=>(appK2 s6 [v8] fun _=>(next_6 (s6++[v8]))))) (fun (s6:(List Tbl))=>(forK (fun (i12:Nat) (x12:Fk) (s12:(List Fk)) next_12=>(bindK (Z2w x12.cols) fun v14=>(appK2 s12 [(Fk.mk x12.table v14 x12.ref)] fun _=>(next_12 (s12++[(Fk.mk x12.table v14 x12.ref)]))))) (fun (s12:(List Fk))=>(some (Sch.mk s6 s12 v3))) s_.fks 0 [])) s_.tables 0 []))
theorem Z5h (s_:Sch) (r:Sch) (hm:Is (Z15 s_) r):PSpec Tryz.prog 67 [.agg s_.enc] (.agg (r.enc.map RC.d)):=by
 unfold Z15 at hm;refine PSpec.of_vc Tryz.func67 rfl (by kernel_rfl) (n:=46) rfl rfl (by simp) ?_
 try simp[*]
 refine r_call (av:=[.one (.d (.sl (s_.cons.map Cons.enc)))]) hm (fun v hv=>Z7p _ v hv) (by simp[*]) ?_;clear hm;intro v3 hvv3 hm
 try simp[*]
 intro hl5;replace hl5:s_.tables.length≤2097152:=by simpa using hl5
 refine Wait.for (xs:=s_.tables) (s0:=[]) (fun i6 s6 e6 h6=>∃ c6_0 c6_bb4_2:C,(e6.n=46∧e6.get 1=.one (.ptr (0,16) 0)∧e6.get 2=.one (.ptr (1,32) 0)∧e6.get 3=.one (.ptr (3,48) 0)∧e6.get 13=.one (.d (.sl (s_.tables.map Tbl.enc)))∧e6.get 14=.one (.d (.int .i64 (s_.tables.length:Int)))∧e6.get 15=.one (.d (.int .i64 (i6:Int)))∧h6.box (0,16)=some [.d (.sl (s_.tables.map Tbl.enc)),.d (.sl (s_.fks.map Fk.enc)),.d (.sl (s_.cons.map Cons.enc))]∧h6.box (1,32)=some [.nil,.nil,.nil]∧h6.box (3,48)=some [c6_0,.nil,c6_bb4_2]∧Grows h6 3 c6_0 (s6.map Tbl.enc)∧Grows h6 7 c6_bb4_2 (v3.map Cons.enc))∧Apart c6_0 c6_bb4_2) hm ⟨.nil,.own (2,161) (v3.map Cons.enc),by simp (maxDischargeDepth:=20) [*],(by simp)⟩ ?_ ?_
 ·rintro i6 s6 e6 h6 ⟨c6_0,c6_bb4_2,⟨hn6,h6_1,h6_2,h6_3,h6_13,h6_14,h6_15,hb6_b1,hb6_b2,hb6_b4,gc6_0,gc6_bb4_2⟩,apc6_0_c6_bb4_2⟩ hlt6 hm;have hlc6_0:=gc6_0.list;have hdc6_0:=gc6_0.toD;have hac6_0:=gc6_0.toA;have huc6_0:=gc6_0.useUp_arr;have hlc6_bb4_2:=gc6_bb4_2.list;have hdc6_bb4_2:=gc6_bb4_2.toD;have hac6_bb4_2:=gc6_bb4_2.toA;have huc6_bb4_2:=gc6_bb4_2.useUp_arr;have hw6:IntKind.i64.wrap ((i6:Int)+1)=(i6:Int)+1:=IntWalk.i64_in _ (by omega)
  try simp[*]
  refine Wait.of (SWP.draw (Plan.then_ [0,1,2,3,4,5,6,7] .done) follows (by kernel_rfl) ?_)
  try simp[*,Plan.then_,vcPlan,Z02,Z00,callKind]
  refine r_call (av:=[.agg (s_.tables[i6]).enc]) hm (fun v hv=>c_schema_CloneTable _ v hv) (by simp[*]) ?_;clear hm;intro v8 hvv8 hm
  try simp[*,Plan.then_,vcPlan,Z02,Z00,callKind]
  try refine⟨fun (_:Lab) (_:List C) hl=>hl,?_⟩
  refine r_app (xs:=s6) (ys:=[v8]) (enc:=Tbl.enc) hm Z83 (by first | exact Grows.nil | (simp (maxDischargeDepth:=20) [*];done) | (simp (maxDischargeDepth:=20) [*];refine⟨?_,by omega⟩;intro hq;subst hq;simp at hz2<;>omega)) (by simp[*]) (by decide) (by decide) (fun _=>rfl) ?_;clear hm;intro hl10 hm g9
  try simp[*,Plan.then_,vcPlan,Z02,Z00,callKind]
  exact BackF.of (s6++[v8]) ⟨⟨.own (h6.ep+3,384) ((s6++[v8]).map Tbl.enc),c6_bb4_2,by simp (maxDischargeDepth:=20) [*],(by first | (simp[*];done) | exact gc6_bb4_2.apart (by simp))⟩,hm⟩
 ·rintro s6 e6 h6 ⟨c6_0,c6_bb4_2,⟨hn6,h6_1,h6_2,h6_3,h6_13,h6_14,h6_15,hb6_b1,hb6_b2,hb6_b4,gc6_0,gc6_bb4_2⟩,apc6_0_c6_bb4_2⟩ hm;have hlc6_0:=gc6_0.list;have hdc6_0:=gc6_0.toD;have hac6_0:=gc6_0.toA;have huc6_0:=gc6_0.useUp_arr;have hlc6_bb4_2:=gc6_bb4_2.list;have hdc6_bb4_2:=gc6_bb4_2.toD;have hac6_bb4_2:=gc6_bb4_2.toA;have huc6_bb4_2:=gc6_bb4_2.useUp_arr
  try simp[*]
  intro hl11;replace hl11:s_.fks.length≤2097152:=by simpa using hl11
  refine Wait.for (xs:=s_.fks) (s0:=[]) (fun i12 s12 e12 h12=>∃ c12_bb4_0 c12_0 c12_bb4_2:C,(e12.n=46∧e12.get 2=.one (.ptr (1,32) 0)∧e12.get 3=.one (.ptr (3,48) 0)∧e12.get 28=.one (.d (.sl (s_.fks.map Fk.enc)))∧e12.get 29=.one (.d (.int .i64 (s_.fks.length:Int)))∧e12.get 30=.one (.d (.int .i64 (i12:Int)))∧h12.box (1,32)=some [.nil,.nil,.nil]∧h12.box (3,48)=some [c12_bb4_0,c12_0,c12_bb4_2]∧Grows h12 3 c12_bb4_0 (s6.map Tbl.enc)∧Grows h12 3 c12_0 (s12.map Fk.enc)∧Grows h12 7 c12_bb4_2 (v3.map Cons.enc))∧Apart c12_bb4_0 c12_0∧Apart c12_bb4_0 c12_bb4_2∧Apart c12_0 c12_bb4_2) hm ⟨c6_0,.nil,c6_bb4_2,by simp (maxDischargeDepth:=20) [*],(by simp),(by first | assumption | exact Apart.symm (by assumption)),(by simp)⟩ ?_ ?_
  ·rintro i12 s12 e12 h12 ⟨c12_bb4_0,c12_0,c12_bb4_2,⟨hn12,h12_2,h12_3,h12_28,h12_29,h12_30,hb12_b2,hb12_b4,gc12_bb4_0,gc12_0,gc12_bb4_2⟩,apc12_bb4_0_c12_0,apc12_bb4_0_c12_bb4_2,apc12_0_c12_bb4_2⟩ hlt12 hm;have hlc12_bb4_0:=gc12_bb4_0.list;have hdc12_bb4_0:=gc12_bb4_0.toD;have hac12_bb4_0:=gc12_bb4_0.toA;have huc12_bb4_0:=gc12_bb4_0.useUp_arr;have hlc12_0:=gc12_0.list;have hdc12_0:=gc12_0.toD;have hac12_0:=gc12_0.toA;have huc12_0:=gc12_0.useUp_arr;have hlc12_bb4_2:=gc12_bb4_2.list;have hdc12_bb4_2:=gc12_bb4_2.toD;have hac12_bb4_2:=gc12_bb4_2.toA;have huc12_bb4_2:=gc12_bb4_2.useUp_arr;have hw12:IntKind.i64.wrap ((i12:Int)+1)=(i12:Int)+1:=IntWalk.i64_in _ (by omega)
   try simp[*]
   refine r_call (av:=[.one (.d (.sl ((s_.fks[i12].cols).map encI)))]) hm (fun v hv=>Z7h _ v hv) (by simp[*]) ?_;clear hm;intro v14 hvv14 hm
   try simp[*]
   refine r_app (xs:=s12) (ys:=[(Fk.mk s_.fks[i12].table v14 s_.fks[i12].ref)]) (enc:=Fk.enc) hm Z82 (by first | exact Grows.nil | (simp (maxDischargeDepth:=20) [*];done) | (simp (maxDischargeDepth:=20) [*];refine⟨?_,by omega⟩;intro hq;subst hq;simp at hz2<;>omega)) (by simp[*]) (by decide) (by decide) (fun _=>rfl) ?_;clear hm;intro hl16 hm g15
   try simp[*]
   exact BackF.of (s12++[(Fk.mk s_.fks[i12].table v14 s_.fks[i12].ref)]) ⟨⟨c12_bb4_0,.own (h12.ep+3,672) ((s12++[(Fk.mk s_.fks[i12].table v14 s_.fks[i12].ref)]).map Fk.enc),c12_bb4_2,by simp (maxDischargeDepth:=20) [*],(by first | (simp[*];done) | exact (gc12_bb4_0.apart (by simp)).symm),(by first | assumption | exact Apart.symm (by assumption)),(by first | (simp[*];done) | exact gc12_bb4_2.apart (by simp))⟩,hm⟩
  ·rintro s12 e12 h12 ⟨c12_bb4_0,c12_0,c12_bb4_2,⟨hn12,h12_2,h12_3,h12_28,h12_29,h12_30,hb12_b2,hb12_b4,gc12_bb4_0,gc12_0,gc12_bb4_2⟩,apc12_bb4_0_c12_0,apc12_bb4_0_c12_bb4_2,apc12_0_c12_bb4_2⟩ hm;have hlc12_bb4_0:=gc12_bb4_0.list;have hdc12_bb4_0:=gc12_bb4_0.toD;have hac12_bb4_0:=gc12_bb4_0.toA;have huc12_bb4_0:=gc12_bb4_0.useUp_arr;have hlc12_0:=gc12_0.list;have hdc12_0:=gc12_0.toD;have hac12_0:=gc12_0.toA;have huc12_0:=gc12_0.useUp_arr;have hlc12_bb4_2:=gc12_bb4_2.list;have hdc12_bb4_2:=gc12_bb4_2.toD;have hac12_bb4_2:=gc12_bb4_2.toA;have huc12_bb4_2:=gc12_bb4_2.useUp_arr
   try simp[*]
   obtain rfl:=r_ret hm;exact ret0 (vs:=[_]) (by simp[*];try exact rfl) (by simp[*])
instance i_schema_Clone (s_:Sch):Con (Z15 s_) Tryz.prog 67 [.agg s_.enc] (fun r=>.agg (r.enc.map RC.d)):=⟨fun r hm=>Z5h s_ r hm⟩
end
section
open Go Go.Am
theorem Zky {α β:Type} {xs:List α} {f:α→β} {Q:List β→Prop} {ρ:Type} {R:ρ→Prop} {body:Nat→α→List β→(List β→Option ρ)→Option ρ} {k:List β→Option ρ} (hl:xs.length≤1048576)
  (hb:∀ i x s next,s.length < 1048576→Wp (next (s++[f x])) R→Wp (body i x s next) R) (hk:Wp (k (xs.map f)) R):Wp (forK body k xs 0 []) R:=by
 refine Wp.for (fun i s=>s=(xs.take i).map f) (by simp) ?_ ?_
 ·intro i x s next hx hm hI hn;have hi:=(List.getElem?_eq_some_iff.1 hx).1;subst hI;refine hb i x _ next (by simp;omega) (hn _ ?_);rw[List.take_add_one,hx];simp
 ·intro s hs;rw[hs,List.take_length];exact hk
theorem Z9v (S:Sch) (h1:S.tables.length≤1048576) (h2:S.fks.length≤1048576):Wp (Z15 S) fun r=>r=S:=by
 unfold Z15;refine Wp.bind (R:=fun r=>r=S.cons) (Wp.ret rfl) fun o _ ho=>?_;subst ho;refine Zky (f:=id) (Q:=fun _=>True) h1 ?_ ?_
 ·intro i x s next hs hn;refine Wp.bind (R:=fun r=>r=x) (Wp.ret (by cases x;rfl)) fun y _ hy=>?_;subst hy;exact Wp.app (by simp;omega) hn
 ·refine Zky (f:=id) (Q:=fun _=>True) h2 ?_ ?_
  ·intro i x s next hs hn;refine Wp.bind (R:=fun r=>r=x.cols) (Wp.ret rfl) fun y _ hy=>?_;subst hy;exact Wp.app (by simp;omega) (by cases x;exact hn)
  ·exact Wp.ret (by cases S;simp)
theorem ba_eq {a b:ByteArray} (h:(a == b)=true):a=b:=by
 cases a with
 | mk d=>cases b with
   | mk e=>
     have h':(d == e)=true:=h;rw[eq_of_beq h']
theorem Z9y (a b:List Col):Wp (Z21 a b) fun r=>r=true→a=b:=by
 unfold Z21;refine Wp.cond (fun _=>Wp.ret (by simp)) fun h=>?_;have hl:a.length=b.length:=by simp at h;omega
 refine Wp.for (fun i _=>∀ j,j < i→a[j]?=b[j]?) (by intro j h;omega) (fun i x s next hx _ hI hn=>?_) fun s hI=>Wp.ret fun _=>List.ext_getElem? fun j=>?_
 ·have hi:=(List.getElem?_eq_some_iff.1 hx).1;refine Wp.get (by omega) (by omega) fun y hy _=>Wp.cond (fun _=>Wp.ret (by simp)) fun h2=>hn () fun j hj=>?_;rcases Nat.lt_or_ge j i with h3 | h3
  ·exact hI j h3
  ·obtain rfl:j=i:=by omega
   have hy':b[j]?=some y:=by rw[← hy];congr 1
   rw[hx,hy'];obtain⟨n1,k1,l1⟩:=x;obtain⟨n2,k2,l2⟩:=y;simp at h2;obtain⟨e1,e2,e3⟩:=h2;rw[ba_eq e1,e2,e3]
 ·rcases Nat.lt_or_ge j a.length with h3 | h3
  ·exact hI j h3
  ·rw[List.getElem?_eq_none h3,List.getElem?_eq_none (by omega)]
theorem Zf1 (a b:Tbl):Wp (Z32 a b) fun _=>True:=by
 unfold Z32 Z3z;refine Wp.bind (R:=fun _=>True) (Wp.cond (fun _=>Wp.bind (Z9y _ _) fun _ _ _=>Wp.cond (fun _=>Wp.bind (Z70 _ _) fun _ _ _=>Wp.ret trivial) fun _=>Wp.ret trivial) fun _=>Wp.ret trivial) fun _ _ _=>Wp.ret trivial
theorem Z9p (x:Stp):Wp (Z33 x) fun e=>e=0→1≤x.kind∧x.kind≤16:=by
 unfold Z33;refine Wp.cond (fun _=>Wp.ret (by simp)) fun h1=>Wp.cond (fun _=>Wp.ret (by simp)) fun h2=>Wp.bind (R:=fun _=>True) ?_ fun y _ _=>Wp.bind (R:=fun _=>True) ?_ fun _ _ _=>Wp.cond (fun _=>Wp.ret (by simp)) fun _=>Wp.ret fun _=>⟨by simp at h1;omega,by simp at h2;omega⟩
 ·unfold Z2h
  repeat' first | exact Wp.ret trivial | refine Wp.cond (fun _=>?_) fun _=>?_
 ·unfold Z52
  repeat' first | exact Wp.ret trivial | refine Wp.bind (Z70 _ _) fun _ _ _=>?_ | refine Wp.bind (Zf1 _ _) fun _ _ _=>?_ | refine Wp.bind (Z4q _ _) fun _ _ _=>?_ | refine Wp.cond (fun _=>?_) fun _=>?_
theorem Zd1 (xs:List Int) (v:Int):Wp (Z2u xs v) fun k=>(k=-1∧v ∉ xs)∨(0≤k∧k < xs.length∧v ∈ xs):=by
 unfold Z2u;refine Wp.for (fun i _=>∀ (j:Nat) (y:Int),j < i→xs[j]?=some y→y≠v) (by intro j y h;omega) ?_ ?_
 ·intro i x s next hx hm hI hn;have hi:=(List.getElem?_eq_some_iff.1 hx).1;refine Wp.cond (fun h=>Wp.ret (.inr ⟨by omega,by omega,?_⟩)) fun h=>hn () (Z4e hI hx ?_)
  ·have:v=x:=by simpa using h
   rw[this];exact hm
  ·intro h0;simp[h0] at h
 ·intro s hI;exact Wp.ret (.inl ⟨rfl,fun hv=>Z6t hI v hv rfl⟩)
theorem Z64 (xs:List Int) (v:Int):Wp (Z0w xs v) fun b=>b=true↔v ∈ xs:=by
 unfold Z0w;refine Wp.bind (Zd1 xs v) fun k _ hk=>Wp.ret ?_;rcases hk with ⟨rfl,h⟩ | ⟨h1,_,h⟩
 ·simp[h]
 ·simp[h,h1]
theorem Zcw (a b:List Int) (hl:a.length≤2097152):Wp (Z20 a b) fun o=>o=0→∀ v ∈ a,v ∉ b:=by
 unfold Z20;refine Wp.for (fun i s=>(0≤s∧s≤i)∧(s=0→∀ (j:Nat) (v:Int),j < i→a[j]?=some v→v ∉ b)) ⟨by simp,fun _ j v h=>by omega⟩ ?_ ?_
 ·rintro i x s next hx hm ⟨⟨h0,h1⟩,hI⟩ hn;have hi:=(List.getElem?_eq_some_iff.1 hx).1;refine Wp.bind (Z64 _ _) fun c _ hc=>Wp.cond (fun _=>Wp.chk ⟨by omega,by omega⟩ (hn _ ⟨⟨by omega,by omega⟩,fun h=>by omega⟩)) fun h=>hn _ ⟨⟨h0,by omega⟩,fun hs=>Z4e (hI hs) hx fun hb=>by rw[hc.2 hb] at h;cases h⟩
 ·rintro s ⟨_,hI⟩;exact Wp.cond (fun h=>Wp.ret fun _=>Z6t (hI (by simpa using h))) fun _=>Wp.cond (fun _=>Wp.ret (by simp)) fun _=>Wp.ret (by simp)
theorem Zck (S:Sch) (c:Cons):Wp (Z2f S c) fun q=>q.1.tables=S.tables:=by
 unfold Z2f Z14;refine Wp.bind (R:=fun k=>k < S.cons.length) (Wp.for (fun _ _=>True) trivial (fun i x s next hx _ _ hn=>Wp.cond (fun _=>Wp.ret ?_) fun _=>hn () trivial) fun _ _=>Wp.ret (by omega)) fun k _ hk=>Wp.ite (fun _=>Wp.ret rfl) fun h=>Wp.chk (by omega) (Wp.ret rfl);have hi:=(List.getElem?_eq_some_iff.1 hx).1;omega
theorem Z8g (S:Sch) (c:Fk):Wp (Z0g S c) fun q=>q.1.tables=S.tables∧q.1.cons=S.cons∧∀ f ∈ q.1.fks,f ∈ S.fks:=by
 unfold Z0g Z0e;refine Wp.bind (Wp.index fun x _=>?_) fun k _ hk=>Wp.ite (fun _=>Wp.ret ⟨rfl,rfl,fun _ h=>h⟩) fun h=>Wp.chk (by have:=hk.lt;omega) (Wp.ret ⟨rfl,rfl,fun f hf=>?_⟩)
 ·unfold Z0o;exact Wp.bind (Z4q _ _) fun _ _ _=>Wp.ret trivial
 ·simp only at hf;rcases List.mem_append.1 hf with h1 | h1
  ·exact List.mem_of_mem_take h1
  ·exact List.mem_of_mem_drop h1
end
end Go.Proofs.YthiojhcimecdgaaGreatDoor
section
namespace Go.Proofs.YthiojhcimecdgaaGreatDoor
open Go Go.Am
section
variable {α:Type}
def keepF (rm:List Int):Nat→List α→List α
 | _,[]=>[]
 | i,x::xs=>if (i:Int) ∈ rm then keepF rm (i+1) xs else x::keepF rm (i+1) xs
theorem Zep (rm:List Int) (x:α):∀ (xs:List α) (i:Nat),keepF rm i (xs++[x])=keepF rm i xs++(if ((i+xs.length:Nat):Int) ∈ rm then [] else [x])
 | [],i=>by simp only[List.nil_append,keepF,List.length_nil,Nat.add_zero]
 | y::ys,i=>by
   have h:=Zep rm x ys (i+1);rw[show i+1+ys.length=i+(y::ys).length by simp;omega] at h;simp only[List.cons_append,keepF,h];split
   ·rfl
   ·rfl
theorem Z7t {xs:List α} {i:Nat} {x:α} (h:xs[i]?=some x):xs.take (i+1)=xs.take i++[x]:=by
 rw[List.take_add_one,h];rfl
theorem Zeo (rm:List Int) {xs:List α} {i:Nat} {x:α} (h:xs[i]?=some x):keepF rm 0 (xs.take (i+1))=keepF rm 0 (xs.take i)++(if (i:Int) ∈ rm then [] else [x]):=by
 have hi:=(List.getElem?_eq_some_iff.1 h).1;rw[Z7t h,Zep,List.length_take,Nat.min_eq_left (by omega),Nat.zero_add]
end
def shF (rm:List Int) (v:Int):Int:=v - (rm.filter fun r=>decide (r < v)).length
theorem LIM_eq:LIM=2097152:=rfl
theorem w_shF (v:Int) (rm:List Int) (h0:0≤v) (h1:v < 2097152) (hl:rm.length≤2097152):Wp (Z0u v rm) fun r=>r=shF rm v:=by
 unfold Z0u;refine Wp.for (fun i s=>s=((rm.take i).filter fun r=>decide (r < v)).length) (by simp) ?_ ?_
 ·rintro i x s next hx hm rfl hn;have hi:=(List.getElem?_eq_some_iff.1 hx).1;have hb:((rm.take i).filter fun r=>decide (r < v)).length≤i:=Nat.le_trans (List.length_filter_le _ _) (by simp;omega);have e:((rm.take (i+1)).filter fun r=>decide (r < v)).length=((rm.take i).filter fun r=>decide (r < v)).length+(if x < v then 1 else 0):=by
   rw[Z7t hx,List.filter_append,List.length_append]
   by_cases h:x < v<;>simp[h]
  refine Wp.cond (fun h=>Wp.chk ⟨by omega,by omega⟩ (hn _ ?_)) fun h=>hn _ ?_
  ·have h:x < v:=by simpa using h
   rw[e,if_pos h];omega
  ·have h:¬ x < v:=by simpa using h
   rw[e,if_neg h];omega
 ·rintro s rfl;have hb:=List.length_filter_le (fun r=>decide (r < v)) (rm.take rm.length);rw[List.take_length] at hb ⊢;exact Wp.chk ⟨by omega,by omega⟩ (Wp.ret rfl)
def rmT (T:Tbl) (rm:List Int):Tbl:={ T with cols:=keepF rm 0 T.cols,pk:=T.pk.map (shF rm) }
theorem Zj7 {α:Type} {xs:List α} {p:Nat→α→Prop} {i:Nat} {x:α} (h:∀ (j:Nat) (y:α),j < i→xs[j]?=some y→p j y) (hx:xs[i]?=some x) (hp:p i x):∀ (j:Nat) (y:α),j < i+1→xs[j]?=some y→p j y:=by
 intro j y hj hy;rcases Nat.lt_or_ge j i with h1 | h1
 ·exact h j y h1 hy
 ·obtain rfl:j=i:=by omega
  rw[hx] at hy;cases hy;exact hp
def DefOK (v:GV) (c:Col):Prop:=Z0h v=some 0∧(v.kind=0→c.nullable=true)∧(v.kind≠0→v.kind=c.kind)
def colZ:Col:=⟨ByteArray.empty,0,false⟩
def colF (T:Tbl) (c:Int):Col:=(T.cols[c.toNat]?).getD colZ
structure SplitOK (T:Tbl) (cs:List Int):Prop where
 ne:cs≠[]
 rng:∀ v ∈ cs,0≤v∧v < T.cols.length
 asc:∀ (i:Nat) (a b:Int),cs[i]?=some a→cs[i+1]?=some b→a < b
 pk:∀ v ∈ cs,v ∉ T.pk
inductive EvT (S:Sch) (ts:List Tbl) (x:Stp):Prop
 | add {i:Nat} {T:Tbl} (k:x.kind=1) (hi:S.tables[i]?=some T) (hn:strEq T.name x.table=true) (hd:DefOK x.value ⟨x.column,x.type,x.value.kind == 0⟩) (e:ts=S.tables.set i { T with cols:=T.cols++[⟨x.column,x.type,x.value.kind == 0⟩] })
 | drop {i:Nat} {T:Tbl} {c:Int} {col:Col} (k:x.kind=2) (hi:S.tables[i]?=some T) (hn:strEq T.name x.table=true) (hc:Z08 T x.column=some (c,true)) (hcol:T.cols[c.toNat]?=some col) (hp:c ∉ T.pk) (hd:DefOK x.value col) (e:ts=S.tables.set i (rmT T [c]))
 | rencol {i:Nat} {T:Tbl} {c:Int} {col:Col} (k:x.kind=3) (hi:S.tables[i]?=some T) (hn:strEq T.name x.table=true) (hcol:T.cols[c.toNat]?=some col) (e:ts=S.tables.set i { T with cols:=T.cols.set c.toNat { col with name:=x.newName } })
 | ren {i:Nat} {T:Tbl} (k:x.kind=4) (hi:S.tables[i]?=some T) (hn:strEq T.name x.table=true) (ho:∀ U ∈ S.tables,strEq U.name x.newName=false) (e:ts=outerS ltT (S.tables.length - 1) 1 (S.tables.take i++S.tables.drop (i+1)++[{ T with name:=x.newName }]))
 | type {i:Nat} {T:Tbl} {c:Int} {col:Col} (k:x.kind=5) (hi:S.tables[i]?=some T) (hn:strEq T.name x.table=true) (hc:Z08 T x.column=some (c,true)) (hcol:T.cols[c.toNat]?=some col) (hp:c ∉ T.pk) (e:ts=S.tables.set i { T with cols:=T.cols.set c.toNat { col with kind:=x.type } })
 | split {i:Nat} {T:Tbl} (k:x.kind=6) (hi:S.tables[i]?=some T) (hn:strEq T.name x.table=true) (ho:∀ U ∈ S.tables,strEq U.name x.other=false) (hs:SplitOK T x.cols) (e:ts=outerS ltT S.tables.length 1 (S.tables.set i (rmT T x.cols)++[⟨x.other,(T.pk++x.cols).map (colF T),seqI T.pk.length⟩]))
 | join {i j:Nat} {T O:Tbl} (k:x.kind=7) (hi:S.tables[i]?=some T) (hn:strEq T.name x.table=true) (hj:S.tables[j]?=some O) (ho:strEq O.name x.other=true) (hij:i≠j) (hp:O.pk=seqI T.pk.length) (hk:∀ (n:Nat) (v:Int),T.pk[n]?=some v→(colF T v).kind=(colF O n).kind) (e:ts=(S.tables.set i { T with cols:=T.cols++O.cols.drop T.pk.length }).take j++(S.tables.set i { T with cols:=T.cols++O.cols.drop T.pk.length }).drop (j+1))
 | part {i:Nat} {T:Tbl} {c:Int} {col:Col} {b:Bool} (k:x.kind=8) (hi:S.tables[i]?=some T) (hn:strEq T.name x.table=true) (hc:Z08 T x.column=some (c,true)) (hcol:T.cols[c.toNat]?=some col) (hq:Z1l x.value x.op x.value=some (b,0)) (hv:Z0h x.value=some 0) (hk:x.value.kind=col.kind) (ho:∀ U ∈ S.tables,strEq U.name x.other=false) (e:ts=outerS ltT S.tables.length 1 (S.tables++[{ T with name:=x.other }]))
 | merge {i j:Nat} {T O:Tbl} (k:x.kind=9) (hi:S.tables[i]?=some T) (hn:strEq T.name x.table=true) (hj:S.tables[j]?=some O) (ho:strEq O.name x.other=true) (hij:i≠j) (hc:T.cols=O.cols) (hp:T.pk=O.pk) (e:ts=(S.tables.set i { T with pk:=T.pk++[(T.cols.length:Int)],cols:=T.cols++[⟨x.column,2,false⟩] }).filter fun t=>!strEq t.name O.name)
 | create (k:x.kind=10) (ho:∀ U ∈ S.tables,strEq U.name x.newTable.name=false) (e:ts=outerS ltT S.tables.length 1 (S.tables++[x.newTable]))
 | droptab (k:x.kind=11) (ho:∃ T ∈ S.tables,strEq T.name x.table=true) (e:ts=S.tables.filter fun t=>!strEq t.name x.table)
 | concat {i:Nat} {T:Tbl} {a b:Int} (k:x.kind=12) (hi:S.tables[i]?=some T) (hn:strEq T.name x.table=true) (hx:x.cols=[a,b]) (ha:0≤a) (hab:a < b) (hb:b < T.cols.length) (hka:(colF T a).kind=3) (hkb:(colF T b).kind=3) (hp:a ∉ T.pk∧b ∉ T.pk) (e:ts=S.tables.set i { rmT T x.cols with cols:=keepF x.cols 0 T.cols++[⟨x.column,3,(colF T a).nullable && (colF T b).nullable⟩] })
 | rule (k:13≤x.kind) (e:ts=S.tables)
end Go.Proofs.YthiojhcimecdgaaGreatDoor
end
section
namespace Go.Proofs.YthiojhcimecdgaaGreatDoor
open Go Go.Am
theorem Z6s (S:Sch) (T:Tbl) (h:S.tables.length < 19):Wp (Z0z S T) fun S'=>S'.fks=S.fks∧S'.cons=S.cons∧S'.tables=outerS ltT S.tables.length 1 (S.tables++[T]):=by
 unfold Z0z;exact Wp.chk h (Wp.ret ⟨rfl,rfl,rfl⟩)
theorem Zez (S:Sch) (x:Stp) (h:S.tables.length < 19) (hk:x.kind=10):Wp (Z37 S x.newTable) fun q=>q.2=0→EvT S q.1.tables x:=by
 unfold Z37;exact Wp.bind (Z3d _ _) fun v _ hv=>Wp.cond (fun _=>Wp.ret (by simp)) fun hf=>Wp.bind (Z6s S _ h) fun _ _ he=>Wp.ret fun _=>.create hk (hv.2.2 hf) he.2.2
theorem Zex (S:Sch) (i:Nat) (x:Stp) (h:S.tables.length < 19) {T:Tbl} (hT:S.tables[i]?=some T) (hn:strEq T.name x.table=true) (hk:x.kind=4):Wp (Z35 S i x.newName) fun q=>q.2=0→EvT S q.1.tables x:=by
 have hi:=(List.getElem?_eq_some_iff.1 hT).1;have hl:(S.tables.take i++S.tables.drop (i+1)).length=S.tables.length - 1:=by simp;omega
 unfold Z35;refine Wp.bind (Z3d _ _) fun v _ hv=>Wp.cond (fun _=>Wp.ret (by simp)) fun hf=>Wp.getN hT (Wp.bind (Z6s _ _ (by show (S.tables.take i++S.tables.drop (i+1)).length < 19;omega)) fun S1 _ hS1=>?_);have e1:=hS1.2.2;simp only at e1;rw[hl] at e1;refine Wp.count (fun _ (S2:Sch)=>S2.fks.length=S1.fks.length∧S2.tables=S1.tables) ⟨rfl,rfl⟩ ?_ ?_
 ·rintro k S2 next hk ⟨hl,ht⟩ hn;refine Wp.get (by omega) (by omega) fun f _ _=>?_
  repeat' first | exact hn _ ⟨by simpa using hl,ht⟩ | refine Wp.cond (fun _=>?_) fun _=>?_
 ·rintro S2 ⟨_,ht2⟩;refine Wp.count (fun _ (S3:Sch)=>S3.cons.length=S2.cons.length∧S3.tables=S1.tables) ⟨rfl,ht2⟩ ?_ fun S3 h3=>Wp.ret fun _=>.ren hk hT hn (hv.2.2 hf) (h3.2.trans e1);rintro k S3 next hk ⟨hl,ht⟩ hn;refine Wp.get (by omega) (by omega) fun f _ _=>?_
  repeat' first | exact hn _ ⟨by simpa using hl,ht⟩ | refine Wp.cond (fun _=>?_) fun _=>?_
theorem Z9w (S:Sch) (table:ByteArray) (mr:Int→Option Int) (P:Int→Prop) (hmr:∀ v,P v→Wp (mr v) fun _=>True)
  (hf:∀ f ∈ S.fks,strEq f.table table=true→∀ v ∈ f.cols,P v) (ho:∀ c ∈ S.cons,strEq c.table table=true→P c.left∧(0≤c.right→P c.right)) :
  Wp (Z0v S table mr) fun S'=>S'.tables=S.tables∧S'.fks.length=S.fks.length∧S'.cons.length=S.cons.length:=by
 unfold Z0v;refine Wp.count (fun i (S1:Sch)=>S1.tables=S.tables∧S1.cons=S.cons∧S1.fks.length=S.fks.length∧∀ j,i≤j→S1.fks[j]?=S.fks[j]?) ⟨rfl,rfl,rfl,fun _ _=>rfl⟩ ?_ ?_
 ·rintro i S1 next hi ⟨h1,h2,h3,h4⟩ hn;unfold Zil;refine Wp.get (by omega) (by omega) fun f hfx _=>?_;have hfx':S.fks[i]?=some f:=by rw[← h4 i (Nat.le_refl _),← hfx];congr 1
  refine Wp.cond (fun hst=>?_) fun _=>hn _ ⟨h1,h2,h3,fun j hj=>h4 j (by omega)⟩;have hP:=hf f (List.mem_of_getElem? hfx') hst;refine Wp.count (fun k (S2:Sch)=>S2.tables=S.tables∧S2.cons=S.cons∧S2.fks.length=S.fks.length∧(∀ j,i+1≤j→S2.fks[j]?=S.fks[j]?)∧∃ f',S2.fks[i]?=some f'∧f'.cols.length=f.cols.length∧∀ j,k≤j→f'.cols[j]?=f.cols[j]?)
   ⟨h1,h2,h3,fun j hj=>h4 j (by omega),f,by rw[← hfx];congr 1,rfl,fun _ _=>rfl⟩ ?_ ?_
  ·rintro k S2 next2 hk ⟨g1,g2,g3,g4,f',g5,g6,g7⟩ hn2;refine Wp.getN g5 (Wp.get (by omega) (by omega) fun v hv _=>?_);have hv':f.cols[k]?=some v:=by rw[← g7 k (Nat.le_refl _),← hv];congr 1
   refine Wp.bind (hmr v (hP v (List.mem_of_getElem? hv'))) fun w _ _=>hn2 _ ⟨g1,g2,by simpa using g3,fun j hj=>?_,⟨f'.table,f'.cols.set k w,f'.ref⟩,?_,by simpa using g6,fun j hj=>?_⟩
   ·rw[List.getElem?_set_ne (by omega)];exact g4 j hj
   ·rw[List.getElem?_set_self (by omega)]
   ·simp only;rw[List.getElem?_set_ne (by omega)];exact g7 j (by omega)
  ·rintro S2 ⟨g1,g2,g3,g4,_⟩;exact hn _ ⟨g1,g2,g3,g4⟩
 ·rintro S1 ⟨h1,h2,h3,_⟩;refine Wp.count (fun i (S2:Sch)=>S2.tables=S.tables∧S2.fks.length=S.fks.length∧S2.cons.length=S.cons.length∧∀ j,i≤j→S2.cons[j]?=S.cons[j]?) ⟨h1,h3,by rw[h2],fun _ _=>by rw[h2]⟩ ?_ fun S2 h=>Wp.ret ⟨h.1,h.2.1,h.2.2.1⟩;rintro i S2 next hi ⟨g1,g2,g3,g4⟩ hn;unfold Zik;have hi':i < S.cons.length:=by rw[← h2];exact hi
  refine Wp.get (by omega) (by omega) fun c hc _=>?_;have hc':S.cons[i]?=some c:=by rw[← g4 i (Nat.le_refl _),← hc];congr 1
  refine Wp.cond (fun _=>hn _ ⟨g1,g2,g3,fun j hj=>g4 j (by omega)⟩) fun hst=>?_;have hP:=ho c (List.mem_of_getElem? hc') (by simpa using hst);have hset:∀ c',∀ j,i+1≤j→(S2.cons.set i c')[j]?=S.cons[j]?:=fun c' j hj=>by rw[List.getElem?_set_ne (by omega)];exact g4 j (by omega)
  refine Wp.bind (hmr _ hP.1) fun v _ _=>Wp.cond (fun h=>Wp.bind (hmr _ (hP.2 (by simpa using h))) fun w _ _=>hn _ ⟨g1,g2,by simpa using g3,hset _⟩) fun _=>hn _ ⟨g1,g2,by simpa using g3,hset _⟩
theorem Z6z (S:Sch) (i:Nat) (T:Tbl) (rm:List Int) (hT:S.tables[i]?=some T) (hV:VT T) (hl:rm.length≤2097152)
  (hf:∀ f ∈ S.fks,strEq f.table T.name=true→∀ v ∈ f.cols,0≤v∧v < 6) (ho:∀ c ∈ S.cons,strEq c.table T.name=true→(0≤c.left∧c.left < 6)∧c.right < 6) :
  Wp (Z16 S i rm) fun S'=>S'.tables=S.tables.set i (rmT T rm)∧S'.fks.length=S.fks.length∧S'.cons.length=S.cons.length:=by
 unfold Z16;have hi:=(List.getElem?_eq_some_iff.1 hT).1;have h6:=hV.cols6;refine Wp.getN hT ?_;refine Wp.for (fun k (s:List Col)=>s=keepF rm 0 (T.cols.take k)) rfl ?_ ?_
 ·rintro k c s next hx hm rfl hn;unfold Zgf;refine Wp.bind (Z64 _ _) fun b _ hb=>Wp.cond (fun h=>hn _ ?_) fun h=>hn _ ?_
  ·rw[Zeo rm hx,if_neg];exact fun h'=>by rw[hb.2 h'] at h;cases h
  ·rw[Zeo rm hx,if_pos (hb.1 (by simpa using h)),List.append_nil]
 rintro cols rfl;rw[List.take_length];refine Wp.count (fun k (S1:Sch)=>S1.fks=S.fks∧S1.cons=S.cons∧S1.tables=S.tables.set i { T with pk:=(T.pk.take k).map (shF rm)++T.pk.drop k }) ⟨rfl,rfl,?_⟩ ?_ ?_
 ·simp only[List.take_zero,List.map_nil,List.nil_append,List.drop_zero];exact (Zcp hT).symm
 ·rintro k S1 next hk ⟨g1,g2,g3⟩ hn;unfold Zge;have hx:T.pk[k]?=some T.pk[k]:=List.getElem?_eq_getElem hk;have hp:=hV.pk _ (List.getElem_mem hk);refine Wp.getN (x:={ T with pk:=(T.pk.take k).map (shF rm)++T.pk.drop k }) (by rw[g3,List.getElem?_set_self hi]) (Wp.getN (x:=T.pk[k]) ?_ (Wp.bind (w_shF _ rm hp.1 (by omega) hl) fun v _ hv=>hn _ ⟨g1,g2,?_⟩))
  ·rw[List.getElem?_append_right (by simp;omega)];simp[Nat.min_eq_left (Nat.le_of_lt hk)]
  ·subst hv;simp only;rw[g3,List.set_set,Z7t hx,List.map_append]
   congr 2
   rw[List.set_append_right _ _ (by simp;omega)];simp[Nat.min_eq_left (Nat.le_of_lt hk)];rw[List.drop_eq_getElem_cons hk];rfl
 ·rintro S1 ⟨g1,g2,g3⟩;rw[List.take_length,List.drop_length,List.append_nil] at g3;refine Wp.getN (x:={ T with pk:=T.pk.map (shF rm) }) (by rw[g3,List.getElem?_set_self hi]) (Wp.bind (Z9w _ _ _ (fun v=>0≤v∧v < 6) (fun v hv=>(w_shF v rm hv.1 (by omega) hl).mono fun _ _ _=>trivial) ?_ ?_) fun S2 _ hS2=>Wp.ret ⟨?_,?_,?_⟩)
  ·simp only[g1];exact hf
  ·simp only[g2];exact fun c hc he=>⟨(ho c hc he).1,fun h=>⟨h,(ho c hc he).2⟩⟩
  ·rw[hS2.1,g3,List.set_set];rfl
  ·rw[hS2.2.1];simp only[g1]
  ·rw[hS2.2.2];simp only[g2]
theorem Zap (S:Sch) (T:Tbl) (v:Int):Wp (Z1n S T v) fun e=>e=0→v ∉ T.pk:=by
 unfold Z1n Z1d Z10;refine Wp.bind (Z64 _ _) fun b _ hb=>Wp.cond (fun _=>Wp.ret (by simp)) fun h1=>?_;have hn:v ∉ T.pk:=fun h=>by rw[hb.2 h] at h1;cases h1
 refine Wp.bind (Z41 _ _ fun x _=>?_) fun _ _ _=>Wp.cond (fun _=>Wp.ret (by simp)) fun _=>Wp.bind (R:=fun _=>True) (Wp.bind (Wp.index fun x _=>?_) fun _ _ _=>Wp.ret trivial) fun _ _ _=>Wp.cond (fun _=>Wp.ret (by simp)) fun _=>Wp.ret fun _=>hn
 ·unfold Z1y;exact Wp.cond (fun _=>Wp.bind (Z64 _ _) fun _ _ _=>Wp.ret trivial) fun _=>Wp.ret trivial
 ·unfold Z1x;exact Wp.cond (fun _=>Wp.cond (fun _=>Wp.ret trivial) fun _=>Wp.ret trivial) fun _=>Wp.ret trivial
theorem Z9x (v:GV) (c:Col):Wp (Z1c v c) fun e=>e=0→DefOK v c:=by
 unfold Z1c;refine Wp.bind (Z4c _) fun e he _=>Wp.cond (fun h=>Wp.ret fun h0=>by simp[h0] at h) fun h=>?_;obtain rfl:e=0:=by simpa using h
 refine Wp.cond (fun h1=>?_) fun h1=>?_
 ·have k0:v.kind=0:=by simpa using h1
  refine Wp.cond (fun _=>Wp.ret (by simp)) fun h2=>Wp.cond (fun h3=>by simp[k0] at h3) fun _=>Wp.ret fun _=>⟨he,fun _=>by simpa using h2,fun h=>absurd k0 h⟩
 ·have k0:v.kind≠0:=by simpa using h1
  refine Wp.cond (fun h2=>Wp.cond (fun _=>Wp.ret (by simp)) fun h3=>Wp.ret fun _=>⟨he,fun h=>absurd h k0,fun _=>by simpa using h3⟩) fun h2=>by simp[k0] at h2
section
variable {S:Sch} {i:Nat} {T:Tbl}
theorem Zh1 (x:Stp) (hT:S.tables[i]?=some T) (hV:VT T) (hn:strEq T.name x.table=true) (hk:x.kind=1):Wp (Z3t S i x) fun q=>q.2=0→EvT S q.1.tables x:=by
 unfold Z3t;have h1:=hV.cols0;have h2:=hV.cols6;exact Wp.bind (Z9x _ _) fun e _ he=>Wp.cond (fun h=>Wp.ret fun h0=>by simp only at h0;simp[h0] at h) fun h=>Wp.getN hT (Wp.chk ⟨h1,by have:=LIM_eq;omega⟩ (Wp.ret fun _=>.add hk hT hn (he (by simpa using h)) rfl))
theorem VS.hf (h:VS S) (nm:ByteArray):∀ f ∈ S.fks,strEq f.table nm=true→∀ v ∈ f.cols,0≤v∧v < 6:=fun f hf _=>(h.fk f hf).2
theorem VS.ho (h:VS S) (nm:ByteArray):∀ c ∈ S.cons,strEq c.table nm=true→(0≤c.left∧c.left < 6)∧c.right < 6:=fun c hc _=>⟨(h.con c hc).1,(h.con c hc).2.2⟩
theorem Zf0 (x:Stp) (hT:S.tables[i]?=some T) (hS:VS S) (hn:strEq T.name x.table=true) (hk:x.kind=2∨x.kind=3∨x.kind=5):Wp (Z38 S i x) fun q=>q.2=0→EvT S q.1.tables x:=by
 unfold Z38;have hV:=hS.tab T (List.mem_of_getElem? hT);refine Wp.getN hT (Wp.bind (Z7d _ _) fun r hr0 hr=>Wp.cond (fun _=>Wp.ret (by simp)) fun h=>?_);have h':r.2=true:=by simpa using h
 have hr1:=hr.2.1 h';have hc:Z08 T x.column=some (r.1,true):=by rw[hr0,← h']
 refine Wp.cond (fun k3=>Wp.bind (Z7d _ _) fun _ _ _=>Wp.cond (fun _=>Wp.ret (by simp)) fun _=>Wp.get hr.1 hr1 fun _ hcol _=>Wp.ret fun _=>.rencol (by simpa using k3) hT hn hcol rfl) fun k3=>?_;refine Wp.bind (Zap _ _ _) fun e _ he=>Wp.cond (fun h=>Wp.ret fun h0=>by simp only at h0;simp[h0] at h) fun h0=>Wp.cond (fun k5=>Wp.get hr.1 hr1 fun _ hcol _=>Wp.ret fun _=>.type (by simpa using k5) hT hn hc hcol (he (by simpa using h0)) rfl) fun k5=>Wp.get hr.1 hr1 fun _ hcol _=>?_;have k2:x.kind=2:=hk.resolve_right fun h=>h.elim (fun h=>by simp[h] at k3) fun h=>by simp[h] at k5
 exact Wp.bind (Z9x _ _) fun e _ hd=>Wp.cond (fun h=>Wp.ret fun h0=>by simp only at h0;simp[h0] at h) fun hd0=>Wp.bind (Z6z S i T [r.1] hT hV (by simp) (hS.hf _) (hS.ho _)) fun _ _ hr=>Wp.ret fun _=>.drop k2 hT hn hc hcol (he (by simpa using h0)) (hd (by simpa using hd0)) hr.1
theorem Zgh {α:Type} {rm:List Int}:∀ {xs:List α} {i:Nat},(∃ k,k < xs.length∧((i+k:Nat):Int) ∉ rm)→0 < (keepF rm i xs).length
 | [],_,⟨k,h,_⟩=>by simp at h
 | x::xs,i,⟨k,h,h2⟩=>by
   unfold keepF;split
   ·rename_i h3;cases k with
    | zero=>exact absurd h3 h2
    | succ k=>exact Zgh ⟨k,by simpa using h,by rw[show i+1+k=i+(k+1) by omega];exact h2⟩
   ·simp
theorem Zim {α:Type} {rm:List Int}:∀ {xs:List α} {i:Nat},(keepF rm i xs).length≤xs.length
 | [],_=>Nat.le_refl _
 | x::xs,i=>by
   unfold keepF
   have:=Zim (rm:=rm) (xs:=xs) (i:=i+1)
   split<;>simp<;>omega
theorem Zcx (x:Stp) (hT:S.tables[i]?=some T) (hS:VS S) (hn:strEq T.name x.table=true) (hk:x.kind=12):Wp (Z2s S i x) fun q=>q.2=0→EvT S q.1.tables x:=by
 unfold Z2s;have hV:=hS.tab T (List.mem_of_getElem? hT);have hi:=(List.getElem?_eq_some_iff.1 hT).1;refine Wp.getN hT (Wp.cond (fun _=>Wp.ret (by simp)) fun h1=>?_);have hl:x.cols.length=2:=by simp at h1;omega
 obtain⟨a,b,hab⟩:∃ a b,x.cols=[a,b]:=by
  match x.cols,hl with
  | [a,b],_=>exact⟨a,b,rfl⟩
 rw[hab];refine Wp.get (by omega) (by simp) fun a' ha _=>Wp.cond (fun _=>Wp.ret (by simp)) fun h2=>Wp.get (by omega) (by simp) fun b' hb _=>Wp.cond (fun _=>Wp.ret (by simp)) fun h3=>Wp.cond (fun _=>Wp.ret (by simp)) fun h4=>?_;simp at ha hb h2 h3 h4;subst ha hb;refine Wp.for (fun j nul=>(∀ (k:Nat) (y:Int),k < j→([a,b]:List Int)[k]?=some y→(colF T y).kind=3)∧nul=(([a,b]:List Int).take j).all fun y=>(colF T y).nullable) ⟨by intro j y h;omega,rfl⟩ ?_ fun nul hnul=>?_
 ·rintro j col s next hx hm ⟨hI,rfl⟩ hn;have hc:col=a∨col=b:=by simpa using hm
  refine Wp.get (by omega) (by omega) fun c hcc _=>Wp.cond (fun _=>Wp.ret (by simp)) fun hk3=>hn _ ⟨Z4e hI hx ?_,?_⟩
  ·simpa[colF,hcc] using hk3
  ·rw[Z7t hx,List.all_append];simp[colF,hcc]
 refine Wp.for (fun i _=>∀ (j:Nat) (y:Int),j < i→([a,b]:List Int)[j]?=some y→y ∉ T.pk) (by intro j y h;omega) ?_ fun s hI=>?_
 ·intro j col s next hx hm hI hn;exact Wp.bind (Zap _ _ _) fun e _ he=>Wp.cond (fun h=>Wp.ret fun h0=>by simp only at h0;simp[h0] at h) fun h=>hn () (Z4e hI hx (he (by simpa using h)))
 ·have hU:=Z6t hI;have hK:=Z6t hnul.1;refine Wp.bind (Z6z S i T [a,b] hT hV (by simp) (hS.hf _) (hS.ho _)) fun S1 _ hS1=>?_;have h6:=hV.cols6;have hle:=Zim (rm:=[a,b]) (xs:=T.cols) (i:=0);refine Wp.getN (x:=rmT T [a,b]) (by rw[hS1.1,List.getElem?_set_self hi]) (Wp.chk ⟨?_,by have:=LIM_eq;show (keepF _ _ _).length < _;omega⟩ (Wp.ret fun _=>.concat hk hT hn hab h2 h3 h4 (hK a (by simp)) (hK b (by simp)) ⟨hU a (by simp),hU b (by simp)⟩ ?_))
  ·have hp0:=hV.pk0;have hp:=hV.pk _ (List.getElem_mem hp0);refine Zgh ⟨(T.pk[0]).toNat,by omega,fun hin=>?_⟩;rw[show ((0+(T.pk[0]).toNat:Nat):Int)=T.pk[0] by omega] at hin;exact hU _ hin (List.getElem_mem hp0)
  ·rw[hnul.2,hab];simp only;rw[hS1.1,List.set_set];simp[rmT]
theorem Zh0 (x:Stp) (hT:∃ T ∈ S.tables,strEq T.name x.table=true) (hk:x.kind=11):Wp (Z3s S x.table) fun q=>q.2=0→EvT S q.1.tables x:=by
 unfold Z3s;refine Wp.bind (Z41 _ _ fun x _=>?_) fun _ _ _=>Wp.ite (fun _=>Wp.ret (by simp)) fun _=>Wp.ret fun _=>.droptab hk hT rfl;unfold Z2a;exact Wp.cond (fun _=>Wp.ret trivial) fun _=>Wp.ret trivial
end
end Go.Proofs.YthiojhcimecdgaaGreatDoor
end
section
namespace Go.Proofs.YthiojhcimecdgaaGreatDoor
open Go Go.Am
theorem Zk6 {a b:ByteArray}:strEq a b=strEq b a:=by
 unfold strEq
 first | exact Bool.beq_comm | exact BEq.comm | exact decide_eq_decide.2 eq_comm
section
variable {S:Sch} {i:Nat} {T:Tbl}
theorem Zfx (x:Stp) (hl:x.cols.length≤1048576):Wp (Z2i S T x) fun e=>e=0→SplitOK T x.cols∧∀ t ∈ S.tables,strEq t.name x.other=false:=by
 have hL:=LIM_eq;unfold Z2i;refine Wp.for (fun i _=>(∀ (j:Nat) (y:Int),j < i→x.cols[j]?=some y→0≤y∧y < T.cols.length)∧∀ (j:Nat) (a b:Int),j+1 < i→x.cols[j]?=some a→x.cols[j+1]?=some b→a < b) ⟨by intro j y h;omega,by intro j a b h;omega⟩ ?_ ?_
 ·rintro i y s next hx hm ⟨hI,hJ⟩ hn;have hi:=(List.getElem?_eq_some_iff.1 hx).1;refine Wp.cond (fun _=>Wp.ret (by simp)) fun h1=>Wp.cond (fun _=>Wp.ret (by simp)) fun h2=>?_;have hnx:=Z4e hI hx ⟨by simpa using h1,by simpa using h2⟩;refine Wp.cond (fun h3=>?_) fun h3=>hn () ⟨hnx,fun j a b hj ha hb=>by simp at h3;omega⟩;have h3':0 < i:=by simpa using h3
  refine Wp.chk ⟨by omega,by omega⟩ (Wp.get (by omega) (by omega) fun z hz _=>Wp.cond (fun _=>Wp.ret (by simp)) fun h4=>hn () ⟨hnx,fun j a b hj ha hb=>?_⟩);rcases Nat.lt_or_ge (j+1) i with h5 | h5
  ·exact hJ j a b h5 ha hb
  ·obtain rfl:i=j+1:=by omega
   rw[hx] at hb;rw[show (((j+1:Nat):Int) - 1).toNat=j by omega,ha] at hz;cases hb;cases hz;simpa using h4
 ·rintro s ⟨hI,hJ⟩;refine Wp.cond (fun _=>Wp.ret (by simp)) fun h0=>Wp.bind (Zcw _ _ (by omega)) fun o _ ho=>Wp.cond (fun _=>Wp.ret (by simp)) fun h1=>Wp.bind (Z3d _ _) fun v _ hv=>Wp.cond (fun _=>Wp.ret (by simp)) fun h=>Wp.ret fun _=>⟨⟨fun he=>by simp[he] at h0,Z6t hI,fun n a b ha hb=>hJ n a b (List.getElem?_eq_some_iff.1 hb).1 ha hb,ho (by simpa using h1)⟩,hv.2.2 h⟩
theorem Z7i (v n:Int) (x:Stp) (hl:x.cols.length≤1048576) (h0:0≤n) (h6:n≤6):Wp (Z0t v n x) fun _=>True:=by
 have hL:=LIM_eq;unfold Z0t;refine Wp.bind (Zd1 _ _) fun k _ hk=>Wp.chk ?_ (Wp.ret trivial);rcases hk with ⟨rfl,_⟩ | ⟨h1,h2,_⟩
 ·exact⟨by omega,by omega⟩
 ·exact⟨by omega,by omega⟩
def SpF (S:Sch) (other:ByteArray) (S1:Sch):Prop:=S1.tables=S.tables∧S1.cons=S.cons∧S1.fks.length=S.fks.length∧∀ f ∈ S1.fks,f.cols.length≤6∧(f.table=other∨f ∈ S.fks)
theorem Zhe {α:Type} {xs:List α} {k:Nat} {a b:α} (h:b ∈ xs.set k a):b ∈ xs∨b=a:=List.mem_or_eq_of_mem_set h
theorem Zfv (x:Stp) (hT:S.tables[i]?=some T) (hS:VS S) (hl:x.cols.length≤1048576) (hn:strEq T.name x.table=true) (hkd:x.kind=6):Wp (Z3i S i x) fun q=>q.2=0→EvT S q.1.tables x:=by
 have hnm:=hn;have hL:=LIM_eq;have hV:=hS.tab T (List.mem_of_getElem? hT);have hpk:=hV.pk6;have hc6:=hV.cols6;unfold Z3i;refine Wp.getN hT (Wp.bind (Zfx x hl) fun e _ he=>Wp.cond (fun h=>Wp.ret fun h0=>by simp only at h0;simp[h0] at h) fun he0=>?_);obtain⟨hsp,hoth⟩:=he (by simpa using he0);have hcol:=hsp.rng;have hne:strEq x.other T.name=false:=by rw[Zk6];exact hoth T (List.mem_of_getElem? hT)
 refine Wp.count (fun _ S1=>SpF S x.other S1) ⟨rfl,rfl,rfl,fun f hf=>⟨(hS.fk f hf).1,.inr hf⟩⟩ ?_ ?_
 ·rintro k S1 next hk ⟨h1,h2,h3,h4⟩ hn;unfold Zii;refine Wp.get (by omega) (by omega) fun f hf hfm=>Wp.cond (fun _=>hn _ ⟨h1,h2,h3,h4⟩) fun _=>?_;have hf6:=(h4 f hfm).1;refine Wp.bind (Zcw _ _ (by omega)) fun o _ _=>Wp.cond (fun _=>Wp.ret (by simp)) fun _=>Wp.cond (fun _=>?_) fun _=>hn _ ⟨h1,h2,h3,h4⟩;refine Wp.count (fun _ S2=>SpF S x.other S2∧∃ f',S2.fks[k]?=some f'∧f'.cols.length=f.cols.length∧f'.table=x.other) ⟨⟨h1,h2,by simpa using h3,?_⟩,⟨x.other,f.cols,f.ref⟩,List.getElem?_set_self (by omega),rfl,rfl⟩ ?_ fun S2 h=>hn _ h.1
  ·intro g hg;rcases Zhe hg with h | rfl
   ·exact h4 g h
   ·exact⟨hf6,.inl rfl⟩
  ·rintro j S2 next2 hj ⟨⟨g1,g2,g3,g4⟩,f',g5,g6,g7⟩ hn2;unfold Zij;refine Wp.getN g5 (Wp.get (by omega) (by omega) fun v _ _=>Wp.bind (Z7i _ _ _ hl (by omega) (by omega)) fun w _ _=>hn2 _ ⟨⟨g1,g2,by simpa using g3,fun g hg=>?_⟩,⟨f'.table,f'.cols.set j w,f'.ref⟩,List.getElem?_set_self (by omega),by simpa using g6,g7⟩);rcases Zhe hg with h | rfl
   ·exact g4 g h
   ·exact⟨by simp;omega,.inl g7⟩
 rintro S1 ⟨h1,h2,h3,h4⟩;refine Wp.count (fun _ (S2:Sch)=>S2.tables=S.tables∧S2.fks=S1.fks∧S2.cons.length=S.cons.length∧∀ c ∈ S2.cons,c.table=x.other∨c ∈ S.cons) ⟨h1,rfl,by rw[h2],fun c hc=>.inr (h2 ▸ hc)⟩ ?_ ?_
 ·rintro k S2 next hk ⟨g1,g2,g3,g4⟩ hn;rw[h2] at hk;unfold Zih;refine Wp.get (by omega) (by omega) fun c hc hcm=>Wp.cond (fun _=>hn _ ⟨g1,g2,g3,g4⟩) fun _=>?_;refine Wp.bind (R:=fun cc=>cc.length≤2) ?_ fun cc _ hcc=>Wp.bind (Zcw _ _ (by omega)) fun o _ _=>Wp.cond (fun _=>Wp.ret (by simp)) fun _=>Wp.cond (fun _=>?_) fun _=>hn _ ⟨g1,g2,g3,g4⟩
  ·unfold Z1z;exact Wp.cond (fun _=>Wp.ret (by simp)) fun _=>Wp.ret (by simp)
  ·have hset:∀ c':Cons,c'.table=x.other→∀ d ∈ S2.cons.set k c',d.table=x.other∨d ∈ S.cons:=by
    intro c' hc' d hd;rcases Zhe hd with h | rfl
    ·exact g4 d h
    ·exact .inl hc'
   refine Wp.bind (Z7i _ _ _ hl (by omega) (by omega)) fun v _ _=>Wp.cond (fun _=>Wp.bind (Z7i _ _ _ hl (by omega) (by omega)) fun w _ _=>hn _ ⟨g1,g2,by simpa using g3,hset _ rfl⟩) fun _=>hn _ ⟨g1,g2,by simpa using g3,hset _ rfl⟩
 rintro S2 ⟨g1,g2,g3,g4⟩;refine Wp.chk ?_ (Wp.for (fun j s=>s=((T.pk++x.cols).take j).map (colF T)) rfl ?_ ?_)
 ·omega
 ·rintro j col s next hx hm rfl hn;unfold Zfe;have hb:0≤col∧col < T.cols.length:=by
   rcases List.mem_append.1 hm with h | h
   ·exact hV.pk col h
   ·exact hcol col h
  refine Wp.get hb.1 hb.2 fun c hc _=>hn _ ?_;rw[Z7t hx,List.map_append];simp[colF,hc]
 ·rintro oc rfl;unfold Zbr;refine Wp.bind (Z6z S2 i T x.cols (by rw[g1];exact hT) hV (by omega) ?_ ?_) fun S3 _ hS3=>Wp.bind (Z6s S3 _ ?_) fun S4 _ hS4=>Wp.chk ?_ (Wp.ret fun _=>.split hkd hT hnm hoth hsp ?_)
  ·intro f hf hfe;rw[g2] at hf;rcases (h4 f hf).2 with h | h
   ·rw[h,hne] at hfe;cases hfe
   ·exact (hS.fk f h).2
  ·intro c hc hce;rcases g4 c hc with h | h
   ·rw[h,hne] at hce;cases hce
   ·exact⟨(hS.con c h).1,(hS.con c h).2.2⟩
  ·have:=hS.t6;rw[hS3.1,g1,List.length_set];omega
  ·have:=hS.f8;rw[hS4.1,hS3.2.1,g2,h3];omega
  ·simp only;rw[hS4.2.2,hS3.1,g1,List.length_set,List.take_length]
end
end Go.Proofs.YthiojhcimecdgaaGreatDoor
end
section
namespace Go.Proofs.YthiojhcimecdgaaGreatDoor
open Go Go.Am
theorem VT.pkle {T:Tbl} (h:VT T):T.pk.length≤T.cols.length:=by
 have:∀ (n:Nat) (v:Int),T.pk[n]?=some v→(n:Int)≤v:=by
  intro n
  induction n with
  | zero=>intro v hv;have:=(h.pk v (List.mem_of_getElem? hv)).1;omega
  | succ n ih=>
    intro v hv;have hn:=(List.getElem?_eq_some_iff.1 hv).1;have h1:=ih _ (List.getElem?_eq_getElem (by omega));have h2:=h.asc n _ v (List.getElem?_eq_getElem (by omega)) hv;omega
 have hp:=h.pk0;have h1:=this (T.pk.length - 1) _ (List.getElem?_eq_getElem (by omega));have h2:=(h.pk _ (List.getElem_mem (show T.pk.length - 1 < T.pk.length by omega))).2;omega
section
variable {S:Sch} {i:Nat} {T:Tbl}
theorem Ze5 (v:Int) (h0:0≤v) (h6:v < 6) (n:Nat) (hn:n=T.pk.length) (m:Nat) (hm:m≤6) (hn6:n≤6):Wp (Z23 v n T m) fun _=>True:=by
 subst hn;unfold Z23;refine Wp.cond (fun h=>?_) fun _=>Wp.chk ⟨by omega,by omega⟩ (Wp.chk ⟨by omega,by omega⟩ (Wp.ret trivial));exact Wp.get h0 (by simpa using h) fun _ _ _=>Wp.ret trivial
theorem Zfw (x:Stp) (hT:S.tables[i]?=some T) (hS:VS S) (hn:strEq T.name x.table=true) (hkd:x.kind=7):Wp (Z3j S i x.other) fun q=>q.2=0→EvT S q.1.tables x:=by
 have hnm:=hn;have hL:=LIM_eq;have hV:=hS.tab T (List.mem_of_getElem? hT);have hpk:=hV.pk6;have hc6:=hV.cols6;have hc0:=hV.cols0;have hi:=(List.getElem?_eq_some_iff.1 hT).1;unfold Z3j;refine Wp.bind (Z3d S x.other) fun v _ hv=>Wp.cond (fun _=>Wp.ret (by simp)) fun hf=>Wp.getN hT (Wp.get hv.1 (hv.2.1 (by simpa using hf)).1 fun O hO hOm=>Wp.cond (fun _=>Wp.ret (by simp)) fun hiv=>Wp.bind (Z70 _ _) fun b _ hb=>Wp.cond (fun _=>Wp.ret (by simp)) fun hb1=>?_);have hVO:=hS.tab O hOm;have hOpk:O.pk=seqI T.pk.length:=hb (by simpa using hb1);have hOl:T.pk.length≤O.cols.length:=by
  have:=hVO.pkle
  rw[hOpk] at this;simpa[seqI] using this
 have hO6:=hVO.cols6;have hO0:=hVO.cols0;refine Wp.for (fun i _=>∀ (n:Nat) (v:Int),n < i→T.pk[n]?=some v→(colF T v).kind=(colF O n).kind) (by intro n v h;omega) ?_ fun _ hKK=>?_
 ·intro j col s next hx hm hKK hn;have hj:=(List.getElem?_eq_some_iff.1 hx).1;have hp:=hV.pk col hm;unfold Zhj;exact Wp.get hp.1 hp.2 fun a ha _=>Wp.get (by omega) (by omega) fun b hb _=>Wp.cond (fun _=>Wp.ret (by simp)) fun hkk=>hn () (Zj7 (p:=fun n v=>(colF T v).kind=(colF O n).kind) hKK hx (by simp only[colF,ha,hb,Option.getD_some];simpa using hkk))
 refine Wp.bind (Z8g S _) fun q _ hq=>Wp.cond (fun _=>Wp.ret (by simp)) fun _=>Wp.bind (Z41 _ _ fun x _=>Wp.ret (by simp)) fun _ _ _=>Wp.cond (fun _=>Wp.ret (by simp)) fun _=>?_;refine Wp.bind (Z9w q.1 x.other _ (fun v=>0≤v∧v < 6) (fun v hv=>Ze5 v hv.1 hv.2 _ rfl _ hc6 hpk) (fun f hf _=>(hS.fk f (hq.2.2 f hf)).2) (fun c hc _=>?_)) fun S2 _ hS2=>?_
 ·rw[hq.2.1] at hc;exact⟨(hS.con c hc).1,fun h=>⟨h,(hS.con c hc).2.2⟩⟩
 refine Wp.count (fun _ (S3:Sch)=>S3.fks.length=S2.fks.length∧S3.tables=S2.tables) ⟨rfl,rfl⟩ ?_ fun S3 h3=>Wp.count (fun _ (S4:Sch)=>S4.cons.length=S3.cons.length∧S4.tables=S2.tables) ⟨rfl,h3.2⟩ ?_ fun S4 h4=>?_
 ·rintro k S3 next hk ⟨hl,ht⟩ hn;unfold Zhg;exact Wp.get (by omega) (by omega) fun _ _ _=>Wp.cond (fun _=>hn _ ⟨by simpa using hl,ht⟩) fun _=>hn _ ⟨hl,ht⟩
 ·rintro k S4 next hk ⟨hl,ht⟩ hn;unfold Zhf;exact Wp.get (by omega) (by omega) fun _ _ _=>Wp.cond (fun _=>hn _ ⟨by simpa using hl,ht⟩) fun _=>hn _ ⟨hl,ht⟩
 ·unfold Zdg;obtain⟨_,O',hO',hOn⟩:=hv.2.1 (by simpa using hf);rw[hO] at hO';cases hO';refine Wp.chk ⟨hOl,hO0,hc0,by omega⟩ (Wp.ret fun _=>.join (j:=v.1.toNat) hkd hT hnm hO hOn ?_ hOpk (fun n v hv=>hKK n v (List.getElem?_eq_some_iff.1 hv).1 hv) ?_)
  ·intro e
   have:(i:Int)=v.1:=by have:=hv.1;omega
   simp[this] at hiv
  ·simp only;rw[h4.2,hS2.1,hq.1]
theorem Zci (x:Stp) (hT:S.tables[i]?=some T) (hS:VS S) (hn:strEq T.name x.table=true) (hkd:x.kind=8):Wp (Z2e S i x) fun q=>q.2=0→EvT S q.1.tables x:=by
 have hnm:=hn;have hL:=LIM_eq;have h6:=hS.t6;have h8:=hS.f8;have h9:=hS.o8;unfold Z2e;refine Wp.getN hT (Wp.bind (Z7d _ _) fun v hv0 hv=>Wp.cond (fun _=>Wp.ret (by simp)) fun h=>Wp.bind (Zd0 _ _ _) fun q hq _=>Wp.cond (fun h=>Wp.ret fun h0=>by simp only at h0;simp[h0] at h) fun hq0=>Wp.bind (Z4c _) fun e he _=>Wp.cond (fun h=>Wp.ret fun h0=>by simp only at h0;simp[h0] at h) fun he0=>Wp.get hv.1 (hv.2.1 (by simpa using h)) fun col hcol _=>Wp.cond (fun _=>Wp.ret (by simp)) fun hkc=>Wp.bind (Z3d _ _) fun w _ hw=>Wp.cond (fun _=>Wp.ret (by simp)) fun hw0=>Wp.bind (Z41 _ _ fun x _=>Wp.ret trivial) fun _ _ _=>Wp.cond (fun _=>Wp.ret (by simp)) fun _=>?_);have hv2:v.2=true:=by simpa using h
 obtain rfl:e=0:=by simpa using he0
 have hq2:q.2=0:=by simpa using hq0
 refine Wp.for (fun k (S1:Sch)=>S1.tables=S.tables∧S1.cons=S.cons∧S1.fks.length≤S.fks.length+k) ⟨rfl,rfl,by omega⟩ ?_ ?_
 ·rintro k f S1 next hx hm ⟨h1,h2,h3⟩ hn;have hk:=(List.getElem?_eq_some_iff.1 hx).1;unfold Zhi;exact Wp.cond (fun _=>Wp.chk (by omega) (hn _ ⟨h1,h2,by simp;omega⟩)) fun _=>hn _ ⟨h1,h2,by omega⟩
 ·rintro S1 ⟨h1,h2,_⟩;refine Wp.for (fun k (S2:Sch)=>S2.tables=S.tables∧S2.cons.length≤S.cons.length+k) ⟨h1,by rw[h2];omega⟩ ?_ ?_
  ·rintro k f S2 next hx hm ⟨g1,g2⟩ hn;have hk:=(List.getElem?_eq_some_iff.1 hx).1;unfold Zhh;exact Wp.cond (fun _=>Wp.chk (by omega) (hn _ ⟨g1,by simp;omega⟩)) fun _=>hn _ ⟨g1,by omega⟩
  ·rintro S2 ⟨g1,_⟩;refine Wp.bind (Z6s _ _ (by rw[g1];omega)) fun _ _ hI=>Wp.ret fun _=>.part (b:=q.1) hkd hT hnm (by rw[hv0,← hv2]) hcol (by rw[hq,← hq2]) he (by simpa using hkc) (hw.2.2 hw0) ?_;simp only;rw[hI.2.2,g1]
theorem Ze6 (a b:List Fk):Wp (Z11 a b (fun x y=>Z09 x y)) fun _=>True:=by
 unfold Z11;refine Wp.cond (fun _=>Wp.ret trivial) fun h=>?_;have hl:a.length=b.length:=by simp at h;omega
 refine Wp.for (fun _ _=>True) trivial (fun i x s next hx _ _ hn=>?_) fun _ _=>Wp.ret trivial;have hi:=(List.getElem?_eq_some_iff.1 hx).1;exact Wp.get (by omega) (by omega) fun _ _ _=>Wp.bind (Z4q _ _) fun _ _ _=>Wp.cond (fun _=>Wp.ret trivial) fun _=>hn () trivial
theorem Zfy (a b:List Cons):Wp (Z1w a b) fun _=>True:=by
 unfold Z1w;refine Wp.cond (fun _=>Wp.ret trivial) fun h=>?_;have hl:a.length=b.length:=by simp at h;omega
 refine Wp.for (fun _ _=>True) trivial (fun i x s next hx _ _ hn=>?_) fun _ _=>Wp.ret trivial;have hi:=(List.getElem?_eq_some_iff.1 hx).1;exact Wp.get (by omega) (by omega) fun _ _ _=>Wp.cond (fun _=>Wp.ret trivial) fun _=>hn () trivial
theorem Zgz (a b:ByteArray) (hS:VS S):Wp (Z2t S a b) fun _=>True:=by
 have hL:=LIM_eq;have h8:=hS.f8;have h9:=hS.o8;unfold Z2t;refine Wp.for (fun k (s:List Fk × List Fk)=>s.1.length≤k∧s.2.length≤k) (by simp) ?_ ?_
 ·rintro k f s next hx hm ⟨h1,h2⟩ hn;have hk:=(List.getElem?_eq_some_iff.1 hx).1;refine Wp.cond (fun _=>Wp.ret trivial) fun _=>Wp.cond (fun _=>Wp.ret trivial) fun _=>Wp.cond (fun _=>Wp.app (by simp;omega) (hn _ ⟨by simp;omega,by simp;omega⟩)) fun _=>Wp.cond (fun _=>Wp.app (by simp;omega) (hn _ ⟨by simp;omega,by simp;omega⟩)) fun _=>hn _ ⟨by simp;omega,by simp;omega⟩
 ·rintro s _;refine Wp.bind (Ze6 _ _) fun _ _ _=>Wp.cond (fun _=>Wp.ret trivial) fun _=>?_;refine Wp.for (fun k (s:List Cons × List Cons)=>s.1.length≤k∧s.2.length≤k) (by simp) ?_ ?_
  ·rintro k f s next hx hm ⟨h1,h2⟩ hn;have hk:=(List.getElem?_eq_some_iff.1 hx).1;refine Wp.cond (fun _=>Wp.app (by simp;omega) (hn _ ⟨by simp;omega,by simp;omega⟩)) fun _=>Wp.cond (fun _=>Wp.app (by simp;omega) (hn _ ⟨by simp;omega,by simp;omega⟩)) fun _=>hn _ ⟨by simp;omega,by simp;omega⟩
  ·rintro s _;exact Wp.bind (Zfy _ _) fun _ _ _=>Wp.cond (fun _=>Wp.ret trivial) fun _=>Wp.ret trivial
theorem Zey (x:Stp) (hT:S.tables[i]?=some T) (hS:VS S) (hn:strEq T.name x.table=true) (hkd:x.kind=9):Wp (Z36 S i x) fun q=>q.2=0→EvT S q.1.tables x:=by
 have hL:=LIM_eq;have hV:=hS.tab T (List.mem_of_getElem? hT);have hpk:=hV.pk6;have hp0:=hV.pk0;have hc6:=hV.cols6;have hc0:=hV.cols0;unfold Z36;refine Wp.bind (Z3d S _) fun v _ hv=>Wp.cond (fun _=>Wp.ret (by simp)) fun hf=>Wp.getN hT (Wp.get hv.1 (hv.2.1 (by simpa using hf)).1 fun O hO hOm=>Wp.cond (fun _=>Wp.ret (by simp)) fun hiv=>Wp.bind (Z9y _ _) fun b _ hb=>Wp.cond (fun _=>Wp.ret (by simp)) fun hb0=>Wp.bind (Z70 _ _) fun c _ hc=>Wp.cond (fun _=>Wp.ret (by simp)) fun hc0'=>Wp.bind (Zgz _ _ hS) fun _ _ _=>Wp.cond (fun h=>Wp.ret fun h0=>by simp only at h0;simp[h0] at h) fun _=>Wp.chk ⟨⟨hp0,by omega⟩,hc0,by omega⟩ (Wp.ret fun _=>?_));obtain⟨_,O',hO',hOn⟩:=hv.2.1 (by simpa using hf);rw[hO] at hO';cases hO';refine .merge (j:=v.1.toNat) hkd hT hn hO hOn (fun e=>?_) (hb (by simpa using hb0)) (hc (by simpa using hc0')) rfl
 have:(i:Int)=v.1:=by have:=hv.1;omega
 simp[this] at hiv
end
theorem Zpb (S:Sch) (x:Stp) (hS:VS S) (hl:x.cols.length≤1048576) (hk:1≤x.kind∧x.kind≤16):Wp (Z44 S x) fun q=>q.2=0→EvT S q.1.tables x:=by
 have hL:=LIM_eq;have h6:=hS.t6;have h8:=hS.f8;have h9:=hS.o8;have kk:∀ {n:Int},(x.kind == n)=true→x.kind=n:=fun h=>by simpa using h
 have nk:∀ {n:Int},(x.kind == n)=false→x.kind≠n:=fun h=>by simpa using h
 unfold Z44;refine Wp.cond (fun h=>Wp.chk (by omega) (Wp.ret fun _=>.rule (by have:=kk h;omega) rfl)) fun n13=>Wp.cond (fun h=>(Zck _ _).mono fun _ _ he _=>.rule (by have:=kk h;omega) he) fun n14=>Wp.cond (fun h=>Wp.chk (by omega) (Wp.ret fun _=>.rule (by have:=kk h;omega) rfl)) fun n15=>Wp.cond (fun h=>(Z8g _ _).mono fun _ _ he _=>.rule (by have:=kk h;omega) he.1) fun n16=>Wp.cond (fun h=>Zez _ _ (by omega) (kk h)) fun n10=>?_;refine Wp.bind (Z3d _ _) fun v _ hv=>Wp.cond (fun _=>Wp.ret (by simp)) fun hf=>?_;obtain⟨hv1,T,hT,hn⟩:=hv.2.1 (by simpa using hf);refine Wp.cond (fun h=>Zex _ _ _ (by omega) hT hn (kk h)) fun n4=>Wp.cond (fun h=>Zfv x hT hS hl hn (kk h)) fun n6=>Wp.cond (fun h=>Zfw x hT hS hn (kk h)) fun n7=>Wp.cond (fun h=>Zci x hT hS hn (kk h)) fun n8=>Wp.cond (fun h=>Zey x hT hS hn (kk h)) fun n9=>Wp.cond (fun h=>Zh0 x ⟨T,List.mem_of_getElem? hT,hn⟩ (kk h)) fun n11=>Wp.cond (fun h=>Zcx x hT hS hn (kk h)) fun n12=>Wp.cond (fun h=>Zh1 x hT (hS.tab T (List.mem_of_getElem? hT)) hn (kk h)) fun n1=>Zf0 x hT hS hn ?_
 have:=nk n13;have:=nk n14;have:=nk n15;have:=nk n16;have:=nk n10;have:=nk n4;have:=nk n6;have:=nk n7;have:=nk n8;have:=nk n9;have:=nk n11;have:=nk n12;have:=nk n1
 omega
def SmallX (x:Stp):Prop:=x.cols.length≤1048576∧x.newTable.cols.length≤1048576∧x.newTable.pk.length≤1048576∧x.fk.cols.length≤1048576
theorem Zpc (S:Sch) (x:Stp) (hx:SmallX x):Wp (Z1o S x) fun r=>r.2=0→VS r.1∧VS S∧EvT S r.1.tables x:=by
 have hL:=LIM_eq;unfold Z1o;refine Wp.bind (Z4z S) fun e _ he=>Wp.cond (fun h=>Wp.ret fun h0=>?_) fun h1=>Wp.bind (Z9p x) fun e2 _ hk=>Wp.cond (fun h=>Wp.ret fun h0=>?_) fun hk0=>?_
 ·simp only at h0;rw[h0] at h;cases h
 ·simp only at h0;rw[h0] at h;cases h
 have hS:VS S:=he (by simpa using h1);refine Wp.chk ⟨⟨⟨by have:=hS.t6;omega,by have:=hS.f8;omega,by have:=hS.o8;omega⟩,fun T hT=>⟨by have:=(hS.tab T hT).cols6;omega,by have:=(hS.tab T hT).pk6;omega⟩,fun f hf=>by have:=(hS.fk f hf).1;omega⟩,by obtain⟨a,b,c,d⟩:=hx;exact⟨by omega,by omega,by omega,by omega⟩⟩ ?_;refine Wp.bind (Zpb S x hS hx.1 (hk (by simpa using hk0))) fun q _ hE=>Wp.cond (fun h=>Wp.ret fun h0=>?_) fun hq=>Wp.bind (Z4z q.1) fun e3 _ he3=>Wp.cond (fun h=>Wp.ret fun h0=>?_) fun h3=>Wp.ret fun _=>⟨he3 (by simpa using h3),hS,hE (by simpa using hq)⟩
 ·simp only at h0;rw[h0] at h;cases h
 ·simp only at h0;rw[h0] at h;cases h
end Go.Proofs.YthiojhcimecdgaaGreatDoor
end
namespace Go.Proofs.YthiojhcimecdgaaGreatDoor
section
open Go.Am
instance i_evolution_Apply (s_:Sch) (step:Stp):Con (Z1o s_ step) Tryz.prog 97 [.agg s_.enc,.agg step.enc] (fun r=>.tup [.agg (r.1.enc.map RC.d),.one (.d (.int .i64 r.2))]):=⟨fun r hm=>Z57 s_ step r hm⟩
def Z1i (s_:Sch) (script:List Stp):Option ((List Sch) × Int):=
 (bif decide (6 < (script.length:Int)) then (some ([],2)) else (bindK (Z0i s_) fun v4=>(bif (v4 != 0) then (some ([],v4)) else (bindK (Z15 s_) fun v6=>(forK (fun (i8:Nat) (x8:Stp) (s8:(List Sch)) next_8=>(getK s8 (i8:Int) fun x10=>(bindK (Z1o x10 x8) fun v11=>(bif (v11.2 != 0) then (some ([],v11.2)) else (appK2 s8 [v11.1] fun _=>(next_8 (s8++[v11.1]))))))) (fun (s8:(List Sch))=>(some (s8,0))) script 0 [v6])))))
theorem Z6r (s_:Sch) (script:List Stp) (r:(List Sch) × Int) (hm:Is (Z1i s_ script) r):PSpec Tryz.prog 70 [.agg s_.enc,.one (.d (.sl (script.map Stp.enc)))] (.tup [.one (.d (.sl (r.1.map Sch.enc))),.one (.d (.int .i64 r.2))]):=by
 unfold Z1i at hm;refine PSpec.of_vc Tryz.func70 rfl (by kernel_rfl) (n:=48) rfl rfl (by simp) ?_
 try simp[*]
 intro hl2;replace hl2:script.length≤2097152:=by simpa using hl2
 refine r_cond hm ?_ ?_<;>clear hm<;>intro hc3 hm
 ·try simp[*]
  obtain rfl:=r_ret hm;exact ret0 (vs:=[_,_]) (by simp[*];try exact⟨rfl,rfl⟩) (by simp[*])
 ·try simp[*]
  refine r_call (av:=[.agg s_.enc]) hm (fun v hv=>c_schema_Validate _ v hv) (by simp[*]) ?_;clear hm;intro v4 hvv4 hm
  try simp[*]
  refine r_cond hm ?_ ?_<;>clear hm<;>intro hc5 hm
  ·try simp[*]
   obtain rfl:=r_ret hm;exact ret0 (vs:=[_,_]) (by simp[*];try exact⟨rfl,rfl⟩) (by simp[*])
  ·try simp[*]
   refine r_call (av:=[.agg s_.enc]) hm (fun v hv=>Z5h _ v hv) (by simp[*]) ?_;clear hm;intro v6 hvv6 hm
   try simp[*]
   refine Wait.for (xs:=script) (s0:=[v6]) (fun i8 s8 e8 h8=>∃ c8_0:C,e8.n=48∧e8.get 7=.one c8_0∧e8.get 23=.one (.d (.sl (script.map Stp.enc)))∧e8.get 24=.one (.d (.int .i64 (script.length:Int)))∧e8.get 25=.one (.d (.int .i64 (i8:Int)))∧Grows h8 3 c8_0 (s8.map Sch.enc)) hm ⟨.own (3,352) ([v6].map Sch.enc),by simp (maxDischargeDepth:=20) [*]⟩ ?_ ?_
   ·rintro i8 s8 e8 h8 ⟨c8_0,hn8,h8_7,h8_23,h8_24,h8_25,gc8_0⟩ hlt8 hm;have hlc8_0:=gc8_0.list;have hdc8_0:=gc8_0.toD;have hac8_0:=gc8_0.toA;have huc8_0:=gc8_0.useUp_arr;have hw8:IntKind.i64.wrap ((i8:Int)+1)=(i8:Int)+1:=IntWalk.i64_in _ (by omega)
    try simp[*]
    refine Wait.of (SWP.draw (Plan.then_ [0,1,2,3,4] (.two 5 9 (Plan.then_ [6,7,8,9,10,11] .done) (Plan.then_ [5,6,7,8,10,11] .done))) follows (by kernel_rfl) ?_)
    try simp[*,Plan.then_,vcPlan,Z02,Z00,callKind]
    replace hm:=hm.getN;obtain⟨x10,hxx10,hm⟩:=hm
    try simp[*,Plan.then_,vcPlan,Z02,Z00,callKind]
    rcases gc8_0.1 with ⟨hzc8_0,hzz⟩ | ⟨lc8_0,hzc8_0,hz1,hz2⟩
    ·exact absurd hxx10 (by simp at hzz;subst hzz;simp)
    try simp[*,Plan.then_,vcPlan,Z02,Z00,callKind]
    refine⟨?_,?_⟩
    ·try simp[*,Plan.then_,vcPlan,Z02,Z00,callKind]
     refine r_call (av:=[.agg x10.enc,.agg (script[i8]).enc]) hm (fun v hv=>Z57 _ _ v hv) (by simp[*]) ?_;clear hm;intro v11 hvv11 hm
     try simp[*,Plan.then_,vcPlan,Z02,Z00,callKind]
     try refine⟨fun (_:Lab) (_:List C) hl=>hl,?_⟩
     refine r_cond hm ?_ ?_<;>clear hm<;>intro hc13 hm
     ·try simp[*]
      obtain rfl:=r_ret hm;exact ret0 (vs:=[_,_]) (by simp[*];try exact⟨rfl,rfl⟩) (by simp[*])
     ·try simp[*]
      refine r_app (xs:=s8) (ys:=[v11.1]) (enc:=Sch.enc) hm Z9b (by first | exact Grows.nil | (simp (maxDischargeDepth:=20) [*];done) | (simp (maxDischargeDepth:=20) [*];refine⟨?_,by omega⟩;intro hq;subst hq;simp at hz2<;>omega)) (by simp[*]) (by decide) (by decide) (fun _=>rfl) ?_;clear hm;intro hl15 hm g14
      try simp[*]
      exact BackF.of (s8++[v11.1]) ⟨⟨.own (h8.ep+4,720) ((s8++[v11.1]).map Sch.enc),by simp (maxDischargeDepth:=20) [*]⟩,hm⟩
    ·try simp[*,Plan.then_,vcPlan,Z02,Z00,callKind]
     refine r_call (av:=[.agg x10.enc,.agg (script[i8]).enc]) hm (fun v hv=>Z57 _ _ v hv) (by simp[*]) ?_;clear hm;intro v1012 hvv1012 hm
     try simp[*,Plan.then_,vcPlan,Z02,Z00,callKind]
     try refine⟨fun (_:Lab) (_:List C) hl=>hl,?_⟩
     refine r_cond hm ?_ ?_<;>clear hm<;>intro hc1013 hm
     ·try simp[*]
      obtain rfl:=r_ret hm;exact ret0 (vs:=[_,_]) (by simp[*];try exact⟨rfl,rfl⟩) (by simp[*])
     ·try simp[*]
      refine r_app (xs:=s8) (ys:=[v1012.1]) (enc:=Sch.enc) hm Z9b (by first | exact Grows.nil | (simp (maxDischargeDepth:=20) [*];done) | (simp (maxDischargeDepth:=20) [*];refine⟨?_,by omega⟩;intro hq;subst hq;simp at hz2<;>omega)) (by simp[*]) (by decide) (by decide) (fun _=>rfl) ?_;clear hm;intro hl1015 hm g1014
      try simp[*]
      exact BackF.of (s8++[v1012.1]) ⟨⟨.own (h8.ep+4,720) ((s8++[v1012.1]).map Sch.enc),by simp (maxDischargeDepth:=20) [*]⟩,hm⟩
   ·rintro s8 e8 h8 ⟨c8_0,hn8,h8_7,h8_23,h8_24,h8_25,gc8_0⟩ hm;have hlc8_0:=gc8_0.list;have hdc8_0:=gc8_0.toD;have hac8_0:=gc8_0.toA;have huc8_0:=gc8_0.useUp_arr
    try simp[*]
    obtain rfl:=r_ret hm;exact ret0 (vs:=[_,_]) (by simp[*];try exact⟨rfl,rfl⟩) (by simp[*])
instance i_script_Schemas (s_:Sch) (script:List Stp):Con (Z1i s_ script) Tryz.prog 70 [.agg s_.enc,.one (.d (.sl (script.map Stp.enc)))] (fun r=>.tup [.one (.d (.sl (r.1.map Sch.enc))),.one (.d (.int .i64 r.2))]):=⟨fun r hm=>Z6r s_ script r hm⟩
def Z3x (s_:Sch) (script:List Stp):Option (Sch × Int):=
 (bindK (Z1i s_ script) fun v3=>(bif (v3.2 != 0) then (some ((Sch.mk [] [] []),v3.2)) else (chkK (okI ((v3.1.length:Int) - 1)) (getK v3.1 ((v3.1.length:Int) - 1) fun x7=>(some (x7,0))))))
instance c_script_Apply (s_:Sch) (script:List Stp):Con (Z3x s_ script) Tryz.prog 68 [.agg s_.enc,.one (.d (.sl (script.map Stp.enc)))] (fun r=>.tup [.agg (r.1.enc.map RC.d),.one (.d (.int .i64 r.2))]):=by
 unfold Z3x;exact go 24 Tryz.func68 rfl (by kernel_rfl) rfl rfl (by simp)
def Z1p (g_:Gr):Option ((List Sch) × Int):=
 (bif decide (8≤(g_.edges.length:Int)) then (some ([],2)) else (bindK (Z0i g_.base) fun v4=>(bif (v4 != 0) then (some ([],v4)) else (bindK (Z15 g_.base) fun v6=>(forK (fun (i8:Nat) (x8:Edg) (s8:(List Sch)) next_8=>(bif decide (x8.parent < 0) then (some ([],1)) else (bif decide ((i8:Int) < x8.parent) then (some ([],1)) else (getK s8 x8.parent fun x12=>(bindK (Z3x x12 x8.script) fun v13=>(bif (v13.2 != 0) then (some ([],v13.2)) else (appK2 s8 [v13.1] fun _=>(next_8 (s8++[v13.1]))))))))) (fun (s8:(List Sch))=>(some (s8,0))) g_.edges 0 [v6])))))
theorem Z7g (g_:Gr) (r:(List Sch) × Int) (hm:Is (Z1p g_) r):PSpec Tryz.prog 45 [.agg g_.enc] (.tup [.one (.d (.sl (r.1.map Sch.enc))),.one (.d (.int .i64 r.2))]):=by
 unfold Z1p at hm;refine PSpec.of_vc Tryz.func45 rfl (by kernel_rfl) (n:=61) rfl rfl (by simp) ?_
 try simp[*]
 intro hl2;replace hl2:g_.edges.length≤2097152:=by simpa using hl2
 refine r_cond hm ?_ ?_<;>clear hm<;>intro hc3 hm
 ·try simp[*]
  obtain rfl:=r_ret hm;exact ret0 (vs:=[_,_]) (by simp[*];try exact⟨rfl,rfl⟩) (by simp[*])
 ·try simp[*]
  refine r_call (av:=[.agg g_.base.enc]) hm (fun v hv=>c_schema_Validate _ v hv) (by simp[*]) ?_;clear hm;intro v4 hvv4 hm
  try simp[*]
  refine r_cond hm ?_ ?_<;>clear hm<;>intro hc5 hm
  ·try simp[*]
   obtain rfl:=r_ret hm;exact ret0 (vs:=[_,_]) (by simp[*];try exact⟨rfl,rfl⟩) (by simp[*])
  ·try simp[*]
   refine r_call (av:=[.agg g_.base.enc]) hm (fun v hv=>Z5h _ v hv) (by simp[*]) ?_;clear hm;intro v6 hvv6 hm
   try simp[*]
   refine Wait.for (xs:=g_.edges) (s0:=[v6]) (fun i8 s8 e8 h8=>∃ c8_0:C,e8.n=61∧e8.get 5=.one c8_0∧e8.get 25=.one (.d (.sl (g_.edges.map Edg.enc)))∧e8.get 26=.one (.d (.int .i64 (g_.edges.length:Int)))∧e8.get 27=.one (.d (.int .i64 (i8:Int)))∧Grows h8 3 c8_0 (s8.map Sch.enc)) hm ⟨.own (3,368) ([v6].map Sch.enc),by simp (maxDischargeDepth:=20) [*]⟩ ?_ ?_
   ·rintro i8 s8 e8 h8 ⟨c8_0,hn8,h8_5,h8_25,h8_26,h8_27,gc8_0⟩ hlt8 hm;have hlc8_0:=gc8_0.list;have hdc8_0:=gc8_0.toD;have hac8_0:=gc8_0.toA;have huc8_0:=gc8_0.useUp_arr;have hw8:IntKind.i64.wrap ((i8:Int)+1)=(i8:Int)+1:=IntWalk.i64_in _ (by omega)
    try simp[*]
    refine Zcr hm ?_ ?_<;>clear hm<;>intro hc10 hm
    ·try simp[*]
     obtain rfl:=r_ret hm;exact ret0 (vs:=[_,_]) (by simp[*];try exact⟨rfl,rfl⟩) (by simp[*])
    ·try simp[*]
     refine r_cond hm ?_ ?_<;>clear hm<;>intro hc11 hm
     ·try simp[*]
      obtain rfl:=r_ret hm;exact ret0 (vs:=[_,_]) (by simp[*];try exact⟨rfl,rfl⟩) (by simp[*])
     ·try simp[*]
      refine Wait.of (SWP.draw (Plan.then_ [0,1,2,3,4,5,6] (.two 7 11 (Plan.then_ [8,9,10,11,12,13] .done) (Plan.then_ [7,8,9,10,12,13] .done))) follows (by kernel_rfl) ?_)
      try simp[*,Plan.then_,vcPlan,Z02,Z00,callKind]
      replace hm:=hm.get;obtain⟨x12,h0x12,hxx12,hm⟩:=hm
      try simp[*,Plan.then_,vcPlan,Z02,Z00,callKind]
      rcases gc8_0.1 with ⟨hzc8_0,hzz⟩ | ⟨lc8_0,hzc8_0,hz1,hz2⟩
      ·exact absurd hxx12 (by simp at hzz;subst hzz;simp)
      try simp[*,Plan.then_,vcPlan,Z02,Z00,callKind]
      refine⟨?_,?_⟩
      ·try simp[*,Plan.then_,vcPlan,Z02,Z00,callKind]
       refine r_call (av:=[.agg x12.enc,.one (.d (.sl ((g_.edges[i8].script).map Stp.enc)))]) hm (fun v hv=>c_script_Apply _ _ v hv) (by simp[*]) ?_;clear hm;intro v13 hvv13 hm
       try simp[*,Plan.then_,vcPlan,Z02,Z00,callKind]
       try refine⟨fun (_:Lab) (_:List C) hl=>hl,?_⟩
       refine r_cond hm ?_ ?_<;>clear hm<;>intro hc15 hm
       ·try simp[*]
        obtain rfl:=r_ret hm;exact ret0 (vs:=[_,_]) (by simp[*];try exact⟨rfl,rfl⟩) (by simp[*])
       ·try simp[*]
        refine r_app (xs:=s8) (ys:=[v13.1]) (enc:=Sch.enc) hm Z9b (by first | exact Grows.nil | (simp (maxDischargeDepth:=20) [*];done) | (simp (maxDischargeDepth:=20) [*];refine⟨?_,by omega⟩;intro hq;subst hq;simp at hz2<;>omega)) (by simp[*]) (by decide) (by decide) (fun _=>rfl) ?_;clear hm;intro hl17 hm g16
        try simp[*]
        exact BackF.of (s8++[v13.1]) ⟨⟨.own (h8.ep+4,928) ((s8++[v13.1]).map Sch.enc),by simp (maxDischargeDepth:=20) [*]⟩,hm⟩
      ·try simp[*,Plan.then_,vcPlan,Z02,Z00,callKind]
       refine r_call (av:=[.agg x12.enc,.one (.d (.sl ((g_.edges[i8].script).map Stp.enc)))]) hm (fun v hv=>c_script_Apply _ _ v hv) (by simp[*]) ?_;clear hm;intro v1014 hvv1014 hm
       try simp[*,Plan.then_,vcPlan,Z02,Z00,callKind]
       try refine⟨fun (_:Lab) (_:List C) hl=>hl,?_⟩
       refine r_cond hm ?_ ?_<;>clear hm<;>intro hc1015 hm
       ·try simp[*]
        obtain rfl:=r_ret hm;exact ret0 (vs:=[_,_]) (by simp[*];try exact⟨rfl,rfl⟩) (by simp[*])
       ·try simp[*]
        refine r_app (xs:=s8) (ys:=[v1014.1]) (enc:=Sch.enc) hm Z9b (by first | exact Grows.nil | (simp (maxDischargeDepth:=20) [*];done) | (simp (maxDischargeDepth:=20) [*];refine⟨?_,by omega⟩;intro hq;subst hq;simp at hz2<;>omega)) (by simp[*]) (by decide) (by decide) (fun _=>rfl) ?_;clear hm;intro hl1017 hm g1016
        try simp[*]
        exact BackF.of (s8++[v1014.1]) ⟨⟨.own (h8.ep+4,928) ((s8++[v1014.1]).map Sch.enc),by simp (maxDischargeDepth:=20) [*]⟩,hm⟩
   ·rintro s8 e8 h8 ⟨c8_0,hn8,h8_5,h8_25,h8_26,h8_27,gc8_0⟩ hm;have hlc8_0:=gc8_0.list;have hdc8_0:=gc8_0.toD;have hac8_0:=gc8_0.toA;have huc8_0:=gc8_0.useUp_arr
    try simp[*]
    obtain rfl:=r_ret hm;exact ret0 (vs:=[_,_]) (by simp[*];try exact⟨rfl,rfl⟩) (by simp[*])
instance i_versions_Schemas (g_:Gr):Con (Z1p g_) Tryz.prog 45 [.agg g_.enc] (fun r=>.tup [.one (.d (.sl (r.1.map Sch.enc))),.one (.d (.int .i64 r.2))]):=⟨fun r hm=>Z7g g_ r hm⟩
def Z1k (g_:Gr) (version:Int):Option (Sch × Int):=
 (bindK (Z1p g_) fun v3=>(bif (v3.2 != 0) then (some ((Sch.mk [] [] []),v3.2)) else (bif decide (version < 0) then (some ((Sch.mk [] [] []),1)) else (bif decide ((v3.1.length:Int)≤version) then (some ((Sch.mk [] [] []),1)) else (getK v3.1 version fun x8=>(some (x8,0)))))))
instance c_versions_Schema (g_:Gr) (version:Int):Con (Z1k g_ version) Tryz.prog 15 [.agg g_.enc,.one (.d (.int .i64 version))] (fun r=>.tup [.agg (r.1.enc.map RC.d),.one (.d (.int .i64 r.2))]):=by
 unfold Z1k;exact go 30 Tryz.func15 rfl (by kernel_rfl) rfl rfl (by simp)
end
section
open Go Go.Am
theorem Zin {α:Type} {xs:List α} {x y:α} {i:Nat} (h:(xs++[x])[i]?=some y):xs[i]?=some y∨(i=xs.length∧y=x):=by
 rcases Nat.lt_or_ge i xs.length with h1 | h1
 ·rw[List.getElem?_append_left h1] at h;exact .inl h
 ·have h2:=(List.getElem?_eq_some_iff.1 h).1;obtain rfl:i=xs.length:=by simp at h2;omega
  simp at h;exact .inr ⟨rfl,h.symm⟩
structure ScrOK (S:Sch) (script:List Stp) (all:List Sch):Prop where
 len:all.length=script.length+1
 l6:script.length≤6
 vs:∀ T ∈ all,VS T
 fst:all[0]?=some S
 step:∀ (i:Nat) (x:Stp) (y z:Sch),script[i]?=some x→all[i]?=some y→all[i+1]?=some z→Z1o y x=some (z,0)
theorem Zch (S:Sch) (script:List Stp) (hx:∀ x ∈ script,SmallX x):Wp (Z1i S script) fun r=>r.2=0→ScrOK S script r.1:=by
 have hL:=LIM_eq;unfold Z1i;refine Wp.cond (fun _=>Wp.ret (by simp)) fun h6=>Wp.bind (Z4z S) fun e _ he=>Wp.cond (fun h=>Wp.ret fun h0=>?_) fun h1=>?_
 ·simp only at h0;rw[h0] at h;cases h
 have hS:VS S:=he (by simpa using h1);have hl:script.length≤6:=by simp at h6;omega
 refine Wp.bind (Z9v S (by have:=hS.t6;omega) (by have:=hS.f8;omega)) fun S0 _ hS0=>?_;subst hS0;refine Wp.for (fun i (s:List Sch)=>s.length=i+1∧(∀ T ∈ s,VS T)∧s[0]?=some S0∧∀ (j:Nat) (x:Stp) (y z:Sch),script[j]?=some x→s[j]?=some y→s[j+1]?=some z→Z1o y x=some (z,0)) ⟨rfl,by simpa using hS,rfl,fun j x y z _ _ hz=>by simp at hz⟩ ?_ ?_
 ·rintro i x s next hx1 hm ⟨hs,hv,hf,hI⟩ hn;have hi:=(List.getElem?_eq_some_iff.1 hx1).1;refine Wp.get (by omega) (by omega) fun y hy _=>Wp.bind (Zpc y x (hx x hm)) fun r hr0 hr=>Wp.cond (fun h=>Wp.ret fun h0=>?_) fun h2=>Wp.app (by simp;omega) (hn _ ⟨by simp;omega,fun T hT=>?_,by rw[List.getElem?_append_left (by omega)];exact hf,fun j x' y' z' hx' hy' hz'=>?_⟩)
  ·simp only at h0;rw[h0] at h;cases h
  ·rcases List.mem_append.1 hT with h | h
   ·exact hv T h
   ·rw[List.mem_singleton.1 h];exact (hr (by simpa using h2)).1
  ·have hy2:s[j]?=some y':=by
    rcases Zin hy' with h | ⟨h,_⟩
    ·exact h
    ·have:=(List.getElem?_eq_some_iff.1 hz').1
     simp at this;omega
   rcases Zin hz' with h | ⟨h,rfl⟩
   ·exact hI j x' y' z' hx' hy2 h
   ·obtain rfl:j=i:=by omega
    simp only[Int.toNat_natCast] at hy;rw[hx1] at hx';rw[hy] at hy2;cases hx';cases hy2;rw[hr0,← show r.2=0 by simpa using h2]
 ·rintro s ⟨hs,hv,hf,hI⟩;exact Wp.ret fun _=>⟨hs,hl,hv,hf,hI⟩
theorem Ze4 (S:Sch) (script:List Stp) (hx:∀ x ∈ script,SmallX x):Wp (Z3x S script) fun r=>r.2=0→∃ all,Z1i S script=some (all,0)∧ScrOK S script all∧all[script.length]?=some r.1:=by
 unfold Z3x;refine Wp.bind (Zch S script hx) fun r hr0 hr=>Wp.cond (fun h=>Wp.ret fun h0=>?_) fun h1=>?_
 ·simp only at h0;rw[h0] at h;cases h
 ·have h2:=hr (by simpa using h1);have hl:=h2.len;refine Wp.chk ⟨by have:=h2.l6;omega,by have:=h2.l6;omega⟩ (Wp.get (by omega) (by omega) fun T hT _=>Wp.ret fun _=>⟨r.1,by rw[hr0,← show r.2=0 by simpa using h1],h2,?_⟩);rw[← hT];congr 1;omega
theorem ScrOK.last {S:Sch} {script:List Stp} {all:List Sch} (h:ScrOK S script all) {T:Sch} (hT:all[script.length]?=some T):VS T:=h.vs T (List.mem_of_getElem? hT)
def Zr6 (g:Gr):Prop:=∀ (i:Nat) (e:Edg),g.edges[i]?=some e→0≤e.parent∧e.parent≤i
structure VerOK (g:Gr) (Ss:List Sch):Prop where
 edges:Zr6 g
 l7:g.edges.length≤7
 len:Ss.length=g.edges.length+1
 vs:∀ T ∈ Ss,VS T
 edge:∀ (i:Nat) (e:Edg) (P C:Sch),g.edges[i]?=some e→Ss[e.parent.toNat]?=some P→Ss[i+1]?=some C→Z3x P e.script=some (C,0)
theorem Zan (g:Gr) (hx:∀ e ∈ g.edges,∀ x ∈ e.script,SmallX x):Wp (Z1p g) fun r=>r.2=0→VerOK g r.1:=by
 have hL:=LIM_eq;unfold Z1p;refine Wp.cond (fun _=>Wp.ret (by simp)) fun h6=>Wp.bind (Z4z _) fun e _ he=>Wp.cond (fun h=>Wp.ret fun h0=>?_) fun h1=>?_
 ·simp only at h0;rw[h0] at h;cases h
 have hS:VS g.base:=he (by simpa using h1);have hl:g.edges.length≤7:=by simp at h6;omega
 refine Wp.bind (Z9v g.base (by have:=hS.t6;omega) (by have:=hS.f8;omega)) fun S0 _ hS0=>?_;rw[hS0];refine Wp.for (fun i (s:List Sch)=>s.length=i+1∧(∀ T ∈ s,VS T)∧(∀ (j:Nat) (e:Edg),j < i→g.edges[j]?=some e→0≤e.parent∧e.parent≤j)∧∀ (j:Nat) (e:Edg) (P C:Sch),j < i→g.edges[j]?=some e→s[e.parent.toNat]?=some P→s[j+1]?=some C→Z3x P e.script=some (C,0))
  ⟨rfl,by simpa using hS,by intro j e h;omega,by intro j e P C h;omega⟩ ?_ ?_
 ·rintro i x s next hx1 hm ⟨hs,hv,hI,hE⟩ hn;have hi:=(List.getElem?_eq_some_iff.1 hx1).1;refine Wp.cond (fun _=>Wp.ret (by simp)) fun h2=>Wp.cond (fun _=>Wp.ret (by simp)) fun h3=>?_;have a2:0≤x.parent:=by simpa using h2
  have a3:x.parent≤i:=by simpa using h3
  refine Wp.get (by omega) (by omega) fun y hy _=>Wp.bind (Ze4 y x.script (hx x hm)) fun r hr0 hr=>Wp.cond (fun h=>Wp.ret fun h0=>?_) fun h2=>Wp.app (by simp;omega) (hn _ ⟨by simp;omega,fun T hT=>?_,fun j e hj he=>?_,fun j e P C hj he hP hC=>?_⟩)
  ·simp only at h0;rw[h0] at h;cases h
  ·rcases List.mem_append.1 hT with h | h
   ·exact hv T h
   ·rw[List.mem_singleton.1 h];obtain⟨all,_,ha,hl⟩:=hr (by simpa using h2);exact ha.last hl
  ·rcases Nat.lt_or_ge j i with h | h
   ·exact hI j e h he
   ·obtain rfl:j=i:=by omega
    rw[hx1] at he;cases he;exact⟨a2,a3⟩
  ·rcases Nat.lt_or_ge j i with h | h
   ·have hp:=hI j e h he;rw[List.getElem?_append_left (by omega)] at hP hC;exact hE j e P C h he hP hC
   ·obtain rfl:j=i:=by omega
    rw[hx1] at he;cases he;rw[List.getElem?_append_left (by omega),hy] at hP;rw[List.getElem?_append_right (by omega),hs,Nat.sub_self] at hC;cases hP;cases hC;rw[hr0,← show r.2=0 by simpa using h2]
 ·rintro s ⟨hs,hv,hI,hE⟩;exact Wp.ret fun _=>⟨fun i e he=>hI i e (List.getElem?_eq_some_iff.1 he).1 he,hl,hs,hv,fun i e P C he=>hE i e P C (List.getElem?_eq_some_iff.1 he).1 he⟩
end
section
open Go.Am
def Z0c (t:Tbl) (row:List GV):Option Int:=
 (bif ((row.length:Int) != (t.cols.length:Int)) then (some 3) else (forK (fun (i6:Nat) (x6:GV) (s6:Unit) next_6=>(bindK (Z0h x6) fun v8=>(bif (v8 != 0) then (some v8) else (bif (x6.kind == 0) then (getK t.cols (i6:Int) fun x11=>(bif !x11.nullable then (some 8) else (bif (x6.kind != 0) then (bif (x6.kind != x11.kind) then (some 7) else (next_6 ())) else (next_6 ())))) else (bif (x6.kind != 0) then (getK t.cols (i6:Int) fun x16=>(bif (x6.kind != x16.kind) then (some 7) else (next_6 ()))) else (next_6 ())))))) (fun (s6:Unit)=>(some 0)) row 0 ()))
instance c_instance_ConformsRow (t:Tbl) (row:List GV):Con (Z0c t row) Tryz.prog 122 [.agg t.enc,.one (.d (.sl (row.map GV.enc)))] (fun r=>.one (.d (.int .i64 r))):=by
 unfold Z0c;have l1:LH (σ:=Unit) 16 [2,14,15] []:=.intro;have p1:PH [11] (Plan.then_ [0,1,2,3,4,5,6,7,8,9,10,11,12,13] .done):=.intro;exact go 53 Tryz.func122 rfl (by kernel_rfl) rfl rfl (by simp)
def Z2o (t:Tbl) (row:List GV):Option ((List GV)):=
 (forK (fun (i3:Nat) (x3:Int) (s3:(List GV)) next_3=>(bif decide (0≤x3) then (bif decide (x3 < (row.length:Int)) then (getK row x3 fun x8=>(appK2 s3 [x8] fun _=>(next_3 (s3++[x8])))) else (appK2 s3 [(GV.mk 0 0 ByteArray.empty)] fun _=>(next_3 (s3++[(GV.mk 0 0 ByteArray.empty)])))) else (appK2 s3 [(GV.mk 0 0 ByteArray.empty)] fun _=>(next_3 (s3++[(GV.mk 0 0 ByteArray.empty)]))))) (fun (s3:(List GV))=>(some s3)) t.pk 0 [])
instance c_relation_Key (t:Tbl) (row:List GV):Con (Z2o t row) Tryz.prog 17 [.agg t.enc,.one (.d (.sl (row.map GV.enc)))] (fun r=>.one (.fresh 0 3 (r.map GV.enc))):=by
 unfold Z2o;have l1:LH (σ:=(List GV)) 12 [1,10,11] [.g 5 3 (fun s=>s.map GV.enc)]:=.intro;exact go 35 Tryz.func17 rfl (by kernel_rfl) rfl rfl (by simp)
def Z2j (a:List GV) (b:List GV):Option Int:=
 (countK (fun (i3:Nat) (s3:Unit) next_3=>(getK a (i3:Int) fun x4=>(getK b (i3:Int) fun x5=>(bindK (Z1v x4 x5) fun v6=>(bif (v6 != 0) then (some v6) else (chkK (okI ((i3:Int)+1)) (next_3 ()))))))) (fun (s3:Unit)=>(bindK (Z1e (a.length:Int) (b.length:Int)) fun v11=>(some v11))) (Int.toNat (if (b.length:Int) < (a.length:Int) then (b.length:Int) else (a.length:Int))) 0 ())
instance c_value_CompareRows (a:List GV) (b:List GV):Con (Z2j a b) Tryz.prog 69 [.one (.d (.sl (a.map GV.enc))),.one (.d (.sl (b.map GV.enc)))] (fun r=>.one (.d (.int .i64 r))):=by
 unfold Z2j;have l1:LH (σ:=Unit) 12 [0,1,11] []:=.intro;have p1:PH [4] (Plan.then_ [0,1,2,3,4,5,6,7,8,9] .done):=.intro;exact go 33 Tryz.func69 rfl (by kernel_rfl) rfl rfl (by simp)
def Z0b (s_:Sch) (inst:List Rel):Option Int:=
 (bif ((inst.length:Int) != (s_.tables.length:Int)) then (some 3) else (forK (fun (i6:Nat) (x6:Rel) (s6:Unit) next_6=>(getK s_.tables (i6:Int) fun x8=>(bif !(strEq x6.table x8.name) then (some 3) else (bif decide (24 < (x6.rows.length:Int)) then (some 2) else (forK (fun (i14:Nat) (x14:List GV) (s14:Unit) next_14=>(bindK (Z0c x8 x14) fun v15=>(bif (v15 != 0) then (some v15) else (bif ((i14:Int) == 0) then (next_14 ()) else (chkK (okI ((i14:Int) - 1)) (getK x6.rows ((i14:Int) - 1) fun x19=>(bindK (Z2o x8 x19) fun v20=>(bindK (Z2o x8 x14) fun v21=>(bindK (Z2j v20 v21) fun v22=>(bif (v22 == 0) then (some 9) else (bif decide (0 < v22) then (some 6) else (next_14 ())))))))))))) (fun (s14:Unit)=>(next_6 ())) x6.rows 0 ()))))) (fun (s6:Unit)=>(some 0)) inst 0 ()))
instance c_instance_Conforms (s_:Sch) (inst:List Rel):Con (Z0b s_ inst) Tryz.prog 81 [.agg s_.enc,.one (.d (.sl (inst.map Rel.enc)))] (fun r=>.one (.d (.int .i64 r))):=by
 unfold Z0b;have l1:LH (σ:=Unit) 20 [2,18,19] []:=.intro;have l2:LH (σ:=Unit) 42 [2,6,7,18,19,20,40,41] []:=.intro;have p1:PH [18] (Plan.then_ [0,1,2,3,4,5,6,8,9,7,10,11,12] .done):=.intro;exact go 75 Tryz.func81 rfl (by kernel_rfl) rfl rfl (by simp)
end
section
open Go Go.Am
def cmpI (a b:Int):Int:=if a < b then -1 else if b < a then 1 else 0
theorem Z7n (a b:Int):Z1e a b=some (cmpI a b):=by
 unfold Z1e cmpI
 by_cases h1:a < b
 ·simp[h1]
 ·by_cases h2:b < a<;>simp[h1,h2]
def cmpV (a b:GV):Int:=if cmpI a.kind b.kind≠0 then cmpI a.kind b.kind else if cmpI a.int b.int≠0 then cmpI a.int b.int else cmpS a.text b.text
theorem Zkq (a b:GV):Z1v a b=some (cmpV a b):=by
 unfold Z1v Z3a cmpV;rw[Z7n,Z7n];simp only[bindK]
 by_cases h1:cmpI a.kind b.kind=0
 ·by_cases h2:cmpI a.int b.int=0
  ·simp[h1,h2]
  ·have h3:(cmpI a.int b.int != 0)=true:=by simpa using h2
   simp[h1,h2,h3]
 ·have h3:(cmpI a.kind b.kind != 0)=true:=by simpa using h1
  simp[h1,h3]
def cmpR:List GV→List GV→Int
 | [],[]=>0
 | [],_::_=>-1
 | _::_,[]=>1
 | x::xs,y::ys=>if cmpV x y≠0 then cmpV x y else cmpR xs ys
theorem Zar (a b:List GV) (ha:a.length≤2097152):Wp (Z2j a b) fun c=>c=cmpR a b:=by
 unfold Z2j;have hmin:(Int.toNat (if (b.length:Int) < (a.length:Int) then (b.length:Int) else (a.length:Int)))=min a.length b.length:=by
  split<;>omega
 rw[hmin];refine Wp.count (fun i _=>cmpR a b=cmpR (a.drop i) (b.drop i)) (by simp) ?_ ?_
 ·intro i s next hi hI hn;have hia:i < a.length:=by omega
  have hib:i < b.length:=by omega
  refine Wp.getN (List.getElem?_eq_getElem hia) (Wp.getN (List.getElem?_eq_getElem hib) ?_);rw[List.drop_eq_getElem_cons hia,List.drop_eq_getElem_cons hib,cmpR] at hI;rw[Zkq];refine Wp.bind (R:=fun v=>v=cmpV a[i] b[i]) ⟨_,rfl,rfl⟩ fun v _ hv=>?_;subst hv;refine Wp.cond (fun h=>Wp.ret ?_) fun h=>Wp.chk ⟨by omega,by omega⟩ (hn () ?_)
  ·have h':cmpV a[i] b[i]≠0:=by simpa using h
   rw[hI,if_pos h']
  ·have h':cmpV a[i] b[i]=0:=by simpa using h
   rw[hI,if_neg (by simp[h'])]
 ·intro s hI;rw[Z7n];refine Wp.bind (R:=fun v=>v=cmpI a.length b.length) ⟨_,rfl,rfl⟩ fun v _ hv=>Wp.ret ?_;subst hv;rw[hI];unfold cmpI;rcases Nat.lt_trichotomy a.length b.length with h | h | h
  ·have e1:a.drop (min a.length b.length)=[]:=List.drop_eq_nil_of_le (by omega);rw[e1,List.drop_eq_getElem_cons (show min a.length b.length < b.length by omega)];simp[cmpR,h]
  ·have e1:a.drop (min a.length b.length)=[]:=List.drop_eq_nil_of_le (by omega);have e2:b.drop (min a.length b.length)=[]:=List.drop_eq_nil_of_le (by omega);rw[e1,e2];simp[cmpR,h]
  ·have e2:b.drop (min a.length b.length)=[]:=List.drop_eq_nil_of_le (by omega);rw[e2,List.drop_eq_getElem_cons (show min a.length b.length < a.length by omega)];have h3:¬ (a.length < b.length):=by omega
   simp[cmpR,h,h3]
def gvZ:GV:=⟨0,0,ByteArray.empty⟩
def cellF (row:List GV) (c:Int):GV:=if 0≤c then (row[c.toNat]?).getD gvZ else gvZ
def keyF (T:Tbl) (row:List GV):List GV:=T.pk.map (cellF row)
theorem Zd8 {α β:Type} {xs:List α} {i:Nat} {x:α} {f:α→β} (h:xs[i]?=some x):(xs.take (i+1)).map f=(xs.take i).map f++[f x]:=by
 obtain⟨h1,h2⟩:=List.getElem?_eq_some_iff.1 h;rw[List.take_succ_eq_append_getElem h1,h2];simp
theorem w_Key (T:Tbl) (row:List GV) (hl:T.pk.length≤2097152):Wp (Z2o T row) fun k=>k=keyF T row:=by
 have hL:=LIM_eq;unfold Z2o;refine Wp.for (fun i (s:List GV)=>s=(T.pk.take i).map (cellF row)) (by simp) ?_ (fun s hs=>Wp.ret (by rw[hs,List.take_length];rfl));intro i x s next hx hm hI hn;have hi:=(List.getElem?_eq_some_iff.1 hx).1;have hsl:s.length≤i:=by rw[hI];simp;omega
 refine Wp.cond (fun h1=>Wp.cond (fun h2=>?_) fun h2=>?_) fun h1=>?_
 ·have a1:0≤x:=by simpa using h1
  have a2:x < row.length:=by simpa using h2
  refine Wp.get a1 a2 fun y hy _=>Wp.app (by simp;omega) (hn _ ?_);rw[Zd8 hx,hI];simp[cellF,a1,hy]
 ·have a1:0≤x:=by simpa using h1
  have a2:¬ (x < row.length):=by simpa using h2
  refine Wp.app (by simp;omega) (hn _ ?_);rw[Zd8 hx,hI]
  have:row[x.toNat]?=none:=List.getElem?_eq_none (by omega)
  simp[cellF,a1,this,gvZ]
 ·have a1:¬ (0≤x):=by simpa using h1
  refine Wp.app (by simp;omega) (hn _ ?_);rw[Zd8 hx,hI];simp[cellF,a1,gvZ]
structure CR (T:Tbl) (row:List GV):Prop where
 len:row.length=T.cols.length
 cell:∀ (i:Nat) (x:GV) (c:Col),row[i]?=some x→T.cols[i]?=some c→Z0h x=some 0∧(x.kind=0→c.nullable=true)∧(x.kind≠0→x.kind=c.kind)
theorem Zbi {α β:Type} {xs:List α} {ys:List β} {p:α→β→Prop} {i:Nat} {x:α} {y:β} (h:∀ (j:Nat) (a:α) (b:β),j < i→xs[j]?=some a→ys[j]?=some b→p a b) (hx:xs[i]?=some x) (hy:ys[i]?=some y) (hp:p x y) :
  ∀ (j:Nat) (a:α) (b:β),j < i+1→xs[j]?=some a→ys[j]?=some b→p a b:=by
 intro j a b hj ha hb;rcases Nat.lt_or_ge j i with h1 | h1
 ·exact h j a b h1 ha hb
 ·obtain rfl:j=i:=by omega
  rw[hx] at ha;rw[hy] at hb;cases ha;cases hb;exact hp
theorem Zaq (T:Tbl) (row:List GV):Wp (Z0c T row) fun e=>e=0→CR T row:=by
 unfold Z0c;refine Wp.cond (fun _=>Wp.ret (by simp)) fun h1=>?_;have hl:row.length=T.cols.length:=by simp at h1;omega
 refine Wp.for (fun i _=>∀ (j:Nat) (x:GV) (c:Col),j < i→row[j]?=some x→T.cols[j]?=some c→Z0h x=some 0∧(x.kind=0→c.nullable=true)∧(x.kind≠0→x.kind=c.kind)) (by intro j x c h;omega) ?_ fun s hI=>Wp.ret fun _=>⟨hl,fun i x c hx hc=>hI i x c (List.getElem?_eq_some_iff.1 hx).1 hx hc⟩;intro i x s next hx hm hI hn;have hi:=(List.getElem?_eq_some_iff.1 hx).1;have hic:i < T.cols.length:=by omega
 have hcx:T.cols[i]?=some T.cols[i]:=List.getElem?_eq_getElem hic;generalize T.cols[i]=c at hcx;refine Wp.bind (Z4c x) fun v hv _=>Wp.cond (fun h=>Wp.ret (by intro h0;simp[h0] at h)) fun h2=>?_;obtain rfl:v=0:=by simpa using h2
 refine Wp.cond (fun h3=>?_) fun h3=>?_
 ·have a3:x.kind=0:=by simpa using h3
  refine Wp.getN hcx (Wp.cond (fun _=>Wp.ret (by simp)) fun h4=>Wp.cond (fun h5=>?_) fun _=>hn () (Zbi hI hx hcx ⟨hv,fun _=>by simpa using h4,fun h=>absurd a3 h⟩));simp[a3] at h5
 ·have a3:x.kind≠0:=by simpa using h3
  refine Wp.cond (fun _=>Wp.getN hcx (Wp.cond (fun _=>Wp.ret (by simp)) fun h4=>hn () (Zbi hI hx hcx ⟨hv,fun h=>absurd h a3,fun _=>by simpa using h4⟩))) fun h5=>?_;simp[a3] at h5
def Asc (T:Tbl) (rows:List (List GV)):Prop:=∀ (i:Nat) (a b:List GV),rows[i]?=some a→rows[i+1]?=some b→cmpR (keyF T a) (keyF T b) < 0
structure CF (S:Sch) (inst:List Rel):Prop where
 len:inst.length=S.tables.length
 name:∀ (i:Nat) (x:Rel) (T:Tbl),inst[i]?=some x→S.tables[i]?=some T→strEq x.table T.name=true
 l24:∀ x ∈ inst,x.rows.length≤24
 row:∀ (i:Nat) (x:Rel) (T:Tbl),inst[i]?=some x→S.tables[i]?=some T→∀ row ∈ x.rows,CR T row
 asc:∀ (i:Nat) (x:Rel) (T:Tbl),inst[i]?=some x→S.tables[i]?=some T→Asc T x.rows
theorem Zj5 (S:Sch) (hS:∀ T ∈ S.tables,T.pk.length≤6) (inst:List Rel):Wp (Z0b S inst) fun e=>e=0→CF S inst:=by
 unfold Z0b;refine Wp.cond (fun _=>Wp.ret (by simp)) fun h1=>?_;have hl:inst.length=S.tables.length:=by simp at h1;omega
 refine Wp.for (fun i _=>∀ (j:Nat) (x:Rel) (T:Tbl),j < i→inst[j]?=some x→S.tables[j]?=some T→strEq x.table T.name=true∧x.rows.length≤24∧(∀ row ∈ x.rows,CR T row)∧Asc T x.rows) (by intro j x c h;omega) ?_ ?_
 ·intro i x s next hx hm hI hn;have hi:=(List.getElem?_eq_some_iff.1 hx).1;have hic:i < S.tables.length:=by omega
  have hcx:S.tables[i]?=some S.tables[i]:=List.getElem?_eq_getElem hic;have hpk:=hS _ (List.getElem_mem hic);generalize S.tables[i]=T at hcx hpk;refine Wp.getN hcx (Wp.cond (fun _=>Wp.ret (by simp)) fun h2=>Wp.cond (fun _=>Wp.ret (by simp)) fun h3=>?_);have a3:x.rows.length≤24:=by simp at h3;omega
  refine Wp.for (fun i _=>(∀ (j:Nat) (row:List GV),j < i→x.rows[j]?=some row→CR T row)∧∀ (j:Nat) (a b:List GV),j+1 < i→x.rows[j]?=some a→x.rows[j+1]?=some b→cmpR (keyF T a) (keyF T b) < 0) ⟨by intro j r h;omega,by intro j a b h;omega⟩ ?_ ?_
  ·rintro k row s next2 hr hrm ⟨hJ,hK⟩ hn2;have hk:=(List.getElem?_eq_some_iff.1 hr).1;refine Wp.bind (Zaq T row) fun e _ he=>Wp.cond (fun h=>Wp.ret (by intro h0;simp[h0] at h)) fun h4=>?_;have hcr:=he (by simpa using h4);refine Wp.cond (fun h5=>hn2 () ⟨Z4e hJ hr hcr,?_⟩) fun h5=>Wp.chk ⟨by omega,by omega⟩ ?_
   ·have hk0:k=0:=by simp at h5;omega
    intro j a b hj;omega
   ·have hk0:k≠0:=by simp at h5;omega
    have hk1:k - 1 < x.rows.length:=by omega
    have hr0:x.rows[k - 1]?=some x.rows[k - 1]:=List.getElem?_eq_getElem hk1;rw[show (k:Int) - 1=((k - 1:Nat):Int) by omega];generalize x.rows[k - 1]=row0 at hr0;refine Wp.getN hr0 (Wp.bind (w_Key T row0 (by omega)) fun k0 _ h0=>Wp.bind (w_Key T row (by omega)) fun k1 _ h1=>?_);subst h0 h1;refine Wp.bind (Zar _ _ (by simp[keyF];omega)) fun c _ hc=>Wp.cond (fun _=>Wp.ret (by simp)) fun h6=>Wp.cond (fun _=>Wp.ret (by simp)) fun h7=>hn2 () ⟨Z4e hJ hr hcr,?_⟩;have a6:c≠0:=by simpa using h6
    have a7:¬ (0 < c):=by simpa using h7
    intro j a b hj ha hb;rcases Nat.lt_or_ge (j+1) k with h | h
    ·exact hK j a b h ha hb
    ·obtain rfl:k=j+1:=by omega
     rw[hr] at hb;rw[show j+1 - 1=j by omega,ha] at hr0;cases hb;cases hr0;rw[← hc];omega
  ·rintro s ⟨hJ,hK⟩;exact hn () (Zbi hI hx hcx ⟨by simpa using h2,a3,Z6t hJ,fun i a b ha hb=>hK i a b (List.getElem?_eq_some_iff.1 hb).1 ha hb⟩)
 ·intro s hI;refine Wp.ret fun _=>⟨hl,fun i x T hx hT=>(hI i x T (List.getElem?_eq_some_iff.1 hx).1 hx hT).1,fun x hx=>?_,fun i x T hx hT=>(hI i x T (List.getElem?_eq_some_iff.1 hx).1 hx hT).2.2.1,fun i x T hx hT=>(hI i x T (List.getElem?_eq_some_iff.1 hx).1 hx hT).2.2.2⟩;obtain⟨i,hi,rfl⟩:=List.getElem_of_mem hx;exact (hI i _ _ hi (List.getElem?_eq_getElem hi) (List.getElem?_eq_getElem (by omega))).2.1
theorem Zmr {a b:Int}:cmpI a b < 0↔a < b:=by
 unfold cmpI;split
 ·simp[*]
 ·split<;>simp[*]
theorem Z6j {a b:Int}:cmpI a b=0↔a=b:=by
 unfold cmpI;split
 ·simp;omega
 ·split
  ·simp;omega
  ·simp;omega
theorem Zr3:∀ {a b:List UInt8},Lib.compareBytes a b=0→a=b:=by
 intro a
 induction a with
 | nil=>intro b h;cases b with
   | nil=>rfl
   | cons y b=>simp[Lib.compareBytes] at h
 | cons x a ih=>
   intro b h;cases b with
   | nil=>simp[Lib.compareBytes] at h
   | cons y b=>
     simp only[Lib.compareBytes] at h;split at h
     ·simp at h
     ·split at h
      ·simp at h
      ·rename_i h1 h2;have h3:¬ (x.toNat < y.toNat):=fun h=>h1 (UInt8.lt_iff_toNat_lt.2 h);have h4:¬ (y.toNat < x.toNat):=fun h=>h2 (UInt8.lt_iff_toNat_lt.2 h)
       have:x=y:=UInt8.toNat_inj.1 (by omega)
       rw[this,ih h]
theorem Zov:∀ {a b c:List UInt8},Lib.compareBytes a b < 0→Lib.compareBytes b c < 0→Lib.compareBytes a c < 0:=by
 intro a
 induction a with
 | nil=>
   intro b c h1 h2;cases c with
   | nil=>cases b<;>simp[Lib.compareBytes] at h1 h2
   | cons z c=>simp[Lib.compareBytes]
 | cons x a ih=>
   intro b c h1 h2;cases b with
   | nil=>simp[Lib.compareBytes] at h1
   | cons y b=>
     cases c with
     | nil=>simp[Lib.compareBytes] at h2
     | cons z c=>
       simp only[Lib.compareBytes,UInt8.lt_iff_toNat_lt] at h1 h2 ⊢;split at h1
       ·split at h2
        ·rw[if_pos (by omega)];decide
        ·split at h2
         ·simp at h2
         ·rw[if_pos (by omega)];decide
       ·split at h1
        ·simp at h1
        ·split at h2
         ·rw[if_pos (by omega)];decide
         ·split at h2
          ·simp at h2
          ·rw[if_neg (by omega),if_neg (by omega)];exact ih h1 h2
theorem Zmq {a b:GV}:cmpV a b < 0↔a.kind < b.kind∨(a.kind=b.kind∧(a.int < b.int∨(a.int=b.int∧cmpS a.text b.text < 0))):=by
 unfold cmpV
 by_cases h1:cmpI a.kind b.kind=0
 ·have e1:=Z6j.1 h1
  by_cases h2:cmpI a.int b.int=0
  ·have e2:=Z6j.1 h2;simp[e1,e2,cmpI]
  ·have e2:a.int≠b.int:=fun h=>h2 (Z6j.2 h);rw[if_neg (by simp[h1]),if_pos h2,Zmr];simp[e1,e2]
 ·have e1:a.kind≠b.kind:=fun h=>h1 (Z6j.2 h);rw[if_pos h1,Zmr];simp[e1]
theorem Zb8 {a b:GV} (h:cmpV a b=0):a=b:=by
 unfold cmpV at h
 by_cases h1:cmpI a.kind b.kind=0
 ·by_cases h2:cmpI a.int b.int=0
  ·rw[if_neg (by simp[h1]),if_neg (by simp[h2])] at h;have e3:=Zr3 h;obtain⟨k,n,t⟩:=a;obtain⟨k',n',t'⟩:=b;have e1:=Z6j.1 h1;have e2:=Z6j.1 h2;simp only at e1 e2 e3;subst e1 e2
   have:t=t':=by
    cases t with
    | mk d=>cases t' with
      | mk d'=>
        have:=Array.toList_inj.1 e3
        rw[show d=d' from this]
   rw[this]
  ·rw[if_neg (by simp[h1]),if_pos h2] at h;exact absurd h h2
 ·rw[if_pos h1] at h;exact absurd h h1
theorem Zkr {a b c:GV} (h1:cmpV a b < 0) (h2:cmpV b c < 0):cmpV a c < 0:=by
 rw[Zmq] at h1 h2 ⊢;rcases h1 with h1 | ⟨e1,h1⟩
 ·rcases h2 with h2 | ⟨e2,_⟩
  ·exact .inl (by omega)
  ·exact .inl (by omega)
 ·rcases h2 with h2 | ⟨e2,h2⟩
  ·exact .inl (by omega)
  ·refine .inr ⟨by omega,?_⟩;rcases h1 with h1 | ⟨f1,h1⟩
   ·rcases h2 with h2 | ⟨f2,_⟩
    ·exact .inl (by omega)
    ·exact .inl (by omega)
   ·rcases h2 with h2 | ⟨f2,h2⟩
    ·exact .inl (by omega)
    ·exact .inr ⟨by omega,Zov h1 h2⟩
theorem Z9l:∀ {a b c:List GV},cmpR a b < 0→cmpR b c < 0→cmpR a c < 0:=by
 intro a
 induction a with
 | nil=>
   intro b c h1 h2;cases c with
   | nil=>cases b<;>simp[cmpR] at h1 h2
   | cons z c=>simp[cmpR]
 | cons x a ih=>
   intro b c h1 h2;cases b with
   | nil=>simp[cmpR] at h1
   | cons y b=>
     cases c with
     | nil=>simp[cmpR] at h2
     | cons z c=>
       simp only[cmpR] at h1 h2 ⊢
       by_cases e1:cmpV x y=0
       ·have:=Zb8 e1
        subst this;rw[if_neg (by simp[e1])] at h1
        by_cases e2:cmpV x z=0
        ·rw[if_neg (by simp[e2])] at h2 ⊢;exact ih h1 h2
        ·rw[if_pos e2] at h2 ⊢;exact h2
       ·rw[if_pos e1] at h1
        by_cases e2:cmpV y z=0
        ·have:=Zb8 e2
         subst this;rw[if_pos e1];exact h1
        ·rw[if_pos e2] at h2
         have:=Zkr h1 h2
         rw[if_pos (by omega)];exact this
def AscP (T:Tbl) (rows:List (List GV)):Prop:=rows.Pairwise fun a b=>cmpR (keyF T a) (keyF T b) < 0
theorem Asc.pw {T:Tbl} {rows:List (List GV)} (h:Asc T rows):AscP T rows:=by
 have key:∀ (n i:Nat) (a b:List GV),rows[i]?=some a→rows[i+1+n]?=some b→cmpR (keyF T a) (keyF T b) < 0:=by
  intro n
  induction n with
  | zero=>intro i a b ha hb;exact h i a b ha hb
  | succ n ih=>
    intro i a b ha hb;have hl:=(List.getElem?_eq_some_iff.1 hb).1;have hc:rows[i+1+n]?=some rows[i+1+n]:=List.getElem?_eq_getElem (by omega);exact Z9l (ih i a _ ha hc) (h (i+1+n) _ b hc hb)
 refine List.pairwise_iff_getElem.2 fun i j hi hj hij=>?_;refine key (j - (i+1)) i _ _ (List.getElem?_eq_getElem hi) ?_;rw[show i+1+(j - (i+1))=j by omega];exact List.getElem?_eq_getElem hj
theorem AscP.asc {T:Tbl} {rows:List (List GV)} (h:AscP T rows):Asc T rows:=by
 intro i a b ha hb;obtain⟨h1,rfl⟩:=List.getElem?_eq_some_iff.1 ha;obtain⟨h2,rfl⟩:=List.getElem?_eq_some_iff.1 hb;exact List.pairwise_iff_getElem.1 h i (i+1) h1 h2 (by omega)
theorem Wp.eq {α:Type} {m:Option α} {v:α} (h:Wp m fun r=>r=v):m=some v:=by
 obtain⟨r,h1,rfl⟩:=h;exact h1
theorem Zb6 {α:Type} {xss:List (List α)} {i:Nat} {x:List α} (h:xss[i]?=some x):(xss.take (i+1)).flatten=(xss.take i).flatten++x:=by
 obtain⟨h1,h2⟩:=List.getElem?_eq_some_iff.1 h;rw[List.take_succ_eq_append_getElem h1,h2];simp
theorem Zah {h:HS} {ds:List D}:FrzCs h (ds.map C.d) ds:=by
 induction ds with
 | nil=>trivial
 | cons d ds ih=>exact⟨.data rfl,ih⟩
def catLen {α:Type} (xss:List (List α)) (i:Nat):Nat:=(xss.take i).flatten.length
theorem Zb7 {α:Type} (xss:List (List α)) (i:Nat):(xss.take i).flatten.length≤xss.flatten.length:=by
 conv=>rhs;rw[← List.take_append_drop i xss]
 rw[List.flatten_append,List.length_append];omega
theorem Zaj {α:Type} {xss:List (List α)} {i:Nat} {x:List α} (h:xss[i]?=some x):catLen xss (i+1)=catLen xss i+x.length:=by
 unfold catLen;rw[Zb6 h,List.length_append]
theorem Zdv {α:Type} (xss:List (List α)) (i:Nat):catLen xss i≤xss.flatten.length:=Zb7 xss i
theorem Zc1 {α:Type} (xss:List (List α)):catLen xss xss.length=xss.flatten.length:=by
 unfold catLen;rw[List.take_length]
theorem Zai {α:Type} (xss:List (List α)):catLen xss 0=0:=rfl
theorem Z9r (h:HS) (n:Nat) (hn:n≤2097152) (K:V→HS→Prop)
  (hk:∀ c' h',MR h' 4 c' []→Same h h' []→(∀ l ∈ labs c',h.ep≤l.1∧l.1 < h'.ep)→K (.one c') h') :
  HSpec Tryz.prog 50 [.one .nil,.one (.d (.int .i64 (n:Int)))] h K:=by
 refine HSpec.of_vc Tryz.func50 rfl (by kernel_rfl) (n:=27) rfl rfl (by simp) ?_;simp;have h0:¬ ((n:Int) < 0):=by omega
 have hw:IntKind.i64.wrap ((n:Int) - 0)=(n:Int):=by rw[Int.sub_zero];exact IntWalk.i64_in _ (by omega)
 have hw0:IntKind.i64.wrap 0=0:=IntWalk.i64_in _ (by omega);have hw1:IntKind.i64.wrap (n:Int)=(n:Int):=IntWalk.i64_in _ (by omega)
 try simp[h0]
 refine Z9m Z8s ?_;simp[hw,hw0,hw1];refine Z13 (fun hp=>?_) (fun hp=>?_)
 ·simp[hw,hw0,hw1];refine Z9m Z8s ?_;simp[hw,hw0,hw1];refine Zcv Z8s (by decide) (kk:=.i64) rfl (by kernel_rfl) (by decide) (by decide) (by omega) (by show (n:Int)≤2097152;omega) (fun cap' hcap=>?_);have hc0:0 < cap':=by omega
  simp at hcap;simp[hw0,hw1,hc0];refine hk _ _ ⟨AllC.nil,by simp,.inr ⟨(h.ep,352),cap',List.replicate (cap' * 4) .any,by simp,by simp[rowBox],by simp[rowBox]⟩⟩ ((Same.refl.setBox (.inr (Nat.le_refl _))).next) (by simp[labs])
 ·simp;exact hk _ _ MR.nil .refl (by simp[labs])
theorem Z5y (h:HS) (c:C) (xss:List (List (List D))) (hc:c=.d (.sl (xss.map fun xs=>[.sl xs]))∨∃ lab,c=.own lab (xss.map fun xs=>[.sl xs])) (hall:∀ xs ∈ xss,∀ x ∈ xs,x.length=4) (hl:xss.flatten.length≤2097152) (K:V→HS→Prop)
  (hk:∀ c' h',MR h' 4 c' (xss.flatten.map (·.map C.d))→Same h h' []→(∀ l ∈ labs c',h.ep≤l.1∧l.1 < h'.ep)→K (.one c') h') :
  HSpec Tryz.prog 20 [.one c] h K:=by
 refine HSpec.of_vc Tryz.func20 rfl (by kernel_rfl) (n:=36) rfl rfl (by simp) ?_;simp;have hcl:c.list?=some (xss.map fun xs=>[.sl xs]):=by rcases hc with rfl | ⟨lab,rfl⟩<;>rfl
 refine Z90 hcl (fun hX=>?_);simp only[List.length_map] at hX;have hX':xss.length≤2097152:=hX;simp;refine Wait.rounds (fun n e h'=>∃ i,n=xss.length - i∧i≤xss.length∧h'=h∧e.n=36∧e.get 0=.one c∧e.get 9=.one c∧e.get 10=.one (.d (.int .i64 (xss.length:Int)))∧e.get 11=.one (.d (.int .i64 (i:Int)))∧e.get 3=.one (.d (.int .i64 (catLen xss i:Int)))) xss.length
  ⟨0,rfl,by omega,rfl,by simp,by simp,by simp,by simp,by simp,by simp[Zai]⟩ ?_
 rintro n e h' ⟨i,rfl,hi,rfl,hn,h0,h9,h10,h11,h3⟩;simp[h0,h9,h10,h11,h3,hn];refine Z13 (fun hlt=>?_) (fun hge=>?_)
 ·have hw1:IntKind.i64.wrap ((i:Int)+1)=(i:Int)+1:=IntWalk.i64_in _ (by omega);obtain⟨x,hx⟩:∃ x,xss[i]?=some x:=⟨_,List.getElem?_eq_getElem hlt⟩;have hs2:=Zdv xss (i+1);have hs3:=Zaj hx;have hw2:IntKind.i64.wrap ((catLen xss i:Int)+(x.length:Int))=(catLen xss (i+1):Int):=by rw[hs3,Int.natCast_add];exact IntWalk.i64_in _ (by omega)
  have hneg:¬ ((catLen xss (i+1):Int) < 0):=by omega
  have hi0:(0:Int)≤(i:Int):=by omega
  rcases hc with rfl | ⟨lab,rfl⟩
  all_goals
   simp[h0,h9,h10,h11,h3,hn,hx,hi0];intro hxl;simp[h0,h9,h10,h11,h3,hn,hw1,hw2,hneg];exact Back.of (n':=xss.length - (i+1)) (by omega) ⟨i+1,rfl,by omega,rfl,by simp[hn],by simp[h0],by simp[h9],by simp[h10],by simp,by simp⟩
 ·obtain rfl:i=xss.length:=by omega
  have hl':catLen xss xss.length≤2097152:=by rw[Zc1];exact hl
  simp[h0,h3,hn];refine Z01 (Z9r h' (catLen xss xss.length) hl' _ (fun c1 h1 hm1 hs1 hl1=>?_));simp[h0,hn];refine Z90 hcl (fun hX=>?_);simp[h0,hn];refine Wait.rounds (fun n e h2=>∃ (i:Nat) (c2:C),n=xss.length - i∧i≤xss.length∧MR h2 4 c2 ((xss.take i).flatten.map (·.map C.d))∧Same h' h2 []∧(∀ l ∈ labs c2,h'.ep≤l.1∧l.1 < h2.ep)∧e.n=36∧e.get 25=.one c∧e.get 26=.one (.d (.int .i64 (xss.length:Int)))∧e.get 27=.one (.d (.int .i64 (i:Int)))∧e.get 6=.one c2) xss.length ?_ ?_
  ·exact⟨0,c1,rfl,by omega,(hm1.frame (fun _ _=>rfl)),hs1,hl1,by simp[hn],by simp[h0,hn],by simp[hn],by simp[hn],by simp[hn]⟩
  clear h0 h9 h10 h11 h3 hn hi hge;rintro n e h2 ⟨i,c2,rfl,hi,hm2,hs2,hl2,hn,h25,h26,h27,h6⟩;simp[h25,h26,h27,h6,hn];refine Z13 (fun hlt=>?_) (fun hge=>?_)
  ·have hw1:IntKind.i64.wrap ((i:Int)+1)=(i:Int)+1:=IntWalk.i64_in _ (by omega);obtain⟨x,hx⟩:∃ x,xss[i]?=some x:=⟨_,List.getElem?_eq_getElem hlt⟩;have hsz1:=Zb6 hx;have hsz2:=Zb7 xss (i+1);have hsz3:(xss.take (i+1)).flatten.length=(xss.take i).flatten.length+x.length:=by rw[hsz1,List.length_append]
   have hi0:(0:Int)≤(i:Int):=by omega
   have hrd:RowAt h2 4 (.d (.sl x)) (x.map (·.map C.d)):=RowAt.data (hall x (List.mem_of_getElem? hx)) (by show x.length≤2097152;omega);rcases hc with rfl | ⟨lab,rfl⟩
   all_goals
    simp[h25,h26,h27,h6,hn,hx,hi0];refine app_mr Z8s (by kernel_rfl) (by decide) (by decide) hm2 hrd (by simp only[List.length_map];show _≤2097152;omega) (fun c3 h3 hm3 hs3 hl3=>?_);simp[h25,h26,h27,hn,hw1];refine Back.of (n':=xss.length - (i+1)) (by omega) ⟨i+1,c3,rfl,by omega,?_,hs2.trans' hs3 (fun k hk=>.inr (hl2 k hk).1),?_,by simp[hn],by simp[h25],by simp[h26],by simp,by simp⟩
    ·rw[hsz1,List.map_append];exact hm3
    ·intro k hk;rcases hl3 k hk with h9 | h9
     ·have:=hl2 k h9
      have:=hs3.1
      omega
     ·have:=hs2.1
      omega
  ·obtain rfl:i=xss.length:=by omega
   rw[List.take_length] at hm2;simp[h6,hn];exact hk _ _ hm2 hs2 hl2
def Z17 (s_:List (List Chg)):Option (List Chg):=chkK (s_.flatten.length≤2097152) (some s_.flatten)
theorem Z8o (s_:List (List Chg)) (r:List Chg) (hm:Is (Z17 s_) r):PSpec Tryz.prog 20 [.one (.d (.sl (s_.map (encL Chg.enc))))] (.one (.d (.sl (r.map Chg.enc)))):=by
 obtain⟨hl,hm⟩:=hm.chk;obtain rfl:=r_ret hm;refine PSpec.of_heap ?_;have hX:s_.map (encL Chg.enc)=(s_.map (·.map Chg.enc)).map fun xs=>[D.sl xs]:=by simp[encL]
 have hF:(s_.map (·.map Chg.enc)).flatten=s_.flatten.map Chg.enc:=by simp[List.map_flatten]
 refine Z5y HS.init _ (s_.map (·.map Chg.enc)) (.inl (by rw[← hX])) (fun xs hxs x hx=>?_) (by rw[hF,List.length_map];exact hl) _ (fun c' h' hm' _ _=>?_)
 ·obtain⟨ys,_,rfl⟩:=List.mem_map.1 hxs;obtain⟨y,_,rfl⟩:=List.mem_map.1 hx;rfl
 ·rw[hF] at hm';exact hm'.frz (List.length_map _) (fun t ht=>by obtain⟨y,_,rfl⟩:=List.mem_map.1 ht;rfl) (fun i x t hx ht=>by
   rw[List.getElem?_map] at hx;rw[ht] at hx;simp only[Option.map_some,Option.some.injEq] at hx;subst hx;exact Zah)
theorem Z8j (h:HS) (n:Nat) (hn:n≤2097152) (K:V→HS→Prop)
  (hk:∀ c' h',MR h' 1 c' []→Same h h' []→(∀ l ∈ labs c',h.ep≤l.1∧l.1 < h'.ep)→K (.one c') h') :
  HSpec Tryz.prog 38 [.one .nil,.one (.d (.int .i64 (n:Int)))] h K:=by
 refine HSpec.of_vc Tryz.func38 rfl (by kernel_rfl) (n:=27) rfl rfl (by simp) ?_;simp;have h0:¬ ((n:Int) < 0):=by omega
 have hw:IntKind.i64.wrap ((n:Int) - 0)=(n:Int):=by rw[Int.sub_zero];exact IntWalk.i64_in _ (by omega)
 have hw0:IntKind.i64.wrap 0=0:=IntWalk.i64_in _ (by omega);have hw1:IntKind.i64.wrap (n:Int)=(n:Int):=IntWalk.i64_in _ (by omega)
 try simp[h0]
 refine Z9m Za7 ?_;simp[hw,hw0,hw1];refine Z13 (fun hp=>?_) (fun hp=>?_)
 ·simp[hw,hw0,hw1];refine Z9m Za7 ?_;simp[hw,hw0,hw1];refine Zcv Za7 (by decide) (kk:=.i64) rfl (by kernel_rfl) (by decide) (by decide) (by omega) (by show (n:Int)≤2097152;omega) (fun cap' hcap=>?_);have hc0:0 < cap':=by omega
  simp at hcap;simp[hw0,hw1,hc0];refine hk _ _ ⟨AllC.nil,by simp,.inr ⟨(h.ep,352),cap',List.replicate (cap' * 1) .any,by simp,by simp[rowBox],by simp[rowBox]⟩⟩ ((Same.refl.setBox (.inr (Nat.le_refl _))).next) (by simp[labs])
 ·simp;exact hk _ _ MR.nil .refl (by simp[labs])
theorem Z7w (h:HS) (c:C) (xss:List (List (List D))) (hc:c=.d (.sl (xss.map fun xs=>[.sl xs]))∨∃ lab,c=.own lab (xss.map fun xs=>[.sl xs])) (hall:∀ xs ∈ xss,∀ x ∈ xs,x.length=1) (hl:xss.flatten.length≤2097152) (K:V→HS→Prop)
  (hk:∀ c' h',MR h' 1 c' (xss.flatten.map (·.map C.d))→Same h h' []→(∀ l ∈ labs c',h.ep≤l.1∧l.1 < h'.ep)→K (.one c') h') :
  HSpec Tryz.prog 10 [.one c] h K:=by
 refine HSpec.of_vc Tryz.func10 rfl (by kernel_rfl) (n:=36) rfl rfl (by simp) ?_;simp;have hcl:c.list?=some (xss.map fun xs=>[.sl xs]):=by rcases hc with rfl | ⟨lab,rfl⟩<;>rfl
 refine Z90 hcl (fun hX=>?_);simp only[List.length_map] at hX;have hX':xss.length≤2097152:=hX;simp;refine Wait.rounds (fun n e h'=>∃ i,n=xss.length - i∧i≤xss.length∧h'=h∧e.n=36∧e.get 0=.one c∧e.get 9=.one c∧e.get 10=.one (.d (.int .i64 (xss.length:Int)))∧e.get 11=.one (.d (.int .i64 (i:Int)))∧e.get 3=.one (.d (.int .i64 (catLen xss i:Int)))) xss.length
  ⟨0,rfl,by omega,rfl,by simp,by simp,by simp,by simp,by simp,by simp[Zai]⟩ ?_
 rintro n e h' ⟨i,rfl,hi,rfl,hn,h0,h9,h10,h11,h3⟩;simp[h0,h9,h10,h11,h3,hn];refine Z13 (fun hlt=>?_) (fun hge=>?_)
 ·have hw1:IntKind.i64.wrap ((i:Int)+1)=(i:Int)+1:=IntWalk.i64_in _ (by omega);obtain⟨x,hx⟩:∃ x,xss[i]?=some x:=⟨_,List.getElem?_eq_getElem hlt⟩;have hs2:=Zdv xss (i+1);have hs3:=Zaj hx;have hw2:IntKind.i64.wrap ((catLen xss i:Int)+(x.length:Int))=(catLen xss (i+1):Int):=by rw[hs3,Int.natCast_add];exact IntWalk.i64_in _ (by omega)
  have hneg:¬ ((catLen xss (i+1):Int) < 0):=by omega
  have hi0:(0:Int)≤(i:Int):=by omega
  rcases hc with rfl | ⟨lab,rfl⟩
  all_goals
   simp[h0,h9,h10,h11,h3,hn,hx,hi0];intro hxl;simp[h0,h9,h10,h11,h3,hn,hw1,hw2,hneg];exact Back.of (n':=xss.length - (i+1)) (by omega) ⟨i+1,rfl,by omega,rfl,by simp[hn],by simp[h0],by simp[h9],by simp[h10],by simp,by simp⟩
 ·obtain rfl:i=xss.length:=by omega
  have hl':catLen xss xss.length≤2097152:=by rw[Zc1];exact hl
  simp[h0,h3,hn];refine Z01 (Z8j h' (catLen xss xss.length) hl' _ (fun c1 h1 hm1 hs1 hl1=>?_));simp[h0,hn];refine Z90 hcl (fun hX=>?_);simp[h0,hn];refine Wait.rounds (fun n e h2=>∃ (i:Nat) (c2:C),n=xss.length - i∧i≤xss.length∧MR h2 1 c2 ((xss.take i).flatten.map (·.map C.d))∧Same h' h2 []∧(∀ l ∈ labs c2,h'.ep≤l.1∧l.1 < h2.ep)∧e.n=36∧e.get 25=.one c∧e.get 26=.one (.d (.int .i64 (xss.length:Int)))∧e.get 27=.one (.d (.int .i64 (i:Int)))∧e.get 6=.one c2) xss.length ?_ ?_
  ·exact⟨0,c1,rfl,by omega,(hm1.frame (fun _ _=>rfl)),hs1,hl1,by simp[hn],by simp[h0,hn],by simp[hn],by simp[hn],by simp[hn]⟩
  clear h0 h9 h10 h11 h3 hn hi hge;rintro n e h2 ⟨i,c2,rfl,hi,hm2,hs2,hl2,hn,h25,h26,h27,h6⟩;simp[h25,h26,h27,h6,hn];refine Z13 (fun hlt=>?_) (fun hge=>?_)
  ·have hw1:IntKind.i64.wrap ((i:Int)+1)=(i:Int)+1:=IntWalk.i64_in _ (by omega);obtain⟨x,hx⟩:∃ x,xss[i]?=some x:=⟨_,List.getElem?_eq_getElem hlt⟩;have hsz1:=Zb6 hx;have hsz2:=Zb7 xss (i+1);have hsz3:(xss.take (i+1)).flatten.length=(xss.take i).flatten.length+x.length:=by rw[hsz1,List.length_append]
   have hi0:(0:Int)≤(i:Int):=by omega
   have hrd:RowAt h2 1 (.d (.sl x)) (x.map (·.map C.d)):=RowAt.data (hall x (List.mem_of_getElem? hx)) (by show x.length≤2097152;omega);rcases hc with rfl | ⟨lab,rfl⟩
   all_goals
    simp[h25,h26,h27,h6,hn,hx,hi0];refine app_mr Za7 (by kernel_rfl) (by decide) (by decide) hm2 hrd (by simp only[List.length_map];show _≤2097152;omega) (fun c3 h3 hm3 hs3 hl3=>?_);simp[h25,h26,h27,hn,hw1];refine Back.of (n':=xss.length - (i+1)) (by omega) ⟨i+1,c3,rfl,by omega,?_,hs2.trans' hs3 (fun k hk=>.inr (hl2 k hk).1),?_,by simp[hn],by simp[h25],by simp[h26],by simp,by simp⟩
    ·rw[hsz1,List.map_append];exact hm3
    ·intro k hk;rcases hl3 k hk with h9 | h9
     ·have:=hl2 k h9
      have:=hs3.1
      omega
     ·have:=hs2.1
      omega
  ·obtain rfl:i=xss.length:=by omega
   rw[List.take_length] at hm2;simp[h6,hn];exact hk _ _ hm2 hs2 hl2
def Z22 (s_:List (List (List Rel))):Option (List (List Rel)):=chkK (s_.flatten.length≤2097152) (some s_.flatten)
theorem Z80 (s_:List (List (List Rel))) (r:List (List Rel)) (hm:Is (Z22 s_) r):PSpec Tryz.prog 10 [.one (.d (.sl (s_.map (encL (encL Rel.enc)))))] (.one (.d (.sl (r.map (encL Rel.enc))))):=by
 obtain⟨hl,hm⟩:=hm.chk;obtain rfl:=r_ret hm;refine PSpec.of_heap ?_;have hX:s_.map (encL (encL Rel.enc))=(s_.map (·.map (encL Rel.enc))).map fun xs=>[D.sl xs]:=by simp[encL]
 have hF:(s_.map (·.map (encL Rel.enc))).flatten=s_.flatten.map (encL Rel.enc):=by simp[List.map_flatten]
 refine Z7w HS.init _ (s_.map (·.map (encL Rel.enc))) (.inl (by rw[← hX])) (fun xs hxs x hx=>?_) (by rw[hF,List.length_map];exact hl) _ (fun c' h' hm' _ _=>?_)
 ·obtain⟨ys,_,rfl⟩:=List.mem_map.1 hxs;obtain⟨y,_,rfl⟩:=List.mem_map.1 hx;rfl
 ·rw[hF] at hm';exact hm'.frz (List.length_map _) (fun t ht=>by obtain⟨y,_,rfl⟩:=List.mem_map.1 ht;rfl) (fun i x t hx ht=>by
   rw[List.getElem?_map] at hx;rw[ht] at hx;simp only[Option.map_some,Option.some.injEq] at hx;subst hx;exact Zah)
theorem Z9q (h:HS) (n:Nat) (hn:n≤2097152) (K:V→HS→Prop)
  (hk:∀ c' h',MR h' 1 c' []→Same h h' []→(∀ l ∈ labs c',h.ep≤l.1∧l.1 < h'.ep)→K (.one c') h') :
  HSpec Tryz.prog 78 [.one .nil,.one (.d (.int .i64 (n:Int)))] h K:=by
 refine HSpec.of_vc Tryz.func78 rfl (by kernel_rfl) (n:=27) rfl rfl (by simp) ?_;simp;have h0:¬ ((n:Int) < 0):=by omega
 have hw:IntKind.i64.wrap ((n:Int) - 0)=(n:Int):=by rw[Int.sub_zero];exact IntWalk.i64_in _ (by omega)
 have hw0:IntKind.i64.wrap 0=0:=IntWalk.i64_in _ (by omega);have hw1:IntKind.i64.wrap (n:Int)=(n:Int):=IntWalk.i64_in _ (by omega)
 try simp[h0]
 refine Z9m Za6 ?_;simp[hw,hw0,hw1];refine Z13 (fun hp=>?_) (fun hp=>?_)
 ·simp[hw,hw0,hw1];refine Z9m Za6 ?_;simp[hw,hw0,hw1];refine Zcv Za6 (by decide) (kk:=.i64) rfl (by kernel_rfl) (by decide) (by decide) (by omega) (by show (n:Int)≤2097152;omega) (fun cap' hcap=>?_);have hc0:0 < cap':=by omega
  simp at hcap;simp[hw0,hw1,hc0];refine hk _ _ ⟨AllC.nil,by simp,.inr ⟨(h.ep,352),cap',List.replicate (cap' * 1) .any,by simp,by simp[rowBox],by simp[rowBox]⟩⟩ ((Same.refl.setBox (.inr (Nat.le_refl _))).next) (by simp[labs])
 ·simp;exact hk _ _ MR.nil .refl (by simp[labs])
theorem Z8k (h:HS) (c:C) (xss:List (List (List D))) (hc:c=.d (.sl (xss.map fun xs=>[.sl xs]))∨∃ lab,c=.own lab (xss.map fun xs=>[.sl xs])) (hall:∀ xs ∈ xss,∀ x ∈ xs,x.length=1) (hl:xss.flatten.length≤2097152) (K:V→HS→Prop)
  (hk:∀ c' h',MR h' 1 c' (xss.flatten.map (·.map C.d))→Same h h' []→(∀ l ∈ labs c',h.ep≤l.1∧l.1 < h'.ep)→K (.one c') h') :
  HSpec Tryz.prog 62 [.one c] h K:=by
 refine HSpec.of_vc Tryz.func62 rfl (by kernel_rfl) (n:=36) rfl rfl (by simp) ?_;simp;have hcl:c.list?=some (xss.map fun xs=>[.sl xs]):=by rcases hc with rfl | ⟨lab,rfl⟩<;>rfl
 refine Z90 hcl (fun hX=>?_);simp only[List.length_map] at hX;have hX':xss.length≤2097152:=hX;simp;refine Wait.rounds (fun n e h'=>∃ i,n=xss.length - i∧i≤xss.length∧h'=h∧e.n=36∧e.get 0=.one c∧e.get 9=.one c∧e.get 10=.one (.d (.int .i64 (xss.length:Int)))∧e.get 11=.one (.d (.int .i64 (i:Int)))∧e.get 3=.one (.d (.int .i64 (catLen xss i:Int)))) xss.length
  ⟨0,rfl,by omega,rfl,by simp,by simp,by simp,by simp,by simp,by simp[Zai]⟩ ?_
 rintro n e h' ⟨i,rfl,hi,rfl,hn,h0,h9,h10,h11,h3⟩;simp[h0,h9,h10,h11,h3,hn];refine Z13 (fun hlt=>?_) (fun hge=>?_)
 ·have hw1:IntKind.i64.wrap ((i:Int)+1)=(i:Int)+1:=IntWalk.i64_in _ (by omega);obtain⟨x,hx⟩:∃ x,xss[i]?=some x:=⟨_,List.getElem?_eq_getElem hlt⟩;have hs2:=Zdv xss (i+1);have hs3:=Zaj hx;have hw2:IntKind.i64.wrap ((catLen xss i:Int)+(x.length:Int))=(catLen xss (i+1):Int):=by rw[hs3,Int.natCast_add];exact IntWalk.i64_in _ (by omega)
  have hneg:¬ ((catLen xss (i+1):Int) < 0):=by omega
  have hi0:(0:Int)≤(i:Int):=by omega
  rcases hc with rfl | ⟨lab,rfl⟩
  all_goals
   simp[h0,h9,h10,h11,h3,hn,hx,hi0];intro hxl;simp[h0,h9,h10,h11,h3,hn,hw1,hw2,hneg];exact Back.of (n':=xss.length - (i+1)) (by omega) ⟨i+1,rfl,by omega,rfl,by simp[hn],by simp[h0],by simp[h9],by simp[h10],by simp,by simp⟩
 ·obtain rfl:i=xss.length:=by omega
  have hl':catLen xss xss.length≤2097152:=by rw[Zc1];exact hl
  simp[h0,h3,hn];refine Z01 (Z9q h' (catLen xss xss.length) hl' _ (fun c1 h1 hm1 hs1 hl1=>?_));simp[h0,hn];refine Z90 hcl (fun hX=>?_);simp[h0,hn];refine Wait.rounds (fun n e h2=>∃ (i:Nat) (c2:C),n=xss.length - i∧i≤xss.length∧MR h2 1 c2 ((xss.take i).flatten.map (·.map C.d))∧Same h' h2 []∧(∀ l ∈ labs c2,h'.ep≤l.1∧l.1 < h2.ep)∧e.n=36∧e.get 25=.one c∧e.get 26=.one (.d (.int .i64 (xss.length:Int)))∧e.get 27=.one (.d (.int .i64 (i:Int)))∧e.get 6=.one c2) xss.length ?_ ?_
  ·exact⟨0,c1,rfl,by omega,(hm1.frame (fun _ _=>rfl)),hs1,hl1,by simp[hn],by simp[h0,hn],by simp[hn],by simp[hn],by simp[hn]⟩
  clear h0 h9 h10 h11 h3 hn hi hge;rintro n e h2 ⟨i,c2,rfl,hi,hm2,hs2,hl2,hn,h25,h26,h27,h6⟩;simp[h25,h26,h27,h6,hn];refine Z13 (fun hlt=>?_) (fun hge=>?_)
  ·have hw1:IntKind.i64.wrap ((i:Int)+1)=(i:Int)+1:=IntWalk.i64_in _ (by omega);obtain⟨x,hx⟩:∃ x,xss[i]?=some x:=⟨_,List.getElem?_eq_getElem hlt⟩;have hsz1:=Zb6 hx;have hsz2:=Zb7 xss (i+1);have hsz3:(xss.take (i+1)).flatten.length=(xss.take i).flatten.length+x.length:=by rw[hsz1,List.length_append]
   have hi0:(0:Int)≤(i:Int):=by omega
   have hrd:RowAt h2 1 (.d (.sl x)) (x.map (·.map C.d)):=RowAt.data (hall x (List.mem_of_getElem? hx)) (by show x.length≤2097152;omega);rcases hc with rfl | ⟨lab,rfl⟩
   all_goals
    simp[h25,h26,h27,h6,hn,hx,hi0];refine app_mr Za6 (by kernel_rfl) (by decide) (by decide) hm2 hrd (by simp only[List.length_map];show _≤2097152;omega) (fun c3 h3 hm3 hs3 hl3=>?_);simp[h25,h26,h27,hn,hw1];refine Back.of (n':=xss.length - (i+1)) (by omega) ⟨i+1,c3,rfl,by omega,?_,hs2.trans' hs3 (fun k hk=>.inr (hl2 k hk).1),?_,by simp[hn],by simp[h25],by simp[h26],by simp,by simp⟩
    ·rw[hsz1,List.map_append];exact hm3
    ·intro k hk;rcases hl3 k hk with h9 | h9
     ·have:=hl2 k h9
      have:=hs3.1
      omega
     ·have:=hs2.1
      omega
  ·obtain rfl:i=xss.length:=by omega
   rw[List.take_length] at hm2;simp[h6,hn];exact hk _ _ hm2 hs2 hl2
theorem Z9t (h:HS) (c:C) (xs:List (List C)) (hr:RowAt h 3 c xs) (K:V→HS→Prop)
  (hk:∀ c' h',MR h' 3 c' xs→Same h h' []→(∀ l ∈ labs c',h.ep≤l.1∧l.1 < h'.ep)→BoxLe h h'→K (.one c') h') :
  HSpec Tryz.prog 49 [.one c] h K:=by
 refine HSpec.good Tryz.func49 rfl (by kernel_rfl) fun hg=>?_;refine HSpec.of_vc Tryz.func49 rfl (by kernel_rfl) (n:=8) rfl rfl (by simp) ?_;simp;refine Zbq Zbj hr (fun h1=>?_) ?_
 ·subst h1;simp;exact hk _ _ MR.nil .refl (by simp[labs]) (BoxLe.refl h)
 ·simp;refine Z9j (by simp) ?_;simp;refine Zc6 Zbj (by kernel_rfl) (by decide) (by decide) hr (fun c' h' hm hs hl=>?_);simp;exact hk _ _ hm hs hl (hs.boxLe hg)
theorem Zae (h:HS) (c:C) (xs:List (List C)) (i j:Nat) (hm:MR h 1 c xs) (hij:i≤j) (hj:j≤xs.length) (K:V→HS→Prop)
  (hk:∀ c' h',MR h' 1 c' (xs.take i++xs.drop j)→(∀ l,l ∉ labs c→h'.box l=h.box l)→h'.ep=h.ep→h'.arr=h.arr→labs c'=labs c→K (.one c') h') :
  HSpec Tryz.prog 125 [.one c,.one (.d (.int .i64 i)),.one (.d (.int .i64 j))] h K:=by
 obtain⟨hall,hlim,h1 | ⟨l,cap,sp,rfl,hb,hcap⟩⟩:=hm
 ·obtain⟨rfl,hc⟩:=h1;obtain rfl:j=0:=by simpa using hj
  obtain rfl:i=0:=by omega
  rcases hc with rfl | rfl
  ·refine HSpec.of_vc Tryz.func125 rfl (by kernel_rfl) (n:=33) rfl rfl (by simp) ?_;simp;exact hk _ _ (by simpa using MR.nil) (fun _ _=>rfl) rfl rfl rfl
  ·refine HSpec.of_vc Tryz.func125 rfl (by kernel_rfl) (n:=33) rfl rfl (by simp) ?_;simp;exact hk _ _ (by simpa using MR.z) (fun _ _=>rfl) rfl rfl rfl
 ·have hlen:xs.length≤cap:=by
   have h1:=Z04 (sp:=sp) hall;omega
  have hi:i≤xs.length:=by omega
  refine HSpec.of_vc Tryz.func125 rfl (by kernel_rfl) (n:=33) rfl rfl (by simp) ?_;simp;refine Z1u ⟨⟨hij,hj⟩,hlen⟩ (fun _=>?_) (fun _=>?_)
  all_goals
   simp;refine Z6a (fun he=>?_) (fun hne=>?_)
   ·simp;have hij':i=j:=by simp at he;omega
    subst hij';refine hk _ _ ⟨?_,?_,.inr ⟨l,cap,sp,?_,?_,?_⟩⟩ (fun _ _=>rfl) rfl rfl rfl<;>simp[*]
   ·simp;have hlt:i < j:=by
     have:(i:Int)≠j:=by simpa using hne
     omega
    have hjc:j≤cap:=by omega
    have hic:i≤cap:=by omega
    have hc0:0 < cap:=by omega
    refine Wait.of (SWP.draw (Plan.then_ [0,1,2,3,4,5,6,7] .done) follows (by kernel_rfl) ?_);simp[Plan.then_,vcPlan,Z02,Z00,callKind,hjc,hic,hlen,hj,hc0];have fin:∀ (sp1:List C) (h1:HS),(rowBox (xs.take i++xs.drop j) sp1).length=cap * 1→h1.box l=some (rowBox (xs.take i++xs.drop j) sp1)→(∀ k,k≠l→h1.box k=h.box k)→h1.ep=h.ep→h1.arr=h.arr →
      K (.one (.mrow l 0 (i+(xs.length - j)) cap)) h1:=fun sp1 h1 e1 e2 e3 e4 e5=>
     hk _ _ ⟨AllC.append.2 ⟨hall.take,hall.drop⟩,by simp at hlim ⊢;omega,.inr ⟨l,cap,sp1,by simp;omega,e2,e1⟩⟩ (fun k hkl=>e3 k (by simpa[labs] using hkl)) e4 e5 rfl
    have happ:appHdr h 1 (.mrow l 0 i cap)=some (i,cap,(xs.take i).flatten,some (l,0)):=by
     have:=Z4g (off:=0) (k:=i) (cap:=cap) hall hb (by omega)
     simp only[Nat.zero_mul,List.drop_zero] at this;simp only[appHdr,this]
    have hmul:∀ a b:Nat,a≤b→a * 1≤b * 1:=fun a b h=>by omega
    have hxt:(xs.drop j).take (xs.length - j)=xs.drop j:=List.take_of_length_le (by simp);generalize hm:i+(xs.length - j)=m at *;have hm2:m≤xs.length:=by omega
    have hm3:m < xs.length:=by omega
    have hm4:m < cap:=by omega
    have hyl:(xs.take i++xs.drop j).length=m:=by simp;omega
    have hya:AllC 1 (xs.take i++xs.drop j):=AllC.append.2 ⟨hall.take,hall.drop⟩;have hzl:∀ k:Nat,(List.replicate k [C.nil]).flatten.length=k * 1:=fun k=>by simp[List.length_flatten]
    by_cases hjc2:j < cap
    ·simp[hjc2];refine Z58 Z46 happ (by have:=Z4g (off:=j) (k:=xs.length - j) (cap:=cap - j) hall hb (by omega);rw[hxt] at this;first | exact this | simpa using this) (m:=xs.length - j) rfl (by simp) (by decide) (by decide) (by simp at hlim ⊢;omega) ?_ ?_ (fun h0=>?_) (fun h0 hle=>?_) (fun h0 hgt=>?_)
     ·rw[hall.drop.flatten];simp
     ·rw[hall.take.flatten];simp;omega
     ·have hj2:xs.drop j=[]:=List.drop_eq_nil_of_le (by omega);obtain rfl:i=m:=by omega
      have hb2:∃ sp1,h.box l=some (rowBox (xs.take i++xs.drop j) sp1)∧(rowBox (xs.take i++xs.drop j) sp1).length=cap * 1:=by
       refine⟨(xs.drop i).flatten++sp,?_,?_⟩
       ·rw[hb,hj2];simp[rowBox,← List.append_assoc,← List.flatten_append]
       ·rw[← hcap,hj2];simp[rowBox,← List.append_assoc,← List.flatten_append]
      obtain⟨sp1,hb2,hl2⟩:=hb2;simp[hjc2,hlen,hm2,hm3,hm4];refine Z2l Z46 Zf4 hb2 (by decide) (by rw[hl2];omega) ?_;simp;have e2:∀ vs,Z03 (rowBox (xs.take i++xs.drop j) sp1) (i * 1) vs=rowBox (xs.take i++xs.drop j) (Z03 sp1 0 vs):=fun vs=>by have:=Z47 (sp:=sp1) (vs:=vs) hya;rw[hyl] at this;exact this
      try simp only[Nat.mul_one] at e2
      rw[e2];refine fin _ _ ?_ (by simp;rfl) (fun k hk=>by simp[hk]) (by simp) (by simp[HS.setBox]);rw[Z04 hya,Z06 (by rw[Z04 hya,hyl] at hl2;first | (rw[hzl];omega) | (simp only[List.length_replicate];omega)),← Z04 (sp:=sp1) hya,hl2]
     ·rintro l' off he';simp only[Option.some.injEq,Prod.mk.injEq] at he';obtain⟨rfl,rfl⟩:=he';refine⟨_,hb,by rw[hcap];omega,?_⟩;rw[Nat.zero_add,Zbm hall hall.drop hi,hm];have hl2:(rowBox (xs.take i++xs.drop j) (List.drop ((i+(xs.drop j).length) * 1) (rowBox xs sp))).length=cap * 1:=by
       rw[Z04 hya,hyl,List.length_drop,hcap,List.length_drop];omega
      generalize List.drop ((i+(xs.drop j).length) * 1) (rowBox xs sp)=sp1 at *;simp[hjc2,hlen,hm2,hm3,hm4];refine Z2l Z46 Zf4 (by simp;rfl) (by decide) (by rw[hl2];omega) ?_;simp;have e2:∀ vs,Z03 (rowBox (xs.take i++xs.drop j) sp1) (m * 1) vs=rowBox (xs.take i++xs.drop j) (Z03 sp1 0 vs):=fun vs=>by have:=Z47 (sp:=sp1) (vs:=vs) hya;rw[hyl] at this;exact this
      try simp only[Nat.mul_one] at e2
      rw[e2];refine fin _ _ ?_ (by simp;rfl) (fun k hk=>by simp[hk]) (by simp) (by simp[HS.setBox]);rw[Z04 hya,Z06 (by rw[Z04 hya,hyl] at hl2;first | (rw[hzl];omega) | (simp only[List.length_replicate];omega)),← Z04 (sp:=sp1) hya,hl2]
     ·omega
    ·simp[hjc2];have hj2:xs.drop j=[]:=List.drop_eq_nil_of_le (by omega);refine Z58 Z46 happ (new:=[]) (m:=0) (by simp[Z0k]) rfl (by simp) (by decide) (by decide) (by simp at hlim ⊢;omega) rfl ?_ (fun h0=>?_) (fun h0=>absurd h0 (by omega)) (fun h0=>absurd h0 (by omega))
     ·rw[hall.take.flatten];simp;omega
     ·obtain rfl:i=m:=by omega
      have hb2:∃ sp1,h.box l=some (rowBox (xs.take i++xs.drop j) sp1)∧(rowBox (xs.take i++xs.drop j) sp1).length=cap * 1:=by
       refine⟨(xs.drop i).flatten++sp,?_,?_⟩
       ·rw[hb,hj2];simp[rowBox,← List.append_assoc,← List.flatten_append]
       ·rw[← hcap,hj2];simp[rowBox,← List.append_assoc,← List.flatten_append]
      obtain⟨sp1,hb2,hl2⟩:=hb2;simp[hjc2,hlen,hm2,hm3,hm4];refine Z2l Z46 Zf4 hb2 (by decide) (by rw[hl2];omega) ?_;simp;have e2:∀ vs,Z03 (rowBox (xs.take i++xs.drop j) sp1) (i * 1) vs=rowBox (xs.take i++xs.drop j) (Z03 sp1 0 vs):=fun vs=>by have:=Z47 (sp:=sp1) (vs:=vs) hya;rw[hyl] at this;exact this
      try simp only[Nat.mul_one] at e2
      rw[e2];refine fin _ _ ?_ (by simp;rfl) (fun k hk=>by simp[hk]) (by simp) (by simp[HS.setBox]);rw[Z04 hya,Z06 (by rw[Z04 hya,hyl] at hl2;first | (rw[hzl];omega) | (simp only[List.length_replicate];omega)),← Z04 (sp:=sp1) hya,hl2]
end
end Go.Proofs.YthiojhcimecdgaaGreatDoor
