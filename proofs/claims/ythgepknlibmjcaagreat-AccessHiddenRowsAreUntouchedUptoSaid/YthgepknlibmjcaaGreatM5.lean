/- joined by a program out of 32 texts -/
import Derived.Test.YthgepknlibmjcaaGreatM4
set_option linter.unusedVariables false
set_option linter.unusedSimpArgs false
set_option maxRecDepth 20000
section
namespace Go.Proofs.YthgepknlibmjcaaGreat
open Go Go.Am
def Zif (S:Sch) (T O:Tbl) (j:Nat) (col:Int) (_:Unit) (next:Unit→Option (Sch × Int)):Option (Sch × Int):=
 getK T.cols col fun a=>getK O.cols (j:Int) fun b=>bif a.kind != b.kind then some (S,9) else next ()
def Zic (name tn:ByteArray) {ρ:Type} (k:Nat) (S:Sch) (next:Sch→Option ρ):Option ρ:=
 getK S.fks (k:Int) fun f=>bif strEq f.table name then next { S with fks:=S.fks.set k ⟨tn,f.cols,f.ref⟩ } else next S
def Zib (name tn:ByteArray) {ρ:Type} (k:Nat) (S:Sch) (next:Sch→Option ρ):Option ρ:=
 getK S.cons (k:Int) fun c=>bif strEq c.table name then next { S with cons:=S.cons.set k { c with table:=tn } } else next S
def Ze8 (T O:Tbl) (i j:Nat) (S:Sch):Option (Sch × Int):=
 chkK (T.pk.length≤O.cols.length∧0 < O.cols.length∧0 < T.cols.length∧T.cols.length+O.cols.length≤LIM) (some ({ S with tables:=(S.tables.set i { T with cols:=T.cols++O.cols.drop T.pk.length }).take j++(S.tables.set i { T with cols:=T.cols++O.cols.drop T.pk.length }).drop (j+1) },0))
def Z3o (S:Sch) (i:Nat) (name:ByteArray):Option (Sch × Int):=
 bindK (Z05 S name) fun v=>bif !v.2 then some (S,4) else getK S.tables (i:Int) fun T=>getK S.tables v.1 fun O=>bif ((i:Int) == v.1) then some (S,9) else
 bindK (Z12 O.pk (seqI T.pk.length)) fun b=>bif !b then some (S,9) else
 forK (Zif S T O) (fun _=>bindK (Z0q S ⟨name,seqI T.pk.length,T.name⟩) fun q=>bif q.2 != 0 then some (q.1,10) else
  bindK (Z0a q.1.fks fun fk=>Z2y fk name) fun b=>bif b then some (q.1,10) else
  bindK (Z10 q.1 name fun c=>Z21 c T.pk.length T T.cols.length) fun S2=>
  countK (Zic name T.name) (fun S3=>countK (Zib name T.name) (Ze8 T O i v.1.toNat) S3.cons.length 0 S3) S2.fks.length 0 S2) T.pk 0 ()
set_option maxHeartbeats 2000000 in
theorem Z9z (h:HS) (l:Lab) (tc fc oc:C) (ta fa oa:List Lab) (S S':Sch) (i:Nat) (name:ByteArray) (r:Int) (hm:Is (Z3o S i name) (S',r)) (s:Sc h l S tc fc oc ta fa oa) (K:V→HS→Prop)
  (hk:KeepS h l (ta++(fa++oa)) S' (.one (.d (.int .i64 r))) K) :
  HSpec Tryz.prog 166 [.one (.ptr l 0),.one (.d (.int .i64 (i:Int))),.one (.d (.str name))] h K:=by
 replace hm:=hm.bind
 obtain⟨v,hv,hm⟩:=hm
 have hs0:Same h ((h.setBox (h.ep,80) [.d (.str name)]).next) []:=(Same.refl.setBox (.inr (Nat.le_refl _))).next
 have s0:=s.frame hs0
 have hb0:=s0.box
 have bx5:(h.setBox (h.ep,80) [.d (.str name)]).next.box (h.ep,80)=some [.d (.str name)]:=by simp
 refine HSpec.of_vc Tryz.func166 rfl (by kernel_rfl) (n:=188) rfl rfl (by simp) ?_
 have hbs:=s.box
 have hep:h.ep < ((h.setBox (h.ep,80) [.d (.str name)]).next).ep:=by simp
 simp
 generalize (h.setBox (h.ep,80) [.d (.str name)]).next=HX at *
 refine Wait.cut (Plan.then_ [0,1,2,3,4,5,6,7,8,9] .done) follows (by kernel_rfl) (fun e h'=>e.n=188∧e.get 0=.one (.ptr l 0)∧e.get 1=.one (.d (.int .i64 (i:Int)))∧e.get 5=.one (.ptr (h.ep,80) 0)∧e.get 7=.one (.d (.int .i64 v.1))∧e.get 8=.one (.d (.bool v.2))∧Same HX h' []) ?_ ?_
 ·simp[hb0,bx5,Plan.then_,vcPlan,Z01,Z00,callKind]
  refine Z02 (HSpec.of_lend (Z06 S name v hv) ⟨.agg s0.frz,.one (.frz (.data rfl)),trivial⟩ rfl ?_)
  simp
  exact⟨fun _ _ x=>x,CutK.of (by simp[Same.refl.next])⟩
 ·rintro e h1 ⟨hn,h0,h1',h5,h7,h8,hs1⟩
  have bx5':h1.box (h.ep,80)=some [.d (.str name)]:=by rw[hs1.2 _ hep (by simp)];exact bx5
  have s1:=s0.frame hs1
  have hb1:=s1.box
  have hy:=hs0.trans hs1
  simp[hn,h8]
  cases hv2:v.2 with
  | false=>
    rw[hv2] at hm
    have e1:=r_ret hm
    simp only[Prod.mk.injEq] at e1
    obtain⟨rfl,rfl⟩:=e1
    simp[hn]
    exact hk _ _ s1.ows (hy.mono (by simp)) (fun k hk=>.inl hk)
  | true=>
    simp only[hv2,Bool.not_true,cond_false] at hm
    replace hm:=hm.getN
    obtain⟨T,hi,hm⟩:=hm
    replace hm:=hm.get
    obtain⟨O,hv0,hj,hm⟩:=hm
    obtain⟨j,hj1⟩:∃ j:Nat,v.1=j:=⟨v.1.toNat,by omega⟩
    rw[hj1] at h7 hj hm
    simp at hj
    have hlt:i < S.tables.length:=(List.getElem?_eq_some_iff.1 hi).1
    have hltj:j < S.tables.length:=(List.getElem?_eq_some_iff.1 hj).1
    obtain⟨lt,c1,c2,B,tv⟩:=s1.tbl hi
    obtain⟨cap,rfl⟩:=tv.hd
    have bx:=tv.el.box
    have r0:=tv.el.rd0 3 (by omega)
    have r1:=tv.el.rd 1 1 (by omega)
    have r2:=tv.el.rd 2 1 (by omega)
    simp at r0 r1 r2
    obtain⟨d1,d2,tw⟩:=s1.tblK bx hj
    have q0:=tw.el.rd0 3 (by omega)
    simp at q0
    simp
    refine Wait.cut (Plan.then_ [0,1,2,3,4,5,6,7,8,9,11] (.three 10 14 15 (Plan.then_ [12] (.three 13 14 15 (Plan.then_ [] (.two 14 15 (Plan.then_ [15,16,17] .done) (Plan.then_ [14,16,17] .done))) (Plan.then_ [] (.two 13 15 (Plan.then_ [15,16,17] .done) (Plan.then_ [] (.two 13 16 (Plan.then_ [16,17] .done) (Plan.then_ [13,17] .done))))) (Plan.then_ [] (.two 13 14 (Plan.then_ [14,16,17] .done) (Plan.then_ [] (.two 13 16 (Plan.then_ [16,17] .done) (Plan.then_ [13,17] .done))))))) (Plan.then_ [] (.two 10 15 (Plan.then_ [12] (.two 13 15 (Plan.then_ [15,16,17] .done) (Plan.then_ [] (.two 13 16 (Plan.then_ [16,17] .done) (Plan.then_ [13,17] .done))))) (Plan.then_ [] (.two 10 16 (Plan.then_ [12] (.two 13 16 (Plan.then_ [16,17] .done) (Plan.then_ [13,17] .done))) (Plan.then_ [10,12,13,17] .done))))) (Plan.then_ [] (.two 10 14 (Plan.then_ [12] (.two 13 14 (Plan.then_ [14,16,17] .done) (Plan.then_ [] (.two 13 16 (Plan.then_ [16,17] .done) (Plan.then_ [13,17] .done))))) (Plan.then_ [] (.two 10 16 (Plan.then_ [12] (.two 13 16 (Plan.then_ [16,17] .done) (Plan.then_ [13,17] .done))) (Plan.then_ [10,12,13,17] .done))))))) follows (by kernel_rfl) (fun e h'=>e.n=188∧e.get 0=.one (.ptr l 0)∧e.get 1=.one (.d (.int .i64 (i:Int)))∧e.get 5=.one (.ptr (h.ep,80) 0)∧e.get 7=.one (.d (.int .i64 (j:Int)))∧Same h1 h' [] ∧
     ∃ p9 p10:Lab,p9≠p10∧(h1.ep≤p9.1∧p9.1 < h'.ep)∧(h1.ep≤p10.1∧p10.1 < h'.ep)∧e.get 9=.one (.ptr p9 0)∧e.get 10=.one (.ptr p10 0)∧h'.box p9=some [.d (.str T.name),c1,c2]∧h'.box p10=some [.d (.str O.name),d1,d2]) ?_ ?_
    ·have hnl:=ne_new (s1.lt l (by simp))
     have hnt:=ne_new (s1.lt lt (by simp[tv.tm]))
     simp (maxDischargeDepth:=12) [hn,h0,h1',h5,h7,hb1,hlt,hltj,bx,r0,q0,hnl,hnt,le_s,Plan.then_,vcPlan,Z01,Z00,callKind]
     repeat' (with_reducible apply And.intro)
     all_goals first
      | (refine CutK.of ⟨?_,?_,?_,?_,?_,(((Same.refl.setBox (.inr ?_)).next.setBox (.inr ?_)).next.setBox (.inr ?_)).setBox (.inr ?_),(h1.ep,144),(h1.ep+1,160),?_,⟨?_,?_⟩,⟨?_,?_⟩,?_,?_,?_,?_⟩
         all_goals first
          | (simp[hn,h0,h1',h5,h7];done)
          | (simp;omega))
      | (refine CutK.of ⟨?_,?_,?_,?_,?_,(((Same.refl.setBox (.inr ?_)).next.setBox (.inr ?_)).next.setBox (.inr ?_)).setBox (.inr ?_),(h1.ep+1,144),(h1.ep,160),?_,⟨?_,?_⟩,⟨?_,?_⟩,?_,?_,?_,?_⟩
         all_goals first
          | (simp[hn,h0,h1',h5,h7];done)
          | (simp;omega))
    ·rintro e h2 ⟨hn,h0,h1',h5,h7,hs2,p9,p10,hp,hp9,hp10,h9,h10,b9,b10⟩
     have s2:=s1.frame hs2
     have hb2:=s2.box
     have hy2:=hy.trans hs2
     have bx52:h2.box (h.ep,80)=some [.d (.str name)]:=by rw[hs2.2 _ (Nat.lt_of_lt_of_le hep hs1.1) (by simp)];exact bx5'
     have bxl2:h2.box lt=some B:=by rw[hs2.2 _ (s1.lt lt (by simp[tv.tm])) (by simp)];exact bx
     have tT:∀ h',Same h2 h' []→TblV h' l S (.mrow lt 0 S.tables.length cap) fc oc ta fa oa i T lt c1 c2 B:=fun h' hs'=>by
      have e9:=hs'.2 lt (s2.lt lt (by simp[tv.tm])) (by simp)
      rw[bxl2] at e9
      obtain⟨a1,a2,tv9⟩:=(s2.frame hs').tblK e9 hi
      obtain⟨rfl,rfl⟩:a1=c1∧a2=c2:=by
       have:=tv9.el.rd0 3 (by omega)
       rw[r0] at this
       simp at this
       exact⟨this.1.symm,this.2.symm⟩
      exact tv9
     have tO:∀ h',Same h2 h' []→TblV h' l S (.mrow lt 0 S.tables.length cap) fc oc ta fa oa j O lt d1 d2 B:=fun h' hs'=>by
      have e9:=hs'.2 lt (s2.lt lt (by simp[tv.tm])) (by simp)
      rw[bxl2] at e9
      obtain⟨a1,a2,tv9⟩:=(s2.frame hs').tblK e9 hj
      obtain⟨rfl,rfl⟩:a1=d1∧a2=d2:=by
       have:=tv9.el.rd0 3 (by omega)
       rw[q0] at this
       simp at this
       exact⟨this.1.symm,this.2.symm⟩
      exact tv9
     simp[hn,h9,b9]
     refine Z1l tv.n2.1 ?_
     simp[hn]
     have hz:Same h2 ((h2.setBox (h2.ep,176) [C.d (D.int IntKind.i64 0)]).next.setBox (h2.ep,176) [C.d (D.int IntKind.i64 T.pk.length)]) []:=((Same.refl.setBox (.inr (Nat.le_refl _))).next).setBox (.inr (Nat.le_refl _))
     generalize hX2:(h2.setBox (h2.ep,176) [C.d (D.int IntKind.i64 0)]).next.setBox (h2.ep,176) [C.d (D.int IntKind.i64 T.pk.length)]=HB at hz ⊢
     have bb11:HB.box (h2.ep,176)=some [C.d (D.int IntKind.i64 T.pk.length)]:=by rw[← hX2];simp
     have hepB:h2.ep < HB.ep:=by rw[← hX2];simp
     have hyB:=hy2.trans hz
     have bb9:HB.box p9=some [.d (.str T.name),c1,c2]:=by rw[hz.2 _ hp9.2 (by simp)];exact b9
     have bb10:HB.box p10=some [.d (.str O.name),d1,d2]:=by rw[hz.2 _ hp10.2 (by simp)];exact b10
     have hplim:T.pk.length≤LIM:=tv.n2.2
     have hep1:h.ep < h1.ep:=Nat.lt_of_lt_of_le hep hs1.1
     have hep12:=hs2.1
     have bb5:HB.box (h.ep,80)=some [.d (.str name)]:=by rw[hz.2 _ (by simp;omega) (by simp)];exact bx52
     cases hij:(i:Int) == (j:Int) with
     | true=>
       simp only[hij,cond_true] at hm
       have e1:=r_ret hm
       simp only[Prod.mk.injEq] at e1
       obtain⟨rfl,rfl⟩:=e1
       refine Wait.cut (Plan.then_ [0,1,2,3,4,5,6,7,8,9,10] .done) follows (by kernel_rfl) (fun e h'=>e.n=188∧e.get 55=.one (.d (.bool true))∧h'=HB) ?_ ?_
       ·simp[hn,h1',h7,hij,Plan.then_,vcPlan,Z01,Z00,callKind]
        exact⟨BoxLe.refl _,CutK.of ⟨by simp[hn],by simp,rfl⟩⟩
       ·rintro e h3 ⟨hn,h55,rfl⟩
        simp[hn,h55]
        exact hk _ _ (s.frame hyB).ows (hyB.mono (by simp)) (fun k hk=>.inl hk)
     | false=>
       simp only[hij,cond_false] at hm
       replace hm:=hm.bind
       obtain⟨b,hbv,hm⟩:=hm
       have hij1:¬ (i:Int)=(j:Int):=by simpa using hij
       have hij2:¬ i=j:=by omega
       refine Wait.cut (Plan.then_ [0,1,2,3,4,5,6,7,8,9,10] .done) follows (by kernel_rfl) (fun e h'=>e.n=188∧e.get 0=.one (.ptr l 0)∧e.get 1=.one (.d (.int .i64 (i:Int)))∧e.get 5=.one (.ptr (h.ep,80) 0)∧e.get 7=.one (.d (.int .i64 (j:Int)))∧e.get 9=.one (.ptr p9 0)∧e.get 10=.one (.ptr p10 0)∧e.get 11=.one (.ptr (h2.ep,176) 0)∧e.get 55=.one (.d (.bool !b))∧Same HB h' []) ?_ ?_
       ·simp[hn,h1',h7,h10,hij,bb10,bb11,Plan.then_,vcPlan,Z01,Z00,callKind]
        refine Z02 (Z36 _ T.pk.length hplim _ (fun pc g mp hs3 hlp hbox=>?_))
        simp[hn]
        refine⟨hbox,?_⟩
        rw[Z5a] at mp
        refine Z02 (HSpec.of_lend (Z31 O.pk (seqI T.pk.length) b hbv) ⟨.one (.frz ((tO g (hz.trans hs3)).f2 _ .refl)),.one (.frz ((Ow.nrow (n:=1) mp rfl (by simp)).nfrz)),trivial⟩ rfl ?_)
        simp[hn]
        exact⟨fun _ _ x=>x,CutK.of ⟨by simp[hn],by simp[h0],by simp[h1'],by simp[h5],by simp[h7],by simp[h9],by simp[h10],by simp,by simp,hs3.next⟩⟩
       ·rintro e h3 ⟨hn,h0,h1',h5,h7,h9,h10,h11,h55,hs3⟩
        have hz3:=hz.trans hs3
        have hy3:=hy2.trans hz3
        have s3:=s.frame hy3
        simp[hn,h55]
        cases b with
        | false=>
          have e1:=r_ret hm
          simp only[Prod.mk.injEq] at e1
          obtain⟨rfl,rfl⟩:=e1
          simp[hn]
          exact hk _ _ s3.ows (hy3.mono (by simp)) (fun k hk=>.inl hk)
        | true=>
          simp only[Bool.not_true,cond_false] at hm
          have b93:h3.box p9=some [.d (.str T.name),c1,c2]:=by rw[hs3.2 _ (by omega) (by simp)];exact bb9
          have b103:h3.box p10=some [.d (.str O.name),d1,d2]:=by rw[hs3.2 _ (by omega) (by simp)];exact bb10
          have b113:h3.box (h2.ep,176)=some [C.d (D.int IntKind.i64 T.pk.length)]:=by rw[hs3.2 _ (by simpa using hepB) (by simp)];exact bb11
          have b53:h3.box (h.ep,80)=some [.d (.str name)]:=by rw[hs3.2 _ (by simp;omega) (by simp)];exact bb5
          simp[hn,h9,b93]
          refine Z1l tv.n2.1 ?_
          simp[hn]
          have t3:=tT h3 hz3
          have u3:=tO h3 hz3
          refine Wait.for (xs:=T.pk) (s0:=()) (fun k _ e g=>e.n=188∧e.get 0=.one (.ptr l 0)∧e.get 1=.one (.d (.int .i64 (i:Int)))∧e.get 5=.one (.ptr (h.ep,80) 0)∧e.get 7=.one (.d (.int .i64 (j:Int)))∧e.get 9=.one (.ptr p9 0)∧e.get 10=.one (.ptr p10 0)∧e.get 11=.one (.ptr (h2.ep,176) 0)∧e.get 57=.one c2∧e.get 58=.one (.d (.int .i64 (T.pk.length:Int)))∧e.get 59=.one (.d (.int .i64 (k:Int)))∧g=h3) hm ⟨by simp[hn],by simp[h0],by simp[h1'],by simp[h5],by simp[h7],by simp[h9],by simp[h10],by simp[h11],by simp,by simp,by simp,rfl⟩ ?_ ?_
          ·rintro k _ e g ⟨hn,h0,h1',h5,h7,h9,h10,h11,h57,h58,h59,rfl⟩ hltk hm
           simp only[Zif] at hm
           replace hm:=hm.get
           obtain⟨ca,hca0,hca,hm⟩:=hm
           replace hm:=hm.getN
           obtain⟨cb,hcb,hm⟩:=hm
           have hw:IntKind.i64.wrap ((k:Int)+1)=(k:Int)+1:=IntWalk.i64_in _ (by have h9':T.pk.length≤2097152:=hplim;omega)
           obtain⟨lp,cp,Bp,rfl,ep,-⟩:=t3.e2 k _ (List.getElem?_eq_getElem hltk)
           have bp:=ep.box
           have rp:=ep.rd0 1 (by omega)
           obtain⟨n,hn1⟩:∃ n:Nat,T.pk[k]=n:=⟨(T.pk[k]).toNat,by omega⟩
           rw[hn1] at rp hca
           simp at rp hca
           have hnl:n < T.cols.length:=(List.getElem?_eq_some_iff.1 hca).1
           have hkl:k < O.cols.length:=(List.getElem?_eq_some_iff.1 hcb).1
           obtain⟨l1,cp1,B1,rfl,el1,-⟩:=t3.e1 n ca hca
           obtain⟨l2,cp2,B2,rfl,el2,-⟩:=u3.e1 k cb hcb
           have bx1:=el1.box
           have bx2:=el2.box
           have q1:=el1.rd 1 1 (by omega)
           have q2:=el2.rd 1 1 (by omega)
           simp at q1 q2
           simp[hn,h57,h58,h59,hltk,bp,rp]
           refine Wait.cut (Plan.then_ [0,1,2,3,4,5,6,7,8,9,10,11,12] .done) follows (by kernel_rfl) (fun e g'=>e.n=188∧e.get 0=.one (.ptr l 0)∧e.get 1=.one (.d (.int .i64 (i:Int)))∧e.get 5=.one (.ptr (h.ep,80) 0)∧e.get 7=.one (.d (.int .i64 (j:Int)))∧e.get 9=.one (.ptr p9 0)∧e.get 10=.one (.ptr p10 0)∧e.get 11=.one (.ptr (h2.ep,176) 0)∧e.get 57=.one (.mrow lp 0 T.pk.length cp)∧e.get 58=.one (.d (.int .i64 (T.pk.length:Int)))∧e.get 59=.one (.d (.int .i64 (k:Int)))∧e.get 76=.one (.d (.bool (ca.kind != cb.kind)))∧g'=g) ?_ ?_
           ·simp[hn,h9,h10,b93,b103,hn1,hnl,hkl,bx1,bx2,q1,q2,Plan.then_,vcPlan,Z01,Z00,callKind]
            exact CutK.of ⟨by simp[hn],by simp[h0],by simp[h1'],by simp[h5],by simp[h7],by simp[h9],by simp[h10],by simp[h11],by simp[h57],by simp[h58],by simp[h59],by simp,rfl⟩
           ·rintro e g' ⟨hn,h0,h1',h5,h7,h9,h10,h11,h57,h58,h59,h76,rfl⟩
            simp[hn,h76]
            cases hkk:ca.kind != cb.kind with
            | true=>
              simp only[hkk,cond_true] at hm
              have e1:=r_ret hm
              simp only[Prod.mk.injEq] at e1
              obtain⟨rfl,rfl⟩:=e1
              simp[hn,hkk]
              exact hk _ _ s3.ows (hy3.mono (by simp)) (fun k hk=>.inl hk)
            | false=>
              simp only[hkk,cond_false] at hm
              simp[hn,h59,hkk,hw]
              exact BackF.of () ⟨⟨by simp[hn],by simp[h0],by simp[h1'],by simp[h5],by simp[h7],by simp[h9],by simp[h10],by simp[h11],by simp[h57],by simp[h58],by simp,rfl⟩,hm⟩
          ·rintro _ e g ⟨hn,h0,h1',h5,h7,h9,h10,h11,h57,h58,h59,rfl⟩ hm
           replace hm:=hm.bind
           obtain⟨q,hq,hm⟩:=hm
           simp[hn,h58,h59]
           have hep3:=hs3.1
           refine Wait.cutB (fun k=>k == 3) (Plan.then_ [0,1,2,4,5,3,6,7,8] .done) follows (by kernel_rfl) (fun e g'=>e.n=188∧e.get 0=.one (.ptr l 0)∧e.get 1=.one (.d (.int .i64 (i:Int)))∧e.get 5=.one (.ptr (h.ep,80) 0)∧e.get 7=.one (.d (.int .i64 (j:Int)))∧e.get 9=.one (.ptr p9 0)∧e.get 10=.one (.ptr p10 0)∧e.get 11=.one (.ptr (h2.ep,176) 0)∧e.get 14=.one (.d (.int .i64 q.2))∧∃ fc' fa',Sc g' l q.1 (.mrow lt 0 S.tables.length cap) fc' oc ta fa' oa∧Same g g' (l::fa)∧(∀ k ∈ fa',k ∈ fa)) ?_ ?_
           ·simp[hn,h0,h5,h9,h11,b53,b93,b113,Plan.then_,Z6b,Z01,Z00,callKind]
            refine Z02 (Z36 _ T.pk.length hplim _ (fun pc g2 mp hs4 hlp hbox=>?_))
            simp[hn]
            refine⟨hbox,?_⟩
            refine Z02 (Z7y g2 l _ fc oc ta fa oa S q.1 ⟨name,seqI T.pk.length,T.name⟩ [.d (.str name),pc,.d (.str T.name)] q.2 hq (s3.frame hs4) (fun h' hs'=>⟨.data rfl,?_,.data rfl,trivial⟩) _ (fun g3 fc' fa' s4 hs5 hfa'=>?_))
            ·rw[Z5a] at mp
             exact (Ow.nrow (n:=1) (mp.frame fun k hk=>hs'.2 k (hlp k hk).2 (by simp)) rfl (by simp)).nfrz
            ·simp[hn]
             exact CutK.of ⟨by simp[hn],by simp[h0],by simp[h1'],by simp[h5],by simp[h7],by simp[h9],by simp[h10],by simp[h11],by simp,fc',fa',s4,(hs4.mono (by simp)).trans hs5,hfa'⟩
           ·rintro e ga ⟨hn,h0,h1',h5,h7,h9,h10,h11,h14,fc',fa',s4,hs4,hfa'⟩
            obtain⟨S1,q2⟩:=q
            simp only at hq hm h14 s4
            have ht4:=Zgi hq
            have hi4:S1.tables[i]?=some T:=by rw[ht4];exact hi
            have hj4:S1.tables[j]?=some O:=by rw[ht4];exact hj
            have hy4:Same h ga (l::(ta++(fa++oa))):=(hy3.mono (by simp)).trans (hs4.mono fun k hk=>by simp only[List.mem_cons,List.mem_append] at hk ⊢;exact hk.imp_right fun h=>.inr (.inl h))
            have fresh:∀ k:Lab,h.ep≤k.1→k ∉ l::(ta++(fa++oa)):=fun k hk h2=>by have:=s.lt k h2;omega
            have fresh2:∀ k:Lab,h.ep≤k.1→k ∉ l::fa:=fun k hk h2=>fresh k hk (by simp only[List.mem_cons,List.mem_append] at h2 ⊢;exact h2.imp_right fun h=>.inr (.inl h))
            have b94:ga.box p9=some [.d (.str T.name),c1,c2]:=by rw[hs4.2 _ (by omega) (fresh2 _ (by omega))];exact b93
            have b104:ga.box p10=some [.d (.str O.name),d1,d2]:=by rw[hs4.2 _ (by omega) (fresh2 _ (by omega))];exact b103
            have b114:ga.box (h2.ep,176)=some [C.d (D.int IntKind.i64 T.pk.length)]:=by rw[hs4.2 _ (by simp;omega) (fresh2 _ (by simp;omega))];exact b113
            have b54:ga.box (h.ep,80)=some [.d (.str name)]:=by rw[hs4.2 _ (by simp;omega) (fresh2 _ (by simp))];exact b53
            have hep4:=hs4.1
            have hnd:=s.nd
            simp only[List.nodup_cons,List.nodup_append,List.mem_append,not_or] at hnd
            have htaf:∀ k ∈ ta,k≠l∧k ∉ fa∧k ∉ oa:=fun k hk=>⟨fun he=>hnd.1.1 (he ▸ hk),fun h2=>hnd.2.2.2 k hk k (.inl h2) rfl,fun h2=>hnd.2.2.2 k hk k (.inr h2) rfl⟩
            have bl4:ga.box lt=some B:=by
             rw[hs4.2 lt (s3.lt lt (by simp[tv.tm])) (fun h2=>by
              have:=htaf lt tv.tm
              simp only[List.mem_cons] at h2
              exact h2.elim this.1 this.2.1)]
             exact t3.el.box
            have mkT:∀ {h':HS} {S9:Sch} {fc9 oc9:C} {fa9 oa9:List Lab},Sc h' l S9 (.mrow lt 0 S.tables.length cap) fc9 oc9 ta fa9 oa9→S9.tables=S.tables→h'.box lt=some B→TblV h' l S9 (.mrow lt 0 S.tables.length cap) fc9 oc9 ta fa9 oa9 i T lt c1 c2 B∧TblV h' l S9 (.mrow lt 0 S.tables.length cap) fc9 oc9 ta fa9 oa9 j O lt d1 d2 B:=fun {h' S9 fc9 oc9 fa9 oa9} s9 ht9 hb9=>by
             refine⟨?_,?_⟩
             ·obtain⟨a1,a2,tv9⟩:=s9.tblK hb9 (i:=i) (T:=T) (by rw[ht9];exact hi)
              obtain⟨rfl,rfl⟩:a1=c1∧a2=c2:=by
               have:=tv9.el.rd0 3 (by omega)
               rw[r0] at this
               simp at this
               exact⟨this.1.symm,this.2.symm⟩
              exact tv9
             ·obtain⟨a1,a2,tv9⟩:=s9.tblK hb9 (i:=j) (T:=O) (by rw[ht9];exact hj)
              obtain⟨rfl,rfl⟩:a1=d1∧a2=d2:=by
               have:=tv9.el.rd0 3 (by omega)
               rw[q0] at this
               simp at this
               exact⟨this.1.symm,this.2.symm⟩
              exact tv9
            have ks:∀ k ∈ ta++(fa'++oa),k ∈ ta++(fa++oa):=fun k hk=>by simp only[List.mem_append] at hk ⊢;exact hk.imp_right fun h=>h.imp_left (hfa' k)
            simp[hn,h14]
            cases hq0:q2 != 0 with
            | true=>
              simp only[hq0,cond_true] at hm
              have e1:=r_ret hm
              simp only[Prod.mk.injEq] at e1
              obtain⟨rfl,rfl⟩:=e1
              simp[hn,hq0]
              exact hk _ _ s4.ows hy4 (fun k hk=>.inl (ks k hk))
            | false=>
              simp only[hq0,cond_false] at hm
              replace hm:=hm.bind
              obtain⟨b,hbv,hm⟩:=hm
              have hb4:=s4.box
              simp[hn,h0,h5,h14,hq0,hb4]
              refine Z02 (HSpec.of_lend (Z0u S1.fks 185 [[.str name]] (fun fk=>Z2y fk name) (fun xa v hv=>Z9b xa name v hv) b hbv) ⟨.one (.frz s4.ffrz),.one (.fn rfl ?_),trivial⟩ rfl ?_)
              ·intro jj cp ds hj hd
               cases jj with
               | zero=>
                 simp at hj hd
                 subst hj hd
                 exact⟨_,b54,FrzCs.datas (ds:=[.str name])⟩
               | succ jj=>simp at hj
              ·have hz5:Same ga ga.next []:=Same.refl.next
               have s5:=s4.frame hz5
               simp[hn]
               cases b with
               | true=>
                 have e1:=r_ret hm
                 simp only[Prod.mk.injEq] at e1
                 obtain⟨rfl,rfl⟩:=e1
                 simp[hn]
                 exact hk _ _ s5.ows (hy4.trans (hz5.mono (by simp))) (fun k hk=>.inl (ks k hk))
               | false=>
                 simp only[cond_false] at hm
                 replace hm:=hm.bind
                 obtain⟨S2,hm2,hm⟩:=hm
                 simp[hn,h9,b94]
                 refine Z1l tv.n1.1 ?_
                 have h5n:=ne_new (l:=(h.ep,80)) (n:=ga.ep) (by simp;omega)
                 simp (maxDischargeDepth:=12) [hn,h0,h5,h9,h11,h5n,b54,le_s]
                 have hz6:Same ga ((ga.next.setBox (ga.ep+1,240) [C.d (D.int IntKind.i64 0)]).next.setBox (ga.ep+1,240) [C.d (D.int IntKind.i64 T.cols.length)]) []:=((hz5.setBox (.inr (by simp))).next).setBox (.inr (by simp))
                 generalize hX7:(ga.next.setBox (ga.ep+1,240) [C.d (D.int IntKind.i64 0)]).next.setBox (ga.ep+1,240) [C.d (D.int IntKind.i64 T.cols.length)]=HC at hz6 ⊢
                 have s6:=s4.frame hz6
                 have hep6:ga.ep+1 < HC.ep:=by rw[← hX7];simp
                 have b15:HC.box (ga.ep+1,240)=some [C.d (D.int IntKind.i64 T.cols.length)]:=by rw[← hX7];simp
                 have kC:∀ k:Lab,k.1 < ga.ep→HC.box k=ga.box k:=fun k hk=>hz6.2 k hk (by simp)
                 have fr6:∀ k:Lab,h.ep≤k.1→k ∉ fa'++oa:=fun k hk h2=>fresh k hk (by simp only[List.mem_cons,List.mem_append] at h2 ⊢;exact .inr (.inr (h2.imp_left (hfa' k))))
                 have blC:HC.box lt=some B:=by rw[kC lt (s4.lt lt (by simp[tv.tm]))];exact bl4
                 obtain⟨t6,u6⟩:=mkT s6 ht4 blC
                 have lend:∀ h',Same HC h' (fa'++oa)→LendVs h' ([Cap.lab (h2.ep,176),Cap.lab p9,Cap.lab (ga.ep+1,240)].map capV) (capsOf [[.int .i64 T.pk.length],T.enc,[.int .i64 T.cols.length]]):=fun h' hs'=>by
                  refine⟨.one (.ptr (cs:=[C.d (D.int IntKind.i64 T.pk.length)]) ?_ (FrzCs.datas (ds:=[.int .i64 T.pk.length]))),.one (.ptr (cs:=[.d (.str T.name),c1,c2]) ?_ (s6.tblFrz t6 hi4 h' fun k hk=>hs'.2 k (s6.lt k (by simp[hk])) fun h2=>?_)),.one (.ptr (cs:=[C.d (D.int IntKind.i64 T.cols.length)]) ?_ (FrzCs.datas (ds:=[.int .i64 T.cols.length]))),trivial⟩
                  ·rw[hs'.2 _ (by simp;omega) (fr6 _ (by simp;omega)),kC _ (by simp;omega)];exact b114
                  ·rw[hs'.2 _ (by omega) (fr6 _ (by omega)),kC _ (by omega)];exact b94
                  ·have:=htaf k hk
                   rcases List.mem_append.1 h2 with h2 | h2
                   ·exact this.2.1 (hfa' k h2)
                   ·exact this.2.2 h2
                  ·rw[hs'.2 _ (by simpa using hep6) (fr6 _ (by simp;omega))];exact b15
                 refine Z02 (Z65 HC l _ fc' oc ta fa' oa S1 S2 name 187 [Cap.lab (h2.ep,176),Cap.lab p9,Cap.lab (ga.ep+1,240)] [[.int .i64 T.pk.length],T.enc,[.int .i64 T.cols.length]] _ hm2 s6 lend (fun x v hv=>Z9a x T.pk.length T T.cols.length v hv) _ (fun g7 s7 hs7=>?_))
                 have ht7:S2.tables=S.tables:=(Zh2 hm2).trans ht4
                 have hb7:=s7.box
                 simp[hn,h0,hb7]
                 refine Z1l s7.len.2.1.1 ?_
                 simp[hn]
                 have en2:∀ h',Same HC h' (fa'++oa)→h'.box (h.ep,80)=some [.d (.str name)]∧h'.box p9=some [.d (.str T.name),c1,c2]∧h'.box p10=some [.d (.str O.name),d1,d2]∧h'.box (h2.ep,176)=some [C.d (D.int IntKind.i64 T.pk.length)]∧h'.box lt=some B:=fun h' hs'=>by
                  refine⟨?_,?_,?_,?_,?_⟩
                  ·rw[hs'.2 _ (by simp;omega) (fr6 _ (by simp)),kC _ (by simp;omega)];exact b54
                  ·rw[hs'.2 _ (by omega) (fr6 _ (by omega)),kC _ (by omega)];exact b94
                  ·rw[hs'.2 _ (by omega) (fr6 _ (by omega)),kC _ (by omega)];exact b104
                  ·rw[hs'.2 _ (by simp;omega) (fr6 _ (by simp;omega)),kC _ (by simp;omega)];exact b114
                  ·rw[hs'.2 lt (s6.lt lt (by simp[tv.tm])) fun h2=>?_]
                   ·exact blC
                   ·have:=htaf lt tv.tm
                    rcases List.mem_append.1 h2 with h2 | h2
                    ·exact this.2.1 (hfa' lt h2)
                    ·exact this.2.2 h2
                 refine Wait.count (N:=(S2.fks.length:Int)) (s0:=S2) (fun k S3 e g=>e.n=188∧e.get 0=.one (.ptr l 0)∧e.get 1=.one (.d (.int .i64 (i:Int)))∧e.get 5=.one (.ptr (h.ep,80) 0)∧e.get 7=.one (.d (.int .i64 (j:Int)))∧e.get 9=.one (.ptr p9 0)∧e.get 10=.one (.ptr p10 0)∧e.get 11=.one (.ptr (h2.ep,176) 0)∧e.get 105=.one (.d (.int .i64 (S2.fks.length:Int)))∧e.get 106=.one (.d (.int .i64 (k:Int)))∧S3.fks.length=S2.fks.length∧S3.tables=S.tables∧Sc g l S3 (.mrow lt 0 S.tables.length cap) fc' oc ta fa' oa∧Same HC g (fa'++oa)) (by simpa using hm) ⟨by simp[hn],by simp[h0],by simp[h1'],by simp[h5],by simp[h7],by simp[h9],by simp[h10],by simp[h11],by simp,by simp,rfl,ht7,s7,hs7⟩ ?_ ?_
                 ·rintro k S3 e g ⟨hn,h0,h1',h5,h7,h9,h10,h11,hlen,hcnt,hl3,ht3,s8,hs8⟩ hlt8 hm
                  simp only[Zic] at hm
                  replace hm:=hm.getN
                  obtain⟨f,hf,hm⟩:=hm
                  have hltk:k < S2.fks.length:=by omega
                  have hltk2:k < S3.fks.length:=by omega
                  have hfl:=s8.len.2.1.2
                  simp only[lim_eq] at hfl
                  have hw:IntKind.i64.wrap ((k:Int)+1)=(k:Int)+1:=IntWalk.i64_in _ (by omega)
                  have hb8:=s8.box
                  obtain⟨lf,cf,Bf,rfl,bxf,hle⟩:=s8.fkH hf
                  obtain⟨hlf,hllf,c1f,el,-,-,w0,-⟩:=s8.fkK bxf hf
                  have rf:=el.rd0 1 (by omega)
                  simp at rf
                  obtain⟨b58,b98,b108,b118,bl8⟩:=en2 g hs8
                  simp[hn,hlen,hcnt,hltk]
                  refine Wait.cut (Plan.then_ [0,1,2,3,4,5,6,7,8,9] .done) follows (by kernel_rfl) (fun e g'=>e.n=188∧e.get 0=.one (.ptr l 0)∧e.get 1=.one (.d (.int .i64 (i:Int)))∧e.get 5=.one (.ptr (h.ep,80) 0)∧e.get 7=.one (.d (.int .i64 (j:Int)))∧e.get 9=.one (.ptr p9 0)∧e.get 10=.one (.ptr p10 0)∧e.get 11=.one (.ptr (h2.ep,176) 0)∧e.get 105=.one (.d (.int .i64 (S2.fks.length:Int)))∧e.get 106=.one (.d (.int .i64 (k:Int)))∧e.get 16=.one (.d (.int .i64 (k:Int)))∧e.get 118=.one (.d (.bool (strEq f.table name)))∧g'=g) ?_ ?_
                  ·simp[hn,h0,h5,hltk2,hb8,b58,bxf,rf,Plan.then_,vcPlan,Z01,Z00,callKind]
                   exact CutK.of ⟨by simp[hn],by simp[h0],by simp[h1'],by simp[h5],by simp[h7],by simp[h9],by simp[h10],by simp[h11],by simp[hlen],by simp[hcnt],by simp,by simp,rfl⟩
                  ·rintro e g' ⟨hn,h0,h1',h5,h7,h9,h10,h11,hlen,hcnt,hidx,hcmp,rfl⟩
                   simp[hn,hcmp]
                   cases hbt:strEq f.table name with
                   | false=>
                     simp only[hbt,cond_false] at hm
                     simp[hn,hcnt,hw]
                     exact BackF.of S3 ⟨⟨by simp[hn],by simp[h0],by simp[h1'],by simp[h5],by simp[h7],by simp[h9],by simp[h10],by simp[h11],by simp[hlen],by simp,hl3,ht3,s8,hs8⟩,hm⟩
                   | true=>
                     simp only[hbt,cond_true] at hm
                     simp[hn]
                     refine Wait.cut (Plan.then_ [0,1,2,3,4,5,6,7,8,9] .done) follows (by kernel_rfl) (fun e g''=>e.n=188∧e.get 0=.one (.ptr l 0)∧e.get 1=.one (.d (.int .i64 (i:Int)))∧e.get 5=.one (.ptr (h.ep,80) 0)∧e.get 7=.one (.d (.int .i64 (j:Int)))∧e.get 9=.one (.ptr p9 0)∧e.get 10=.one (.ptr p10 0)∧e.get 11=.one (.ptr (h2.ep,176) 0)∧e.get 105=.one (.d (.int .i64 (S2.fks.length:Int)))∧e.get 106=.one (.d (.int .i64 (k:Int)))∧Sc g'' l { S3 with fks:=S3.fks.set k ⟨T.name,f.cols,f.ref⟩ } (.mrow lt 0 S.tables.length cap) (.mrow lf 0 S3.fks.length cf) oc ta fa' oa∧Same HC g'' (fa'++oa)) ?_ ?_
                     ·simp[hn,h0,h9,hidx,hltk2,hb8,b98,bxf,Plan.then_,vcPlan,Z01,Z00,callKind]
                      exact⟨by omega,CutK.of ⟨by simp[hn],by simp[h0],by simp[h1'],by simp[h5],by simp[h7],by simp[h9],by simp[h10],by simp[h11],by simp[hlen],by simp[hcnt],w0 T.name,hs8.setBox (.inl (by simp[hlf]))⟩⟩
                     ·rintro e g'' ⟨hn,h0,h1',h5,h7,h9,h10,h11,hlen,hcnt,s9,hs9⟩
                      simp[hn,hcnt,hw]
                      exact BackF.of ({ S3 with fks:=S3.fks.set k ⟨T.name,f.cols,f.ref⟩ }:Sch) ⟨⟨by simp[hn],by simp[h0],by simp[h1'],by simp[h5],by simp[h7],by simp[h9],by simp[h10],by simp[h11],by simp[hlen],by simp,by simpa using hl3,ht3,s9,hs9⟩,hm⟩
                 ·rintro k S3 e g ⟨hn,h0,h1',h5,h7,h9,h10,h11,h105,h106,hl3,ht3,s8,hs8⟩ hge hm
                  have hge1:¬ k < S2.fks.length:=by omega
                  have hb8:=s8.box
                  simp[hn,h0,h105,h106,hge1,hb8]
                  refine Z1l s8.len.2.2.1 ?_
                  simp[hn]
                  refine Wait.count (N:=(S3.cons.length:Int)) (s0:=S3) (fun k S4 e g=>e.n=188∧e.get 0=.one (.ptr l 0)∧e.get 1=.one (.d (.int .i64 (i:Int)))∧e.get 5=.one (.ptr (h.ep,80) 0)∧e.get 7=.one (.d (.int .i64 (j:Int)))∧e.get 9=.one (.ptr p9 0)∧e.get 10=.one (.ptr p10 0)∧e.get 11=.one (.ptr (h2.ep,176) 0)∧e.get 133=.one (.d (.int .i64 (S3.cons.length:Int)))∧e.get 134=.one (.d (.int .i64 (k:Int)))∧S4.cons.length=S3.cons.length∧S4.tables=S.tables∧Sc g l S4 (.mrow lt 0 S.tables.length cap) fc' oc ta fa' oa∧Same HC g (fa'++oa)) (by simpa using hm) ⟨by simp[hn],by simp[h0],by simp[h1'],by simp[h5],by simp[h7],by simp[h9],by simp[h10],by simp[h11],by simp,by simp,rfl,ht3,s8,hs8⟩ ?_ ?_
                  ·rintro k S4 e g ⟨hn,h0,h1',h5,h7,h9,h10,h11,hlen,hcnt,hl3,ht3,s8,hs8⟩ hlt8 hm
                   simp only[Zib] at hm
                   replace hm:=hm.getN
                   obtain⟨f,hf,hm⟩:=hm
                   have hltk:k < S3.cons.length:=by omega
                   have hltk2:k < S4.cons.length:=by omega
                   have hfl:=s8.len.2.2.2
                   simp only[lim_eq] at hfl
                   have hw:IntKind.i64.wrap ((k:Int)+1)=(k:Int)+1:=IntWalk.i64_in _ (by omega)
                   have hb8:=s8.box
                   obtain⟨lf,cf,Bf,rfl,bxf,hle⟩:=s8.conH hf
                   obtain⟨hlf,hllf,el,w0,-,-⟩:=s8.conK bxf hf
                   have rf:=el.rd0 1 (by omega)
                   simp at rf
                   obtain⟨b58,b98,b108,b118,bl8⟩:=en2 g hs8
                   simp[hn,hlen,hcnt,hltk]
                   refine Wait.cut (Plan.then_ [0,1,2,3,4,5,6,7,8,9] .done) follows (by kernel_rfl) (fun e g'=>e.n=188∧e.get 0=.one (.ptr l 0)∧e.get 1=.one (.d (.int .i64 (i:Int)))∧e.get 5=.one (.ptr (h.ep,80) 0)∧e.get 7=.one (.d (.int .i64 (j:Int)))∧e.get 9=.one (.ptr p9 0)∧e.get 10=.one (.ptr p10 0)∧e.get 11=.one (.ptr (h2.ep,176) 0)∧e.get 133=.one (.d (.int .i64 (S3.cons.length:Int)))∧e.get 134=.one (.d (.int .i64 (k:Int)))∧e.get 17=.one (.d (.int .i64 (k:Int)))∧e.get 146=.one (.d (.bool (strEq f.table name)))∧g'=g) ?_ ?_
                   ·simp[hn,h0,h5,hltk2,hb8,b58,bxf,rf,Plan.then_,vcPlan,Z01,Z00,callKind]
                    exact CutK.of ⟨by simp[hn],by simp[h0],by simp[h1'],by simp[h5],by simp[h7],by simp[h9],by simp[h10],by simp[h11],by simp[hlen],by simp[hcnt],by simp,by simp,rfl⟩
                   ·rintro e g' ⟨hn,h0,h1',h5,h7,h9,h10,h11,hlen,hcnt,hidx,hcmp,rfl⟩
                    simp[hn,hcmp]
                    cases hbt:strEq f.table name with
                    | false=>
                      simp only[hbt,cond_false] at hm
                      simp[hn,hcnt,hw]
                      exact BackF.of S4 ⟨⟨by simp[hn],by simp[h0],by simp[h1'],by simp[h5],by simp[h7],by simp[h9],by simp[h10],by simp[h11],by simp[hlen],by simp,hl3,ht3,s8,hs8⟩,hm⟩
                    | true=>
                      simp only[hbt,cond_true] at hm
                      simp[hn]
                      refine Wait.cut (Plan.then_ [0,1,2,3,4,5,6,7,8,9] .done) follows (by kernel_rfl) (fun e g''=>e.n=188∧e.get 0=.one (.ptr l 0)∧e.get 1=.one (.d (.int .i64 (i:Int)))∧e.get 5=.one (.ptr (h.ep,80) 0)∧e.get 7=.one (.d (.int .i64 (j:Int)))∧e.get 9=.one (.ptr p9 0)∧e.get 10=.one (.ptr p10 0)∧e.get 11=.one (.ptr (h2.ep,176) 0)∧e.get 133=.one (.d (.int .i64 (S3.cons.length:Int)))∧e.get 134=.one (.d (.int .i64 (k:Int)))∧Sc g'' l { S4 with cons:=S4.cons.set k { f with table:=T.name } } (.mrow lt 0 S.tables.length cap) fc' (.mrow lf 0 S4.cons.length cf) ta fa' oa∧Same HC g'' (fa'++oa)) ?_ ?_
                      ·simp[hn,h0,h9,hidx,hltk2,hb8,b98,bxf,Plan.then_,vcPlan,Z01,Z00,callKind]
                       exact⟨by omega,CutK.of ⟨by simp[hn],by simp[h0],by simp[h1'],by simp[h5],by simp[h7],by simp[h9],by simp[h10],by simp[h11],by simp[hlen],by simp[hcnt],w0 T.name,hs8.setBox (.inl (by simp[hlf]))⟩⟩
                      ·rintro e g'' ⟨hn,h0,h1',h5,h7,h9,h10,h11,hlen,hcnt,s9,hs9⟩
                       simp[hn,hcnt,hw]
                       exact BackF.of ({ S4 with cons:=S4.cons.set k { f with table:=T.name } }:Sch) ⟨⟨by simp[hn],by simp[h0],by simp[h1'],by simp[h5],by simp[h7],by simp[h9],by simp[h10],by simp[h11],by simp[hlen],by simp,by simpa using hl3,ht3,s9,hs9⟩,hm⟩
                  ·rintro k S4 e g ⟨hn,h0,h1',h5,h7,h9,h10,h11,h133,h134,hl4,ht4',s9,hs9⟩ hge hm
                   have hge1:¬ k < S3.cons.length:=by omega
                   simp only[Ze8] at hm
                   replace hm:=hm.chk
                   obtain⟨⟨hpo,ho0,hc0,hto⟩,hm⟩:=hm
                   have e1:=r_ret hm
                   simp only[Prod.mk.injEq] at e1
                   obtain⟨rfl,rfl⟩:=e1
                   simp[hn,h133,h134,hge1]
                   obtain⟨b59,b99,b109,b119,bl9⟩:=en2 g hs9
                   obtain⟨t9,u9⟩:=mkT s9 ht4' bl9
                   have hlt9:i < S4.tables.length:=by rw[ht4'];exact hlt
                   have hltj9:j < S4.tables.length:=by rw[ht4'];exact hltj
                   have hb9:=s9.box
                   have htl:S.tables.length=S4.tables.length:=by rw[ht4']
                   obtain⟨lo,cpo,Bo,hd1,-,-⟩:=u9.e1 0 _ (List.getElem?_eq_getElem ho0)
                   have mo:=u9.m1 (by intro h0;simp[h0] at ho0)
                   subst hd1
                   have hcpo:O.cols.length≤cpo:=by
                    rcases mo.2.2 with ⟨h2,_⟩ | ⟨l',cap',sp,h2,h3,h4⟩
                    ·simp at h2;simp[h2] at ho0
                    ·simp at h2
                     obtain⟨rfl,rfl⟩:=h2
                     rw[Z04 mo.1] at h4
                     simp at h4
                     omega
                   have hto2:T.cols.length+O.cols.length≤2097152:=hto
                   have r19:=t9.el.rd 1 1 (by omega)
                   simp at r19
                   have hep8:=hs9.1
                   refine Wait.cut (Plan.then_ [0,1,2,4,5,6,7,8,9,10,11,12,13,14,15,16] (.two 3 17 (Plan.then_ [17,18,19,20] .done) (Plan.then_ [3,18,19,20] .done))) follows (by kernel_rfl) (fun e g'=>e.n=188∧e.get 0=.one (.ptr l 0)∧e.get 7=.one (.d (.int .i64 (j:Int)))∧∃ ta',Sc g' l { S4 with tables:=S4.tables.set i { T with cols:=T.cols++O.cols.drop T.pk.length } } (.mrow lt 0 S.tables.length cap) fc' oc ta' fa' oa∧Same g g' ta∧∀ k ∈ ta',k ∈ ta∨g.ep≤k.1) ?_ ?_
                   ·simp[hn,h0,h1',h10,h11,hb9,hlt,hlt9,htl,bl9,r19,b109,b119,Plan.then_,vcPlan,Z01,Z00,callKind]
                    refine Z14 ⟨hpo,hcpo⟩ (fun hlo=>?_) (fun hlo=>?_)
                    ·have hro:=mo.tail T.pk.length hpo
                     have hdl:(O.cols.drop T.pk.length).length≤O.cols.length:=by simp
                     simp[hn,h0,h1',hlt,hlt9,hb9]
                     refine⟨?_,?_⟩
                     all_goals
                      refine app_mr (by simp;exact⟨rfl,rfl⟩) (by simp) (by simp) (by simp) (t9.m1 (by intro h0;simp[h0] at hc0)) hro (by simp;omega) (fun c' g' hm' hs10 hl10=>?_)
                      have hbl:g'.box lt=some B:=by
                       rw[hs10.2 lt (s9.lt lt (by simp[tv.tm])) fun h2=>(t9.l1 lt h2).2 rfl]
                       exact bl9
                      have hbs':g'.box l=some [.mrow lt 0 S.tables.length cap,fc',oc]:=s9.keep hs10 fun k hk=>.inl (t9.l1 k hk).1
                      have hep10:=hs10.1
                      obtain⟨ta',s10,hta⟩:=t9.s1 g' c' (T.cols++O.cols.drop T.pk.length) (by simpa[List.map_drop] using hm') hs10 (fun k hk=>(hl10 k hk).imp_right fun h2=>⟨fun h3=>by have:=s9.lt k h3;omega,h2.2⟩)
                      have hle9:=t9.el.le
                      simp[hn,h0,h1',hlt,hlt9,hbl,hbs']
                      refine⟨by omega,CutK.of ⟨by simp[hn],by simp[h0],by simp[h7],ta',s10,(hs10.mono fun k hk=>(t9.l1 k hk).1).setBox (.inl t9.tm),fun k hk=>?_⟩⟩
                      rcases hta k hk with h2 | h2
                      ·exact .inl h2
                      ·rcases hl10 k h2 with h3 | h3
                       ·exact .inl (t9.l1 k h3).1
                       ·exact .inr h3.1
                    ·have hdrop:O.cols.drop T.pk.length=[]:=List.drop_eq_nil_of_le (by omega)
                     have hro:RowAt g 3 .z ((O.cols.map fun c=>c.enc.map C.d).drop T.pk.length):=by
                      rw[← List.map_drop,hdrop]
                      exact (MR.z).rd
                     simp[hn,h0,h1',hlt,hlt9,hb9]
                     refine⟨?_,?_⟩
                     all_goals
                      refine app_mr (by simp;exact⟨rfl,rfl⟩) (by simp) (by simp) (by simp) (t9.m1 (by intro h0;simp[h0] at hc0)) hro (by simp;omega) (fun c' g' hm' hs10 hl10=>?_)
                      have hbl:g'.box lt=some B:=by
                       rw[hs10.2 lt (s9.lt lt (by simp[tv.tm])) fun h2=>(t9.l1 lt h2).2 rfl]
                       exact bl9
                      have hbs':g'.box l=some [.mrow lt 0 S.tables.length cap,fc',oc]:=s9.keep hs10 fun k hk=>.inl (t9.l1 k hk).1
                      have hep10:=hs10.1
                      obtain⟨ta',s10,hta⟩:=t9.s1 g' c' (T.cols++O.cols.drop T.pk.length) (by simpa[List.map_drop] using hm') hs10 (fun k hk=>(hl10 k hk).imp_right fun h2=>⟨fun h3=>by have:=s9.lt k h3;omega,h2.2⟩)
                      have hle9:=t9.el.le
                      simp[hn,h0,h1',hlt,hlt9,hbl,hbs']
                      refine⟨by omega,CutK.of ⟨by simp[hn],by simp[h0],by simp[h7],ta',s10,(hs10.mono fun k hk=>(t9.l1 k hk).1).setBox (.inl t9.tm),fun k hk=>?_⟩⟩
                      rcases hta k hk with h2 | h2
                      ·exact .inl h2
                      ·rcases hl10 k h2 with h3 | h3
                       ·exact .inl (t9.l1 k h3).1
                       ·exact .inr h3.1
                   ·rintro e g' ⟨hn,h0,h7,ta',s10,hs10,hta'⟩
                    have hj10:(S4.tables.set i { T with cols:=T.cols++O.cols.drop T.pk.length })[j]?=some O:=by
                     rw[List.getElem?_set_ne hij2,ht4'];exact hj
                    obtain⟨xs,a1,a2,lx,lr,capr,Br,e1,e2,e3,e4,e5,e6,e7,e8⟩:=s10.delT (T:=O) hj10
                    have hb10:=s10.box
                    have hli:=s10.len.1.2
                    simp only[lim_eq,List.length_set] at hli e2
                    have hw:IntKind.i64.wrap ((j:Int)+1)=((j+1:Nat):Int):=IntWalk.i64_in _ (by omega)
                    simp[hn,h0,h7,hb10,hw]
                    refine Z02 (Z73 _ _ xs j (j+1) e1 (by omega) (by omega) _ (fun c' g2 hm2 hs11 hep hharr hlab=>?_))
                    have hs12:Same g' g2 (labs (.mrow lt 0 S.tables.length cap)):=⟨by rw[hep];exact Nat.le_refl _,fun k _ hk=>hs11 k hk⟩
                    have hbl:g2.box l=some [.mrow lt 0 S.tables.length cap,fc',oc]:=s10.keep hs12 fun k hk=>.inl (s10.hlabs.1 k hk)
                    obtain⟨ta2,s11,ht11,-⟩:=e8 g2 c' hm2 hs12 hlab
                    simp[hn,h0,hbl]
                    have hallC:Same h g (l::(ta++(fa++oa))):=(hy4.trans (hz6.mono (by simp))).trans (hs9.mono fun k hk=>by simp only[List.mem_cons,List.mem_append] at hk ⊢;exact .inr (.inr (hk.imp_left (hfa' k))))
                    have hepC:=hallC.1
                    refine hk _ _ s11.ows ((((hallC.trans (hs10.mono fun k hk=>by simp[hk])).trans' hs12 fun k hk=>?_)).setBox (.inl (by simp))) fun k hk=>?_
                    ·exact (hta' k (s10.hlabs.1 k hk)).imp (fun h=>by simp[h]) fun h=>by omega
                    ·simp only[List.mem_append] at hk
                     rcases hk with hk | hk
                     ·exact (hta' k (ht11 k hk)).imp (fun h=>by simp[h]) fun h=>by omega
                     ·exact .inl (ks k (by simp only[List.mem_append];exact .inr hk))
def schOK (S:Sch):Prop:=(S.tables.length≤LIM∧S.fks.length≤LIM∧S.cons.length≤LIM)∧(∀ T ∈ S.tables,T.cols.length≤LIM∧T.pk.length≤LIM)∧∀ f ∈ S.fks,f.cols.length≤LIM
instance (S:Sch):Decidable (schOK S):=inferInstanceAs (Decidable (_∧_∧_))
def stpOK (x:Stp):Prop:=x.cols.length≤LIM∧x.newTable.cols.length≤LIM∧x.newTable.pk.length≤LIM∧x.fk.cols.length≤LIM
instance (x:Stp):Decidable (stpOK x):=inferInstanceAs (Decidable (_∧_))
def NewSch (h:HS) (S:Sch) (K:V→HS→Prop):Prop:=∀ tc fc oc qt qf qo h',Part h' TblSh tc qt (S.tables.map Tbl.enc)→Part h' FkSh fc qf (S.fks.map Fk.enc)→Part h' ConSh oc qo (S.cons.map Cons.enc)→(plabs tc qt++(plabs fc qf++plabs oc qo)).Nodup →
 (∀ k ∈ plabs tc qt++(plabs fc qf++plabs oc qo),h.ep≤k.1∧k.1 < h'.ep)→Same h h' []→K (.agg [tc,fc,oc]) h'
theorem Zcy (h:HS) (x:Stp) (hl:stpOK x) (K:V→HS→Prop) (hk:NewOw h StpSh x.enc K) :
  HSpec Tryz.prog 155 [.agg (x.enc.map C.d)] h K:=by
 refine HSpec.good Tryz.func155 rfl (by kernel_rfl) fun hg=>?_
 refine HSpec.of_vc Tryz.func155 rfl (by kernel_rfl) (n:=18) rfl rfl (by simp) ?_
 obtain⟨l1,l2,l3,l4⟩:=hl
 simp
 refine Z02 (Z30 _ _ _ (RowAt.data (n:=1) (ts:=x.cols.map encI) (by simp) (by simpa using l1)) _ (fun c6 g1 m6 hs1 hl1 hb1=>?_))
 have hz0:Same h (((h.setBox (h.ep,16) (x.enc.map C.d)).next.setBox (h.ep+1,32) [C.d (D.int IntKind.i64 0),C.d (D.str ByteArray.empty),C.d (D.str ByteArray.empty),C.d (D.str ByteArray.empty),C.d (D.str ByteArray.empty),C.d (D.int IntKind.i64 0),C.nil,C.d (D.str ByteArray.empty),C.d (D.int IntKind.i64 0),C.d (D.int IntKind.i64 0),C.d (D.str ByteArray.empty),C.d (D.str ByteArray.empty),C.nil,C.nil,C.d (D.str ByteArray.empty),C.d (D.int IntKind.i64 0),C.d (D.str ByteArray.empty),C.d (D.int IntKind.i64 0),C.d (D.int IntKind.i64 0),C.d (D.int IntKind.i64 0),C.d (D.str ByteArray.empty),C.d (D.str ByteArray.empty),C.nil,C.d (D.str ByteArray.empty)]).next) []:=(((Same.refl.setBox (.inr (Nat.le_refl _))).next.setBox (.inr (by simp))).next)
 have hs1':=hs1.1
 have b1:=hb1 (h.ep,16) _ (by simp;rfl)
 have b2:=hb1 (h.ep+1,32) _ (by simp;rfl)
 simp only[Stp.enc,List.map_cons,List.map_nil] at hz0
 have hy1:=hz0.trans hs1
 simp at hl1 hs1'
 simp[b1]
 refine Z02 (Z61 _ (x.newTable.enc.map C.d) x.newTable (fun h' _=>FrzCs.datas (ds:=x.newTable.enc)) ⟨l2,l3⟩ _ (fun cs g2 ls2 o2 nd2 nw2 hs2 hb2'=>?_))
 obtain⟨c12,c13,rfl⟩:∃ c12 c13,cs=[C.d (D.str x.newTable.name),c12,c13]:=by
  have h9:=o2.len.1
  match cs,h9,o2 with
  | [a,b,c],_,hO=>obtain rfl:=hO.frz.1.flat rfl;exact⟨b,c,rfl⟩
 have hs2':=hs2.1
 have b12:=hb2' (h.ep,16) _ (by simp;rfl)
 have b22:=hb2' (h.ep+1,32) _ (by simpa using b2)
 have hy2:Same h g2 []:=(hy1.setBox (l:=(h.ep,16)) (.inr (by simp))).trans hs2
 simp at hs2'
 simp[b12]
 refine Z02 (Z30 _ _ _ (RowAt.data (n:=1) (ts:=x.fk.cols.map encI) (by simp) (by simpa using l4)) _ (fun c22 g3 m22 hs3 hl3 hb3=>?_))
 have hs3':=hs3.1
 have b13:=hb3 (h.ep,16) _ (by simp;rfl)
 have b23:=hb3 (h.ep+1,32) _ (by simpa using b22)
 have hy3:Same h g3 []:=(hy2.setBox (l:=(h.ep,16)) (.inr (by simp))).trans hs3
 simp at hl3 hs3'
 simp[b13,b23,retH,resVs,resV]
 have hyF:=(hy3.setBox (l:=(h.ep,16)) (cs:=stpC x c6 c12 c13 c22) (.inr (by simp))).setBox (l:=(h.ep+1,32)) (cs:=stpC x c6 c12 c13 c22) (.inr (by simp))
 have k3:∀ k:Lab,h.ep+2≤k.1→((g3.setBox (h.ep,16) (stpC x c6 c12 c13 c22)).setBox (h.ep+1,32) (stpC x c6 c12 c13 c22)).box k=g3.box k:=fun k hk=>by
  have h1:k≠(h.ep,16):=fun he=>by have h9:k.1=h.ep:=by rw[he]
                                  omega
  have h2:k≠(h.ep+1,32):=fun he=>by have h9:k.1=h.ep+1:=by rw[he]
                                    omega
  simp[h1,h2]
 have k2:∀ k:Lab,h.ep+2≤k.1→k.1 < g2.ep→g3.box k=g2.box k:=fun k hk hk2=>by
  have h1:k≠(h.ep,16):=fun he=>by have h9:k.1=h.ep:=by rw[he]
                                  omega
  rw[hs3.2 k (by simpa using hk2) (by simp)]
  simp[h1]
 have k1:∀ k:Lab,h.ep+2≤k.1→k.1 < g1.ep→g2.box k=g1.box k:=fun k hk hk2=>by
  have h1:k≠(h.ep,16):=fun he=>by have h9:k.1=h.ep:=by rw[he]
                                  omega
  rw[hs2.2 k (by simpa using hk2) (by simp)]
  simp[h1]
 have e6:∀ k ∈ labs c6,h.ep+2≤k.1∧k.1 < g1.ep:=fun k hk=>by have:=hl1 k.1 k.2 hk;omega
 have e2:∀ k ∈ ls2,g1.ep≤k.1∧k.1 < g2.ep:=fun k hk=>by have:=nw2 k hk;simp at this;omega
 have e22:∀ k ∈ labs c22,g2.ep≤k.1∧k.1 < g3.ep:=fun k hk=>by have:=hl3 k.1 k.2 hk;omega
 obtain⟨_,e0,oa⟩:=o2.dcons (c:=.nil) rfl
 simp at e0
 subst e0
 obtain⟨d1,_,la,_,e1,rfl,o12,ob⟩:=oa.split
 simp at e1
 obtain⟨rfl,rfl⟩:=e1
 obtain⟨d2,_,lb,_,e1,rfl,o13,od⟩:=ob.split
 simp at e1
 obtain⟨rfl,rfl⟩:=e1
 obtain⟨_,_,rfl⟩:=od.inv_nil
 simp only[List.append_nil] at e2 nd2
 have o6:Ow ((g3.setBox (h.ep,16) (stpC x c6 c12 c13 c22)).setBox (h.ep+1,32) (stpC x c6 c12 c13 c22)) [.r [.d]] [c6] [.sl (x.cols.map encI)] (labs c6):=Ow.nrow (n:=1) (m6.frame fun k hk=>by have:=e6 k hk;rw[k3 k (by omega),k2 k (by omega) (by omega),k1 k (by omega) (by omega)]) rfl (by simp)
 have o22:Ow ((g3.setBox (h.ep,16) (stpC x c6 c12 c13 c22)).setBox (h.ep+1,32) (stpC x c6 c12 c13 c22)) [.r [.d]] [c22] [.sl (x.fk.cols.map encI)] (labs c22):=Ow.nrow (n:=1) (m22.frame fun k hk=>by have:=e22 k hk;rw[k3 k (by omega)]) rfl (by simp)
 have o12':=o12.frame (h':=((g3.setBox (h.ep,16) (stpC x c6 c12 c13 c22)).setBox (h.ep+1,32) (stpC x c6 c12 c13 c22))) fun k hk=>by have:=e2 k (by simp[hk]);rw[k3 k (by omega),k2 k (by omega) (by omega)]
 have o13':=o13.frame (h':=((g3.setBox (h.ep,16) (stpC x c6 c12 c13 c22)).setBox (h.ep+1,32) (stpC x c6 c12 c13 c22))) fun k hk=>by have:=e2 k (by simp[hk]);rw[k3 k (by omega),k2 k (by omega) (by omega)]
 refine hk (stpC x c6 c12 c13 c22) _ _ (Ow.mkStp o6 o12' o13' o22) ?_ (fun k hk=>?_) hyF (hyF.boxLe hg)
 ·simp only[List.nodup_append,List.mem_append] at nd2 ⊢
  refine⟨Z3h,⟨nd2.1,⟨nd2.2.1,Z3h,fun a ha b hb he=>?_⟩,fun a ha b hb he=>?_⟩,fun a ha b hb he=>?_⟩
  ·have t1:=e2 a (by simp[ha]);have t2:=e22 b hb;rw[← he] at t2;omega
  ·subst he
   rcases hb with hb | hb
   ·exact nd2.2.2 a ha a hb rfl
   ·have:=e2 a (by simp[ha]);have:=e22 a hb;omega
  ·subst he
   have h6:=e6 a ha
   rcases hb with hb | hb | hb
   ·have:=e2 a (by simp[hb]);omega
   ·have:=e2 a (by simp[hb]);omega
   ·have:=e22 a hb;omega
 ·simp only[List.mem_append] at hk
  have:k.1 < g3.ep∧h.ep≤k.1:=by
   rcases hk with hk | hk | hk | hk
   ·have:=e6 k hk;omega
   ·have:=e2 k (by simp[hk]);omega
   ·have:=e2 k (by simp[hk]);omega
   ·have:=e22 k hk;omega
  simp
  omega
theorem Sc.start {g:HS} {p:Lab} {oc:C} {cons:List Cons} (hb:g.box p=some [.nil,.nil,oc]) (mo:MR g 7 oc (cons.map fun c=>c.enc.map C.d)) (hp:p.1 < g.ep) (hl:∀ k ∈ labs oc,k≠p∧k.1 < g.ep):Sc g p ⟨[],[],cons⟩ .nil .nil oc [] [] (labs oc):=by
 have e:(cons.map fun c=>((c.enc.map C.d,c.enc,[]):Q)).flatMap (·.2.2)=[]:=by rw[List.flatMap_eq_nil_iff];intro q hq;obtain⟨c,_,rfl⟩:=List.mem_map.1 hq;rfl
 have pl:plabs oc (cons.map fun c=>((c.enc.map C.d,c.enc,[]):Q))=labs oc:=by rw[plabs,e,List.append_nil]
 refine⟨[],[],cons.map fun c=>(c.enc.map C.d,c.enc,[]),rfl,rfl,pl.symm,hb,⟨MR.nil,rfl,by simp⟩,⟨MR.nil,rfl,by simp⟩,⟨by simpa[ConSh,Function.comp_def] using mo,by simp[Function.comp_def],fun q hq=>?_⟩,?_,?_⟩
 ·obtain⟨c,_,rfl⟩:=List.mem_map.1 hq
  exact Ow.datas (ds:=c.enc)
 ·rw[pl]
  simp only[plabs,labs,List.flatMap_nil,List.nil_append,List.append_nil,List.nodup_cons]
  exact⟨fun h=>(hl p h).1 rfl,Z3h⟩
 ·rw[pl]
  intro k hk
  simp only[plabs,labs,List.flatMap_nil,List.nil_append,List.append_nil,List.mem_cons] at hk
  rcases hk with rfl | hk
  ·exact hp
  ·exact (hl k hk).2
def ClI (h:HS) (p3:Lab) (S:Sch) (S1:Sch) (dat:List C) (e:Env) (g:HS):Prop:=∃ tc fc oc ta fa oa,e.n=46∧e.get 1=.one (.ptr (h.ep,16) 0)∧e.get 2=.one (.ptr (h.ep+1,32) 0)∧e.get 3=.one (.ptr p3 0)∧g.box (h.ep,16)=some dat∧g.box (h.ep+1,32)=some [.nil,.nil,.nil] ∧
 Sc g p3 S1 tc fc oc ta fa oa∧(∀ k ∈ ta++(fa++oa),h.ep+2≤k.1)∧h.ep+2≤p3.1∧Same h g []
set_option maxHeartbeats 1000000 in
theorem Zf7 (h:HS) (S:Sch) (hS:schOK S) (K:V→HS→Prop) (hk:NewSch h S K) :
  HSpec Tryz.prog 101 [.agg (S.enc.map C.d)] h K:=by
 obtain⟨⟨l1,l2,l3⟩,l4,l5⟩:=hS
 have l1':S.tables.length≤2097152:=l1
 have l2':S.fks.length≤2097152:=l2
 refine HSpec.of_vc Tryz.func101 rfl (by kernel_rfl) (n:=46) rfl rfl (by simp) ?_
 simp
 refine Z02 (Z8o _ _ _ (RowAt.data (n:=7) (ts:=S.cons.map Cons.enc) (by simp) (by simpa using l3)) _ (fun oc g1 mo hs1 hlo hb1=>?_))
 have hz0:Same h (((h.setBox (h.ep,16) (S.enc.map C.d)).next.setBox (h.ep+1,32) [.nil,.nil,.nil]).next) []:=(((Same.refl.setBox (.inr (Nat.le_refl _))).next.setBox (.inr (by simp))).next)
 have b1:=hb1 (h.ep,16) _ (by simp;rfl)
 have b2:=hb1 (h.ep+1,32) _ (by simp;rfl)
 have hs1':=hs1.1
 simp only[Sch.enc,List.map_cons,List.map_nil] at hz0
 have hy1:=hz0.trans hs1
 simp at hs1'
 have hn1:=ne_new (l:=(h.ep,16)) (n:=g1.ep) (by simp;omega)
 simp (maxDischargeDepth:=12) [b1,hn1,le_s]
 have hz2:Same g1 ((g1.setBox (g1.ep,48) [.nil,.nil,.nil]).next.setBox (g1.ep,48) [.nil,.nil,oc]) []:=((Same.refl.setBox (.inr (Nat.le_refl _))).next).setBox (.inr (Nat.le_refl _))
 obtain⟨p3,hp3d⟩:∃ p:Lab,p=(g1.ep,48):=⟨_,rfl⟩
 have trivF:∀ (α:Type) (xs:List α) (i:Nat),forK (ρ:=Unit) (fun _ (_:α) (s:Unit) next=>next s) (fun _=>some ()) xs i ()=some ():=fun α xs=>by
  induction xs with
  | nil=>intro i;rfl
  | cons x xs ih=>intro i;exact ih (i+1)
 intro _
 have hg1:Same h ((g1.setBox (g1.ep,48) [.nil,.nil,.nil]).next.setBox (g1.ep,48) [.nil,.nil,oc]) []:=hy1.trans hz2
 have hlo':∀ k ∈ labs oc,h.ep+2≤k.1∧k.1 < g1.ep:=fun k hk=>by have:=hlo k hk;simp at this;omega
 refine Wait.for (xs:=S.tables) (s0:=()) (k:=fun _=>some ()) (body:=fun _ _ s next=>next s) (r:=()) (fun k _ e g=>ClI h p3 S ⟨S.tables.take k,[],S.cons⟩ (S.enc.map C.d) e g∧e.get 13=.one (.d (.sl (S.tables.map Tbl.enc)))∧e.get 14=.one (.d (.int .i64 (S.tables.length:Int)))∧e.get 15=.one (.d (.int .i64 (k:Int)))) (trivF _ _ _) ⟨⟨.nil,.nil,oc,[],[],labs oc,by simp,by simp,by simp,by simp[hp3d],?_,?_,?_,?_,by rw[hp3d];simp;omega,hg1⟩,by simp,by simp,by simp⟩ ?_ ?_
 ·rw[hz2.2 _ (by simp;omega) (by simp)];simpa using b1
 ·rw[hz2.2 _ (by simp;omega) (by simp)];exact b2
 ·rw[hp3d]
  refine Sc.start (by simp) ?_ (by simp) fun k hk=>⟨fun he=>by have:=(hlo' k hk).2;rw[he] at this;simp at this,by have:=(hlo' k hk).2;simp;omega⟩
  rw[Z5a]
  exact mo.frame fun k hk=>hz2.2 k (hlo' k hk).2 (by simp)
 ·simp only[List.nil_append]
  exact fun k hk=>(hlo' k hk).1
 ·rintro k _ e g ⟨⟨tc,fc,oc,ta,fa,oa,hn,h1',h2',h3',b1,b2,s1,hnew,hp3,hs⟩,h13,h14,h15⟩ hlt hm
  have hw:IntKind.i64.wrap ((k:Int)+1)=(k:Int)+1:=IntWalk.i64_in _ (by omega)
  have hT:=l4 _ (List.getElem_mem hlt)
  have hgp:h.ep+2 < g.ep:=by have:=s1.lt p3 (by simp);omega
  have hz4:Same g ((g.setBox (g.ep,80) [C.d (D.str ByteArray.empty),C.nil,C.nil]).next.setBox (g.ep,80) (S.tables[k].enc.map C.d)) []:=((Same.refl.setBox (.inr (Nat.le_refl _))).next).setBox (.inr (Nat.le_refl _))
  simp only[Tbl.enc,List.map_cons,List.map_nil] at hz4
  simp[hn,h13,h14,h15,hlt]
  generalize hX:(g.setBox (g.ep,80) [C.d (D.str ByteArray.empty),C.nil,C.nil]).next.setBox (g.ep,80) _=GZ at hz4 ⊢
  have bz5:GZ.box (g.ep,80)=some (S.tables[k].enc.map C.d):=by rw[← hX];simp
  have bz3:GZ.box p3=some [tc,fc,oc]:=(s1.frame hz4).box
  simp only[Tbl.enc,List.map_cons,List.map_nil] at bz5
  have hg2:=hs.1
  have hgz:=hz4.1
  refine Wait.cut (Plan.then_ [0,1,2,3,4,5,6,7] .done) follows (by kernel_rfl) (fun e g'=>ClI h p3 S ⟨S.tables.take (k+1),[],S.cons⟩ (S.enc.map C.d) e g'∧e.get 13=.one (.d (.sl (S.tables.map Tbl.enc)))∧e.get 14=.one (.d (.int .i64 (S.tables.length:Int)))∧e.get 15=.one (.d (.int .i64 (k:Int)))) ?_ ?_
  ·simp[hn,h3',bz5,bz3,Plan.then_,vcPlan,Z01,Z00,callKind]
   refine Z02 (Z61 _ (S.tables[k].enc.map C.d) S.tables[k] (fun h' _=>FrzCs.datas (ds:=S.tables[k].enc)) hT _ (fun cs g2 ls2 o2 nd2 hnw0 hs2 hb2=>?_))
   have hnw:∀ k ∈ ls2,g.ep≤k.1∧k.1 < g2.ep:=fun k hk=>by have:=hnw0 k hk;omega
   obtain⟨c0,c1,c2,rfl⟩:∃ a b c,cs=[a,b,c]:=by
    have h9:=o2.len.1
    match cs,h9 with
    | [a,b,c],_=>exact⟨a,b,c,rfl⟩
   simp[hn]
   refine⟨hb2,?_⟩
   have hep2:=hs2.1
   refine bld_ow (x:=[c0,c1,c2]) (by simp[toDs];cases c0.toD<;>cases c1.toD<;>cases c2.toD<;>rfl) (by simp) (fun d hd2=>?_) (fun hd2=>?_)
   ·obtain⟨rfl,hT2⟩:=o2.ofD hd2
    have hz5:Same g2 ((g2.setArr (g2.ep,16 * 23) (some (1,3))).next) []:=Same.refl.setArr.next
    simp only[Nat.reduceMul] at hz5
    have s5:=s1.frame ((hz4.trans hs2).trans hz5)
    obtain⟨ys,my,hly,add⟩:=s5.addT
    simp[hn]
    refine app_mr (by simp;exact⟨rfl,rfl⟩) (by simp) (by simp) (by simp) my (RowAt.own1 (by simp)) (by rw[hly];simp at hlt ⊢;omega) (fun c' g' hm' hs6 hl6=>?_)
    have hep6:=hs6.1
    have hep5:=hz5.1
    have hbl:=s5.keep hs6 fun k hk=>.inl (s5.hlabs.1 k hk)
    have hlab:∀ k ∈ labs tc,k ∈ ta:=s1.hlabs.1
    obtain⟨a',s6,ha'⟩:=add g' c' _ _ [] hm' hs6 hl6 (hT2 g') List.nodup_nil (fun k hk=>by
     have h9:=hnw k ((fun k (hk:k ∈ [])=>by simp at hk) k hk)
     refine⟨by omega,fun h8=>by have:=s1.lt k h8;omega,fun h8=>?_⟩
     rcases hl6 k h8 with h7 | h7
     ·have:=s1.lt k (by simp[hlab k h7]);omega
     ·omega) S.tables[k] rfl
    have ft:∀ k:Lab,k.1 < g.ep→k.1 < h.ep+2→g'.box k=g.box k:=fun k hk hk2=>by
     rw[hs6.2 k (by omega) fun h9=>by have:=hnew k (by simp[hlab k h9]);omega]
     exact ((hz4.trans hs2).trans hz5).2 k hk (by simp)
    have hne1:((h.ep,16):Lab)≠p3:=fun he=>by rw[← he] at hp3;have h9:h.ep+2≤h.ep:=hp3;omega
    have hne2:((h.ep+1,32):Lab)≠p3:=fun he=>by rw[← he] at hp3;have h9:h.ep+2≤h.ep+1:=hp3;omega
    simp[hn,h3',hbl]
    refine CutK.of ⟨⟨c',fc,oc,a',fa,oa,by simp[hn],by simp[h1'],by simp[h2'],by simp[h3'],?_,?_,by simpa[List.take_append_getElem hlt] using s6,fun k hk=>?_,hp3,((hs.trans ((hz4.trans hs2).trans hz5)).trans' hs6 fun k hk=>.inr (by have:=hnew k (by simp[hlab k hk]);omega)).setBox (.inr (by omega))⟩,by simp[h13],by simp[h14],by simp[h15]⟩
    ·simpa[hne1,ft (h.ep,16) (by simp;omega) (by simp)] using b1
    ·simpa[hne2,ft (h.ep+1,32) (by simp;omega) (by simp)] using b2
    ·simp only[List.mem_append] at hk
     rcases hk with hk | hk
     ·rcases ha' k hk with h9 | h9 | h9
      ·exact hnew k (by simp[h9])
      ·have:=hnw k ((fun k (hk:k ∈ [])=>by simp at hk) k h9);omega
      ·omega
     ·exact hnew k (by simp only[List.mem_append];exact .inr hk)
   ·skip
    have hz5:Same g2 ((g2.setBox (g2.ep,16 * 23) [c0,c1,c2]).next) []:=(Same.refl.setBox (.inr (Nat.le_refl _))).next
    simp only[Nat.reduceMul] at hz5
    have s5:=s1.frame ((hz4.trans hs2).trans hz5)
    obtain⟨ys,my,hly,add⟩:=s5.addT
    simp[hn]
    refine app_mr (by simp;exact⟨rfl,rfl⟩) (by simp) (by simp) (by simp) my (RowAt.new1 (x:=[c0,c1,c2]) (by simp) (by simp)) (by rw[hly];simp at hlt ⊢;omega) (fun c' g' hm' hs6 hl6=>?_)
    have hep6:=hs6.1
    have hep5:=hz5.1
    have hbl:=s5.keep hs6 fun k hk=>.inl (s5.hlabs.1 k hk)
    have hlab:∀ k ∈ labs tc,k ∈ ta:=s1.hlabs.1
    obtain⟨a',s6,ha'⟩:=add g' c' _ _ ls2 hm' hs6 hl6 (o2.frame fun k hk=>by have h9:=hnw k hk;rw[hs6.2 k (by omega) fun h8=>by have:=s1.lt k (by simp[s1.hlabs.1 k h8]);omega];exact hz5.2 k h9.2 (by simp)) nd2 (fun k hk=>by
     have h9:=hnw k ((fun _ h=>h) k hk)
     refine⟨by omega,fun h8=>by have:=s1.lt k h8;omega,fun h8=>?_⟩
     rcases hl6 k h8 with h7 | h7
     ·have:=s1.lt k (by simp[hlab k h7]);omega
     ·omega) S.tables[k] rfl
    have ft:∀ k:Lab,k.1 < g.ep→k.1 < h.ep+2→g'.box k=g.box k:=fun k hk hk2=>by
     rw[hs6.2 k (by omega) fun h9=>by have:=hnew k (by simp[hlab k h9]);omega]
     exact ((hz4.trans hs2).trans hz5).2 k hk (by simp)
    have hne1:((h.ep,16):Lab)≠p3:=fun he=>by rw[← he] at hp3;have h9:h.ep+2≤h.ep:=hp3;omega
    have hne2:((h.ep+1,32):Lab)≠p3:=fun he=>by rw[← he] at hp3;have h9:h.ep+2≤h.ep+1:=hp3;omega
    simp[hn,h3',hbl]
    refine CutK.of ⟨⟨c',fc,oc,a',fa,oa,by simp[hn],by simp[h1'],by simp[h2'],by simp[h3'],?_,?_,by simpa[List.take_append_getElem hlt] using s6,fun k hk=>?_,hp3,((hs.trans ((hz4.trans hs2).trans hz5)).trans' hs6 fun k hk=>.inr (by have:=hnew k (by simp[hlab k hk]);omega)).setBox (.inr (by omega))⟩,by simp[h13],by simp[h14],by simp[h15]⟩
    ·simpa[hne1,ft (h.ep,16) (by simp;omega) (by simp)] using b1
    ·simpa[hne2,ft (h.ep+1,32) (by simp;omega) (by simp)] using b2
    ·simp only[List.mem_append] at hk
     rcases hk with hk | hk
     ·rcases ha' k hk with h9 | h9 | h9
      ·exact hnew k (by simp[h9])
      ·have:=hnw k ((fun _ h=>h) k h9);omega
      ·omega
     ·exact hnew k (by simp only[List.mem_append];exact .inr hk)
  ·rintro e g' ⟨hI,h13,h14,h15⟩
   have hn:=hI
   obtain⟨_,_,_,_,_,_,hn,h1',h2',h3',-⟩:=hn
   simp[hn,h15,hw]
   obtain⟨tc2,fc2,oc2,ta2,fa2,oa2,-,-,-,-,q⟩:=hI
   exact BackF.of () ⟨⟨⟨tc2,fc2,oc2,ta2,fa2,oa2,by simp[hn],by simp[h1'],by simp[h2'],by simp[h3'],q⟩,by simp[h13],by simp[h14],by simp⟩,hm⟩
 ·rintro _ e g ⟨⟨tc,fc,oc,ta,fa,oa,hn,h1',h2',h3',b1,b2,s1,hnew,hp3,hs⟩,h13,h14,h15⟩ _
  rw[List.take_length] at s1
  simp[hn,h1',h14,h15,b1]
  intro _
  refine Wait.for (xs:=S.fks) (s0:=()) (k:=fun _=>some ()) (body:=fun _ _ s next=>next s) (r:=()) (fun k _ e g=>ClI h p3 S ⟨S.tables,S.fks.take k,S.cons⟩ (S.enc.map C.d) e g∧e.get 28=.one (.d (.sl (S.fks.map Fk.enc)))∧e.get 29=.one (.d (.int .i64 (S.fks.length:Int)))∧e.get 30=.one (.d (.int .i64 (k:Int)))) (trivF _ _ _) ⟨⟨tc,fc,oc,ta,fa,oa,by simp[hn],by simp[h1'],by simp[h2'],by simp[h3'],b1,b2,by simpa using s1,hnew,hp3,hs⟩,by simp,by simp,by simp⟩ ?_ ?_
  ·rintro k _ e g ⟨⟨tc,fc,oc,ta,fa,oa,hn,h1',h2',h3',b1,b2,s1,hnew,hp3,hs⟩,h28,h29,h30⟩ hlt hm
   have hw:IntKind.i64.wrap ((k:Int)+1)=(k:Int)+1:=IntWalk.i64_in _ (by omega)
   have hF:=l5 _ (List.getElem_mem hlt)
   have hgp:h.ep+2 < g.ep:=by have:=s1.lt p3 (by simp);omega
   simp[hn,h28,h29,h30,hlt]
   refine Z02 (Z30 _ _ _ (RowAt.data (n:=1) (ts:=S.fks[k].cols.map encI) (by simp) (by simpa using hF)) _ (fun pc g2' mp hs2' hlp hb2=>?_))
   have hz4':Same g ((g.setBox (g.ep,112) [C.d (D.str ByteArray.empty),C.nil,C.d (D.str ByteArray.empty)]).next.setBox (g.ep,112) (S.fks[k].enc.map C.d)) []:=((Same.refl.setBox (.inr (Nat.le_refl _))).next).setBox (.inr (Nat.le_refl _))
   have bz7:=hb2 (g.ep,112) _ (by simp;rfl)
   simp only[Fk.enc,List.map_cons,List.map_nil] at hz4'
   have hep2':=hs2'.1
   simp at hep2' hlp
   have hz4:Same g (g2'.setBox (g.ep,112) [.d (.str S.fks[k].table),pc,.d (.str S.fks[k].ref)]) []:=(hz4'.trans hs2').setBox (.inr (Nat.le_refl _))
   have hoF0:Ow (g2'.setBox (g.ep,112) [.d (.str S.fks[k].table),pc,.d (.str S.fks[k].ref)]) FkSh [.d (.str S.fks[k].table),pc,.d (.str S.fks[k].ref)] S.fks[k].enc (labs pc):=by
    refine .data rfl ?_
    have:=Ow.rowD (es:=[.d]) (n:=1) (ts:=S.fks[k].cols.map encI) (mp.frame (h':=g2'.setBox (g.ep,112) [.d (.str S.fks[k].table),pc,.d (.str S.fks[k].ref)]) fun q hq=>by
     have h9:=hlp q.1 q.2 hq
     have:q≠(g.ep,112):=fun he=>by have h8:q.1=g.ep:=by rw[he]
                                   omega
     simp[this]) rfl (by simp) (Ow.data (c:=.d (.str S.fks[k].ref)) (x:=.str S.fks[k].ref) rfl .nil)
    simpa using this
   have hnw0:∀ q ∈ labs pc,g.ep≤q.1∧q.1 < g2'.ep:=fun q hq=>by have:=hlp q.1 q.2 hq;omega
   have b70:(g2'.setBox (g.ep,112) [.d (.str S.fks[k].table),pc,.d (.str S.fks[k].ref)]).box (g.ep,112)=some [.d (.str S.fks[k].table),pc,.d (.str S.fks[k].ref)]:=by simp
   have hepx:(g2'.setBox (g.ep,112) [.d (.str S.fks[k].table),pc,.d (.str S.fks[k].ref)]).ep=g2'.ep:=by simp
   have bz3:(g2'.setBox (g.ep,112) [.d (.str S.fks[k].table),pc,.d (.str S.fks[k].ref)]).box p3=some [tc,fc,oc]:=(s1.frame hz4).box
   try simp at bz7
   simp[hn,bz7]
   have hp3g:=s1.lt p3 (by simp)
   have hnp:¬ p3=(g.ep,112):=fun he=>by rw[he] at hp3g;simp at hp3g
   have bz3':g2'.box p3=some [tc,fc,oc]:=(s1.frame (hz4'.trans hs2')).box
   have hs2:Same (g2'.setBox (g.ep,112) [.d (.str S.fks[k].table),pc,.d (.str S.fks[k].ref)]) (g2'.setBox (g.ep,112) [.d (.str S.fks[k].table),pc,.d (.str S.fks[k].ref)]) []:=.refl
   have hnw:∀ q ∈ labs pc,g.ep≤q.1∧q.1 < (g2'.setBox (g.ep,112) [.d (.str S.fks[k].table),pc,.d (.str S.fks[k].ref)]).ep:=fun q hq=>by have:=hnw0 q hq;omega
   have hg2:=hs.1
   have hgz:=hz4.1
   have hep2:=hs2.1
   simp[hn,h3',hnp,bz3']
   refine bld_ow (x:=[.d (.str S.fks[k].table),pc,.d (.str S.fks[k].ref)]) (by simp[toDs];cases pc.toD<;>rfl) (by simp) (fun d hd2=>?_) (fun hd2=>?_)
   ·obtain⟨rfl,hT2⟩:=hoF0.ofD hd2
    have hz5:Same (g2'.setBox (g.ep,112) [.d (.str S.fks[k].table),pc,.d (.str S.fks[k].ref)]) (((g2'.setBox (g.ep,112) [.d (.str S.fks[k].table),pc,.d (.str S.fks[k].ref)]).setArr (g2'.ep,16 * 41) (some (1,3))).next) []:=Same.refl.setArr.next
    simp only[Nat.reduceMul] at hz5
    have s5:=s1.frame ((hz4.trans hs2).trans hz5)
    obtain⟨ys,my,hly,add⟩:=s5.addF
    simp[hn]
    refine app_mr (by simp;exact⟨rfl,rfl⟩) (by simp) (by simp) (by simp) my (RowAt.own1 (by simp)) (by rw[hly];simp at hlt ⊢;omega) (fun c' g' hm' hs6 hl6=>?_)
    have hep6:=hs6.1
    have hep5:=hz5.1
    have hbl:=s5.keep hs6 fun k hk=>.inr (.inl (s5.hlabs.2.1 k hk))
    have hlab:∀ k ∈ labs fc,k ∈ fa:=s1.hlabs.2.1
    obtain⟨a',s6,ha'⟩:=add g' c' _ _ [] hm' hs6 hl6 (hT2 g') List.nodup_nil (fun k hk=>by
     have h9:=hnw k ((fun q (hq:q ∈ [])=>by simp at hq) k hk)
     refine⟨by omega,fun h8=>by have:=s1.lt k h8;omega,fun h8=>?_⟩
     rcases hl6 k h8 with h7 | h7
     ·have:=s1.lt k (by simp[hlab k h7]);omega
     ·omega) S.fks[k] rfl
    have ft:∀ k:Lab,k.1 < g.ep→k.1 < h.ep+2→g'.box k=g.box k:=fun k hk hk2=>by
     rw[hs6.2 k (by omega) fun h9=>by have:=hnew k (by simp[hlab k h9]);omega]
     exact ((hz4.trans hs2).trans hz5).2 k hk (by simp)
    have hne1:((h.ep,16):Lab)≠p3:=fun he=>by rw[← he] at hp3;have h9:h.ep+2≤h.ep:=hp3;omega
    have hne2:((h.ep+1,32):Lab)≠p3:=fun he=>by rw[← he] at hp3;have h9:h.ep+2≤h.ep+1:=hp3;omega
    simp[hn,h3',hbl,h30,hw]
    refine BackF.of () ⟨⟨⟨tc,c',oc,ta,a',oa,by simp[hn],by simp[h1'],by simp[h2'],by simp[h3'],?_,?_,by simpa[List.take_append_getElem hlt] using s6,fun k hk=>?_,hp3,((hs.trans ((hz4.trans hs2).trans hz5)).trans' hs6 fun k hk=>.inr (by have:=hnew k (by simp[hlab k hk]);omega)).setBox (.inr (by omega))⟩,by simp[h28],by simp[h29],by simp⟩,hm⟩
    ·simpa[hne1,ft (h.ep,16) (by simp;omega) (by simp)] using b1
    ·simpa[hne2,ft (h.ep+1,32) (by simp;omega) (by simp)] using b2
    ·simp only[List.mem_append] at hk
     rcases hk with hk | hk | hk
     ·exact hnew k (by simp[hk])
     ·rcases ha' k hk with h9 | h9 | h9
      ·exact hnew k (by simp[h9])
      ·have:=hnw k ((fun q (hq:q ∈ [])=>by simp at hq) k h9);omega
      ·omega
     ·exact hnew k (by simp[hk])
   ·skip
    have hz5:Same (g2'.setBox (g.ep,112) [.d (.str S.fks[k].table),pc,.d (.str S.fks[k].ref)]) (((g2'.setBox (g.ep,112) [.d (.str S.fks[k].table),pc,.d (.str S.fks[k].ref)]).setBox (g2'.ep,16 * 41) [.d (.str S.fks[k].table),pc,.d (.str S.fks[k].ref)]).next) []:=(Same.refl.setBox (.inr (Nat.le_refl _))).next
    simp only[Nat.reduceMul] at hz5
    have s5:=s1.frame ((hz4.trans hs2).trans hz5)
    obtain⟨ys,my,hly,add⟩:=s5.addF
    simp[hn]
    refine app_mr (by simp;exact⟨rfl,rfl⟩) (by simp) (by simp) (by simp) my (RowAt.new1 (x:=[.d (.str S.fks[k].table),pc,.d (.str S.fks[k].ref)]) (by simp) (by simp)) (by rw[hly];simp at hlt ⊢;omega) (fun c' g' hm' hs6 hl6=>?_)
    have hep6:=hs6.1
    have hep5:=hz5.1
    have hbl:=s5.keep hs6 fun k hk=>.inr (.inl (s5.hlabs.2.1 k hk))
    have hlab:∀ k ∈ labs fc,k ∈ fa:=s1.hlabs.2.1
    obtain⟨a',s6,ha'⟩:=add g' c' _ _ (labs pc) hm' hs6 hl6 (hoF0.frame fun k hk=>by have h9:=hnw k hk;rw[hs6.2 k (by omega) fun h8=>by have:=s1.lt k (by simp[s1.hlabs.2.1 k h8]);omega];exact hz5.2 k h9.2 (by simp)) Z3h (fun k hk=>by
     have h9:=hnw k ((fun _ h=>h) k hk)
     refine⟨by omega,fun h8=>by have:=s1.lt k h8;omega,fun h8=>?_⟩
     rcases hl6 k h8 with h7 | h7
     ·have:=s1.lt k (by simp[hlab k h7]);omega
     ·omega) S.fks[k] rfl
    have ft:∀ k:Lab,k.1 < g.ep→k.1 < h.ep+2→g'.box k=g.box k:=fun k hk hk2=>by
     rw[hs6.2 k (by omega) fun h9=>by have:=hnew k (by simp[hlab k h9]);omega]
     exact ((hz4.trans hs2).trans hz5).2 k hk (by simp)
    have hne1:((h.ep,16):Lab)≠p3:=fun he=>by rw[← he] at hp3;have h9:h.ep+2≤h.ep:=hp3;omega
    have hne2:((h.ep+1,32):Lab)≠p3:=fun he=>by rw[← he] at hp3;have h9:h.ep+2≤h.ep+1:=hp3;omega
    simp[hn,h3',hbl,h30,hw]
    refine BackF.of () ⟨⟨⟨tc,c',oc,ta,a',oa,by simp[hn],by simp[h1'],by simp[h2'],by simp[h3'],?_,?_,by simpa[List.take_append_getElem hlt] using s6,fun k hk=>?_,hp3,((hs.trans ((hz4.trans hs2).trans hz5)).trans' hs6 fun k hk=>.inr (by have:=hnew k (by simp[hlab k hk]);omega)).setBox (.inr (by omega))⟩,by simp[h28],by simp[h29],by simp⟩,hm⟩
    ·simpa[hne1,ft (h.ep,16) (by simp;omega) (by simp)] using b1
    ·simpa[hne2,ft (h.ep+1,32) (by simp;omega) (by simp)] using b2
    ·simp only[List.mem_append] at hk
     rcases hk with hk | hk | hk
     ·exact hnew k (by simp[hk])
     ·rcases ha' k hk with h9 | h9 | h9
      ·exact hnew k (by simp[h9])
      ·have:=hnw k ((fun _ h=>h) k h9);omega
      ·omega
     ·exact hnew k (by simp[hk])
  ·rintro _ e g ⟨⟨tc,fc,oc,ta,fa,oa,hn,h1',h2',h3',b1,b2,s1,hnew,hp3,hs⟩,h28,h29,h30⟩ _
   rw[List.take_length] at s1
   have hb3:=s1.box
   simp[hn,h2',h3',h29,h30,hb3,b2,retH,resVs,resV]
   obtain⟨qt,qf,qo,rfl,rfl,rfl,sc⟩:=s1
   have hsF:Same h (g.setBox (h.ep+1,32) [tc,fc,oc]) []:=hs.setBox (.inr (by simp))
   have kb:∀ k ∈ plabs tc qt++(plabs fc qf++plabs oc qo),(g.setBox (h.ep+1,32) [tc,fc,oc]).box k=g.box k:=fun k hk=>by
    have h9:=hnew k hk
    have:k≠(h.ep+1,32):=fun he=>by rw[he] at h9;simp at h9
    simp[this]
   simp only[List.mem_append] at kb
   have hndA:=sc.nd
   rw[List.nodup_cons] at hndA
   refine hk tc fc oc qt qf qo _ (sc.t.frame fun k hk=>kb k (.inl hk)) (sc.f.frame fun k hk=>kb k (.inr (.inl hk))) (sc.o.frame fun k hk=>kb k (.inr (.inr hk))) hndA.2 (fun k hk=>⟨by have:=hnew k hk;omega,by have:=sc.lt k (List.mem_cons_of_mem _ hk);simpa using this⟩) hsF
def Z4b (S:Sch) (x:Stp):Option (Sch × Int):=
 bif x.kind == 13 then chkK (S.cons.length < LIM) (some ({ S with cons:=S.cons++[x.cons] },0)) else
 bif x.kind == 14 then Z2c S x.cons else
 bif x.kind == 15 then chkK (S.fks.length < LIM) (some ({ S with fks:=S.fks++[x.fk] },0)) else
 bif x.kind == 16 then Z0q S x.fk else
 bif x.kind == 10 then Z3b S x.newTable else
 bindK (Z05 S x.table) fun v=>bif !v.2 then some (S,4) else
 bif x.kind == 4 then Z39 S v.1.toNat x.newName else
 bif x.kind == 6 then Z3m S v.1.toNat x else
 bif x.kind == 7 then Z3o S v.1.toNat x.other else
 bif x.kind == 8 then Z2b S v.1.toNat x else
 bif x.kind == 9 then Z3a S v.1.toNat x else
 bif x.kind == 11 then Z3v S x.table else
 bif x.kind == 12 then Z2o S v.1.toNat x else
 bif x.kind == 1 then Z3w S v.1.toNat x else Z3c S v.1.toNat x
theorem Zhg {S:Sch} {nm:ByteArray} {v:Int × Bool} (h:Is (Z05 S nm) v):0≤v.1:=by
 obtain⟨k,_,h⟩:=Is.bind h
 have:=r_ret h
 rw[← this]
 show 0≤(if k < 0 then 0 else k)
 split<;>omega
theorem KeepS.sub {h:HS} {l:Lab} {ls ls':List Lab} {S':Sch} {v:V} {K:V→HS→Prop} (hk:KeepS h l ls S' v K) (hs:∀ k ∈ ls',k ∈ ls):KeepS h l ls' S' v K:=
 fun h' lz ho hm hl=>hk h' lz ho (hm.mono fun k hk=>by simp only[List.mem_cons] at hk ⊢;exact hk.imp_right (hs k)) fun k hk=>(hl k hk).imp_left (hs k)
theorem KeepS.to {h:HS} {l:Lab} {ls:List Lab} {S':Sch} {v:V} {K K':V→HS→Prop} (hk:KeepS h l ls S' v K) (hs:∀ h',K v h'→K' v h'):KeepS h l ls S' v K':=
 fun h' lz ho hm hl=>hs _ (hk h' lz ho hm hl)
set_option maxHeartbeats 2000000 in
theorem Zcx (h:HS) (l:Lab) (tc fc oc:C) (xs:List C) (ta fa oa lx:List Lab) (S S':Sch) (x:Stp) (r:Int) (hm:Is (Z4b S x) (S',r)) (s:Sc h l S tc fc oc ta fa oa) (hx:Ow h StpSh xs x.enc lx) (hd:lx.Nodup∧∀ k ∈ lx,k.1 < h.ep∧k ∉ l::(ta++(fa++oa))) (K:V→HS→Prop)
  (hk:KeepS h l (ta++(fa++oa)++lx) S' (.one (.d (.int .i64 r))) K) :
  HSpec Tryz.prog 154 [.one (.ptr l 0),.agg xs] h K:=by
 refine HSpec.good Tryz.func154 rfl (by kernel_rfl) fun hg=>?_
 obtain⟨x6,x12,x13,x22,a6,a12,a13,a22,rfl,rfl,-,-,-,-⟩:=hx.stp
 refine HSpec.of_vc Tryz.func154 rfl (by kernel_rfl) (n:=120) rfl rfl (by simp) ?_
 have hnn:stpC x x6 x12 x13 x22≠[]:=by simp[stpC]
 have hs0:Same h ((h.setBox (h.ep,48) (stpC x x6 x12 x13 x22)).next) []:=(Same.refl.setBox (.inr (Nat.le_refl _))).next
 have s0:=s.frame hs0
 have hb0:=s0.box
 have bx3:(h.setBox (h.ep,48) (stpC x x6 x12 x13 x22)).next.box (h.ep,48)=some (stpC x x6 x12 x13 x22):=by simp
 have hx0:Ow ((h.setBox (h.ep,48) (stpC x x6 x12 x13 x22)).next) StpSh (stpC x x6 x12 x13 x22) x.enc (a6++(a12++(a13++a22))):=hx.frame fun k hk=>hs0.2 k (hd.2 k hk).1 (by simp)
 have hd0:∀ k ∈ a6++(a12++(a13++a22)),k.1 < ((h.setBox (h.ep,48) (stpC x x6 x12 x13 x22)).next).ep∧k ∉ l::(ta++(fa++oa)):=fun k hk=>⟨by have:=(hd.2 k hk).1;simp;omega,(hd.2 k hk).2⟩
 have hk0:KeepS ((h.setBox (h.ep,48) (stpC x x6 x12 x13 x22)).next) l (ta++(fa++oa)++(a6++(a12++(a13++a22)))) S' (.one (.d (.int .i64 r))) K:=hk.after hs0
 have hk1:KeepS ((h.setBox (h.ep,48) (stpC x x6 x12 x13 x22)).next) l (ta++(fa++oa)) S' (.one (.d (.int .i64 r))) K:=hk0.sub fun k hk=>List.mem_append_left _ hk
 have e0:takeN 1 (stpC x x6 x12 x13 x22)=some [.d (.int .i64 x.kind)]:=by simp[stpC]
 have e24:takeN 24 (stpC x x6 x12 x13 x22)=some (stpC x x6 x12 x13 x22):=by simp[stpC]
 have e1:takeN 1 ((stpC x x6 x12 x13 x22).drop 1)=some [.d (.str x.table)]:=by simp[stpC]
 have e1':takeN 1 ((stpC x x6 x12 x13 x22).tail)=some [.d (.str x.table)]:=by simp[stpC]
 have e2:takeN 1 ((stpC x x6 x12 x13 x22).drop 2)=some [.d (.str x.other)]:=by simp[stpC]
 have e4:takeN 1 ((stpC x x6 x12 x13 x22).drop 4)=some [.d (.str x.newName)]:=by simp[stpC]
 have e11:takeN 3 ((stpC x x6 x12 x13 x22).drop 11)=some [.d (.str x.newTable.name),x12,x13]:=by simp[stpC]
 have e14:takeN 7 ((stpC x x6 x12 x13 x22).drop 14)=some (x.cons.enc.map C.d):=by simp[stpC]
 have e21:takeN 3 ((stpC x x6 x12 x13 x22).drop 21)=some [.d (.str x.fk.table),x22,.d (.str x.fk.ref)]:=by simp[stpC]
 simp only[Cons.enc,List.map_cons,List.map_nil] at e14
 unfold Z4b at hm
 simp[hnn,e0]
 cases k13:x.kind == 13 with
 | true=>
   simp only[k13,cond_true] at hm
   replace hm:=hm.chk
   obtain⟨hlim,hm⟩:=hm
   have e1:=r_ret hm
   simp only[Prod.mk.injEq] at e1
   obtain⟨rfl,rfl⟩:=e1
   simp[k13]
   generalize (h.setBox (h.ep,48) (stpC x x6 x12 x13 x22)).next=HX at *
   refine Wait.cut (Plan.then_ [0,1,2,3,4,5,6,7,8,9,10,11] .done) follows (by kernel_rfl) (fun e h'=>e.n=120∧∃ oc' oa',Sc h' l { S with cons:=S.cons++[x.cons] } tc fc oc' ta fa oa'∧Same HX h' (l::oa)∧∀ k ∈ oa',k ∈ oa∨HX.ep≤k.1) ?_ ?_
   ·simp[hb0,bx3,e14,Plan.then_,vcPlan,Z01,Z00,callKind]
    have hz:Same HX ((HX.setArr (HX.ep,16 * 18) (some (1,7))).next) []:=Same.refl.setArr.next
    simp only[Nat.reduceMul] at hz
    have s1:=s0.frame hz
    obtain⟨ys,my,hly,add⟩:=s1.addO
    refine app_mr (by simp;exact⟨rfl,rfl⟩) (by simp) (by simp) (by simp) my (RowAt.own1 (by simp)) (by rw[hly];exact hlim) (fun c' h' hm' hs6 hl6=>?_)
    have hbl:=s1.keep hs6 fun k hk=>.inr (.inr (s1.hlabs.2.2 k hk))
    obtain⟨oa',s6,hoa'⟩:=add h' c' x.cons (by simpa using hm') hs6 hl6
    have hepz:=hz.1
    simp[hbl]
    exact CutK.of ⟨by simp,c',oa',s6,((hz.mono (by simp)).trans (hs6.mono fun k hk=>List.mem_cons_of_mem _ (s1.hlabs.2.2 k hk))).setBox (.inl (by simp)),fun k hk=>(hoa' k hk).imp_right fun h9=>by omega⟩
   ·rintro e h' ⟨hn,oc',oa',s6,hs6,hoa'⟩
    simp[hn]
    refine hk1 _ _ s6.ows (hs6.mono fun k hk=>by simp only[List.mem_cons,List.mem_append] at hk ⊢;exact hk.imp_right fun h=>.inr (.inr h)) fun k hk=>?_
    simp only[List.mem_append] at hk ⊢
    rcases hk with hk | hk | hk
    ·exact .inl (.inl hk)
    ·exact .inl (.inr (.inl hk))
    ·exact (hoa' k hk).imp_left fun h=>.inr (.inr h)
 | false=>
 simp only[k13,cond_false] at hm
 cases k14:x.kind == 14 with
 | true=>
   simp only[k14,cond_true] at hm
   simp[k13,k14,e14]
   refine Z02 (Z8a _ l _ S S' x.cons r hm s0.ows _ (hk1.to fun h' hK=>?_))
   simp
   exact hK
 | false=>
 simp only[k14,cond_false] at hm
 cases k15:x.kind == 15 with
 | true=>
   simp only[k15,cond_true] at hm
   replace hm:=hm.chk
   obtain⟨hlim,hm⟩:=hm
   have e1:=r_ret hm
   simp only[Prod.mk.injEq] at e1
   obtain⟨rfl,rfl⟩:=e1
   simp[k13,k14,k15]
   obtain⟨y6,y12,y13,y22,b6,b12,b13,b22,f1,f2,p6,p12,p13,p22⟩:=hx0.stp
   obtain⟨rfl,rfl,rfl,rfl⟩:x6=y6∧x12=y12∧x13=y13∧x22=y22:=by simpa[stpC] using f1
   have hnd0:=hd.1
   rw[f2] at hd0 hk0 hnd0
   have hoF:Ow ((h.setBox (h.ep,48) (stpC x x6 x12 x13 x22)).next) FkSh [.d (.str x.fk.table),x22,.d (.str x.fk.ref)] x.fk.enc b22:=by
    have:=Ow.data (c:=.d (.str x.fk.table)) (x:=.str x.fk.table) rfl (p22.join (.data (c:=.d (.str x.fk.ref)) (x:=.str x.fk.ref) rfl .nil))
    simp only[List.append_nil] at this
    exact this
   have hndb:b22.Nodup:=by
    simp only[List.nodup_append] at hnd0
    exact hnd0.2.1.2.1.2.1
   have hdb:∀ k ∈ b22,k.1 < ((h.setBox (h.ep,48) (stpC x x6 x12 x13 x22)).next).ep∧k ∉ l::(ta++(fa++oa)):=fun k hk=>hd0 k (by simp[hk])
   have hk2:=hk0.sub (ls':=ta++(fa++oa)++b22) (fun k hk=>by simp only[List.mem_append] at hk ⊢;exact hk.imp_right fun h=>.inr (.inr (.inr h)))
   clear hk0 hk1 hx0 hd0
   generalize hHX:(h.setBox (h.ep,48) (stpC x x6 x12 x13 x22)).next=HX at *
   refine Wait.cut (Plan.then_ [0,1,2,3,4,5,6,7,8,9,10,11] .done) follows (by kernel_rfl) (fun e h'=>e.n=120∧∃ fc' fa',Sc h' l { S with fks:=S.fks++[x.fk] } tc fc' oc ta fa' oa∧Same HX h' (l::fa)∧∀ k ∈ fa',k ∈ fa∨k ∈ b22∨HX.ep≤k.1) ?_ ?_
   ·simp[hb0,bx3,e21,Plan.then_,vcPlan,Z01,Z00,callKind]
    refine bld_ow (x:=[.d (.str x.fk.table),x22,.d (.str x.fk.ref)]) (by simp[toDs];cases x22.toD<;>rfl) (by simp) (fun d hd2=>?_) (fun hd2=>?_)
    ·obtain⟨rfl,hT2⟩:=hoF.ofD hd2
     have hz:Same HX ((HX.setArr (HX.ep,16 * 37) (some (1,3))).next) []:=Same.refl.setArr.next
     simp only[Nat.reduceMul] at hz
     have s1:=s0.frame hz
     obtain⟨ys,my,hly,add⟩:=s1.addF
     simp
     refine app_mr (by simp;exact⟨rfl,rfl⟩) (by simp) (by simp) (by simp) my (RowAt.own1 (by simp)) (by rw[hly];exact hlim) (fun c' h' hm' hs6 hl6=>?_)
     have hbl:=s1.keep hs6 fun k hk=>.inr (.inl (s1.hlabs.2.1 k hk))
     obtain⟨fa',s6,hfa'⟩:=add h' c' _ _ [] hm' hs6 hl6 (hT2 h') List.nodup_nil (by simp) x.fk rfl
     have hepz:=hz.1
     simp[hbl]
     exact CutK.of ⟨by simp,c',fa',s6,((hz.mono (by simp)).trans (hs6.mono fun k hk=>List.mem_cons_of_mem _ (s1.hlabs.2.1 k hk))).setBox (.inl (by simp)),fun k hk=>(hfa' k hk).imp_right fun h9=>.inr (by rcases h9 with h9 | h9;simp at h9;omega)⟩
    ·have hz:Same HX ((HX.setBox (HX.ep,16 * 37) [.d (.str x.fk.table),x22,.d (.str x.fk.ref)]).next) []:=(Same.refl.setBox (.inr (Nat.le_refl _))).next
     simp only[Nat.reduceMul] at hz
     have s1:=s0.frame hz
     obtain⟨ys,my,hly,add⟩:=s1.addF
     simp
     refine app_mr (by simp;exact⟨rfl,rfl⟩) (by simp) (by simp) (by simp) my (RowAt.new1 (x:=[.d (.str x.fk.table),x22,.d (.str x.fk.ref)]) (by simp) (by simp)) (by rw[hly];exact hlim) (fun c' h' hm' hs6 hl6=>?_)
     have hbl:=s1.keep hs6 fun k hk=>.inr (.inl (s1.hlabs.2.1 k hk))
     have hepz:=hz.1
     have hep6:=hs6.1
     obtain⟨fa',s6,hfa'⟩:=add h' c' _ _ b22 hm' hs6 hl6 (hoF.frame fun k hk=>by
      have h9:=hdb k hk
      simp only[List.mem_cons,List.mem_append,not_or] at h9
      rw[hs6.2 k (by omega) fun h8=>h9.2.2.2.1 (s1.hlabs.2.1 k h8)]
      exact hz.2 k h9.1 (by simp)) hndb (fun k hk=>by
      have h9:=hdb k hk
      refine⟨by omega,h9.2,fun h8=>?_⟩
      simp only[List.mem_cons,List.mem_append,not_or] at h9
      rcases hl6 k h8 with h7 | h7
      ·exact h9.2.2.2.1 (s1.hlabs.2.1 k h7)
      ·omega) x.fk rfl
     simp[hbl]
     exact CutK.of ⟨by simp,c',fa',s6,((hz.mono (by simp)).trans (hs6.mono fun k hk=>List.mem_cons_of_mem _ (s1.hlabs.2.1 k hk))).setBox (.inl (by simp)),fun k hk=>(hfa' k hk).imp_right fun h9=>h9.imp_right fun h8=>by omega⟩
   ·rintro e h' ⟨hn,fc',fa',s6,hs6,hfa'⟩
    simp[hn]
    refine hk2 _ _ s6.ows (hs6.mono fun k hk=>by simp only[List.mem_cons,List.mem_append] at hk ⊢;exact hk.imp_right fun h=>.inl (.inr (.inl h))) fun k hk=>?_
    simp only[List.mem_append] at hk ⊢
    rcases hk with hk | hk | hk
    ·exact .inl (.inl (.inl hk))
    ·rcases hfa' k hk with h9 | h9 | h9
     ·exact .inl (.inl (.inr (.inl h9)))
     ·exact .inl (.inr h9)
     ·exact .inr h9
    ·exact .inl (.inl (.inr (.inr hk)))
 | false=>
 simp only[k15,cond_false] at hm
 cases k16:x.kind == 16 with
 | true=>
   simp only[k16,cond_true] at hm
   simp[k13,k14,k15,k16,e21]
   refine Z02 (Z89 _ l _ S S' x.fk [.d (.str x.fk.table),x22,.d (.str x.fk.ref)] r hm s0.ows (fun h' hs'=>?_) _ (hk1.to fun h' hK=>?_))
   ·have:=(hx0.frame (h':=h') fun k hk=>hs'.2 k (hd0 k hk).1 (by simp)).stp
    obtain⟨y6,y12,y13,y22,b6,b12,b13,b22,f1,f2,p6,p12,p13,p22⟩:=this
    obtain⟨rfl,rfl,rfl,rfl⟩:x6=y6∧x12=y12∧x13=y13∧x22=y22:=by simpa[stpC] using f1
    exact⟨.data rfl,p22.nfrz,.data rfl,trivial⟩
   ·simp
    exact hK
 | false=>
 simp only[k16,cond_false] at hm
 cases k10:x.kind == 10 with
 | true=>
   simp only[k10,cond_true] at hm
   simp[k13,k14,k15,k16,k10,e11]
   obtain⟨y6,y12,y13,y22,b6,b12,b13,b22,f1,f2,p6,p12,p13,p22⟩:=hx0.stp
   obtain⟨rfl,rfl,rfl,rfl⟩:x6=y6∧x12=y12∧x13=y13∧x22=y22:=by simpa[stpC] using f1
   have hnd0:=hd.1
   rw[f2] at hd0 hk0 hnd0
   refine Z02 (Z9q _ l tc fc oc ta fa oa (b12++(b13++[])) S S' x.newTable r _ hm s0 (.data (c:=.d (.str x.newTable.name)) (x:=.str x.newTable.name) rfl (p12.join (p13.join .nil))) ⟨?_,fun k hk=>?_⟩ _ ((hk0.sub fun k hk=>?_).to fun h' hK=>?_))
   ·simp only[List.nodup_append,List.append_nil,List.mem_append] at hnd0 ⊢
    exact⟨hnd0.2.1.1,hnd0.2.1.2.1.1,fun a ha b hb=>hnd0.2.1.2.2 a ha b (.inl hb)⟩
   ·exact hd0 k (by simp only[List.append_nil,List.mem_append] at hk ⊢;exact .inr (hk.imp_right .inl))
   ·simp only[List.append_nil,List.mem_append] at hk ⊢
    exact hk.imp_right fun h=>.inr (h.imp_right .inl)
   ·simp
    exact hK
 | false=>
 simp only[k10,cond_false] at hm
 replace hm:=hm.bind
 obtain⟨v,hv,hm⟩:=hm
 obtain⟨n,hn1⟩:∃ n:Nat,v.1=n:=⟨v.1.toNat,by have:=Zhg hv;omega⟩
 simp[k13,k14,k15,k16,k10]
 have hepX:h.ep < ((h.setBox (h.ep,48) (stpC x x6 x12 x13 x22)).next).ep:=by simp
 generalize hHX:(h.setBox (h.ep,48) (stpC x x6 x12 x13 x22)).next=HX at *
 refine Wait.cut (Plan.then_ [0,1,2,3,4,5,6,7,8,9,10] .done) follows (by kernel_rfl) (fun e h'=>e.n=120∧e.get 0=.one (.ptr l 0)∧e.get 3=.one (.ptr (h.ep,48) 0)∧e.get 5=.one (.d (.int .i64 v.1))∧e.get 6=.one (.d (.bool v.2))∧h'=HX.next) ?_ ?_
 ·simp[hb0,bx3,e1',Plan.then_,vcPlan,Z01,Z00,callKind]
  refine Z02 (HSpec.of_lend (Z06 S x.table v hv) ⟨.agg s0.frz,.one (.frz (.data rfl)),trivial⟩ rfl ?_)
  simp
  exact⟨fun _ _ x=>x,CutK.of (by simp)⟩
 ·rintro e h' ⟨hn,h0,h3,h5,h6,rfl⟩
  have hs1:Same HX HX.next []:=Same.refl.next
  have s1:=s0.frame hs1
  have bx31:HX.next.box (h.ep,48)=some (stpC x x6 x12 x13 x22):=bx3
  have hx1:=hx0.frame (h':=HX.next) fun k hk=>hs1.2 k (hd0 k hk).1 (by simp)
  have hd1:∀ k ∈ a6++(a12++(a13++a22)),k.1 < HX.next.ep∧k ∉ l::(ta++(fa++oa)):=fun k hk=>⟨by have:=(hd0 k hk).1;simp;omega,(hd0 k hk).2⟩
  have hk2:=hk1.after hs1
  rw[hn1] at h5
  have hvn:v.1.toNat=n:=by omega
  rw[hvn] at hm
  simp[hn,h6]
  cases hv2:v.2 with
  | false=>
    rw[hv2] at hm
    have e1:=r_ret hm
    simp only[Prod.mk.injEq] at e1
    obtain⟨rfl,rfl⟩:=e1
    simp[hn]
    exact hk2 _ _ s1.ows .refl (fun k hk=>.inl hk)
  | true=>
  simp only[hv2,Bool.not_true,cond_false] at hm
  simp at bx31
  simp[hn,h3,bx31,e0]
  cases k4:x.kind == 4 with
  | true=>
    simp only[k4,cond_true] at hm
    simp[k4,hn,h0,h3,h5,bx31,e4]
    refine Z02 (Z9o _ l tc fc oc ta fa oa S S' n x.newName r hm s1 _ (hk2.to fun h' hK=>?_))
    simp[hn]
    exact hK
  | false=>
  simp only[k4,cond_false] at hm
  cases k6:x.kind == 6 with
  | true=>
    simp only[k6,cond_true] at hm
    simp[k4,k6,hn,h0,h3,h5,bx31,e24]
    refine Z02 (Z9y _ l tc fc oc _ ta fa oa _ S S' n x r hm s1 hx1 hd1 _ (hk2.to fun h' hK=>?_))
    simp[hn]
    exact hK
  | false=>
  simp only[k6,cond_false] at hm
  cases k7:x.kind == 7 with
  | true=>
    simp only[k7,cond_true] at hm
    simp[k4,k6,k7,hn,h0,h3,h5,bx31,e2]
    refine Z02 (Z9z _ l tc fc oc ta fa oa S S' n x.other r hm s1 _ (hk2.to fun h' hK=>?_))
    simp[hn]
    exact hK
  | false=>
  simp only[k7,cond_false] at hm
  cases k8:x.kind == 8 with
  | true=>
    simp only[k8,cond_true] at hm
    simp[k4,k6,k7,k8,hn,h0,h3,h5,bx31,e24]
    refine Z02 (Z88 _ l tc fc oc x6 x12 x13 x22 ta fa oa S S' n x r hm s1 _ (hk2.to fun h' hK=>?_))
    simp[hn]
    exact hK
  | false=>
  simp only[k8,cond_false] at hm
  cases k9:x.kind == 9 with
  | true=>
    simp only[k9,cond_true] at hm
    simp[k4,k6,k7,k8,k9,hn,h0,h3,h5,bx31,e24]
    refine Z02 (Z9p _ l tc fc oc x6 x12 x13 x22 ta fa oa S S' n x r hm s1 _ (hk2.to fun h' hK=>?_))
    simp[hn]
    exact hK
  | false=>
  simp only[k9,cond_false] at hm
  cases k11:x.kind == 11 with
  | true=>
    simp only[k11,cond_true] at hm
    simp[k4,k6,k7,k8,k9,k11,hn,h0,h3,h5,bx31,e1,e1']
    refine Z02 (Zak _ l _ S S' x.table r hm s1.ows _ (hk2.to fun h' hK=>?_))
    simp[hn]
    exact hK
  | false=>
  simp only[k11,cond_false] at hm
  cases k12:x.kind == 12 with
  | true=>
    simp only[k12,cond_true] at hm
    simp[k4,k6,k7,k8,k9,k11,k12,hn,h0,h3,h5,bx31,e24]
    refine Z02 (Z8p _ l tc fc oc _ ta fa oa _ S S' n x r hm s1 hx1 hd1 _ (hk2.to fun h' hK=>?_))
    simp[hn]
    exact hK
  | false=>
  simp only[k12,cond_false] at hm
  cases k1:x.kind == 1 with
  | true=>
    simp only[k1,cond_true] at hm
    simp[k4,k6,k7,k8,k9,k11,k12,k1,hn,h0,h3,h5,bx31,e24]
    refine Z02 (Zal _ l tc fc oc x6 x12 x13 x22 ta fa oa S S' n x r hm s1 _ (hk2.to fun h' hK=>?_))
    simp[hn]
    exact hK
  | false=>
  simp only[k1,cond_false] at hm
  simp[k4,k6,k7,k8,k9,k11,k12,k1,hn,h0,h3,h5,bx31,e24]
  refine Z02 (Z9r _ l tc fc oc x6 x12 x13 x22 ta fa oa S S' n x r hm s1 _ (hk2.to fun h' hK=>?_))
  simp[hn]
  exact hK
end Go.Proofs.YthgepknlibmjcaaGreat
end
section
namespace Go.Proofs.YthgepknlibmjcaaGreat
open Go.Am
def Z42 (a:Tbl) (b:Tbl):Option Bool:=
 (bif strEq a.name b.name then (bindK (Z20 a.cols b.cols) fun v4=>(bif v4 then (bindK (Z12 a.pk b.pk) fun v6=>(some v6)) else (some false))) else (some false))
theorem Zb7 (a:Tbl) (b:Tbl) (r:Bool) (hm:Is (Z42 a b) r):PSpec Tryz.prog 75 [.agg a.enc,.agg b.enc] (.one (.d (.bool r))):=by
 unfold Z42 at hm
 refine PSpec.of_vc Tryz.func75 rfl (by kernel_rfl) (n:=24) rfl rfl (by simp) ?_
 try simp[*]
 refine Z08 hm ?_ ?_<;>clear hm<;>intro hc3 hm
 ·try simp[*]
  refine r_call (av:=[.one (.d (.sl (a.cols.map Col.enc))),.one (.d (.sl (b.cols.map Col.enc)))]) hm (fun v hv=>Z77 _ _ v hv) (by simp[*]) ?_
  clear hm;intro v4 hvv4 hm
  try simp[*]
  refine Z08 hm ?_ ?_<;>clear hm<;>intro hc5 hm
  ·try simp[*]
   refine r_call (av:=[.one (.d (.sl (a.pk.map encI))),.one (.d (.sl (b.pk.map encI)))]) hm (fun v hv=>Z31 _ _ v hv) (by simp[*]) ?_
   clear hm;intro v6 hvv6 hm
   try simp[*]
   obtain rfl:=r_ret hm
   exact ret0 (vs:=[_]) (by simp[*];try exact rfl) (by simp[*])
  ·try simp[*]
   obtain rfl:=r_ret hm
   exact ret0 (vs:=[_]) (by simp[*];try exact rfl) (by simp[*])
 ·try simp[*]
  obtain rfl:=r_ret hm
  exact ret0 (vs:=[_]) (by simp[*];try exact rfl) (by simp[*])
def Z34 (a:Tbl) (b:Tbl):Option Bool:=
 (bindK (Z42 a b) fun v3=>(some v3))
theorem Zb9 (a:Tbl) (b:Tbl) (r:Bool) (hm:Is (Z34 a b) r):PSpec Tryz.prog 173 [.agg a.enc,.agg b.enc] (.one (.d (.bool r))):=by
 unfold Z34 at hm
 refine PSpec.of_vc Tryz.func173 rfl (by kernel_rfl) (n:=8) rfl rfl (by simp) ?_
 try simp[*]
 refine r_call (av:=[.agg a.enc,.agg b.enc]) hm (fun v hv=>Zb7 _ _ v hv) (by simp[*]) ?_
 clear hm;intro v3 hvv3 hm
 try simp[*]
 obtain rfl:=r_ret hm
 exact ret0 (vs:=[_]) (by simp[*];try exact rfl) (by simp[*])
def Z57 (a:Stp) (b:Stp):Option Bool:=
 (bif (a.kind == b.kind) then (bif strEq a.table b.table then (bif strEq a.other b.other then (bif strEq a.column b.column then (bif strEq a.newName b.newName then (bif (a.type == b.type) then (bindK (Z12 a.cols b.cols) fun v9=>(bif v9 then (bif strEq a.op b.op then (bif (a.value.kind == b.value.kind && (a.value.int == b.value.int && (a.value.text == b.value.text))) then (bindK (Z34 a.newTable b.newTable) fun v13=>(bif v13 then (bif (a.cons.table == b.cons.table && (a.cons.left == b.cons.left && (a.cons.op == b.cons.op && (a.cons.right == b.cons.right && (a.cons.value.kind == b.cons.value.kind && (a.cons.value.int == b.cons.value.int && (a.cons.value.text == b.cons.value.text))))))) then (bindK (Z0i a.fk b.fk) fun v16=>(some v16)) else (some false)) else (some false))) else (some false)) else (some false)) else (some false))) else (some false)) else (some false)) else (some false)) else (some false)) else (some false)) else (some false))
theorem Zd5 (a:Stp) (b:Stp) (r:Bool) (hm:Is (Z57 a b) r):PSpec Tryz.prog 159 [.agg a.enc,.agg b.enc] (.one (.d (.bool r))):=by
 unfold Z57 at hm
 refine PSpec.of_vc Tryz.func159 rfl (by kernel_rfl) (n:=87) rfl rfl (by simp) ?_
 try simp[*]
 refine Z08 hm ?_ ?_<;>clear hm<;>intro hc3 hm
 ·try simp[*]
  refine Z08 hm ?_ ?_<;>clear hm<;>intro hc4 hm
  ·try simp[*]
   refine Z08 hm ?_ ?_<;>clear hm<;>intro hc5 hm
   ·try simp[*]
    refine Z08 hm ?_ ?_<;>clear hm<;>intro hc6 hm
    ·try simp[*]
     refine Z08 hm ?_ ?_<;>clear hm<;>intro hc7 hm
     ·try simp[*]
      refine Z08 hm ?_ ?_<;>clear hm<;>intro hc8 hm
      ·try simp[*]
       refine r_call (av:=[.one (.d (.sl (a.cols.map encI))),.one (.d (.sl (b.cols.map encI)))]) hm (fun v hv=>Z31 _ _ v hv) (by simp[*]) ?_
       clear hm;intro v9 hvv9 hm
       try simp[*]
       refine Z08 hm ?_ ?_<;>clear hm<;>intro hc10 hm
       ·try simp[*]
        refine Z08 hm ?_ ?_<;>clear hm<;>intro hc11 hm
        ·try simp[*]
         refine Z08 hm ?_ ?_<;>clear hm<;>intro hc12 hm
         ·try simp[*]
          refine r_call (av:=[.agg a.newTable.enc,.agg b.newTable.enc]) hm (fun v hv=>Zb9 _ _ v hv) (by simp[*]) ?_
          clear hm;intro v13 hvv13 hm
          try simp[*]
          refine Z08 hm ?_ ?_<;>clear hm<;>intro hc14 hm
          ·try simp[*]
           refine Z08 hm ?_ ?_<;>clear hm<;>intro hc15 hm
           ·try simp[*]
            refine r_call (av:=[.agg a.fk.enc,.agg b.fk.enc]) hm (fun v hv=>Z2r _ _ v hv) (by simp[*]) ?_
            clear hm;intro v16 hvv16 hm
            try simp[*]
            obtain rfl:=r_ret hm
            exact ret0 (vs:=[_]) (by simp[*];try exact rfl) (by simp[*])
           ·try simp[*]
            obtain rfl:=r_ret hm
            exact ret0 (vs:=[_]) (by simp[*];try exact rfl) (by simp[*])
          ·try simp[*]
           obtain rfl:=r_ret hm
           exact ret0 (vs:=[_]) (by simp[*];try exact rfl) (by simp[*])
         ·try simp[*]
          obtain rfl:=r_ret hm
          exact ret0 (vs:=[_]) (by simp[*];try exact rfl) (by simp[*])
        ·try simp[*]
         obtain rfl:=r_ret hm
         exact ret0 (vs:=[_]) (by simp[*];try exact rfl) (by simp[*])
       ·try simp[*]
        obtain rfl:=r_ret hm
        exact ret0 (vs:=[_]) (by simp[*];try exact rfl) (by simp[*])
      ·try simp[*]
       obtain rfl:=r_ret hm
       exact ret0 (vs:=[_]) (by simp[*];try exact rfl) (by simp[*])
     ·try simp[*]
      obtain rfl:=r_ret hm
      exact ret0 (vs:=[_]) (by simp[*];try exact rfl) (by simp[*])
    ·try simp[*]
     obtain rfl:=r_ret hm
     exact ret0 (vs:=[_]) (by simp[*];try exact rfl) (by simp[*])
   ·try simp[*]
    obtain rfl:=r_ret hm
    exact ret0 (vs:=[_]) (by simp[*];try exact rfl) (by simp[*])
  ·try simp[*]
   obtain rfl:=r_ret hm
   exact ret0 (vs:=[_]) (by simp[*];try exact rfl) (by simp[*])
 ·try simp[*]
  obtain rfl:=r_ret hm
  exact ret0 (vs:=[_]) (by simp[*];try exact rfl) (by simp[*])
def Z3n (step:Stp):Option Stp:=
 (bif (step.kind == 1) then (some (Stp.mk step.kind step.table ByteArray.empty step.column ByteArray.empty step.type [] ByteArray.empty step.value (Tbl.mk ByteArray.empty [] []) (Cons.mk ByteArray.empty 0 ByteArray.empty 0 (GV.mk 0 0 ByteArray.empty)) (Fk.mk ByteArray.empty [] ByteArray.empty))) else (bif (step.kind == 2) then (some (Stp.mk step.kind step.table ByteArray.empty step.column ByteArray.empty 0 [] ByteArray.empty step.value (Tbl.mk ByteArray.empty [] []) (Cons.mk ByteArray.empty 0 ByteArray.empty 0 (GV.mk 0 0 ByteArray.empty)) (Fk.mk ByteArray.empty [] ByteArray.empty))) else (bif (step.kind == 3) then (some (Stp.mk step.kind step.table ByteArray.empty step.column step.newName 0 [] ByteArray.empty (GV.mk 0 0 ByteArray.empty) (Tbl.mk ByteArray.empty [] []) (Cons.mk ByteArray.empty 0 ByteArray.empty 0 (GV.mk 0 0 ByteArray.empty)) (Fk.mk ByteArray.empty [] ByteArray.empty))) else (bif (step.kind == 4) then (some (Stp.mk step.kind step.table ByteArray.empty ByteArray.empty step.newName 0 [] ByteArray.empty (GV.mk 0 0 ByteArray.empty) (Tbl.mk ByteArray.empty [] []) (Cons.mk ByteArray.empty 0 ByteArray.empty 0 (GV.mk 0 0 ByteArray.empty)) (Fk.mk ByteArray.empty [] ByteArray.empty))) else (bif (step.kind == 5) then (some (Stp.mk step.kind step.table ByteArray.empty step.column ByteArray.empty step.type [] ByteArray.empty (GV.mk 0 0 ByteArray.empty) (Tbl.mk ByteArray.empty [] []) (Cons.mk ByteArray.empty 0 ByteArray.empty 0 (GV.mk 0 0 ByteArray.empty)) (Fk.mk ByteArray.empty [] ByteArray.empty))) else (bif (step.kind == 6) then (some (Stp.mk step.kind step.table step.other ByteArray.empty ByteArray.empty 0 step.cols ByteArray.empty (GV.mk 0 0 ByteArray.empty) (Tbl.mk ByteArray.empty [] []) (Cons.mk ByteArray.empty 0 ByteArray.empty 0 (GV.mk 0 0 ByteArray.empty)) (Fk.mk ByteArray.empty [] ByteArray.empty))) else (bif (step.kind == 7) then (some (Stp.mk step.kind step.table step.other ByteArray.empty ByteArray.empty 0 [] ByteArray.empty (GV.mk 0 0 ByteArray.empty) (Tbl.mk ByteArray.empty [] []) (Cons.mk ByteArray.empty 0 ByteArray.empty 0 (GV.mk 0 0 ByteArray.empty)) (Fk.mk ByteArray.empty [] ByteArray.empty))) else (bif (step.kind == 8) then (some (Stp.mk step.kind step.table step.other step.column ByteArray.empty 0 [] step.op step.value (Tbl.mk ByteArray.empty [] []) (Cons.mk ByteArray.empty 0 ByteArray.empty 0 (GV.mk 0 0 ByteArray.empty)) (Fk.mk ByteArray.empty [] ByteArray.empty))) else (bif (step.kind == 9) then (some (Stp.mk step.kind step.table step.other step.column ByteArray.empty 0 [] ByteArray.empty (GV.mk 0 0 ByteArray.empty) (Tbl.mk ByteArray.empty [] []) (Cons.mk ByteArray.empty 0 ByteArray.empty 0 (GV.mk 0 0 ByteArray.empty)) (Fk.mk ByteArray.empty [] ByteArray.empty))) else (bif (step.kind == 10) then (some (Stp.mk step.kind ByteArray.empty ByteArray.empty ByteArray.empty ByteArray.empty 0 [] ByteArray.empty (GV.mk 0 0 ByteArray.empty) step.newTable (Cons.mk ByteArray.empty 0 ByteArray.empty 0 (GV.mk 0 0 ByteArray.empty)) (Fk.mk ByteArray.empty [] ByteArray.empty))) else (bif (step.kind == 12) then (some (Stp.mk step.kind step.table ByteArray.empty step.column ByteArray.empty 0 step.cols ByteArray.empty (GV.mk 0 0 ByteArray.empty) (Tbl.mk ByteArray.empty [] []) (Cons.mk ByteArray.empty 0 ByteArray.empty 0 (GV.mk 0 0 ByteArray.empty)) (Fk.mk ByteArray.empty [] ByteArray.empty))) else (bif (step.kind == 13) then (some (Stp.mk step.kind ByteArray.empty ByteArray.empty ByteArray.empty ByteArray.empty 0 [] ByteArray.empty (GV.mk 0 0 ByteArray.empty) (Tbl.mk ByteArray.empty [] []) step.cons (Fk.mk ByteArray.empty [] ByteArray.empty))) else (bif (step.kind == 14) then (some (Stp.mk step.kind ByteArray.empty ByteArray.empty ByteArray.empty ByteArray.empty 0 [] ByteArray.empty (GV.mk 0 0 ByteArray.empty) (Tbl.mk ByteArray.empty [] []) step.cons (Fk.mk ByteArray.empty [] ByteArray.empty))) else (bif (step.kind == 15) then (some (Stp.mk step.kind ByteArray.empty ByteArray.empty ByteArray.empty ByteArray.empty 0 [] ByteArray.empty (GV.mk 0 0 ByteArray.empty) (Tbl.mk ByteArray.empty [] []) (Cons.mk ByteArray.empty 0 ByteArray.empty 0 (GV.mk 0 0 ByteArray.empty)) step.fk)) else (bif (step.kind == 16) then (some (Stp.mk step.kind ByteArray.empty ByteArray.empty ByteArray.empty ByteArray.empty 0 [] ByteArray.empty (GV.mk 0 0 ByteArray.empty) (Tbl.mk ByteArray.empty [] []) (Cons.mk ByteArray.empty 0 ByteArray.empty 0 (GV.mk 0 0 ByteArray.empty)) step.fk)) else (some (Stp.mk step.kind step.table ByteArray.empty ByteArray.empty ByteArray.empty 0 [] ByteArray.empty (GV.mk 0 0 ByteArray.empty) (Tbl.mk ByteArray.empty [] []) (Cons.mk ByteArray.empty 0 ByteArray.empty 0 (GV.mk 0 0 ByteArray.empty)) (Fk.mk ByteArray.empty [] ByteArray.empty))))))))))))))))))
theorem Za4 (step:Stp) (r:Stp) (hm:Is (Z3n step) r):PSpec Tryz.prog 160 [.agg step.enc] (.agg (r.enc.map RC.d)):=by
 unfold Z3n at hm
 refine PSpec.of_vc Tryz.func160 rfl (by kernel_rfl) (n:=115) rfl rfl (by simp) ?_
 try simp[*]
 refine r_cond hm ?_ ?_<;>clear hm<;>intro hc4 hm
 ·try simp[*]
  refine Wait.cut (Plan.then_ [0,1,2,4,6] (.three 3 5 7 (Plan.then_ [] (.two 5 7 (Plan.then_ [7,8,9,10,11] .done) (Plan.then_ [8] (.two 5 9 (Plan.then_ [9,10,11] .done) (Plan.then_ [5,10,11] .done))))) (Plan.then_ [] (.two 3 7 (Plan.then_ [7,8,9,10,11] .done) (Plan.then_ [3,8,9,10,11] .done))) (Plan.then_ [3,8] (.two 5 9 (Plan.then_ [9,10,11] .done) (Plan.then_ [5,10,11] .done))))) follows (by kernel_rfl) (fun e5 h5=>e5.n=115∧e5.get 2=.one (.ptr (1,32) 0)∧e5.get 3=.one (.ptr (2,48) 0)∧h5.box (1,32)=some [.d (.int .i64 0),.d (.str ByteArray.empty),.d (.str ByteArray.empty),.d (.str ByteArray.empty),.d (.str ByteArray.empty),.d (.int .i64 0),.nil,.d (.str ByteArray.empty),.d (.int .i64 0),.d (.int .i64 0),.d (.str ByteArray.empty),.d (.str ByteArray.empty),.nil,.nil,.d (.str ByteArray.empty),.d (.int .i64 0),.d (.str ByteArray.empty),.d (.int .i64 0),.d (.int .i64 0),.d (.int .i64 0),.d (.str ByteArray.empty),.d (.str ByteArray.empty),.nil,.d (.str ByteArray.empty)]∧h5.box (2,48)=some [.d (.int .i64 step.kind),.d (.str step.table),.d (.str ByteArray.empty),.d (.str step.column),.d (.str ByteArray.empty),.d (.int .i64 step.type),.nil,.d (.str ByteArray.empty),.d (.int .i64 step.value.kind),.d (.int .i64 step.value.int),.d (.str step.value.text),.d (.str ByteArray.empty),.nil,.nil,.d (.str ByteArray.empty),.d (.int .i64 0),.d (.str ByteArray.empty),.d (.int .i64 0),.d (.int .i64 0),.d (.int .i64 0),.d (.str ByteArray.empty),.d (.str ByteArray.empty),.nil,.d (.str ByteArray.empty)]) ?_ ?_
  ·try simp[*,Plan.then_,vcPlan,Z01,Z00,callKind]
   repeat' (first | with_reducible refine And.intro ?_ ?_ | (refine CutK.of ?_;simp[*];done))
  ·rintro e5 h5 ⟨hn5,h5_2,h5_3,hb5_b2,hb5_b3⟩
   try simp[*]
   obtain rfl:=r_ret hm
   exact ret0 (vs:=[_]) (by simp[*];try exact rfl) (by simp[*])
 ·try simp[*]
  refine r_cond hm ?_ ?_<;>clear hm<;>intro hc6 hm
  ·try simp[*]
   refine Wait.cut (Plan.then_ [0,1,2,4] (.two 3 5 (Plan.then_ [5,6,7] .done) (Plan.then_ [3,6,7] .done))) follows (by kernel_rfl) (fun e7 h7=>e7.n=115∧e7.get 2=.one (.ptr (1,32) 0)∧e7.get 3=.one (.ptr (2,48) 0)∧h7.box (1,32)=some [.d (.int .i64 0),.d (.str ByteArray.empty),.d (.str ByteArray.empty),.d (.str ByteArray.empty),.d (.str ByteArray.empty),.d (.int .i64 0),.nil,.d (.str ByteArray.empty),.d (.int .i64 0),.d (.int .i64 0),.d (.str ByteArray.empty),.d (.str ByteArray.empty),.nil,.nil,.d (.str ByteArray.empty),.d (.int .i64 0),.d (.str ByteArray.empty),.d (.int .i64 0),.d (.int .i64 0),.d (.int .i64 0),.d (.str ByteArray.empty),.d (.str ByteArray.empty),.nil,.d (.str ByteArray.empty)]∧h7.box (2,48)=some [.d (.int .i64 step.kind),.d (.str step.table),.d (.str ByteArray.empty),.d (.str step.column),.d (.str ByteArray.empty),.d (.int .i64 0),.nil,.d (.str ByteArray.empty),.d (.int .i64 step.value.kind),.d (.int .i64 step.value.int),.d (.str step.value.text),.d (.str ByteArray.empty),.nil,.nil,.d (.str ByteArray.empty),.d (.int .i64 0),.d (.str ByteArray.empty),.d (.int .i64 0),.d (.int .i64 0),.d (.int .i64 0),.d (.str ByteArray.empty),.d (.str ByteArray.empty),.nil,.d (.str ByteArray.empty)]) ?_ ?_
   ·try simp[*,Plan.then_,vcPlan,Z01,Z00,callKind]
    repeat' (first | with_reducible refine And.intro ?_ ?_ | (refine CutK.of ?_;simp[*];done))
   ·rintro e7 h7 ⟨hn7,h7_2,h7_3,hb7_b2,hb7_b3⟩
    try simp[*]
    obtain rfl:=r_ret hm
    exact ret0 (vs:=[_]) (by simp[*];try exact rfl) (by simp[*])
  ·try simp[*]
   refine r_cond hm ?_ ?_<;>clear hm<;>intro hc8 hm
   ·try simp[*]
    refine Wait.cut (Plan.then_ [0,1,2,4] (.two 3 5 (Plan.then_ [5,6,7] .done) (Plan.then_ [3,6,7] .done))) follows (by kernel_rfl) (fun e9 h9=>e9.n=115∧e9.get 2=.one (.ptr (1,32) 0)∧e9.get 3=.one (.ptr (2,48) 0)∧h9.box (1,32)=some [.d (.int .i64 0),.d (.str ByteArray.empty),.d (.str ByteArray.empty),.d (.str ByteArray.empty),.d (.str ByteArray.empty),.d (.int .i64 0),.nil,.d (.str ByteArray.empty),.d (.int .i64 0),.d (.int .i64 0),.d (.str ByteArray.empty),.d (.str ByteArray.empty),.nil,.nil,.d (.str ByteArray.empty),.d (.int .i64 0),.d (.str ByteArray.empty),.d (.int .i64 0),.d (.int .i64 0),.d (.int .i64 0),.d (.str ByteArray.empty),.d (.str ByteArray.empty),.nil,.d (.str ByteArray.empty)]∧h9.box (2,48)=some [.d (.int .i64 step.kind),.d (.str step.table),.d (.str ByteArray.empty),.d (.str step.column),.d (.str step.newName),.d (.int .i64 0),.nil,.d (.str ByteArray.empty),.d (.int .i64 0),.d (.int .i64 0),.d (.str ByteArray.empty),.d (.str ByteArray.empty),.nil,.nil,.d (.str ByteArray.empty),.d (.int .i64 0),.d (.str ByteArray.empty),.d (.int .i64 0),.d (.int .i64 0),.d (.int .i64 0),.d (.str ByteArray.empty),.d (.str ByteArray.empty),.nil,.d (.str ByteArray.empty)]) ?_ ?_
    ·try simp[*,Plan.then_,vcPlan,Z01,Z00,callKind]
     repeat' (first | with_reducible refine And.intro ?_ ?_ | (refine CutK.of ?_;simp[*];done))
    ·rintro e9 h9 ⟨hn9,h9_2,h9_3,hb9_b2,hb9_b3⟩
     try simp[*]
     obtain rfl:=r_ret hm
     exact ret0 (vs:=[_]) (by simp[*];try exact rfl) (by simp[*])
   ·try simp[*]
    refine r_cond hm ?_ ?_<;>clear hm<;>intro hc10 hm
    ·try simp[*]
     obtain rfl:=r_ret hm
     exact ret0 (vs:=[_]) (by simp[*];try exact rfl) (by simp[*])
    ·try simp[*]
     refine r_cond hm ?_ ?_<;>clear hm<;>intro hc11 hm
     ·try simp[*]
      refine Wait.cut (Plan.then_ [0,1,2,4] (.two 3 5 (Plan.then_ [5,6,7] .done) (Plan.then_ [3,6,7] .done))) follows (by kernel_rfl) (fun e12 h12=>e12.n=115∧e12.get 2=.one (.ptr (1,32) 0)∧e12.get 3=.one (.ptr (2,48) 0)∧h12.box (1,32)=some [.d (.int .i64 0),.d (.str ByteArray.empty),.d (.str ByteArray.empty),.d (.str ByteArray.empty),.d (.str ByteArray.empty),.d (.int .i64 0),.nil,.d (.str ByteArray.empty),.d (.int .i64 0),.d (.int .i64 0),.d (.str ByteArray.empty),.d (.str ByteArray.empty),.nil,.nil,.d (.str ByteArray.empty),.d (.int .i64 0),.d (.str ByteArray.empty),.d (.int .i64 0),.d (.int .i64 0),.d (.int .i64 0),.d (.str ByteArray.empty),.d (.str ByteArray.empty),.nil,.d (.str ByteArray.empty)]∧h12.box (2,48)=some [.d (.int .i64 step.kind),.d (.str step.table),.d (.str ByteArray.empty),.d (.str step.column),.d (.str ByteArray.empty),.d (.int .i64 step.type),.nil,.d (.str ByteArray.empty),.d (.int .i64 0),.d (.int .i64 0),.d (.str ByteArray.empty),.d (.str ByteArray.empty),.nil,.nil,.d (.str ByteArray.empty),.d (.int .i64 0),.d (.str ByteArray.empty),.d (.int .i64 0),.d (.int .i64 0),.d (.int .i64 0),.d (.str ByteArray.empty),.d (.str ByteArray.empty),.nil,.d (.str ByteArray.empty)]) ?_ ?_
      ·try simp[*,Plan.then_,vcPlan,Z01,Z00,callKind]
       repeat' (first | with_reducible refine And.intro ?_ ?_ | (refine CutK.of ?_;simp[*];done))
      ·rintro e12 h12 ⟨hn12,h12_2,h12_3,hb12_b2,hb12_b3⟩
       try simp[*]
       obtain rfl:=r_ret hm
       exact ret0 (vs:=[_]) (by simp[*];try exact rfl) (by simp[*])
     ·try simp[*]
      refine r_cond hm ?_ ?_<;>clear hm<;>intro hc13 hm
      ·try simp[*]
       refine Wait.cut (Plan.then_ [0,1,2,4] (.two 3 5 (Plan.then_ [5,6,7] .done) (Plan.then_ [3,6,7] .done))) follows (by kernel_rfl) (fun e14 h14=>e14.n=115∧e14.get 2=.one (.ptr (1,32) 0)∧e14.get 3=.one (.ptr (2,48) 0)∧h14.box (1,32)=some [.d (.int .i64 0),.d (.str ByteArray.empty),.d (.str ByteArray.empty),.d (.str ByteArray.empty),.d (.str ByteArray.empty),.d (.int .i64 0),.nil,.d (.str ByteArray.empty),.d (.int .i64 0),.d (.int .i64 0),.d (.str ByteArray.empty),.d (.str ByteArray.empty),.nil,.nil,.d (.str ByteArray.empty),.d (.int .i64 0),.d (.str ByteArray.empty),.d (.int .i64 0),.d (.int .i64 0),.d (.int .i64 0),.d (.str ByteArray.empty),.d (.str ByteArray.empty),.nil,.d (.str ByteArray.empty)]∧h14.box (2,48)=some [.d (.int .i64 step.kind),.d (.str step.table),.d (.str step.other),.d (.str ByteArray.empty),.d (.str ByteArray.empty),.d (.int .i64 0),.d (.sl (step.cols.map encI)),.d (.str ByteArray.empty),.d (.int .i64 0),.d (.int .i64 0),.d (.str ByteArray.empty),.d (.str ByteArray.empty),.nil,.nil,.d (.str ByteArray.empty),.d (.int .i64 0),.d (.str ByteArray.empty),.d (.int .i64 0),.d (.int .i64 0),.d (.int .i64 0),.d (.str ByteArray.empty),.d (.str ByteArray.empty),.nil,.d (.str ByteArray.empty)]) ?_ ?_
       ·try simp[*,Plan.then_,vcPlan,Z01,Z00,callKind]
        repeat' (first | with_reducible refine And.intro ?_ ?_ | (refine CutK.of ?_;simp[*];done))
       ·rintro e14 h14 ⟨hn14,h14_2,h14_3,hb14_b2,hb14_b3⟩
        try simp[*]
        obtain rfl:=r_ret hm
        exact ret0 (vs:=[_]) (by simp[*];try exact rfl) (by simp[*])
      ·try simp[*]
       refine r_cond hm ?_ ?_<;>clear hm<;>intro hc15 hm
       ·try simp[*]
        obtain rfl:=r_ret hm
        exact ret0 (vs:=[_]) (by simp[*];try exact rfl) (by simp[*])
       ·try simp[*]
        refine r_cond hm ?_ ?_<;>clear hm<;>intro hc16 hm
        ·try simp[*]
         refine Wait.cut (Plan.then_ [0,1,2,4,6,8] (.four 3 5 7 9 (Plan.then_ [] (.three 5 7 9 (Plan.then_ [] (.two 7 9 (Plan.then_ [9,10,11,12,13,14,15] .done) (Plan.then_ [10] (.two 7 11 (Plan.then_ [11,12,13,14,15] .done) (Plan.then_ [12] (.two 7 13 (Plan.then_ [13,14,15] .done) (Plan.then_ [7,14,15] .done))))))) (Plan.then_ [] (.two 5 9 (Plan.then_ [9,10,11,12,13,14,15] .done) (Plan.then_ [10] (.two 5 11 (Plan.then_ [11,12,13,14,15] .done) (Plan.then_ [5,12,13,14,15] .done))))) (Plan.then_ [10] (.three 5 7 11 (Plan.then_ [] (.two 7 11 (Plan.then_ [11,12,13,14,15] .done) (Plan.then_ [12] (.two 7 13 (Plan.then_ [13,14,15] .done) (Plan.then_ [7,14,15] .done))))) (Plan.then_ [] (.two 5 11 (Plan.then_ [11,12,13,14,15] .done) (Plan.then_ [5,12,13,14,15] .done))) (Plan.then_ [5,12] (.two 7 13 (Plan.then_ [13,14,15] .done) (Plan.then_ [7,14,15] .done))))))) (Plan.then_ [] (.three 3 7 9 (Plan.then_ [] (.two 7 9 (Plan.then_ [9,10,11,12,13,14,15] .done) (Plan.then_ [10] (.two 7 11 (Plan.then_ [11,12,13,14,15] .done) (Plan.then_ [12] (.two 7 13 (Plan.then_ [13,14,15] .done) (Plan.then_ [7,14,15] .done))))))) (Plan.then_ [] (.two 3 9 (Plan.then_ [9,10,11,12,13,14,15] .done) (Plan.then_ [3,10,11,12,13,14,15] .done))) (Plan.then_ [3,10] (.two 7 11 (Plan.then_ [11,12,13,14,15] .done) (Plan.then_ [12] (.two 7 13 (Plan.then_ [13,14,15] .done) (Plan.then_ [7,14,15] .done))))))) (Plan.then_ [] (.three 3 5 9 (Plan.then_ [] (.two 5 9 (Plan.then_ [9,10,11,12,13,14,15] .done) (Plan.then_ [10] (.two 5 11 (Plan.then_ [11,12,13,14,15] .done) (Plan.then_ [5,12,13,14,15] .done))))) (Plan.then_ [] (.two 3 9 (Plan.then_ [9,10,11,12,13,14,15] .done) (Plan.then_ [3,10,11,12,13,14,15] .done))) (Plan.then_ [3,10] (.two 5 11 (Plan.then_ [11,12,13,14,15] .done) (Plan.then_ [5,12,13,14,15] .done))))) (Plan.then_ [3,10] (.three 5 7 11 (Plan.then_ [] (.two 7 11 (Plan.then_ [11,12,13,14,15] .done) (Plan.then_ [12] (.two 7 13 (Plan.then_ [13,14,15] .done) (Plan.then_ [7,14,15] .done))))) (Plan.then_ [] (.two 5 11 (Plan.then_ [11,12,13,14,15] .done) (Plan.then_ [5,12,13,14,15] .done))) (Plan.then_ [5,12] (.two 7 13 (Plan.then_ [13,14,15] .done) (Plan.then_ [7,14,15] .done))))))) follows (by kernel_rfl) (fun e17 h17=>e17.n=115∧e17.get 2=.one (.ptr (1,32) 0)∧e17.get 3=.one (.ptr (2,48) 0)∧h17.box (1,32)=some [.d (.int .i64 0),.d (.str ByteArray.empty),.d (.str ByteArray.empty),.d (.str ByteArray.empty),.d (.str ByteArray.empty),.d (.int .i64 0),.nil,.d (.str ByteArray.empty),.d (.int .i64 0),.d (.int .i64 0),.d (.str ByteArray.empty),.d (.str ByteArray.empty),.nil,.nil,.d (.str ByteArray.empty),.d (.int .i64 0),.d (.str ByteArray.empty),.d (.int .i64 0),.d (.int .i64 0),.d (.int .i64 0),.d (.str ByteArray.empty),.d (.str ByteArray.empty),.nil,.d (.str ByteArray.empty)]∧h17.box (2,48)=some [.d (.int .i64 step.kind),.d (.str step.table),.d (.str step.other),.d (.str step.column),.d (.str ByteArray.empty),.d (.int .i64 0),.nil,.d (.str step.op),.d (.int .i64 step.value.kind),.d (.int .i64 step.value.int),.d (.str step.value.text),.d (.str ByteArray.empty),.nil,.nil,.d (.str ByteArray.empty),.d (.int .i64 0),.d (.str ByteArray.empty),.d (.int .i64 0),.d (.int .i64 0),.d (.int .i64 0),.d (.str ByteArray.empty),.d (.str ByteArray.empty),.nil,.d (.str ByteArray.empty)]) ?_ ?_
         ·try simp[*,Plan.then_,vcPlan,Z01,Z00,callKind]
          repeat' (first | with_reducible refine And.intro ?_ ?_ | (refine CutK.of ?_;simp[*];done))
         ·rintro e17 h17 ⟨hn17,h17_2,h17_3,hb17_b2,hb17_b3⟩
          try simp[*]
          obtain rfl:=r_ret hm
          exact ret0 (vs:=[_]) (by simp[*];try exact rfl) (by simp[*])
        ·try simp[*]
         refine r_cond hm ?_ ?_<;>clear hm<;>intro hc18 hm
         ·try simp[*]
          refine Wait.cut (Plan.then_ [0,1,2,4] (.two 3 5 (Plan.then_ [5,6,7] .done) (Plan.then_ [3,6,7] .done))) follows (by kernel_rfl) (fun e19 h19=>e19.n=115∧e19.get 2=.one (.ptr (1,32) 0)∧e19.get 3=.one (.ptr (2,48) 0)∧h19.box (1,32)=some [.d (.int .i64 0),.d (.str ByteArray.empty),.d (.str ByteArray.empty),.d (.str ByteArray.empty),.d (.str ByteArray.empty),.d (.int .i64 0),.nil,.d (.str ByteArray.empty),.d (.int .i64 0),.d (.int .i64 0),.d (.str ByteArray.empty),.d (.str ByteArray.empty),.nil,.nil,.d (.str ByteArray.empty),.d (.int .i64 0),.d (.str ByteArray.empty),.d (.int .i64 0),.d (.int .i64 0),.d (.int .i64 0),.d (.str ByteArray.empty),.d (.str ByteArray.empty),.nil,.d (.str ByteArray.empty)]∧h19.box (2,48)=some [.d (.int .i64 step.kind),.d (.str step.table),.d (.str step.other),.d (.str step.column),.d (.str ByteArray.empty),.d (.int .i64 0),.nil,.d (.str ByteArray.empty),.d (.int .i64 0),.d (.int .i64 0),.d (.str ByteArray.empty),.d (.str ByteArray.empty),.nil,.nil,.d (.str ByteArray.empty),.d (.int .i64 0),.d (.str ByteArray.empty),.d (.int .i64 0),.d (.int .i64 0),.d (.int .i64 0),.d (.str ByteArray.empty),.d (.str ByteArray.empty),.nil,.d (.str ByteArray.empty)]) ?_ ?_
          ·try simp[*,Plan.then_,vcPlan,Z01,Z00,callKind]
           repeat' (first | with_reducible refine And.intro ?_ ?_ | (refine CutK.of ?_;simp[*];done))
          ·rintro e19 h19 ⟨hn19,h19_2,h19_3,hb19_b2,hb19_b3⟩
           try simp[*]
           obtain rfl:=r_ret hm
           exact ret0 (vs:=[_]) (by simp[*];try exact rfl) (by simp[*])
         ·try simp[*]
          refine r_cond hm ?_ ?_<;>clear hm<;>intro hc20 hm
          ·try simp[*]
           refine Wait.cut (Plan.then_ [0,2] (.two 1 3 (Plan.then_ [3,4,5] .done) (Plan.then_ [1,4,5] .done))) follows (by kernel_rfl) (fun e21 h21=>e21.n=115∧e21.get 2=.one (.ptr (1,32) 0)∧e21.get 3=.one (.ptr (2,48) 0)∧h21.box (1,32)=some [.d (.int .i64 0),.d (.str ByteArray.empty),.d (.str ByteArray.empty),.d (.str ByteArray.empty),.d (.str ByteArray.empty),.d (.int .i64 0),.nil,.d (.str ByteArray.empty),.d (.int .i64 0),.d (.int .i64 0),.d (.str ByteArray.empty),.d (.str ByteArray.empty),.nil,.nil,.d (.str ByteArray.empty),.d (.int .i64 0),.d (.str ByteArray.empty),.d (.int .i64 0),.d (.int .i64 0),.d (.int .i64 0),.d (.str ByteArray.empty),.d (.str ByteArray.empty),.nil,.d (.str ByteArray.empty)]∧h21.box (2,48)=some [.d (.int .i64 step.kind),.d (.str ByteArray.empty),.d (.str ByteArray.empty),.d (.str ByteArray.empty),.d (.str ByteArray.empty),.d (.int .i64 0),.nil,.d (.str ByteArray.empty),.d (.int .i64 0),.d (.int .i64 0),.d (.str ByteArray.empty),.d (.str step.newTable.name),.d (.sl (step.newTable.cols.map Col.enc)),.d (.sl (step.newTable.pk.map encI)),.d (.str ByteArray.empty),.d (.int .i64 0),.d (.str ByteArray.empty),.d (.int .i64 0),.d (.int .i64 0),.d (.int .i64 0),.d (.str ByteArray.empty),.d (.str ByteArray.empty),.nil,.d (.str ByteArray.empty)]) ?_ ?_
           ·try simp[*,Plan.then_,vcPlan,Z01,Z00,callKind]
            repeat' (first | with_reducible refine And.intro ?_ ?_ | (refine CutK.of ?_;simp[*];done))
           ·rintro e21 h21 ⟨hn21,h21_2,h21_3,hb21_b2,hb21_b3⟩
            try simp[*]
            obtain rfl:=r_ret hm
            exact ret0 (vs:=[_]) (by simp[*];try exact rfl) (by simp[*])
          ·try simp[*]
           refine r_cond hm ?_ ?_<;>clear hm<;>intro hc22 hm
           ·try simp[*]
            refine Wait.cut (Plan.then_ [0,1,2,4] (.two 3 5 (Plan.then_ [5,6,7] .done) (Plan.then_ [3,6,7] .done))) follows (by kernel_rfl) (fun e23 h23=>e23.n=115∧e23.get 2=.one (.ptr (1,32) 0)∧e23.get 3=.one (.ptr (2,48) 0)∧h23.box (1,32)=some [.d (.int .i64 0),.d (.str ByteArray.empty),.d (.str ByteArray.empty),.d (.str ByteArray.empty),.d (.str ByteArray.empty),.d (.int .i64 0),.nil,.d (.str ByteArray.empty),.d (.int .i64 0),.d (.int .i64 0),.d (.str ByteArray.empty),.d (.str ByteArray.empty),.nil,.nil,.d (.str ByteArray.empty),.d (.int .i64 0),.d (.str ByteArray.empty),.d (.int .i64 0),.d (.int .i64 0),.d (.int .i64 0),.d (.str ByteArray.empty),.d (.str ByteArray.empty),.nil,.d (.str ByteArray.empty)]∧h23.box (2,48)=some [.d (.int .i64 step.kind),.d (.str step.table),.d (.str ByteArray.empty),.d (.str step.column),.d (.str ByteArray.empty),.d (.int .i64 0),.d (.sl (step.cols.map encI)),.d (.str ByteArray.empty),.d (.int .i64 0),.d (.int .i64 0),.d (.str ByteArray.empty),.d (.str ByteArray.empty),.nil,.nil,.d (.str ByteArray.empty),.d (.int .i64 0),.d (.str ByteArray.empty),.d (.int .i64 0),.d (.int .i64 0),.d (.int .i64 0),.d (.str ByteArray.empty),.d (.str ByteArray.empty),.nil,.d (.str ByteArray.empty)]) ?_ ?_
            ·try simp[*,Plan.then_,vcPlan,Z01,Z00,callKind]
             repeat' (first | with_reducible refine And.intro ?_ ?_ | (refine CutK.of ?_;simp[*];done))
            ·rintro e23 h23 ⟨hn23,h23_2,h23_3,hb23_b2,hb23_b3⟩
             try simp[*]
             obtain rfl:=r_ret hm
             exact ret0 (vs:=[_]) (by simp[*];try exact rfl) (by simp[*])
           ·try simp[*]
            refine r_cond hm ?_ ?_<;>clear hm<;>intro hc24 hm
            ·try simp[*]
             refine Wait.cut (Plan.then_ [0,2] (.two 1 3 (Plan.then_ [3,4,5] .done) (Plan.then_ [1,4,5] .done))) follows (by kernel_rfl) (fun e25 h25=>e25.n=115∧e25.get 2=.one (.ptr (1,32) 0)∧e25.get 3=.one (.ptr (2,48) 0)∧h25.box (1,32)=some [.d (.int .i64 0),.d (.str ByteArray.empty),.d (.str ByteArray.empty),.d (.str ByteArray.empty),.d (.str ByteArray.empty),.d (.int .i64 0),.nil,.d (.str ByteArray.empty),.d (.int .i64 0),.d (.int .i64 0),.d (.str ByteArray.empty),.d (.str ByteArray.empty),.nil,.nil,.d (.str ByteArray.empty),.d (.int .i64 0),.d (.str ByteArray.empty),.d (.int .i64 0),.d (.int .i64 0),.d (.int .i64 0),.d (.str ByteArray.empty),.d (.str ByteArray.empty),.nil,.d (.str ByteArray.empty)]∧h25.box (2,48)=some [.d (.int .i64 step.kind),.d (.str ByteArray.empty),.d (.str ByteArray.empty),.d (.str ByteArray.empty),.d (.str ByteArray.empty),.d (.int .i64 0),.nil,.d (.str ByteArray.empty),.d (.int .i64 0),.d (.int .i64 0),.d (.str ByteArray.empty),.d (.str ByteArray.empty),.nil,.nil,.d (.str step.cons.table),.d (.int .i64 step.cons.left),.d (.str step.cons.op),.d (.int .i64 step.cons.right),.d (.int .i64 step.cons.value.kind),.d (.int .i64 step.cons.value.int),.d (.str step.cons.value.text),.d (.str ByteArray.empty),.nil,.d (.str ByteArray.empty)]) ?_ ?_
             ·try simp[*,Plan.then_,vcPlan,Z01,Z00,callKind]
              repeat' (first | with_reducible refine And.intro ?_ ?_ | (refine CutK.of ?_;simp[*];done))
             ·rintro e25 h25 ⟨hn25,h25_2,h25_3,hb25_b2,hb25_b3⟩
              try simp[*]
              obtain rfl:=r_ret hm
              exact ret0 (vs:=[_]) (by simp[*];try exact rfl) (by simp[*])
            ·try simp[*]
             refine r_cond hm ?_ ?_<;>clear hm<;>intro hc26 hm
             ·try simp[*]
              refine Wait.cut (Plan.then_ [0,2] (.two 1 3 (Plan.then_ [3,4,5] .done) (Plan.then_ [1,4,5] .done))) follows (by kernel_rfl) (fun e27 h27=>e27.n=115∧e27.get 2=.one (.ptr (1,32) 0)∧e27.get 3=.one (.ptr (2,48) 0)∧h27.box (1,32)=some [.d (.int .i64 0),.d (.str ByteArray.empty),.d (.str ByteArray.empty),.d (.str ByteArray.empty),.d (.str ByteArray.empty),.d (.int .i64 0),.nil,.d (.str ByteArray.empty),.d (.int .i64 0),.d (.int .i64 0),.d (.str ByteArray.empty),.d (.str ByteArray.empty),.nil,.nil,.d (.str ByteArray.empty),.d (.int .i64 0),.d (.str ByteArray.empty),.d (.int .i64 0),.d (.int .i64 0),.d (.int .i64 0),.d (.str ByteArray.empty),.d (.str ByteArray.empty),.nil,.d (.str ByteArray.empty)]∧h27.box (2,48)=some [.d (.int .i64 step.kind),.d (.str ByteArray.empty),.d (.str ByteArray.empty),.d (.str ByteArray.empty),.d (.str ByteArray.empty),.d (.int .i64 0),.nil,.d (.str ByteArray.empty),.d (.int .i64 0),.d (.int .i64 0),.d (.str ByteArray.empty),.d (.str ByteArray.empty),.nil,.nil,.d (.str step.cons.table),.d (.int .i64 step.cons.left),.d (.str step.cons.op),.d (.int .i64 step.cons.right),.d (.int .i64 step.cons.value.kind),.d (.int .i64 step.cons.value.int),.d (.str step.cons.value.text),.d (.str ByteArray.empty),.nil,.d (.str ByteArray.empty)]) ?_ ?_
              ·try simp[*,Plan.then_,vcPlan,Z01,Z00,callKind]
               repeat' (first | with_reducible refine And.intro ?_ ?_ | (refine CutK.of ?_;simp[*];done))
              ·rintro e27 h27 ⟨hn27,h27_2,h27_3,hb27_b2,hb27_b3⟩
               try simp[*]
               obtain rfl:=r_ret hm
               exact ret0 (vs:=[_]) (by simp[*];try exact rfl) (by simp[*])
             ·try simp[*]
              refine r_cond hm ?_ ?_<;>clear hm<;>intro hc28 hm
              ·try simp[*]
               refine Wait.cut (Plan.then_ [0,2] (.two 1 3 (Plan.then_ [3,4,5] .done) (Plan.then_ [1,4,5] .done))) follows (by kernel_rfl) (fun e29 h29=>e29.n=115∧e29.get 2=.one (.ptr (1,32) 0)∧e29.get 3=.one (.ptr (2,48) 0)∧h29.box (1,32)=some [.d (.int .i64 0),.d (.str ByteArray.empty),.d (.str ByteArray.empty),.d (.str ByteArray.empty),.d (.str ByteArray.empty),.d (.int .i64 0),.nil,.d (.str ByteArray.empty),.d (.int .i64 0),.d (.int .i64 0),.d (.str ByteArray.empty),.d (.str ByteArray.empty),.nil,.nil,.d (.str ByteArray.empty),.d (.int .i64 0),.d (.str ByteArray.empty),.d (.int .i64 0),.d (.int .i64 0),.d (.int .i64 0),.d (.str ByteArray.empty),.d (.str ByteArray.empty),.nil,.d (.str ByteArray.empty)]∧h29.box (2,48)=some [.d (.int .i64 step.kind),.d (.str ByteArray.empty),.d (.str ByteArray.empty),.d (.str ByteArray.empty),.d (.str ByteArray.empty),.d (.int .i64 0),.nil,.d (.str ByteArray.empty),.d (.int .i64 0),.d (.int .i64 0),.d (.str ByteArray.empty),.d (.str ByteArray.empty),.nil,.nil,.d (.str ByteArray.empty),.d (.int .i64 0),.d (.str ByteArray.empty),.d (.int .i64 0),.d (.int .i64 0),.d (.int .i64 0),.d (.str ByteArray.empty),.d (.str step.fk.table),.d (.sl (step.fk.cols.map encI)),.d (.str step.fk.ref)]) ?_ ?_
               ·try simp[*,Plan.then_,vcPlan,Z01,Z00,callKind]
                repeat' (first | with_reducible refine And.intro ?_ ?_ | (refine CutK.of ?_;simp[*];done))
               ·rintro e29 h29 ⟨hn29,h29_2,h29_3,hb29_b2,hb29_b3⟩
                try simp[*]
                obtain rfl:=r_ret hm
                exact ret0 (vs:=[_]) (by simp[*];try exact rfl) (by simp[*])
              ·try simp[*]
               refine r_cond hm ?_ ?_<;>clear hm<;>intro hc30 hm
               ·try simp[*]
                refine Wait.cut (Plan.then_ [0,2] (.two 1 3 (Plan.then_ [3,4,5] .done) (Plan.then_ [1,4,5] .done))) follows (by kernel_rfl) (fun e31 h31=>e31.n=115∧e31.get 2=.one (.ptr (1,32) 0)∧e31.get 3=.one (.ptr (2,48) 0)∧h31.box (1,32)=some [.d (.int .i64 0),.d (.str ByteArray.empty),.d (.str ByteArray.empty),.d (.str ByteArray.empty),.d (.str ByteArray.empty),.d (.int .i64 0),.nil,.d (.str ByteArray.empty),.d (.int .i64 0),.d (.int .i64 0),.d (.str ByteArray.empty),.d (.str ByteArray.empty),.nil,.nil,.d (.str ByteArray.empty),.d (.int .i64 0),.d (.str ByteArray.empty),.d (.int .i64 0),.d (.int .i64 0),.d (.int .i64 0),.d (.str ByteArray.empty),.d (.str ByteArray.empty),.nil,.d (.str ByteArray.empty)]∧h31.box (2,48)=some [.d (.int .i64 step.kind),.d (.str ByteArray.empty),.d (.str ByteArray.empty),.d (.str ByteArray.empty),.d (.str ByteArray.empty),.d (.int .i64 0),.nil,.d (.str ByteArray.empty),.d (.int .i64 0),.d (.int .i64 0),.d (.str ByteArray.empty),.d (.str ByteArray.empty),.nil,.nil,.d (.str ByteArray.empty),.d (.int .i64 0),.d (.str ByteArray.empty),.d (.int .i64 0),.d (.int .i64 0),.d (.int .i64 0),.d (.str ByteArray.empty),.d (.str step.fk.table),.d (.sl (step.fk.cols.map encI)),.d (.str step.fk.ref)]) ?_ ?_
                ·try simp[*,Plan.then_,vcPlan,Z01,Z00,callKind]
                 repeat' (first | with_reducible refine And.intro ?_ ?_ | (refine CutK.of ?_;simp[*];done))
                ·rintro e31 h31 ⟨hn31,h31_2,h31_3,hb31_b2,hb31_b3⟩
                 try simp[*]
                 obtain rfl:=r_ret hm
                 exact ret0 (vs:=[_]) (by simp[*];try exact rfl) (by simp[*])
               ·try simp[*]
                obtain rfl:=r_ret hm
                exact ret0 (vs:=[_]) (by simp[*];try exact rfl) (by simp[*])
def Z35 (step:Stp):Option Int:=
 (bif decide (step.kind < 1) then (some 3) else (bif decide (16 < step.kind) then (some 3) else (bindK (Z3n step) fun v4=>(bindK (Z57 step v4) fun v5=>(bif !v5 then (some 3) else (some 0))))))
theorem Zba (step:Stp) (r:Int) (hm:Is (Z35 step) r):PSpec Tryz.prog 153 [.agg step.enc] (.one (.d (.int .i64 r))):=by
 unfold Z35 at hm
 refine PSpec.of_vc Tryz.func153 rfl (by kernel_rfl) (n:=18) rfl rfl (by simp) ?_
 try simp[*]
 refine Wait.of (SWP.draw (Plan.then_ [0,1,2,3,4,5,6,7,8,9,10,11,12,13,14] .done) follows (by kernel_rfl) ?_)
 try simp[*,Plan.then_,vcPlan,Z01,Z00,callKind]
 refine Z0b hm ?_ ?_<;>clear hm<;>intro hc2 hm
 ·try simp[*,Plan.then_,vcPlan,Z01,Z00,callKind]
  try refine⟨fun (_:Lab) (_:List C) hl=>hl,?_⟩
  try simp[*,Plan.then_,vcPlan,Z01,Z00,callKind]
  try refine⟨fun (_:Lab) (_:List C) hl=>hl,?_⟩
  try simp[*,Plan.then_,vcPlan,Z01,Z00,callKind]
  obtain rfl:=r_ret hm
  exact ret0 (vs:=[_]) (by simp[*];try exact rfl) (by simp[*])
 ·try simp[*,Plan.then_,vcPlan,Z01,Z00,callKind]
  refine Z0b hm ?_ ?_<;>clear hm<;>intro hc3 hm
  ·try simp[*,Plan.then_,vcPlan,Z01,Z00,callKind]
   try refine⟨fun (_:Lab) (_:List C) hl=>hl,?_⟩
   try simp[*,Plan.then_,vcPlan,Z01,Z00,callKind]
   try refine⟨fun (_:Lab) (_:List C) hl=>hl,?_⟩
   try simp[*,Plan.then_,vcPlan,Z01,Z00,callKind]
   obtain rfl:=r_ret hm
   exact ret0 (vs:=[_]) (by simp[*];try exact rfl) (by simp[*])
  ·try simp[*,Plan.then_,vcPlan,Z01,Z00,callKind]
   refine r_call (av:=[.agg step.enc]) hm (fun v hv=>Za4 _ v hv) (by simp[*]) ?_
   clear hm;intro v4 hvv4 hm
   try simp[*,Plan.then_,vcPlan,Z01,Z00,callKind]
   try refine⟨fun (_:Lab) (_:List C) hl=>hl,?_⟩
   refine r_call (av:=[.agg step.enc,.agg v4.enc]) hm (fun v hv=>Zd5 _ _ v hv) (by simp[*]) ?_
   clear hm;intro v5 hvv5 hm
   try simp[*,Plan.then_,vcPlan,Z01,Z00,callKind]
   try refine⟨fun (_:Lab) (_:List C) hl=>hl,?_⟩
   refine r_cond hm ?_ ?_<;>clear hm<;>intro hc6 hm
   ·try simp[*]
    obtain rfl:=r_ret hm
    exact ret0 (vs:=[_]) (by simp[*];try exact rfl) (by simp[*])
   ·try simp[*]
    obtain rfl:=r_ret hm
    exact ret0 (vs:=[_]) (by simp[*];try exact rfl) (by simp[*])
end Go.Proofs.YthgepknlibmjcaaGreat
end
section
namespace Go.Proofs.YthgepknlibmjcaaGreat
open Go Go.Am
def schZ:Sch:=⟨[],[],[]⟩
def Z58 (S:Sch) (x:Stp):Option (Sch × Int):=
 bindK (Z0m S) fun e=>bif e != 0 then some (schZ,e) else bindK (Z35 x) fun e2=>bif e2 != 0 then some (schZ,e2) else
 chkK (schOK S∧stpOK x) (bindK (Z4b S x) fun q=>bif q.2 != 0 then some (schZ,q.2) else bindK (Z0m q.1) fun e3=>bif e3 != 0 then some (schZ,e3) else some (q.1,0))
theorem Zeg {h:HS} {cs:List C} {S:Sch} {r:Int} (hf:FrzCs h cs S.enc):FrzFin h (.tup [.agg cs,.one (.d (.int .i64 r))]) (.tup [.agg (S.enc.map RC.d),.one (.d (.int .i64 r))]):=by
 match cs,hf with
 | [a,b,c],hf=>exact⟨⟨hf.1,hf.2.1,hf.2.2.1,trivial⟩,Frz.data rfl,trivial⟩
set_option maxHeartbeats 1000000 in
theorem Z9c (S:Sch) (x:Stp) (r:Sch × Int) (hm:Is (Z58 S x) r):PSpec Tryz.prog 144 [.agg S.enc,.agg x.enc] (.tup [.agg (r.1.enc.map RC.d),.one (.d (.int .i64 r.2))]):=by
 refine PSpec.of_heap ?_
 obtain⟨R,q⟩:=r
 simp only at hm ⊢
 replace hm:=hm.bind
 obtain⟨ev,hev,hm⟩:=hm
 show HSpec _ _ [.agg (S.enc.map C.d),.agg (x.enc.map C.d)] HS.init _
 refine HSpec.good Tryz.func144 rfl (by kernel_rfl) fun hg=>?_
 refine HSpec.of_vc Tryz.func144 rfl (by kernel_rfl) (n:=39) rfl rfl (by simp) ?_
 simp
 refine Z02 (HSpec.of_lend (Z4e S ev hev) ⟨.agg (FrzCs.datas (ds:=S.enc)),trivial⟩ rfl ?_)
 simp
 cases hev0:ev != 0 with
 | true=>
   simp only[hev0,cond_true] at hm
   have e1:=r_ret hm
   simp only[Prod.mk.injEq] at e1
   obtain⟨rfl,rfl⟩:=e1
   simp[hev0,retH,resVs,resV,notTup]
   exact Zeg ⟨.data rfl,.data rfl,.data rfl,trivial⟩
 | false=>
   simp only[hev0,cond_false] at hm
   replace hm:=hm.bind
   obtain⟨e2,he2,hm⟩:=hm
   simp[hev0]
   refine Z02 (HSpec.of_lend (Zba x e2 he2) ⟨.agg (FrzCs.datas (ds:=x.enc)),trivial⟩ rfl ?_)
   simp
   cases he20:e2 != 0 with
   | true=>
     simp only[he20,cond_true] at hm
     have e1:=r_ret hm
     simp only[Prod.mk.injEq] at e1
     obtain⟨rfl,rfl⟩:=e1
     simp[he20,retH,resVs,resV,notTup]
     exact Zeg ⟨.data rfl,.data rfl,.data rfl,trivial⟩
   | false=>
     simp only[he20,cond_false] at hm
     replace hm:=hm.chk
     obtain⟨⟨hS,hx⟩,hm⟩:=hm
     replace hm:=hm.bind
     obtain⟨⟨S1,q1⟩,hm1,hm⟩:=hm
     simp only at hm
     simp[he20]
     refine Z02 (Zf7 _ S hS _ (fun tc fc oc qt qf qo g1 pt pf po nd new hs1=>?_))
     have b4:=hs1.2 (2,64) (by simp) (by simp)
     have b3:=hs1.2 (1,48) (by simp) (by simp)
     have hep1:=hs1.1
     simp at b4 b3 hep1
     simp[b3]
     have hz:Same g1 ((g1.setBox (g1.ep,128) [.nil,.nil,.nil]).next.setBox (g1.ep,128) [tc,fc,oc]) []:=((Same.refl.setBox (.inr (Nat.le_refl _))).next).setBox (.inr (Nat.le_refl _))
     have sB:Sc ((g1.setBox (g1.ep,128) [.nil,.nil,.nil]).next.setBox (g1.ep,128) [tc,fc,oc]) (g1.ep,128) S tc fc oc (plabs tc qt) (plabs fc qf) (plabs oc qo):=by
      refine⟨qt,qf,qo,rfl,rfl,rfl,by simp,pt.frame fun k hk=>hz.2 k (new k (by simp[hk])).2 (by simp),pf.frame fun k hk=>hz.2 k (new k (by simp[hk])).2 (by simp),po.frame fun k hk=>hz.2 k (new k (by simp[hk])).2 (by simp),?_,fun k hk=>?_⟩
      ·rw[List.nodup_cons]
       exact⟨fun hk=>by have:=(new _ hk).2;simp at this,nd⟩
      ·rcases List.mem_cons.1 hk with rfl | hk
       ·simp
       ·have:=(new k hk).2;simp;omega
     have b4B:((g1.setBox (g1.ep,128) [.nil,.nil,.nil]).next.setBox (g1.ep,128) [tc,fc,oc]).box (2,64)=some [.nil,.nil,.nil]:=by simp[b4]
     have hepB:g1.ep < ((g1.setBox (g1.ep,128) [.nil,.nil,.nil]).next.setBox (g1.ep,128) [tc,fc,oc]).ep:=by simp
     have newB:∀ k ∈ (g1.ep,128)::(plabs tc qt++(plabs fc qf++plabs oc qo)),5≤k.1:=fun k hk=>by
      rcases List.mem_cons.1 hk with rfl | hk
      ·exact hep1
      ·have:=(new k hk).1;simpa using this
     refine Z02 (Zcy _ x hx _ (fun cs g2 lx ox ndx nwx hs2 hb2=>?_))
     have s2:=sB.frame hs2
     have b42:g2.box (2,64)=some [.nil,.nil,.nil]:=by rw[hs2.2 _ (by simp;omega) (by simp)];exact b4B
     simp
     refine Z02 (Zcx g2 (g1.ep,128) tc fc oc cs _ _ _ lx S S1 x q1 hm1 s2 ox ⟨ndx,fun k hk=>⟨(nwx k hk).2,fun h9=>by have:=sB.lt k h9;have:=(nwx k hk).1;omega⟩⟩ _ ?_)
     intro g3 ls3 ho3 hs3 hl3
     obtain⟨tc3,fc3,oc3,ta3,fa3,oa3,rfl,s3⟩:=ho3.sc
     have b43:g3.box (2,64)=some [.nil,.nil,.nil]:=by
      rw[hs3.2 _ (by have:=hs2.1;simp at this ⊢;omega) fun h9=>?_]
      ·exact b42
      ·simp only[List.mem_cons,List.mem_append] at h9
       rcases h9 with h9 | h9 | h9
       ·simp at h9
       ·have:=newB (2,64) (by simp only[List.mem_cons,List.mem_append];exact .inr h9);simp at this
       ·have:=(nwx _ h9).1;simp at this;omega
     have hb3:=s3.box
     simp
     cases hq0:q1 != 0 with
     | true=>
       simp only[hq0,cond_true] at hm
       have e1:=r_ret hm
       simp only[Prod.mk.injEq] at e1
       obtain⟨rfl,rfl⟩:=e1
       simp[hq0,b43,retH,resVs,resV,notTup]
       exact Zeg ⟨.data rfl,.data rfl,.data rfl,trivial⟩
     | false=>
       simp only[hq0,cond_false] at hm
       replace hm:=hm.bind
       obtain⟨e3,he3,hm⟩:=hm
       simp[hq0,hb3]
       refine Z02 (HSpec.of_lend (Z4e S1 e3 he3) ⟨.agg s3.frz,trivial⟩ rfl ?_)
       simp
       cases he30:e3 != 0 with
       | true=>
         simp only[he30,cond_true] at hm
         have e1:=r_ret hm
         simp only[Prod.mk.injEq] at e1
         obtain⟨rfl,rfl⟩:=e1
         simp[he30,b43,retH,resVs,resV,notTup]
         exact Zeg ⟨.data rfl,.data rfl,.data rfl,trivial⟩
       | false=>
         simp only[he30,cond_false] at hm
         have e1:=r_ret hm
         simp only[Prod.mk.injEq] at e1
         obtain⟨rfl,rfl⟩:=e1
         simp[he30,b43,hb3,retH,resVs,resV,notTup]
         refine Zeg ((s3.frame2 (lz:=[(2,64)]) (Same.refl.next.setBox (.inl (by simp))) fun k hk h9=>?_).frz)
         simp at hk
         subst hk
         simp only[List.mem_cons] at h9
         rcases h9 with h9 | h9
         ·simp at h9
         ·rcases hl3 _ h9 with h8 | h8
          ·rcases List.mem_append.1 h8 with h8 | h8
           ·have:=newB (2,64) (List.mem_cons_of_mem _ h8);simp at this
           ·have:=(nwx _ h8).1;simp at this;omega
          ·have:=hs2.1;simp at this h8;omega
end Go.Proofs.YthgepknlibmjcaaGreat
end
section
namespace Go.Proofs.YthgepknlibmjcaaGreat
open Go.Am
def Z5n (s_:List Cons):Option (List Cons):=some s_
theorem Z8v (s_:List Cons) (r:List Cons) (hm:Is (Z5n s_) r):PSpec Tryz.prog 123 [.one (.d (.sl (s_.map Cons.enc)))] (.one (.fresh 0 7 (r.map Cons.enc))):=by
 obtain rfl:=r_ret hm
 refine bound1 ⟨_,Tryz.func123,by kernel_rfl,by kernel_rfl⟩ (fun hl=>?_)
 have hxs:∀ x ∈ s_.map Cons.enc,x.length=7:=by
  intro x hx
  obtain⟨y,_,rfl⟩:=List.mem_map.1 hx
  rfl
 generalize s_.map Cons.enc=xs at *
 refine PSpec.of_vc Tryz.func123 rfl (by kernel_rfl) (n:=8) rfl rfl (by simp) ?_
 simp
 refine Zag Z6p rfl (xs:=xs) rfl (fun b hb=>?_)
 cases b with
 | true=>
   have:xs=[]:=Classical.byContradiction fun h=>by simpa using hb h
   subst this
   simp
   exact Z54 (by simpa using GrowsV.nil)
 | false=>
   simp
   refine Zb1 (by simp) ?_
   simp
   refine Zev Z6p (Grows.own (by simp) (by simp) (by simp)) rfl (by decide) (by decide) hxs (by simpa using hl) ?_
   simp
   exact Z54 (by simpa using GrowsV.app (by simp) (by simp) hxs rfl)
def Z6e (s_:List Int):Option (List Int):=some s_
theorem Z8i (s_:List Int) (r:List Int) (hm:Is (Z6e s_) r):PSpec Tryz.prog 125 [.one (.d (.sl (s_.map encI)))] (.one (.fresh 0 1 (r.map encI))):=by
 obtain rfl:=r_ret hm
 refine bound1 ⟨_,Tryz.func125,by kernel_rfl,by kernel_rfl⟩ (fun hl=>?_)
 have hxs:∀ x ∈ s_.map encI,x.length=1:=by
  intro x hx
  obtain⟨y,_,rfl⟩:=List.mem_map.1 hx
  rfl
 generalize s_.map encI=xs at *
 refine PSpec.of_vc Tryz.func125 rfl (by kernel_rfl) (n:=8) rfl rfl (by simp) ?_
 simp
 refine Zag Z8l rfl (xs:=xs) rfl (fun b hb=>?_)
 cases b with
 | true=>
   have:xs=[]:=Classical.byContradiction fun h=>by simpa using hb h
   subst this
   simp
   exact Z54 (by simpa using GrowsV.nil)
 | false=>
   simp
   refine Zb1 (by simp) ?_
   simp
   refine Zev Z8l (Grows.own (by simp) (by simp) (by simp)) rfl (by decide) (by decide) hxs (by simpa using hl) ?_
   simp
   exact Z54 (by simpa using GrowsV.app (by simp) (by simp) hxs rfl)
def Z72 (s_:List Col):Option (List Col):=some s_
theorem Zaq (s_:List Col) (r:List Col) (hm:Is (Z72 s_) r):PSpec Tryz.prog 143 [.one (.d (.sl (s_.map Col.enc)))] (.one (.fresh 0 3 (r.map Col.enc))):=by
 obtain rfl:=r_ret hm
 refine bound1 ⟨_,Tryz.func143,by kernel_rfl,by kernel_rfl⟩ (fun hl=>?_)
 have hxs:∀ x ∈ s_.map Col.enc,x.length=3:=by
  intro x hx
  obtain⟨y,_,rfl⟩:=List.mem_map.1 hx
  rfl
 generalize s_.map Col.enc=xs at *
 refine PSpec.of_vc Tryz.func143 rfl (by kernel_rfl) (n:=8) rfl rfl (by simp) ?_
 simp
 refine Zag Ze0 rfl (xs:=xs) rfl (fun b hb=>?_)
 cases b with
 | true=>
   have:xs=[]:=Classical.byContradiction fun h=>by simpa using hb h
   subst this
   simp
   exact Z54 (by simpa using GrowsV.nil)
 | false=>
   simp
   refine Zb1 (by simp) ?_
   simp
   refine Zev Ze0 (Grows.own (by simp) (by simp) (by simp)) rfl (by decide) (by decide) hxs (by simpa using hl) ?_
   simp
   exact Z54 (by simpa using GrowsV.app (by simp) (by simp) hxs rfl)
def Z60 (t:Tbl):Option Tbl:=
 (bindK (Z72 t.cols) fun v3=>(bindK (Z6e t.pk) fun v4=>(some (Tbl.mk t.name v3 v4))))
theorem Zbv (t:Tbl) (r:Tbl) (hm:Is (Z60 t) r):PSpec Tryz.prog 124 [.agg t.enc] (.agg (r.enc.map RC.d)):=by
 unfold Z60 at hm
 refine PSpec.of_vc Tryz.func124 rfl (by kernel_rfl) (n:=12) rfl rfl (by simp) ?_
 try simp[*]
 refine Wait.of (SWP.draw (Plan.then_ [0,1,2,3,5,6,4,7,8,9] .done) follows (by kernel_rfl) ?_)
 try simp[*,Plan.then_,vcPlan,Z01,Z00,callKind]
 refine r_call (av:=[.one (.d (.sl (t.cols.map Col.enc)))]) hm (fun v hv=>Zaq _ v hv) (by simp[*]) ?_
 clear hm;intro v3 hvv3 hm
 try simp[*,Plan.then_,vcPlan,Z01,Z00,callKind]
 try refine⟨fun (_:Lab) (_:List C) hl=>hl,?_⟩
 refine r_call (av:=[.one (.d (.sl (t.pk.map encI)))]) hm (fun v hv=>Z8i _ v hv) (by simp[*]) ?_
 clear hm;intro v4 hvv4 hm
 try simp[*,Plan.then_,vcPlan,Z01,Z00,callKind]
 try refine⟨fun (_:Lab) (_:List C) hl=>hl,?_⟩
 obtain rfl:=r_ret hm
 exact ret0 (vs:=[_]) (by simp[*];try exact rfl) (by simp[*])
def Z4p (s_:Sch):Option Sch:=
 (bindK (Z5n s_.cons) fun v3=>(forK (fun (i6:Nat) (x6:Tbl) (s6:(List Tbl)) next_6=>(bindK (Z60 x6) fun v8=>(appK2 s6 [v8] fun _=>(next_6 (s6++[v8]))))) (fun (s6:(List Tbl))=>(forK (fun (i12:Nat) (x12:Fk) (s12:(List Fk)) next_12=>(bindK (Z6e x12.cols) fun v14=>(appK2 s12 [(Fk.mk x12.table v14 x12.ref)] fun _=>(next_12 (s12++[(Fk.mk x12.table v14 x12.ref)]))))) (fun (s12:(List Fk))=>(some (Sch.mk s6 s12 v3))) s_.fks 0 [])) s_.tables 0 []))
theorem Zbg (s_:Sch) (r:Sch) (hm:Is (Z4p s_) r):PSpec Tryz.prog 101 [.agg s_.enc] (.agg (r.enc.map RC.d)):=by
 unfold Z4p at hm
 refine PSpec.of_vc Tryz.func101 rfl (by kernel_rfl) (n:=46) rfl rfl (by simp) ?_
 try simp[*]
 refine r_call (av:=[.one (.d (.sl (s_.cons.map Cons.enc)))]) hm (fun v hv=>Z8v _ v hv) (by simp[*]) ?_
 clear hm;intro v3 hvv3 hm
 try simp[*]
 intro hl5
 replace hl5:s_.tables.length≤2097152:=by simpa using hl5
 refine Wait.for (xs:=s_.tables) (s0:=[]) (fun i6 s6 e6 h6=>∃ c6_0 c6_bb4_2:C,(e6.n=46∧e6.get 1=.one (.ptr (0,16) 0)∧e6.get 2=.one (.ptr (1,32) 0)∧e6.get 3=.one (.ptr (3,48) 0)∧e6.get 13=.one (.d (.sl (s_.tables.map Tbl.enc)))∧e6.get 14=.one (.d (.int .i64 (s_.tables.length:Int)))∧e6.get 15=.one (.d (.int .i64 (i6:Int)))∧h6.box (0,16)=some [.d (.sl (s_.tables.map Tbl.enc)),.d (.sl (s_.fks.map Fk.enc)),.d (.sl (s_.cons.map Cons.enc))]∧h6.box (1,32)=some [.nil,.nil,.nil]∧h6.box (3,48)=some [c6_0,.nil,c6_bb4_2]∧Grows h6 3 c6_0 (s6.map Tbl.enc)∧Grows h6 7 c6_bb4_2 (v3.map Cons.enc))∧Apart c6_0 c6_bb4_2) hm ⟨.nil,.own (2,161) (v3.map Cons.enc),by simp (maxDischargeDepth:=20) [*],(by simp)⟩ ?_ ?_
 ·rintro i6 s6 e6 h6 ⟨c6_0,c6_bb4_2,⟨hn6,h6_1,h6_2,h6_3,h6_13,h6_14,h6_15,hb6_b1,hb6_b2,hb6_b4,gc6_0,gc6_bb4_2⟩,apc6_0_c6_bb4_2⟩ hlt6 hm
  have hlc6_0:=gc6_0.list
  have hdc6_0:=gc6_0.toD
  have hac6_0:=gc6_0.toA
  have huc6_0:=gc6_0.useUp_arr
  have hlc6_bb4_2:=gc6_bb4_2.list
  have hdc6_bb4_2:=gc6_bb4_2.toD
  have hac6_bb4_2:=gc6_bb4_2.toA
  have huc6_bb4_2:=gc6_bb4_2.useUp_arr
  have hw6:IntKind.i64.wrap ((i6:Int)+1)=(i6:Int)+1:=IntWalk.i64_in _ (by omega)
  try simp[*]
  refine Wait.of (SWP.draw (Plan.then_ [0,1,2,3,4,5,6,7] .done) follows (by kernel_rfl) ?_)
  try simp[*,Plan.then_,vcPlan,Z01,Z00,callKind]
  refine r_call (av:=[.agg (s_.tables[i6]).enc]) hm (fun v hv=>Zbv _ v hv) (by simp[*]) ?_
  clear hm;intro v8 hvv8 hm
  try simp[*,Plan.then_,vcPlan,Z01,Z00,callKind]
  try refine⟨fun (_:Lab) (_:List C) hl=>hl,?_⟩
  refine r_app (xs:=s6) (ys:=[v8]) (enc:=Tbl.enc) hm Zaa (by first | exact Grows.nil | (simp (maxDischargeDepth:=20) [*];done) | (simp (maxDischargeDepth:=20) [*];refine⟨?_,by omega⟩;intro hq;subst hq;simp at hz2<;>omega)) (by simp[*]) (by decide) (by decide) (fun _=>rfl) ?_
  clear hm;intro hl10 hm g9
  try simp[*,Plan.then_,vcPlan,Z01,Z00,callKind]
  exact BackF.of (s6++[v8]) ⟨⟨.own (h6.ep+3,384) ((s6++[v8]).map Tbl.enc),c6_bb4_2,by simp (maxDischargeDepth:=20) [*],(by first | (simp[*];done) | exact gc6_bb4_2.apart (by simp))⟩,hm⟩
 ·rintro s6 e6 h6 ⟨c6_0,c6_bb4_2,⟨hn6,h6_1,h6_2,h6_3,h6_13,h6_14,h6_15,hb6_b1,hb6_b2,hb6_b4,gc6_0,gc6_bb4_2⟩,apc6_0_c6_bb4_2⟩ hm
  have hlc6_0:=gc6_0.list
  have hdc6_0:=gc6_0.toD
  have hac6_0:=gc6_0.toA
  have huc6_0:=gc6_0.useUp_arr
  have hlc6_bb4_2:=gc6_bb4_2.list
  have hdc6_bb4_2:=gc6_bb4_2.toD
  have hac6_bb4_2:=gc6_bb4_2.toA
  have huc6_bb4_2:=gc6_bb4_2.useUp_arr
  try simp[*]
  intro hl11
  replace hl11:s_.fks.length≤2097152:=by simpa using hl11
  refine Wait.for (xs:=s_.fks) (s0:=[]) (fun i12 s12 e12 h12=>∃ c12_bb4_0 c12_0 c12_bb4_2:C,(e12.n=46∧e12.get 2=.one (.ptr (1,32) 0)∧e12.get 3=.one (.ptr (3,48) 0)∧e12.get 28=.one (.d (.sl (s_.fks.map Fk.enc)))∧e12.get 29=.one (.d (.int .i64 (s_.fks.length:Int)))∧e12.get 30=.one (.d (.int .i64 (i12:Int)))∧h12.box (1,32)=some [.nil,.nil,.nil]∧h12.box (3,48)=some [c12_bb4_0,c12_0,c12_bb4_2]∧Grows h12 3 c12_bb4_0 (s6.map Tbl.enc)∧Grows h12 3 c12_0 (s12.map Fk.enc)∧Grows h12 7 c12_bb4_2 (v3.map Cons.enc))∧Apart c12_bb4_0 c12_0∧Apart c12_bb4_0 c12_bb4_2∧Apart c12_0 c12_bb4_2) hm ⟨c6_0,.nil,c6_bb4_2,by simp (maxDischargeDepth:=20) [*],(by simp),(by first | assumption | exact Apart.symm (by assumption)),(by simp)⟩ ?_ ?_
  ·rintro i12 s12 e12 h12 ⟨c12_bb4_0,c12_0,c12_bb4_2,⟨hn12,h12_2,h12_3,h12_28,h12_29,h12_30,hb12_b2,hb12_b4,gc12_bb4_0,gc12_0,gc12_bb4_2⟩,apc12_bb4_0_c12_0,apc12_bb4_0_c12_bb4_2,apc12_0_c12_bb4_2⟩ hlt12 hm
   have hlc12_bb4_0:=gc12_bb4_0.list
   have hdc12_bb4_0:=gc12_bb4_0.toD
   have hac12_bb4_0:=gc12_bb4_0.toA
   have huc12_bb4_0:=gc12_bb4_0.useUp_arr
   have hlc12_0:=gc12_0.list
   have hdc12_0:=gc12_0.toD
   have hac12_0:=gc12_0.toA
   have huc12_0:=gc12_0.useUp_arr
   have hlc12_bb4_2:=gc12_bb4_2.list
   have hdc12_bb4_2:=gc12_bb4_2.toD
   have hac12_bb4_2:=gc12_bb4_2.toA
   have huc12_bb4_2:=gc12_bb4_2.useUp_arr
   have hw12:IntKind.i64.wrap ((i12:Int)+1)=(i12:Int)+1:=IntWalk.i64_in _ (by omega)
   try simp[*]
   refine r_call (av:=[.one (.d (.sl ((s_.fks[i12].cols).map encI)))]) hm (fun v hv=>Z8i _ v hv) (by simp[*]) ?_
   clear hm;intro v14 hvv14 hm
   try simp[*]
   refine r_app (xs:=s12) (ys:=[(Fk.mk s_.fks[i12].table v14 s_.fks[i12].ref)]) (enc:=Fk.enc) hm Z8m (by first | exact Grows.nil | (simp (maxDischargeDepth:=20) [*];done) | (simp (maxDischargeDepth:=20) [*];refine⟨?_,by omega⟩;intro hq;subst hq;simp at hz2<;>omega)) (by simp[*]) (by decide) (by decide) (fun _=>rfl) ?_
   clear hm;intro hl16 hm g15
   try simp[*]
   exact BackF.of (s12++[(Fk.mk s_.fks[i12].table v14 s_.fks[i12].ref)]) ⟨⟨c12_bb4_0,.own (h12.ep+3,672) ((s12++[(Fk.mk s_.fks[i12].table v14 s_.fks[i12].ref)]).map Fk.enc),c12_bb4_2,by simp (maxDischargeDepth:=20) [*],(by first | (simp[*];done) | exact (gc12_bb4_0.apart (by simp)).symm),(by first | assumption | exact Apart.symm (by assumption)),(by first | (simp[*];done) | exact gc12_bb4_2.apart (by simp))⟩,hm⟩
  ·rintro s12 e12 h12 ⟨c12_bb4_0,c12_0,c12_bb4_2,⟨hn12,h12_2,h12_3,h12_28,h12_29,h12_30,hb12_b2,hb12_b4,gc12_bb4_0,gc12_0,gc12_bb4_2⟩,apc12_bb4_0_c12_0,apc12_bb4_0_c12_bb4_2,apc12_0_c12_bb4_2⟩ hm
   have hlc12_bb4_0:=gc12_bb4_0.list
   have hdc12_bb4_0:=gc12_bb4_0.toD
   have hac12_bb4_0:=gc12_bb4_0.toA
   have huc12_bb4_0:=gc12_bb4_0.useUp_arr
   have hlc12_0:=gc12_0.list
   have hdc12_0:=gc12_0.toD
   have hac12_0:=gc12_0.toA
   have huc12_0:=gc12_0.useUp_arr
   have hlc12_bb4_2:=gc12_bb4_2.list
   have hdc12_bb4_2:=gc12_bb4_2.toD
   have hac12_bb4_2:=gc12_bb4_2.toA
   have huc12_bb4_2:=gc12_bb4_2.useUp_arr
   try simp[*]
   obtain rfl:=r_ret hm
   exact ret0 (vs:=[_]) (by simp[*];try exact rfl) (by simp[*])
end Go.Proofs.YthgepknlibmjcaaGreat
end
section
namespace Go.Proofs.YthgepknlibmjcaaGreat
open Go Go.Am
theorem Zml {α β:Type} {xs:List α} {f:α→β} {Q:List β→Prop} {ρ:Type} {R:ρ→Prop} {body:Nat→α→List β→(List β→Option ρ)→Option ρ} {k:List β→Option ρ} (hl:xs.length≤1048576)
  (hb:∀ i x s next,s.length < 1048576→Wp (next (s++[f x])) R→Wp (body i x s next) R) (hk:Wp (k (xs.map f)) R):Wp (forK body k xs 0 []) R:=by
 refine Wp.for (fun i s=>s=(xs.take i).map f) (by simp) ?_ ?_
 ·intro i x s next hx hm hI hn
  have hi:=(List.getElem?_eq_some_iff.1 hx).1
  subst hI
  refine hb i x _ next (by simp;omega) (hn _ ?_)
  rw[List.take_add_one,hx]
  simp
 ·intro s hs
  rw[hs,List.take_length]
  exact hk
theorem Zbb (S:Sch) (h1:S.tables.length≤1048576) (h2:S.fks.length≤1048576):Wp (Z4p S) fun r=>r=S:=by
 unfold Z4p
 refine Wp.bind (R:=fun r=>r=S.cons) (Wp.ret rfl) fun o _ ho=>?_
 subst ho
 refine Zml (f:=id) (Q:=fun _=>True) h1 ?_ ?_
 ·intro i x s next hs hn
  refine Wp.bind (R:=fun r=>r=x) (Wp.ret (by cases x;rfl)) fun y _ hy=>?_
  subst hy
  exact Wp.app (by simp;omega) hn
 ·refine Zml (f:=id) (Q:=fun _=>True) h2 ?_ ?_
  ·intro i x s next hs hn
   refine Wp.bind (R:=fun r=>r=x.cols) (Wp.ret rfl) fun y _ hy=>?_
   subst hy
   exact Wp.app (by simp;omega) (by cases x;exact hn)
  ·exact Wp.ret (by cases S;simp)
theorem Zbe (a b:List Col):Wp (Z20 a b) fun _=>True:=by
 unfold Z20
 refine Wp.cond (fun _=>Wp.ret trivial) fun h=>?_
 have hl:a.length=b.length:=by simp at h;omega
 refine Wp.for (fun _ _=>True) trivial (fun i x s next hx _ _ hn=>?_) fun _ _=>Wp.ret trivial
 have hi:=(List.getElem?_eq_some_iff.1 hx).1
 exact Wp.get (by omega) (by omega) fun _ _ _=>Wp.cond (fun _=>Wp.ret trivial) fun _=>hn () trivial
theorem Zfw (a b:Tbl):Wp (Z34 a b) fun _=>True:=by
 unfold Z34 Z42
 refine Wp.bind (R:=fun _=>True) (Wp.cond (fun _=>Wp.bind (Zbe _ _) fun _ _ _=>Wp.cond (fun _=>Wp.bind (Z7u _ _) fun _ _ _=>Wp.ret trivial) fun _=>Wp.ret trivial) fun _=>Wp.ret trivial) fun _ _ _=>Wp.ret trivial
theorem Zb4 (x:Stp):Wp (Z35 x) fun _=>True:=by
 unfold Z35
 refine Wp.cond (fun _=>Wp.ret trivial) fun _=>Wp.cond (fun _=>Wp.ret trivial) fun _=>Wp.bind (R:=fun _=>True) ?_ fun y _ _=>Wp.bind (R:=fun _=>True) ?_ fun _ _ _=>Wp.cond (fun _=>Wp.ret trivial) fun _=>Wp.ret trivial
 ·unfold Z3n
  repeat' first | exact Wp.ret trivial | refine Wp.cond (fun _=>?_) fun _=>?_
 ·unfold Z57
  repeat' first | exact Wp.ret trivial | refine Wp.bind (Z7u _ _) fun _ _ _=>?_ | refine Wp.bind (Zfw _ _) fun _ _ _=>?_ | refine Wp.bind (Z3s _ _) fun _ _ _=>?_ | refine Wp.cond (fun _=>?_) fun _=>?_
theorem Zdu (xs:List Int) (v:Int):Wp (Z2v xs v) fun k=>(k=-1∧v ∉ xs)∨(0≤k∧k < xs.length∧v ∈ xs):=by
 unfold Z2v
 refine Wp.for (fun i _=>∀ (j:Nat) (y:Int),j < i→xs[j]?=some y→y≠v) (by intro j y h;omega) ?_ ?_
 ·intro i x s next hx hm hI hn
  have hi:=(List.getElem?_eq_some_iff.1 hx).1
  refine Wp.cond (fun h=>Wp.ret (.inr ⟨by omega,by omega,?_⟩)) fun h=>hn () (Z33 hI hx ?_)
  ·have:v=x:=by simpa using h
   rw[this];exact hm
  ·intro h0
   simp[h0] at h
 ·intro s hI
  exact Wp.ret (.inl ⟨rfl,fun hv=>Z5x hI v hv rfl⟩)
theorem Z4o (xs:List Int) (v:Int):Wp (Z09 xs v) fun b=>b=true↔v ∈ xs:=by
 unfold Z09
 refine Wp.bind (Zdu xs v) fun k _ hk=>Wp.ret ?_
 rcases hk with ⟨rfl,h⟩ | ⟨h1,_,h⟩
 ·simp[h]
 ·simp[h,h1]
theorem Zds (a b:List Int) (hl:a.length≤2097152):Wp (Z1x a b) fun _=>True:=by
 unfold Z1x
 refine Wp.for (fun i s=>0≤s∧s≤i) (by simp) ?_ ?_
 ·rintro i x s next hx hm ⟨h0,h1⟩ hn
  have hi:=(List.getElem?_eq_some_iff.1 hx).1
  refine Wp.bind (Z4o _ _) fun _ _ _=>Wp.cond (fun _=>Wp.chk ⟨by omega,by omega⟩ (hn _ ⟨by omega,by omega⟩)) fun _=>hn _ ⟨h0,by omega⟩
 ·intro s _
  exact Wp.cond (fun _=>Wp.ret trivial) fun _=>Wp.cond (fun _=>Wp.ret trivial) fun _=>Wp.ret trivial
theorem Zdh (S:Sch) (c:Cons):Wp (Z2c S c) fun _=>True:=by
 unfold Z2c Z1b
 refine Wp.bind (R:=fun k=>k < S.cons.length) (Wp.for (fun _ _=>True) trivial (fun i x s next hx _ _ hn=>Wp.cond (fun _=>Wp.ret ?_) fun _=>hn () trivial) fun _ _=>Wp.ret (by omega)) fun k _ hk=>Wp.ite (fun _=>Wp.ret trivial) fun h=>Wp.chk (by omega) (Wp.ret trivial)
 have hi:=(List.getElem?_eq_some_iff.1 hx).1
 omega
theorem Z9v (S:Sch) (c:Fk):Wp (Z0q S c) fun q=>q.1.tables=S.tables∧q.1.cons=S.cons∧∀ f ∈ q.1.fks,f ∈ S.fks:=by
 unfold Z0q Z0s
 refine Wp.bind (Wp.index fun x _=>?_) fun k _ hk=>Wp.ite (fun _=>Wp.ret ⟨rfl,rfl,fun _ h=>h⟩) fun h=>Wp.chk (by have:=hk.lt;omega) (Wp.ret ⟨rfl,rfl,fun f hf=>?_⟩)
 ·unfold Z0t
  exact Wp.bind (Z3s _ _) fun _ _ _=>Wp.ret trivial
 ·simp only at hf
  rcases List.mem_append.1 hf with h1 | h1
  ·exact List.mem_of_mem_take h1
  ·exact List.mem_of_mem_drop h1
theorem Z7j (S:Sch) (T:Tbl) (h:S.tables.length < 19):Wp (Z17 S T) fun S'=>S'.fks=S.fks∧S'.cons=S.cons:=by
 unfold Z17
 exact Wp.chk h (Wp.ret ⟨rfl,rfl⟩)
theorem Zfu (S:Sch) (T:Tbl) (h:S.tables.length < 19):Wp (Z3b S T) fun _=>True:=by
 unfold Z3b
 exact Wp.bind (Z2g _ _) fun _ _ _=>Wp.cond (fun _=>Wp.ret trivial) fun _=>Wp.bind (Z7j S T h) fun _ _ _=>Wp.ret trivial
theorem Zfs (S:Sch) (i:Nat) (nm:ByteArray) (h:S.tables.length < 19) (hi:i < S.tables.length):Wp (Z39 S i nm) fun _=>True:=by
 unfold Z39
 refine Wp.bind (Z2g _ _) fun _ _ _=>Wp.cond (fun _=>Wp.ret trivial) fun _=>Wp.get (by omega) (by omega) fun T _ _=>Wp.bind (Z7j _ _ (by simp;omega)) fun S1 _ hS1=>?_
 refine Wp.count (fun _ (S2:Sch)=>S2.fks.length=S1.fks.length) rfl ?_ ?_
 ·intro k S2 next hk hl hn
  refine Wp.get (by omega) (by omega) fun f _ _=>?_
  repeat' first | exact hn _ (by simpa using hl) | refine Wp.cond (fun _=>?_) fun _=>?_
 ·intro S2 _
  refine Wp.count (fun _ (S3:Sch)=>S3.cons.length=S2.cons.length) rfl ?_ fun _ _=>Wp.ret trivial
  intro k S3 next hk hl hn
  refine Wp.get (by omega) (by omega) fun f _ _=>?_
  repeat' first | exact hn _ (by simpa using hl) | refine Wp.cond (fun _=>?_) fun _=>?_
end Go.Proofs.YthgepknlibmjcaaGreat
end
section
namespace Go.Proofs.YthgepknlibmjcaaGreat
open Go Go.Am
theorem LIM_eq:LIM=2097152:=rfl
theorem Zbc (S:Sch) (table:ByteArray) (mr:Int→Option Int) (P:Int→Prop) (hmr:∀ v,P v→Wp (mr v) fun _=>True)
  (hf:∀ f ∈ S.fks,strEq f.table table=true→∀ v ∈ f.cols,P v) (ho:∀ c ∈ S.cons,strEq c.table table=true→P c.left∧(0≤c.right→P c.right)) :
  Wp (Z10 S table mr) fun S'=>S'.tables=S.tables∧S'.fks.length=S.fks.length∧S'.cons.length=S.cons.length:=by
 unfold Z10
 refine Wp.count (fun i (S1:Sch)=>S1.tables=S.tables∧S1.cons=S.cons∧S1.fks.length=S.fks.length∧∀ j,i≤j→S1.fks[j]?=S.fks[j]?) ⟨rfl,rfl,rfl,fun _ _=>rfl⟩ ?_ ?_
 ·rintro i S1 next hi ⟨h1,h2,h3,h4⟩ hn
  unfold Zj2
  refine Wp.get (by omega) (by omega) fun f hfx _=>?_
  have hfx':S.fks[i]?=some f:=by rw[← h4 i (Nat.le_refl _),← hfx];congr 1
  refine Wp.cond (fun hst=>?_) fun _=>hn _ ⟨h1,h2,h3,fun j hj=>h4 j (by omega)⟩
  have hP:=hf f (List.mem_of_getElem? hfx') hst
  refine Wp.count (fun k (S2:Sch)=>S2.tables=S.tables∧S2.cons=S.cons∧S2.fks.length=S.fks.length∧(∀ j,i+1≤j→S2.fks[j]?=S.fks[j]?)∧∃ f',S2.fks[i]?=some f'∧f'.cols.length=f.cols.length∧∀ j,k≤j→f'.cols[j]?=f.cols[j]?)
   ⟨h1,h2,h3,fun j hj=>h4 j (by omega),f,by rw[← hfx];congr 1,rfl,fun _ _=>rfl⟩ ?_ ?_
  ·rintro k S2 next2 hk ⟨g1,g2,g3,g4,f',g5,g6,g7⟩ hn2
   refine Wp.getN g5 (Wp.get (by omega) (by omega) fun v hv _=>?_)
   have hv':f.cols[k]?=some v:=by rw[← g7 k (Nat.le_refl _),← hv];congr 1
   refine Wp.bind (hmr v (hP v (List.mem_of_getElem? hv'))) fun w _ _=>hn2 _ ⟨g1,g2,by simpa using g3,fun j hj=>?_,⟨f'.table,f'.cols.set k w,f'.ref⟩,?_,by simpa using g6,fun j hj=>?_⟩
   ·rw[List.getElem?_set_ne (by omega)];exact g4 j hj
   ·rw[List.getElem?_set_self (by omega)]
   ·simp only
    rw[List.getElem?_set_ne (by omega)];exact g7 j (by omega)
  ·rintro S2 ⟨g1,g2,g3,g4,_⟩
   exact hn _ ⟨g1,g2,g3,g4⟩
 ·rintro S1 ⟨h1,h2,h3,_⟩
  refine Wp.count (fun i (S2:Sch)=>S2.tables=S.tables∧S2.fks.length=S.fks.length∧S2.cons.length=S.cons.length∧∀ j,i≤j→S2.cons[j]?=S.cons[j]?) ⟨h1,h3,by rw[h2],fun _ _=>by rw[h2]⟩ ?_ fun S2 h=>Wp.ret ⟨h.1,h.2.1,h.2.2.1⟩
  rintro i S2 next hi ⟨g1,g2,g3,g4⟩ hn
  unfold Zj1
  have hi':i < S.cons.length:=by rw[← h2];exact hi
  refine Wp.get (by omega) (by omega) fun c hc _=>?_
  have hc':S.cons[i]?=some c:=by rw[← g4 i (Nat.le_refl _),← hc];congr 1
  refine Wp.cond (fun _=>hn _ ⟨g1,g2,g3,fun j hj=>g4 j (by omega)⟩) fun hst=>?_
  have hP:=ho c (List.mem_of_getElem? hc') (by simpa using hst)
  have hset:∀ c',∀ j,i+1≤j→(S2.cons.set i c')[j]?=S.cons[j]?:=fun c' j hj=>by rw[List.getElem?_set_ne (by omega)];exact g4 j (by omega)
  refine Wp.bind (hmr _ hP.1) fun v _ _=>Wp.cond (fun h=>Wp.bind (hmr _ (hP.2 (by simpa using h))) fun w _ _=>hn _ ⟨g1,g2,by simpa using g3,hset _⟩) fun _=>hn _ ⟨g1,g2,by simpa using g3,hset _⟩
theorem Z8z (v:Int) (removed:List Int) (h0:0≤v) (h1:v < 2097152) (hl:removed.length≤2097152):Wp (Z0z v removed) fun _=>True:=by
 unfold Z0z
 refine Wp.for (fun i s=>0≤s∧s≤i) (by simp) ?_ ?_
 ·rintro i x s next hx hm ⟨h2,h3⟩ hn
  have hi:=(List.getElem?_eq_some_iff.1 hx).1
  exact Wp.cond (fun _=>Wp.chk ⟨by omega,by omega⟩ (hn _ ⟨by omega,by omega⟩)) fun _=>hn _ ⟨h2,by omega⟩
 ·rintro s ⟨h2,h3⟩
  exact Wp.chk ⟨by omega,by omega⟩ (Wp.ret trivial)
theorem Z7t (S:Sch) (i:Nat) (T:Tbl) (removed:List Int) (hT:S.tables[i]?=some T) (hV:VT T) (hl:removed.length≤2097152)
  (hf:∀ f ∈ S.fks,strEq f.table T.name=true→∀ v ∈ f.cols,0≤v∧v < 6) (ho:∀ c ∈ S.cons,strEq c.table T.name=true→(0≤c.left∧c.left < 6)∧c.right < 6) :
  Wp (Z1d S i removed) fun S'=>S'.tables.length=S.tables.length∧S'.fks.length=S.fks.length∧S'.cons.length=S.cons.length ∧
   ∃ T',S'.tables[i]?=some T'∧T'.cols.length≤T.cols.length∧((∃ k,k < T.cols.length∧(k:Int) ∉ removed)→0 < T'.cols.length):=by
 unfold Z1d
 have hi:=(List.getElem?_eq_some_iff.1 hT).1
 refine Wp.getN hT ?_
 refine Wp.for (fun k (s:List Col)=>s.length≤k∧((∃ j,j < k∧(j:Int) ∉ removed)→0 < s.length)) ⟨by simp,by rintro⟨j,h,_⟩;omega⟩ ?_ ?_
 ·rintro k c s next hx hm ⟨h1,h2⟩ hn
  unfold Zhb
  refine Wp.bind (Z4o _ _) fun b _ hb=>Wp.cond (fun h=>hn _ ⟨by simp;omega,fun _=>by simp⟩) fun h=>hn _ ⟨by omega,?_⟩
  rintro⟨j,hj,hr⟩
  refine h2 ⟨j,?_,hr⟩
  rcases Nat.lt_or_ge j k with h3 | h3
  ·exact h3
  ·obtain rfl:j=k:=by omega
   exact absurd (hb.1 (by simpa using h)) hr
 ·rintro cols ⟨h1,h2⟩
  refine Wp.count (fun k (S1:Sch)=>S1.fks=S.fks∧S1.cons=S.cons∧S1.tables.length=S.tables.length∧∃ T',S1.tables[i]?=some T'∧T'.name=T.name∧T'.pk.length=T.pk.length∧∀ j,k≤j→T'.pk[j]?=T.pk[j]?) ⟨rfl,rfl,rfl,T,hT,rfl,rfl,fun _ _=>rfl⟩ ?_ ?_
  ·rintro k S1 next hk ⟨g1,g2,g3,T',g4,g5,g6,g7⟩ hn
   unfold Zha
   refine Wp.getN g4 (Wp.get (by omega) (by omega) fun v hv _=>?_)
   have hv':T.pk[k]?=some v:=by rw[← g7 k (Nat.le_refl _),← hv];congr 1
   have hp:=hV.pk v (List.mem_of_getElem? hv')
   have h6:=hV.cols6
   refine Wp.bind (Z8z v removed hp.1 (by omega) hl) fun w _ _=>hn _ ⟨g1,g2,by simpa using g3,_,List.getElem?_set_self (by omega),g5,by simpa using g6,fun j hj=>?_⟩
   simp only
   rw[List.getElem?_set_ne (by omega)];exact g7 j (by omega)
  ·rintro S1 ⟨g1,g2,g3,T',g4,g5,g6,_⟩
   refine Wp.getN g4 (Wp.bind (Zbc _ _ _ (fun v=>0≤v∧v < 6) (fun v hv=>Z8z v removed hv.1 (by omega) hl) ?_ ?_) fun S2 _ hS2=>Wp.ret ?_)
   ·simp only[g1,g5];exact hf
   ·simp only[g2,g5];exact fun c hc he=>⟨(ho c hc he).1,fun h=>⟨h,(ho c hc he).2⟩⟩
   ·obtain⟨k1,k2,k3⟩:=hS2
    refine⟨by rw[k1];simpa using g3,by rw[k2];simp[g1],by rw[k3];simp[g2],{ T' with cols:=cols },by rw[k1];exact List.getElem?_set_self (by omega),h1,fun h=>h2 h⟩
theorem Zby (S:Sch) (T:Tbl) (v:Int):Wp (Z1m S T v) fun e=>e=0→v ∉ T.pk:=by
 unfold Z1m Z0k Z18
 refine Wp.bind (Z4o _ _) fun b _ hb=>Wp.cond (fun _=>Wp.ret (by simp)) fun h1=>?_
 have hn:v ∉ T.pk:=fun h=>by rw[hb.2 h] at h1;cases h1
 refine Wp.bind (Z3f _ _ fun x _=>?_) fun _ _ _=>Wp.cond (fun _=>Wp.ret (by simp)) fun _=>Wp.bind (R:=fun _=>True) (Wp.bind (Wp.index fun x _=>?_) fun _ _ _=>Wp.ret trivial) fun _ _ _=>Wp.cond (fun _=>Wp.ret (by simp)) fun _=>Wp.ret fun _=>hn
 ·unfold Z2q
  exact Wp.cond (fun _=>Wp.bind (Z4o _ _) fun _ _ _=>Wp.ret trivial) fun _=>Wp.ret trivial
 ·unfold Z2p
  exact Wp.cond (fun _=>Wp.cond (fun _=>Wp.ret trivial) fun _=>Wp.ret trivial) fun _=>Wp.ret trivial
theorem Zbd (v:GV) (c:Col):Wp (Z1g v c) fun _=>True:=by
 unfold Z1g
 refine Wp.bind (Z32 _) fun _ _ _=>?_
 repeat' first | exact Wp.ret trivial | refine Wp.cond (fun _=>?_) fun _=>?_
section
variable {S:Sch} {i:Nat} {T:Tbl}
theorem Zhu (x:Stp) (hT:S.tables[i]?=some T) (hV:VT T):Wp (Z3w S i x) fun _=>True:=by
 unfold Z3w
 have h1:=hV.cols0
 have h2:=hV.cols6
 exact Wp.bind (Zbd _ _) fun _ _ _=>Wp.cond (fun _=>Wp.ret trivial) fun _=>Wp.getN hT (Wp.chk ⟨h1,by have:=LIM_eq;omega⟩ (Wp.ret trivial))
theorem VS.hf (h:VS S) (nm:ByteArray):∀ f ∈ S.fks,strEq f.table nm=true→∀ v ∈ f.cols,0≤v∧v < 6:=fun f hf _=>(h.fk f hf).2
theorem VS.ho (h:VS S) (nm:ByteArray):∀ c ∈ S.cons,strEq c.table nm=true→(0≤c.left∧c.left < 6)∧c.right < 6:=fun c hc _=>⟨(h.con c hc).1,(h.con c hc).2.2⟩
theorem Zfv (x:Stp) (hT:S.tables[i]?=some T) (hS:VS S):Wp (Z3c S i x) fun _=>True:=by
 unfold Z3c
 have hV:=hS.tab T (List.mem_of_getElem? hT)
 refine Wp.getN hT (Wp.bind (Z8c _ _) fun r _ hr=>Wp.cond (fun _=>Wp.ret trivial) fun h=>?_)
 have h':r.2=true:=by simpa using h
 have hr1:=hr.2.1 h'
 refine Wp.cond (fun _=>Wp.bind (Z8c _ _) fun _ _ _=>Wp.cond (fun _=>Wp.ret trivial) fun _=>Wp.get hr.1 hr1 fun _ _ _=>Wp.ret trivial) fun _=>?_
 refine Wp.bind (Zby _ _ _) fun _ _ _=>Wp.cond (fun _=>Wp.ret trivial) fun _=>Wp.cond (fun _=>Wp.get hr.1 hr1 fun _ _ _=>Wp.ret trivial) fun _=>Wp.get hr.1 hr1 fun _ _ _=>?_
 exact Wp.bind (Zbd _ _) fun _ _ _=>Wp.cond (fun _=>Wp.ret trivial) fun _=>Wp.bind (Z7t S i T [r.1] hT hV (by simp) (hS.hf _) (hS.ho _)) fun _ _ _=>Wp.ret trivial
theorem Zdt (x:Stp) (hT:S.tables[i]?=some T) (hS:VS S):Wp (Z2o S i x) fun _=>True:=by
 unfold Z2o
 have hV:=hS.tab T (List.mem_of_getElem? hT)
 refine Wp.getN hT (Wp.cond (fun _=>Wp.ret trivial) fun h1=>?_)
 have hl:x.cols.length=2:=by simp at h1;omega
 obtain⟨a,b,hab⟩:∃ a b,x.cols=[a,b]:=by
  match x.cols,hl with
  | [a,b],_=>exact⟨a,b,rfl⟩
 rw[hab]
 refine Wp.get (by omega) (by simp) fun a' ha _=>Wp.cond (fun _=>Wp.ret trivial) fun h2=>Wp.get (by omega) (by simp) fun b' hb _=>Wp.cond (fun _=>Wp.ret trivial) fun h3=>Wp.cond (fun _=>Wp.ret trivial) fun h4=>?_
 simp at ha hb h2 h3 h4
 subst ha hb
 refine Wp.for (fun _ _=>True) trivial ?_ fun nul _=>?_
 ·intro j col s next hx hm _ hn
  have hc:col=a∨col=b:=by simpa using hm
  exact Wp.get (by omega) (by omega) fun _ _ _=>Wp.cond (fun _=>Wp.ret trivial) fun _=>hn _ trivial
 refine Wp.for (fun i _=>∀ (j:Nat) (y:Int),j < i→([a,b]:List Int)[j]?=some y→y ∉ T.pk) (by intro j y h;omega) ?_ fun s hI=>?_
 ·intro j col s next hx hm hI hn
  exact Wp.bind (Zby _ _ _) fun e _ he=>Wp.cond (fun _=>Wp.ret trivial) fun h=>hn () (Z33 hI hx (he (by simpa using h)))
 ·have hU:=Z5x hI
  refine Wp.bind (Z7t S i T [a,b] hT hV (by simp) (hS.hf _) (hS.ho _)) fun S1 _ hS1=>?_
  obtain⟨_,_,_,T1,hT1,hc1,hc2⟩:=hS1
  have h6:=hV.cols6
  refine Wp.getN hT1 (Wp.chk ⟨hc2 ?_,by have:=LIM_eq;omega⟩ (Wp.ret trivial))
  have hp0:=hV.pk0
  have hp:=hV.pk _ (List.getElem_mem hp0)
  refine⟨(T.pk[0]).toNat,by omega,fun hin=>?_⟩
  rw[show (((T.pk[0]).toNat:Nat):Int)=T.pk[0] by omega] at hin
  exact hU _ hin (List.getElem_mem hp0)
theorem Zhs (nm:ByteArray):Wp (Z3v S nm) fun _=>True:=by
 unfold Z3v
 refine Wp.bind (Z3f _ _ fun x _=>?_) fun _ _ _=>Wp.ite (fun _=>Wp.ret trivial) fun _=>Wp.ret trivial
 unfold Z27
 exact Wp.cond (fun _=>Wp.ret trivial) fun _=>Wp.ret trivial
end
end Go.Proofs.YthgepknlibmjcaaGreat
end
section
namespace Go.Proofs.YthgepknlibmjcaaGreat
open Go Go.Am
theorem Zlr {a b:ByteArray}:strEq a b=strEq b a:=by
 unfold strEq
 first | exact Bool.beq_comm | exact BEq.comm | exact decide_eq_decide.2 eq_comm
section
variable {S:Sch} {i:Nat} {T:Tbl}
theorem Zgt (x:Stp) (hl:x.cols.length≤1048576):Wp (Z2e S T x) fun e=>e=0→(∀ v ∈ x.cols,0≤v∧v < T.cols.length)∧∀ t ∈ S.tables,strEq t.name x.other=false:=by
 have hL:=LIM_eq
 unfold Z2e
 refine Wp.for (fun i _=>∀ (j:Nat) (y:Int),j < i→x.cols[j]?=some y→0≤y∧y < T.cols.length) (by intro j y h;omega) ?_ ?_
 ·intro i y s next hx hm hI hn
  have hi:=(List.getElem?_eq_some_iff.1 hx).1
  refine Wp.cond (fun _=>Wp.ret (by simp)) fun h1=>Wp.cond (fun _=>Wp.ret (by simp)) fun h2=>?_
  have hnx:=Z33 hI hx ⟨by simpa using h1,by simpa using h2⟩
  refine Wp.cond (fun h3=>?_) fun _=>hn () hnx
  have h3':0 < i:=by simpa using h3
  exact Wp.chk ⟨by omega,by omega⟩ (Wp.get (by omega) (by omega) fun _ _ _=>Wp.cond (fun _=>Wp.ret (by simp)) fun _=>hn () hnx)
 ·intro s hI
  refine Wp.cond (fun _=>Wp.ret (by simp)) fun _=>Wp.bind (Zds _ _ (by omega)) fun _ _ _=>Wp.cond (fun _=>Wp.ret (by simp)) fun _=>Wp.bind (Z2g _ _) fun v _ hv=>Wp.cond (fun _=>Wp.ret (by simp)) fun h=>Wp.ret fun _=>⟨Z5x hI,hv.2.2 h⟩
theorem Z8k (v n:Int) (x:Stp) (hl:x.cols.length≤1048576) (h0:0≤n) (h6:n≤6):Wp (Z0y v n x) fun _=>True:=by
 have hL:=LIM_eq
 unfold Z0y
 refine Wp.bind (Zdu _ _) fun k _ hk=>Wp.chk ?_ (Wp.ret trivial)
 rcases hk with ⟨rfl,_⟩ | ⟨h1,h2,_⟩
 ·exact⟨by omega,by omega⟩
 ·exact⟨by omega,by omega⟩
def SpF (S:Sch) (other:ByteArray) (S1:Sch):Prop:=S1.tables=S.tables∧S1.cons=S.cons∧S1.fks.length=S.fks.length∧∀ f ∈ S1.fks,f.cols.length≤6∧(f.table=other∨f ∈ S.fks)
theorem Zia {α:Type} {xs:List α} {k:Nat} {a b:α} (h:b ∈ xs.set k a):b ∈ xs∨b=a:=List.mem_or_eq_of_mem_set h
theorem Zgr (x:Stp) (hT:S.tables[i]?=some T) (hS:VS S) (hl:x.cols.length≤1048576):Wp (Z3m S i x) fun _=>True:=by
 have hL:=LIM_eq
 have hV:=hS.tab T (List.mem_of_getElem? hT)
 have hpk:=hV.pk6
 have hc6:=hV.cols6
 unfold Z3m
 refine Wp.getN hT (Wp.bind (Zgt x hl) fun e _ he=>Wp.cond (fun _=>Wp.ret trivial) fun he0=>?_)
 obtain⟨hcol,hoth⟩:=he (by simpa using he0)
 have hne:strEq x.other T.name=false:=by rw[Zlr];exact hoth T (List.mem_of_getElem? hT)
 refine Wp.count (fun _ S1=>SpF S x.other S1) ⟨rfl,rfl,rfl,fun f hf=>⟨(hS.fk f hf).1,.inr hf⟩⟩ ?_ ?_
 ·rintro k S1 next hk ⟨h1,h2,h3,h4⟩ hn
  unfold Ziz
  refine Wp.get (by omega) (by omega) fun f hf hfm=>Wp.cond (fun _=>hn _ ⟨h1,h2,h3,h4⟩) fun _=>?_
  have hf6:=(h4 f hfm).1
  refine Wp.bind (Zds _ _ (by omega)) fun o _ _=>Wp.cond (fun _=>Wp.ret trivial) fun _=>Wp.cond (fun _=>?_) fun _=>hn _ ⟨h1,h2,h3,h4⟩
  refine Wp.count (fun _ S2=>SpF S x.other S2∧∃ f',S2.fks[k]?=some f'∧f'.cols.length=f.cols.length∧f'.table=x.other) ⟨⟨h1,h2,by simpa using h3,?_⟩,⟨x.other,f.cols,f.ref⟩,List.getElem?_set_self (by omega),rfl,rfl⟩ ?_ fun S2 h=>hn _ h.1
  ·intro g hg
   rcases Zia hg with h | rfl
   ·exact h4 g h
   ·exact⟨hf6,.inl rfl⟩
  ·rintro j S2 next2 hj ⟨⟨g1,g2,g3,g4⟩,f',g5,g6,g7⟩ hn2
   unfold Zj0
   refine Wp.getN g5 (Wp.get (by omega) (by omega) fun v _ _=>Wp.bind (Z8k _ _ _ hl (by omega) (by omega)) fun w _ _=>hn2 _ ⟨⟨g1,g2,by simpa using g3,fun g hg=>?_⟩,⟨f'.table,f'.cols.set j w,f'.ref⟩,List.getElem?_set_self (by omega),by simpa using g6,g7⟩)
   rcases Zia hg with h | rfl
   ·exact g4 g h
   ·exact⟨by simp;omega,.inl g7⟩
 rintro S1 ⟨h1,h2,h3,h4⟩
 refine Wp.count (fun _ (S2:Sch)=>S2.tables=S.tables∧S2.fks=S1.fks∧S2.cons.length=S.cons.length∧∀ c ∈ S2.cons,c.table=x.other∨c ∈ S.cons) ⟨h1,rfl,by rw[h2],fun c hc=>.inr (h2 ▸ hc)⟩ ?_ ?_
 ·rintro k S2 next hk ⟨g1,g2,g3,g4⟩ hn
  rw[h2] at hk
  unfold Ziy
  refine Wp.get (by omega) (by omega) fun c hc hcm=>Wp.cond (fun _=>hn _ ⟨g1,g2,g3,g4⟩) fun _=>?_
  refine Wp.bind (R:=fun cc=>cc.length≤2) ?_ fun cc _ hcc=>Wp.bind (Zds _ _ (by omega)) fun o _ _=>Wp.cond (fun _=>Wp.ret trivial) fun _=>Wp.cond (fun _=>?_) fun _=>hn _ ⟨g1,g2,g3,g4⟩
  ·unfold Z1v
   exact Wp.cond (fun _=>Wp.ret (by simp)) fun _=>Wp.ret (by simp)
  ·have hset:∀ c':Cons,c'.table=x.other→∀ d ∈ S2.cons.set k c',d.table=x.other∨d ∈ S.cons:=by
    intro c' hc' d hd
    rcases Zia hd with h | rfl
    ·exact g4 d h
    ·exact .inl hc'
   refine Wp.bind (Z8k _ _ _ hl (by omega) (by omega)) fun v _ _=>Wp.cond (fun _=>Wp.bind (Z8k _ _ _ hl (by omega) (by omega)) fun w _ _=>hn _ ⟨g1,g2,by simpa using g3,hset _ rfl⟩) fun _=>hn _ ⟨g1,g2,by simpa using g3,hset _ rfl⟩
 rintro S2 ⟨g1,g2,g3,g4⟩
 refine Wp.chk ?_ (Wp.for (fun _ _=>True) trivial ?_ ?_)
 ·omega
 ·intro j col s next hx hm _ hn
  unfold Zg9
  have hb:0≤col∧col < T.cols.length:=by
   rcases List.mem_append.1 hm with h | h
   ·exact hV.pk col h
   ·exact hcol col h
  exact Wp.get hb.1 hb.2 fun _ _ _=>hn _ trivial
 ·intro oc _
  unfold Zct
  refine Wp.bind (Z7t S2 i T x.cols (by rw[g1];exact hT) hV (by omega) ?_ ?_) fun S3 _ hS3=>Wp.bind (Z7j S3 _ ?_) fun S4 _ hS4=>Wp.chk ?_ (Wp.ret trivial)
  ·intro f hf hfe
   rw[g2] at hf
   rcases (h4 f hf).2 with h | h
   ·rw[h,hne] at hfe;cases hfe
   ·exact (hS.fk f h).2
  ·intro c hc hce
   rcases g4 c hc with h | h
   ·rw[h,hne] at hce;cases hce
   ·exact⟨(hS.con c h).1,(hS.con c h).2.2⟩
  ·have:=hS.t6;rw[hS3.1,g1];omega
  ·have:=hS.f8;rw[hS4.1,hS3.2.1,g2,h3];omega
end
end Go.Proofs.YthgepknlibmjcaaGreat
end
section
namespace Go.Proofs.YthgepknlibmjcaaGreat
open Go Go.Am
theorem VT.pkle {T:Tbl} (h:VT T):T.pk.length≤T.cols.length:=by
 have:∀ (n:Nat) (v:Int),T.pk[n]?=some v→(n:Int)≤v:=by
  intro n
  induction n with
  | zero=>intro v hv;have:=(h.pk v (List.mem_of_getElem? hv)).1;omega
  | succ n ih=>
    intro v hv
    have hn:=(List.getElem?_eq_some_iff.1 hv).1
    have h1:=ih _ (List.getElem?_eq_getElem (by omega))
    have h2:=h.asc n _ v (List.getElem?_eq_getElem (by omega)) hv
    omega
 have hp:=h.pk0
 have h1:=this (T.pk.length - 1) _ (List.getElem?_eq_getElem (by omega))
 have h2:=(h.pk _ (List.getElem_mem (show T.pk.length - 1 < T.pk.length by omega))).2
 omega
section
variable {S:Sch} {i:Nat} {T:Tbl}
theorem Zf1 (v:Int) (h0:0≤v) (h6:v < 6) (n:Nat) (hn:n=T.pk.length) (m:Nat) (hm:m≤6) (hn6:n≤6):Wp (Z21 v n T m) fun _=>True:=by
 subst hn
 unfold Z21
 refine Wp.cond (fun h=>?_) fun _=>Wp.chk ⟨by omega,by omega⟩ (Wp.chk ⟨by omega,by omega⟩ (Wp.ret trivial))
 exact Wp.get h0 (by simpa using h) fun _ _ _=>Wp.ret trivial
theorem Zgs (nm:ByteArray) (hT:S.tables[i]?=some T) (hS:VS S):Wp (Z3o S i nm) fun _=>True:=by
 have hL:=LIM_eq
 have hV:=hS.tab T (List.mem_of_getElem? hT)
 have hpk:=hV.pk6
 have hc6:=hV.cols6
 have hc0:=hV.cols0
 have hi:=(List.getElem?_eq_some_iff.1 hT).1
 unfold Z3o
 refine Wp.bind (Z2g S nm) fun v _ hv=>Wp.cond (fun _=>Wp.ret trivial) fun hf=>Wp.getN hT (Wp.get hv.1 (hv.2.1 (by simpa using hf)).1 fun O hO hOm=>Wp.cond (fun _=>Wp.ret trivial) fun _=>Wp.bind (Z7u _ _) fun b _ hb=>Wp.cond (fun _=>Wp.ret trivial) fun hb1=>?_)
 have hVO:=hS.tab O hOm
 have hOpk:O.pk=seqI T.pk.length:=hb (by simpa using hb1)
 have hOl:T.pk.length≤O.cols.length:=by
  have:=hVO.pkle
  rw[hOpk] at this
  simpa[seqI] using this
 have hO6:=hVO.cols6
 have hO0:=hVO.cols0
 refine Wp.for (fun _ _=>True) trivial ?_ fun _ _=>?_
 ·intro j col s next hx hm _ hn
  have hj:=(List.getElem?_eq_some_iff.1 hx).1
  have hp:=hV.pk col hm
  unfold Zif
  exact Wp.get hp.1 hp.2 fun _ _ _=>Wp.get (by omega) (by omega) fun _ _ _=>Wp.cond (fun _=>Wp.ret trivial) fun _=>hn () trivial
 refine Wp.bind (Z9v S _) fun q _ hq=>Wp.cond (fun _=>Wp.ret trivial) fun _=>Wp.bind (Z3f _ _ fun x _=>Wp.ret trivial) fun _ _ _=>Wp.cond (fun _=>Wp.ret trivial) fun _=>?_
 refine Wp.bind (Zbc q.1 nm _ (fun v=>0≤v∧v < 6) (fun v hv=>Zf1 v hv.1 hv.2 _ rfl _ hc6 hpk) (fun f hf _=>(hS.fk f (hq.2.2 f hf)).2) (fun c hc _=>?_)) fun S2 _ hS2=>?_
 ·rw[hq.2.1] at hc
  exact⟨(hS.con c hc).1,fun h=>⟨h,(hS.con c hc).2.2⟩⟩
 refine Wp.count (fun _ (S3:Sch)=>S3.fks.length=S2.fks.length) rfl ?_ fun S3 _=>Wp.count (fun _ (S4:Sch)=>S4.cons.length=S3.cons.length) rfl ?_ fun S4 _=>?_
 ·intro k S3 next hk hl hn
  unfold Zic
  exact Wp.get (by omega) (by omega) fun _ _ _=>Wp.cond (fun _=>hn _ (by simpa using hl)) fun _=>hn _ hl
 ·intro k S4 next hk hl hn
  unfold Zib
  exact Wp.get (by omega) (by omega) fun _ _ _=>Wp.cond (fun _=>hn _ (by simpa using hl)) fun _=>hn _ hl
 ·unfold Ze8
  exact Wp.chk ⟨hOl,hO0,hc0,by omega⟩ (Wp.ret trivial)
theorem Zdf (x:Stp) (hT:S.tables[i]?=some T) (hS:VS S):Wp (Z2b S i x) fun _=>True:=by
 have hL:=LIM_eq
 have h6:=hS.t6
 have h8:=hS.f8
 have h9:=hS.o8
 unfold Z2b
 refine Wp.getN hT (Wp.bind (Z8c _ _) fun v _ hv=>Wp.cond (fun _=>Wp.ret trivial) fun h=>Wp.bind (Z9e _ _ _) fun _ _ _=>Wp.cond (fun _=>Wp.ret trivial) fun _=>Wp.bind (Z32 _) fun _ _ _=>Wp.cond (fun _=>Wp.ret trivial) fun _=>Wp.get hv.1 (hv.2.1 (by simpa using h)) fun _ _ _=>Wp.cond (fun _=>Wp.ret trivial) fun _=>Wp.bind (Z2g _ _) fun _ _ _=>Wp.cond (fun _=>Wp.ret trivial) fun _=>Wp.bind (Z3f _ _ fun x _=>Wp.ret trivial) fun _ _ _=>Wp.cond (fun _=>Wp.ret trivial) fun _=>?_)
 refine Wp.for (fun k (S1:Sch)=>S1.tables=S.tables∧S1.cons=S.cons∧S1.fks.length≤S.fks.length+k) ⟨rfl,rfl,by omega⟩ ?_ ?_
 ·rintro k f S1 next hx hm ⟨h1,h2,h3⟩ hn
  have hk:=(List.getElem?_eq_some_iff.1 hx).1
  unfold Zie
  exact Wp.cond (fun _=>Wp.chk (by omega) (hn _ ⟨h1,h2,by simp;omega⟩)) fun _=>hn _ ⟨h1,h2,by omega⟩
 ·rintro S1 ⟨h1,h2,_⟩
  refine Wp.for (fun k (S2:Sch)=>S2.tables=S.tables∧S2.cons.length≤S.cons.length+k) ⟨h1,by rw[h2];omega⟩ ?_ ?_
  ·rintro k f S2 next hx hm ⟨g1,g2⟩ hn
   have hk:=(List.getElem?_eq_some_iff.1 hx).1
   unfold Zid
   exact Wp.cond (fun _=>Wp.chk (by omega) (hn _ ⟨g1,by simp;omega⟩)) fun _=>hn _ ⟨g1,by omega⟩
  ·rintro S2 ⟨g1,_⟩
   exact Wp.bind (Z7j _ _ (by rw[g1];omega)) fun _ _ _=>Wp.ret trivial
theorem Zf2 (a b:List Fk):Wp (Z19 a b (fun x y=>Z0i x y)) fun _=>True:=by
 unfold Z19
 refine Wp.cond (fun _=>Wp.ret trivial) fun h=>?_
 have hl:a.length=b.length:=by simp at h;omega
 refine Wp.for (fun _ _=>True) trivial (fun i x s next hx _ _ hn=>?_) fun _ _=>Wp.ret trivial
 have hi:=(List.getElem?_eq_some_iff.1 hx).1
 exact Wp.get (by omega) (by omega) fun _ _ _=>Wp.bind (Z3s _ _) fun _ _ _=>Wp.cond (fun _=>Wp.ret trivial) fun _=>hn () trivial
theorem Zgv (a b:List Cons):Wp (Z1t a b) fun _=>True:=by
 unfold Z1t
 refine Wp.cond (fun _=>Wp.ret trivial) fun h=>?_
 have hl:a.length=b.length:=by simp at h;omega
 refine Wp.for (fun _ _=>True) trivial (fun i x s next hx _ _ hn=>?_) fun _ _=>Wp.ret trivial
 have hi:=(List.getElem?_eq_some_iff.1 hx).1
 exact Wp.get (by omega) (by omega) fun _ _ _=>Wp.cond (fun _=>Wp.ret trivial) fun _=>hn () trivial
theorem Zhr (a b:ByteArray) (hS:VS S):Wp (Z2s S a b) fun _=>True:=by
 have hL:=LIM_eq
 have h8:=hS.f8
 have h9:=hS.o8
 unfold Z2s
 refine Wp.for (fun k (s:List Fk × List Fk)=>s.1.length≤k∧s.2.length≤k) (by simp) ?_ ?_
 ·rintro k f s next hx hm ⟨h1,h2⟩ hn
  have hk:=(List.getElem?_eq_some_iff.1 hx).1
  refine Wp.cond (fun _=>Wp.ret trivial) fun _=>Wp.cond (fun _=>Wp.ret trivial) fun _=>Wp.cond (fun _=>Wp.app (by simp;omega) (hn _ ⟨by simp;omega,by simp;omega⟩)) fun _=>Wp.cond (fun _=>Wp.app (by simp;omega) (hn _ ⟨by simp;omega,by simp;omega⟩)) fun _=>hn _ ⟨by simp;omega,by simp;omega⟩
 ·rintro s _
  refine Wp.bind (Zf2 _ _) fun _ _ _=>Wp.cond (fun _=>Wp.ret trivial) fun _=>?_
  refine Wp.for (fun k (s:List Cons × List Cons)=>s.1.length≤k∧s.2.length≤k) (by simp) ?_ ?_
  ·rintro k f s next hx hm ⟨h1,h2⟩ hn
   have hk:=(List.getElem?_eq_some_iff.1 hx).1
   refine Wp.cond (fun _=>Wp.app (by simp;omega) (hn _ ⟨by simp;omega,by simp;omega⟩)) fun _=>Wp.cond (fun _=>Wp.app (by simp;omega) (hn _ ⟨by simp;omega,by simp;omega⟩)) fun _=>hn _ ⟨by simp;omega,by simp;omega⟩
  ·rintro s _
   exact Wp.bind (Zgv _ _) fun _ _ _=>Wp.cond (fun _=>Wp.ret trivial) fun _=>Wp.ret trivial
theorem Zft (x:Stp) (hT:S.tables[i]?=some T) (hS:VS S):Wp (Z3a S i x) fun _=>True:=by
 have hL:=LIM_eq
 have hV:=hS.tab T (List.mem_of_getElem? hT)
 have hpk:=hV.pk6
 have hp0:=hV.pk0
 have hc6:=hV.cols6
 have hc0:=hV.cols0
 unfold Z3a
 refine Wp.bind (Z2g S _) fun v _ hv=>Wp.cond (fun _=>Wp.ret trivial) fun hf=>Wp.getN hT (Wp.get hv.1 (hv.2.1 (by simpa using hf)).1 fun O hO hOm=>Wp.cond (fun _=>Wp.ret trivial) fun _=>Wp.bind (Zbe _ _) fun _ _ _=>Wp.cond (fun _=>Wp.ret trivial) fun _=>Wp.bind (Z7u _ _) fun _ _ _=>Wp.cond (fun _=>Wp.ret trivial) fun _=>Wp.bind (Zhr _ _ hS) fun _ _ _=>Wp.cond (fun _=>Wp.ret trivial) fun _=>Wp.chk ⟨⟨hp0,by omega⟩,hc0,by omega⟩ (Wp.ret trivial))
end
theorem Ztr (S:Sch) (x:Stp) (hS:VS S) (hl:x.cols.length≤1048576):Wp (Z4b S x) fun _=>True:=by
 have hL:=LIM_eq
 have h6:=hS.t6
 have h8:=hS.f8
 have h9:=hS.o8
 unfold Z4b
 refine Wp.cond (fun _=>Wp.chk (by omega) (Wp.ret trivial)) fun _=>Wp.cond (fun _=>Zdh _ _) fun _=>Wp.cond (fun _=>Wp.chk (by omega) (Wp.ret trivial)) fun _=>Wp.cond (fun _=>(Z9v _ _).mono fun _ _ _=>trivial) fun _=>Wp.cond (fun _=>Zfu _ _ (by omega)) fun _=>?_
 refine Wp.bind (Z2g _ _) fun v _ hv=>Wp.cond (fun _=>Wp.ret trivial) fun hf=>?_
 obtain⟨hv1,T,hT,_⟩:=hv.2.1 (by simpa using hf)
 refine Wp.cond (fun _=>Zfs _ _ _ (by omega) (by have:=hv.1;omega)) fun _=>Wp.cond (fun _=>Zgr x hT hS hl) fun _=>Wp.cond (fun _=>Zgs _ hT hS) fun _=>Wp.cond (fun _=>Zdf x hT hS) fun _=>Wp.cond (fun _=>Zft x hT hS) fun _=>Wp.cond (fun _=>Zhs _) fun _=>Wp.cond (fun _=>Zdt x hT hS) fun _=>Wp.cond (fun _=>Zhu x hT (hS.tab T (List.mem_of_getElem? hT))) fun _=>Zfv x hT hS
def SmallX (x:Stp):Prop:=x.cols.length≤1048576∧x.newTable.cols.length≤1048576∧x.newTable.pk.length≤1048576∧x.fk.cols.length≤1048576
theorem Zts (S:Sch) (x:Stp) (hx:SmallX x):Wp (Z58 S x) fun r=>r.2=0→VS r.1:=by
 have hL:=LIM_eq
 unfold Z58
 refine Wp.bind (Z53 S) fun e _ he=>Wp.cond (fun h=>Wp.ret fun h0=>?_) fun h1=>Wp.bind (Zb4 x) fun e2 _ _=>Wp.cond (fun h=>Wp.ret fun h0=>?_) fun _=>?_
 ·simp only at h0;rw[h0] at h;cases h
 ·simp only at h0;rw[h0] at h;cases h
 have hS:VS S:=he (by simpa using h1)
 refine Wp.chk ⟨⟨⟨by have:=hS.t6;omega,by have:=hS.f8;omega,by have:=hS.o8;omega⟩,fun T hT=>⟨by have:=(hS.tab T hT).cols6;omega,by have:=(hS.tab T hT).pk6;omega⟩,fun f hf=>by have:=(hS.fk f hf).1;omega⟩,by obtain⟨a,b,c,d⟩:=hx;exact⟨by omega,by omega,by omega,by omega⟩⟩ ?_
 refine Wp.bind (Ztr S x hS hx.1) fun q _ _=>Wp.cond (fun h=>Wp.ret fun h0=>?_) fun _=>Wp.bind (Z53 q.1) fun e3 _ he3=>Wp.cond (fun h=>Wp.ret fun h0=>?_) fun h3=>Wp.ret fun _=>he3 (by simpa using h3)
 ·simp only at h0;rw[h0] at h;cases h
 ·simp only at h0;rw[h0] at h;cases h
end Go.Proofs.YthgepknlibmjcaaGreat
end
section
namespace Go.Proofs.YthgepknlibmjcaaGreat
open Go.Am
def Z4k (s_:Sch) (script:List Stp):Option ((List Sch) × Int):=
 (bif decide (6 < (script.length:Int)) then (some ([],2)) else (bindK (Z0m s_) fun v4=>(bif (v4 != 0) then (some ([],v4)) else (bindK (Z4p s_) fun v6=>(forK (fun (i8:Nat) (x8:Stp) (s8:(List Sch)) next_8=>(getK s8 (i8:Int) fun x10=>(bindK (Z58 x10 x8) fun v11=>(bif (v11.2 != 0) then (some ([],v11.2)) else (appK2 s8 [v11.1] fun _=>(next_8 (s8++[v11.1]))))))) (fun (s8:(List Sch))=>(some (s8,0))) script 0 [v6])))))
theorem Zdj (s_:Sch) (script:List Stp) (r:(List Sch) × Int) (hm:Is (Z4k s_ script) r):PSpec Tryz.prog 126 [.agg s_.enc,.one (.d (.sl (script.map Stp.enc)))] (.tup [.one (.d (.sl (r.1.map Sch.enc))),.one (.d (.int .i64 r.2))]):=by
 unfold Z4k at hm
 refine PSpec.of_vc Tryz.func126 rfl (by kernel_rfl) (n:=48) rfl rfl (by simp) ?_
 try simp[*]
 intro hl2
 replace hl2:script.length≤2097152:=by simpa using hl2
 refine r_cond hm ?_ ?_<;>clear hm<;>intro hc3 hm
 ·try simp[*]
  obtain rfl:=r_ret hm
  exact ret0 (vs:=[_,_]) (by simp[*];try exact⟨rfl,rfl⟩) (by simp[*])
 ·try simp[*]
  refine r_call (av:=[.agg s_.enc]) hm (fun v hv=>Z4e _ v hv) (by simp[*]) ?_
  clear hm;intro v4 hvv4 hm
  try simp[*]
  refine r_cond hm ?_ ?_<;>clear hm<;>intro hc5 hm
  ·try simp[*]
   obtain rfl:=r_ret hm
   exact ret0 (vs:=[_,_]) (by simp[*];try exact⟨rfl,rfl⟩) (by simp[*])
  ·try simp[*]
   refine r_call (av:=[.agg s_.enc]) hm (fun v hv=>Zbg _ v hv) (by simp[*]) ?_
   clear hm;intro v6 hvv6 hm
   try simp[*]
   refine Wait.for (xs:=script) (s0:=[v6]) (fun i8 s8 e8 h8=>∃ c8_0:C,e8.n=48∧e8.get 7=.one c8_0∧e8.get 23=.one (.d (.sl (script.map Stp.enc)))∧e8.get 24=.one (.d (.int .i64 (script.length:Int)))∧e8.get 25=.one (.d (.int .i64 (i8:Int)))∧Grows h8 3 c8_0 (s8.map Sch.enc)) hm ⟨.own (3,352) ([v6].map Sch.enc),by simp (maxDischargeDepth:=20) [*]⟩ ?_ ?_
   ·rintro i8 s8 e8 h8 ⟨c8_0,hn8,h8_7,h8_23,h8_24,h8_25,gc8_0⟩ hlt8 hm
    have hlc8_0:=gc8_0.list
    have hdc8_0:=gc8_0.toD
    have hac8_0:=gc8_0.toA
    have huc8_0:=gc8_0.useUp_arr
    have hw8:IntKind.i64.wrap ((i8:Int)+1)=(i8:Int)+1:=IntWalk.i64_in _ (by omega)
    try simp[*]
    refine Wait.of (SWP.draw (Plan.then_ [0,1,2,3,4] (.two 5 9 (Plan.then_ [6,7,8,9,10,11] .done) (Plan.then_ [5,6,7,8,10,11] .done))) follows (by kernel_rfl) ?_)
    try simp[*,Plan.then_,vcPlan,Z01,Z00,callKind]
    replace hm:=hm.getN
    obtain⟨x10,hxx10,hm⟩:=hm
    try simp[*,Plan.then_,vcPlan,Z01,Z00,callKind]
    rcases gc8_0.1 with ⟨hzc8_0,hzz⟩ | ⟨lc8_0,hzc8_0,hz1,hz2⟩
    ·exact absurd hxx10 (by simp at hzz;subst hzz;simp)
    try simp[*,Plan.then_,vcPlan,Z01,Z00,callKind]
    refine⟨?_,?_⟩
    ·try simp[*,Plan.then_,vcPlan,Z01,Z00,callKind]
     refine r_call (av:=[.agg x10.enc,.agg (script[i8]).enc]) hm (fun v hv=>Z9c _ _ v hv) (by simp[*]) ?_
     clear hm;intro v11 hvv11 hm
     try simp[*,Plan.then_,vcPlan,Z01,Z00,callKind]
     try refine⟨fun (_:Lab) (_:List C) hl=>hl,?_⟩
     refine r_cond hm ?_ ?_<;>clear hm<;>intro hc13 hm
     ·try simp[*]
      obtain rfl:=r_ret hm
      exact ret0 (vs:=[_,_]) (by simp[*];try exact⟨rfl,rfl⟩) (by simp[*])
     ·try simp[*]
      refine r_app (xs:=s8) (ys:=[v11.1]) (enc:=Sch.enc) hm Zc3 (by first | exact Grows.nil | (simp (maxDischargeDepth:=20) [*];done) | (simp (maxDischargeDepth:=20) [*];refine⟨?_,by omega⟩;intro hq;subst hq;simp at hz2<;>omega)) (by simp[*]) (by decide) (by decide) (fun _=>rfl) ?_
      clear hm;intro hl15 hm g14
      try simp[*]
      exact BackF.of (s8++[v11.1]) ⟨⟨.own (h8.ep+4,720) ((s8++[v11.1]).map Sch.enc),by simp (maxDischargeDepth:=20) [*]⟩,hm⟩
    ·try simp[*,Plan.then_,vcPlan,Z01,Z00,callKind]
     refine r_call (av:=[.agg x10.enc,.agg (script[i8]).enc]) hm (fun v hv=>Z9c _ _ v hv) (by simp[*]) ?_
     clear hm;intro v1012 hvv1012 hm
     try simp[*,Plan.then_,vcPlan,Z01,Z00,callKind]
     try refine⟨fun (_:Lab) (_:List C) hl=>hl,?_⟩
     refine r_cond hm ?_ ?_<;>clear hm<;>intro hc1013 hm
     ·try simp[*]
      obtain rfl:=r_ret hm
      exact ret0 (vs:=[_,_]) (by simp[*];try exact⟨rfl,rfl⟩) (by simp[*])
     ·try simp[*]
      refine r_app (xs:=s8) (ys:=[v1012.1]) (enc:=Sch.enc) hm Zc3 (by first | exact Grows.nil | (simp (maxDischargeDepth:=20) [*];done) | (simp (maxDischargeDepth:=20) [*];refine⟨?_,by omega⟩;intro hq;subst hq;simp at hz2<;>omega)) (by simp[*]) (by decide) (by decide) (fun _=>rfl) ?_
      clear hm;intro hl1015 hm g1014
      try simp[*]
      exact BackF.of (s8++[v1012.1]) ⟨⟨.own (h8.ep+4,720) ((s8++[v1012.1]).map Sch.enc),by simp (maxDischargeDepth:=20) [*]⟩,hm⟩
   ·rintro s8 e8 h8 ⟨c8_0,hn8,h8_7,h8_23,h8_24,h8_25,gc8_0⟩ hm
    have hlc8_0:=gc8_0.list
    have hdc8_0:=gc8_0.toD
    have hac8_0:=gc8_0.toA
    have huc8_0:=gc8_0.useUp_arr
    try simp[*]
    obtain rfl:=r_ret hm
    exact ret0 (vs:=[_,_]) (by simp[*];try exact⟨rfl,rfl⟩) (by simp[*])
def Z5o (s_:Sch) (script:List Stp):Option (Sch × Int):=
 (bindK (Z4k s_ script) fun v3=>(bif (v3.2 != 0) then (some ((Sch.mk [] [] []),v3.2)) else (chkK (okI ((v3.1.length:Int) - 1)) (getK v3.1 ((v3.1.length:Int) - 1) fun x7=>(some (x7,0))))))
theorem Zbf (s_:Sch) (script:List Stp) (r:Sch × Int) (hm:Is (Z5o s_ script) r):PSpec Tryz.prog 102 [.agg s_.enc,.one (.d (.sl (script.map Stp.enc)))] (.tup [.agg (r.1.enc.map RC.d),.one (.d (.int .i64 r.2))]):=by
 unfold Z5o at hm
 refine PSpec.of_vc Tryz.func102 rfl (by kernel_rfl) (n:=24) rfl rfl (by simp) ?_
 try simp[*]
 refine r_call (av:=[.agg s_.enc,.one (.d (.sl (script.map Stp.enc)))]) hm (fun v hv=>Zdj _ _ v hv) (by simp[*]) ?_
 clear hm;intro v3 hvv3 hm
 try simp[*]
 refine r_cond hm ?_ ?_<;>clear hm<;>intro hc4 hm
 ·try simp[*]
  obtain rfl:=r_ret hm
  exact ret0 (vs:=[_,_]) (by simp[*];try exact⟨rfl,rfl⟩) (by simp[*])
 ·try simp[*]
  intro hl5
  replace hl5:v3.1.length≤2097152:=by simpa using hl5
  replace hm:=hm.chk
  obtain⟨hw6,hm⟩:=hm
  replace hw6:=Z6o hw6
  try simp[*]
  replace hm:=hm.get
  obtain⟨x7,h0x7,hxx7,hm⟩:=hm
  try simp at h0x7
  try simp at hxx7
  try simp[*]
  obtain rfl:=r_ret hm
  exact ret0 (vs:=[_,_]) (by simp[*];try exact⟨rfl,rfl⟩) (by simp[*])
def Z1p (g_:Gr):Option ((List Sch) × Int):=
 (bif decide (8≤(g_.edges.length:Int)) then (some ([],2)) else (bindK (Z0m g_.base) fun v4=>(bif (v4 != 0) then (some ([],v4)) else (bindK (Z4p g_.base) fun v6=>(forK (fun (i8:Nat) (x8:Edg) (s8:(List Sch)) next_8=>(bif decide (x8.parent < 0) then (some ([],1)) else (bif decide ((i8:Int) < x8.parent) then (some ([],1)) else (getK s8 x8.parent fun x12=>(bindK (Z5o x12 x8.script) fun v13=>(bif (v13.2 != 0) then (some ([],v13.2)) else (appK2 s8 [v13.1] fun _=>(next_8 (s8++[v13.1]))))))))) (fun (s8:(List Sch))=>(some (s8,0))) g_.edges 0 [v6])))))
theorem Z8f (g_:Gr) (r:(List Sch) × Int) (hm:Is (Z1p g_) r):PSpec Tryz.prog 54 [.agg g_.enc] (.tup [.one (.d (.sl (r.1.map Sch.enc))),.one (.d (.int .i64 r.2))]):=by
 unfold Z1p at hm
 refine PSpec.of_vc Tryz.func54 rfl (by kernel_rfl) (n:=61) rfl rfl (by simp) ?_
 try simp[*]
 intro hl2
 replace hl2:g_.edges.length≤2097152:=by simpa using hl2
 refine r_cond hm ?_ ?_<;>clear hm<;>intro hc3 hm
 ·try simp[*]
  obtain rfl:=r_ret hm
  exact ret0 (vs:=[_,_]) (by simp[*];try exact⟨rfl,rfl⟩) (by simp[*])
 ·try simp[*]
  refine r_call (av:=[.agg g_.base.enc]) hm (fun v hv=>Z4e _ v hv) (by simp[*]) ?_
  clear hm;intro v4 hvv4 hm
  try simp[*]
  refine r_cond hm ?_ ?_<;>clear hm<;>intro hc5 hm
  ·try simp[*]
   obtain rfl:=r_ret hm
   exact ret0 (vs:=[_,_]) (by simp[*];try exact⟨rfl,rfl⟩) (by simp[*])
  ·try simp[*]
   refine r_call (av:=[.agg g_.base.enc]) hm (fun v hv=>Zbg _ v hv) (by simp[*]) ?_
   clear hm;intro v6 hvv6 hm
   try simp[*]
   refine Wait.for (xs:=g_.edges) (s0:=[v6]) (fun i8 s8 e8 h8=>∃ c8_0:C,e8.n=61∧e8.get 5=.one c8_0∧e8.get 25=.one (.d (.sl (g_.edges.map Edg.enc)))∧e8.get 26=.one (.d (.int .i64 (g_.edges.length:Int)))∧e8.get 27=.one (.d (.int .i64 (i8:Int)))∧Grows h8 3 c8_0 (s8.map Sch.enc)) hm ⟨.own (3,368) ([v6].map Sch.enc),by simp (maxDischargeDepth:=20) [*]⟩ ?_ ?_
   ·rintro i8 s8 e8 h8 ⟨c8_0,hn8,h8_5,h8_25,h8_26,h8_27,gc8_0⟩ hlt8 hm
    have hlc8_0:=gc8_0.list
    have hdc8_0:=gc8_0.toD
    have hac8_0:=gc8_0.toA
    have huc8_0:=gc8_0.useUp_arr
    have hw8:IntKind.i64.wrap ((i8:Int)+1)=(i8:Int)+1:=IntWalk.i64_in _ (by omega)
    try simp[*]
    refine Z0b hm ?_ ?_<;>clear hm<;>intro hc10 hm
    ·try simp[*]
     obtain rfl:=r_ret hm
     exact ret0 (vs:=[_,_]) (by simp[*];try exact⟨rfl,rfl⟩) (by simp[*])
    ·try simp[*]
     refine r_cond hm ?_ ?_<;>clear hm<;>intro hc11 hm
     ·try simp[*]
      obtain rfl:=r_ret hm
      exact ret0 (vs:=[_,_]) (by simp[*];try exact⟨rfl,rfl⟩) (by simp[*])
     ·try simp[*]
      refine Wait.of (SWP.draw (Plan.then_ [0,1,2,3,4,5,6] (.two 7 11 (Plan.then_ [8,9,10,11,12,13] .done) (Plan.then_ [7,8,9,10,12,13] .done))) follows (by kernel_rfl) ?_)
      try simp[*,Plan.then_,vcPlan,Z01,Z00,callKind]
      replace hm:=hm.get
      obtain⟨x12,h0x12,hxx12,hm⟩:=hm
      try simp[*,Plan.then_,vcPlan,Z01,Z00,callKind]
      rcases gc8_0.1 with ⟨hzc8_0,hzz⟩ | ⟨lc8_0,hzc8_0,hz1,hz2⟩
      ·exact absurd hxx12 (by simp at hzz;subst hzz;simp)
      try simp[*,Plan.then_,vcPlan,Z01,Z00,callKind]
      refine⟨?_,?_⟩
      ·try simp[*,Plan.then_,vcPlan,Z01,Z00,callKind]
       refine r_call (av:=[.agg x12.enc,.one (.d (.sl ((g_.edges[i8].script).map Stp.enc)))]) hm (fun v hv=>Zbf _ _ v hv) (by simp[*]) ?_
       clear hm;intro v13 hvv13 hm
       try simp[*,Plan.then_,vcPlan,Z01,Z00,callKind]
       try refine⟨fun (_:Lab) (_:List C) hl=>hl,?_⟩
       refine r_cond hm ?_ ?_<;>clear hm<;>intro hc15 hm
       ·try simp[*]
        obtain rfl:=r_ret hm
        exact ret0 (vs:=[_,_]) (by simp[*];try exact⟨rfl,rfl⟩) (by simp[*])
       ·try simp[*]
        refine r_app (xs:=s8) (ys:=[v13.1]) (enc:=Sch.enc) hm Zc3 (by first | exact Grows.nil | (simp (maxDischargeDepth:=20) [*];done) | (simp (maxDischargeDepth:=20) [*];refine⟨?_,by omega⟩;intro hq;subst hq;simp at hz2<;>omega)) (by simp[*]) (by decide) (by decide) (fun _=>rfl) ?_
        clear hm;intro hl17 hm g16
        try simp[*]
        exact BackF.of (s8++[v13.1]) ⟨⟨.own (h8.ep+4,928) ((s8++[v13.1]).map Sch.enc),by simp (maxDischargeDepth:=20) [*]⟩,hm⟩
      ·try simp[*,Plan.then_,vcPlan,Z01,Z00,callKind]
       refine r_call (av:=[.agg x12.enc,.one (.d (.sl ((g_.edges[i8].script).map Stp.enc)))]) hm (fun v hv=>Zbf _ _ v hv) (by simp[*]) ?_
       clear hm;intro v1014 hvv1014 hm
       try simp[*,Plan.then_,vcPlan,Z01,Z00,callKind]
       try refine⟨fun (_:Lab) (_:List C) hl=>hl,?_⟩
       refine r_cond hm ?_ ?_<;>clear hm<;>intro hc1015 hm
       ·try simp[*]
        obtain rfl:=r_ret hm
        exact ret0 (vs:=[_,_]) (by simp[*];try exact⟨rfl,rfl⟩) (by simp[*])
       ·try simp[*]
        refine r_app (xs:=s8) (ys:=[v1014.1]) (enc:=Sch.enc) hm Zc3 (by first | exact Grows.nil | (simp (maxDischargeDepth:=20) [*];done) | (simp (maxDischargeDepth:=20) [*];refine⟨?_,by omega⟩;intro hq;subst hq;simp at hz2<;>omega)) (by simp[*]) (by decide) (by decide) (fun _=>rfl) ?_
        clear hm;intro hl1017 hm g1016
        try simp[*]
        exact BackF.of (s8++[v1014.1]) ⟨⟨.own (h8.ep+4,928) ((s8++[v1014.1]).map Sch.enc),by simp (maxDischargeDepth:=20) [*]⟩,hm⟩
   ·rintro s8 e8 h8 ⟨c8_0,hn8,h8_5,h8_25,h8_26,h8_27,gc8_0⟩ hm
    have hlc8_0:=gc8_0.list
    have hdc8_0:=gc8_0.toD
    have hac8_0:=gc8_0.toA
    have huc8_0:=gc8_0.useUp_arr
    try simp[*]
    obtain rfl:=r_ret hm
    exact ret0 (vs:=[_,_]) (by simp[*];try exact⟨rfl,rfl⟩) (by simp[*])
def Z0h (g_:Gr) (version:Int):Option (Sch × Int):=
 (bindK (Z1p g_) fun v3=>(bif (v3.2 != 0) then (some ((Sch.mk [] [] []),v3.2)) else (bif decide (version < 0) then (some ((Sch.mk [] [] []),1)) else (bif decide ((v3.1.length:Int)≤version) then (some ((Sch.mk [] [] []),1)) else (getK v3.1 version fun x8=>(some (x8,0)))))))
theorem Z5d (g_:Gr) (version:Int) (r:Sch × Int) (hm:Is (Z0h g_ version) r):PSpec Tryz.prog 25 [.agg g_.enc,.one (.d (.int .i64 version))] (.tup [.agg (r.1.enc.map RC.d),.one (.d (.int .i64 r.2))]):=by
 unfold Z0h at hm
 refine PSpec.of_vc Tryz.func25 rfl (by kernel_rfl) (n:=30) rfl rfl (by simp) ?_
 try simp[*]
 refine r_call (av:=[.agg g_.enc]) hm (fun v hv=>Z8f _ v hv) (by simp[*]) ?_
 clear hm;intro v3 hvv3 hm
 try simp[*]
 refine r_cond hm ?_ ?_<;>clear hm<;>intro hc4 hm
 ·try simp[*]
  obtain rfl:=r_ret hm
  exact ret0 (vs:=[_,_]) (by simp[*];try exact⟨rfl,rfl⟩) (by simp[*])
 ·try simp[*]
  refine Z0b hm ?_ ?_<;>clear hm<;>intro hc5 hm
  ·try simp[*]
   obtain rfl:=r_ret hm
   exact ret0 (vs:=[_,_]) (by simp[*];try exact⟨rfl,rfl⟩) (by simp[*])
  ·try simp[*]
   intro hl6
   replace hl6:v3.1.length≤2097152:=by simpa using hl6
   refine r_cond hm ?_ ?_<;>clear hm<;>intro hc7 hm
   ·try simp[*]
    obtain rfl:=r_ret hm
    exact ret0 (vs:=[_,_]) (by simp[*];try exact⟨rfl,rfl⟩) (by simp[*])
   ·try simp[*]
    replace hm:=hm.get
    obtain⟨x8,h0x8,hxx8,hm⟩:=hm
    try simp[*]
    obtain rfl:=r_ret hm
    exact ret0 (vs:=[_,_]) (by simp[*];try exact⟨rfl,rfl⟩) (by simp[*])
end Go.Proofs.YthgepknlibmjcaaGreat
end
section
namespace Go.Proofs.YthgepknlibmjcaaGreat
open Go Go.Am
theorem Zde (S:Sch) (script:List Stp) (hx:∀ x ∈ script,SmallX x):Wp (Z4k S script) fun r=>r.2=0→0 < r.1.length∧r.1.length≤7∧∀ T ∈ r.1,VS T:=by
 have hL:=LIM_eq
 unfold Z4k
 refine Wp.cond (fun _=>Wp.ret (by simp)) fun h6=>Wp.bind (Z53 S) fun e _ he=>Wp.cond (fun h=>Wp.ret fun h0=>?_) fun h1=>?_
 ·simp only at h0;rw[h0] at h;cases h
 have hS:VS S:=he (by simpa using h1)
 have hl:script.length≤6:=by simp at h6;omega
 refine Wp.bind (Zbb S (by have:=hS.t6;omega) (by have:=hS.f8;omega)) fun S0 _ hS0=>?_
 subst hS0
 refine Wp.for (fun i (s:List Sch)=>s.length=i+1∧∀ T ∈ s,VS T) ⟨rfl,by simpa using hS⟩ ?_ ?_
 ·rintro i x s next hx1 hm ⟨hs,hv⟩ hn
  have hi:=(List.getElem?_eq_some_iff.1 hx1).1
  refine Wp.get (by omega) (by omega) fun y _ _=>Wp.bind (Zts y x (hx x hm)) fun r _ hr=>Wp.cond (fun h=>Wp.ret fun h0=>?_) fun h2=>Wp.app (by simp;omega) (hn _ ⟨by simp;omega,fun T hT=>?_⟩)
  ·simp only at h0;rw[h0] at h;cases h
  ·rcases List.mem_append.1 hT with h | h
   ·exact hv T h
   ·rw[List.mem_singleton.1 h];exact hr (by simpa using h2)
 ·rintro s ⟨hs,hv⟩
  exact Wp.ret fun _=>⟨by simp only;omega,by simp only;omega,hv⟩
theorem Zf0 (S:Sch) (script:List Stp) (hx:∀ x ∈ script,SmallX x):Wp (Z5o S script) fun r=>r.2=0→VS r.1:=by
 unfold Z5o
 refine Wp.bind (Zde S script hx) fun r _ hr=>Wp.cond (fun h=>Wp.ret fun h0=>?_) fun h1=>?_
 ·simp only at h0;rw[h0] at h;cases h
 ·obtain⟨h2,h3,h4⟩:=hr (by simpa using h1)
  exact Wp.chk ⟨by omega,by omega⟩ (Wp.get (by omega) (by omega) fun T _ hT=>Wp.ret fun _=>h4 T hT)
def EdgesOK (g:Gr):Prop:=∀ (i:Nat) (e:Edg),g.edges[i]?=some e→0≤e.parent∧e.parent≤i
theorem Z8b (g:Gr) (hx:∀ e ∈ g.edges,∀ x ∈ e.script,SmallX x):Wp (Z1p g) fun r=>r.2=0→EdgesOK g∧g.edges.length≤7∧r.1.length=g.edges.length+1∧∀ T ∈ r.1,VS T:=by
 have hL:=LIM_eq
 unfold Z1p
 refine Wp.cond (fun _=>Wp.ret (by simp)) fun h6=>Wp.bind (Z53 _) fun e _ he=>Wp.cond (fun h=>Wp.ret fun h0=>?_) fun h1=>?_
 ·simp only at h0;rw[h0] at h;cases h
 have hS:VS g.base:=he (by simpa using h1)
 have hl:g.edges.length≤7:=by simp at h6;omega
 refine Wp.bind (Zbb g.base (by have:=hS.t6;omega) (by have:=hS.f8;omega)) fun S0 _ hS0=>?_
 rw[hS0]
 refine Wp.for (fun i (s:List Sch)=>s.length=i+1∧(∀ T ∈ s,VS T)∧∀ (j:Nat) (e:Edg),j < i→g.edges[j]?=some e→0≤e.parent∧e.parent≤j) ⟨rfl,by simpa using hS,by intro j e h;omega⟩ ?_ ?_
 ·rintro i x s next hx1 hm ⟨hs,hv,hI⟩ hn
  have hi:=(List.getElem?_eq_some_iff.1 hx1).1
  refine Wp.cond (fun _=>Wp.ret (by simp)) fun h2=>Wp.cond (fun _=>Wp.ret (by simp)) fun h3=>?_
  have a2:0≤x.parent:=by simpa using h2
  have a3:x.parent≤i:=by simpa using h3
  refine Wp.get (by omega) (by omega) fun y _ _=>Wp.bind (Zf0 y x.script (hx x hm)) fun r _ hr=>Wp.cond (fun h=>Wp.ret fun h0=>?_) fun h2=>Wp.app (by simp;omega) (hn _ ⟨by simp;omega,fun T hT=>?_,fun j e hj he=>?_⟩)
  ·simp only at h0;rw[h0] at h;cases h
  ·rcases List.mem_append.1 hT with h | h
   ·exact hv T h
   ·rw[List.mem_singleton.1 h];exact hr (by simpa using h2)
  ·rcases Nat.lt_or_ge j i with h | h
   ·exact hI j e h he
   ·obtain rfl:j=i:=by omega
    rw[hx1] at he
    cases he
    exact⟨a2,a3⟩
 ·rintro s ⟨hs,hv,hI⟩
  exact Wp.ret fun _=>⟨fun i e he=>hI i e (List.getElem?_eq_some_iff.1 he).1 he,hl,hs,hv⟩
theorem Zen {α:Type} {xss:List (List α)} {i:Nat} {x:List α} (h:xss[i]?=some x):(xss.take (i+1)).flatten=(xss.take i).flatten++x:=by
 obtain⟨h1,h2⟩:=List.getElem?_eq_some_iff.1 h
 rw[List.take_succ_eq_append_getElem h1,h2]
 simp
theorem Zei {h:HS} {ds:List D}:FrzCs h (ds.map C.d) ds:=by
 induction ds with
 | nil=>trivial
 | cons d ds ih=>exact⟨.data rfl,ih⟩
def catLen {α:Type} (xss:List (List α)) (i:Nat):Nat:=(xss.take i).flatten.length
theorem Zeo {α:Type} (xss:List (List α)) (i:Nat):(xss.take i).flatten.length≤xss.flatten.length:=by
 conv=>rhs;rw[← List.take_append_drop i xss]
 rw[List.flatten_append,List.length_append]
 omega
theorem Zes {α:Type} {xss:List (List α)} {i:Nat} {x:List α} (h:xss[i]?=some x):catLen xss (i+1)=catLen xss i+x.length:=by
 unfold catLen
 rw[Zen h,List.length_append]
theorem Zhj {α:Type} (xss:List (List α)) (i:Nat):catLen xss i≤xss.flatten.length:=Zeo xss i
theorem Zfp {α:Type} (xss:List (List α)):catLen xss xss.length=xss.flatten.length:=by
 unfold catLen
 rw[List.take_length]
theorem Zer {α:Type} (xss:List (List α)):catLen xss 0=0:=rfl
theorem Zcv (h:HS) (n:Nat) (hn:n≤2097152) (K:V→HS→Prop)
  (hk:∀ c' h',MR h' 1 c' []→Same h h' []→(∀ l ∈ labs c',h.ep≤l.1∧l.1 < h'.ep)→K (.one c') h') :
  HSpec Tryz.prog 119 [.one .nil,.one (.d (.int .i64 (n:Int)))] h K:=by
 refine HSpec.of_vc Tryz.func119 rfl (by kernel_rfl) (n:=27) rfl rfl (by simp) ?_
 simp
 have h0:¬ ((n:Int) < 0):=by omega
 have hw:IntKind.i64.wrap ((n:Int) - 0)=(n:Int):=by rw[Int.sub_zero];exact IntWalk.i64_in _ (by omega)
 have hw0:IntKind.i64.wrap 0=0:=IntWalk.i64_in _ (by omega)
 have hw1:IntKind.i64.wrap (n:Int)=(n:Int):=IntWalk.i64_in _ (by omega)
 try simp[h0]
 refine Zdr Z8l ?_
 simp[hw,hw0,hw1]
 refine Z15 (fun hp=>?_) (fun hp=>?_)
 ·simp[hw,hw0,hw1]
  refine Zdr Z8l ?_
  simp[hw,hw0,hw1]
  refine Zgq Z8l (by decide) (kk:=.i64) rfl (by kernel_rfl) (by decide) (by decide) (by omega) (by show (n:Int)≤2097152;omega) (fun cap' hcap=>?_)
  have hc0:0 < cap':=by omega
  simp at hcap
  simp[hw0,hw1,hc0]
  refine hk _ _ ⟨AllC.nil,by simp,.inr ⟨(h.ep,352),cap',List.replicate (cap' * 1) .any,by simp,by simp[rowBox],by simp[rowBox]⟩⟩ ((Same.refl.setBox (.inr (Nat.le_refl _))).next) (by simp[labs])
 ·simp
  exact hk _ _ MR.nil .refl (by simp[labs])
theorem Zbr (h:HS) (c:C) (xss:List (List (List D))) (hc:c=.d (.sl (xss.map fun xs=>[.sl xs]))∨∃ lab,c=.own lab (xss.map fun xs=>[.sl xs])) (hall:∀ xs ∈ xss,∀ x ∈ xs,x.length=1) (hl:xss.flatten.length≤2097152) (K:V→HS→Prop)
  (hk:∀ c' h',MR h' 1 c' (xss.flatten.map (·.map C.d))→Same h h' []→(∀ l ∈ labs c',h.ep≤l.1∧l.1 < h'.ep)→K (.one c') h') :
  HSpec Tryz.prog 95 [.one c] h K:=by
 refine HSpec.of_vc Tryz.func95 rfl (by kernel_rfl) (n:=36) rfl rfl (by simp) ?_
 simp
 have hcl:c.list?=some (xss.map fun xs=>[.sl xs]):=by rcases hc with rfl | ⟨lab,rfl⟩<;>rfl
 refine Zga hcl (fun hX=>?_)
 simp only[List.length_map] at hX
 have hX':xss.length≤2097152:=hX
 simp
 refine Wait.rounds (fun n e h'=>∃ i,n=xss.length - i∧i≤xss.length∧h'=h∧e.n=36∧e.get 0=.one c∧e.get 9=.one c∧e.get 10=.one (.d (.int .i64 (xss.length:Int)))∧e.get 11=.one (.d (.int .i64 (i:Int)))∧e.get 3=.one (.d (.int .i64 (catLen xss i:Int)))) xss.length
  ⟨0,rfl,by omega,rfl,by simp,by simp,by simp,by simp,by simp,by simp[Zer]⟩ ?_
 rintro n e h' ⟨i,rfl,hi,rfl,hn,h0,h9,h10,h11,h3⟩
 simp[h0,h9,h10,h11,h3,hn]
 refine Z15 (fun hlt=>?_) (fun hge=>?_)
 ·have hw1:IntKind.i64.wrap ((i:Int)+1)=(i:Int)+1:=IntWalk.i64_in _ (by omega)
  obtain⟨x,hx⟩:∃ x,xss[i]?=some x:=⟨_,List.getElem?_eq_getElem hlt⟩
  have hs2:=Zhj xss (i+1)
  have hs3:=Zes hx
  have hw2:IntKind.i64.wrap ((catLen xss i:Int)+(x.length:Int))=(catLen xss (i+1):Int):=by rw[hs3,Int.natCast_add];exact IntWalk.i64_in _ (by omega)
  have hneg:¬ ((catLen xss (i+1):Int) < 0):=by omega
  have hi0:(0:Int)≤(i:Int):=by omega
  rcases hc with rfl | ⟨lab,rfl⟩
  all_goals
   simp[h0,h9,h10,h11,h3,hn,hx,hi0]
   intro hxl
   simp[h0,h9,h10,h11,h3,hn,hw1,hw2,hneg]
   exact Back.of (n':=xss.length - (i+1)) (by omega) ⟨i+1,rfl,by omega,rfl,by simp[hn],by simp[h0],by simp[h9],by simp[h10],by simp,by simp⟩
 ·obtain rfl:i=xss.length:=by omega
  have hl':catLen xss xss.length≤2097152:=by rw[Zfp];exact hl
  simp[h0,h3,hn]
  refine Z02 (Zcv h' (catLen xss xss.length) hl' _ (fun c1 h1 hm1 hs1 hl1=>?_))
  simp[h0,hn]
  refine Zga hcl (fun hX=>?_)
  simp[h0,hn]
  refine Wait.rounds (fun n e h2=>∃ (i:Nat) (c2:C),n=xss.length - i∧i≤xss.length∧MR h2 1 c2 ((xss.take i).flatten.map (·.map C.d))∧Same h' h2 []∧(∀ l ∈ labs c2,h'.ep≤l.1∧l.1 < h2.ep)∧e.n=36∧e.get 25=.one c∧e.get 26=.one (.d (.int .i64 (xss.length:Int)))∧e.get 27=.one (.d (.int .i64 (i:Int)))∧e.get 6=.one c2) xss.length ?_ ?_
  ·exact⟨0,c1,rfl,by omega,(hm1.frame (fun _ _=>rfl)),hs1,hl1,by simp[hn],by simp[h0,hn],by simp[hn],by simp[hn],by simp[hn]⟩
  clear h0 h9 h10 h11 h3 hn hi hge
  rintro n e h2 ⟨i,c2,rfl,hi,hm2,hs2,hl2,hn,h25,h26,h27,h6⟩
  simp[h25,h26,h27,h6,hn]
  refine Z15 (fun hlt=>?_) (fun hge=>?_)
  ·have hw1:IntKind.i64.wrap ((i:Int)+1)=(i:Int)+1:=IntWalk.i64_in _ (by omega)
   obtain⟨x,hx⟩:∃ x,xss[i]?=some x:=⟨_,List.getElem?_eq_getElem hlt⟩
   have hsz1:=Zen hx
   have hsz2:=Zeo xss (i+1)
   have hsz3:(xss.take (i+1)).flatten.length=(xss.take i).flatten.length+x.length:=by rw[hsz1,List.length_append]
   have hi0:(0:Int)≤(i:Int):=by omega
   have hrd:RowAt h2 1 (.d (.sl x)) (x.map (·.map C.d)):=RowAt.data (hall x (List.mem_of_getElem? hx)) (by show x.length≤2097152;omega)
   rcases hc with rfl | ⟨lab,rfl⟩
   all_goals
    simp[h25,h26,h27,h6,hn,hx,hi0]
    refine app_mr Z8l (by kernel_rfl) (by decide) (by decide) hm2 hrd (by simp only[List.length_map];show _≤2097152;omega) (fun c3 h3 hm3 hs3 hl3=>?_)
    simp[h25,h26,h27,hn,hw1]
    refine Back.of (n':=xss.length - (i+1)) (by omega) ⟨i+1,c3,rfl,by omega,?_,hs2.trans' hs3 (fun k hk=>.inr (hl2 k hk).1),?_,by simp[hn],by simp[h25],by simp[h26],by simp,by simp⟩
    ·rw[hsz1,List.map_append];exact hm3
    ·intro k hk
     rcases hl3 k hk with h9 | h9
     ·have:=hl2 k h9
      have:=hs3.1
      omega
     ·have:=hs2.1
      omega
  ·obtain rfl:i=xss.length:=by omega
   rw[List.take_length] at hm2
   simp[h6,hn]
   exact hk _ _ hm2 hs2 hl2
theorem Z9x (h:HS) (n:Nat) (hn:n≤2097152) (K:V→HS→Prop)
  (hk:∀ c' h',MR h' 1 c' []→Same h h' []→(∀ l ∈ labs c',h.ep≤l.1∧l.1 < h'.ep)→K (.one c') h') :
  HSpec Tryz.prog 89 [.one .nil,.one (.d (.int .i64 (n:Int)))] h K:=by
 refine HSpec.of_vc Tryz.func89 rfl (by kernel_rfl) (n:=27) rfl rfl (by simp) ?_
 simp
 have h0:¬ ((n:Int) < 0):=by omega
 have hw:IntKind.i64.wrap ((n:Int) - 0)=(n:Int):=by rw[Int.sub_zero];exact IntWalk.i64_in _ (by omega)
 have hw0:IntKind.i64.wrap 0=0:=IntWalk.i64_in _ (by omega)
 have hw1:IntKind.i64.wrap (n:Int)=(n:Int):=IntWalk.i64_in _ (by omega)
 try simp[h0]
 refine Zdr Ze1 ?_
 simp[hw,hw0,hw1]
 refine Z15 (fun hp=>?_) (fun hp=>?_)
 ·simp[hw,hw0,hw1]
  refine Zdr Ze1 ?_
  simp[hw,hw0,hw1]
  refine Zgq Ze1 (by decide) (kk:=.i64) rfl (by kernel_rfl) (by decide) (by decide) (by omega) (by show (n:Int)≤2097152;omega) (fun cap' hcap=>?_)
  have hc0:0 < cap':=by omega
  simp at hcap
  simp[hw0,hw1,hc0]
  refine hk _ _ ⟨AllC.nil,by simp,.inr ⟨(h.ep,352),cap',List.replicate (cap' * 1) .any,by simp,by simp[rowBox],by simp[rowBox]⟩⟩ ((Same.refl.setBox (.inr (Nat.le_refl _))).next) (by simp[labs])
 ·simp
  exact hk _ _ MR.nil .refl (by simp[labs])
theorem Z97 (h:HS) (c:C) (xss:List (List (List D))) (hc:c=.d (.sl (xss.map fun xs=>[.sl xs]))∨∃ lab,c=.own lab (xss.map fun xs=>[.sl xs])) (hall:∀ xs ∈ xss,∀ x ∈ xs,x.length=1) (hl:xss.flatten.length≤2097152) (K:V→HS→Prop)
  (hk:∀ c' h',MR h' 1 c' (xss.flatten.map (·.map C.d))→Same h h' []→(∀ l ∈ labs c',h.ep≤l.1∧l.1 < h'.ep)→K (.one c') h') :
  HSpec Tryz.prog 46 [.one c] h K:=by
 refine HSpec.of_vc Tryz.func46 rfl (by kernel_rfl) (n:=36) rfl rfl (by simp) ?_
 simp
 have hcl:c.list?=some (xss.map fun xs=>[.sl xs]):=by rcases hc with rfl | ⟨lab,rfl⟩<;>rfl
 refine Zga hcl (fun hX=>?_)
 simp only[List.length_map] at hX
 have hX':xss.length≤2097152:=hX
 simp
 refine Wait.rounds (fun n e h'=>∃ i,n=xss.length - i∧i≤xss.length∧h'=h∧e.n=36∧e.get 0=.one c∧e.get 9=.one c∧e.get 10=.one (.d (.int .i64 (xss.length:Int)))∧e.get 11=.one (.d (.int .i64 (i:Int)))∧e.get 3=.one (.d (.int .i64 (catLen xss i:Int)))) xss.length
  ⟨0,rfl,by omega,rfl,by simp,by simp,by simp,by simp,by simp,by simp[Zer]⟩ ?_
 rintro n e h' ⟨i,rfl,hi,rfl,hn,h0,h9,h10,h11,h3⟩
 simp[h0,h9,h10,h11,h3,hn]
 refine Z15 (fun hlt=>?_) (fun hge=>?_)
 ·have hw1:IntKind.i64.wrap ((i:Int)+1)=(i:Int)+1:=IntWalk.i64_in _ (by omega)
  obtain⟨x,hx⟩:∃ x,xss[i]?=some x:=⟨_,List.getElem?_eq_getElem hlt⟩
  have hs2:=Zhj xss (i+1)
  have hs3:=Zes hx
  have hw2:IntKind.i64.wrap ((catLen xss i:Int)+(x.length:Int))=(catLen xss (i+1):Int):=by rw[hs3,Int.natCast_add];exact IntWalk.i64_in _ (by omega)
  have hneg:¬ ((catLen xss (i+1):Int) < 0):=by omega
  have hi0:(0:Int)≤(i:Int):=by omega
  rcases hc with rfl | ⟨lab,rfl⟩
  all_goals
   simp[h0,h9,h10,h11,h3,hn,hx,hi0]
   intro hxl
   simp[h0,h9,h10,h11,h3,hn,hw1,hw2,hneg]
   exact Back.of (n':=xss.length - (i+1)) (by omega) ⟨i+1,rfl,by omega,rfl,by simp[hn],by simp[h0],by simp[h9],by simp[h10],by simp,by simp⟩
 ·obtain rfl:i=xss.length:=by omega
  have hl':catLen xss xss.length≤2097152:=by rw[Zfp];exact hl
  simp[h0,h3,hn]
  refine Z02 (Z9x h' (catLen xss xss.length) hl' _ (fun c1 h1 hm1 hs1 hl1=>?_))
  simp[h0,hn]
  refine Zga hcl (fun hX=>?_)
  simp[h0,hn]
  refine Wait.rounds (fun n e h2=>∃ (i:Nat) (c2:C),n=xss.length - i∧i≤xss.length∧MR h2 1 c2 ((xss.take i).flatten.map (·.map C.d))∧Same h' h2 []∧(∀ l ∈ labs c2,h'.ep≤l.1∧l.1 < h2.ep)∧e.n=36∧e.get 25=.one c∧e.get 26=.one (.d (.int .i64 (xss.length:Int)))∧e.get 27=.one (.d (.int .i64 (i:Int)))∧e.get 6=.one c2) xss.length ?_ ?_
  ·exact⟨0,c1,rfl,by omega,(hm1.frame (fun _ _=>rfl)),hs1,hl1,by simp[hn],by simp[h0,hn],by simp[hn],by simp[hn],by simp[hn]⟩
  clear h0 h9 h10 h11 h3 hn hi hge
  rintro n e h2 ⟨i,c2,rfl,hi,hm2,hs2,hl2,hn,h25,h26,h27,h6⟩
  simp[h25,h26,h27,h6,hn]
  refine Z15 (fun hlt=>?_) (fun hge=>?_)
  ·have hw1:IntKind.i64.wrap ((i:Int)+1)=(i:Int)+1:=IntWalk.i64_in _ (by omega)
   obtain⟨x,hx⟩:∃ x,xss[i]?=some x:=⟨_,List.getElem?_eq_getElem hlt⟩
   have hsz1:=Zen hx
   have hsz2:=Zeo xss (i+1)
   have hsz3:(xss.take (i+1)).flatten.length=(xss.take i).flatten.length+x.length:=by rw[hsz1,List.length_append]
   have hi0:(0:Int)≤(i:Int):=by omega
   have hrd:RowAt h2 1 (.d (.sl x)) (x.map (·.map C.d)):=RowAt.data (hall x (List.mem_of_getElem? hx)) (by show x.length≤2097152;omega)
   rcases hc with rfl | ⟨lab,rfl⟩
   all_goals
    simp[h25,h26,h27,h6,hn,hx,hi0]
    refine app_mr Ze1 (by kernel_rfl) (by decide) (by decide) hm2 hrd (by simp only[List.length_map];show _≤2097152;omega) (fun c3 h3 hm3 hs3 hl3=>?_)
    simp[h25,h26,h27,hn,hw1]
    refine Back.of (n':=xss.length - (i+1)) (by omega) ⟨i+1,c3,rfl,by omega,?_,hs2.trans' hs3 (fun k hk=>.inr (hl2 k hk).1),?_,by simp[hn],by simp[h25],by simp[h26],by simp,by simp⟩
    ·rw[hsz1,List.map_append];exact hm3
    ·intro k hk
     rcases hl3 k hk with h9 | h9
     ·have:=hl2 k h9
      have:=hs3.1
      omega
     ·have:=hs2.1
      omega
  ·obtain rfl:i=xss.length:=by omega
   rw[List.take_length] at hm2
   simp[h6,hn]
   exact hk _ _ hm2 hs2 hl2
def Z2x (s_:List (List (List Rel))):Option (List (List Rel)):=chkK (s_.flatten.length≤2097152) (some s_.flatten)
theorem Z67 (s_:List (List (List Rel))) (r:List (List Rel)) (hm:Is (Z2x s_) r):PSpec Tryz.prog 46 [.one (.d (.sl (s_.map (encL (encL Rel.enc)))))] (.one (.d (.sl (r.map (encL Rel.enc))))):=by
 obtain⟨hl,hm⟩:=hm.chk
 obtain rfl:=r_ret hm
 refine PSpec.of_heap ?_
 have hX:s_.map (encL (encL Rel.enc))=(s_.map (·.map (encL Rel.enc))).map fun xs=>[D.sl xs]:=by simp[encL]
 have hF:(s_.map (·.map (encL Rel.enc))).flatten=s_.flatten.map (encL Rel.enc):=by simp[List.map_flatten]
 refine Z97 HS.init _ (s_.map (·.map (encL Rel.enc))) (.inl (by rw[← hX])) (fun xs hxs x hx=>?_) (by rw[hF,List.length_map];exact hl) _ (fun c' h' hm' _ _=>?_)
 ·obtain⟨ys,_,rfl⟩:=List.mem_map.1 hxs
  obtain⟨y,_,rfl⟩:=List.mem_map.1 hx
  rfl
 ·rw[hF] at hm'
  exact hm'.frz (List.length_map _) (fun t ht=>by obtain⟨y,_,rfl⟩:=List.mem_map.1 ht;rfl) (fun i x t hx ht=>by
   rw[List.getElem?_map] at hx
   rw[ht] at hx
   simp only[Option.map_some,Option.some.injEq] at hx
   subst hx
   exact Zei)
end Go.Proofs.YthgepknlibmjcaaGreat
end
section
namespace Go.Proofs.YthgepknlibmjcaaGreat
open Go.Am
def Z50 (x:Int):Option Bool:=
 (some (x != x))
theorem Zau (x:Int) (r:Bool) (hm:Is (Z50 x) r):PSpec Tryz.prog 152 [.one (.d (.int .i64 x))] (.one (.d (.bool r))):=by
 unfold Z50 at hm
 refine PSpec.of_vc Tryz.func152 rfl (by kernel_rfl) (n:=6) rfl rfl (by simp) ?_
 try simp[*]
 obtain rfl:=r_ret hm
 exact ret0 (vs:=[_]) (by simp[*];try exact rfl) (by simp[*])
def Z6u (x:Int) (y:Int):Option Bool:=
 (bindK (Z50 x) fun v1=>(bif v1 then (bindK (Z50 y) fun v3=>(bif !v3 then (some true) else (some (decide (x < y))))) else (some (decide (x < y)))))
theorem Zfb (x:Int) (y:Int) (r:Bool) (hm:Is (Z6u x y) r):PSpec Tryz.prog 138 [.one (.d (.int .i64 x)),.one (.d (.int .i64 y))] (.one (.d (.bool r))):=by
 unfold Z6u at hm
 refine PSpec.of_vc Tryz.func138 rfl (by kernel_rfl) (n:=17) rfl rfl (by simp) ?_
 try simp[*]
 refine r_call (av:=[.one (.d (.int .i64 x))]) hm (fun v hv=>Zau _ v hv) (by simp[*]) ?_
 clear hm;intro v1 hvv1 hm
 try simp[*]
 refine Z08 hm ?_ ?_<;>clear hm<;>intro hc2 hm
 ·try simp[*]
  refine r_call (av:=[.one (.d (.int .i64 y))]) hm (fun v hv=>Zau _ v hv) (by simp[*]) ?_
  clear hm;intro v3 hvv3 hm
  try simp[*]
  refine Z0b hm ?_ ?_<;>clear hm<;>intro hc4 hm
  ·try simp[*]
   obtain rfl:=r_ret hm
   exact ret0 (vs:=[_]) (by simp[*];try exact rfl) (by simp[*])
  ·try simp[*]
   obtain rfl:=r_ret hm
   exact ret0 (vs:=[_]) (by simp[*];try exact rfl) (by simp[*])
 ·try simp[*]
  obtain rfl:=r_ret hm
  exact ret0 (vs:=[_]) (by simp[*];try exact rfl) (by simp[*])
end Go.Proofs.YthgepknlibmjcaaGreat
end
section
namespace Go.Proofs.YthgepknlibmjcaaGreat
open Go Go.Am
def icell (q:Int):List C:=[.d (.int .i64 q)]
def ltI (a b:Int):Bool:=decide (a < b)
def sortI (xs:List Int):List Int:=outerS ltI (xs.length - 1) 1 xs
theorem Zt3 (a b:Int):Is (Z6u a b) (decide (a < b)):=by
 unfold Z6u Z50
 simp[Is,bindK]
theorem Z96 {us:List Int}:AllC 1 (us.map icell):=by
 intro x hx
 obtain⟨y,_,rfl⟩:=List.mem_map.1 hx
 rfl
theorem Z7q {us:List Int} {k:Nat} {x:Int} {sp:List C} (h:us[k]?=some x):takeN 1 ((rowBox (us.map icell) sp).drop k)=some [.d (.int .i64 x)]:=by
 have:=Zad (sp:=sp) (k:=k) (x:=icell x) (Z96 (us:=us)) (by simp[h])
 simpa[icell] using this
theorem Zbo {us:List Int} {k:Nat} {x:Int} {sp:List C} (h:k < us.length):Z03 (rowBox (us.map icell) sp) k [.d (.int .i64 x)]=rowBox ((us.set k x).map icell) sp:=by
 have:=Z93 (sp:=sp) (v:=icell x) (Z96 (us:=us)) (by simpa using h) rfl
 rw[List.map_set]
 simpa[icell] using this
theorem Z95 {us:List Int} {sp:List C}:(rowBox (us.map icell) sp).length=us.length+sp.length:=by
 have:=Z04 (sp:=sp) (Z96 (us:=us))
 simpa using this
theorem Z87 (h:HS) (c:C) (qs:List Int) (hm:MR h 1 c (qs.map icell)) (K:V→HS→Prop)
  (hk:∀ h',MR h' 1 c ((sortI qs).map icell)→Same h h' (labs c)→K (.tup []) h') :
  HSpec Tryz.prog 132 [.one c,.one (.d (.int .i64 0)),.one (.d (.int .i64 (qs.length:Int)))] h K:=by
 refine HSpec.of_vc Tryz.func132 rfl (by kernel_rfl) (n:=49) rfl rfl (by simp) ?_
 simp
 have hlim:qs.length≤2097152:=by simpa using hm.2.1
 refine Wait.rounds (fun n e h'=>∃ (i:Nat) (ws:List Int),n=qs.length - i∧1≤i∧ws.Perm qs∧outerS ltI (qs.length - i) i ws=outerS ltI (qs.length - 1) 1 qs ∧
  e.n=49∧e.get 0=.one c∧e.get 1=.one (.d (.int .i64 0))∧e.get 2=.one (.d (.int .i64 (qs.length:Int)))∧e.get 6=.one (.d (.int .i64 (i:Int)))∧Same h h' (labs c)∧MR h' 1 c (ws.map icell)) (qs.length - 1)
  ⟨1,qs,rfl,by omega,.refl _,rfl,by simp,by simp,by simp,by simp,by simp;exact (IntWalk.i64_in _ (by omega)),Same.refl,hm⟩ ?_
 rintro n e h' ⟨i,ws,rfl,hi1,hperm,hout,hn,h0,h1,h2,h6,hs,hm'⟩
 simp[h0,h1,h2,h6,hn]
 refine Z15 (fun hlt=>?_) (fun hge=>?_)
 ·simp[h0,h1,h2,h6,hn]
  refine Wait.rounds (fun n e h'=>∃ (j:Nat) (us:List Int),n=j∧j≤i∧us.Perm qs∧innerS ltI j us=innerS ltI i ws ∧
   e.n=49∧e.get 0=.one c∧e.get 1=.one (.d (.int .i64 0))∧e.get 2=.one (.d (.int .i64 (qs.length:Int)))∧e.get 6=.one (.d (.int .i64 (i:Int)))∧e.get 7=.one (.d (.int .i64 (j:Int)))∧Same h h' (labs c)∧MR h' 1 c (us.map icell)) i
   ⟨i,ws,rfl,by omega,hperm,rfl,by simp[hn],by simp[h0],by simp[h1],by simp[h2],by simp[h6],by simp,hs,hm'⟩ ?_
  clear h0 h1 h2 h6 hn hm' hs
  rintro j e h' ⟨_,us,rfl,hji,hpu,hin,hn,h0,h1,h2,h6,h7,hs,hm'⟩
  have hD:Same h (h'.next) (labs c):=hs.next
  have hiw:=IntWalk.i64_in ((i:Int)+1) (by omega)
  cases j with
  | zero=>
    refine Wait.cut (Plan.then_ [0,1,2,3,4,5,6,7,8,9,10,11,12,13,14] .done) follows (by kernel_rfl) (fun e1 h1'=>h1'=h'∧e1.n=49∧e1.get 0=.one c∧e1.get 1=.one (.d (.int .i64 0))∧e1.get 2=.one (.d (.int .i64 (qs.length:Int)))∧e1.get 6=.one (.d (.int .i64 (i:Int)))∧e1.get 30=.one (.d (.bool false))) ?_ ?_
    ·simp[*,Plan.then_,vcPlan,Z01,Z00,callKind]
     exact⟨fun _ x y=>y,CutK.of (by simp[*])⟩
    ·rintro e1 h1' ⟨rfl,hn1,h01,h11,h21,h61,h30⟩
     simp[*]
     refine Back.of (n':=qs.length - (i+1)) (by omega) ⟨i+1,us,rfl,by omega,hpu,?_,by simp[hn1],by simp[h01],by simp[h11],by simp[h21],by simp[hiw],hs,hm'⟩
     rw[← hout]
     have e1:qs.length - i=(qs.length - (i+1))+1:=by omega
     rw[e1,outerS,← hin,innerS]
  | succ j=>
    have hul:us.length=qs.length:=hpu.length_eq
    have hml:=hm'.2.1
    obtain⟨l,cap,sp,hc,hb,hcap⟩:=hm'.block (by simp;omega)
    simp only[List.length_map,hul] at hc
    subst hc
    have hx1:us[j+1]?=some us[j+1]:=List.getElem?_eq_getElem (by omega)
    have hx0:us[j]?=some us[j]:=List.getElem?_eq_getElem (by omega)
    generalize us[j+1]=t1 at hx1
    generalize us[j]=t0 at hx0
    have hr1:=Z7q (sp:=sp) hx1
    have hr0:=Z7q (sp:=sp) hx0
    have hwj:IntKind.i64.wrap (j:Int)=(j:Int):=IntWalk.i64_in _ (by omega)
    have hj1:j+1 < qs.length:=by omega
    have hj0:j < qs.length:=by omega
    have hz:(0:Int)≤(j:Int)+1:=by omega
    refine Wait.cut (Plan.then_ [0,1,2,3,4,5,6,7,8,9,10,11,12,13,14] .done) follows (by kernel_rfl) (fun e1 h1'=>Same h h1' [l]∧h1'.box l=h'.box l∧e1.n=49∧e1.get 0=.one (.mrow l 0 qs.length cap)∧e1.get 1=.one (.d (.int .i64 0))∧e1.get 2=.one (.d (.int .i64 (qs.length:Int)))∧e1.get 6=.one (.d (.int .i64 (i:Int)))∧e1.get 7=.one (.d (.int .i64 ((j+1:Nat):Int)))∧e1.get 30=.one (.d (.bool (decide (t1 < t0))))) ?_ ?_
    ·simp[h0,h1,h2,h6,h7,hn,hz,hj1,hj0,hwj,hb,hr1,hr0,Plan.then_,vcPlan,Z01,Z00,callKind]
     refine Z02 (HSpec.of_lend (Zfb t1 t0 _ (Zt3 t1 t0)) ⟨.one (.frz (.data rfl)),.one (.frz (.data rfl)),trivial⟩ rfl ?_)
     simp[h0,h1,h2,h6,h7,hn,hz,hj1,hj0,hwj,hb,hr1,hr0,Plan.then_,vcPlan,Z01,Z00,callKind]
     have hsn:Same h h'.next [l]:=hs.next
     exact⟨fun _ _ x=>x,CutK.of (by simp[h0,h1,h2,h6,h7,hn,hsn])⟩
    ·rintro e1 h1' ⟨hs1,hb1,hn1,h01,h11,h21,h61,h71,h30⟩
     rw[hb] at hb1
     simp[h01,h11,h21,h61,h71,h30,hn1]
     have hst1:t1 < t0→innerS ltI j ((us.set (j+1) t0).set j t1)=innerS ltI i ws:=fun hx=>by rw[← hin];simp[innerS,hx1,hx0,ltI,hx]
     have hst2:¬ t1 < t0→us=innerS ltI i ws:=fun hx=>by rw[← hin];simp[innerS,hx1,hx0,ltI,hx]
     refine Z15 (fun hlt2=>?_) (fun hge2=>?_)
     ·simp[hn1]
      refine Wait.cut (Plan.then_ [0,1,2,3,4,5,6,7,8,9,10,11,12,13,14,15,16,17] .done) follows (by kernel_rfl) (fun e2 h2'=>Same h h2' [l]∧e2.n=49∧e2.get 0=.one (.mrow l 0 qs.length cap)∧e2.get 1=.one (.d (.int .i64 0))∧e2.get 2=.one (.d (.int .i64 (qs.length:Int)))∧e2.get 6=.one (.d (.int .i64 (i:Int)))∧e2.get 7=.one (.d (.int .i64 ((j+1:Nat):Int)))∧h2'.box l=some (rowBox (((us.set (j+1) t0).set j t1).map icell) sp)) ?_ ?_
      ·simp[h01,h11,h21,h61,h71,h30,hn1,hz,hj1,hj0,hwj,hb1,hr1,hr0,Plan.then_,vcPlan,Z01,Z00,callKind]
       rw[Zbo (by omega),Zbo (by simp;omega)]
       refine⟨by rw[Z95];omega,by rw[Z95];simp;omega,CutK.of ?_⟩
       simp[h01,h11,h21,h61,h71,hn1]
       exact (hs1.setBox (.inl (by simp))).setBox (.inl (by simp))
      ·rintro e2 h2' ⟨hs2,hn2,h02,h12,h22,h62,h72,hb2⟩
       simp[h02,h12,h22,h62,h72,hn2,hwj]
       have hpm:((us.set (j+1) t0).set j t1).Perm us:=Zc7 hx1 hx0
       have hfin:=hpm.trans hpu
       refine Back.of (n':=j) (by omega) ⟨j,_,rfl,by omega,hfin,hst1 hlt2,by simp[hn2],by simp[h02],by simp[h12],by simp[h22],by simp[h62],by simp,hs2,?_⟩
       refine⟨Z96,by simpa using hml,.inr ⟨l,cap,sp,by simp[hul],hb2,?_⟩⟩
       rw[Z95] at hcap ⊢
       simpa using hcap
     ·have hst3:=hst2 hge2
      simp[h01,h11,h21,h61,h71,h30,hn1]
      refine Back.of (n':=qs.length - (i+1)) (by omega) ⟨i+1,us,rfl,by omega,hpu,?_,by simp[hn1],by simp[h01],by simp[h11],by simp[h21],by simp[hiw],hs1,hm'.frame (by intro k hk;simp[labs] at hk;subst hk;rw[hb1,hb])⟩
      rw[← hout]
      have e1:qs.length - i=(qs.length - (i+1))+1:=by omega
      rw[e1,outerS,← hst3]
 ·simp[hn]
  have:qs.length - i=0:=by omega
  rw[this] at hout
  simp only[outerS] at hout
  exact hk _ (by unfold sortI;rw[← hout];exact hm') hs
theorem Zb6 (h:HS) (c:C) (qs:List Int) (k:Int) (hq:qs.length≤12) (hm:MR h 1 c (qs.map icell)) (K:V→HS→Prop)
  (hk:∀ h',MR h' 1 c ((sortI qs).map icell)→Same h h' (labs c)→K (.tup []) h') :
  HSpec Tryz.prog 120 [.one c,.one (.d (.int .i64 0)),.one (.d (.int .i64 (qs.length:Int))),.one (.d (.int .i64 k))] h K:=by
 refine HSpec.of_vc Tryz.func120 rfl (by kernel_rfl) (n:=134) rfl rfl (by simp) ?_
 simp
 have hw:IntKind.i64.wrap ((qs.length:Int) - 0)=(qs.length:Int):=by rw[Int.sub_zero];exact IntWalk.i64_in _ (by omega)
 have hw':IntKind.i64.wrap (qs.length:Int)=(qs.length:Int):=IntWalk.i64_in _ (by omega)
 refine Wait.rounds (fun n e h'=>h'=h∧e.n=134∧e.get 0=.one c∧e.get 1=.one (.d (.int .i64 0))∧e.get 2=.one (.d (.int .i64 (qs.length:Int)))) 0
  ⟨rfl,by simp,by simp,by simp,by simp⟩ ?_
 rintro n e h' ⟨rfl,hn,h0,h1,h2⟩
 simp[h0,h1,h2,hn,hw,hw']
 refine Z15 (fun _=>?_) (fun hge=>absurd (by omega) hge)
 simp[h0,h1,h2,hn]
 refine Z02 (Z87 h' c qs hm _ (fun h1' hm' hs'=>?_))
 simp[hn]
 exact hk _ hm' hs'
theorem Zcb {o:Option V} {v:V} {f:V→Prop} (h:o=some v) (hk:f v):optV o (k:=⟨f⟩):=by
 rw[h]
 exact hk
theorem Zp6 (n:Nat) (hn:n≤12):∃ k,PSpec Tryz.prog 142 [.one (.d (.int .u64 (n:Int)))] (.one (.d (.int .i64 k))):=by
 have key:∀ k:Int,(match n with | 0=>0 | 1=>1 | 2 | 3=>2 | 4 | 5 | 6 | 7=>3 | _=>(4:Int))=k→PSpec Tryz.prog 142 [.one (.d (.int .u64 (n:Int)))] (.one (.d (.int .i64 k))):=by
  intro k hk
  refine PSpec.of_vc Tryz.func142 rfl (by kernel_rfl) (n:=25) rfl rfl (by simp) ?_
  have h1:¬ ((4294967296:Int)≤n):=by omega
  have h2:¬ ((65536:Int)≤n):=by omega
  have h3:¬ ((256:Int)≤n):=by omega
  simp[h1,h2,h3]
  have hw:IntKind.u8.wrap (n:Int)=n:=by
   rcases (by omega:n=0∨n=1∨n=2∨n=3∨n=4∨n=5∨n=6∨n=7∨n=8∨n=9∨n=10∨n=11∨n=12) with h | h | h | h | h | h | h | h | h | h | h | h | h<;>subst h<;>rfl
  rw[hw,if_pos (by omega)]
  rcases (by omega:n=0∨n=1∨n=2∨n=3∨n=4∨n=5∨n=6∨n=7∨n=8∨n=9∨n=10∨n=11∨n=12) with h | h | h | h | h | h | h | h | h | h | h | h | h<;>subst h<;>simp at hk<;>subst hk
  all_goals
   first
    | refine Zcb (v:=.one (.d (.int .u8 0))) (by rfl) ?_
    | refine Zcb (v:=.one (.d (.int .u8 1))) (by rfl) ?_
    | refine Zcb (v:=.one (.d (.int .u8 2))) (by rfl) ?_
    | refine Zcb (v:=.one (.d (.int .u8 3))) (by rfl) ?_
    | refine Zcb (v:=.one (.d (.int .u8 4))) (by rfl) ?_
   simp
   exact ret_d (by simp;rfl) rfl
 exact⟨_,key _ rfl⟩
theorem bitsLen (n:Nat) (hn:n≤12):∃ k,PSpec Tryz.prog 121 [.one (.d (.int .u64 (n:Int)))] (.one (.d (.int .i64 k))):=by
 obtain⟨k,hk⟩:=Zp6 n hn
 refine⟨k,PSpec.of_vc Tryz.func121 rfl (by kernel_rfl) (n:=8) rfl rfl (by simp) ?_⟩
 simp
 refine Z3e hk (by simp) ?_
 simp
 exact ret_d (by simp;rfl) rfl
theorem Zcu (h:HS) (c:C) (qs:List Int) (hq:qs.length≤12) (hm:MR h 1 c (qs.map icell)) (K:V→HS→Prop)
  (hk:∀ h',MR h' 1 c ((sortI qs).map icell)→Same h h' (labs c)→K (.tup []) h') :
  HSpec Tryz.prog 96 [.one c] h K:=by
 refine HSpec.of_vc Tryz.func96 rfl (by kernel_rfl) (n:=11) rfl rfl (by simp) ?_
 simp
 obtain⟨kb,hkb⟩:=bitsLen qs.length hq
 have hwu:∀ n:Int,n=(qs.length:Int)→IntKind.u64.wrap n=(qs.length:Int):=by
  rintro _ rfl
  simp[IntKind.wrap,IntKind.signed,IntKind.bits]
  omega
 have key:∀ (n:Int) (K1:V→HS→Prop),n=(qs.length:Int)→(∀ h',MR h' 1 c ((sortI qs).map icell)→Same h h' (labs c)→K1 (.tup []) h') →
   ∀ h1,h1=h.next→HSpec Tryz.prog 120 [.one c,.one (.d (.int .i64 0)),.one (.d (.int .i64 n)),.one (.d (.int .i64 kb))] h1 K1:=by
  rintro _ K1 rfl hk1 _ rfl
  refine Zb6 h.next c qs kb hq (hm.frame fun _ _=>rfl) K1 fun h' hm' hs'=>hk1 h' hm' ?_
  exact⟨by have:=hs'.1;simp at this;omega,fun k hk hn=>hs'.2 k (by simp;omega) hn⟩
 rcases hm.2.2 with ⟨h1,rfl | rfl⟩ | ⟨l,cap,sp,rfl,_,_⟩
 ·have h2:qs.length=0:=by simpa using congrArg List.length h1
  simp
  rw[hwu 0 (by omega)]
  refine Z02 (HSpec.of_lend hkb ⟨.one (.frz (.data rfl)),trivial⟩ rfl ?_)
  simp
  refine Z02 (key _ _ (by omega) (fun h' hm' hs'=>?_) _ rfl)
  simp
  exact hk _ hm' hs'
 ·have h2:qs.length=0:=by simpa using congrArg List.length h1
  simp
  rw[hwu 0 (by omega)]
  refine Z02 (HSpec.of_lend hkb ⟨.one (.frz (.data rfl)),trivial⟩ rfl ?_)
  simp
  refine Z02 (key _ _ (by omega) (fun h' hm' hs'=>?_) _ rfl)
  simp
  exact hk _ hm' hs'
 ·simp only[List.length_map] at key hm hk ⊢
  simp
  rw[hwu _ rfl]
  refine Z02 (HSpec.of_lend hkb ⟨.one (.frz (.data rfl)),trivial⟩ rfl ?_)
  simp
  refine Z02 (key _ _ rfl (fun h' hm' hs'=>?_) _ rfl)
  simp
  exact hk _ hm' hs'
def dd:List Int→List Int
 | []=>[]
 | [x]=>[x]
 | x::y::r=>if x=y then dd (y::r) else x::dd (y::r)
theorem Zim (a b:Int):∀ l:List Int,dd (l++[a,b])=if a=b then dd (l++[a]) else dd (l++[a])++[b]
 | []=>by
   by_cases h:a=b
   ·subst h;simp[dd]
   ·simp[dd,h]
 | [x]=>by
   have ih:=Zim a b []
   simp only[List.nil_append] at ih
   simp only[List.cons_append,List.nil_append,dd]
   simp only[dd] at ih
   by_cases h:a=b<;>by_cases h2:x=a<;>simp[h,h2,ih]
 | x::y::l=>by
   have ih:=Zim a b (y::l)
   simp only[List.cons_append,dd] at ih ⊢
   by_cases h:a=b<;>by_cases h2:x=y<;>simp[h,h2] at ih ⊢<;>exact ih
theorem Zp0 {xs:List Int} {j:Nat} {a b:Int} (ha:xs[j]?=some a) (hb:xs[j+1]?=some b):dd (xs.take (j+2))=if a=b then dd (xs.take (j+1)) else dd (xs.take (j+1))++[b]:=by
 obtain⟨h1,h2⟩:=List.getElem?_eq_some_iff.1 ha
 obtain⟨h3,h4⟩:=List.getElem?_eq_some_iff.1 hb
 rw[List.take_succ_eq_append_getElem h3,List.take_succ_eq_append_getElem h1,h2,h4,List.append_assoc]
 exact Zim a b _
theorem dd_one {xs:List Int} (h:0 < xs.length):dd (xs.take 1)=xs.take 1:=by
 match xs,h with
 | x::r,_=>rfl
theorem Zb5 (h:HS) (c:C) (qs:List Int) (hm:MR h 1 c (qs.map icell)) (K:V→HS→Prop)
  (hk:∀ c' h',MR h' 1 c' ((dd qs).map icell)→Same h h' (labs c)→(∀ l ∈ labs c',l ∈ labs c)→K (.one c') h') :
  HSpec Tryz.prog 97 [.one c] h K:=by
 refine HSpec.of_vc Tryz.func97 rfl (by kernel_rfl) (n:=61) rfl rfl (by simp) ?_
 simp
 rcases hm.2.2 with ⟨h1,rfl | rfl⟩ | ⟨l,cap,sp,rfl,hb,hcap⟩
 ·obtain rfl:qs=[]:=by simpa using h1
  simp
  exact hk _ _ hm .refl (fun _ h=>h)
 ·obtain rfl:qs=[]:=by simpa using h1
  simp
  exact hk _ _ hm .refl (fun _ h=>h)
 simp only[List.length_map] at hm hk hb hcap ⊢
 have hlim:qs.length≤2097152:=by simpa using hm.2.1
 have hcl:qs.length+sp.length=cap:=by rw[Z95] at hcap;simpa using hcap
 simp
 refine Z15 (fun hlt2=>?_) (fun hge2=>?_)
 ·simp
  have hdd:dd qs=qs:=by
   match qs,hlt2 with
   | [],_=>rfl
   | [x],_=>rfl
   | _::_::_,h=>simp at h;omega
  exact hk _ _ (by rw[hdd];exact hm) .refl (fun _ h=>h)
 simp
 refine Wait.rounds (fun n e h'=>∃ (k:Nat),n=qs.length - k∧1≤k∧k≤qs.length∧h'=h∧dd (qs.take k)=qs.take k∧e.n=61∧e.get 0=.one (.mrow l 0 qs.length cap)∧e.get 3=.one (.d (.int .i64 (k:Int)))) (qs.length - 1)
  ⟨1,rfl,by omega,by omega,rfl,dd_one (by omega),by simp,by simp,by simp⟩ ?_
 rintro n e h' ⟨k,rfl,hk1,hkl,rfl,hdk,hn,h0,h3⟩
 simp[h0,h3,hn]
 refine Z15 (fun hlt=>?_) (fun hge=>?_)
 ·simp[h0,h3,hn]
  obtain⟨j,rfl⟩:∃ j,k=j+1:=⟨k - 1,by omega⟩
  have hx1:qs[j+1]?=some qs[j+1]:=List.getElem?_eq_getElem (by omega)
  have hx0:qs[j]?=some qs[j]:=List.getElem?_eq_getElem (by omega)
  have hdt:=Zp0 hx0 hx1
  generalize qs[j+1]=t1 at hx1 hdt
  generalize qs[j]=t0 at hx0 hdt
  have hr1:=Z7q (sp:=sp) hx1
  have hr0:=Z7q (sp:=sp) hx0
  have hwj:IntKind.i64.wrap (j:Int)=(j:Int):=IntWalk.i64_in _ (by omega)
  have hj0:j < qs.length:=by omega
  have hz:(0:Int)≤(j:Int)+1:=by omega
  have hw1:=IntWalk.i64_in ((j:Int)+1+1) (by omega)
  refine Wait.cut (Plan.then_ [0,1,2,3,4,5,6,7,8,9] .done) follows (by kernel_rfl) (fun e1 h1'=>h1'=h'∧e1.n=61∧e1.get 0=.one (.mrow l 0 qs.length cap)∧e1.get 3=.one (.d (.int .i64 ((j+1:Nat):Int)))∧e1.get 25=.one (.d (.bool (t1 == t0)))) ?_ ?_
  ·simp[h0,h3,hn,hz,hj0,hlt,hwj,hb,hr1,hr0,Plan.then_,vcPlan,Z01,Z00,callKind]
   exact CutK.of (by simp[h0,h3,hn])
  rintro e1 h1' ⟨rfl,hn1,h01,h31,h25⟩
  simp[h01,h31,h25,hn1]
  refine Z5c (fun heq=>?_) (fun hne=>?_)
  ·obtain rfl:t1=t0:=by simpa using heq
   rw[if_pos rfl] at hdt
   have hkc:j+1 < cap:=by omega
   simp[h01,h31,hn1,hz]
   refine Z14 ⟨by omega,by omega⟩ (fun _=>?_) (fun h=>absurd hkc (by simpa using h))
   simp[h01,h31,hn1]
   refine Wait.rounds (fun n e h2=>∃ (k2 a:Nat) (ys:List Int),n=qs.length - (j+1+k2)∧1≤k2∧j+1+k2≤qs.length∧a < j+1+k2∧ys.length=qs.length∧ys.take a=dd (qs.take (j+1+k2))∧ys.drop (j+k2)=qs.drop (j+k2) ∧
    e.n=61∧e.get 0=.one (.mrow l 0 qs.length cap)∧e.get 3=.one (.d (.int .i64 (a:Int)))∧e.get 4=.one (.mrow l (j+1) (qs.length - (j+1)) (cap - (j+1)))∧e.get 5=.one (.d (.int .i64 (k2:Int))) ∧
    Same h1' h2 [l]∧h2.box l=some (rowBox (ys.map icell) sp)) (qs.length - (j+1+1)) ?_ ?_
   ·exact⟨1,j+1,qs,rfl,by omega,by omega,by omega,rfl,by rw[hdt,hdk],rfl,by simp[hn1],by simp[h01,hn1],by simp[h31,hn1],by simp[hn1],by simp[hn1],.refl,hb⟩
   clear hn1 h01 h31 h25 hn h0 h3
   rintro n e h2 ⟨k2,a,ys,rfl,hk2,hjk,hak,hyl,hyt,hyd,hn,h0,h3,h4,h5,hs2,hb2⟩
   simp[h0,h3,h4,h5,hn]
   refine Z15 (fun hlt3=>?_) (fun hge3=>?_)
   ·simp[h0,h3,h4,h5,hn]
    obtain⟨m,rfl⟩:∃ m,k2=m+1:=⟨k2 - 1,by omega⟩
    have hlt4:m+1 < qs.length - (j+1):=by omega
    have hlt5:m < qs.length - (j+1):=by omega
    have hx1:qs[j+(m+1)+1]?=some qs[j+(m+1)+1]:=List.getElem?_eq_getElem (by omega)
    have hx0:qs[j+(m+1)]?=some qs[j+(m+1)]:=List.getElem?_eq_getElem (by omega)
    have hdt2:=Zp0 hx0 hx1
    generalize qs[j+(m+1)+1]=u1 at hx1 hdt2
    generalize qs[j+(m+1)]=u0 at hx0 hdt2
    have hy0:ys[j+1+m]?=some u0:=by
     have h1:(ys.drop (j+(m+1)))[0]?=(qs.drop (j+(m+1)))[0]?:=by rw[hyd]
     rw[List.getElem?_drop,List.getElem?_drop,Nat.add_zero,hx0] at h1
     rw[show j+1+m=j+(m+1) by omega];exact h1
    have hy1:ys[j+1+(m+1)]?=some u1:=by
     have h1:(ys.drop (j+(m+1)))[1]?=(qs.drop (j+(m+1)))[1]?:=by rw[hyd]
     rw[List.getElem?_drop,List.getElem?_drop,hx1] at h1
     rw[show j+1+(m+1)=j+(m+1)+1 by omega];exact h1
    have hr1:=Z7q (sp:=sp) hy1
    have hr0:=Z7q (sp:=sp) hy0
    have hwm:IntKind.i64.wrap (m:Int)=(m:Int):=IntWalk.i64_in _ (by omega)
    have hzm:(0:Int)≤(m:Int)+1:=by omega
    have hwm1:=IntWalk.i64_in ((m:Int)+1+1) (by omega)
    have hwa:=IntWalk.i64_in ((a:Int)+1) (by omega)
    have hdn:ys.drop (j+(m+1+1))=qs.drop (j+(m+1+1)):=by
     rw[show j+(m+1+1)=j+(m+1)+1 by omega,← List.drop_drop,hyd,List.drop_drop]
    refine Wait.cut (Plan.then_ [0,1,2,3,4,5,6,7,8,9] .done) follows (by kernel_rfl) (fun e1 h1=>h1=h2∧e1.n=61∧e1.get 0=.one (.mrow l 0 qs.length cap)∧e1.get 3=.one (.d (.int .i64 (a:Int)))∧e1.get 4=.one (.mrow l (j+1) (qs.length - (j+1)) (cap - (j+1)))∧e1.get 5=.one (.d (.int .i64 ((m+1:Nat):Int)))∧e1.get 44=.one (.d (.bool (u1 != u0)))) ?_ ?_
    ·simp[h0,h3,h4,h5,hn,hzm,hlt4,hlt5,hwm,hb2,hr1,hr0,Plan.then_,vcPlan,Z01,Z00,callKind]
     exact CutK.of (by simp[h0,h3,h4,h5,hn])
    clear hn h0 h3 h4 h5
    rintro e1 h1 ⟨rfl,hn,h0,h3,h4,h5,h44⟩
    simp[h0,h3,h4,h5,h44,hn]
    refine Z5c (fun hne=>?_) (fun heq=>?_)
    ·have hne':¬ u0=u1:=by intro h9;simp[h9] at hne
     rw[if_neg hne'] at hdt2
     have haq:a < qs.length:=by omega
     simp[h0,h3,h4,h5,hn,hzm,hlt4,hb2,hr1,haq]
     rw[Zbo (by omega)]
     refine⟨by rw[Z95];omega,?_⟩
     simp[h0,h3,h4,h5,hn,hwa,hwm1]
     refine Back.of (n':=qs.length - (j+1+(m+1+1))) (by omega) ⟨m+1+1,a+1,ys.set a u1,rfl,by omega,by omega,by omega,by simpa using hyl,?_,?_,by simp[hn],by simp[h0],by simp[h3],by simp[h4],by simp,hs2.setBox (.inl (by simp)),by simp⟩
     ·rw[Z6c (by omega),hyt,show j+1+(m+1+1)=j+(m+1)+2 by omega,hdt2]
      congr 3
      omega
     ·rw[List.drop_set_of_lt (by omega),hdn]
    ·have heq':u0=u1:=by
      have h9:u1=u0:=by simpa using heq
      exact h9.symm
     rw[if_pos heq'] at hdt2
     simp[h0,h3,h4,h5,hn,hwm1]
     refine Back.of (n':=qs.length - (j+1+(m+1+1))) (by omega) ⟨m+1+1,a,ys,rfl,by omega,by omega,by omega,hyl,?_,hdn,by simp[hn],by simp[h0],by simp[h3],by simp[h4],by simp,hs2,hb2⟩
     rw[hyt,show j+1+(m+1+1)=j+(m+1)+2 by omega,hdt2]
     congr 2
     omega
   ·have hend:j+1+k2=qs.length:=by omega
    rw[hend,List.take_length] at hyt
    have hac:a < cap:=by omega
    have hale:a≤qs.length:=by omega
    have hyal:(ys.take a).length=a:=by simp;omega
    have hbx:rowBox (ys.map icell) sp=rowBox ((ys.take a).map icell) (((ys.drop a).map icell).flatten++sp):=by
     simp only[rowBox,← List.append_assoc,← List.flatten_append,← List.map_append,List.take_append_drop]
    have hcp:∀ vs,Z03 (rowBox (ys.map icell) sp) a vs=rowBox ((dd qs).map icell) (Z03 (((ys.drop a).map icell).flatten++sp) 0 vs):=fun vs=>by
     have:=Z3t (sp:=((ys.drop a).map icell).flatten++sp) (vs:=vs) (Z96 (us:=ys.take a))
     rw[List.length_map,hyal,← hbx,hyt,Nat.mul_one] at this
     exact this
    have hbl:(rowBox (ys.map icell) sp).length=cap:=by rw[Z95];omega
    simp[h0,h3,hn]
    refine Z14 ⟨hale,by omega⟩ (fun _=>?_) (fun h=>absurd hac h)
    simp[h0,h3,hn]
    refine Z22 Z8l ty_ze3 hb2 (by decide) (by rw[hbl];omega) ?_
    have hqc:qs.length≤cap:=by omega
    simp[h0,h3,hn,hac,hqc]
    refine Z14 (by omega) (fun _=>?_) (fun h=>absurd (by omega) h)
    simp[hn]
    rw[hcp]
    refine hk (.mrow l 0 a cap) _ ⟨Z96,?_,.inr ⟨l,cap,Z03 (((ys.drop a).map icell).flatten++sp) 0 _,?_,Z6q.trans (if_pos rfl),?_⟩⟩ (hs2.setBox (l:=l) (.inl (by simp))) (by simp[labs])
    ·rw[← hyt];simp;omega
    ·rw[← hyt];simp;omega
    ·rw[← hcp,Z07 (by rw[hbl];simp;omega),hbl,Nat.mul_one]
  ·have hne':¬ t0=t1:=by intro h9;simp[h9] at hne
   rw[if_neg hne'] at hdt
   simp[h01,h31,hn1,hw1]
   refine Back.of (n':=qs.length - (j+1+1)) (by omega) ⟨j+1+1,rfl,by omega,by omega,rfl,?_,by simp[hn1],by simp[h01],by simp⟩
   rw[hdt,hdk]
   obtain⟨h8,h9⟩:=List.getElem?_eq_some_iff.1 hx1
   rw[List.take_succ_eq_append_getElem h8,h9]
 ·have hke:k=qs.length:=by omega
  rw[hke,List.take_length] at hdk
  simp[h0,hn]
  exact hk _ _ (by rw[hdk];exact hm) .refl (fun _ h=>h)
def Z28 (t:Tbl) (r_:Rule):Option (List Int):=chkK (t.pk.length+r_.cols.length≤12) (some (dd (sortI (t.pk++r_.cols))))
theorem Zog (xs:List Int):(sortI xs).length=xs.length:=(Z9k ltI _ _ xs).length_eq
theorem Z6l (t:Tbl) (r_:Rule) (r:List Int) (hm:Is (Z28 t r_) r):PSpec Tryz.prog 51 [.agg t.enc,.agg r_.enc] (.one (.d (.sl (r.map encI)))):=by
 obtain⟨hl,hm⟩:=hm.chk
 obtain rfl:=r_ret hm
 refine PSpec.of_heap ?_
 show HSpec _ _ [.agg (t.enc.map C.d),.agg (r_.enc.map C.d)] HS.init _
 refine HSpec.of_vc Tryz.func51 rfl (by kernel_rfl) (n:=16) rfl rfl (by simp) ?_
 simp
 have hF:[t.pk.map encI,r_.cols.map encI].flatten.map (·.map C.d)=(t.pk++r_.cols).map icell:=by
  have hi:icell=fun x=>[C.d (.int .i64 x)]:=rfl
  rw[hi]
  simp[Function.comp_def]
 refine Z02 (Zbr _ _ [t.pk.map encI,r_.cols.map encI] (.inr ⟨_,rfl⟩) (fun xs hxs x hx=>?_) (by simp;omega) _ (fun c1 h1 hm1 hs1 hl1=>?_))
 ·simp at hxs
  rcases hxs with rfl | rfl<;>(obtain⟨y,_,rfl⟩:=List.mem_map.1 hx;rfl)
 rw[hF] at hm1
 simp
 refine Z02 (Zcu _ c1 (t.pk++r_.cols) (by simp;omega) (hm1.frame fun _ _=>rfl) _ (fun h2 hm2 hs2=>?_))
 simp
 refine Z02 (Zb5 _ c1 (sortI (t.pk++r_.cols)) (hm2.frame fun _ _=>rfl) _ (fun c2 h3 hm3 hs3 hl3=>?_))
 simp
 have hE:(dd (sortI (t.pk++r_.cols))).map icell=((dd (sortI (t.pk++r_.cols))).map encI).map (·.map C.d):=by
  have hi:icell=fun x=>[C.d (.int .i64 x)]:=rfl
  rw[hi]
  simp[Function.comp_def]
 rw[hE] at hm3
 exact hm3.frz (List.length_map _) (fun t ht=>by obtain⟨y,_,rfl⟩:=List.mem_map.1 ht;rfl) (fun i x t hx ht=>by
   rw[List.getElem?_map] at hx
   rw[ht] at hx
   simp only[Option.map_some,Option.some.injEq] at hx
   subst hx
   exact Zei)
end Go.Proofs.YthgepknlibmjcaaGreat
end
section
namespace Go.Proofs.YthgepknlibmjcaaGreat
open Go.Am
def Z38 (s_:List Rule) (f:Rule→Option Bool):Option Int:=
 (forK (fun (i2:Nat) (x2:Rule) (s2:Unit) next_2=>(bindK (f x2) fun v3=>(bif v3 then (some (i2:Int)) else (next_2 ())))) (fun (s2:Unit)=>(some (-1))) s_ 0 ())
theorem Z9s (s_:List Rule) (g:FuncId) (caps:List (List D)) (f:Rule→Option Bool) (hf:∀ xa v,Is (f xa) v→PSpec Tryz.prog g (.agg xa.enc::capsOf caps) (.one (.d (.bool v)))) (r:Int) (hm:Is (Z38 s_ f) r):PSpec Tryz.prog 91 [.one (.d (.sl (s_.map Rule.enc))),.one (.fn g caps)] (.one (.d (.int .i64 r))):=by
 unfold Z38 at hm
 refine PSpec.of_vc Tryz.func91 rfl (by kernel_rfl) (n:=19) rfl rfl (by simp) ?_
 try simp[*]
 intro hl1
 replace hl1:s_.length≤2097152:=by simpa using hl1
 refine Wait.for (xs:=s_) (s0:=()) (fun i2 s2 e2 h2=>e2.n=19∧e2.get 0=.one (.d (.sl (s_.map Rule.enc)))∧e2.get 1=.one (.fn g (caps.map Cap.rp))∧e2.get 7=.one (.d (.int .i64 (s_.length:Int)))∧e2.get 8=.one (.d (.int .i64 (i2:Int)))) hm (by simp[*]) ?_ ?_
 ·rintro i2 s2 e2 h2 ⟨hn2,h2_0,h2_1,h2_7,h2_8⟩ hlt2 hm
  have hw2:IntKind.i64.wrap ((i2:Int)+1)=(i2:Int)+1:=IntWalk.i64_in _ (by omega)
  try simp[*]
  refine Z9i (av:=[.agg (s_[i2]).enc]) (cs:=caps) hm (fun v hv=>hf _ v hv) (by simp[*]) (by simp[*]) ?_
  clear hm;intro v3 hvv3 hm
  try simp[*]
  refine r_cond hm ?_ ?_<;>clear hm<;>intro hc4 hm
  ·try simp[*]
   obtain rfl:=r_ret hm
   exact ret0 (vs:=[_]) (by simp[*];try exact rfl) (by simp[*])
  ·try simp[*]
   exact BackF.of () ⟨(by simp[*]),hm⟩
 ·rintro s2 e2 h2 ⟨hn2,h2_0,h2_1,h2_7,h2_8⟩ hm
  try simp[*]
  obtain rfl:=r_ret hm
  exact ret0 (vs:=[_]) (by simp[*];try exact rfl) (by simp[*])
def Z4d (r_:Rule) (k0:ByteArray) (k1:Int) (k2:ByteArray):Option Bool:=
 (bif strEq r_.user k0 then (bif (r_.version == k1) then (some (strEq r_.table k2)) else (some false)) else (some false))
theorem Zd7 (r_:Rule) (k0:ByteArray) (k1:Int) (k2:ByteArray) (r:Bool) (hm:Is (Z4d r_ k0 k1 k2) r):PSpec Tryz.prog 92 [.agg r_.enc,.one (.rp [.str k0]),.one (.rp [.int .i64 k1]),.one (.rp [.str k2])] (.one (.d (.bool r))):=by
 unfold Z4d at hm
 refine PSpec.of_vc Tryz.func92 rfl (by kernel_rfl) (n:=22) rfl rfl (by simp) ?_
 try simp[*]
 refine Z08 hm ?_ ?_<;>clear hm<;>intro hc2 hm
 ·try simp[*]
  refine Z08 hm ?_ ?_<;>clear hm<;>intro hc3 hm
  ·try simp[*]
   obtain rfl:=r_ret hm
   exact ret0 (vs:=[_]) (by simp[*];try exact rfl) (by simp[*])
  ·try simp[*]
   obtain rfl:=r_ret hm
   exact ret0 (vs:=[_]) (by simp[*];try exact rfl) (by simp[*])
 ·try simp[*]
  obtain rfl:=r_ret hm
  exact ret0 (vs:=[_]) (by simp[*];try exact rfl) (by simp[*])
def Z3k (rules:List Rule) (user:ByteArray) (v_:Int) (table:ByteArray):Option (Rule × Bool):=
 (bindK (Z38 rules (fun xa_=>Z4d xa_ user v_ table)) fun v5=>(bif decide (v5 < 0) then (some ((Rule.mk ByteArray.empty 0 ByteArray.empty [] [] false),false)) else (getK rules v5 fun x7=>(some (x7,true)))))
theorem Z6m (rules:List Rule) (user:ByteArray) (v_:Int) (table:ByteArray) (r:Rule × Bool) (hm:Is (Z3k rules user v_ table) r):PSpec Tryz.prog 49 [.one (.d (.sl (rules.map Rule.enc))),.one (.d (.str user)),.one (.d (.int .i64 v_)),.one (.d (.str table))] (.tup [.agg (r.1.enc.map RC.d),.one (.d (.bool r.2))]):=by
 unfold Z3k at hm
 refine PSpec.of_vc Tryz.func49 rfl (by kernel_rfl) (n:=21) rfl rfl (by simp) ?_
 try simp[*]
 refine r_call (av:=[.one (.d (.sl (rules.map Rule.enc))),.one (.fn 92 [[.str user],[.int .i64 v_],[.str table]])]) hm (fun v hv=>Z9s _ 92 [[.str user],[.int .i64 v_],[.str table]] _ (fun xa_ v hv=>Zd7 xa_ _ _ _ v hv) v hv) (by simp[*]) ?_
 clear hm;intro v5 hvv5 hm
 try simp[*]
 refine r_cond hm ?_ ?_<;>clear hm<;>intro hc6 hm
 ·try simp[*]
  obtain rfl:=r_ret hm
  exact ret0 (vs:=[_,_]) (by simp[*];try exact⟨rfl,rfl⟩) (by simp[*])
 ·try simp[*]
  replace hm:=hm.get
  obtain⟨x7,h0x7,hxx7,hm⟩:=hm
  try simp[*]
  obtain rfl:=r_ret hm
  exact ret0 (vs:=[_,_]) (by simp[*];try exact⟨rfl,rfl⟩) (by simp[*])
def Z0r (t:Tbl) (p:Cons):Option Int:=
 (bif !(strEq p.table t.name) then (some 23) else (bif !(strEq p.op ({ data:=#[61] })) then (bif !(strEq p.op ({ data:=#[60] })) then (bif !(strEq p.op ({ data:=#[60,61] })) then (some 22) else (bindK (Z09 t.pk p.left) fun v7=>(bif !v7 then (some 9) else (bif (p.right != (-1)) then (bindK (Z09 t.pk p.right) fun v10=>(bif !v10 then (some 9) else (bif (p.right == (-1)) then (bindK (Z0d p.value) fun v13=>(some v13)) else (bif (!(p.value.kind == 0) || (!(p.value.int == 0) || (!(p.value.text == ByteArray.empty)))) then (some 3) else (some 0))))) else (bif (p.right == (-1)) then (bindK (Z0d p.value) fun v16=>(some v16)) else (bif (!(p.value.kind == 0) || (!(p.value.int == 0) || (!(p.value.text == ByteArray.empty)))) then (some 3) else (some 0))))))) else (bindK (Z09 t.pk p.left) fun v18=>(bif !v18 then (some 9) else (bif (p.right != (-1)) then (bindK (Z09 t.pk p.right) fun v21=>(bif !v21 then (some 9) else (bif (p.right == (-1)) then (bindK (Z0d p.value) fun v24=>(some v24)) else (bif (!(p.value.kind == 0) || (!(p.value.int == 0) || (!(p.value.text == ByteArray.empty)))) then (some 3) else (some 0))))) else (bif (p.right == (-1)) then (bindK (Z0d p.value) fun v27=>(some v27)) else (bif (!(p.value.kind == 0) || (!(p.value.int == 0) || (!(p.value.text == ByteArray.empty)))) then (some 3) else (some 0))))))) else (bindK (Z09 t.pk p.left) fun v29=>(bif !v29 then (some 9) else (bif (p.right != (-1)) then (bindK (Z09 t.pk p.right) fun v32=>(bif !v32 then (some 9) else (bif (p.right == (-1)) then (bindK (Z0d p.value) fun v35=>(some v35)) else (bif (!(p.value.kind == 0) || (!(p.value.int == 0) || (!(p.value.text == ByteArray.empty)))) then (some 3) else (some 0))))) else (bif (p.right == (-1)) then (bindK (Z0d p.value) fun v38=>(some v38)) else (bif (!(p.value.kind == 0) || (!(p.value.int == 0) || (!(p.value.text == ByteArray.empty)))) then (some 3) else (some 0))))))))
theorem Z5i (t:Tbl) (p:Cons) (r:Int) (hm:Is (Z0r t p) r):PSpec Tryz.prog 104 [.agg t.enc,.agg p.enc] (.one (.d (.int .i64 r))):=by
 unfold Z0r at hm
 refine PSpec.of_vc Tryz.func104 rfl (by kernel_rfl) (n:=57) rfl rfl (by simp) ?_
 try simp[*]
 refine r_cond hm ?_ ?_<;>clear hm<;>intro hc3 hm
 ·try simp[*]
  obtain rfl:=r_ret hm
  exact ret0 (vs:=[_]) (by simp[*];try exact rfl) (by simp[*])
 ·try simp[*]
  refine Z08 hm ?_ ?_<;>clear hm<;>intro hc4 hm
  ·try simp[*]
   refine Z08 hm ?_ ?_<;>clear hm<;>intro hc5 hm
   ·try simp[*]
    refine r_cond hm ?_ ?_<;>clear hm<;>intro hc6 hm
    ·try simp[*]
     obtain rfl:=r_ret hm
     exact ret0 (vs:=[_]) (by simp[*];try exact rfl) (by simp[*])
    ·try simp[*]
     refine r_call (av:=[.one (.d (.sl (t.pk.map encI))),.one (.d (.int .i64 p.left))]) hm (fun v hv=>Z0l _ _ v hv) (by simp[*]) ?_
     clear hm;intro v7 hvv7 hm
     try simp[*]
     refine Z0b hm ?_ ?_<;>clear hm<;>intro hc8 hm
     ·try simp[*]
      obtain rfl:=r_ret hm
      exact ret0 (vs:=[_]) (by simp[*];try exact rfl) (by simp[*])
     ·try simp[*]
      refine Z08 hm ?_ ?_<;>clear hm<;>intro hc9 hm
      ·try simp[*]
       refine r_call (av:=[.one (.d (.sl (t.pk.map encI))),.one (.d (.int .i64 p.right))]) hm (fun v hv=>Z0l _ _ v hv) (by simp[*]) ?_
       clear hm;intro v10 hvv10 hm
       try simp[*]
       refine r_cond hm ?_ ?_<;>clear hm<;>intro hc11 hm
       ·try simp[*]
        obtain rfl:=r_ret hm
        exact ret0 (vs:=[_]) (by simp[*];try exact rfl) (by simp[*])
       ·try simp[*]
        refine r_cond hm ?_ ?_<;>clear hm<;>intro hc12 hm
        ·try simp[*]
         refine r_call (av:=[.agg p.value.enc]) hm (fun v hv=>Z1a _ v hv) (by simp[*]) ?_
         clear hm;intro v13 hvv13 hm
         try simp[*]
         obtain rfl:=r_ret hm
         exact ret0 (vs:=[_]) (by simp[*];try exact rfl) (by simp[*])
        ·try simp[*]
         refine r_cond hm ?_ ?_<;>clear hm<;>intro hc14 hm
         ·try simp[*]
          obtain rfl:=r_ret hm
          exact ret0 (vs:=[_]) (by simp[*];try exact rfl) (by simp[*])
         ·try simp[*]
          obtain rfl:=r_ret hm
          exact ret0 (vs:=[_]) (by simp[*];try exact rfl) (by simp[*])
      ·try simp[*]
       refine r_cond hm ?_ ?_<;>clear hm<;>intro hc15 hm
       ·try simp[*]
        refine r_call (av:=[.agg p.value.enc]) hm (fun v hv=>Z1a _ v hv) (by simp[*]) ?_
        clear hm;intro v16 hvv16 hm
        try simp[*]
        obtain rfl:=r_ret hm
        exact ret0 (vs:=[_]) (by simp[*];try exact rfl) (by simp[*])
       ·try simp[*]
        refine r_cond hm ?_ ?_<;>clear hm<;>intro hc17 hm
        ·try simp[*]
         obtain rfl:=r_ret hm
         exact ret0 (vs:=[_]) (by simp[*];try exact rfl) (by simp[*])
        ·try simp[*]
         obtain rfl:=r_ret hm
         exact ret0 (vs:=[_]) (by simp[*];try exact rfl) (by simp[*])
   ·try simp[*]
    refine r_call (av:=[.one (.d (.sl (t.pk.map encI))),.one (.d (.int .i64 p.left))]) hm (fun v hv=>Z0l _ _ v hv) (by simp[*]) ?_
    clear hm;intro v18 hvv18 hm
    try simp[*]
    refine Z0b hm ?_ ?_<;>clear hm<;>intro hc19 hm
    ·try simp[*]
     obtain rfl:=r_ret hm
     exact ret0 (vs:=[_]) (by simp[*];try exact rfl) (by simp[*])
    ·try simp[*]
     refine Z08 hm ?_ ?_<;>clear hm<;>intro hc20 hm
     ·try simp[*]
      refine r_call (av:=[.one (.d (.sl (t.pk.map encI))),.one (.d (.int .i64 p.right))]) hm (fun v hv=>Z0l _ _ v hv) (by simp[*]) ?_
      clear hm;intro v21 hvv21 hm
      try simp[*]
      refine r_cond hm ?_ ?_<;>clear hm<;>intro hc22 hm
      ·try simp[*]
       obtain rfl:=r_ret hm
       exact ret0 (vs:=[_]) (by simp[*];try exact rfl) (by simp[*])
      ·try simp[*]
       refine r_cond hm ?_ ?_<;>clear hm<;>intro hc23 hm
       ·try simp[*]
        refine r_call (av:=[.agg p.value.enc]) hm (fun v hv=>Z1a _ v hv) (by simp[*]) ?_
        clear hm;intro v24 hvv24 hm
        try simp[*]
        obtain rfl:=r_ret hm
        exact ret0 (vs:=[_]) (by simp[*];try exact rfl) (by simp[*])
       ·try simp[*]
        refine r_cond hm ?_ ?_<;>clear hm<;>intro hc25 hm
        ·try simp[*]
         obtain rfl:=r_ret hm
         exact ret0 (vs:=[_]) (by simp[*];try exact rfl) (by simp[*])
        ·try simp[*]
         obtain rfl:=r_ret hm
         exact ret0 (vs:=[_]) (by simp[*];try exact rfl) (by simp[*])
     ·try simp[*]
      refine r_cond hm ?_ ?_<;>clear hm<;>intro hc26 hm
      ·try simp[*]
       refine r_call (av:=[.agg p.value.enc]) hm (fun v hv=>Z1a _ v hv) (by simp[*]) ?_
       clear hm;intro v27 hvv27 hm
       try simp[*]
       obtain rfl:=r_ret hm
       exact ret0 (vs:=[_]) (by simp[*];try exact rfl) (by simp[*])
      ·try simp[*]
       refine r_cond hm ?_ ?_<;>clear hm<;>intro hc28 hm
       ·try simp[*]
        obtain rfl:=r_ret hm
        exact ret0 (vs:=[_]) (by simp[*];try exact rfl) (by simp[*])
       ·try simp[*]
        obtain rfl:=r_ret hm
        exact ret0 (vs:=[_]) (by simp[*];try exact rfl) (by simp[*])
  ·try simp[*]
   refine r_call (av:=[.one (.d (.sl (t.pk.map encI))),.one (.d (.int .i64 p.left))]) hm (fun v hv=>Z0l _ _ v hv) (by simp[*]) ?_
   clear hm;intro v29 hvv29 hm
   try simp[*]
   refine Z0b hm ?_ ?_<;>clear hm<;>intro hc30 hm
   ·try simp[*]
    obtain rfl:=r_ret hm
    exact ret0 (vs:=[_]) (by simp[*];try exact rfl) (by simp[*])
   ·try simp[*]
    refine Z08 hm ?_ ?_<;>clear hm<;>intro hc31 hm
    ·try simp[*]
     refine r_call (av:=[.one (.d (.sl (t.pk.map encI))),.one (.d (.int .i64 p.right))]) hm (fun v hv=>Z0l _ _ v hv) (by simp[*]) ?_
     clear hm;intro v32 hvv32 hm
     try simp[*]
     refine r_cond hm ?_ ?_<;>clear hm<;>intro hc33 hm
     ·try simp[*]
      obtain rfl:=r_ret hm
      exact ret0 (vs:=[_]) (by simp[*];try exact rfl) (by simp[*])
     ·try simp[*]
      refine r_cond hm ?_ ?_<;>clear hm<;>intro hc34 hm
      ·try simp[*]
       refine r_call (av:=[.agg p.value.enc]) hm (fun v hv=>Z1a _ v hv) (by simp[*]) ?_
       clear hm;intro v35 hvv35 hm
       try simp[*]
       obtain rfl:=r_ret hm
       exact ret0 (vs:=[_]) (by simp[*];try exact rfl) (by simp[*])
      ·try simp[*]
       refine r_cond hm ?_ ?_<;>clear hm<;>intro hc36 hm
       ·try simp[*]
        obtain rfl:=r_ret hm
        exact ret0 (vs:=[_]) (by simp[*];try exact rfl) (by simp[*])
       ·try simp[*]
        obtain rfl:=r_ret hm
        exact ret0 (vs:=[_]) (by simp[*];try exact rfl) (by simp[*])
    ·try simp[*]
     refine r_cond hm ?_ ?_<;>clear hm<;>intro hc37 hm
     ·try simp[*]
      refine r_call (av:=[.agg p.value.enc]) hm (fun v hv=>Z1a _ v hv) (by simp[*]) ?_
      clear hm;intro v38 hvv38 hm
      try simp[*]
      obtain rfl:=r_ret hm
      exact ret0 (vs:=[_]) (by simp[*];try exact rfl) (by simp[*])
     ·try simp[*]
      refine r_cond hm ?_ ?_<;>clear hm<;>intro hc39 hm
      ·try simp[*]
       obtain rfl:=r_ret hm
       exact ret0 (vs:=[_]) (by simp[*];try exact rfl) (by simp[*])
      ·try simp[*]
       obtain rfl:=r_ret hm
       exact ret0 (vs:=[_]) (by simp[*];try exact rfl) (by simp[*])
end Go.Proofs.YthgepknlibmjcaaGreat
end
