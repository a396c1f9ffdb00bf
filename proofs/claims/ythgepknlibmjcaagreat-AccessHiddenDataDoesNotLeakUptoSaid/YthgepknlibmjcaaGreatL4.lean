/-
  Part 4 of the proof: joined by a program out of 33 texts.
-/
import Derived.Test.YthgepknlibmjcaaGreatL3
set_option linter.unusedVariables false
set_option linter.unusedSimpArgs false
set_option maxRecDepth 20000
section
namespace Go.Proofs.YthgepknlibmjcaaGreat
open Go Go.Am
theorem Sc.fkN {h:HS} {l:Lab} {S:Sch} {tc oc c1:C} {ta fa oa:List Lab} {lf:Lab} {n cap i k:Nat} {B:List C} {f:Fk} {v:Int} (s:Sc h l S tc (.mrow lf 0 n cap) oc ta fa oa) (hb:h.box lf=some B) (hi:S.fks[i]?=some f) (hk:f.cols[k]?=some v) (hc:takeN 1 (B.drop (i * 3+1))=some [c1]) :
  ∃ l2 cap2 B2,c1=.mrow l2 0 f.cols.length cap2∧l2 ∈ fa∧l2≠lf∧l≠l2∧h.box l2=some B2∧takeN 1 (B2.drop k)=some [.d (.int .i64 v)]∧k+1≤B2.length ∧
    ∀ v',Sc (h.setBox l2 (setCells B2 k [.d (.int .i64 v')])) l { S with fks:=S.fks.set i ⟨f.table,f.cols.set k v',f.ref⟩ } tc (.mrow lf 0 n cap) oc ta fa oa:=by
 obtain⟨lf2,cap2,B2,c2,e,h1,h2,h3,h4,h5,h6⟩:=s.fk hi
 simp at e
 obtain⟨rfl,-,rfl⟩:=e
 have e2:=h2.box
 rw[hb] at e2
 cases e2
 have e3:=h2.rd 1 1 (by omega)
 rw[hc] at e3
 simp at e3
 subst e3
 obtain⟨l2,cap2,B2,k1,k2,k3,k4,k5⟩:=h6 k v hk
 have e4:=k4.rd0 1 (by omega)
 have e5:=k4.le
 simp at e4 e5
 refine⟨l2,cap2,B2,k1,k2,k3,fun he=>s.nl.2.1 (he ▸ k2),k4.box,e4,e5,fun v'=>?_⟩
 simpa using k5 v'
def m_remapF (table:ByteArray) (mr:Int→Option Int) {ρ:Type} (i:Nat) (S:Sch) (next:Sch→Option ρ):Option ρ:=
 getK S.fks (i:Int) fun f=>bif strEq f.table table then
  countK (fun k (S:Sch) next=>getK S.fks (i:Int) fun f=>getK f.cols (k:Int) fun v=>bindK (mr v) fun v'=>next { S with fks:=S.fks.set i ⟨f.table,f.cols.set k v',f.ref⟩ }) next f.cols.length 0 S
 else next S
def m_remapO (table:ByteArray) (mr:Int→Option Int) {ρ:Type} (i:Nat) (S:Sch) (next:Sch→Option ρ):Option ρ:=
 getK S.cons (i:Int) fun c=>bif !(strEq c.table table) then next S else
  bindK (mr c.left) fun v=>bif decide (0≤c.right) then bindK (mr c.right) fun w=>next { S with cons:=S.cons.set i { c with left:=v,right:=w } } else next { S with cons:=S.cons.set i { c with left:=v } }
def m_evolution_remapColumns (S:Sch) (table:ByteArray) (mr:Int→Option Int):Option Sch:=
 countK (m_remapF table mr) (fun S=>countK (m_remapO table mr) (fun S=>some S) S.cons.length 0 S) S.fks.length 0 S
theorem h_evolution_remapColumns (h:HS) (l:Lab) (tc fc oc:C) (ta fa oa:List Lab) (S S':Sch) (table:ByteArray) (g:FuncId) (caps:List Cap) (dss:List (List D)) (mr:Int→Option Int) (hm:Is (m_evolution_remapColumns S table mr) S') (s:Sc h l S tc fc oc ta fa oa)
  (hcv:∀ h',Same h h' (fa++oa)→LendVs h' (caps.map capV) (capsOf dss)) (hp:∀ x v,Is (mr x) v→PSpec Tryz.prog g (.one (.d (.int .i64 x))::capsOf dss) (.one (.d (.int .i64 v)))) (K:V→HS→Prop)
  (hk:∀ h',Sc h' l S' tc fc oc ta fa oa→Same h h' (fa++oa)→K (.tup []) h') :
  HSpec Tryz.prog 186 [.one (.ptr l 0),.one (.d (.str table)),.one (.fn g caps)] h K:=by
 have hb:=s.box
 refine HSpec.of_vc Tryz.func186 rfl (by kernel_rfl) (n:=89) rfl rfl (by simp) ?_
 simp[hb]
 refine lenK_clen s.len.2.1.1 ?_
 simp
 refine Wait.count (N:=(S.fks.length:Int)) (s0:=S) (fun i S1 e h1=>e.n=89∧e.get 0=.one (.ptr l 0)∧e.get 1=.one (.d (.str table))∧e.get 2=.one (.fn g caps)∧e.get 15=.one fc∧e.get 16=.one (.d (.int .i64 (S.fks.length:Int)))∧e.get 17=.one (.d (.int .i64 (i:Int)))∧S1.fks.length=S.fks.length∧Sc h1 l S1 tc fc oc ta fa oa∧Same h h1 (fa++oa)) (by simpa[m_evolution_remapColumns] using hm) ⟨by simp,by simp,by simp,by simp,by simp,by simp,by simp,rfl,s,.refl⟩ ?_ ?_
 ·rintro i S1 e h1 ⟨hn,h0,h1',h2,h15,h16,h17,hl1,s1,hs1⟩ hlt hm
  replace hm:=Is.getN hm
  obtain⟨f,hf,hm⟩:=hm
  have hlt1:i < S.fks.length:=by omega
  have hlt2:i < S1.fks.length:=by omega
  have hfl:=s1.len.2.1.2
  simp only[lim_eq] at hfl
  have hw:IntKind.i64.wrap ((i:Int)+1)=(i:Int)+1:=IntWalk.i64_in _ (by omega)
  obtain⟨lf,cf,Bf,rfl,bx,hle⟩:=s1.fkH hf
  obtain⟨hlf,hllf,c1,el,-,hcl,-,-⟩:=s1.fkK bx hf
  have r0:=el.rd0 3 (by omega)
  have r1:=el.rd 1 1 (by omega)
  simp at r0 r1
  have hs2:Same h1 ((h1.setBox (h1.ep,112) [C.d (D.str ByteArray.empty),C.nil,C.d (D.str ByteArray.empty)]).next.setBox (h1.ep,112) [.d (.str f.table),c1,.d (.str f.ref)]) []:=((Same.refl.setBox (.inr (Nat.le_refl _))).next).setBox (.inr (Nat.le_refl _))
  have s2:=s1.frame hs2
  have hne:=ne_new (s1.lt lf (by simp[hlf]))
  cases hb1:strEq f.table table with
  | false=>
    simp only[hb1,cond_false] at hm
    simp[hn,h0,h1',h2,h15,h16,h17,hlt1,hlt2,bx,r0,hb1,hw]
    exact BackF.of S1 ⟨⟨by simp[hn],by simp[h0],by simp[h1'],by simp[h2],by simp[h15],by simp[h16],by simp,hl1,s2,hs1.trans (hs2.mono (by simp))⟩,hm⟩
  | true=>
    simp only[hb1,cond_true] at hm
    simp[hn,h0,h1',h2,h15,h16,h17,hlt1,hlt2,bx,r0,hb1,hw]
    refine lenK_clen hcl.1 ?_
    simp[hn]
    have bx2:((h1.setBox (h1.ep,112) [C.d (D.str ByteArray.empty),C.nil,C.d (D.str ByteArray.empty)]).next.setBox (h1.ep,112) [.d (.str f.table),c1,.d (.str f.ref)]).box lf=some Bf:=by
     simp[hne,bx]
    refine Wait.count (N:=(f.cols.length:Int)) (s0:=S1) (fun k S2 e h2=>e.n=89∧e.get 0=.one (.ptr l 0)∧e.get 1=.one (.d (.str table))∧e.get 2=.one (.fn g caps)∧e.get 15=.one (.mrow lf 0 S1.fks.length cf)∧e.get 16=.one (.d (.int .i64 (S.fks.length:Int)))∧e.get 17=.one (.d (.int .i64 (i:Int)))∧e.get 6=.one (.d (.int .i64 (i:Int)))∧e.get 27=.one c1∧e.get 28=.one (.d (.int .i64 (f.cols.length:Int)))∧e.get 29=.one (.d (.int .i64 (k:Int))) ∧
      S2.fks.length=S.fks.length∧(∃ f2,S2.fks[i]?=some f2∧f2.cols.length=f.cols.length)∧h2.box lf=some Bf∧Sc h2 l S2 tc (.mrow lf 0 S1.fks.length cf) oc ta fa oa∧Same h h2 (fa++oa)) (by simpa using hm) ⟨by simp[hn],by simp[h0],by simp[h1'],by simp[h2],by simp[h15],by simp[h16],by simp[h17],by simp[h17],by simp,by simp,by simp,hl1,⟨f,hf,rfl⟩,bx2,s2,hs1.trans (hs2.mono (by simp))⟩ ?_ ?_
    ·rintro k S2 e h3 ⟨hn,h0,h1',h2,h15,h16,h17,h6,h27,h28,h29,hl2,⟨f2,hf2,hfl2⟩,bx3,s3,hs3⟩ hltk hm
     replace hm:=hm.getN
     obtain⟨f3,hf3,hm⟩:=hm
     rw[hf2] at hf3
     cases hf3
     replace hm:=hm.getN
     obtain⟨v,hv,hm⟩:=hm
     replace hm:=hm.bind
     obtain⟨v',hv',hm⟩:=hm
     have hltk1:k < f.cols.length:=by omega
     have hltk2:k < f2.cols.length:=by omega
     have hcl1:=hcl.2
     simp only[lim_eq] at hcl1
     have hwk:IntKind.i64.wrap ((k:Int)+1)=(k:Int)+1:=IntWalk.i64_in _ (by omega)
     obtain⟨l2,cap2,B2,rfl,hl2m,hl2f,hll2,bx4,r4,hle4,w4⟩:=s3.fkN bx3 hf2 hv r1
     have hb3:=s3.box
     simp[hn,h0,h1',h2,h15,h16,h17,h6,h27,h28,h29,hltk1,hltk2,bx4,r4]
     refine Wait.cut (Plan.then_ [0,4,8,9,10,1,2,3,5,6,7,11,12,13] .done) follows (by kernel_rfl) (fun e h2=>e.n=89∧e.get 0=.one (.ptr l 0)∧e.get 1=.one (.d (.str table))∧e.get 2=.one (.fn g caps)∧e.get 15=.one (.mrow lf 0 S1.fks.length cf)∧e.get 16=.one (.d (.int .i64 (S.fks.length:Int)))∧e.get 17=.one (.d (.int .i64 (i:Int)))∧e.get 6=.one (.d (.int .i64 (i:Int)))∧e.get 27=.one (.mrow l2 0 f2.cols.length cap2)∧e.get 28=.one (.d (.int .i64 (f.cols.length:Int)))∧e.get 29=.one (.d (.int .i64 (k:Int))) ∧
      h2.box lf=some Bf∧Sc h2 l { S2 with fks:=S2.fks.set i ⟨f2.table,f2.cols.set k v',f2.ref⟩ } tc (.mrow lf 0 S1.fks.length cf) oc ta fa oa∧Same h h2 (fa++oa)) ?_ ?_
     ·simp[hb3,hn,h0,h1',h2,h15,h16,h17,h6,h27,h28,h29,hltk1,hltk2,hlt2,bx3,bx4,r1,r4,Plan.then_,vcPlan,planOps,isCallAt,callKind]
      refine callK_heap (HSpec.of_lend (hp v v' hv') ⟨.one (.frz (.data rfl)),hcv h3 hs3⟩ rfl ?_)
      simp[hn,hltk2,bx4]
      refine⟨fun _ _ x=>x,by omega,CutK.of ⟨by simp[hn],by simp[h0],by simp[h1'],by simp[h2],by simp[h15],by simp[h16],by simp[h17],by simp[h6],by simp[h27],by simp[h28],by simp[h29],?_,?_,?_⟩⟩
      ·simp[hl2f.symm,bx3]
      ·have:=(s3.frame (Same.refl.next:Same h3 h3.next [])).fkN (by simpa using bx3) hf2 hv r1
       obtain⟨l2',cap2',B2',e1,k2,k3,k4,k5,k6,k7,k8⟩:=this
       simp at e1
       obtain⟨rfl,rfl⟩:=e1
       simp only[next_box,bx4] at k5
       cases k5
       exact k8 v'
      ·exact (hs3.next).setBox (.inl (by simp[hl2m]))
     ·rintro e h4 ⟨hn,h0,h1',h2,h15,h16,h17,h6,h27,h28,h29,bx5,s5,hs5⟩
      simp[hn,h29,hwk]
      have hi2:i < S2.fks.length:=by omega
      exact BackF.of _ ⟨⟨by simp[hn],by simp[h0],by simp[h1'],by simp[h2],by simp[h15],by simp[h16],by simp[h17],by simp[h6],by simp[h27],by simp[h28],by simp,by simpa using hl2,⟨⟨f2.table,f2.cols.set k v',f2.ref⟩,by simp[hi2],by simpa using hfl2⟩,bx5,s5,hs5⟩,hm⟩
    ·rintro k S2 e h3 ⟨hn,h0,h1',h2,h15,h16,h17,h6,h27,h28,h29,hl2,⟨f2,hf2,hfl2⟩,bx3,s3,hs3⟩ hge hm
     have hge1:¬ k < f.cols.length:=by omega
     simp[hn,h17,h28,h29,hge1,hw]
     exact BackF.of S2 ⟨⟨by simp[hn],by simp[h0],by simp[h1'],by simp[h2],by simp[h15],by simp[h16],by simp,hl2,s3,hs3⟩,hm⟩
 ·rintro i S1 e h1 ⟨hn,h0,h1',h2,h15,h16,h17,hl1,s1,hs1⟩ hge hm
  have hge1:¬ i < S.fks.length:=by omega
  have hb1:=s1.box
  simp[hn,h0,h16,h17,hge1,hb1]
  refine lenK_clen s1.len.2.2.1 ?_
  simp[hn]
  refine Wait.count (N:=(S1.cons.length:Int)) (s0:=S1) (fun i S2 e h2=>e.n=89∧e.get 0=.one (.ptr l 0)∧e.get 1=.one (.d (.str table))∧e.get 2=.one (.fn g caps)∧e.get 52=.one oc∧e.get 53=.one (.d (.int .i64 (S1.cons.length:Int)))∧e.get 54=.one (.d (.int .i64 (i:Int)))∧S2.cons.length=S1.cons.length∧Sc h2 l S2 tc fc oc ta fa oa∧Same h h2 (fa++oa)) (by simpa using hm) ⟨by simp[hn],by simp[h0],by simp[h1'],by simp[h2],by simp,by simp,by simp,rfl,s1,hs1⟩ ?_ ?_
  ·rintro i S2 e h3 ⟨hn,h0,h1',h2,h52,h53,h54,hl2,s2,hs2⟩ hlt hm
   replace hm:=Is.getN hm
   obtain⟨c,hc,hm⟩:=hm
   have hlt1:i < S1.cons.length:=by omega
   have hlt2:i < S2.cons.length:=by omega
   have hfl:=s2.len.2.2.2
   simp only[lim_eq] at hfl
   have hw:IntKind.i64.wrap ((i:Int)+1)=(i:Int)+1:=IntWalk.i64_in _ (by omega)
   obtain⟨lo,co,Bo,rfl,bx,hle⟩:=s2.conH hc
   obtain⟨hlo,hllo,el,-,w1,w3⟩:=s2.conK bx hc
   have r0:=el.rd0 7 (by omega)
   simp at r0
   have hz:Same h3 ((h3.setBox (h3.ep,176) [C.d (D.str ByteArray.empty),C.d (D.int IntKind.i64 0),C.d (D.str ByteArray.empty),C.d (D.int IntKind.i64 0),C.d (D.int IntKind.i64 0),C.d (D.int IntKind.i64 0),C.d (D.str ByteArray.empty)]).next.setBox (h3.ep,176) (c.enc.map C.d)) []:=((Same.refl.setBox (.inr (Nat.le_refl _))).next).setBox (.inr (Nat.le_refl _))
   have s4:=s2.frame hz
   simp only[Cons.enc,List.map_cons,List.map_nil] at hz s4
   have hne:=ne_new (s2.lt lo (by simp[hlo]))
   cases hb1:strEq c.table table with
   | false=>
     simp only[hb1,Bool.not_false,cond_true] at hm
     simp[hn,h0,h1',h2,h52,h53,h54,hlt1,hlt2,bx,r0,hb1,hw]
     exact BackF.of S2 ⟨⟨by simp[hn],by simp[h0],by simp[h1'],by simp[h2],by simp[h52],by simp[h53],by simp,hl2,s4,hs2.trans (hz.mono (by simp))⟩,hm⟩
   | true=>
     simp only[hb1,Bool.not_true,cond_false] at hm
     replace hm:=hm.bind
     obtain⟨v,hv,hm⟩:=hm
     simp[hn,h0,h1',h2,h52,h53,h54,hlt1,hlt2,bx,r0,hb1,hw]
     have hb4:=s4.box
     have hy:Same h ((h3.setBox (h3.ep,176) [C.d (D.str ByteArray.empty),C.d (D.int IntKind.i64 0),C.d (D.str ByteArray.empty),C.d (D.int IntKind.i64 0),C.d (D.int IntKind.i64 0),C.d (D.int IntKind.i64 0),C.d (D.str ByteArray.empty)]).next.setBox (h3.ep,176) [C.d (D.str c.table),C.d (D.int IntKind.i64 c.left),C.d (D.str c.op),C.d (D.int IntKind.i64 c.right),C.d (D.int IntKind.i64 c.value.kind),C.d (D.int IntKind.i64 c.value.int),C.d (D.str c.value.text)]) (fa++oa):=hs2.trans (hz.mono (by simp))
     have hep0:h.ep≤h3.ep:=hs2.1
     generalize hX:(h3.setBox (h3.ep,176) [C.d (D.str ByteArray.empty),C.d (D.int IntKind.i64 0),C.d (D.str ByteArray.empty),C.d (D.int IntKind.i64 0),C.d (D.int IntKind.i64 0),C.d (D.int IntKind.i64 0),C.d (D.str ByteArray.empty)]).next.setBox (h3.ep,176) [C.d (D.str c.table),C.d (D.int IntKind.i64 c.left),C.d (D.str c.op),C.d (D.int IntKind.i64 c.right),C.d (D.int IntKind.i64 c.value.kind),C.d (D.int IntKind.i64 c.value.int),C.d (D.str c.value.text)]=HX at s4 hb4 hy ⊢
     have bx11:HX.box (h3.ep,176)=some [C.d (D.str c.table),C.d (D.int IntKind.i64 c.left),C.d (D.str c.op),C.d (D.int IntKind.i64 c.right),C.d (D.int IntKind.i64 c.value.kind),C.d (D.int IntKind.i64 c.value.int),C.d (D.str c.value.text)]:=by rw[← hX];simp
     have bx4:HX.box lo=some Bo:=by rw[← hX];simp[hne,bx]
     refine Wait.cut (Plan.then_ [0,4,5,6,7,1,2,3,8,9,10,11] .done) follows (by kernel_rfl) (fun e h2=>e.n=89∧e.get 0=.one (.ptr l 0)∧e.get 1=.one (.d (.str table))∧e.get 2=.one (.fn g caps)∧e.get 52=.one (.mrow lo 0 S2.cons.length co)∧e.get 53=.one (.d (.int .i64 (S1.cons.length:Int)))∧e.get 54=.one (.d (.int .i64 (i:Int)))∧e.get 10=.one (.d (.int .i64 (i:Int)))∧e.get 11=.one (.ptr (h3.ep,176) 0) ∧
      h2.box (h3.ep,176)=some [C.d (D.str c.table),C.d (D.int IntKind.i64 c.left),C.d (D.str c.op),C.d (D.int IntKind.i64 c.right),C.d (D.int IntKind.i64 c.value.kind),C.d (D.int IntKind.i64 c.value.int),C.d (D.str c.value.text)]∧h2.box lo=some (setCells Bo (i * 7+1) [.d (.int .i64 v)]) ∧
      Sc h2 l { S2 with cons:=S2.cons.set i { c with left:=v } } tc fc (.mrow lo 0 S2.cons.length co) ta fa oa∧Same h h2 (fa++oa)) ?_ ?_
     ·simp[hn,h0,h1',h2,h52,h53,h54,hlt1,hlt2,hb4,bx11,Plan.then_,vcPlan,planOps,isCallAt,callKind]
      refine callK_heap (HSpec.of_lend (hp _ v hv) ⟨.one (.frz (.data rfl)),hcv _ hy⟩ rfl ?_)
      simp[hn,hlt2,bx4]
      refine⟨fun _ _ x=>x,by omega,CutK.of ⟨by simp[hn],by simp[h0],by simp[h1'],by simp[h2],by simp[h52],by simp[h53],by simp[h54],by simp,by simp,?_,by simp,?_,hy.next.setBox (.inl (by simp[hlo]))⟩⟩
      ·have:=hne h3.ep 176 (Nat.le_refl _)
       have h9:¬ (h3.ep,176)=lo:=fun he=>by rw[he] at this;simp at this
       simp[h9,bx11]
      ·exact ((s4.frame (Same.refl.next:Same HX HX.next [])).conK (by simpa using bx4) hc).2.2.2.2.1 v
     ·rintro e h4 ⟨hn,h0,h1',h2,h52,h53,h54,h10,h11,bx12,bx13,s5,hs5⟩
      have hci:({ S2 with cons:=S2.cons.set i { c with left:=v } }:Sch).cons[i]?=some { c with left:=v }:=by simp[hlt2]
      cases hr:decide (0≤c.right) with
      | false=>
        simp only[hr,cond_false] at hm
        simp at hr
        have hr2:¬ 0≤c.right:=by omega
        simp[hn,h0,h1',h2,h52,h53,h54,h10,h11,bx12,hr2,hw]
        exact BackF.of _ ⟨⟨by simp[hn],by simp[h0],by simp[h1'],by simp[h2],by simp[h52],by simp[h53],by simp,by simpa using hl2,s5,hs5⟩,hm⟩
      | true=>
        simp only[hr,cond_true] at hm
        simp at hr
        replace hm:=hm.bind
        obtain⟨w,hwv,hm⟩:=hm
        have hb5:=s5.box
        simp[hn,h0,h1',h2,h52,h53,h54,h10,h11,bx12,hr]
        refine Wait.cut (Plan.then_ [0,4,5,6,7,1,2,3,8,9,10,11] .done) follows (by kernel_rfl) (fun e h2=>e.n=89∧e.get 0=.one (.ptr l 0)∧e.get 1=.one (.d (.str table))∧e.get 2=.one (.fn g caps)∧e.get 52=.one (.mrow lo 0 S2.cons.length co)∧e.get 53=.one (.d (.int .i64 (S1.cons.length:Int)))∧e.get 54=.one (.d (.int .i64 (i:Int))) ∧
         Sc h2 l { S2 with cons:=S2.cons.set i { c with left:=v,right:=w } } tc fc (.mrow lo 0 S2.cons.length co) ta fa oa∧Same h h2 (fa++oa)) ?_ ?_
        ·simp[hn,h0,h1',h2,h52,h53,h54,h10,h11,hlt1,hlt2,hb5,bx12,Plan.then_,vcPlan,planOps,isCallAt,callKind]
         refine callK_heap (HSpec.of_lend (hp _ w hwv) ⟨.one (.frz (.data rfl)),hcv _ hs5⟩ rfl ?_)
         have hle5:(setCells Bo (i * 7+1) [C.d (D.int IntKind.i64 v)]).length=Bo.length:=setCells_length (by simp;omega)
         simp[hn,hlt2,bx13,hle5]
         refine⟨fun _ _ x=>x,by omega,CutK.of ⟨by simp[hn],by simp[h0],by simp[h1'],by simp[h2],by simp[h52],by simp[h53],by simp[h54],?_,hs5.next.setBox (.inl (by simp[hlo]))⟩⟩
         have:=((s5.frame (Same.refl.next:Same h4 h4.next [])).conK (by simpa using bx13) hci).2.2.2.2.2 w
         simpa using this
        ·rintro e h4 ⟨hn,h0,h1',h2,h52,h53,h54,s5,hs5⟩
         simp[hn,h54,hw]
         exact BackF.of _ ⟨⟨by simp[hn],by simp[h0],by simp[h1'],by simp[h2],by simp[h52],by simp[h53],by simp,by simpa using hl2,s5,hs5⟩,hm⟩
  ·rintro i S2 e h3 ⟨hn,h0,h1',h2,h52,h53,h54,hl2,s2,hs2⟩ hge hm
   have hge1:¬ i < S1.cons.length:=by omega
   obtain rfl:=r_ret hm
   simp[hn,h53,h54,hge1]
   exact hk _ s2 hs2
end Go.Proofs.YthgepknlibmjcaaGreat
end
section
namespace Go.Proofs.YthgepknlibmjcaaGreat
open Go.Am
def m_evolution_removeColumns_1 (column:Int) (k0:List Int):Option Int:=
 (forK (fun (i2:Nat) (x2:Int) (s2:Int) next_2=>(bif decide (x2 < column) then (chkK (okI (s2+1)) (next_2 (s2+1))) else (next_2 s2))) (fun (s2:Int)=>(chkK (okI (column - s2)) (some (column - s2)))) k0 0 0)
theorem c_evolution_removeColumns_1 (column:Int) (k0:List Int) (r:Int) (hm:Is (m_evolution_removeColumns_1 column k0) r):PSpec Tryz.prog 196 [.one (.d (.int .i64 column)),.one (.rp [.sl (k0.map encI)])] (.one (.d (.int .i64 r))):=by
 unfold m_evolution_removeColumns_1 at hm
 refine PSpec.of_vc Tryz.func196 rfl (by kernel_rfl) (n:=22) rfl rfl (by simp) ?_
 try simp[*]
 intro hl1
 replace hl1:k0.length≤2097152:=by simpa using hl1
 refine Wait.for (xs:=k0) (s0:=0) (fun i2 s2 e2 h2=>e2.n=22∧e2.get 0=.one (.d (.int .i64 column))∧e2.get 4=.one (.d (.int .i64 s2))∧e2.get 7=.one (.d (.sl (k0.map encI)))∧e2.get 8=.one (.d (.int .i64 (k0.length:Int)))∧e2.get 9=.one (.d (.int .i64 (i2:Int)))) hm (by simp[*]) ?_ ?_
 ·rintro i2 s2 e2 h2 ⟨hn2,h2_0,h2_4,h2_7,h2_8,h2_9⟩ hlt2 hm
  have hw2:IntKind.i64.wrap ((i2:Int)+1)=(i2:Int)+1:=IntWalk.i64_in _ (by omega)
  try simp[*]
  refine r_cond hm ?_ ?_<;>clear hm<;>intro hc3 hm
  ·try simp[*]
   replace hm:=hm.chk
   obtain⟨hw4,hm⟩:=hm
   replace hw4:=wrap_ok hw4
   try simp[*]
   exact BackF.of (s2+1) ⟨(by simp[*]),hm⟩
  ·try simp[*]
   exact BackF.of s2 ⟨(by simp[*]),hm⟩
 ·rintro s2 e2 h2 ⟨hn2,h2_0,h2_4,h2_7,h2_8,h2_9⟩ hm
  try simp[*]
  replace hm:=hm.chk
  obtain⟨hw5,hm⟩:=hm
  replace hw5:=wrap_ok hw5
  try simp[*]
  obtain rfl:=r_ret hm
  exact ret0 (vs:=[_]) (by simp[*];try exact rfl) (by simp[*])
def m_slices_Index_Int (s_:List Int) (v_:Int):Option Int:=
 (forK (fun (i2:Nat) (x2:Int) (s2:Unit) next_2=>(bif (v_ == x2) then (some (i2:Int)) else (next_2 ()))) (fun (s2:Unit)=>(some (-1))) s_ 0 ())
theorem c_slices_Index_Int (s_:List Int) (v_:Int) (r:Int) (hm:Is (m_slices_Index_Int s_ v_) r):PSpec Tryz.prog 43 [.one (.d (.sl (s_.map encI))),.one (.d (.int .i64 v_))] (.one (.d (.int .i64 r))):=by
 unfold m_slices_Index_Int at hm
 refine PSpec.of_vc Tryz.func43 rfl (by kernel_rfl) (n:=19) rfl rfl (by simp) ?_
 try simp[*]
 intro hl1
 replace hl1:s_.length≤2097152:=by simpa using hl1
 refine Wait.for (xs:=s_) (s0:=()) (fun i2 s2 e2 h2=>e2.n=19∧e2.get 0=.one (.d (.sl (s_.map encI)))∧e2.get 1=.one (.d (.int .i64 v_))∧e2.get 7=.one (.d (.int .i64 (s_.length:Int)))∧e2.get 8=.one (.d (.int .i64 (i2:Int)))) hm (by simp[*]) ?_ ?_
 ·rintro i2 s2 e2 h2 ⟨hn2,h2_0,h2_1,h2_7,h2_8⟩ hlt2 hm
  have hw2:IntKind.i64.wrap ((i2:Int)+1)=(i2:Int)+1:=IntWalk.i64_in _ (by omega)
  try simp[*]
  refine r_cond hm ?_ ?_<;>clear hm<;>intro hc3 hm
  ·try simp[*]
   obtain rfl:=r_ret hm
   exact ret0 (vs:=[_]) (by simp[*];try exact rfl) (by simp[*])
  ·try simp[*]
   exact BackF.of () ⟨(by simp[*]),hm⟩
 ·rintro s2 e2 h2 ⟨hn2,h2_0,h2_1,h2_7,h2_8⟩ hm
  try simp[*]
  obtain rfl:=r_ret hm
  exact ret0 (vs:=[_]) (by simp[*];try exact rfl) (by simp[*])
def m_slices_Contains_Int (s_:List Int) (v_:Int):Option Bool:=
 (bindK (m_slices_Index_Int s_ v_) fun v1=>(some (decide (0≤v1))))
theorem c_slices_Contains_Int (s_:List Int) (v_:Int) (r:Bool) (hm:Is (m_slices_Contains_Int s_ v_) r):PSpec Tryz.prog 13 [.one (.d (.sl (s_.map encI))),.one (.d (.int .i64 v_))] (.one (.d (.bool r))):=by
 unfold m_slices_Contains_Int at hm
 refine PSpec.of_vc Tryz.func13 rfl (by kernel_rfl) (n:=9) rfl rfl (by simp) ?_
 try simp[*]
 refine r_call (av:=[.one (.d (.sl (s_.map encI))),.one (.d (.int .i64 v_))]) hm (fun v hv=>c_slices_Index_Int _ _ v hv) (by simp[*]) ?_
 clear hm;intro v1 hvv1 hm
 try simp[*]
 obtain rfl:=r_ret hm
 exact ret0 (vs:=[_]) (by simp[*];try exact rfl) (by simp[*])
end Go.Proofs.YthgepknlibmjcaaGreat
end
section
namespace Go.Proofs.YthgepknlibmjcaaGreat
open Go Go.Am
def m_removeC (removed:List Int) {ρ:Type} (k:Nat) (c:Col) (acc:List Col) (next:List Col→Option ρ):Option ρ:=
 bindK (m_slices_Contains_Int removed (k:Int)) fun b=>bif !b then next (acc++[c]) else next acc
def m_removeP (i:Nat) (removed:List Int) {ρ:Type} (k:Nat) (S:Sch) (next:Sch→Option ρ):Option ρ:=
 getK S.tables (i:Int) fun T=>getK T.pk (k:Int) fun v=>bindK (m_evolution_removeColumns_1 v removed) fun v'=>next { S with tables:=S.tables.set i { T with pk:=T.pk.set k v' } }
def m_evolution_removeColumns (S:Sch) (i:Nat) (removed:List Int):Option Sch:=
 getK S.tables (i:Int) fun T=>forK (m_removeC removed) (fun cols=>countK (m_removeP i removed) (fun S=>getK S.tables (i:Int) fun T=>bindK (m_evolution_remapColumns { S with tables:=S.tables.set i { T with cols:=cols } } T.name fun c=>m_evolution_removeColumns_1 c removed) some) T.pk.length 0 S) T.cols 0 []
theorem h_evolution_removeColumns (h:HS) (l:Lab) (tc fc oc rc:C) (ta fa oa:List Lab) (S S':Sch) (i:Nat) (removed:List Int) (hm:Is (m_evolution_removeColumns S i removed) S') (s:Sc h l S tc fc oc ta fa oa) (hf:∀ h',Same h h' (ta++(fa++oa))→Frz h' rc (.sl (removed.map encI))) (K:V→HS→Prop)
  (hk:∀ h' ta',Sc h' l S' tc fc oc ta' fa oa→Same h h' (ta++(fa++oa))→(∀ k ∈ ta',k ∈ ta∨h.ep≤k.1)→K (.tup []) h') :
  HSpec Tryz.prog 184 [.one (.ptr l 0),.one (.d (.int .i64 (i:Int))),.one rc] h K:=by
 have hb:=s.box
 replace hm:=Is.getN hm
 obtain⟨T,hi,hm⟩:=hm
 obtain⟨lt,c1,c2,B,tv⟩:=s.tbl hi
 obtain⟨cap,rfl⟩:=tv.hd
 have hlt:i < S.tables.length:=(List.getElem?_eq_some_iff.1 hi).1
 have bx:=tv.el.box
 have r0:=tv.el.rd0 1 (by omega)
 have r1:=tv.el.rd 1 1 (by omega)
 have r2:=tv.el.rd 2 1 (by omega)
 simp at r0 r1 r2
 have hne:=ne_new (s.lt l (by simp))
 have hnt:=ne_new (s.lt lt (by simp[tv.tm]))
 refine HSpec.of_vc Tryz.func184 rfl (by kernel_rfl) (n:=70) rfl rfl (by simp) ?_
 simp[hb,hlt,bx,r1,hne,hnt]
 refine lenK_clen tv.n1.1 ?_
 simp
 have hs0:Same h ((h.setBox (h.ep,80) [rc]).next) []:=(Same.refl.setBox (.inr (Nat.le_refl _))).next
 refine Wait.for (xs:=T.cols) (s0:=[]) (fun k acc e h1=>∃ ch,e.n=70∧e.get 0=.one (.ptr l 0)∧e.get 5=.one (.ptr (h.ep,80) 0)∧e.get 6=.one (.ptr lt (i * 3))∧e.get 7=.one (.fn 196 [.lab (h.ep,80)])∧e.get 8=.one ch∧e.get 23=.one c1∧e.get 24=.one (.d (.int .i64 (T.cols.length:Int)))∧e.get 25=.one (.d (.int .i64 (k:Int))) ∧
  acc.length≤k∧h1.box (h.ep,80)=some [rc]∧MR h1 3 ch (acc.map fun c=>c.enc.map C.d)∧(∀ k ∈ labs ch,h.ep < k.1∧k.1 < h1.ep)∧Same h h1 []∧h.ep < h1.ep) hm ⟨.nil,by simp,by simp,by simp,by simp,by simp,by simp,by simp,by simp,by simp,by simp,by simp,MR.nil,by simp[labs],hs0,by simp⟩ ?_ ?_
 ·rintro k acc e h1 ⟨ch,hn,h0,h5,h6,h7,h8,h23,h24,h25,hal,hb5,mh,lh,hs1,hep1⟩ hltk hm
  replace hm:=Is.bind hm
  obtain⟨b,hb',hm⟩:=hm
  have hfl:=tv.n1.2
  simp only[lim_eq] at hfl
  have hw:IntKind.i64.wrap ((k:Int)+1)=(k:Int)+1:=IntWalk.i64_in _ (by omega)
  have s1:=s.frame hs1
  have bx1:h1.box lt=some B:=by rw[hs1.2 lt (s.lt lt (by simp[tv.tm])) (by simp)];exact bx
  obtain⟨c1',c2',tv1⟩:=s1.tblK bx1 hi
  obtain rfl:c1'=c1:=by
   have:=tv1.el.rd 1 1 (by omega)
   simp[r1] at this
   exact this.symm
  obtain⟨l2,cap2,B2,rfl,el2,-⟩:=tv1.e1 k _ (List.getElem?_eq_getElem hltk)
  have bx2:=el2.box
  have q0:=el2.rd0 3 (by omega)
  simp at q0
  simp[hn,h0,h5,h6,h7,h8,h23,h24,h25,hltk,bx2,q0,hb5,hw]
  have hz:Same h1 ((h1.setBox (h1.ep,160) [C.d (D.str ByteArray.empty),C.d (D.int IntKind.i64 0),C.d (D.bool false)]).next.setBox (h1.ep,160) [C.d (D.str T.cols[k].name),C.d (D.int IntKind.i64 T.cols[k].kind),C.d (D.bool T.cols[k].nullable)]) []:=((Same.refl.setBox (.inr (Nat.le_refl _))).next).setBox (.inr (Nat.le_refl _))
  have hy:=hs1.trans hz
  generalize hX:(h1.setBox (h1.ep,160) [C.d (D.str ByteArray.empty),C.d (D.int IntKind.i64 0),C.d (D.bool false)]).next.setBox (h1.ep,160) [C.d (D.str T.cols[k].name),C.d (D.int IntKind.i64 T.cols[k].kind),C.d (D.bool T.cols[k].nullable)]=HX at hz hy ⊢
  have bx10:HX.box (h1.ep,160)=some [C.d (D.str T.cols[k].name),C.d (D.int IntKind.i64 T.cols[k].kind),C.d (D.bool T.cols[k].nullable)]:=by rw[← hX];simp
  have hb5':HX.box (h.ep,80)=some [rc]:=by rw[hz.2 _ (by simpa using hep1) (by simp)];exact hb5
  have mh':MR HX 3 ch (acc.map fun c=>c.enc.map C.d):=mh.frame fun k hk=>hz.2 k (lh k hk).2 (by simp)
  have hepx:h1.ep+1=HX.ep:=by rw[← hX];simp
  refine callK_heap (HSpec.of_lend (c_slices_Contains_Int removed k b hb') ⟨.one (.frz (hf _ (hy.mono (by simp)))),.one (.frz (.data rfl)),trivial⟩ rfl ?_)
  cases b with
  | true=>
    simp only[Bool.not_true,cond_false] at hm
    simp[hn,h0,h5,h6,h7,h8,h23,h24,h25,hw]
    exact BackF.of acc ⟨⟨ch,by simp[hn],by simp[h0],by simp[h5],by simp[h6],by simp[h7],by simp[h8],by simp[h23],by simp[h24],by simp,by omega,by simpa using hb5',mh'.frame (by simp),fun k hk=>⟨(lh k hk).1,by have:=(lh k hk).2;simp;omega⟩,hy.next,by simp;omega⟩,hm⟩
  | false=>
    simp only[Bool.not_false,cond_true] at hm
    simp[hn,h0,h5,h6,h7,h8,h23,h24,h25,hw,bx10]
    refine app_mr (by simp;exact⟨rfl,rfl⟩) (by simp) (by simp) (by simp) (mh'.frame (by simp)) (RowAt.own1 (by simp)) (by simp;omega) (fun c' h' hm' hs3 hl3=>?_)
    have hs4:Same h h' []:=(hy.next.setArr.next).trans' hs3 (fun k hk=>.inr (Nat.le_of_lt (lh k hk).1))
    have hep2:=hs3.1
    simp at hep2
    simp[hn,h25,hw]
    refine BackF.of _ ⟨⟨c',by simp[hn],by simp[h0],by simp[h5],by simp[h6],by simp[h7],by simp,by simp[h23],by simp[h24],by simp,by simp;omega,?_,by simpa using hm',fun k hk=>?_,hs4,by omega⟩,hm⟩
    ·rw[hs3.2 _ (by simp;omega) (fun h2=>by have:=(lh _ h2).1;simp at this)]
     simpa using hb5'
    ·rcases hl3 k hk with h2 | h2
     ·have:=lh k h2;exact⟨this.1,by omega⟩
     ·simp at h2;exact⟨by omega,h2.2⟩
 ·rintro cols e h1 ⟨ch,hn,h0,h5,h6,h7,h8,h23,h24,h25,hal,hb5,mh,lh,hs1,hep1⟩ hm
  have s1:=s.frame hs1
  have bx1:h1.box lt=some B:=by rw[hs1.2 lt (s.lt lt (by simp[tv.tm])) (by simp)];exact bx
  simp[hn,h6,h24,h25,bx1,r2]
  refine lenK_clen tv.n2.1 ?_
  simp[hn]
  refine Wait.count (N:=(T.pk.length:Int)) (s0:=S) (fun k S2 e h2=>e.n=70∧e.get 0=.one (.ptr l 0)∧e.get 5=.one (.ptr (h.ep,80) 0)∧e.get 6=.one (.ptr lt (i * 3))∧e.get 7=.one (.fn 196 [.lab (h.ep,80)])∧e.get 8=.one ch∧e.get 42=.one c2∧e.get 43=.one (.d (.int .i64 (T.pk.length:Int)))∧e.get 44=.one (.d (.int .i64 (k:Int))) ∧
   h2.box (h.ep,80)=some [rc]∧MR h2 3 ch (cols.map fun c=>c.enc.map C.d)∧(∀ k ∈ labs ch,h.ep < k.1∧k.1 < h2.ep)∧h2.box lt=some B∧(∃ T2,S2.tables[i]?=some T2∧T2.pk.length=T.pk.length)∧Sc h2 l S2 (.mrow lt 0 S.tables.length cap) fc oc ta fa oa∧Same h h2 ta∧h.ep < h2.ep) (by simpa using hm) ⟨by simp[hn],by simp[h0],by simp[h5],by simp[h6],by simp[h7],by simp[h8],by simp,by simp,by simp,hb5,mh,lh,bx1,⟨T,hi,rfl⟩,s1,hs1.mono (by simp),hep1⟩ ?_ ?_
  ·rintro k S2 e h3 ⟨hn,h0,h5,h6,h7,h8,h42,h43,h44,hb5,mh,lh,bx3,⟨T2,hi2,hpl⟩,s3,hs3,hep3⟩ hltk hm
   replace hm:=Is.getN hm
   obtain⟨T2',hi2',hm⟩:=hm
   rw[hi2] at hi2'
   cases hi2'
   replace hm:=hm.getN
   obtain⟨v,hv,hm⟩:=hm
   replace hm:=hm.bind
   obtain⟨v',hv',hm⟩:=hm
   have hltk1:k < T.pk.length:=by omega
   have hltk2:k < T2.pk.length:=by omega
   have hfl:=tv.n2.2
   simp only[lim_eq] at hfl
   have hw:IntKind.i64.wrap ((k:Int)+1)=(k:Int)+1:=IntWalk.i64_in _ (by omega)
   obtain⟨c1',c2',tv3⟩:=s3.tblK bx3 hi2
   obtain rfl:c2'=c2:=by
    have:=tv3.el.rd 2 1 (by omega)
    simp[r2] at this
    exact this.symm
   obtain⟨l2,cap2,B2,rfl,el2,w2⟩:=tv3.e2 k v hv
   have bx4:=el2.box
   have q0:=el2.rd0 1 (by omega)
   have q1:=el2.le
   simp at q0 q1
   have hl2:=tv3.l2 l2 (by simp[labs])
   have hlt2:=s.lt l2 (by simp[hl2.1])
   simp[hn,h0,h5,h6,h7,h8,h42,h43,h44,hltk1,hltk2,bx4,q0,hw]
   refine Wait.cut (Plan.then_ [0,4,5,6,1,2,3,7,8,9] .done) follows (by kernel_rfl) (fun e h2=>e.n=70∧e.get 0=.one (.ptr l 0)∧e.get 5=.one (.ptr (h.ep,80) 0)∧e.get 6=.one (.ptr lt (i * 3))∧e.get 7=.one (.fn 196 [.lab (h.ep,80)])∧e.get 8=.one ch∧e.get 42=.one (.mrow l2 0 T2.pk.length cap2)∧e.get 43=.one (.d (.int .i64 (T.pk.length:Int)))∧e.get 44=.one (.d (.int .i64 (k:Int))) ∧
    h2.box (h.ep,80)=some [rc]∧MR h2 3 ch (cols.map fun c=>c.enc.map C.d)∧(∀ k ∈ labs ch,h.ep < k.1∧k.1 < h2.ep)∧h2.box lt=some B∧Sc h2 l { S2 with tables:=S2.tables.set i { T2 with pk:=T2.pk.set k v' } } (.mrow lt 0 S.tables.length cap) fc oc ta fa oa∧Same h h2 ta∧h.ep < h2.ep) ?_ ?_
   ·simp[hn,h0,h5,h6,h7,h8,h42,h43,h44,hltk1,hltk2,bx3,bx4,r2,q0,Plan.then_,vcPlan,planOps,isCallAt,callKind]
    refine callK_heap (HSpec.of_lend (c_evolution_removeColumns_1 v removed v' hv') ⟨.one (.frz (.data rfl)),.one (.ptr hb5 ⟨hf h3 (hs3.mono (fun k hk=>by simp[hk])),trivial⟩),trivial⟩ rfl ?_)
    simp[hn,hltk2,bx4]
    refine⟨fun _ _ x=>x,by omega,CutK.of ⟨by simp[hn],by simp[h0],by simp[h5],by simp[h6],by simp[h7],by simp[h8],by simp[h42],by simp[h43],by simp[h44],?_,?_,fun k hk=>⟨(lh k hk).1,by have:=(lh k hk).2;simp;omega⟩,?_,?_,hs3.next.setBox (.inl hl2.1),by simp;omega⟩⟩
    ·have:¬ (h.ep,80)=l2:=fun he=>by rw[← he] at hlt2;simp at hlt2
     simp[this,hb5]
    ·refine mh.frame fun k hk=>?_
     have:k≠l2:=fun he=>by have:=(lh k hk).1;rw[he] at this;omega
     simp[this]
    ·simp[hl2.2.symm,bx3]
    ·obtain⟨c1'',c2'',tv4⟩:=(s3.frame (Same.refl.next:Same h3 h3.next [])).tblK (by simpa using bx3) hi2
     obtain rfl:c2''=.mrow l2 0 T2.pk.length cap2:=by
      have:=tv4.el.rd 2 1 (by omega)
      simp[r2] at this
      exact this.symm
     obtain⟨l2',cap2',B2',e1,el4,w4⟩:=tv4.e2 k v hv
     simp at e1
     obtain⟨rfl,rfl⟩:=e1
     have:=el4.box
     simp only[next_box,bx4] at this
     cases this
     simpa using w4 v'
   ·rintro e h4 ⟨hn,h0,h5,h6,h7,h8,h42,h43,h44,hb5,mh,lh,bx4,s4,hs4,hep4⟩
    have hi3:i < S2.tables.length:=(List.getElem?_eq_some_iff.1 hi2).1
    simp[hn,h44,hw]
    exact BackF.of _ ⟨⟨by simp[hn],by simp[h0],by simp[h5],by simp[h6],by simp[h7],by simp[h8],by simp[h42],by simp[h43],by simp,hb5,mh,lh,bx4,⟨{ T2 with pk:=T2.pk.set k v' },by simp[hi3],by simpa using hpl⟩,s4,hs4,hep4⟩,hm⟩
  ·rintro k S2 e h3 ⟨hn,h0,h5,h6,h7,h8,h42,h43,h44,hb5,mh,lh,bx3,⟨T2,hi2,hpl⟩,s3,hs3,hep3⟩ hge hm
   have hge1:¬ k < T.pk.length:=by omega
   replace hm:=Is.getN hm
   obtain⟨T2',hi2',hm⟩:=hm
   rw[hi2] at hi2'
   cases hi2'
   replace hm:=hm.bind
   obtain⟨S4,hm4,hm⟩:=hm
   obtain rfl:=r_ret hm
   obtain⟨c1',c2',tv3⟩:=s3.tblK bx3 hi2
   obtain⟨ta',s4,hta⟩:=tv3.s1 h3 ch cols mh .refl fun k hk=>.inr ⟨fun h2=>by have:=s.lt k h2;have:=(lh k hk).1;omega,(lh k hk).2⟩
   have hle:=tv3.el.le
   have el5:=tv3.el.set (g:=1) (vs:=[ch]) (by simp) (by simp)
   have q0:=el5.rd0 1 (by omega)
   simp at q0
   simp[hn,h0,h6,h7,h8,h43,h44,hge1,bx3]
   refine⟨by omega,?_⟩
   simp[hn,h0,h7,h8,q0]
   have hs5:Same h (h3.setBox lt (setCells B (i * 3+1) [ch])) ta:=hs3.setBox (.inl tv.tm)
   have hlt80:∀ k ∈ ta++(fa++oa),k≠(h.ep,80):=fun k hk he=>by have:=s.lt k (by simp at hk ⊢;exact .inr hk);rw[he] at this;simp at this
   refine callK_heap (h_evolution_remapColumns _ l (.mrow lt 0 S.tables.length cap) fc oc ta' fa oa _ S4 T2.name 196 [.lab (h.ep,80)] [[.sl (removed.map encI)]] _ hm4 s4 (fun h' hs'=>?_) (fun x v hv=>c_evolution_removeColumns_1 x removed v hv) _ (fun h' s5 hs'=>?_))
   ·have hs6:Same h h' (ta++(fa++oa)):=(hs5.mono fun k hk=>by simp[hk]).trans (hs'.mono fun k hk=>List.mem_append_right _ hk)
    refine⟨.one (.ptr (cs:=[rc]) ?_ ⟨hf h' hs6,trivial⟩),trivial⟩
    rw[hs'.2 _ (by simpa using hep3) fun h2=>hlt80 _ (List.mem_append_right _ h2) rfl]
    have:¬ (h.ep,80)=lt:=fun he=>hlt80 lt (by simp[tv.tm]) he.symm
    simp[this,hb5]
   ·simp[hn]
    refine hk h' ta' s5 ((hs5.mono fun k hk=>by simp[hk]).trans (hs'.mono fun k hk=>List.mem_append_right _ hk)) fun k hk=>?_
    rcases hta k hk with h2 | h2
    ·exact .inl h2
    ·exact .inr (Nat.le_of_lt (lh k h2).1)
end Go.Proofs.YthgepknlibmjcaaGreat
end
section
namespace Go.Proofs.YthgepknlibmjcaaGreat
open Go.Am
def m_evolution_checkDefault (v_:GV) (c:Col):Option Int:=
 (bindK (m_value_Validate v_) fun v3=>(bif (v3 != 0) then (some v3) else (bif (v_.kind == 0) then (bif !c.nullable then (some 8) else (bif (v_.kind != 0) then (bif (v_.kind != c.kind) then (some 7) else (some 0)) else (some 0))) else (bif (v_.kind != 0) then (bif (v_.kind != c.kind) then (some 7) else (some 0)) else (some 0)))))
theorem c_evolution_checkDefault (v_:GV) (c:Col) (r:Int) (hm:Is (m_evolution_checkDefault v_ c) r):PSpec Tryz.prog 193 [.agg v_.enc,.agg c.enc] (.one (.d (.int .i64 r))):=by
 unfold m_evolution_checkDefault at hm
 refine PSpec.of_vc Tryz.func193 rfl (by kernel_rfl) (n:=29) rfl rfl (by simp) ?_
 try simp[*]
 refine r_call (av:=[.agg v_.enc]) hm (fun v hv=>c_value_Validate _ v hv) (by simp[*]) ?_
 clear hm;intro v3 hvv3 hm
 try simp[*]
 refine r_cond hm ?_ ?_<;>clear hm<;>intro hc4 hm
 ·try simp[*]
  obtain rfl:=r_ret hm
  exact ret0 (vs:=[_]) (by simp[*];try exact rfl) (by simp[*])
 ·try simp[*]
  refine r_guardT hm ?_ ?_<;>clear hm<;>intro hc5 hm
  ·try simp[*]
   refine r_cond hm ?_ ?_<;>clear hm<;>intro hc6 hm
   ·try simp[*]
    obtain rfl:=r_ret hm
    exact ret0 (vs:=[_]) (by simp[*];try exact rfl) (by simp[*])
   ·try simp[*]
    refine r_guardT hm ?_ ?_<;>clear hm<;>intro hc7 hm
    ·try simp[*]
     refine r_cond hm ?_ ?_<;>clear hm<;>intro hc8 hm
     ·try simp[*]
      obtain rfl:=r_ret hm
      exact ret0 (vs:=[_]) (by simp[*];try exact rfl) (by simp[*])
     ·try simp[*]
      obtain rfl:=r_ret hm
      exact ret0 (vs:=[_]) (by simp[*];try exact rfl) (by simp[*])
    ·try simp[*]
     obtain rfl:=r_ret hm
     exact ret0 (vs:=[_]) (by simp[*];try exact rfl) (by simp[*])
  ·try simp[*]
   refine r_guardT hm ?_ ?_<;>clear hm<;>intro hc9 hm
   ·try simp[*]
    refine r_cond hm ?_ ?_<;>clear hm<;>intro hc10 hm
    ·try simp[*]
     obtain rfl:=r_ret hm
     exact ret0 (vs:=[_]) (by simp[*];try exact rfl) (by simp[*])
    ·try simp[*]
     obtain rfl:=r_ret hm
     exact ret0 (vs:=[_]) (by simp[*];try exact rfl) (by simp[*])
   ·try simp[*]
    obtain rfl:=r_ret hm
    exact ret0 (vs:=[_]) (by simp[*];try exact rfl) (by simp[*])
end Go.Proofs.YthgepknlibmjcaaGreat
end
section
namespace Go.Proofs.YthgepknlibmjcaaGreat
open Go Go.Am
def StpSh:List Sh:=[.d,.d,.d,.d,.d,.d,.r [.d],.d,.d,.d,.d,.d,.r [.d,.d,.d],.r [.d],.d,.d,.d,.d,.d,.d,.d,.d,.r [.d],.d]
def stpC (x:Stp) (x6 x12 x13 x22:C):List C:=[.d (.int .i64 x.kind),.d (.str x.table),.d (.str x.other),.d (.str x.column),.d (.str x.newName),.d (.int .i64 x.type),x6,.d (.str x.op),
 .d (.int .i64 x.value.kind),.d (.int .i64 x.value.int),.d (.str x.value.text),.d (.str x.newTable.name),x12,x13,
 .d (.str x.cons.table),.d (.int .i64 x.cons.left),.d (.str x.cons.op),.d (.int .i64 x.cons.right),.d (.int .i64 x.cons.value.kind),.d (.int .i64 x.cons.value.int),.d (.str x.cons.value.text),
 .d (.str x.fk.table),x22,.d (.str x.fk.ref)]
end Go.Proofs.YthgepknlibmjcaaGreat
namespace Go.Am
open Go Go.Proofs.YthgepknlibmjcaaGreat
theorem Ow.dcons {h:HS} {ss:List Sh} {c:C} {cs:List C} {x:D} {ds:List D} {ls:List Lab} (o:Ow h (.d::ss) cs (x::ds) ls) (hx:x.flat=true):∃ cs',cs=.d x::cs'∧Ow h ss cs' ds ls:=by
 obtain⟨c,y,cs',ds',rfl,e,e2,o'⟩:=o.inv_d
 simp at e
 obtain⟨rfl,rfl⟩:=e
 obtain rfl:=(Frz.data (h:=h) e2).flat hx
 exact⟨cs',rfl,o'⟩
end Go.Am
namespace Go.Proofs.YthgepknlibmjcaaGreat
open Go Go.Am
end Go.Proofs.YthgepknlibmjcaaGreat
namespace Go.Am
open Go Go.Proofs.YthgepknlibmjcaaGreat
theorem Ow.stp {h:HS} {xs:List C} {x:Stp} {ls:List Lab} (o:Ow h StpSh xs x.enc ls):∃ x6 x12 x13 x22 a b c d,xs=stpC x x6 x12 x13 x22∧ls=a++(b++(c++d))∧Ow h [.r [.d]] [x6] [.sl (x.cols.map encI)] a∧Ow h [.r [.d,.d,.d]] [x12] [.sl (x.newTable.cols.map Col.enc)] b∧Ow h [.r [.d]] [x13] [.sl (x.newTable.pk.map encI)] c∧Ow h [.r [.d]] [x22] [.sl (x.fk.cols.map encI)] d:=by
 simp only[StpSh,Stp.enc] at o
 obtain⟨_,rfl,o_0⟩:=o.dcons (c:=.nil) rfl
 obtain⟨_,rfl,o_1⟩:=o_0.dcons (c:=.nil) rfl
 obtain⟨_,rfl,o_2⟩:=o_1.dcons (c:=.nil) rfl
 obtain⟨_,rfl,o_3⟩:=o_2.dcons (c:=.nil) rfl
 obtain⟨_,rfl,o_4⟩:=o_3.dcons (c:=.nil) rfl
 obtain⟨_,rfl,o_5⟩:=o_4.dcons (c:=.nil) rfl
 obtain⟨x6,_,a,_,rfl,rfl,o6,o_6⟩:=o_5.split
 obtain⟨_,rfl,o_7⟩:=o_6.dcons (c:=.nil) rfl
 obtain⟨_,rfl,o_8⟩:=o_7.dcons (c:=.nil) rfl
 obtain⟨_,rfl,o_9⟩:=o_8.dcons (c:=.nil) rfl
 obtain⟨_,rfl,o_10⟩:=o_9.dcons (c:=.nil) rfl
 obtain⟨_,rfl,o_11⟩:=o_10.dcons (c:=.nil) rfl
 obtain⟨x12,_,b,_,rfl,rfl,o12,o_12⟩:=o_11.split
 obtain⟨x13,_,c,_,rfl,rfl,o13,o_13⟩:=o_12.split
 obtain⟨_,rfl,o_14⟩:=o_13.dcons (c:=.nil) rfl
 obtain⟨_,rfl,o_15⟩:=o_14.dcons (c:=.nil) rfl
 obtain⟨_,rfl,o_16⟩:=o_15.dcons (c:=.nil) rfl
 obtain⟨_,rfl,o_17⟩:=o_16.dcons (c:=.nil) rfl
 obtain⟨_,rfl,o_18⟩:=o_17.dcons (c:=.nil) rfl
 obtain⟨_,rfl,o_19⟩:=o_18.dcons (c:=.nil) rfl
 obtain⟨_,rfl,o_20⟩:=o_19.dcons (c:=.nil) rfl
 obtain⟨_,rfl,o_21⟩:=o_20.dcons (c:=.nil) rfl
 obtain⟨x22,_,d,_,rfl,rfl,o22,o_22⟩:=o_21.split
 obtain⟨_,rfl,o_23⟩:=o_22.dcons (c:=.nil) rfl
 obtain⟨rfl,_,rfl⟩:=o_23.inv_nil
 exact⟨x6,x12,x13,x22,a,b,c,d,rfl,by simp,o6,o12,o13,o22⟩
end Go.Am
namespace Go.Proofs.YthgepknlibmjcaaGreat
open Go Go.Am
end Go.Proofs.YthgepknlibmjcaaGreat
namespace Go.Am
open Go Go.Proofs.YthgepknlibmjcaaGreat
theorem Ow.mkStp {h:HS} {x:Stp} {x6 x12 x13 x22:C} {a b c d:List Lab} (o6:Ow h [.r [.d]] [x6] [.sl (x.cols.map encI)] a) (o12:Ow h [.r [.d,.d,.d]] [x12] [.sl (x.newTable.cols.map Col.enc)] b) (o13:Ow h [.r [.d]] [x13] [.sl (x.newTable.pk.map encI)] c) (o22:Ow h [.r [.d]] [x22] [.sl (x.fk.cols.map encI)] d):Ow h StpSh (stpC x x6 x12 x13 x22) x.enc (a++(b++(c++d))):=by
 have e:=o22.join (Ow.data (c:=.d (.str x.fk.ref)) (x:=.str x.fk.ref) rfl .nil)
 have e2:=o13.join (.data (c:=.d (.str x.cons.table)) rfl (.data (c:=.d (.int .i64 x.cons.left)) rfl (.data (c:=.d (.str x.cons.op)) rfl (.data (c:=.d (.int .i64 x.cons.right)) rfl (.data (c:=.d (.int .i64 x.cons.value.kind)) rfl (.data (c:=.d (.int .i64 x.cons.value.int)) rfl (.data (c:=.d (.str x.cons.value.text)) rfl (.data (c:=.d (.str x.fk.table)) rfl e))))))))
 have e3:=o6.join (.data (c:=.d (.str x.op)) rfl (.data (c:=.d (.int .i64 x.value.kind)) rfl (.data (c:=.d (.int .i64 x.value.int)) rfl (.data (c:=.d (.str x.value.text)) rfl (.data (c:=.d (.str x.newTable.name)) rfl (o12.join e2))))))
 have e4:=Ow.data (c:=.d (.int .i64 x.kind)) rfl (.data (c:=.d (.str x.table)) rfl (.data (c:=.d (.str x.other)) rfl (.data (c:=.d (.str x.column)) rfl (.data (c:=.d (.str x.newName)) rfl (.data (c:=.d (.int .i64 x.type)) rfl e3)))))
 simp only[List.append_nil] at e4
 exact e4
end Go.Am
namespace Go.Proofs.YthgepknlibmjcaaGreat
open Go Go.Am
end Go.Proofs.YthgepknlibmjcaaGreat
namespace Go.Am
open Go Go.Proofs.YthgepknlibmjcaaGreat
theorem Ow.nelem {h:HS} {x:C} {vs:List Int} {ls:List Lab} (o:Ow h [.r [.d]] [x] [.sl (vs.map encI)] ls) {k:Nat} {v:Int} (hk:vs[k]?=some v):∃ l2 cap B,x=.mrow l2 0 vs.length cap∧l2 ∈ ls∧h.box l2=some B∧takeN 1 (B.drop k)=some [.d (.int .i64 v)]:=by
 obtain⟨qs,rfl,P⟩:=o.npart (fun h0=>by have:vs=[]:=by simpa using h0
                                       rw[this] at hk;simp at hk)
 obtain⟨l2,cap,B,k1,k2,k3,k4⟩:=P.elemD (n:=1) rfl (map_get (f:=encI) hk) (encI_flat v)
 have:=k2.rd0 1 (by omega)
 simp at this
 exact⟨l2,cap,B,by simpa using k1,by rw[k1];simp[plabs,labs],k2.box,this⟩
end Go.Am
namespace Go.Proofs.YthgepknlibmjcaaGreat
open Go Go.Am
end Go.Proofs.YthgepknlibmjcaaGreat
namespace Go.Am
open Go Go.Proofs.YthgepknlibmjcaaGreat
theorem Ow.stpFrz {h:HS} {xs:List C} {x:Stp} {ls:List Lab} (o:Ow h StpSh xs x.enc ls):FrzCs h xs x.enc:=o.frz
end Go.Am
namespace Go.Proofs.YthgepknlibmjcaaGreat
open Go Go.Am
def m_evolution_addColumn (S:Sch) (i:Nat) (step:Stp):Option (Sch × Int):=
 bindK (m_evolution_checkDefault step.value ⟨step.column,step.type,step.value.kind == 0⟩) fun e=>bif e != 0 then some (S,e) else
 getK S.tables (i:Int) fun T=>chkK (0 < T.cols.length∧T.cols.length < LIM) (some ({ S with tables:=S.tables.set i { T with cols:=T.cols++[⟨step.column,step.type,step.value.kind == 0⟩] } },0))
theorem keep_ta {ta ta' fa oa lx:List Lab} {n:Nat} (h:∀ k ∈ ta',k ∈ ta∨n≤k.1):∀ k ∈ ta'++(fa++oa),k ∈ ta++(fa++oa)∨n≤k.1:=fun k hk=>by
 simp only[List.mem_append] at hk ⊢
 rcases hk with hk | hk | hk
 ·exact (h k hk).imp_left .inl
 ·exact .inl (.inr (.inl hk))
 ·exact .inl (.inr (.inr hk))
theorem h_evolution_addColumn (h:HS) (l:Lab) (tc fc oc x6 x12 x13 x22:C) (ta fa oa:List Lab) (S S':Sch) (i:Nat) (step:Stp) (r:Int) (hm:Is (m_evolution_addColumn S i step) (S',r)) (s:Sc h l S tc fc oc ta fa oa) (K:V→HS→Prop)
  (hk:KeepS h l (ta++(fa++oa)) S' (.one (.d (.int .i64 r))) K) :
  HSpec Tryz.prog 171 [.one (.ptr l 0),.one (.d (.int .i64 (i:Int))),.agg (stpC step x6 x12 x13 x22)] h K:=by
 replace hm:=hm.bind
 obtain⟨ev,hev,hm⟩:=hm
 refine HSpec.of_vc Tryz.func171 rfl (by kernel_rfl) (n:=43) rfl rfl (by simp) ?_
 simp[stpC]
 have hs0:Same h (((h.setBox (h.ep,80) (stpC step x6 x12 x13 x22)).next.setBox (h.ep+1,112) [C.d (D.str ByteArray.empty),C.d (D.int IntKind.i64 0),C.d (D.bool false)]).next.setBox (h.ep+1,112) [C.d (D.str step.column),C.d (D.int IntKind.i64 step.type),C.d (D.bool (step.value.kind == 0))]) []:=(((Same.refl.setBox (.inr (Nat.le_refl _))).next.setBox (.inr (by simp))).next.setBox (.inr (by simp)))
 simp only[stpC] at hs0
 generalize hX:(((h.setBox (h.ep,80) _).next.setBox (h.ep+1,112) _).next.setBox (h.ep+1,112) _)=HX at hs0 ⊢
 have bx7:HX.box (h.ep+1,112)=some [C.d (D.str step.column),C.d (D.int IntKind.i64 step.type),C.d (D.bool (step.value.kind == 0))]:=by rw[← hX];simp
 refine callK_heap (HSpec.of_lend (c_evolution_checkDefault step.value ⟨step.column,step.type,step.value.kind == 0⟩ ev hev) ⟨.agg (FrzCs.datas (ds:=step.value.enc)),.agg (FrzCs.datas (ds:=(⟨step.column,step.type,step.value.kind == 0⟩:Col).enc)),trivial⟩ rfl ?_)
 cases hev0:ev != 0 with
 | true=>
   rw[hev0] at hm
   have e1:=r_ret hm
   simp only[Prod.mk.injEq] at e1
   obtain⟨rfl,rfl⟩:=e1
   have hev1:¬ ev=0:=by simpa using hev0
   simp[hev0,hev1]
   exact hk _ _ (s.frame hs0.next).ows (hs0.next.mono (by simp)) (fun k hk=>.inl hk)
 | false=>
   simp only[hev0,cond_false] at hm
   have hev1:ev=0:=by simpa using hev0
   replace hm:=hm.getN
   obtain⟨T,hi,hm⟩:=hm
   replace hm:=hm.chk
   obtain⟨⟨hc0,hc1⟩,hm⟩:=hm
   have e1:=r_ret hm
   simp only[Prod.mk.injEq] at e1
   obtain⟨rfl,rfl⟩:=e1
   simp[hev0,hev1]
   have s1:=s.frame hs0
   have hb1:=s1.box
   have hlt:i < S.tables.length:=(List.getElem?_eq_some_iff.1 hi).1
   obtain⟨lt,c1,c2,B,tv⟩:=s1.tbl hi
   obtain⟨cap,rfl⟩:=tv.hd
   have bx:=tv.el.box
   have r1:=tv.el.rd 1 1 (by omega)
   have hle:=tv.el.le
   simp at r1
   have hne:=ne_new (s1.lt l (by simp))
   have hnt:=ne_new (s1.lt lt (by simp[tv.tm]))
   refine Wait.cut (Plan.then_ [0,1,2,4,5,6,7,8,9,10,11,12,13] (.two 3 14 (Plan.then_ [14,15,16,17,18] .done) (Plan.then_ [] (.two 3 15 (Plan.then_ [15,16,17,18] .done) (Plan.then_ [3,16,17,18] .done))))) follows (by kernel_rfl) (fun e h'=>e.n=43∧∃ ta',Sc h' l { S with tables:=S.tables.set i { T with cols:=T.cols++[⟨step.column,step.type,step.value.kind == 0⟩] } } (.mrow lt 0 S.tables.length cap) fc oc ta' fa oa∧Same h h' ta∧∀ k ∈ ta',k ∈ ta∨h.ep≤k.1) ?_ ?_
   ·simp[hb1,bx7,hlt,bx,r1,hne,hnt,Plan.then_,vcPlan,planOps,isCallAt,callKind]
    have hs2:Same HX (((HX.next).setArr (HX.ep+1,16 * 39) (some (1,3))).next) []:=(Same.refl.next).setArr.next
    simp only[Nat.reduceMul] at hs2
    obtain⟨c1',c2',tv2⟩:=(s1.frame hs2).tblK (by simpa using bx) hi
    obtain rfl:c1'=c1:=by
     have:=tv2.el.rd 1 1 (by omega)
     simp[r1] at this
     exact this.symm
    have hc2:T.cols.length < 2097152:=hc1
    refine⟨?_,?_,?_⟩
    all_goals
     refine app_mr (by simp;exact⟨rfl,rfl⟩) (by simp) (by simp) (by simp) (tv2.m1 (by intro h0;simp[h0] at hc0)) (RowAt.own1 (by simp)) (by simp;omega) (fun c' h' hm' hs3 hl3=>?_)
     have hbl:h'.box lt=some B:=by
      rw[hs3.2 lt ((s1.frame hs2).lt lt (by simp[tv.tm])) fun h2=>(tv2.l1 lt h2).2 rfl]
      simpa using bx
     have hbs:h'.box l=some [.mrow lt 0 S.tables.length cap,fc,oc]:=(s1.frame hs2).keep hs3 fun k hk=>.inl (tv2.l1 k hk).1
     have hep:=hs3.1
     simp at hep
     obtain⟨ta',s4,hta⟩:=tv2.s1 h' c' (T.cols++[⟨step.column,step.type,step.value.kind == 0⟩]) (by simpa using hm') hs3 (fun k hk=>(hl3 k hk).imp_right fun h2=>⟨fun h3=>by have:=(s1.frame hs2).lt k h3;omega,h2.2⟩)
     simp[hlt,hbl,hbs]
     refine⟨by omega,CutK.of ⟨by simp,ta',s4,?_,fun k hk=>?_⟩⟩
     ·exact ((hs0.trans hs2).mono (by simp) |>.trans (hs3.mono fun k hk=>(tv2.l1 k hk).1)).setBox (.inl tv.tm)
     ·rcases hta k hk with h2 | h2
      ·exact .inl h2
      ·rcases hl3 k h2 with h3 | h3
       ·exact .inl (tv2.l1 k h3).1
       ·refine .inr ?_
        have h4:=h3.1
        have h5:=hs0.1
        simp at h4
        omega
   ·rintro e h1 ⟨hn,ta',s4,hs4,hta⟩
    simp[hn]
    exact hk _ _ s4.ows (hs4.mono fun k hk=>by simp[hk]) (keep_ta (lx:=[]) hta)
end Go.Proofs.YthgepknlibmjcaaGreat
end
section
namespace Go.Proofs.YthgepknlibmjcaaGreat
open Go.Am
def m_evolution_checkUnused_1 (fk:Fk) (k0:Tbl) (k1:Int):Option Bool:=
 (bif strEq fk.table k0.name then (bindK (m_slices_Contains_Int fk.cols k1) fun v3=>(some v3)) else (some false))
theorem c_evolution_checkUnused_1 (fk:Fk) (k0:Tbl) (k1:Int) (r:Bool) (hm:Is (m_evolution_checkUnused_1 fk k0 k1) r):PSpec Tryz.prog 203 [.agg fk.enc,.one (.rp [.str k0.name,.sl (k0.cols.map Col.enc),.sl (k0.pk.map encI)]),.one (.rp [.int .i64 k1])] (.one (.d (.bool r))):=by
 unfold m_evolution_checkUnused_1 at hm
 refine PSpec.of_vc Tryz.func203 rfl (by kernel_rfl) (n:=16) rfl rfl (by simp) ?_
 try simp[*]
 refine r_guardT hm ?_ ?_<;>clear hm<;>intro hc2 hm
 ·try simp[*]
  refine r_call (av:=[.one (.d (.sl (fk.cols.map encI))),.one (.d (.int .i64 k1))]) hm (fun v hv=>c_slices_Contains_Int _ _ v hv) (by simp[*]) ?_
  clear hm;intro v3 hvv3 hm
  try simp[*]
  obtain rfl:=r_ret hm
  exact ret0 (vs:=[_]) (by simp[*];try exact rfl) (by simp[*])
 ·try simp[*]
  obtain rfl:=r_ret hm
  exact ret0 (vs:=[_]) (by simp[*];try exact rfl) (by simp[*])
def m_evolution_checkUnused_2 (c:Cons) (k0:Tbl) (k1:Int):Option Bool:=
 (bif strEq c.table k0.name then (bif (c.left == k1) then (some true) else (some (c.right == k1))) else (some false))
theorem c_evolution_checkUnused_2 (c:Cons) (k0:Tbl) (k1:Int) (r:Bool) (hm:Is (m_evolution_checkUnused_2 c k0 k1) r):PSpec Tryz.prog 204 [.agg c.enc,.one (.rp [.str k0.name,.sl (k0.cols.map Col.enc),.sl (k0.pk.map encI)]),.one (.rp [.int .i64 k1])] (.one (.d (.bool r))):=by
 unfold m_evolution_checkUnused_2 at hm
 refine PSpec.of_vc Tryz.func204 rfl (by kernel_rfl) (n:=22) rfl rfl (by simp) ?_
 try simp[*]
 refine r_guardT hm ?_ ?_<;>clear hm<;>intro hc2 hm
 ·try simp[*]
  refine r_guardF hm ?_ ?_<;>clear hm<;>intro hc3 hm
  ·try simp[*]
   obtain rfl:=r_ret hm
   exact ret0 (vs:=[_]) (by simp[*];try exact rfl) (by simp[*])
  ·try simp[*]
   obtain rfl:=r_ret hm
   exact ret0 (vs:=[_]) (by simp[*];try exact rfl) (by simp[*])
 ·try simp[*]
  obtain rfl:=r_ret hm
  exact ret0 (vs:=[_]) (by simp[*];try exact rfl) (by simp[*])
def m_slices_IndexFunc_Constraint (s_:List Cons) (f:Cons→Option Bool):Option Int:=
 (forK (fun (i2:Nat) (x2:Cons) (s2:Unit) next_2=>(bindK (f x2) fun v3=>(bif v3 then (some (i2:Int)) else (next_2 ())))) (fun (s2:Unit)=>(some (-1))) s_ 0 ())
theorem c_slices_IndexFunc_Constraint (s_:List Cons) (g:FuncId) (caps:List (List D)) (f:Cons→Option Bool) (hf:∀ xa v,Is (f xa) v→PSpec Tryz.prog g (.agg xa.enc::capsOf caps) (.one (.d (.bool v)))) (r:Int) (hm:Is (m_slices_IndexFunc_Constraint s_ f) r):PSpec Tryz.prog 122 [.one (.d (.sl (s_.map Cons.enc))),.one (.fn g caps)] (.one (.d (.int .i64 r))):=by
 unfold m_slices_IndexFunc_Constraint at hm
 refine PSpec.of_vc Tryz.func122 rfl (by kernel_rfl) (n:=19) rfl rfl (by simp) ?_
 try simp[*]
 intro hl1
 replace hl1:s_.length≤2097152:=by simpa using hl1
 refine Wait.for (xs:=s_) (s0:=()) (fun i2 s2 e2 h2=>e2.n=19∧e2.get 0=.one (.d (.sl (s_.map Cons.enc)))∧e2.get 1=.one (.fn g (caps.map Cap.rp))∧e2.get 7=.one (.d (.int .i64 (s_.length:Int)))∧e2.get 8=.one (.d (.int .i64 (i2:Int)))) hm (by simp[*]) ?_ ?_
 ·rintro i2 s2 e2 h2 ⟨hn2,h2_0,h2_1,h2_7,h2_8⟩ hlt2 hm
  have hw2:IntKind.i64.wrap ((i2:Int)+1)=(i2:Int)+1:=IntWalk.i64_in _ (by omega)
  try simp[*]
  refine r_callC (av:=[.agg (s_[i2]).enc]) (cs:=caps) hm (fun v hv=>hf _ v hv) (by simp[*]) (by simp[*]) ?_
  clear hm;intro v3 hvv3 hm
  try simp[*]
  refine r_cond hm ?_ ?_<;>clear hm<;>intro hc4 hm
  ·try simp[*]
   obtain rfl:=r_ret hm
   exact ret0 (vs:=[_]) (by simp[*];try exact rfl) (by simp[*])
  ·try simp[*]
   exact BackF.of () ⟨(by simp[*]),hm⟩
 ·rintro s2 e2 h2 ⟨hn2,h2_0,h2_1,h2_7,h2_8⟩ hm
  try simp[*]
  obtain rfl:=r_ret hm
  exact ret0 (vs:=[_]) (by simp[*];try exact rfl) (by simp[*])
def m_slices_ContainsFunc_Constraint (s_:List Cons) (f:Cons→Option Bool):Option Bool:=
 (bindK (m_slices_IndexFunc_Constraint s_ f) fun v1=>(some (decide (0≤v1))))
theorem c_slices_ContainsFunc_Constraint (s_:List Cons) (g:FuncId) (caps:List (List D)) (f:Cons→Option Bool) (hf:∀ xa v,Is (f xa) v→PSpec Tryz.prog g (.agg xa.enc::capsOf caps) (.one (.d (.bool v)))) (r:Bool) (hm:Is (m_slices_ContainsFunc_Constraint s_ f) r):PSpec Tryz.prog 98 [.one (.d (.sl (s_.map Cons.enc))),.one (.fn g caps)] (.one (.d (.bool r))):=by
 unfold m_slices_ContainsFunc_Constraint at hm
 refine PSpec.of_vc Tryz.func98 rfl (by kernel_rfl) (n:=9) rfl rfl (by simp) ?_
 try simp[*]
 refine r_call (av:=[.one (.d (.sl (s_.map Cons.enc))),.one (.fn g caps)]) hm (fun v hv=>c_slices_IndexFunc_Constraint _ g caps _ hf v hv) (by simp[*]) ?_
 clear hm;intro v1 hvv1 hm
 try simp[*]
 obtain rfl:=r_ret hm
 exact ret0 (vs:=[_]) (by simp[*];try exact rfl) (by simp[*])
def m_evolution_checkUnused (s_:Sch) (t:Tbl) (column:Int):Option Int:=
 (bindK (m_slices_Contains_Int t.pk column) fun v4=>(bif v4 then (some 9) else (bindK (m_slices_ContainsFunc_Foreignkey s_.fks (fun xa_=>m_evolution_checkUnused_1 xa_ t column)) fun v6=>(bif v6 then (some 10) else (bindK (m_slices_ContainsFunc_Constraint s_.cons (fun xa_=>m_evolution_checkUnused_2 xa_ t column)) fun v8=>(bif v8 then (some 11) else (some 0)))))))
theorem c_evolution_checkUnused (s_:Sch) (t:Tbl) (column:Int) (r:Int) (hm:Is (m_evolution_checkUnused s_ t column) r):PSpec Tryz.prog 192 [.agg s_.enc,.agg t.enc,.one (.d (.int .i64 column))] (.one (.d (.int .i64 r))):=by
 unfold m_evolution_checkUnused at hm
 refine PSpec.of_vc Tryz.func192 rfl (by kernel_rfl) (n:=19) rfl rfl (by simp) ?_
 try simp[*]
 refine r_call (av:=[.one (.d (.sl (t.pk.map encI))),.one (.d (.int .i64 column))]) hm (fun v hv=>c_slices_Contains_Int _ _ v hv) (by simp[*]) ?_
 clear hm;intro v4 hvv4 hm
 try simp[*]
 refine r_cond hm ?_ ?_<;>clear hm<;>intro hc5 hm
 ·try simp[*]
  obtain rfl:=r_ret hm
  exact ret0 (vs:=[_]) (by simp[*];try exact rfl) (by simp[*])
 ·try simp[*]
  refine r_call (av:=[.one (.d (.sl (s_.fks.map Fk.enc))),.one (.fn 203 [[.str t.name,.sl (t.cols.map Col.enc),.sl (t.pk.map encI)],[.int .i64 column]])]) hm (fun v hv=>c_slices_ContainsFunc_Foreignkey _ 203 [[.str t.name,.sl (t.cols.map Col.enc),.sl (t.pk.map encI)],[.int .i64 column]] _ (fun xa_ v hv=>c_evolution_checkUnused_1 xa_ _ _ v hv) v hv) (by simp[*]) ?_
  clear hm;intro v6 hvv6 hm
  try simp[*]
  refine r_cond hm ?_ ?_<;>clear hm<;>intro hc7 hm
  ·try simp[*]
   obtain rfl:=r_ret hm
   exact ret0 (vs:=[_]) (by simp[*];try exact rfl) (by simp[*])
  ·try simp[*]
   refine r_call (av:=[.one (.d (.sl (s_.cons.map Cons.enc))),.one (.fn 204 [[.str t.name,.sl (t.cols.map Col.enc),.sl (t.pk.map encI)],[.int .i64 column]])]) hm (fun v hv=>c_slices_ContainsFunc_Constraint _ 204 [[.str t.name,.sl (t.cols.map Col.enc),.sl (t.pk.map encI)],[.int .i64 column]] _ (fun xa_ v hv=>c_evolution_checkUnused_2 xa_ _ _ v hv) v hv) (by simp[*]) ?_
   clear hm;intro v8 hvv8 hm
   try simp[*]
   refine r_cond hm ?_ ?_<;>clear hm<;>intro hc9 hm
   ·try simp[*]
    obtain rfl:=r_ret hm
    exact ret0 (vs:=[_]) (by simp[*];try exact rfl) (by simp[*])
   ·try simp[*]
    obtain rfl:=r_ret hm
    exact ret0 (vs:=[_]) (by simp[*];try exact rfl) (by simp[*])
end Go.Proofs.YthgepknlibmjcaaGreat
end
section
namespace Go.Proofs.YthgepknlibmjcaaGreat
open Go Go.Am
def m_evolution_alterColumn (S:Sch) (i:Nat) (step:Stp):Option (Sch × Int):=
 getK S.tables (i:Int) fun T=>bindK (m_schema_FindColumn T step.column) fun r=>bif !r.2 then some (S,4) else
 bif step.kind == 3 then bindK (m_schema_FindColumn T step.newName) fun r2=>bif r2.2 then some (S,5) else
  getK T.cols r.1 fun c=>some ({ S with tables:=S.tables.set i { T with cols:=T.cols.set r.1.toNat { c with name:=step.newName } } },0)
 else bindK (m_evolution_checkUnused S T r.1) fun e=>bif e != 0 then some (S,e) else
 bif step.kind == 5 then getK T.cols r.1 fun c=>some ({ S with tables:=S.tables.set i { T with cols:=T.cols.set r.1.toNat { c with kind:=step.type } } },0)
 else getK T.cols r.1 fun c=>bindK (m_evolution_checkDefault step.value c) fun e=>bif e != 0 then some (S,e) else bindK (m_evolution_removeColumns S i [r.1]) fun S'=>some (S',0)
set_option maxHeartbeats 1000000 in
theorem h_evolution_alterColumn (h:HS) (l:Lab) (tc fc oc x6 x12 x13 x22:C) (ta fa oa:List Lab) (S S':Sch) (i:Nat) (step:Stp) (r:Int) (hm:Is (m_evolution_alterColumn S i step) (S',r)) (s:Sc h l S tc fc oc ta fa oa) (K:V→HS→Prop)
  (hk:KeepS h l (ta++(fa++oa)) S' (.one (.d (.int .i64 r))) K) :
  HSpec Tryz.prog 172 [.one (.ptr l 0),.one (.d (.int .i64 (i:Int))),.agg (stpC step x6 x12 x13 x22)] h K:=by
 replace hm:=hm.getN
 obtain⟨T,hi,hm⟩:=hm
 replace hm:=hm.bind
 obtain⟨v,hv,hm⟩:=hm
 have hlt:i < S.tables.length:=(List.getElem?_eq_some_iff.1 hi).1
 have hs0:Same h ((h.setBox (h.ep,80) (stpC step x6 x12 x13 x22)).next) []:=(Same.refl.setBox (.inr (Nat.le_refl _))).next
 have s0:=s.frame hs0
 obtain⟨lt,c1,c2,B,tv⟩:=s0.tbl hi
 obtain⟨cap,rfl⟩:=tv.hd
 have hb0:=s0.box
 have bx:=tv.el.box
 have r0:=tv.el.rd0 3 (by omega)
 have r1:=tv.el.rd 1 1 (by omega)
 simp at r0 r1
 have bx5:(h.setBox (h.ep,80) (stpC step x6 x12 x13 x22)).next.box (h.ep,80)=some (stpC step x6 x12 x13 x22):=by simp
 refine HSpec.of_vc Tryz.func172 rfl (by kernel_rfl) (n:=94) rfl rfl (by simp) ?_
 have hnn:stpC step x6 x12 x13 x22≠[]:=by simp[stpC]
 have hne:=ne_new (s.lt l (by simp))
 have hbs:=s.box
 have hep:h.ep < ((h.setBox (h.ep,80) (stpC step x6 x12 x13 x22)).next).ep:=by simp
 simp[hbs,hne,hlt,hnn]
 generalize (h.setBox (h.ep,80) (stpC step x6 x12 x13 x22)).next=HX at *
 have hxf:∀ h',Same HX h' []→FrzCs h' [C.d (D.str T.name),c1,c2] T.enc:=fun h' hs=>⟨.data rfl,tv.f1 h' hs,tv.f2 h' hs,trivial⟩
 refine Wait.cut (Plan.then_ [0,1,2,3,4,5,6,7,8,9,10] .done) follows (by kernel_rfl) (fun e h'=>e.n=94∧e.get 0=.one (.ptr l 0)∧e.get 1=.one (.d (.int .i64 (i:Int)))∧e.get 5=.one (.ptr (h.ep,80) 0)∧e.get 7=.one (.ptr lt (i * 3))∧e.get 8=.one (.d (.int .i64 v.1))∧e.get 9=.one (.d (.bool v.2))∧Same HX h' []) ?_ ?_
 ·simp[bx,r0,bx5,stpC,Plan.then_,vcPlan,planOps,isCallAt,callKind]
  refine callK_heap (HSpec.of_lend (c_schema_FindColumn T step.column v hv) ⟨.agg (hxf _ .refl),.one (.frz (.data rfl)),trivial⟩ rfl ?_)
  simp
  exact⟨fun _ _ x=>x,CutK.of (by simp[Same.refl.next])⟩
 ·rintro e h1 ⟨hn,h0,h1',h5,h7,h8,h9,hs1⟩
  have bx5':h1.box (h.ep,80)=some (stpC step x6 x12 x13 x22):=by rw[hs1.2 _ hep (by simp)];exact bx5
  have bx':h1.box lt=some B:=by rw[hs1.2 _ (s0.lt lt (by simp[tv.tm])) (by simp)];exact bx
  have s1:=s0.frame hs1
  have hb1:=s1.box
  have hy:=hs0.trans hs1
  simp[hn,h0,h1',h5,h7,h8,h9]
  cases hv2:v.2 with
  | false=>
    rw[hv2] at hm
    have e1:=r_ret hm
    simp only[Prod.mk.injEq] at e1
    obtain⟨rfl,rfl⟩:=e1
    simp[hn]
    exact hk _ _ s1.ows (hy.mono (by simp)) (fun k hk=>.inl hk)
  | true=>
    simp only[hv2,Bool.not_true,cond_false] at hm
    simp[hn,h5,bx5',stpC]
    cases hk3:step.kind == 3 with
    | true=>
      simp only[hk3,cond_true] at hm
      replace hm:=hm.bind
      obtain⟨w,hw,hm⟩:=hm
      simp[hk3]
      refine Wait.cut (Plan.then_ [0,1,2,3,4,5,6,7,8,9,10] .done) follows (by kernel_rfl) (fun e h'=>e.n=94∧e.get 0=.one (.ptr l 0)∧e.get 1=.one (.d (.int .i64 (i:Int)))∧e.get 5=.one (.ptr (h.ep,80) 0)∧e.get 7=.one (.ptr lt (i * 3))∧e.get 8=.one (.d (.int .i64 v.1))∧e.get 11=.one (.d (.bool w.2))∧Same h1 h' []) ?_ ?_
      ·simp[hn,h0,h1',h5,h7,h8,bx',r0,bx5',stpC,Plan.then_,vcPlan,planOps,isCallAt,callKind]
       refine callK_heap (HSpec.of_lend (c_schema_FindColumn T step.newName w hw) ⟨.agg (hxf _ hs1),.one (.frz (.data rfl)),trivial⟩ rfl ?_)
       simp[hn]
       exact⟨fun _ _ x=>x,CutK.of (by simp[hn,h0,h1',h5,h7,h8,Same.refl.next])⟩
      ·rintro e h2 ⟨hn,h0,h1',h5,h7,h8,h11,hs2⟩
       have s2:=s1.frame hs2
       have hy2:=hy.trans hs2
       simp[hn,h11]
       cases hw2:w.2 with
       | true=>
         rw[hw2] at hm
         have e1:=r_ret hm
         simp only[Prod.mk.injEq] at e1
         obtain⟨rfl,rfl⟩:=e1
         simp[hn]
         exact hk _ _ s2.ows (hy2.mono (by simp)) (fun k hk=>.inl hk)
       | false=>
         simp only[hw2,cond_false] at hm
         replace hm:=hm.get
         obtain⟨c,hv0,hc,hm⟩:=hm
         have e1:=r_ret hm
         simp only[Prod.mk.injEq] at e1
         obtain⟨rfl,rfl⟩:=e1
         have bx2:h2.box lt=some B:=by rw[hs2.2 _ (s1.lt lt (by simp[tv.tm])) (by simp)];exact bx'
         have bx52:h2.box (h.ep,80)=some (stpC step x6 x12 x13 x22):=by rw[hs2.2 _ (Nat.lt_of_lt_of_le hep hs1.1) (by simp)];exact bx5'
         obtain⟨c1',c2',tv2⟩:=s2.tblK bx2 hi
         obtain rfl:c1'=c1:=by
          have:=tv2.el.rd 1 1 (by omega)
          simp[r1] at this
          exact this.symm
         obtain⟨l2,cap2,B2,rfl,el2,w2⟩:=tv2.e1 _ c hc
         have bx3:=el2.box
         have hle2:=el2.le
         have hl2:=tv2.l1 l2 (by simp[labs])
         obtain⟨n,hn1⟩:∃ n:Nat,v.1=n:=⟨v.1.toNat,by omega⟩
         have hnl:n < T.cols.length:=by
          have:=(List.getElem?_eq_some_iff.1 hc).1
          omega
         rw[hn1] at h8 hle2 w2
         simp
         refine Wait.cut (Plan.then_ [0,1,2,3,4,5,6,7,8,9] .done) follows (by kernel_rfl) (fun e h'=>e.n=94∧Sc h' l { S with tables:=S.tables.set i { T with cols:=T.cols.set v.1.toNat { c with name:=step.newName } } } (.mrow lt 0 S.tables.length cap) fc oc ta fa oa∧Same h h' ta) ?_ ?_
         ·simp at hle2
          simp[hn,h0,h1',h5,h7,h8,bx2,r1,bx52,bx3,hnl,stpC,Plan.then_,vcPlan,planOps,isCallAt,callKind]
          refine⟨by omega,CutK.of ⟨by simp[hn],?_,(hy2.mono (by simp)).setBox (.inl hl2.1)⟩⟩
          have:=w2 0 [.d (.str step.newName)] { c with name:=step.newName } (by simp) (by simp)
          simpa[hn1] using this
         ·rintro e h3 ⟨hn,s3,hs3⟩
          simp[hn]
          exact hk _ _ s3.ows (hs3.mono fun k hk=>by simp[hk]) (fun k hk=>.inl hk)
    | false=>
      simp only[hk3,cond_false] at hm
      replace hm:=hm.bind
      obtain⟨w,hw,hm⟩:=hm
      simp[hk3]
      refine Wait.cut (Plan.then_ [0,1,2,3,4,5,6,7,8] .done) follows (by kernel_rfl) (fun e h'=>e.n=94∧e.get 0=.one (.ptr l 0)∧e.get 1=.one (.d (.int .i64 (i:Int)))∧e.get 5=.one (.ptr (h.ep,80) 0)∧e.get 7=.one (.ptr lt (i * 3))∧e.get 8=.one (.d (.int .i64 v.1))∧e.get 12=.one (.d (.int .i64 w))∧Same h1 h' []) ?_ ?_
      ·simp[hn,h0,h1',h5,h7,h8,bx',r0,hb1,Plan.then_,vcPlan,planOps,isCallAt,callKind]
       refine callK_heap (HSpec.of_lend (c_evolution_checkUnused S T v.1 w hw) ⟨.agg s1.frz,.agg (hxf _ hs1),.one (.frz (.data rfl)),trivial⟩ rfl ?_)
       simp[hn]
       exact⟨fun _ _ x=>x,CutK.of (by simp[hn,h0,h1',h5,h7,h8,Same.refl.next])⟩
      ·rintro e h2 ⟨hn,h0,h1',h5,h7,h8,h12,hs2⟩
       have s2:=s1.frame hs2
       have hy2:=hy.trans hs2
       have bx2:h2.box lt=some B:=by rw[hs2.2 _ (s1.lt lt (by simp[tv.tm])) (by simp)];exact bx'
       have bx52:h2.box (h.ep,80)=some (stpC step x6 x12 x13 x22):=by rw[hs2.2 _ (Nat.lt_of_lt_of_le hep hs1.1) (by simp)];exact bx5'
       simp[hn,h12]
       cases hw0:w != 0 with
       | true=>
         simp only[hw0,cond_true] at hm
         have e1:=r_ret hm
         simp only[Prod.mk.injEq] at e1
         obtain⟨rfl,rfl⟩:=e1
         have hw1:¬ w=0:=by simpa using hw0
         simp[hn,h12,hw1]
         exact hk _ _ s2.ows (hy2.mono (by simp)) (fun k hk=>.inl hk)
       | false=>
         simp only[hw0,cond_false] at hm
         have hw1:w=0:=by simpa using hw0
         simp[hn,h5,h12,hw1,bx52,stpC]
         cases hk5:step.kind == 5 with
         | true=>
           simp only[hk5,cond_true] at hm
           replace hm:=hm.get
           obtain⟨c,hv0,hc,hm⟩:=hm
           have e1:=r_ret hm
           simp only[Prod.mk.injEq] at e1
           obtain⟨rfl,rfl⟩:=e1
           obtain⟨c1',c2',tv2⟩:=s2.tblK bx2 hi
           obtain rfl:c1'=c1:=by
            have:=tv2.el.rd 1 1 (by omega)
            simp[r1] at this
            exact this.symm
           obtain⟨l2,cap2,B2,rfl,el2,w2⟩:=tv2.e1 _ c hc
           have bx3:=el2.box
           have hle2:=el2.le
           have hl2:=tv2.l1 l2 (by simp[labs])
           obtain⟨n,hn1⟩:∃ n:Nat,v.1=n:=⟨v.1.toNat,by omega⟩
           have hnl:n < T.cols.length:=by
            have:=(List.getElem?_eq_some_iff.1 hc).1
            omega
           rw[hn1] at h8 hle2 w2
           simp[hk5]
           refine Wait.cut (Plan.then_ [0,1,2,3,4,5,6,7,8,9] .done) follows (by kernel_rfl) (fun e h'=>e.n=94∧Sc h' l { S with tables:=S.tables.set i { T with cols:=T.cols.set v.1.toNat { c with kind:=step.type } } } (.mrow lt 0 S.tables.length cap) fc oc ta fa oa∧Same h h' ta) ?_ ?_
           ·simp at hle2
            simp[hn,h0,h1',h5,h7,h8,bx2,r1,bx52,bx3,hnl,stpC,Plan.then_,vcPlan,planOps,isCallAt,callKind]
            refine⟨by omega,CutK.of ⟨by simp[hn],?_,(hy2.mono (by simp)).setBox (.inl hl2.1)⟩⟩
            have:=w2 1 [.d (.int .i64 step.type)] { c with kind:=step.type } (by simp) (by simp)
            simpa[hn1] using this
           ·rintro e h3 ⟨hn,s3,hs3⟩
            simp[hn]
            exact hk _ _ s3.ows (hs3.mono fun k hk=>by simp[hk]) (fun k hk=>.inl hk)
         | false=>
           simp only[hk5,cond_false] at hm
           replace hm:=hm.get
           obtain⟨c,hv0,hc,hm⟩:=hm
           replace hm:=hm.bind
           obtain⟨u,hu,hm⟩:=hm
           obtain⟨c1',c2',tv2⟩:=s2.tblK bx2 hi
           obtain rfl:c1'=c1:=by
            have:=tv2.el.rd 1 1 (by omega)
            simp[r1] at this
            exact this.symm
           obtain⟨l2,cap2,B2,rfl,el2,w2⟩:=tv2.e1 _ c hc
           have bx3:=el2.box
           have q0:=el2.rd0 3 (by omega)
           obtain⟨n,hn1⟩:∃ n:Nat,v.1=n:=⟨v.1.toNat,by omega⟩
           have hnl:n < T.cols.length:=by
            have:=(List.getElem?_eq_some_iff.1 hc).1
            omega
           rw[hn1] at h8 q0
           simp at q0
           simp[hk5]
           refine Wait.cut (Plan.then_ [0,1,2,3,4,5,6,7,8,9,10] .done) follows (by kernel_rfl) (fun e h'=>e.n=94∧e.get 0=.one (.ptr l 0)∧e.get 1=.one (.d (.int .i64 (i:Int)))∧e.get 8=.one (.d (.int .i64 n))∧e.get 13=.one (.d (.int .i64 u))∧Same h2 h' []) ?_ ?_
           ·simp[hn,h0,h1',h5,h7,h8,bx2,r1,bx3,q0,hnl,bx52,stpC,Plan.then_,vcPlan,planOps,isCallAt,callKind]
            refine callK_heap (HSpec.of_lend (c_evolution_checkDefault step.value c u hu) ⟨.agg (FrzCs.datas (ds:=step.value.enc)),.agg (FrzCs.datas (ds:=c.enc)),trivial⟩ rfl ?_)
            simp[hn]
            exact⟨fun _ _ x=>x,CutK.of (by simp[hn,h0,h1',h8,Same.refl.next])⟩
           ·rintro e h3 ⟨hn,h0,h1',h8,h13,hs3⟩
            have s3:=s2.frame hs3
            have hy3:=hy2.trans hs3
            simp[hn,h13]
            cases hu0:u != 0 with
            | true=>
              simp only[hu0,cond_true] at hm
              have e1:=r_ret hm
              simp only[Prod.mk.injEq] at e1
              obtain⟨rfl,rfl⟩:=e1
              have hu1:¬ u=0:=by simpa using hu0
              simp[hn,h13,hu1]
              exact hk _ _ s3.ows (hy3.mono (by simp)) (fun k hk=>.inl hk)
            | false=>
              simp only[hu0,cond_false] at hm
              have hu1:u=0:=by simpa using hu0
              replace hm:=hm.bind
              obtain⟨S4,hm4,hm⟩:=hm
              have e1:=r_ret hm
              simp only[Prod.mk.injEq] at e1
              obtain⟨rfl,rfl⟩:=e1
              simp[hn,h0,h1',h8,h13,hu1]
              have hz:Same h3 ((h3.setArr (h3.ep,16 * 92) (some (1,1))).next) []:=(Same.refl.setArr).next
              simp only[Nat.reduceMul] at hz
              refine callK_heap (h_evolution_removeColumns _ l _ fc oc _ ta fa oa S S4 i [v.1] hm4 (s3.frame hz) (fun h' _=>.data (by simp[hn1])) _ (fun h4 ta4 s4 hs4 hta4=>?_))
              simp[hn]
              have hy4:=hy3.trans hz
              exact hk _ _ s4.ows ((hy4.mono (by simp)).trans (hs4.mono fun k hk=>List.mem_cons_of_mem _ hk)) (keep_ta (lx:=[]) fun k hk=>(hta4 k hk).imp_right fun h2=>Nat.le_trans hy4.1 h2)
def m_evolution_concatColumns (S:Sch) (i:Nat) (step:Stp):Option (Sch × Int):=
 getK S.tables (i:Int) fun T=>bif ((step.cols.length:Int) != 2) then some (S,3) else getK step.cols 0 fun a=>bif decide (a < 0) then some (S,3) else getK step.cols 1 fun b=>bif decide (b≤a) then some (S,3) else bif decide ((T.cols.length:Int)≤b) then some (S,3) else
 forK (fun _ (col:Int) (nul:Bool) next=>getK T.cols col fun c=>bif c.kind != 3 then some (S,7) else next (nul && c.nullable)) (fun nul=>
  forK (fun _ (col:Int) (_:Unit) next=>bindK (m_evolution_checkUnused S T col) fun e=>bif e != 0 then some (S,e) else next ()) (fun _=>
   bindK (m_evolution_removeColumns S i step.cols) fun S1=>getK S1.tables (i:Int) fun T1=>chkK (0 < T1.cols.length∧T1.cols.length < LIM) (some ({ S1 with tables:=S1.tables.set i { T1 with cols:=T1.cols++[⟨step.column,3,nul⟩] } },0))) step.cols 0 ()) step.cols 0 true
set_option maxHeartbeats 1000000 in
theorem h_evolution_concatColumns (h:HS) (l:Lab) (tc fc oc:C) (xs:List C) (ta fa oa lx:List Lab) (S S':Sch) (i:Nat) (step:Stp) (r:Int) (hm:Is (m_evolution_concatColumns S i step) (S',r)) (s:Sc h l S tc fc oc ta fa oa) (hx:Ow h StpSh xs step.enc lx) (hd:∀ k ∈ lx,k.1 < h.ep∧k ∉ l::(ta++(fa++oa))) (K:V→HS→Prop)
  (hk:KeepS h l (ta++(fa++oa)) S' (.one (.d (.int .i64 r))) K) :
  HSpec Tryz.prog 170 [.one (.ptr l 0),.one (.d (.int .i64 (i:Int))),.agg xs] h K:=by
 obtain⟨x6,x12,x13,x22,a6,a12,a13,a22,rfl,rfl,o6,o12,o13,o22⟩:=hx.stp
 replace hm:=hm.getN
 obtain⟨T,hi,hm⟩:=hm
 have hlt:i < S.tables.length:=(List.getElem?_eq_some_iff.1 hi).1
 have hs0:Same h ((h.setBox (h.ep,80) (stpC step x6 x12 x13 x22)).next) []:=(Same.refl.setBox (.inr (Nat.le_refl _))).next
 have s0:=s.frame hs0
 obtain⟨lt,c1,c2,B,tv⟩:=s0.tbl hi
 obtain⟨cap,rfl⟩:=tv.hd
 have hb0:=s0.box
 have bx:=tv.el.box
 have r0:=tv.el.rd0 3 (by omega)
 have r1:=tv.el.rd 1 1 (by omega)
 simp at r0 r1
 have bx5:(h.setBox (h.ep,80) (stpC step x6 x12 x13 x22)).next.box (h.ep,80)=some (stpC step x6 x12 x13 x22):=by simp
 have o60:∀ h',Same h h' (l::(ta++(fa++oa)))→Ow h' [.r [.d]] [x6] [.sl (step.cols.map encI)] a6:=fun h' hs=>o6.frame fun k hk=>hs.2 k (hd k (by simp[hk])).1 (hd k (by simp[hk])).2
 have hcl:=o6.nlen
 simp at hcl
 refine HSpec.of_vc Tryz.func170 rfl (by kernel_rfl) (n:=114) rfl rfl (by simp) ?_
 have hnn:stpC step x6 x12 x13 x22≠[]:=by simp[stpC]
 have hne:=ne_new (s.lt l (by simp))
 have hbs:=s.box
 have hep:h.ep < ((h.setBox (h.ep,80) (stpC step x6 x12 x13 x22)).next).ep:=by simp
 simp[hbs,hne,hlt,hnn]
 have e6:takeN 1 ((stpC step x6 x12 x13 x22).drop 6)=some [x6]:=by simp[stpC]
 simp[e6]
 generalize (h.setBox (h.ep,80) (stpC step x6 x12 x13 x22)).next=HX at *
 have hxf:∀ h',Same HX h' []→FrzCs h' [C.d (D.str T.name),c1,c2] T.enc:=fun h' hs=>⟨.data rfl,tv.f1 h' hs,tv.f2 h' hs,trivial⟩
 cases hl2:(step.cols.length:Int) != 2 with
 | true=>
   simp only[hl2,cond_true] at hm
   have e1:=r_ret hm
   have hl3:¬ (step.cols.length:Int)=2:=by simpa using hl2
   simp only[Prod.mk.injEq] at e1
   obtain⟨rfl,rfl⟩:=e1
   refine Wait.cut (Plan.then_ [0,1,2,3,4,5,6,7,8,9,10,11,12,13,14,15,16,17,18,19,20,21,22,23,24,25,26,27,28] .done) follows (by kernel_rfl) (fun e h'=>e.n=114∧e.get 51=.one (.d (.bool true))∧h'=HX) ?_ ?_
   ·simp[Plan.then_,vcPlan,planOps,isCallAt,callKind]
    refine lenK_clen hcl.1 ?_
    simp[Plan.then_,vcPlan,planOps,isCallAt,callKind,hl2,hl3]
    exact CutK.of (by simp)
   ·rintro e h1 ⟨hn,h51,rfl⟩
    simp[hn,h51]
    exact hk _ _ s0.ows (hs0.mono (by simp)) (fun k hk=>.inl hk)
 | false=>
   simp only[hl2,cond_false] at hm
   have hl3:(step.cols.length:Int)=2:=by simpa using hl2
   have hl4:step.cols.length=2:=by omega
   replace hm:=hm.get
   obtain⟨a,-,ha,hm⟩:=hm
   simp at ha
   obtain⟨l6,cap6,B6,rfl,hl6,bx6,r6⟩:=(o60 _ (hs0.mono (by simp))).nelem (k:=0) (v:=a) (by simpa using ha)
   simp at r6
   cases ha0:decide (a < 0) with
   | true=>
     simp only[ha0,cond_true] at hm
     have e1:=r_ret hm
     simp at ha0
     simp only[Prod.mk.injEq] at e1
     obtain⟨rfl,rfl⟩:=e1
     refine Wait.cut (Plan.then_ [0,1,2,3,4,5,6,7,8,9,10,11,12,13,14,15,16,17,18,19,20,21,22,23,24,25,26,27,28] .done) follows (by kernel_rfl) (fun e h'=>e.n=114∧e.get 51=.one (.d (.bool true))∧h'=HX) ?_ ?_
     ·simp[Plan.then_,vcPlan,planOps,isCallAt,callKind]
      simp[Plan.then_,vcPlan,planOps,isCallAt,callKind,hl4,bx6,r6,ha0]
      exact CutK.of (by simp)
     ·rintro e h1 ⟨hn,h51,rfl⟩
      simp[hn,h51]
      exact hk _ _ s0.ows (hs0.mono (by simp)) (fun k hk=>.inl hk)
   | false=>
     simp only[ha0,cond_false] at hm
     simp at ha0
     have ha1:¬ a < 0:=by omega
     replace hm:=hm.get
     obtain⟨b,-,hb,hm⟩:=hm
     simp at hb
     obtain⟨l6',cap6',B6',e6',-,bx6',r61⟩:=(o60 _ (hs0.mono (by simp))).nelem (k:=1) (v:=b) (by simpa using hb)
     simp at e6'
     obtain⟨rfl,rfl⟩:=e6'
     rw[bx6] at bx6'
     cases bx6'
     simp at r61
     cases hb0':decide (b≤a) with
     | true=>
       simp only[hb0',cond_true] at hm
       have e1:=r_ret hm
       simp at hb0'
       simp only[Prod.mk.injEq] at e1
       obtain⟨rfl,rfl⟩:=e1
       refine Wait.cut (Plan.then_ [0,1,2,3,4,5,6,7,8,9,10,11,12,13,14,15,16,17,18,19,20,21,22,23,24,25,26,27,28] .done) follows (by kernel_rfl) (fun e h'=>e.n=114∧e.get 51=.one (.d (.bool true))∧h'=HX) ?_ ?_
       ·simp[Plan.then_,vcPlan,planOps,isCallAt,callKind]
        simp[Plan.then_,vcPlan,planOps,isCallAt,callKind,hl4,bx6,r6,r61,ha1,hb0']
        exact CutK.of (by simp)
       ·rintro e h1 ⟨hn,h51,rfl⟩
        simp[hn,h51]
        exact hk _ _ s0.ows (hs0.mono (by simp)) (fun k hk=>.inl hk)
     | false=>
       simp only[hb0',cond_false] at hm
       simp at hb0'
       have hb1':¬ b≤a:=by omega
       cases hc0:decide ((T.cols.length:Int)≤b) with
       | true=>
         simp only[hc0,cond_true] at hm
         have e1:=r_ret hm
         simp at hc0
         simp only[Prod.mk.injEq] at e1
         obtain⟨rfl,rfl⟩:=e1
         refine Wait.cut (Plan.then_ [0,1,2,3,4,5,6,7,8,9,10,11,12,13,14,15,16,17,18,19,20,21,22,23,24,25,26,27,28] .done) follows (by kernel_rfl) (fun e h'=>e.n=114∧e.get 51=.one (.d (.bool true))∧h'=HX) ?_ ?_
         ·simp[Plan.then_,vcPlan,planOps,isCallAt,callKind]
          simp[Plan.then_,vcPlan,planOps,isCallAt,callKind,hl4,bx6,r6,r61,ha1,hb1',bx,r1]
          refine lenK_clen tv.n1.1 ?_
          simp[hc0]
          exact CutK.of (by simp)
         ·rintro e h1 ⟨hn,h51,rfl⟩
          simp[hn,h51]
          exact hk _ _ s0.ows (hs0.mono (by simp)) (fun k hk=>.inl hk)
       | false=>
         simp only[hc0,cond_false] at hm
         simp at hc0
         have hc1:¬ (T.cols.length:Int)≤b:=by omega
         refine Wait.cut (Plan.then_ [0,1,2,3,4,5,6,7,8,9,10,11,12,13,14,15,16,17,18,19,20,21,22,23,24,25,26,27,28] .done) follows (by kernel_rfl) (fun e h'=>e.n=114∧e.get 0=.one (.ptr l 0)∧e.get 1=.one (.d (.int .i64 (i:Int)))∧e.get 5=.one (.ptr (h.ep,80) 0)∧e.get 7=.one (.ptr lt (i * 3))∧e.get 8=.one (.mrow l6 0 step.cols.length cap6)∧e.get 51=.one (.d (.bool false))∧h'=HX) ?_ ?_
         ·simp[Plan.then_,vcPlan,planOps,isCallAt,callKind]
          simp[Plan.then_,vcPlan,planOps,isCallAt,callKind,hl4,bx6,r6,r61,ha1,hb1',bx,r1]
          refine lenK_clen tv.n1.1 ?_
          simp[hc1]
          exact CutK.of (by simp[hl4])
         ·rintro e h1 ⟨hn,h0,h1',h5,h7,h8,h51,rfl⟩
          simp[hn,h8,h51]
          have n6:∀ h',Same h h' (l::(ta++(fa++oa)))→h'.box l6=some B6∧∀ (k:Nat) (v:Int),step.cols[k]?=some v→takeN 1 (B6.drop k)=some [.d (.int .i64 v)]:=fun h' hs=>by
           have hl6':=hd l6 (by simp[hl6])
           have h2:h'.box l6=some B6:=by
            rw[hs.2 l6 hl6'.1 hl6'.2,← hs0.2 l6 hl6'.1 (by simp)]
            exact bx6
           refine⟨h2,fun k v hk=>?_⟩
           obtain⟨l7,cap7,B7,e7,-,bx7,r7⟩:=(o60 h' hs).nelem hk
           simp at e7
           obtain⟨rfl,rfl⟩:=e7
           rw[h2] at bx7
           cases bx7
           exact r7
          refine Wait.for (xs:=step.cols) (s0:=true) (fun k nul e h2=>e.n=114∧e.get 0=.one (.ptr l 0)∧e.get 1=.one (.d (.int .i64 (i:Int)))∧e.get 5=.one (.ptr (h.ep,80) 0)∧e.get 7=.one (.ptr lt (i * 3))∧e.get 8=.one (.mrow l6 0 step.cols.length cap6)∧e.get 52=.one (.mrow l6 0 step.cols.length cap6)∧e.get 53=.one (.d (.int .i64 (step.cols.length:Int)))∧e.get 54=.one (.d (.int .i64 (k:Int)))∧e.get 9=.one (.d (.bool nul))∧h2=h1) hm ⟨by simp[hn],by simp[h0],by simp[h1'],by simp[h5],by simp[h7],by simp[h8],by simp,by simp,by simp,by simp,rfl⟩ ?_ ?_
          ·rintro k nul e h2 ⟨hn,h0,h1',h5,h7,h8,h52,h53,h54,h9,rfl⟩ hltk hm
           replace hm:=hm.get
           obtain⟨c,hc0',hc,hm⟩:=hm
           have hltk2:k < 2:=by omega
           have hw:IntKind.i64.wrap ((k:Int)+1)=(k:Int)+1:=IntWalk.i64_in _ (by omega)
           obtain⟨n6a,n6b⟩:=n6 _ (hs0.mono (by simp))
           have q6:=n6b k _ (List.getElem?_eq_getElem hltk)
           obtain⟨l2,cap2,B2,rfl,el2,-⟩:=tv.e1 _ c hc
           have bx2:=el2.box
           have q1:=el2.rd 1 1 (by omega)
           have q2:=el2.rd 2 1 (by omega)
           obtain⟨n,hn1⟩:∃ n:Nat,step.cols[k]=n:=⟨step.cols[k].toNat,by omega⟩
           have hnl:n < T.cols.length:=by
            have:=(List.getElem?_eq_some_iff.1 hc).1
            omega
           rw[hn1] at q6 q1 q2
           simp at q1 q2
           cases hk3:c.kind != 3 with
           | true=>
             simp only[hk3,cond_true] at hm
             have e1:=r_ret hm
             simp only[Prod.mk.injEq] at e1
             obtain⟨rfl,rfl⟩:=e1
             have hk4:¬ c.kind=3:=by simpa using hk3
             simp[hn,h7,h8,h52,h53,h54,hltk,n6a,q6,bx,r1,hnl,bx2,q1,hk3,hk4]
             exact hk _ _ s0.ows (hs0.mono (by simp)) (fun k hk=>.inl hk)
           | false=>
             simp only[hk3,cond_false] at hm
             have hk4:c.kind=3:=by simpa using hk3
             simp[hn,h7,h8,h52,h53,h54,hltk,n6a,q6,bx,r1,hnl,bx2,q1,hk4]
             cases nul with
             | true=>
               simp[hn,h7,h9,h54,bx,r1,hnl,bx2,q2,hw]
               exact BackF.of _ ⟨⟨by simp[hn],by simp[h0],by simp[h1'],by simp[h5],by simp[h7],by simp[h8],by simp[h52],by simp[h53],by simp,by simp,rfl⟩,hm⟩
             | false=>
               simp[hn,h7,h9,h54,bx,r1,hnl,bx2,q2,hw]
               exact BackF.of _ ⟨⟨by simp[hn],by simp[h0],by simp[h1'],by simp[h5],by simp[h7],by simp[h8],by simp[h52],by simp[h53],by simp,by simp,rfl⟩,hm⟩
          ·rintro nul e h2 ⟨hn,h0,h1',h5,h7,h8,h52,h53,h54,h9,rfl⟩ hm
           simp[hn,h8,h53,h54]
           refine Wait.for (xs:=step.cols) (s0:=()) (fun k _ e h3=>e.n=114∧e.get 0=.one (.ptr l 0)∧e.get 1=.one (.d (.int .i64 (i:Int)))∧e.get 5=.one (.ptr (h.ep,80) 0)∧e.get 7=.one (.ptr lt (i * 3))∧e.get 8=.one (.mrow l6 0 step.cols.length cap6)∧e.get 79=.one (.mrow l6 0 step.cols.length cap6)∧e.get 80=.one (.d (.int .i64 (step.cols.length:Int)))∧e.get 81=.one (.d (.int .i64 (k:Int)))∧e.get 9=.one (.d (.bool nul))∧Same h2 h3 []) hm ⟨by simp[hn],by simp[h0],by simp[h1'],by simp[h5],by simp[h7],by simp[h8],by simp,by simp,by simp,by simp[h9],.refl⟩ ?_ ?_
           ·rintro k _ e h3 ⟨hn,h0,h1',h5,h7,h8,h79,h80,h81,h9,hs3⟩ hltk hm
            replace hm:=hm.bind
            obtain⟨w,hwv,hm⟩:=hm
            have hltk2:k < 2:=by omega
            have hw:IntKind.i64.wrap ((k:Int)+1)=(k:Int)+1:=IntWalk.i64_in _ (by omega)
            have hy:=hs0.trans hs3
            have s3:=s0.frame hs3
            have hb3:=s3.box
            have bx3:h3.box lt=some B:=by rw[hs3.2 _ (s0.lt lt (by simp[tv.tm])) (by simp)];exact bx
            obtain⟨n6a,n6b⟩:=n6 _ (hy.mono (by simp))
            have q6:=n6b k _ (List.getElem?_eq_getElem hltk)
            simp[hn,h0,h7,h79,h80,h81,hltk,n6a,q6]
            refine Wait.cut (Plan.then_ [0,1,2,3,4,5,6,7,8] .done) follows (by kernel_rfl) (fun e h4=>e.n=114∧e.get 0=.one (.ptr l 0)∧e.get 1=.one (.d (.int .i64 (i:Int)))∧e.get 5=.one (.ptr (h.ep,80) 0)∧e.get 7=.one (.ptr lt (i * 3))∧e.get 8=.one (.mrow l6 0 step.cols.length cap6)∧e.get 79=.one (.mrow l6 0 step.cols.length cap6)∧e.get 80=.one (.d (.int .i64 (step.cols.length:Int)))∧e.get 81=.one (.d (.int .i64 (k:Int)))∧e.get 9=.one (.d (.bool nul))∧e.get 14=.one (.d (.int .i64 w))∧Same h2 h4 []) ?_ ?_
            ·simp[hn,h0,h1',h5,h7,h8,h9,hb3,bx3,r0,Plan.then_,vcPlan,planOps,isCallAt,callKind]
             refine callK_heap (HSpec.of_lend (c_evolution_checkUnused S T _ w hwv) ⟨.agg s3.frz,.agg (hxf _ hs3),.one (.frz (.data rfl)),trivial⟩ rfl ?_)
             simp[hn]
             exact⟨fun _ _ x=>x,CutK.of ⟨by simp[hn],by simp[h0],by simp[h1'],by simp[h5],by simp[h7],by simp[h8],by simp[h79],by simp[h80],by simp[h81],by simp[h9],by simp,hs3.next⟩⟩
            ·rintro e h4 ⟨hn,h0,h1',h5,h7,h8,h79,h80,h81,h9,h14,hs4⟩
             simp[hn,h14,h81]
             cases hw0:w != 0 with
             | true=>
               simp only[hw0,cond_true] at hm
               have e1:=r_ret hm
               simp only[Prod.mk.injEq] at e1
               obtain⟨rfl,rfl⟩:=e1
               have hw1:¬ w=0:=by simpa using hw0
               simp[hn,h14,hw1]
               exact hk _ _ (s0.frame hs4).ows ((hs0.trans hs4).mono (by simp)) (fun k hk=>.inl hk)
             | false=>
               simp only[hw0,cond_false] at hm
               have hw1:w=0:=by simpa using hw0
               simp[hn,h81,hw1,hw]
               exact BackF.of _ ⟨⟨by simp[hn],by simp[h0],by simp[h1'],by simp[h5],by simp[h7],by simp[h8],by simp[h79],by simp[h80],by simp,by simp[h9],hs4⟩,hm⟩
           ·rintro _ e h3 ⟨hn,h0,h1',h5,h7,h8,h79,h80,h81,h9,hs3⟩ hm
            replace hm:=hm.bind
            obtain⟨S1,hm1,hm⟩:=hm
            replace hm:=hm.getN
            obtain⟨T1,hi1,hm⟩:=hm
            replace hm:=hm.chk
            obtain⟨⟨hc0',hc1'⟩,hm⟩:=hm
            have e1:=r_ret hm
            simp only[Prod.mk.injEq] at e1
            obtain⟨rfl,rfl⟩:=e1
            have hy:=hs0.trans hs3
            have s3:=s0.frame hs3
            simp[hn,h0,h1',h8,h80,h81]
            refine callK_heap (h_evolution_removeColumns _ l _ fc oc _ ta fa oa S S1 i step.cols hm1 s3 (fun h' hs'=>((o60 h' ((hy.mono (by simp)).trans (hs'.mono fun k hk=>List.mem_cons_of_mem _ hk)))).nfrz) _ (fun h4 ta4 s4 hs4 hta4=>?_))
            have hlt4:i < S1.tables.length:=(List.getElem?_eq_some_iff.1 hi1).1
            obtain⟨lt4,c14,c24,B4,tv4⟩:=s4.tbl hi1
            obtain⟨cap4,e4⟩:=tv4.hd
            simp at e4
            obtain⟨rfl,e5,rfl⟩:=e4
            have bx4:=tv4.el.box
            have q1:=tv4.el.rd 1 1 (by omega)
            have hle4:=tv4.el.le
            simp at q1
            have bx54:h4.box (h.ep,80)=some (stpC step (.mrow l6 0 step.cols.length cap6) x12 x13 x22):=by
             rw[hs4.2 _ (Nat.lt_of_lt_of_le hep hs3.1) (fun h2=>by have:=s.lt (h.ep,80) (by simp at h2 ⊢;exact .inr h2);simp at this),hs3.2 _ hep (by simp)]
             exact bx5
            simp[hn]
            refine Wait.cut (Plan.then_ [0,1,2,3,4,5,6,7,8,9,10,11,12,13] .done) follows (by kernel_rfl) (fun e h'=>e.n=114∧∃ ta',Sc h' l { S1 with tables:=S1.tables.set i { T1 with cols:=T1.cols++[⟨step.column,3,nul⟩] } } (.mrow lt 0 S.tables.length cap) fc oc ta' fa oa∧Same h4 h' ta4∧∀ k ∈ ta',k ∈ ta4∨h4.ep≤k.1) ?_ ?_
            ·simp[hn,h0,h5,h7,h9,bx4,q1,bx54,stpC,Plan.then_,vcPlan,planOps,isCallAt,callKind]
             have hz:Same h4 (((h4).setArr (h4.ep,16 * 110) (some (1,3))).next) []:=(Same.refl).setArr.next
             simp only[Nat.reduceMul] at hz
             obtain⟨c1',c2',tv5⟩:=(s4.frame hz).tblK (by simpa using bx4) hi1
             obtain rfl:c1'=c14:=by
              have:=tv5.el.rd 1 1 (by omega)
              simp[q1] at this
              exact this.symm
             have hc2:T1.cols.length < 2097152:=hc1'
             refine app_mr (by simp;exact⟨rfl,rfl⟩) (by simp) (by simp) (by simp) (tv5.m1 (by intro h0;simp[h0] at hc0')) (RowAt.own1 (by simp)) (by simp;omega) (fun c' h' hm' hs5 hl5=>?_)
             have hbl:h'.box lt=some B4:=by
              rw[hs5.2 lt ((s4.frame hz).lt lt (by simp[tv5.tm])) fun h2=>(tv5.l1 lt h2).2 rfl]
              simpa using bx4
             obtain⟨ta',s6,hta⟩:=tv5.s1 h' c' (T1.cols++[⟨step.column,3,nul⟩]) (by simpa using hm') hs5 (fun k hk=>(hl5 k hk).imp_right fun h2=>⟨fun h3=>by have:=(s4.frame hz).lt k h3;omega,h2.2⟩)
             simp[hn,h7,hbl]
             refine⟨by omega,CutK.of ⟨by simp[hn],ta',s6,?_,fun k hk=>?_⟩⟩
             ·exact ((hz.mono (by simp)).trans (hs5.mono fun k hk=>(tv5.l1 k hk).1)).setBox (.inl tv5.tm)
             ·rcases hta k hk with h2 | h2
              ·exact .inl h2
              ·rcases hl5 k h2 with h3 | h3
               ·exact .inl (tv5.l1 k h3).1
               ·refine .inr ?_
                have h4':=h3.1
                simp at h4'
                omega
            ·rintro e h5 ⟨hn,ta',s6,hs6,hta6⟩
             simp[hn]
             have hep4:h.ep≤h4.ep:=Nat.le_trans hy.1 hs4.1
             refine hk _ _ s6.ows (((hy.mono (by simp)).trans (hs4.mono fun k hk=>List.mem_cons_of_mem _ hk)).trans' hs6 fun k hk=>?_) (keep_ta (lx:=[]) fun k hk=>?_)
             ·exact (hta4 k hk).imp (fun h2=>by simp[h2]) fun h2=>Nat.le_trans hy.1 h2
             ·rcases hta6 k hk with h2 | h2
              ·exact (hta4 k h2).imp_right fun h3=>Nat.le_trans hy.1 h3
              ·exact .inr (Nat.le_trans hep4 h2)
end Go.Proofs.YthgepknlibmjcaaGreat
end
section
namespace Go.Proofs.YthgepknlibmjcaaGreat
open Go.Am
def m_evolution_dropForeignKey_1 (other:Fk) (k0:Fk):Option Bool:=
 (bindK (m_schema_EqualForeignKeys other k0) fun v2=>(some v2))
theorem c_evolution_dropForeignKey_1 (other:Fk) (k0:Fk) (r:Bool) (hm:Is (m_evolution_dropForeignKey_1 other k0) r):PSpec Tryz.prog 175 [.agg other.enc,.one (.rp [.str k0.table,.sl (k0.cols.map encI),.str k0.ref])] (.one (.d (.bool r))):=by
 unfold m_evolution_dropForeignKey_1 at hm
 refine PSpec.of_vc Tryz.func175 rfl (by kernel_rfl) (n:=7) rfl rfl (by simp) ?_
 try simp[*]
 refine r_call (av:=[.agg other.enc,.agg k0.enc]) hm (fun v hv=>c_schema_EqualForeignKeys _ _ v hv) (by simp[*]) ?_
 clear hm;intro v2 hvv2 hm
 try simp[*]
 obtain rfl:=r_ret hm
 exact ret0 (vs:=[_]) (by simp[*];try exact rfl) (by simp[*])
def m_evolution_removeTable_1 (t:Tbl) (k0:ByteArray):Option Bool:=
 (some (strEq t.name k0))
theorem c_evolution_removeTable_1 (t:Tbl) (k0:ByteArray) (r:Bool) (hm:Is (m_evolution_removeTable_1 t k0) r):PSpec Tryz.prog 198 [.agg t.enc,.one (.rp [.str k0])] (.one (.d (.bool r))):=by
 unfold m_evolution_removeTable_1 at hm
 refine PSpec.of_vc Tryz.func198 rfl (by kernel_rfl) (n:=8) rfl rfl (by simp) ?_
 try simp[*]
 obtain rfl:=r_ret hm
 exact ret0 (vs:=[_]) (by simp[*];try exact rfl) (by simp[*])
def m_evolution_removeTable_2 (fk:Fk) (k0:ByteArray):Option Bool:=
 (some (strEq fk.table k0))
theorem c_evolution_removeTable_2 (fk:Fk) (k0:ByteArray) (r:Bool) (hm:Is (m_evolution_removeTable_2 fk k0) r):PSpec Tryz.prog 200 [.agg fk.enc,.one (.rp [.str k0])] (.one (.d (.bool r))):=by
 unfold m_evolution_removeTable_2 at hm
 refine PSpec.of_vc Tryz.func200 rfl (by kernel_rfl) (n:=8) rfl rfl (by simp) ?_
 try simp[*]
 obtain rfl:=r_ret hm
 exact ret0 (vs:=[_]) (by simp[*];try exact rfl) (by simp[*])
def m_evolution_removeTable_3 (c:Cons) (k0:ByteArray):Option Bool:=
 (some (strEq c.table k0))
theorem c_evolution_removeTable_3 (c:Cons) (k0:ByteArray) (r:Bool) (hm:Is (m_evolution_removeTable_3 c k0) r):PSpec Tryz.prog 202 [.agg c.enc,.one (.rp [.str k0])] (.one (.d (.bool r))):=by
 unfold m_evolution_removeTable_3 at hm
 refine PSpec.of_vc Tryz.func202 rfl (by kernel_rfl) (n:=8) rfl rfl (by simp) ?_
 try simp[*]
 obtain rfl:=r_ret hm
 exact ret0 (vs:=[_]) (by simp[*];try exact rfl) (by simp[*])
def m_evolution_dropTable_1 (fk:Fk) (k0:ByteArray):Option Bool:=
 (bif strEq fk.ref k0 then (some (!(strEq fk.table k0))) else (some false))
theorem c_evolution_dropTable_1 (fk:Fk) (k0:ByteArray) (r:Bool) (hm:Is (m_evolution_dropTable_1 fk k0) r):PSpec Tryz.prog 191 [.agg fk.enc,.one (.rp [.str k0])] (.one (.d (.bool r))):=by
 unfold m_evolution_dropTable_1 at hm
 refine PSpec.of_vc Tryz.func191 rfl (by kernel_rfl) (n:=14) rfl rfl (by simp) ?_
 try simp[*]
 refine r_guardT hm ?_ ?_<;>clear hm<;>intro hc2 hm
 ·try simp[*]
  obtain rfl:=r_ret hm
  exact ret0 (vs:=[_]) (by simp[*];try exact rfl) (by simp[*])
 ·try simp[*]
  obtain rfl:=r_ret hm
  exact ret0 (vs:=[_]) (by simp[*];try exact rfl) (by simp[*])
end Go.Proofs.YthgepknlibmjcaaGreat
end
section
namespace Go.Proofs.YthgepknlibmjcaaGreat
open Go Go.Am
def m_evolution_dropConstraint (S:Sch) (c:Cons):Option (Sch × Int):=
 bindK (m_slices_Index_Constraint S.cons c) fun k=>if k < 0 then some (S,4) else chkK (k+1≤S.cons.length) (some ({ S with cons:=S.cons.take k.toNat++S.cons.drop (k.toNat+1) },0))
theorem h_evolution_dropConstraint (h:HS) (l:Lab) (ls:List Lab) (S S':Sch) (c:Cons) (r:Int) (hm:Is (m_evolution_dropConstraint S c) (S',r)) (ho:OwS h l S ls) (K:V→HS→Prop) (hk:KeepS h l ls S' (.one (.d (.int .i64 r))) K) :
  HSpec Tryz.prog 161 [.one (.ptr l 0),.agg (c.enc.map C.d)] h K:=by
 obtain⟨tc,fc,oc,qt,qf,qo,rfl,s⟩:=ho
 obtain⟨k,hk1,hm⟩:=hm.bind
 refine HSpec.of_vc Tryz.func161 rfl (by kernel_rfl) (n:=25) rfl rfl (by simp) ?_
 simp
 have hsame:Same h ((h.setBox (h.ep,48) (c.enc.map C.d)).next) []:=(Same.refl.setBox (.inr (Nat.le_refl _))).next
 simp at hsame
 have s1:=s.frame hsame
 have hb1:=s1.box
 simp at hb1
 refine Wait.cut (Plan.then_ [0,4,1,2,3,5,6] .done) follows (by kernel_rfl) (fun e h'=>Same h h' []∧SchC h' l S tc fc oc qt qf qo∧e.n=25∧e.get 0=.one (.ptr l 0)∧e.get 5=.one (.d (.int .i64 k))) ?_ ?_
 ·simp[hb1,Plan.then_,vcPlan,planOps,isCallAt,callKind]
  refine callK_heap (HSpec.of_lend (c_slices_Index_Constraint S.cons c k hk1) ⟨.one (.frz s1.o.frz),.agg (FrzCs.datas (ds:=c.enc)),trivial⟩ rfl ?_)
  simp
  exact⟨fun _ _ x=>x,CutK.of (by simp[hsame.next,s1.frame (Same.refl.next)])⟩
 ·rintro e h' ⟨hs2,s2,hn,h0,h5⟩
  have hb2:=s2.box
  simp[hn,h0,h5]
  refine condV_dec (fun hlt=>?_) (fun hge=>?_)
  ·rw[if_pos hlt] at hm
   have e1:=r_ret hm
   simp only[Prod.mk.injEq] at e1
   obtain⟨rfl,rfl⟩:=e1
   simp[hn]
   exact hk _ _ ⟨_,_,_,_,_,_,rfl,s2⟩ (hs2.mono (by simp)) (fun _ h=>.inl h)
  ·rw[if_neg hge] at hm
   obtain⟨hkl,hm⟩:=hm.chk
   have e1:=r_ret hm
   simp only[Prod.mk.injEq] at e1
   obtain⟨rfl,rfl⟩:=e1
   obtain⟨i,rfl⟩:∃ i:Nat,k=i:=⟨k.toNat,by omega⟩
   have hw:IntKind.i64.wrap ((i:Int)+1)=((i+1:Nat):Int):=by
    exact IntWalk.i64_in _ (by have:=s2.o.mr.2.1;have:=congrArg List.length s2.o.ds;simp at *;omega)
   simp[hn,h0,h5,hb2,hw]
   have hql:qo.length=S.cons.length:=by have:=congrArg List.length s2.o.ds;simpa using this
   refine callK_heap (h_slices_Delete_Constraint h' oc (qo.map (·.1)) i (i+1) s2.o.mr (by omega) (by simp;omega) _ (fun c' h2 hm2 hs3 hep harr hlab=>?_))
   have hbl:h2.box l=some [tc,fc,oc]:=by rw[hs3 l (fun hm=>s2.ne.2.2.1 (by simp[plabs,hm])),hb2]
   simp[hn,h0,h5,hbl]
   have hsub:(qo.take i++qo.drop (i+1)).Sublist qo:=del_sub (by omega)
   have hpl:=plabs_sub (c:=oc) (c':=c') hsub hlab
   have hp:=s2.o.sub (h2:=h2.setBox l [tc,fc,c']) (c':=c') (qs':=qo.take i++qo.drop (i+1)) (fun q hq=>hsub.subset hq) ?_ s2.nds.2.2 ?_
   ·have hp2:Part (h2.setBox l [tc,fc,c']) ConSh c' (qo.take i++qo.drop (i+1)) ((S.cons.take i++S.cons.drop (i+1)).map Cons.enc):=by
     have:=s2.o.ds
     rw[List.map_append,List.map_take,List.map_drop,← this]
     simpa using hp
    have hs4:Same h' (h2.setBox l [tc,fc,c']) (l::plabs oc qo):=by
     refine⟨by simp[hep],fun k hk hn=>?_⟩
     simp only[List.mem_cons,plabs,List.mem_append,not_or] at hn
     simp[hn.1,hs3 k hn.2.1]
    have s3:=s2.setO (by simp) hp2 hs4 (hpl.nodup s2.nds.2.2) (fun k hk=>.inl (hpl.subset hk))
    refine hk _ _ ⟨_,_,_,_,_,_,rfl,s3⟩ ((hs2.mono (by simp)).trans (hs4.mono ?_)) (fun k hk=>.inl ?_)
    ·intro k hk
     simp only[List.mem_cons,List.mem_append] at hk ⊢
     exact hk.imp_right fun h=>.inr (.inr h)
    ·simp only[List.mem_append] at hk ⊢
     exact hk.imp_right fun h=>h.imp_right fun h=>hpl.subset h
   ·have hl2:l ∉ labs c':=fun hm=>s2.ne.2.2.1 (by rw[hlab] at hm;simp[plabs,hm])
    refine MR.frame (h:=h2) (by simpa[ConSh] using hm2) (fun k hk=>?_)
    have:k≠l:=fun he=>hl2 (he ▸ hk)
    simp[this]
   ·rintro k hk1 ⟨q,hq,hk2⟩
    have:k≠l:=fun he=>s2.ne.2.2.1 (by
     simp only[plabs,List.mem_append,List.mem_flatMap]
     exact .inr ⟨q,hq,he ▸ hk2⟩)
    simp[this,hs3 k hk1]
def m_evolution_dropForeignKey (S:Sch) (c:Fk):Option (Sch × Int):=
 bindK (m_slices_IndexFunc_Foreignkey S.fks fun o=>m_evolution_dropForeignKey_1 o c) fun k=>if k < 0 then some (S,4) else chkK (k+1≤S.fks.length) (some ({ S with fks:=S.fks.take k.toNat++S.fks.drop (k.toNat+1) },0))
theorem h_evolution_dropForeignKey (h:HS) (l:Lab) (ls:List Lab) (S S':Sch) (c:Fk) (cs:List C) (r:Int) (hm:Is (m_evolution_dropForeignKey S c) (S',r)) (ho:OwS h l S ls) (hf:∀ h',Same h h' []→FrzCs h' cs c.enc) (K:V→HS→Prop) (hk:KeepS h l ls S' (.one (.d (.int .i64 r))) K) :
  HSpec Tryz.prog 162 [.one (.ptr l 0),.agg cs] h K:=by
 obtain⟨tc,fc,oc,qt,qf,qo,rfl,s⟩:=ho
 obtain⟨k,hk1,hm⟩:=hm.bind
 obtain⟨a1,a2,a3,rfl⟩:∃ a b d,cs=[a,b,d]:=by
  have:=(hf h .refl).get.1
  match cs,this with
  | [a,b,d],_=>exact⟨a,b,d,rfl⟩
 refine HSpec.of_vc Tryz.func162 rfl (by kernel_rfl) (n:=25) rfl rfl (by simp) ?_
 simp
 have hsame:Same h ((h.setBox (h.ep,48) [a1,a2,a3]).next) []:=(Same.refl.setBox (.inr (Nat.le_refl _))).next
 have s1:=s.frame hsame
 have hb1:=s1.box
 simp at hb1
 simp[hb1]
 refine callK_heap (HSpec.of_lend (c_slices_IndexFunc_Foreignkey S.fks 175 [c.enc] (fun o=>m_evolution_dropForeignKey_1 o c) (fun xa v hv=>c_evolution_dropForeignKey_1 xa c v hv) k hk1) ⟨.one (.frz s1.f.frz),.one (.fn rfl ?_),trivial⟩ rfl ?_)
 ·intro i cp ds hi hd
  cases i with
  | zero=>
    simp at hi hd
    subst hi hd
    exact⟨_,by simp,hf _ hsame⟩
  | succ i=>simp at hi
 ·have hs2:Same h (((h.setBox (h.ep,48) [a1,a2,a3]).next).next) []:=hsame.next
  have s2:=s.frame hs2
  simp
  have hb2:=s2.box
  simp at hb2
  refine condV_dec (fun hlt=>?_) (fun hge=>?_)
  ·rw[if_pos hlt] at hm
   have e1:=r_ret hm
   simp only[Prod.mk.injEq] at e1
   obtain⟨rfl,rfl⟩:=e1
   simp
   exact hk _ _ ⟨_,_,_,_,_,_,rfl,s2⟩ (hs2.mono (by simp)) (fun _ h=>.inl h)
  ·rw[if_neg hge] at hm
   obtain⟨hkl,hm⟩:=hm.chk
   have e1:=r_ret hm
   simp only[Prod.mk.injEq] at e1
   obtain⟨rfl,rfl⟩:=e1
   obtain⟨i,rfl⟩:∃ i:Nat,k=i:=⟨k.toNat,by omega⟩
   have hql:qf.length=S.fks.length:=by have:=congrArg List.length s2.f.ds;simpa using this
   have hql2:=s2.f.mr.2.1
   have hw:IntKind.i64.wrap ((i:Int)+1)=((i+1:Nat):Int):=by
    exact IntWalk.i64_in _ (by simp at hql2;omega)
   simp[hb2,hw]
   refine callK_heap (h_slices_Delete_Foreignkey _ fc (qf.map (·.1)) i (i+1) s2.f.mr (by omega) (by simp;omega) _ (fun c' h2 hm2 hs3 hep harr hlab=>?_))
   have hbl:h2.box l=some [tc,fc,oc]:=by rw[hs3 l (fun hm=>s2.ne.2.1 (by simp[plabs,hm])),s2.box]
   simp[hbl]
   have hsub:(qf.take i++qf.drop (i+1)).Sublist qf:=del_sub (by omega)
   have hpl:=plabs_sub (c:=fc) (c':=c') hsub hlab
   have hp:=s2.f.sub (h2:=h2.setBox l [tc,c',oc]) (c':=c') (qs':=qf.take i++qf.drop (i+1)) (fun q hq=>hsub.subset hq) ?_ s2.nds.2.1 ?_
   ·have hp2:Part (h2.setBox l [tc,c',oc]) FkSh c' (qf.take i++qf.drop (i+1)) ((S.fks.take i++S.fks.drop (i+1)).map Fk.enc):=by
     have:=s2.f.ds
     rw[List.map_append,List.map_take,List.map_drop,← this]
     simpa using hp
    have hs4:Same ((h.setBox (h.ep,48) [a1,a2,a3]).next).next (h2.setBox l [tc,c',oc]) (l::plabs fc qf):=by
     refine⟨by rw[setBox_ep,hep];exact Nat.le_refl _,fun k hk hn=>?_⟩
     simp only[List.mem_cons,plabs,List.mem_append,not_or] at hn
     rw[← hs3 k hn.2.1]
     simp[hn.1]
    have s3:=s2.setF (by simp) hp2 hs4 (hpl.nodup s2.nds.2.1) (fun k hk=>.inl (hpl.subset hk))
    refine hk _ _ ⟨_,_,_,_,_,_,rfl,s3⟩ ((hs2.mono (by simp)).trans (hs4.mono ?_)) (fun k hk=>.inl ?_)
    ·intro k hk
     simp only[List.mem_cons,List.mem_append] at hk ⊢
     exact hk.imp_right fun h=>.inr (.inl h)
    ·simp only[List.mem_append] at hk ⊢
     exact hk.imp_right fun h=>h.imp_left fun h=>hpl.subset h
   ·have hl2:l ∉ labs c':=fun hm=>s2.ne.2.1 (by rw[hlab] at hm;simp[plabs,hm])
    refine MR.frame (h:=h2) (by simpa[FkSh] using hm2) (fun k hk=>?_)
    have:k≠l:=fun he=>hl2 (he ▸ hk)
    simp[this]
   ·rintro k hk1 ⟨q,hq,hk2⟩
    have:k≠l:=fun he=>s2.ne.2.1 (by
     simp only[plabs,List.mem_append,List.mem_flatMap]
     exact .inr ⟨q,hq,he ▸ hk2⟩)
    rw[← hs3 k hk1]
    simp[this]
theorem index_find {α:Type} {f:α→Option Bool} {p:α→Bool} (hf:∀ x,f x=some (p x)):∀ (xs:List α) (i:Nat),forK (fun (i2:Nat) (x2:α) (s2:Unit) next_2=>(bindK (f x2) fun v3=>(bif v3 then (some (i2:Int)) else (next_2 ())))) (fun (s2:Unit)=>(some (-1))) xs i ()=some (match xs.findIdx? p with | some j=>((i+j:Nat):Int) | none=>-1)
 | [],i=>by simp[forK]
 | x::xs,i=>by
   rw[forK,hf x,List.findIdx?_cons]
   show (bif p x then some (i:Int) else _)=_
   cases hp:p x with
   | true=>simp
   | false=>
     have:=index_find hf xs (i+1)
     simp only[cond_false]
     rw[this]
     cases hx:xs.findIdx? p with
     | none=>simp
     | some j=>simp only[Option.map_some];rw[show i+1+j=i+(j+1) by omega];rfl
theorem keep_filter {p:List D→Bool}:∀ {qs:List Q},keep p (qs.map (·.1)) (qs.map (·.2.1))=(qs.filter fun q=>!p q.2.1).map (·.1)
 | []=>rfl
 | q::qs=>by
   simp only[List.map_cons,keep,List.filter_cons]
   rw[keep_filter]
   cases p q.2.1<;>simp
def headIs (s:ByteArray):List D→Bool
 | .str t::_=>strEq t s
 | _=>false
theorem Part.keep {h h2:HS} {sh:List Sh} {c c':C} {qs:List Q} {ds:List (List D)} {p:List D→Bool} (P:Part h sh c qs ds) (hm:MR h2 sh.length c' (Go.Am.keep p (qs.map (·.1)) ds)) (hnd:(plabs c qs).Nodup) (hlt:∀ k ∈ plabs c qs,k.1 < h.ep) (hs:Same h h2 (labs c)):Part h2 sh c' (qs.filter fun q=>!p q.2.1) (ds.filter fun t=>!p t):=by
 have hd:=P.ds
 subst hd
 rw[keep_filter] at hm
 have:=P.sub (h2:=h2) (c':=c') (qs':=qs.filter fun q=>!p q.2.1) (fun q hq=>(List.mem_filter.1 hq).1) hm hnd (fun k hk ⟨q,hq,hkq⟩=>hs.2 k (hlt k (by
  simp only[plabs,List.mem_append,List.mem_flatMap]
  exact .inr ⟨q,hq,hkq⟩)) hk)
 rw[List.filter_map]
 exact this
theorem Part.elems {h:HS} {sh:List Sh} {c:C} {qs:List Q} {ds:List (List D)} (P:Part h sh c qs ds) (hnd:(plabs c qs).Nodup) (hlt:∀ k ∈ plabs c qs,k.1 < h.ep):∀ h',Same h h' (labs c)→∀ (i:Nat) (x:List C) (t:List D),(qs.map (·.1))[i]?=some x→ds[i]?=some t→FrzCs h' x t:=by
 have hd:=P.ds
 subst hd
 intro h' hs i x t hx ht
 rw[List.getElem?_map] at hx ht
 cases hq:qs[i]? with
 | none=>rw[hq] at hx;simp at hx
 | some q=>
   rw[hq] at hx ht
   simp only[Option.map_some,Option.some.injEq] at hx ht
   subst hx ht
   have hqm:=List.mem_of_getElem? hq
   refine ((P.ow q hqm).frame fun k hk=>hs.2 k (hlt k ?_) ?_).frz
   ·simp only[plabs,List.mem_append,List.mem_flatMap]
    exact .inr ⟨q,hqm,hk⟩
   ·simp only[plabs,List.nodup_append] at hnd
    exact fun hk2=>hnd.2.2 k hk2 k (List.mem_flatMap.2 ⟨q,hqm,hk⟩) rfl
theorem h_del_tables (h:HS) (c:C) (qs:List Q) (ts:List Tbl) (nm:ByteArray) (b:Lab) (P:Part h TblSh c qs (ts.map Tbl.enc)) (hnd:(plabs c qs).Nodup) (hlt:∀ k ∈ plabs c qs,k.1 < h.ep) (hb:h.box b=some [.d (.str nm)]) (hbc:b ∉ labs c) (hbe:b.1 < h.ep) (K:V→HS→Prop)
  (hk:∀ c' h',Part h' TblSh c' (qs.filter fun q=>!headIs nm q.2.1) ((ts.filter fun t=>!strEq t.name nm).map Tbl.enc)→Same h h' (labs c)→labs c'=labs c→K (.one c') h') :
  HSpec Tryz.prog 197 [.one c,.one (.fn 198 [.lab b])] h K:=by
 have hidx:=index_find (f:=fun x:Tbl=>m_evolution_removeTable_1 x nm) (p:=fun x=>strEq x.name nm) (fun x=>rfl) ts 0
 refine h_slices_DeleteFunc_Table h c (qs.map fun q:Q=>q.1) (ts.map Tbl.enc) 198 [.lab b] [[.str nm]] (headIs nm) _ P.mr (fun k hk=>hlt k (by simp[plabs,hk])) (by have:=congrArg List.length P.ds;simpa using this) (by simp) (P.elems hnd hlt) ?_ ?_ ?_ (c_slices_IndexFunc_Table ts 198 [[.str nm]] (fun x=>m_evolution_removeTable_1 x nm) (fun xa v hv=>c_evolution_removeTable_1 xa nm v hv) _ hidx) ?_ K (fun c' h' hm hs hl=>?_)
 ·intro h' hs
  exact⟨.one (.ptr ((hs.2 b hbe hbc).trans hb) (FrzCs.datas (ds:=[.str nm]))),trivial⟩
 ·refine .fn rfl fun i cp ds hi hd=>?_
  cases i with
  | zero=>
    simp at hi hd
    subst hi hd
    exact⟨_,hb,FrzCs.datas (ds:=[.str nm])⟩
  | succ i=>simp at hi
 ·intro t ht
  obtain⟨x,_,rfl⟩:=List.mem_map.1 ht
  exact c_evolution_removeTable_1 x nm _ rfl
 ·rw[List.findIdx?_map]
  simp[Function.comp_def,headIs]
  cases ts.findIdx? (fun x=>strEq x.name nm)<;>rfl
 ·refine hk c' h' ?_ hs hl
  have:=P.keep hm hnd hlt hs
  rw[List.filter_map] at this
  exact this
theorem h_del_fks (h:HS) (c:C) (qs:List Q) (ts:List Fk) (nm:ByteArray) (b:Lab) (P:Part h FkSh c qs (ts.map Fk.enc)) (hnd:(plabs c qs).Nodup) (hlt:∀ k ∈ plabs c qs,k.1 < h.ep) (hb:h.box b=some [.d (.str nm)]) (hbc:b ∉ labs c) (hbe:b.1 < h.ep) (K:V→HS→Prop)
  (hk:∀ c' h',Part h' FkSh c' (qs.filter fun q=>!headIs nm q.2.1) ((ts.filter fun t=>!strEq t.table nm).map Fk.enc)→Same h h' (labs c)→labs c'=labs c→K (.one c') h') :
  HSpec Tryz.prog 199 [.one c,.one (.fn 200 [.lab b])] h K:=by
 have hidx:=index_find (f:=fun x:Fk=>m_evolution_removeTable_2 x nm) (p:=fun x=>strEq x.table nm) (fun x=>rfl) ts 0
 refine h_slices_DeleteFunc_Foreignkey h c (qs.map fun q:Q=>q.1) (ts.map Fk.enc) 200 [.lab b] [[.str nm]] (headIs nm) _ P.mr (fun k hk=>hlt k (by simp[plabs,hk])) (by have:=congrArg List.length P.ds;simpa using this) (by simp) (P.elems hnd hlt) ?_ ?_ ?_ (c_slices_IndexFunc_Foreignkey ts 200 [[.str nm]] (fun x=>m_evolution_removeTable_2 x nm) (fun xa v hv=>c_evolution_removeTable_2 xa nm v hv) _ hidx) ?_ K (fun c' h' hm hs hl=>?_)
 ·intro h' hs
  exact⟨.one (.ptr ((hs.2 b hbe hbc).trans hb) (FrzCs.datas (ds:=[.str nm]))),trivial⟩
 ·refine .fn rfl fun i cp ds hi hd=>?_
  cases i with
  | zero=>
    simp at hi hd
    subst hi hd
    exact⟨_,hb,FrzCs.datas (ds:=[.str nm])⟩
  | succ i=>simp at hi
 ·intro t ht
  obtain⟨x,_,rfl⟩:=List.mem_map.1 ht
  exact c_evolution_removeTable_2 x nm _ rfl
 ·rw[List.findIdx?_map]
  simp[Function.comp_def,headIs]
  cases ts.findIdx? (fun x=>strEq x.table nm)<;>rfl
 ·refine hk c' h' ?_ hs hl
  have:=P.keep hm hnd hlt hs
  rw[List.filter_map] at this
  exact this
theorem h_del_cons (h:HS) (c:C) (qs:List Q) (ts:List Cons) (nm:ByteArray) (b:Lab) (P:Part h ConSh c qs (ts.map Cons.enc)) (hnd:(plabs c qs).Nodup) (hlt:∀ k ∈ plabs c qs,k.1 < h.ep) (hb:h.box b=some [.d (.str nm)]) (hbc:b ∉ labs c) (hbe:b.1 < h.ep) (K:V→HS→Prop)
  (hk:∀ c' h',Part h' ConSh c' (qs.filter fun q=>!headIs nm q.2.1) ((ts.filter fun t=>!strEq t.table nm).map Cons.enc)→Same h h' (labs c)→labs c'=labs c→K (.one c') h') :
  HSpec Tryz.prog 201 [.one c,.one (.fn 202 [.lab b])] h K:=by
 have hidx:=index_find (f:=fun x:Cons=>m_evolution_removeTable_3 x nm) (p:=fun x=>strEq x.table nm) (fun x=>rfl) ts 0
 refine h_slices_DeleteFunc_Constraint h c (qs.map fun q:Q=>q.1) (ts.map Cons.enc) 202 [.lab b] [[.str nm]] (headIs nm) _ P.mr (fun k hk=>hlt k (by simp[plabs,hk])) (by have:=congrArg List.length P.ds;simpa using this) (by simp) (P.elems hnd hlt) ?_ ?_ ?_ (c_slices_IndexFunc_Constraint ts 202 [[.str nm]] (fun x=>m_evolution_removeTable_3 x nm) (fun xa v hv=>c_evolution_removeTable_3 xa nm v hv) _ hidx) ?_ K (fun c' h' hm hs hl=>?_)
 ·intro h' hs
  exact⟨.one (.ptr ((hs.2 b hbe hbc).trans hb) (FrzCs.datas (ds:=[.str nm]))),trivial⟩
 ·refine .fn rfl fun i cp ds hi hd=>?_
  cases i with
  | zero=>
    simp at hi hd
    subst hi hd
    exact⟨_,hb,FrzCs.datas (ds:=[.str nm])⟩
  | succ i=>simp at hi
 ·intro t ht
  obtain⟨x,_,rfl⟩:=List.mem_map.1 ht
  exact c_evolution_removeTable_3 x nm _ rfl
 ·rw[List.findIdx?_map]
  simp[Function.comp_def,headIs]
  cases ts.findIdx? (fun x=>strEq x.table nm)<;>rfl
 ·refine hk c' h' ?_ hs hl
  have:=P.keep hm hnd hlt hs
  rw[List.filter_map] at this
  exact this
def m_evolution_removeTable (S:Sch) (nm:ByteArray):Sch:=⟨S.tables.filter fun t=>!strEq t.name nm,S.fks.filter fun t=>!strEq t.table nm,S.cons.filter fun t=>!strEq t.table nm⟩
theorem filt_sub {c c':C} {qs:List Q} {p:Q→Bool} (hc:labs c'=labs c):(plabs c' (qs.filter p)).Sublist (plabs c qs):=plabs_sub (List.filter_sublist) hc
theorem Part.setBox {h:HS} {sh:List Sh} {c:C} {qs:List Q} {ds:List (List D)} {l:Lab} {cs:List C} (p:Part h sh c qs ds) (hl:l ∉ plabs c qs):Part (h.setBox l cs) sh c qs ds:=
 p.frame fun k hk=>by
  have:k≠l:=fun he=>hl (he ▸ hk)
  simp[this]
end Go.Proofs.YthgepknlibmjcaaGreat
namespace Go.Am
open Go Go.Proofs.YthgepknlibmjcaaGreat
theorem Same.hdr {h h':HS} {l:Lab} {c:C} {qs:List Q} {cs:List C} (hs:Same h h' (labs c)):Same h (h'.setBox l cs) (l::plabs c qs):=
 (hs.mono (fun k hk=>by simp[plabs,hk])).setBox (.inl (by simp))
end Go.Am
namespace Go.Proofs.YthgepknlibmjcaaGreat
open Go Go.Am
theorem h_evolution_removeTable (h:HS) (l:Lab) (ls:List Lab) (S:Sch) (nm:ByteArray) (ho:OwS h l S ls) (K:V→HS→Prop) (hk:KeepS h l ls (m_evolution_removeTable S nm) (.tup []) K) :
  HSpec Tryz.prog 190 [.one (.ptr l 0),.one (.d (.str nm))] h K:=by
 obtain⟨tc,fc,oc,qt,qf,qo,rfl,s⟩:=ho
 refine HSpec.of_vc Tryz.func190 rfl (by kernel_rfl) (n:=31) rfl rfl (by simp) ?_
 simp
 have hsame:Same h ((h.setBox (h.ep,48) [.d (.str nm)]).next) []:=(Same.refl.setBox (.inr (Nat.le_refl _))).next
 have s1:=s.frame hsame
 have hb1:=s1.box
 simp at hb1
 have hbl:∀ k ∈ l::(plabs tc qt++(plabs fc qf++plabs oc qo)),k≠(h.ep,48):=fun k hk he=>by
  have:=s.lt k hk
  rw[he] at this
  simp at this
 simp only[List.mem_cons,List.mem_append,plabs] at hbl
 have hlt1:=s1.lt
 simp only[List.mem_cons,List.mem_append] at hlt1
 simp[hb1]
 refine callK_heap (h_del_tables _ tc qt S.tables nm (h.ep,48) s1.t s1.nds.1 (fun k hk=>hlt1 k (.inr (.inl hk))) (by simp) (fun hm=>hbl _ (.inr (.inl (.inl hm))) rfl) (by simp) _ (fun tc' h2 P2 hs2 hl2=>?_))
 have hx2:h2.box l=some [tc,fc,oc]:=by rw[hs2.2 l (hlt1 l (.inl rfl)) (fun hm=>s1.ne.1 (by simp[plabs,hm])),s1.box]
 simp[hx2]
 have t1:=filt_sub (p:=fun q=>!headIs nm q.2.1) (qs:=qt) hl2
 have s2:=s1.setT (h':=h2.setBox l [tc',fc,oc]) (by simp) (P2.setBox fun hm=>s1.ne.1 (t1.subset hm)) hs2.hdr (t1.nodup s1.nds.1) (fun k hk=>.inl (t1.subset hk))
 have hlt2:=s2.lt
 simp only[List.mem_cons,List.mem_append] at hlt2
 have hbx:(h2.setBox l [tc',fc,oc]).box (h.ep,48)=some [.d (.str nm)]:=by
  have h3:(h.ep,48)≠l:=fun he=>hbl l (.inl rfl) he.symm
  have h4:=hs2.2 (h.ep,48) (by simp) (fun hm=>hbl _ (.inr (.inl (.inl hm))) rfl)
  simp[h3,h4]
 have hep2:h.ep < (h2.setBox l [tc',fc,oc]).ep:=by
  have:=hs2.1
  simp at this ⊢
  omega
 refine callK_heap (h_del_fks _ fc qf S.fks nm (h.ep,48) s2.f s2.nds.2.1 (fun k hk=>hlt2 k (.inr (.inr (.inl hk)))) hbx (fun hm=>hbl _ (.inr (.inr (.inl (.inl hm)))) rfl) hep2 _ (fun fc' h3 P3 hs3 hl3=>?_))
 have hx3:h3.box l=some [tc',fc,oc]:=by rw[hs3.2 l (hlt2 l (.inl rfl)) (fun hm=>s2.ne.2.1 (by simp[plabs,hm])),s2.box]
 simp[hx3]
 have t2:=filt_sub (p:=fun q=>!headIs nm q.2.1) (qs:=qf) hl3
 have s3:=s2.setF (h':=h3.setBox l [tc',fc',oc]) (by simp) (P3.setBox fun hm=>s2.ne.2.1 (t2.subset hm)) hs3.hdr (t2.nodup s2.nds.2.1) (fun k hk=>.inl (t2.subset hk))
 have hlt3:=s3.lt
 simp only[List.mem_cons,List.mem_append] at hlt3
 have hbx3:(h3.setBox l [tc',fc',oc]).box (h.ep,48)=some [.d (.str nm)]:=by
  have h4:(h.ep,48)≠l:=fun he=>hbl l (.inl rfl) he.symm
  have h5:=hs3.2 (h.ep,48) hep2 (fun hm=>hbl _ (.inr (.inr (.inl (.inl hm)))) rfl)
  rw[hbx] at h5
  simp[h4,h5]
 have hep3:h.ep < (h3.setBox l [tc',fc',oc]).ep:=Nat.lt_of_lt_of_le hep2 (by simpa using hs3.1)
 refine callK_heap (h_del_cons _ oc qo S.cons nm (h.ep,48) s3.o s3.nds.2.2 (fun k hk=>hlt3 k (.inr (.inr (.inr hk)))) hbx3 (fun hm=>hbl _ (.inr (.inr (.inr (.inl hm)))) rfl) hep3 _ (fun oc' h4 P4 hs4 hl4=>?_))
 have hx4:h4.box l=some [tc',fc',oc]:=by rw[hs4.2 l (hlt3 l (.inl rfl)) (fun hm=>s3.ne.2.2.1 (by simp[plabs,hm])),s3.box]
 simp[hx4]
 have t3:=filt_sub (p:=fun q=>!headIs nm q.2.1) (qs:=qo) hl4
 have s4:=s3.setO (h':=h4.setBox l [tc',fc',oc']) (by simp) (P4.setBox fun hm=>s3.ne.2.2.1 (t3.subset hm)) hs4.hdr (t3.nodup s3.nds.2.2) (fun k hk=>.inl (t3.subset hk))
 refine hk _ _ ⟨_,_,_,_,_,_,rfl,s4⟩ ?_ ?_
 ·refine (((hsame.mono (by simp)).trans ((hs2.hdr (qs:=qt)).mono ?_)).trans ((hs3.hdr (qs:=qf)).mono ?_)).trans ((hs4.hdr (qs:=qo)).mono ?_)
  ·intro k hk
   simp only[List.mem_cons,List.mem_append] at hk ⊢
   exact hk.imp_right .inl
  ·intro k hk
   simp only[List.mem_cons,List.mem_append] at hk ⊢
   exact hk.imp_right fun h=>.inr (.inl h)
  ·intro k hk
   simp only[List.mem_cons,List.mem_append] at hk ⊢
   exact hk.imp_right fun h=>.inr (.inr h)
 ·intro k hk
  simp only[List.mem_append] at hk ⊢
  exact .inl (hk.imp (fun h=>t1.subset h) fun h=>h.imp (fun h=>t2.subset h) fun h=>t3.subset h)
theorem KeepS.after {h h1:HS} {l:Lab} {ls:List Lab} {S':Sch} {v:V} {K:V→HS→Prop} (s:Same h h1 []) (hk:KeepS h l ls S' v K):KeepS h1 l ls S' v K:=
 fun h' ls' ho hs hl=>hk h' ls' ho ((s.mono (by simp)).trans hs) fun k hkm=>(hl k hkm).imp_right fun he=>Nat.le_trans s.1 he
theorem OwS.frame {h h':HS} {l:Lab} {S:Sch} {ls:List Lab} (o:OwS h l S ls) (s:Same h h' []):OwS h' l S ls:=by
 obtain⟨tc,fc,oc,qt,qf,qo,rfl,c⟩:=o
 exact⟨tc,fc,oc,qt,qf,qo,rfl,c.frame s⟩
def m_evolution_dropTable (S:Sch) (nm:ByteArray):Option (Sch × Int):=
 bindK (m_slices_ContainsFunc_Foreignkey S.fks fun o=>m_evolution_dropTable_1 o nm) fun b=>if b=true then some (S,10) else some (m_evolution_removeTable S nm,0)
theorem h_evolution_dropTable (h:HS) (l:Lab) (ls:List Lab) (S S':Sch) (nm:ByteArray) (r:Int) (hm:Is (m_evolution_dropTable S nm) (S',r)) (ho:OwS h l S ls) (K:V→HS→Prop) (hk:KeepS h l ls S' (.one (.d (.int .i64 r))) K) :
  HSpec Tryz.prog 169 [.one (.ptr l 0),.one (.d (.str nm))] h K:=by
 obtain⟨b,hb,hm⟩:=hm.bind
 have hsame:Same h ((h.setBox (h.ep,48) [.d (.str nm)]).next) []:=(Same.refl.setBox (.inr (Nat.le_refl _))).next
 have ho1:=ho.frame hsame
 have hlt0:l≠(h.ep,48):=fun he=>by
  obtain⟨tc,fc,oc,qt,qf,qo,-,s⟩:=ho
  have:=s.lt l (by simp)
  rw[he] at this
  simp at this
 have ho1':=ho1
 obtain⟨tc,fc,oc,qt,qf,qo,hls,s1⟩:=ho1'
 refine HSpec.of_vc Tryz.func169 rfl (by kernel_rfl) (n:=14) rfl rfl (by simp) ?_
 have hb1:=s1.box
 simp at hb1
 simp[hb1]
 refine callK_heap (HSpec.of_lend (c_slices_ContainsFunc_Foreignkey S.fks 191 [[.str nm]] (fun o=>m_evolution_dropTable_1 o nm) (fun xa v hv=>c_evolution_dropTable_1 xa nm v hv) b hb) ⟨.one (.frz s1.f.frz),.one (.fn rfl ?_),trivial⟩ rfl ?_)
 ·intro i cp ds hi hd
  cases i with
  | zero=>
    simp at hi hd
    subst hi hd
    exact⟨_,by simp,FrzCs.datas (ds:=[.str nm])⟩
  | succ i=>simp at hi
 ·have hs2:=hsame.next
  have ho2:=ho.frame hs2
  simp
  cases b with
  | true=>
    have e1:=r_ret hm
    simp only[Prod.mk.injEq] at e1
    obtain⟨rfl,rfl⟩:=e1
    simp
    exact (hk.after hs2) _ _ ho2 .refl (fun _ h=>.inl h)
  | false=>
    have e1:=r_ret hm
    simp only[Prod.mk.injEq] at e1
    obtain⟨rfl,rfl⟩:=e1
    simp
    refine callK_heap (h_evolution_removeTable _ l ls S nm ho2 _ ?_)
    intro h3 ls3 ho3 hs3 hl3
    simp
    exact (hk.after hs2) h3 ls3 ho3 hs3 hl3
end Go.Proofs.YthgepknlibmjcaaGreat
end
section
namespace Go.Proofs.YthgepknlibmjcaaGreat
open Go.Am
def m_evolution_insertTable_1 (a:Tbl) (b:Tbl):Option Int:=
 (bindK (m_strings_Compare a.name b.name) fun v3=>(some v3))
theorem c_evolution_insertTable_1 (a:Tbl) (b:Tbl) (r:Int) (hm:Is (m_evolution_insertTable_1 a b) r):PSpec Tryz.prog 195 [.agg a.enc,.agg b.enc] (.one (.d (.int .i64 r))):=by
 unfold m_evolution_insertTable_1 at hm
 refine PSpec.of_vc Tryz.func195 rfl (by kernel_rfl) (n:=10) rfl rfl (by simp) ?_
 try simp[*]
 refine r_call (av:=[.one (.d (.str a.name)),.one (.d (.str b.name))]) hm (fun v hv=>c_strings_Compare _ _ v hv) (by simp[*]) ?_
 clear hm;intro v3 hvv3 hm
 try simp[*]
 obtain rfl:=r_ret hm
 exact ret0 (vs:=[_]) (by simp[*];try exact rfl) (by simp[*])
end Go.Proofs.YthgepknlibmjcaaGreat
end
section
namespace Go.Proofs.YthgepknlibmjcaaGreat
open Go Go.Am
def ltT (a b:Tbl):Bool:=decide (cmpS a.name b.name < 0)
def cmpE:List D→List D→Int
 | .str x::_,.str y::_=>cmpS x y
 | _,_=>0
theorem Sc.sortT {h:HS} {l:Lab} {S:Sch} {tc fc oc:C} {ta fa oa:List Lab} (s:Sc h l S tc fc oc ta fa oa):∃ qs:List (List C × List D),MR h 3 tc (qs.map (·.1))∧qs.length=S.tables.length∧(∀ k ∈ labs tc,k ∈ ta)∧(∀ h',Same h h' (labs tc)→∀ q ∈ qs,FrzCs h' q.1 q.2)∧(∀ q ∈ qs,∃ T ∈ S.tables,q.2=T.enc) ∧
  ∀ h',MR h' 3 tc ((sortS cmpE qs).map (·.1))→Same h h' (labs tc)→∃ ta',Sc h' l { S with tables:=outerS ltT (S.tables.length - 1) 1 S.tables } tc fc oc ta' fa oa∧∀ k ∈ ta',k ∈ ta:=by
 obtain⟨qt,qf,qo,rfl,rfl,rfl,s⟩:=s
 have hlen:qt.length=S.tables.length:=by have:=congrArg List.length s.t.ds;simpa using this
 have hlt:∀ k ∈ plabs tc qt,k.1 < h.ep:=fun k hk=>s.lt k (by simp[hk])
 have hnd:=s.nds.1
 refine⟨qt.map fun q=>(q.1,q.2.1),?_,by simpa using hlen,fun k hk=>by simp[plabs,hk],fun h' hs q hq=>?_,fun q hq=>?_,fun h' hm hs=>?_⟩
 ·have:=s.t.mr
  simpa[TblSh,Function.comp_def] using this
 ·obtain⟨q',hq',rfl⟩:=List.mem_map.1 hq
  obtain⟨i,hi⟩:=List.getElem?_of_mem hq'
  exact ((s.t.ow q' hq').frame fun k hk=>hs.2 k (hlt k (plabs_mem hi hk)) (plabs_self hnd hi hk)).frz
 ·obtain⟨q',hq',rfl⟩:=List.mem_map.1 hq
  have:q'.2.1 ∈ S.tables.map Tbl.enc:=by rw[← s.t.ds];exact List.mem_map.2 ⟨q',hq',rfl⟩
  obtain⟨T,hT,he⟩:=List.mem_map.1 this
  exact⟨T,hT,he.symm⟩
 ·let ltq:Q→Q→Bool:=fun p q=>cmpLt cmpE (p.1,p.2.1) (q.1,q.2.1)
  have e1:sortS cmpE (qt.map fun q=>(q.1,q.2.1))=(outerS ltq (qt.length - 1) 1 qt).map fun q=>(q.1,q.2.1):=by
   unfold sortS
   rw[List.length_map]
   exact outerS_map (f:=fun q:Q=>(q.1,q.2.1)) (fun x y=>rfl) _ _ _
  have e2:(outerS ltq (qt.length - 1) 1 qt).map (fun q:Q=>q.2.1)=(outerS ltT (S.tables.length - 1) 1 S.tables).map Tbl.enc:=by
   have h1:=outerS_map (lt:=ltq) (lt':=fun a b=>decide (cmpE a b < 0)) (f:=fun q:Q=>q.2.1) (fun x y=>rfl) (qt.length - 1) 1 qt
   have h2:=outerS_map (lt:=ltT) (lt':=fun a b=>decide (cmpE a b < 0)) (f:=Tbl.enc) (fun x y=>rfl) (S.tables.length - 1) 1 S.tables
   rw[← h1,← h2,hlen]
   congr 1
   exact s.t.ds
  have hperm:=outerS_perm ltq (qt.length - 1) 1 qt
  have hpl:(plabs tc (outerS ltq (qt.length - 1) 1 qt)).Perm (plabs tc qt):=(List.Perm.refl _).append (hperm.flatMap_right _)
  have hself:∀ q ∈ qt,∀ k ∈ q.2.2,h'.box k=h.box k:=fun q hq k hk=>by
   obtain⟨i,hi⟩:=List.getElem?_of_mem hq
   exact hs.2 k (hlt k (plabs_mem hi hk)) (plabs_self hnd hi hk)
  have hp:Part h' TblSh tc (outerS ltq (qt.length - 1) 1 qt) ((outerS ltT (S.tables.length - 1) 1 S.tables).map Tbl.enc):=by
   refine⟨?_,e2,fun q hq=>(s.t.ow q (hperm.subset hq)).frame (hself q (hperm.subset hq))⟩
   rw[e1] at hm
   simpa[TblSh,Function.comp_def] using hm
  have hl:h'.box l=h.box l:=hs.2 l (s.lt l (by simp)) fun hk=>s.ne.1 (by simp[plabs,hk])
  exact⟨_,⟨_,qf,qo,rfl,rfl,rfl,s.setT (by rw[hl];exact s.box) hp (hs.mono fun k hk=>by simp[plabs,hk]) (hpl.nodup_iff.2 hnd) fun k hk=>.inl (hpl.subset hk)⟩,fun k hk=>hpl.subset hk⟩
def m_evolution_insertTable (S:Sch) (T:Tbl):Option Sch:=chkK (S.tables.length < 19) (some { S with tables:=outerS ltT S.tables.length 1 (S.tables++[T]) })
theorem h_evolution_insertTable (h:HS) (l:Lab) (tc fc oc:C) (ta fa oa lt:List Lab) (S S':Sch) (T:Tbl) (xs:List C) (hm:Is (m_evolution_insertTable S T) S') (s:Sc h l S tc fc oc ta fa oa) (hT:Ow h TblSh xs T.enc lt) (hd:lt.Nodup∧(∀ k ∈ lt,k.1 < h.ep∧k ∉ l::(ta++(fa++oa)))) (K:V→HS→Prop)
  (hk:∀ h' tc' ta',Sc h' l S' tc' fc oc ta' fa oa→Same h h' (l::ta)→(∀ k ∈ ta',k ∈ ta∨k ∈ lt∨h.ep≤k.1)→K (.tup []) h') :
  HSpec Tryz.prog 177 [.one (.ptr l 0),.agg xs] h K:=by
 obtain⟨hlen,hm⟩:=hm.chk
 obtain rfl:=r_ret hm
 obtain⟨x0,x1,x2,rfl⟩:∃ a b c,xs=[a,b,c]:=by
  have:=hT.len.1
  match xs,this with
  | [a,b,c],_=>exact⟨a,b,c,rfl⟩
 refine HSpec.of_vc Tryz.func177 rfl (by kernel_rfl) (n:=19) rfl rfl (by simp) ?_
 simp
 have hsame:Same h ((h.setBox (h.ep,48) [x0,x1,x2]).next) []:=(Same.refl.setBox (.inr (Nat.le_refl _))).next
 have s1:=s.frame hsame
 have hb1:=s1.box
 simp at hb1
 refine Wait.cut (Plan.then_ [0,1,2,3,4,5,6,7,8,9,10] .done) follows (by kernel_rfl) (fun e h'=>∃ tc' ta',Sc h' l { S with tables:=S.tables++[T] } tc' fc oc ta' fa oa∧e.n=19∧e.get 0=.one (.ptr l 0)∧Same h h' (l::ta)∧(∀ k ∈ ta',k ∈ ta∨k ∈ lt∨h.ep≤k.1)∧∀ k ∈ labs tc',k ∈ ta∨h.ep≤k.1) ?_ ?_
 ·simp[hb1,Plan.then_,vcPlan,planOps,isCallAt,callKind]
  have hTl:=hT.len.1
  refine bld_ow (x:=[x0,x1,x2]) (by simp[toDs];cases x0.toD<;>cases x1.toD<;>cases x2.toD<;>rfl) (by simp) (fun d hd2=>?_) (fun hd2=>?_)
  ·obtain⟨rfl,hT2⟩:=hT.ofD hd2
   have hs2:Same h (((h.setBox (h.ep,48) [x0,x1,x2]).next.setArr ((h.setBox (h.ep,48) [x0,x1,x2]).next.ep,16 * 10) (some (1,3))).next) []:=hsame.setArr.next
   have s2:=s.frame hs2
   obtain⟨ys,mx,hl2,add⟩:=s2.addT
   simp
   simp only[setBox_ep,next_ep] at mx add hs2 s2
   refine app_mr (by simp;exact⟨rfl,rfl⟩) (by simp) (by simp) (by simp) mx (RowAt.own1 (by simp)) (by simp[hl2];omega) (fun c' h' hm' hs3 hl3=>?_)
   have hbx:=s2.keep hs3 fun k hk=>.inl (s.hlabs.1 k hk)
   simp[hbx]
   obtain⟨ta',s3,hta⟩:=add h' c' _ T.enc [] hm' hs3 hl3 (hT2 h') List.nodup_nil (by simp) T rfl
   refine CutK.of ⟨c',ta',s3,by simp,by simp,(((hs2.mono (by simp)).trans (hs3.mono fun k hk=>by simp[s.hlabs.1 k hk])).setBox (.inl (by simp))),fun k hk=>?_,fun k hk=>(hl3 k hk).imp (s.hlabs.1 k) fun h2=>by have:=h2.1;simp at this;omega⟩
   rcases hta k hk with h1 | h1 | h1
   ·exact .inl h1
   ·simp at h1
   ·exact .inr (.inr (by first | omega | (simp at h1;omega)))
  ·have hs2:Same h (((h.setBox (h.ep,48) [x0,x1,x2]).next.setBox ((h.setBox (h.ep,48) [x0,x1,x2]).next.ep,16 * 10) [x0,x1,x2]).next) []:=(hsame.setBox (.inr (by simp))).next
   have s2:=s.frame hs2
   obtain⟨ys,mx,hl2,add⟩:=s2.addT
   simp
   simp only[setBox_ep,next_ep] at mx add hs2 s2
   refine app_mr (by simp;exact⟨rfl,rfl⟩) (by simp) (by simp) (by simp) mx (RowAt.new1 (x:=[x0,x1,x2]) (by simp) (by simp)) (by simp[hl2];omega) (fun c' h' hm' hs3 hl3=>?_)
   have hbx:=s2.keep hs3 fun k hk=>.inl (s.hlabs.1 k hk)
   simp[hbx]
   have hT3:Ow h' TblSh [x0,x1,x2] T.enc lt:=hT.frame fun k hk=>by
    have h1:=hd.2 k hk
    simp only[List.mem_cons,List.mem_append,not_or] at h1
    rw[hs3.2 k (by simp;omega) fun h2=>h1.2.2.1 (s.hlabs.1 k h2)]
    exact hs2.2 k h1.1 (by simp)
   obtain⟨ta',s3,hta⟩:=add h' c' _ T.enc lt hm' hs3 hl3 hT3 hd.1 (fun k hk=>by
    have h1:=hd.2 k hk
    have h4:=hs3.1
    simp at h4
    refine⟨by omega,h1.2,fun h2=>?_⟩
    simp only[List.mem_cons,List.mem_append,not_or] at h1
    rcases hl3 k h2 with h3 | h3
    ·exact h1.2.2.1 (s.hlabs.1 k h3)
    ·simp at h3;omega) T rfl
   refine CutK.of ⟨c',ta',s3,by simp,by simp,(((hs2.mono (by simp)).trans (hs3.mono fun k hk=>by simp[s.hlabs.1 k hk])).setBox (.inl (by simp))),fun k hk=>?_,fun k hk=>(hl3 k hk).imp (s.hlabs.1 k) fun h2=>by have:=h2.1;simp at this;omega⟩
   rcases hta k hk with h1 | h1 | h1
   ·exact .inl h1
   ·exact .inr (.inl h1)
   ·exact .inr (.inr (by first | omega | (simp at h1;omega)))
 ·rintro e h1 ⟨tc',ta',s2,hn,h0,hs2,hta,hlt2⟩
  have hb2:=s2.box
  simp[hn,h0,hb2]
  obtain⟨qs,q1,q2,q3,q4,q5,q6⟩:=s2.sortT
  simp only[List.length_append,List.length_singleton,Nat.add_sub_cancel] at q2 q6
  refine callK_heap (h_SortStableFunc_Table h1 tc' qs 195 [] [] cmpE q1 (fun k hk=>s2.lt k (by simp[q3 k hk])) (by omega) q4 (fun h' hs=>trivial) (fun q hq q' hq'=>?_) _ (fun h' hm' hs3=>?_))
  ·obtain⟨A,_,e1⟩:=q5 q hq
   obtain⟨B,_,e2⟩:=q5 q' hq'
   rw[e1,e2]
   exact c_evolution_insertTable_1 A B _ rfl
  ·obtain⟨ta2,s3,hta2⟩:=q6 h' hm' hs3
   simp
   refine hk h' tc' ta2 s3 (hs2.trans' hs3 fun k hk=>?_) fun k hk=>hta k (hta2 k hk)
   exact (hlt2 k hk).imp_left fun h1=>by simp[h1]
def m_evolution_createTable (S:Sch) (T:Tbl):Option (Sch × Int):=
 bindK (m_schema_FindTable S T.name) fun r=>bif r.2 then some (S,5) else bindK (m_evolution_insertTable S T) fun S'=>some (S',0)
theorem h_evolution_createTable (h:HS) (l:Lab) (tc fc oc:C) (ta fa oa lt:List Lab) (S S':Sch) (T:Tbl) (r:Int) (xs:List C) (hm:Is (m_evolution_createTable S T) (S',r)) (s:Sc h l S tc fc oc ta fa oa) (hT:Ow h TblSh xs T.enc lt) (hd:lt.Nodup∧(∀ k ∈ lt,k.1 < h.ep∧k ∉ l::(ta++(fa++oa)))) (K:V→HS→Prop)
  (hk:KeepS h l (ta++(fa++oa)++lt) S' (.one (.d (.int .i64 r))) K) :
  HSpec Tryz.prog 163 [.one (.ptr l 0),.agg xs] h K:=by
 refine HSpec.good Tryz.func163 rfl (by kernel_rfl) fun hg=>?_
 obtain⟨x0,x1,x2,rfl⟩:∃ a b c,xs=[a,b,c]:=by
  have:=hT.len.1
  match xs,this with
  | [a,b,c],_=>exact⟨a,b,c,rfl⟩
 obtain rfl:x0=.d (.str T.name):=hT.frz.1.flat rfl
 obtain⟨v,hv,hm⟩:=hm.bind
 refine HSpec.of_vc Tryz.func163 rfl (by kernel_rfl) (n:=20) rfl rfl (by simp) ?_
 simp
 have hsame:Same h ((h.setBox (h.ep,48) [.d (.str T.name),x1,x2]).next) []:=(Same.refl.setBox (.inr (Nat.le_refl _))).next
 have s1:=s.frame hsame
 have hb1:=s1.box
 simp at hb1
 refine Wait.cut (Plan.then_ [0,3,4,1,2,5,6,7,8,9,10] .done) follows (by kernel_rfl) (fun e h'=>Same h h' []∧e.n=20∧e.get 0=.one (.ptr l 0)∧e.get 3=.one (.ptr (h.ep,48) 0)∧e.get 6=.one (.d (.bool v.2))∧h'.box (h.ep,48)=some [.d (.str T.name),x1,x2]) ?_ ?_
 ·simp[hb1,Plan.then_,vcPlan,planOps,isCallAt,callKind]
  refine callK_heap (HSpec.of_lend (c_schema_FindTable S T.name v hv) ⟨.agg s1.frz,.one (.frz (.data rfl)),trivial⟩ rfl ?_)
  simp
  exact⟨fun _ _ x=>x,CutK.of (by simp[hsame.next])⟩
 ·rintro e h1 ⟨hs1,hn,h0,h3,h6,hb3⟩
  simp[hn,h0,h3,h6]
  cases hv2:v.2 with
  | true=>
    rw[hv2] at hm
    have e1:=r_ret hm
    simp only[Prod.mk.injEq] at e1
    obtain⟨rfl,rfl⟩:=e1
    simp[hn]
    exact hk _ _ (s.frame hs1).ows (hs1.mono (by simp)) (fun k hk=>.inl (by simp at hk ⊢;rcases hk with hk | hk | hk<;>simp[hk]))
  | false=>
    rw[hv2] at hm
    simp only[cond_false] at hm
    obtain⟨S2,hm2,hm⟩:=hm.bind
    have e1:=r_ret hm
    simp only[Prod.mk.injEq] at e1
    obtain⟨rfl,rfl⟩:=e1
    simp[hn,h0,h3,hb3]
    refine callK_heap (h_evolution_insertTable h1 l tc fc oc ta fa oa lt S S2 T _ hm2 (s.frame hs1) (hT.frame fun k hk=>hs1.2 k (hd.2 k hk).1 (by simp)) ⟨hd.1,fun k hk=>⟨Nat.lt_of_lt_of_le (hd.2 k hk).1 hs1.1,(hd.2 k hk).2⟩⟩ _ (fun h2 tc' ta' s2 hs2 hta=>?_))
    simp[hn]
    refine hk _ _ s2.ows ((hs1.mono (by simp)).trans (hs2.mono fun k hk=>by simp at hk ⊢;rcases hk with hk | hk<;>simp[hk])) (fun k hk=>?_)
    simp only[List.mem_append] at hk ⊢
    rcases hk with hk | hk | hk
    ·rcases hta k hk with h1 | h1 | h1
     ·exact .inl (by simp[h1])
     ·exact .inl (by simp[h1])
     ·exact .inr (Nat.le_trans hs1.1 h1)
    ·exact .inl (by simp[hk])
    ·exact .inl (by simp[hk])
theorem Sc.delT {h:HS} {l:Lab} {S:Sch} {tc fc oc:C} {ta fa oa:List Lab} (s:Sc h l S tc fc oc ta fa oa) {i:Nat} {T:Tbl} (hi:S.tables[i]?=some T) :
  ∃ (xs:List (List C)) (c1 c2:C) (lx:List Lab) (lr:Lab) (cap:Nat) (B:List C),MR h 3 tc xs∧xs.length=S.tables.length∧tc=.mrow lr 0 S.tables.length cap∧Elem h lr i 3 [.d (.str T.name),c1,c2] B∧Ow h TblSh [.d (.str T.name),c1,c2] T.enc lx∧lx.Nodup∧(∀ k ∈ lx,k ∈ ta∧k ∉ labs tc) ∧
    ∀ h' c',MR h' 3 c' (xs.take i++xs.drop (i+1))→Same h h' (labs tc)→labs c'=labs tc →
      ∃ ta',Sc (h'.setBox l [c',fc,oc]) l { S with tables:=S.tables.take i++S.tables.drop (i+1) } c' fc oc ta' fa oa∧(∀ k ∈ ta',k ∈ ta)∧∀ k ∈ lx,k ∉ ta':=by
 obtain⟨qt,qf,qo,rfl,rfl,rfl,s⟩:=s
 have hlen:qt.length=S.tables.length:=by have:=congrArg List.length s.t.ds;simpa using this
 have hlt:∀ k ∈ plabs tc qt,k.1 < h.ep:=fun k hk=>s.lt k (by simp[hk])
 have hnd:=s.nds.1
 obtain⟨q,lr,cap,sp,h1,h2,h3,h4,h5,h6⟩:=s.t.elem (map_get (f:=Tbl.enc) hi)
 obtain⟨qc,qd,ql⟩:=q
 simp only at h2 h3 h6
 subst h2
 obtain⟨c0,x0,cs,ds,rfl,e1,e2,h7⟩:=h3.inv_d
 simp only[Tbl.enc,List.cons.injEq] at e1
 obtain⟨rfl,rfl⟩:=e1
 obtain rfl:=(Frz.data (h:=h) e2).flat rfl
 obtain⟨c1,c2,rfl⟩:∃ c1 c2,cs=[c1,c2]:=by
  have:=h7.len.1
  match cs,this with
  | [a,b],_=>exact⟨a,b,rfl⟩
 refine⟨qt.map (fun q:Q=>q.1),c1,c2,ql,lr,cap,_,s.t.mr,by simpa using hlen,by simpa using h4,h6,h3,plabs_nd hnd h1,fun k hk=>⟨plabs_mem h1 hk,plabs_self hnd h1 hk⟩,fun h' c' hm hs hlc=>?_⟩
 have hsub:(qt.take i++qt.drop (i+1)).Sublist qt:=del_sub (by omega)
 have hpl:=plabs_sub (c:=tc) (c':=c') hsub hlc
 have hnl:∀ k ∈ plabs tc qt,k≠l:=fun k hk he=>s.ne.1 (he ▸ hk)
 have hp:=s.t.sub (h2:=h'.setBox l [c',fc,oc]) (c':=c') (qs':=qt.take i++qt.drop (i+1)) (fun q hq=>hsub.subset hq) ?_ hnd ?_
 ·have hp2:Part (h'.setBox l [c',fc,oc]) TblSh c' (qt.take i++qt.drop (i+1)) ((S.tables.take i++S.tables.drop (i+1)).map Tbl.enc):=by
   have:=s.t.ds
   rw[List.map_append,List.map_take,List.map_drop,← this]
   simpa using hp
  refine⟨_,⟨_,qf,qo,rfl,rfl,rfl,s.setT (by simp) hp2 ((hs.mono fun k hk=>by simp[plabs,hk]).setBox (.inl (by simp))) (hpl.nodup hnd) (fun k hk=>.inl (hpl.subset hk))⟩,fun k hk=>hpl.subset hk,fun k hk hk2=>?_⟩
  simp only[plabs,List.mem_append,List.mem_flatMap] at hk2
  rcases hk2 with hk2 | ⟨q2,hq2,hk2⟩
  ·exact plabs_self hnd h1 hk (hlc ▸ hk2)
  ·have:∃ j,j≠i∧qt[j]?=some q2:=by
    rcases hq2 with hq2 | hq2
    ·obtain⟨j,hj⟩:=List.getElem?_of_mem hq2
     have hji:j < i:=by
      have:=(List.getElem?_eq_some_iff.1 hj).1
      simp at this;omega
     exact⟨j,by omega,by rw[List.getElem?_take_of_lt hji] at hj;exact hj⟩
    ·obtain⟨j,hj⟩:=List.getElem?_of_mem hq2
     rw[List.getElem?_drop] at hj
     exact⟨i+1+j,by omega,hj⟩
   obtain⟨j,hj,hq⟩:=this
   exact (plabs_other hnd h1 hq hj hk2).2 hk
 ·have:MR h' TblSh.length c' ((qt.take i++qt.drop (i+1)).map (·.1)):=by simpa[TblSh] using hm
  refine this.frame fun k hk=>?_
  have:k≠l:=hnl k (by rw[hlc] at hk;simp[plabs,hk])
  simp[this]
 ·rintro k hk1 ⟨q,hq,hk2⟩
  have hk3:k ∈ plabs tc qt:=by
   simp only[plabs,List.mem_append,List.mem_flatMap]
   exact .inr ⟨q,hq,hk2⟩
  simp[hnl k hk3,hs.2 k (hlt k hk3) hk1]
def m_evolution_renameTable (S:Sch) (i:Nat) (name:ByteArray):Option (Sch × Int):=
 bindK (m_schema_FindTable S name) fun r=>bif r.2 then some (S,5) else
 getK S.tables (i:Int) fun T=>
 bindK (m_evolution_insertTable { S with tables:=S.tables.take i++S.tables.drop (i+1) } { T with name:=name }) fun S1=>
 countK (fun k (S:Sch) next=>getK S.fks (k:Int) fun f=>
   bif strEq f.table T.name then (bif strEq f.ref T.name then next { S with fks:=S.fks.set k ⟨name,f.cols,name⟩ } else next { S with fks:=S.fks.set k ⟨name,f.cols,f.ref⟩ })
   else (bif strEq f.ref T.name then next { S with fks:=S.fks.set k ⟨f.table,f.cols,name⟩ } else next S))
  (fun S=>countK (fun k (S:Sch) next=>getK S.cons (k:Int) fun c=>bif strEq c.table T.name then next { S with cons:=S.cons.set k { c with table:=name } } else next S) (fun S=>some (S,0)) S.cons.length 0 S) S1.fks.length 0 S1
theorem Elem.box_eq {h:HS} {lr:Lab} {i n:Nat} {x B B':List C} (e:Elem h lr i n x B) (hb:h.box lr=some B'):B=B':=by
 have:=e.box
 rw[hb] at this
 exact (Option.some.inj this).symm
theorem h_evolution_renameTable (h:HS) (l:Lab) (tc fc oc:C) (ta fa oa:List Lab) (S S':Sch) (i:Nat) (name:ByteArray) (r:Int) (hm:Is (m_evolution_renameTable S i name) (S',r)) (s:Sc h l S tc fc oc ta fa oa) (K:V→HS→Prop)
  (hk:KeepS h l (ta++(fa++oa)) S' (.one (.d (.int .i64 r))) K) :
  HSpec Tryz.prog 164 [.one (.ptr l 0),.one (.d (.int .i64 (i:Int))),.one (.d (.str name))] h K:=by
 refine HSpec.good Tryz.func164 rfl (by kernel_rfl) fun hg=>?_
 replace hm:=hm.bind
 obtain⟨v,hv,hm⟩:=hm
 have hb:=s.box
 refine HSpec.of_vc Tryz.func164 rfl (by kernel_rfl) (n:=119) rfl rfl (by simp) ?_
 have hne:=ne_new (s.lt l (by simp))
 simp[hb]
 refine callK_heap (HSpec.of_lend (c_schema_FindTable S name v hv) ⟨.agg s.frz,.one (.frz (.data rfl)),trivial⟩ rfl ?_)
 simp
 have hsame:Same h h.next []:=Same.refl.next
 cases hv2:v.2 with
 | true=>
   rw[hv2] at hm
   have e1:=r_ret hm
   simp only[Prod.mk.injEq] at e1
   obtain⟨rfl,rfl⟩:=e1
   simp
   exact hk _ _ (s.frame hsame).ows (hsame.mono (by simp)) (fun k hk=>.inl hk)
 | false=>
   rw[hv2] at hm
   simp only[cond_false] at hm
   replace hm:=hm.getN
   obtain⟨T,hi,hm⟩:=hm
   replace hm:=hm.bind
   obtain⟨S1,hm1,hm⟩:=hm
   obtain⟨xs,c1,c2,lx,lr,cap,B,d1,d2,rfl,d4,d5,d6,d7,d8⟩:=(s.frame hsame).delT hi
   have hlt:i < S.tables.length:=(List.getElem?_eq_some_iff.1 hi).1
   have d9:=d4.rd0 3 (by omega)
   have d10:h.box lr=some B:=d4.box
   have hli:=s.len.1.2
   simp only[lim_eq] at hli
   have hw:IntKind.i64.wrap ((i:Int)+1)=((i+1:Nat):Int):=by
    exact IntWalk.i64_in _ (by omega)
   have hnr:=ne_new (s.lt lr (by simp[s.hlabs.1 lr (by simp[labs])]))
   simp (maxDischargeDepth:=12) [hb,hlt,d9,d10,hw,hne,hnr,le_s]
   have hs2:Same h ((h.next.setBox (h.ep+1,144) [C.d (D.str T.name),c1,c2]).next) []:=(hsame.setBox (.inr (by simp))).next
   have s2:=s.frame hs2
   have hnl:=s.nl
   have hlrl:lr≠l:=fun he=>hnl.1 (s.hlabs.1 l (by simp[labs,he]))
   refine callK_heap (h_slices_Delete_Table _ (.mrow lr 0 S.tables.length cap) xs i (i+1) (d1.frame fun k hk=>?_) (by omega) (by omega) _ (fun c' h2 hm2 hs3 hep harr hlab=>?_))
   ·have:k≠(h.ep+1,144):=fun he=>by
     have:=s.lt k (by simp[s.hlabs.1 k hk]);rw[he] at this;simp at this;omega
    simp[this]
   ·have hbl:h2.box l=some [C.mrow lr 0 S.tables.length cap,fc,oc]:=by
     rw[hs3 l (by simp[labs];exact fun he=>hlrl he.symm)]
     simp[hb,hne]
    have hb9:h2.box (h.ep+1,144)=some [C.d (D.str T.name),c1,c2]:=by
     rw[hs3 _ (by simp[labs];exact fun he=>by have:=hnr (h.ep+1) 144 (by omega);rw[← he] at this;simp at this)]
     simp
    have hne2:=ne_new' (s.lt l (by simp))
    simp (maxDischargeDepth:=12) [hbl,hb9,hne,hne2,le_s]
    obtain⟨ta1,s3,ht1,ht2⟩:=d8 h2 c' hm2 ⟨by rw[hep];simp,fun k hk hn=>by
     rw[hs3 k hn]
     have:k≠(h.ep+1,144):=fun he=>by rw[he] at hk;simp at hk
     simp[this]⟩ hlab
    have hx1:∀ k,k.1 < h.ep→k≠(h.ep+1,144):=fun k hk he=>by rw[he] at hk;simp at hk;omega
    have hlt1:∀ k ∈ l::(ta++(fa++oa)),k.1 < h.ep:=s.lt
    have hsx:Same (h2.setBox l [c',fc,oc]) ((h2.setBox l [c',fc,oc]).setBox (h.ep+1,144) [C.d (D.str name),c1,c2]) [(h.ep+1,144)]:=Same.refl.setBox (.inl (by simp))
    have hsy:Same h ((h2.setBox l [c',fc,oc]).setBox (h.ep+1,144) [C.d (D.str name),c1,c2]) (l::ta):=by
     refine Same.setBox (Same.setBox ⟨by rw[hep];simp;omega,fun k hk hn=>?_⟩ (.inl (by simp))) (.inr (by simp))
     simp only[List.mem_cons,not_or] at hn
     rw[hs3 k fun h1=>hn.2 (s.hlabs.1 k h1)]
     simp[hx1 k hk]
    have s4:=s3.frame2 hsx (fun k hk=>by
     simp only[List.mem_singleton] at hk
     subst hk
     intro h1
     simp only[List.mem_cons,List.mem_append] at h1
     rcases h1 with h1 | h1 | h1 | h1
     ·exact hx1 l (hlt1 l (by simp)) h1.symm
     ·exact hx1 _ (hlt1 _ (by simp[ht1 _ h1])) rfl
     ·exact hx1 _ (hlt1 _ (by simp[h1])) rfl
     ·exact hx1 _ (hlt1 _ (by simp[h1])) rfl)
    have hT3:Ow ((h2.setBox l [c',fc,oc]).setBox (h.ep+1,144) [C.d (D.str name),c1,c2]) TblSh [C.d (D.str name),c1,c2] ({ T with name:=name }:Tbl).enc lx:=by
     have h9:∀ k ∈ lx,((h2.setBox l [c',fc,oc]).setBox (h.ep+1,144) [C.d (D.str name),c1,c2]).box k=h.next.box k:=fun k hk=>by
      have h1:=d7 k hk
      have h2':=hlt1 k (by simp[h1.1])
      have h3:k≠l:=fun he=>hnl.1 (he ▸ h1.1)
      simp[hx1 k h2',h3,hs3 k h1.2]
     obtain⟨_,_,_,_,e1,e2,e3,h8⟩:=d5.inv_d
     simp only[Tbl.enc,List.cons.injEq] at e1 e2
     obtain⟨rfl,rfl⟩:=e1
     obtain⟨rfl,rfl⟩:=e2
     exact .data rfl (h8.frame h9)
    refine callK_heap (h_evolution_insertTable _ l c' fc oc ta1 fa oa lx _ S1 _ _ hm1 s4 hT3 ⟨d6,fun k hk=>?_⟩ _ (fun h5 tc5 ta5 s5 hs5 hta5=>?_))
    ·have h1:=d7 k hk
     have h2':=hlt1 k (by simp[h1.1])
     have h6:=s.nd
     simp only[List.nodup_cons,List.nodup_append,List.mem_append] at h6
     refine⟨by simp[hep];omega,?_⟩
     simp only[List.mem_cons,List.mem_append,not_or]
     refine⟨fun he=>hnl.1 (he ▸ h1.1),ht2 k hk,fun h7=>?_,fun h7=>?_⟩
     ·exact h6.2.2.2 k h1.1 k (.inl h7) rfl
     ·exact h6.2.2.2 k h1.1 k (.inr h7) rfl
    have hs6:Same h h5 (l::ta):=hsy.trans' hs5 fun k hk=>by
     simp only[List.mem_cons] at hk
     rcases hk with rfl | hk
     ·exact .inl (by simp)
     ·exact .inl (by simp[ht1 k hk])
    have hta6:∀ k ∈ ta5,k ∈ ta∨h.ep≤k.1:=fun k hk=>by
     rcases hta5 k hk with h1 | h1 | h1
     ·exact .inl (ht1 k h1)
     ·exact .inl (d7 k h1).1
     ·exact .inr (Nat.le_trans hsy.1 h1)
    have hb5:=s5.box
    simp (maxDischargeDepth:=12) [hb5]
    refine lenK_clen s5.len.2.1.1 ?_
    simp
    refine Wait.count (N:=(S1.fks.length:Int)) (s0:=S1) (fun k S e h'=>e.n=119∧e.get 0=.one (.ptr l 0)∧e.get 2=.one (.d (.str name))∧e.get 10=.one (.d (.str T.name))∧e.get 51=.one (.d (.int .i64 (S1.fks.length:Int)))∧e.get 52=.one (.d (.int .i64 (k:Int)))∧S.fks.length=S1.fks.length∧Sc h' l S tc5 fc oc ta5 fa oa∧Same h h' (l::(ta++(fa++oa)))) (by simpa using hm) ⟨by simp,by simp,by simp,by simp,by simp,by simp,rfl,s5,hs6.mono (by simp only[List.mem_cons,List.mem_append];exact fun k hk=>hk.imp_right .inl)⟩ ?_ ?_
    ·rintro k S2 e h6 ⟨hn,h0,h2',h10,h51,h52,hl2,s6,hs7⟩ hlt6 hm
     replace hm:=hm.getN
     obtain⟨f,hf,hm⟩:=hm
     have hlt7:k < S1.fks.length:=by omega
     have hlt8:k < S2.fks.length:=by omega
     have hfl:=s6.len.2.1.2
     simp only[lim_eq] at hfl
     have hw7:IntKind.i64.wrap ((k:Int)+1)=(k:Int)+1:=IntWalk.i64_in _ (by omega)
     have hb6:=s6.box
     obtain⟨lf,cf,Bf,rfl,bx,hle⟩:=s6.fkH hf
     obtain⟨hlf,hllf,c1f,el,-,-,w0,w2⟩:=s6.fkK bx hf
     have r0:=el.rd0 1 (by omega)
     have r2:=el.rd 2 1 (by omega)
     simp at r0 r2
     have fin:∀ (e':Env) (h':HS) (S3:Sch),e'.n=119→e'.get 0=.one (.ptr l 0)→e'.get 2=.one (.d (.str name))→e'.get 10=.one (.d (.str T.name))→e'.get 51=.one (.d (.int .i64 (S1.fks.length:Int)))→e'.get 52=.one (.d (.int .i64 ((k:Int)+1)))→S3.fks.length=S2.fks.length→Sc h' l S3 tc5 (.mrow lf 0 S2.fks.length cf) oc ta5 fa oa→Same h6 h' fa →
       (e'.n=119∧e'.get 0=.one (.ptr l 0)∧e'.get 2=.one (.d (.str name))∧e'.get 10=.one (.d (.str T.name))∧e'.get 51=.one (.d (.int .i64 (S1.fks.length:Int)))∧e'.get 52=.one (.d (.int .i64 ((k+1:Nat):Int)))∧S3.fks.length=S1.fks.length∧Sc h' l S3 tc5 (.mrow lf 0 S2.fks.length cf) oc ta5 fa oa∧Same h h' (l::(ta++(fa++oa)))):=
      fun e' h' S3 a1 a2 a3 a4 a5 a6 a7 a8 a9=>⟨a1,a2,a3,a4,a5,by simpa using a6,by omega,a8,hs7.trans' a9 fun k hk=>.inl (by simp[hk])⟩
     cases hb1:strEq f.table T.name with
     | true=>
       simp only[hb1,cond_true] at hm
       have s7:=w0 name
       have bx7:(h6.setBox lf (setCells Bf (k * 3) [.d (.str name)])).box lf=some (setCells Bf (k * 3) [.d (.str name)]):=by simp
       have hf7:({ S2 with fks:=S2.fks.set k ⟨name,f.cols,f.ref⟩ }:Sch).fks[k]?=some ⟨name,f.cols,f.ref⟩:=by simp[hlt8]
       obtain⟨-,-,c1g,el7,-,-,-,w7⟩:=s7.fkK bx7 hf7
       have r7:=el7.rd 2 1 (by omega)
       simp at r7
       have hle7:(setCells Bf (k * 3) [.d (.str name)]).length=Bf.length:=setCells_length (by simp;omega)
       cases hb2:strEq f.ref T.name with
       | true=>
         simp only[hb2,cond_true] at hm
         simp[hn,h0,h2',h10,h51,h52,hlt7,hlt8,hb6,bx,r0,hb1,hw7,hllf,r7,hb2,hle7]
         refine⟨by omega,by omega,BackF.of _ ⟨fin _ _ _ (by simp[hn]) (by simp[h0]) (by simp[h2']) (by simp[h10]) (by simp[h51]) (by simp) ?_ (by simpa using w7 name) ((Same.set1 hlf).setBox (.inl hlf)),hm⟩⟩
         simp
       | false=>
         simp only[hb2,cond_false] at hm
         simp[hn,h0,h2',h10,h51,h52,hlt7,hlt8,hb6,bx,r0,hb1,hw7,hllf,r7,hb2]
         refine⟨by omega,BackF.of _ ⟨fin _ _ _ (by simp[hn]) (by simp[h0]) (by simp[h2']) (by simp[h10]) (by simp[h51]) (by simp) ?_ s7 (Same.set1 hlf),hm⟩⟩
         simp
     | false=>
       simp only[hb1,cond_false] at hm
       cases hb2:strEq f.ref T.name with
       | true=>
         simp only[hb2,cond_true] at hm
         simp[hn,h0,h2',h10,h51,h52,hlt7,hlt8,hb6,bx,r0,hb1,hw7,hllf,r2,hb2]
         refine⟨by omega,BackF.of _ ⟨fin _ _ _ (by simp[hn]) (by simp[h0]) (by simp[h2']) (by simp[h10]) (by simp[h51]) (by simp) ?_ (w2 name) (Same.set1 hlf),hm⟩⟩
         simp
       | false=>
         simp only[hb2,cond_false] at hm
         simp[hn,h0,h2',h10,h51,h52,hlt7,hlt8,hb6,bx,r0,hb1,hw7,hllf,r2,hb2]
         exact BackF.of _ ⟨fin _ _ _ (by simp[hn]) (by simp[h0]) (by simp[h2']) (by simp[h10]) (by simp[h51]) (by simp) rfl s6 .refl,hm⟩
    ·rintro k S2 e h6 ⟨hn,h0,h2',h10,h51,h52,hl2,s6,hs7⟩ hge hm
     have hb6:=s6.box
     have hge':¬ k < S1.fks.length:=by omega
     simp[hn,h0,h2',h10,h51,h52,hge',hb6]
     refine lenK_clen s6.len.2.2.1 ?_
     simp[hn,h0]
     refine Wait.count (N:=(S2.cons.length:Int)) (s0:=S2) (fun k S e h'=>e.n=119∧e.get 0=.one (.ptr l 0)∧e.get 2=.one (.d (.str name))∧e.get 10=.one (.d (.str T.name))∧e.get 96=.one (.d (.int .i64 (S2.cons.length:Int)))∧e.get 97=.one (.d (.int .i64 (k:Int)))∧S.cons.length=S2.cons.length∧Sc h' l S tc5 fc oc ta5 fa oa∧Same h h' (l::(ta++(fa++oa)))) (by simpa using hm) ⟨by simp[hn],by simp[h0],by simp[h2'],by simp[h10],by simp,by simp,rfl,s6,hs7⟩ ?_ ?_
     ·rintro k S3 e h6 ⟨hn,h0,h2',h10,h96,h97,hl3,s6,hs7⟩ hlt6 hm
      replace hm:=hm.getN
      obtain⟨f,hf,hm⟩:=hm
      have hlt7:k < S2.cons.length:=by omega
      have hlt8:k < S3.cons.length:=by omega
      have hfl:=s6.len.2.2.2
      simp only[lim_eq] at hfl
      have hw7:IntKind.i64.wrap ((k:Int)+1)=(k:Int)+1:=IntWalk.i64_in _ (by omega)
      have hb6:=s6.box
      obtain⟨lf,cf,Bf,rfl,bx,hle⟩:=s6.conH hf
      obtain⟨hlf,hllf,el,w0,-,-⟩:=s6.conK bx hf
      have r0:=el.rd0 1 (by omega)
      simp at r0
      cases hb1:strEq f.table T.name with
      | true=>
        simp only[hb1,cond_true] at hm
        simp[hn,h0,h2',h10,h96,h97,hlt7,hlt8,hb6,bx,r0,hb1,hw7,hllf]
        refine⟨by omega,BackF.of _ ⟨⟨by simp[hn],by simp[h0],by simp[h2'],by simp[h10],by simp[h96],by simp,?_,w0 name,hs7.setBox (.inl (by simp[hlf]))⟩,hm⟩⟩
        simpa using hl3
      | false=>
        simp only[hb1,cond_false] at hm
        simp[hn,h0,h2',h10,h96,h97,hlt7,hlt8,hb6,bx,r0,hb1,hw7,hllf]
        exact BackF.of _ ⟨⟨by simp[hn],by simp[h0],by simp[h2'],by simp[h10],by simp[h96],by simp,hl3,s6,hs7⟩,hm⟩
     ·rintro k S3 e h6 ⟨hn,h0,h2',h10,h96,h97,hl3,s6,hs7⟩ hge hm
      have e1:=r_ret hm
      simp only[Prod.mk.injEq] at e1
      obtain⟨rfl,rfl⟩:=e1
      have hge':¬ k < S2.cons.length:=by omega
      simp[hn,h0,h2',h10,h96,h97,hge']
      refine hk _ _ s6.ows hs7 (fun k hk=>?_)
      simp only[List.mem_append] at hk ⊢
      rcases hk with hk | hk | hk
      ·exact (hta6 k hk).imp_left .inl
      ·exact .inl (.inr (.inl hk))
      ·exact .inl (.inr (.inr hk))
end Go.Proofs.YthgepknlibmjcaaGreat
end
section
namespace Go.Proofs.YthgepknlibmjcaaGreat
open Go.Am
def m_slices_EqualFunc_Foreignkey (s1:List Fk) (s2:List Fk) (eq:Fk→Fk→Option Bool):Option Bool:=
 (bif ((s1.length:Int) != (s2.length:Int)) then (some false) else (forK (fun (i5:Nat) (x5:Fk) (s5:Unit) next_5=>(getK s2 (i5:Int) fun x7=>(bindK (eq x5 x7) fun v9=>(bif !v9 then (some false) else (next_5 ()))))) (fun (s5:Unit)=>(some true)) s1 0 ()))
theorem c_slices_EqualFunc_Foreignkey (s1:List Fk) (s2:List Fk) (g:FuncId) (caps:List (List D)) (eq:Fk→Fk→Option Bool) (heq:∀ xa xb v,Is (eq xa xb) v→PSpec Tryz.prog g (.agg xa.enc::.agg xb.enc::capsOf caps) (.one (.d (.bool v)))) (r:Bool) (hm:Is (m_slices_EqualFunc_Foreignkey s1 s2 eq) r):PSpec Tryz.prog 76 [.one (.d (.sl (s1.map Fk.enc))),.one (.d (.sl (s2.map Fk.enc))),.one (.fn g caps)] (.one (.d (.bool r))):=by
 unfold m_slices_EqualFunc_Foreignkey at hm
 refine PSpec.of_vc Tryz.func76 rfl (by kernel_rfl) (n:=32) rfl rfl (by simp) ?_
 try simp[*]
 intro hl1
 replace hl1:s1.length≤2097152:=by simpa using hl1
 intro hl2
 replace hl2:s2.length≤2097152:=by simpa using hl2
 refine r_cond hm ?_ ?_<;>clear hm<;>intro hc3 hm
 ·try simp[*]
  obtain rfl:=r_ret hm
  exact ret0 (vs:=[_]) (by simp[*];try exact rfl) (by simp[*])
 ·try simp[*]
  refine Wait.for (xs:=s1) (s0:=()) (fun i5 s5 e5 h5=>e5.n=32∧e5.get 1=.one (.d (.sl (s2.map Fk.enc)))∧e5.get 2=.one (.fn g (caps.map Cap.rp))∧e5.get 15=.one (.d (.sl (s1.map Fk.enc)))∧e5.get 16=.one (.d (.int .i64 (s1.length:Int)))∧e5.get 17=.one (.d (.int .i64 (i5:Int)))) hm (by simp[*]) ?_ ?_
  ·rintro i5 s5 e5 h5 ⟨hn5,h5_1,h5_2,h5_15,h5_16,h5_17⟩ hlt5 hm
   have hw5:IntKind.i64.wrap ((i5:Int)+1)=(i5:Int)+1:=IntWalk.i64_in _ (by omega)
   try simp[*]
   replace hm:=hm.getN
   obtain⟨x7,hxx7,hm⟩:=hm
   try simp[*]
   refine r_callC (av:=[.agg (s1[i5]).enc,.agg x7.enc]) (cs:=caps) hm (fun v hv=>heq _ _ v hv) (by simp[*]) (by simp[*]) ?_
   clear hm;intro v9 hvv9 hm
   try simp[*]
   refine r_cond hm ?_ ?_<;>clear hm<;>intro hc10 hm
   ·try simp[*]
    obtain rfl:=r_ret hm
    exact ret0 (vs:=[_]) (by simp[*];try exact rfl) (by simp[*])
   ·try simp[*]
    exact BackF.of () ⟨(by simp[*]),hm⟩
  ·rintro s5 e5 h5 ⟨hn5,h5_1,h5_2,h5_15,h5_16,h5_17⟩ hm
   try simp[*]
   obtain rfl:=r_ret hm
   exact ret0 (vs:=[_]) (by simp[*];try exact rfl) (by simp[*])
def m_slices_Equal_Constraint (s1:List Cons) (s2:List Cons):Option Bool:=
 (bif ((s1.length:Int) != (s2.length:Int)) then (some false) else (forK (fun (i5:Nat) (x5:Cons) (s5:Unit) next_5=>(getK s2 (i5:Int) fun x6=>(bif (!(x5.table == x6.table) || (!(x5.left == x6.left) || (!(x5.op == x6.op) || (!(x5.right == x6.right) || (!(x5.value.kind == x6.value.kind) || (!(x5.value.int == x6.value.int) || (!(x5.value.text == x6.value.text)))))))) then (some false) else (next_5 ())))) (fun (s5:Unit)=>(some true)) s1 0 ()))
theorem c_slices_Equal_Constraint (s1:List Cons) (s2:List Cons) (r:Bool) (hm:Is (m_slices_Equal_Constraint s1 s2) r):PSpec Tryz.prog 77 [.one (.d (.sl (s1.map Cons.enc))),.one (.d (.sl (s2.map Cons.enc)))] (.one (.d (.bool r))):=by
 unfold m_slices_Equal_Constraint at hm
 refine PSpec.of_vc Tryz.func77 rfl (by kernel_rfl) (n:=26) rfl rfl (by simp) ?_
 try simp[*]
 intro hl1
 replace hl1:s1.length≤2097152:=by simpa using hl1
 intro hl2
 replace hl2:s2.length≤2097152:=by simpa using hl2
 refine r_cond hm ?_ ?_<;>clear hm<;>intro hc3 hm
 ·try simp[*]
  obtain rfl:=r_ret hm
  exact ret0 (vs:=[_]) (by simp[*];try exact rfl) (by simp[*])
 ·try simp[*]
  refine Wait.for (xs:=s1) (s0:=()) (fun i5 s5 e5 h5=>e5.n=26∧e5.get 0=.one (.d (.sl (s1.map Cons.enc)))∧e5.get 1=.one (.d (.sl (s2.map Cons.enc)))∧e5.get 12=.one (.d (.int .i64 (s1.length:Int)))∧e5.get 13=.one (.d (.int .i64 (i5:Int)))) hm (by simp[*]) ?_ ?_
  ·rintro i5 s5 e5 h5 ⟨hn5,h5_0,h5_1,h5_12,h5_13⟩ hlt5 hm
   have hw5:IntKind.i64.wrap ((i5:Int)+1)=(i5:Int)+1:=IntWalk.i64_in _ (by omega)
   try simp[*]
   refine Wait.of (SWP.draw (Plan.then_ [0,1,2,3,4,5,6,7,8] .done) follows (by kernel_rfl) ?_)
   try simp[*,Plan.then_,vcPlan,planOps,isCallAt,callKind]
   replace hm:=hm.getN
   obtain⟨x6,hxx6,hm⟩:=hm
   try simp[*,Plan.then_,vcPlan,planOps,isCallAt,callKind]
   refine r_cond hm ?_ ?_<;>clear hm<;>intro hc7 hm
   ·try simp[*]
    obtain rfl:=r_ret hm
    exact ret0 (vs:=[_]) (by simp[*];try exact rfl) (by simp[*])
   ·try simp[*]
    exact BackF.of () ⟨(by simp[*]),hm⟩
  ·rintro s5 e5 h5 ⟨hn5,h5_0,h5_1,h5_12,h5_13⟩ hm
   try simp[*]
   obtain rfl:=r_ret hm
   exact ret0 (vs:=[_]) (by simp[*];try exact rfl) (by simp[*])
def m_evolution_sameRules (s_:Sch) (table:ByteArray) (other:ByteArray):Option Int:=
 (forK (fun (i3:Nat) (x3:Fk) (s3:(List Fk) × (List Fk)) next_3=>(bif strEq x3.ref table then (some 10) else (bif strEq x3.ref other then (some 10) else (bif strEq x3.table table then (appK2 s3.1 [x3] fun _=>(next_3 ((s3.1++[x3]),s3.2))) else (bif strEq x3.table other then (appK2 s3.2 [(Fk.mk table x3.cols x3.ref)] fun _=>(next_3 (s3.1,(s3.2++[(Fk.mk table x3.cols x3.ref)])))) else (next_3 (s3.1,s3.2))))))) (fun (s3:(List Fk) × (List Fk))=>(bindK (m_slices_EqualFunc_Foreignkey s3.1 s3.2 (fun xa_ xb_=>m_schema_EqualForeignKeys xa_ xb_)) fun v13=>(bif !v13 then (some 10) else (forK (fun (i16:Nat) (x16:Cons) (s16:(List Cons) × (List Cons)) next_16=>(bif strEq x16.table table then (appK2 s16.1 [x16] fun _=>(next_16 ((s16.1++[x16]),s16.2))) else (bif strEq x16.table other then (appK2 s16.2 [(Cons.mk table x16.left x16.op x16.right x16.value)] fun _=>(next_16 (s16.1,(s16.2++[(Cons.mk table x16.left x16.op x16.right x16.value)])))) else (next_16 (s16.1,s16.2))))) (fun (s16:(List Cons) × (List Cons))=>(bindK (m_slices_Equal_Constraint s16.1 s16.2) fun v24=>(bif !v24 then (some 11) else (some 0)))) s_.cons 0 ([],[]))))) s_.fks 0 ([],[]))
theorem c_evolution_sameRules (s_:Sch) (table:ByteArray) (other:ByteArray) (r:Int) (hm:Is (m_evolution_sameRules s_ table other) r):PSpec Tryz.prog 189 [.agg s_.enc,.one (.d (.str table)),.one (.d (.str other))] (.one (.d (.int .i64 r))):=by
 unfold m_evolution_sameRules at hm
 refine PSpec.of_vc Tryz.func189 rfl (by kernel_rfl) (n:=85) rfl rfl (by simp) ?_
 try simp[*]
 intro hl2
 replace hl2:s_.fks.length≤2097152:=by simpa using hl2
 refine Wait.for (xs:=s_.fks) (s0:=([],[])) (fun i3 s3 e3 h3=>∃ c3_0 c3_1:C,(e3.n=85∧e3.get 1=.one (.d (.str table))∧e3.get 2=.one (.d (.str other))∧e3.get 3=.one (.ptr (0,48) 0)∧e3.get 7=.one c3_0∧e3.get 8=.one c3_1∧e3.get 16=.one (.d (.sl (s_.fks.map Fk.enc)))∧e3.get 17=.one (.d (.int .i64 (s_.fks.length:Int)))∧e3.get 18=.one (.d (.int .i64 (i3:Int)))∧h3.box (0,48)=some [.d (.sl (s_.tables.map Tbl.enc)),.d (.sl (s_.fks.map Fk.enc)),.d (.sl (s_.cons.map Cons.enc))]∧Grows h3 3 c3_0 (s3.1.map Fk.enc)∧Grows h3 3 c3_1 (s3.2.map Fk.enc))∧Apart c3_0 c3_1) hm ⟨.nil,.nil,by simp (maxDischargeDepth:=20) [*],(by simp)⟩ ?_ ?_
 ·rintro i3 s3 e3 h3 ⟨c3_0,c3_1,⟨hn3,h3_1,h3_2,h3_3,h3_7,h3_8,h3_16,h3_17,h3_18,hb3_b1,gc3_0,gc3_1⟩,apc3_0_c3_1⟩ hlt3 hm
  have hlc3_0:=gc3_0.list
  have hdc3_0:=gc3_0.toD
  have hac3_0:=gc3_0.toA
  have huc3_0:=gc3_0.useUp_arr
  have hlc3_1:=gc3_1.list
  have hdc3_1:=gc3_1.toD
  have hac3_1:=gc3_1.toA
  have huc3_1:=gc3_1.useUp_arr
  have hw3:IntKind.i64.wrap ((i3:Int)+1)=(i3:Int)+1:=IntWalk.i64_in _ (by omega)
  try simp[*]
  refine r_guardF hm ?_ ?_<;>clear hm<;>intro hc5 hm
  ·try simp[*]
   obtain rfl:=r_ret hm
   exact ret0 (vs:=[_]) (by simp[*];try exact rfl) (by simp[*])
  ·try simp[*]
   refine r_cond hm ?_ ?_<;>clear hm<;>intro hc6 hm
   ·try simp[*]
    obtain rfl:=r_ret hm
    exact ret0 (vs:=[_]) (by simp[*];try exact rfl) (by simp[*])
   ·try simp[*]
    refine r_cond hm ?_ ?_<;>clear hm<;>intro hc7 hm
    ·try simp[*]
     refine r_app (xs:=s3.1) (ys:=[s_.fks[i3]]) (enc:=Fk.enc) hm ty_el23 (by first | exact Grows.nil | (simp (maxDischargeDepth:=20) [*];done) | (simp (maxDischargeDepth:=20) [*];refine⟨?_,by omega⟩;intro hq;subst hq;simp at hz2<;>omega)) (by simp[*]) (by decide) (by decide) (fun _=>rfl) ?_
     clear hm;intro hl9 hm g8
     try simp[*]
     exact BackF.of ((s3.1++[s_.fks[i3]]),s3.2) ⟨⟨.own (h3.ep+2,640) ((s3.1++[s_.fks[i3]]).map Fk.enc),c3_1,by simp (maxDischargeDepth:=20) [*],(by first | (simp[*];done) | exact gc3_1.apart (by simp))⟩,hm⟩
    ·try simp[*]
     refine r_cond hm ?_ ?_<;>clear hm<;>intro hc10 hm
     ·try simp[*]
      refine r_app (xs:=s3.2) (ys:=[(Fk.mk table s_.fks[i3].cols s_.fks[i3].ref)]) (enc:=Fk.enc) hm ty_el23 (by first | exact Grows.nil | (simp (maxDischargeDepth:=20) [*];done) | (simp (maxDischargeDepth:=20) [*];refine⟨?_,by omega⟩;intro hq;subst hq;simp at hz2<;>omega)) (by simp[*]) (by decide) (by decide) (fun _=>rfl) ?_
      clear hm;intro hl12 hm g11
      try simp[*]
      exact BackF.of (s3.1,(s3.2++[(Fk.mk table s_.fks[i3].cols s_.fks[i3].ref)])) ⟨⟨c3_0,.own (h3.ep+2,784) ((s3.2++[(Fk.mk table s_.fks[i3].cols s_.fks[i3].ref)]).map Fk.enc),by simp (maxDischargeDepth:=20) [*],(by first | (simp[*];done) | exact (gc3_0.apart (by simp)).symm)⟩,hm⟩
     ·try simp[*]
      exact BackF.of (s3.1,s3.2) ⟨⟨c3_0,c3_1,by simp (maxDischargeDepth:=20) [*],(by first | assumption | exact Apart.symm (by assumption))⟩,hm⟩
 ·rintro s3 e3 h3 ⟨c3_0,c3_1,⟨hn3,h3_1,h3_2,h3_3,h3_7,h3_8,h3_16,h3_17,h3_18,hb3_b1,gc3_0,gc3_1⟩,apc3_0_c3_1⟩ hm
  have hlc3_0:=gc3_0.list
  have hdc3_0:=gc3_0.toD
  have hac3_0:=gc3_0.toA
  have huc3_0:=gc3_0.useUp_arr
  have hlc3_1:=gc3_1.list
  have hdc3_1:=gc3_1.toD
  have hac3_1:=gc3_1.toA
  have huc3_1:=gc3_1.useUp_arr
  try simp[*]
  refine r_call (av:=[.one (.d (.sl (s3.1.map Fk.enc))),.one (.d (.sl (s3.2.map Fk.enc))),.one (.fn 68 [])]) hm (fun v hv=>c_slices_EqualFunc_Foreignkey _ _ 68 [] _ (fun xa_ xb_ v hv=>c_schema_EqualForeignKeys xa_ xb_ v hv) v hv) (by simp[*]) ?_
  clear hm;intro v13 hvv13 hm
  try simp[*]
  refine r_cond hm ?_ ?_<;>clear hm<;>intro hc14 hm
  ·try simp[*]
   obtain rfl:=r_ret hm
   exact ret0 (vs:=[_]) (by simp[*];try exact rfl) (by simp[*])
  ·try simp[*]
   intro hl15
   replace hl15:s_.cons.length≤2097152:=by simpa using hl15
   refine Wait.for (xs:=s_.cons) (s0:=([],[])) (fun i16 s16 e16 h16=>∃ c16_0 c16_1:C,(e16.n=85∧e16.get 1=.one (.d (.str table))∧e16.get 2=.one (.d (.str other))∧e16.get 11=.one c16_0∧e16.get 12=.one c16_1∧e16.get 56=.one (.d (.sl (s_.cons.map Cons.enc)))∧e16.get 57=.one (.d (.int .i64 (s_.cons.length:Int)))∧e16.get 58=.one (.d (.int .i64 (i16:Int)))∧Grows h16 7 c16_0 (s16.1.map Cons.enc)∧Grows h16 7 c16_1 (s16.2.map Cons.enc))∧Apart c16_0 c16_1) hm ⟨.nil,.nil,by simp (maxDischargeDepth:=20) [*],(by simp)⟩ ?_ ?_
   ·rintro i16 s16 e16 h16 ⟨c16_0,c16_1,⟨hn16,h16_1,h16_2,h16_11,h16_12,h16_56,h16_57,h16_58,gc16_0,gc16_1⟩,apc16_0_c16_1⟩ hlt16 hm
    have hlc16_0:=gc16_0.list
    have hdc16_0:=gc16_0.toD
    have hac16_0:=gc16_0.toA
    have huc16_0:=gc16_0.useUp_arr
    have hlc16_1:=gc16_1.list
    have hdc16_1:=gc16_1.toD
    have hac16_1:=gc16_1.toA
    have huc16_1:=gc16_1.useUp_arr
    have hw16:IntKind.i64.wrap ((i16:Int)+1)=(i16:Int)+1:=IntWalk.i64_in _ (by omega)
    try simp[*]
    refine r_cond hm ?_ ?_<;>clear hm<;>intro hc18 hm
    ·try simp[*]
     refine r_app (xs:=s16.1) (ys:=[s_.cons[i16]]) (enc:=Cons.enc) hm ty_el24 (by first | exact Grows.nil | (simp (maxDischargeDepth:=20) [*];done) | (simp (maxDischargeDepth:=20) [*];refine⟨?_,by omega⟩;intro hq;subst hq;simp at hz2<;>omega)) (by simp[*]) (by decide) (by decide) (fun _=>rfl) ?_
     clear hm;intro hl20 hm g19
     try simp[*]
     exact BackF.of ((s16.1++[s_.cons[i16]]),s16.2) ⟨⟨.own (h16.ep+2,1120) ((s16.1++[s_.cons[i16]]).map Cons.enc),c16_1,by simp (maxDischargeDepth:=20) [*],(by first | (simp[*];done) | exact gc16_1.apart (by simp))⟩,hm⟩
    ·try simp[*]
     refine r_cond hm ?_ ?_<;>clear hm<;>intro hc21 hm
     ·try simp[*]
      refine r_app (xs:=s16.2) (ys:=[(Cons.mk table s_.cons[i16].left s_.cons[i16].op s_.cons[i16].right s_.cons[i16].value)]) (enc:=Cons.enc) hm ty_el24 (by first | exact Grows.nil | (simp (maxDischargeDepth:=20) [*];done) | (simp (maxDischargeDepth:=20) [*];refine⟨?_,by omega⟩;intro hq;subst hq;simp at hz2<;>omega)) (by simp[*]) (by decide) (by decide) (fun _=>rfl) ?_
      clear hm;intro hl23 hm g22
      try simp[*]
      exact BackF.of (s16.1,(s16.2++[(Cons.mk table s_.cons[i16].left s_.cons[i16].op s_.cons[i16].right s_.cons[i16].value)])) ⟨⟨c16_0,.own (h16.ep+2,1264) ((s16.2++[(Cons.mk table s_.cons[i16].left s_.cons[i16].op s_.cons[i16].right s_.cons[i16].value)]).map Cons.enc),by simp (maxDischargeDepth:=20) [*],(by first | (simp[*];done) | exact (gc16_0.apart (by simp)).symm)⟩,hm⟩
     ·try simp[*]
      exact BackF.of (s16.1,s16.2) ⟨⟨c16_0,c16_1,by simp (maxDischargeDepth:=20) [*],(by first | assumption | exact Apart.symm (by assumption))⟩,hm⟩
   ·rintro s16 e16 h16 ⟨c16_0,c16_1,⟨hn16,h16_1,h16_2,h16_11,h16_12,h16_56,h16_57,h16_58,gc16_0,gc16_1⟩,apc16_0_c16_1⟩ hm
    have hlc16_0:=gc16_0.list
    have hdc16_0:=gc16_0.toD
    have hac16_0:=gc16_0.toA
    have huc16_0:=gc16_0.useUp_arr
    have hlc16_1:=gc16_1.list
    have hdc16_1:=gc16_1.toD
    have hac16_1:=gc16_1.toA
    have huc16_1:=gc16_1.useUp_arr
    try simp[*]
    refine r_call (av:=[.one (.d (.sl (s16.1.map Cons.enc))),.one (.d (.sl (s16.2.map Cons.enc)))]) hm (fun v hv=>c_slices_Equal_Constraint _ _ v hv) (by simp[*]) ?_
    clear hm;intro v24 hvv24 hm
    try simp[*]
    refine r_cond hm ?_ ?_<;>clear hm<;>intro hc25 hm
    ·try simp[*]
     obtain rfl:=r_ret hm
     exact ret0 (vs:=[_]) (by simp[*];try exact rfl) (by simp[*])
    ·try simp[*]
     obtain rfl:=r_ret hm
     exact ret0 (vs:=[_]) (by simp[*];try exact rfl) (by simp[*])
def m_slices_Equal_Column (s1:List Col) (s2:List Col):Option Bool:=
 (bif ((s1.length:Int) != (s2.length:Int)) then (some false) else (forK (fun (i5:Nat) (x5:Col) (s5:Unit) next_5=>(getK s2 (i5:Int) fun x6=>(bif (!(x5.name == x6.name) || (!(x5.kind == x6.kind) || (!(x5.nullable == x6.nullable)))) then (some false) else (next_5 ())))) (fun (s5:Unit)=>(some true)) s1 0 ()))
theorem c_slices_Equal_Column (s1:List Col) (s2:List Col) (r:Bool) (hm:Is (m_slices_Equal_Column s1 s2) r):PSpec Tryz.prog 114 [.one (.d (.sl (s1.map Col.enc))),.one (.d (.sl (s2.map Col.enc)))] (.one (.d (.bool r))):=by
 unfold m_slices_Equal_Column at hm
 refine PSpec.of_vc Tryz.func114 rfl (by kernel_rfl) (n:=26) rfl rfl (by simp) ?_
 try simp[*]
 intro hl1
 replace hl1:s1.length≤2097152:=by simpa using hl1
 intro hl2
 replace hl2:s2.length≤2097152:=by simpa using hl2
 refine r_cond hm ?_ ?_<;>clear hm<;>intro hc3 hm
 ·try simp[*]
  obtain rfl:=r_ret hm
  exact ret0 (vs:=[_]) (by simp[*];try exact rfl) (by simp[*])
 ·try simp[*]
  refine Wait.for (xs:=s1) (s0:=()) (fun i5 s5 e5 h5=>e5.n=26∧e5.get 0=.one (.d (.sl (s1.map Col.enc)))∧e5.get 1=.one (.d (.sl (s2.map Col.enc)))∧e5.get 12=.one (.d (.int .i64 (s1.length:Int)))∧e5.get 13=.one (.d (.int .i64 (i5:Int)))) hm (by simp[*]) ?_ ?_
  ·rintro i5 s5 e5 h5 ⟨hn5,h5_0,h5_1,h5_12,h5_13⟩ hlt5 hm
   have hw5:IntKind.i64.wrap ((i5:Int)+1)=(i5:Int)+1:=IntWalk.i64_in _ (by omega)
   try simp[*]
   refine Wait.of (SWP.draw (Plan.then_ [0,1,2,3,4,5,6,7,8] .done) follows (by kernel_rfl) ?_)
   try simp[*,Plan.then_,vcPlan,planOps,isCallAt,callKind]
   replace hm:=hm.getN
   obtain⟨x6,hxx6,hm⟩:=hm
   try simp[*,Plan.then_,vcPlan,planOps,isCallAt,callKind]
   refine r_cond hm ?_ ?_<;>clear hm<;>intro hc7 hm
   ·try simp[*]
    obtain rfl:=r_ret hm
    exact ret0 (vs:=[_]) (by simp[*];try exact rfl) (by simp[*])
   ·try simp[*]
    exact BackF.of () ⟨(by simp[*]),hm⟩
  ·rintro s5 e5 h5 ⟨hn5,h5_0,h5_1,h5_12,h5_13⟩ hm
   try simp[*]
   obtain rfl:=r_ret hm
   exact ret0 (vs:=[_]) (by simp[*];try exact rfl) (by simp[*])
end Go.Proofs.YthgepknlibmjcaaGreat
end
section
namespace Go.Proofs.YthgepknlibmjcaaGreat
open Go Go.Am
def m_evolution_mergeTables (S:Sch) (i:Nat) (step:Stp):Option (Sch × Int):=
 bindK (m_schema_FindTable S step.other) fun v=>bif !v.2 then some (S,4) else getK S.tables (i:Int) fun T=>getK S.tables v.1 fun O=>bif ((i:Int) == v.1) then some (S,7) else
 bindK (m_slices_Equal_Column T.cols O.cols) fun b=>bif !b then some (S,7) else bindK (m_slices_Equal_Int T.pk O.pk) fun b2=>bif !b2 then some (S,7) else
 bindK (m_evolution_sameRules S T.name O.name) fun e=>bif e != 0 then some (S,e) else
 chkK ((0 < T.pk.length∧T.pk.length < LIM)∧0 < T.cols.length∧T.cols.length < LIM) (some (m_evolution_removeTable { S with tables:=S.tables.set i { T with pk:=T.pk++[(T.cols.length:Int)],cols:=T.cols++[⟨step.column,2,false⟩] } } O.name,0))
set_option maxHeartbeats 2000000 in
theorem h_evolution_mergeTables (h:HS) (l:Lab) (tc fc oc x6 x12 x13 x22:C) (ta fa oa:List Lab) (S S':Sch) (i:Nat) (step:Stp) (r:Int) (hm:Is (m_evolution_mergeTables S i step) (S',r)) (s:Sc h l S tc fc oc ta fa oa) (K:V→HS→Prop)
  (hk:KeepS h l (ta++(fa++oa)) S' (.one (.d (.int .i64 r))) K) :
  HSpec Tryz.prog 168 [.one (.ptr l 0),.one (.d (.int .i64 (i:Int))),.agg (stpC step x6 x12 x13 x22)] h K:=by
 replace hm:=hm.bind
 obtain⟨v,hv,hm⟩:=hm
 have hs0:Same h ((h.setBox (h.ep,80) (stpC step x6 x12 x13 x22)).next) []:=(Same.refl.setBox (.inr (Nat.le_refl _))).next
 have s0:=s.frame hs0
 have hb0:=s0.box
 have bx5:(h.setBox (h.ep,80) (stpC step x6 x12 x13 x22)).next.box (h.ep,80)=some (stpC step x6 x12 x13 x22):=by simp
 refine HSpec.of_vc Tryz.func168 rfl (by kernel_rfl) (n:=99) rfl rfl (by simp) ?_
 have hnn:stpC step x6 x12 x13 x22≠[]:=by simp[stpC]
 have hne:=ne_new (s.lt l (by simp))
 have hbs:=s.box
 have hep:h.ep < ((h.setBox (h.ep,80) (stpC step x6 x12 x13 x22)).next).ep:=by simp
 simp[hnn]
 generalize (h.setBox (h.ep,80) (stpC step x6 x12 x13 x22)).next=HX at *
 refine Wait.cut (Plan.then_ [0,1,2,3,4,5,6,7,8,9,10] .done) follows (by kernel_rfl) (fun e h'=>e.n=99∧e.get 0=.one (.ptr l 0)∧e.get 1=.one (.d (.int .i64 (i:Int)))∧e.get 5=.one (.ptr (h.ep,80) 0)∧e.get 7=.one (.d (.int .i64 v.1))∧e.get 8=.one (.d (.bool v.2))∧Same HX h' []) ?_ ?_
 ·simp[hb0,bx5,stpC,Plan.then_,vcPlan,planOps,isCallAt,callKind]
  refine callK_heap (HSpec.of_lend (c_schema_FindTable S step.other v hv) ⟨.agg s0.frz,.one (.frz (.data rfl)),trivial⟩ rfl ?_)
  simp
  exact⟨fun _ _ x=>x,CutK.of (by simp[Same.refl.next])⟩
 ·rintro e h1 ⟨hn,h0,h1',h5,h7,h8,hs1⟩
  have bx5':h1.box (h.ep,80)=some (stpC step x6 x12 x13 x22):=by rw[hs1.2 _ hep (by simp)];exact bx5
  have s1:=s0.frame hs1
  have hb1:=s1.box
  have hy:=hs0.trans hs1
  simp[hn,h8]
  cases hv2:v.2 with
  | false=>
    rw[hv2] at hm
    have e1:=r_ret hm
    simp only[Prod.mk.injEq] at e1
    obtain⟨rfl,rfl⟩:=e1
    simp[hn]
    exact hk _ _ s1.ows (hy.mono (by simp)) (fun k hk=>.inl hk)
  | true=>
    simp only[hv2,Bool.not_true,cond_false] at hm
    replace hm:=hm.getN
    obtain⟨T,hi,hm⟩:=hm
    replace hm:=hm.get
    obtain⟨O,hv0,hj,hm⟩:=hm
    obtain⟨j,hj1⟩:∃ j:Nat,v.1=j:=⟨v.1.toNat,by omega⟩
    rw[hj1] at h7 hj hm
    simp at hj
    have hlt:i < S.tables.length:=(List.getElem?_eq_some_iff.1 hi).1
    have hltj:j < S.tables.length:=(List.getElem?_eq_some_iff.1 hj).1
    obtain⟨lt,c1,c2,B,tv⟩:=s1.tbl hi
    obtain⟨cap,rfl⟩:=tv.hd
    have bx:=tv.el.box
    have r0:=tv.el.rd0 3 (by omega)
    have r1:=tv.el.rd 1 1 (by omega)
    have r2:=tv.el.rd 2 1 (by omega)
    simp at r0 r1 r2
    obtain⟨d1,d2,tw⟩:=s1.tblK bx hj
    have q0:=tw.el.rd0 3 (by omega)
    simp at q0
    simp
    refine Wait.cut (Plan.then_ [0,1,2,3,4,5,6,7,8,9,11] (.three 10 14 15 (Plan.then_ [12] (.three 13 14 15 (Plan.then_ [] (.two 14 15 (Plan.then_ [15,16,17] .done) (Plan.then_ [14,16,17] .done))) (Plan.then_ [] (.two 13 15 (Plan.then_ [15,16,17] .done) (Plan.then_ [] (.two 13 16 (Plan.then_ [16,17] .done) (Plan.then_ [13,17] .done))))) (Plan.then_ [] (.two 13 14 (Plan.then_ [14,16,17] .done) (Plan.then_ [] (.two 13 16 (Plan.then_ [16,17] .done) (Plan.then_ [13,17] .done))))))) (Plan.then_ [] (.two 10 15 (Plan.then_ [12] (.two 13 15 (Plan.then_ [15,16,17] .done) (Plan.then_ [] (.two 13 16 (Plan.then_ [16,17] .done) (Plan.then_ [13,17] .done))))) (Plan.then_ [] (.two 10 16 (Plan.then_ [12] (.two 13 16 (Plan.then_ [16,17] .done) (Plan.then_ [13,17] .done))) (Plan.then_ [10,12,13,17] .done))))) (Plan.then_ [] (.two 10 14 (Plan.then_ [12] (.two 13 14 (Plan.then_ [14,16,17] .done) (Plan.then_ [] (.two 13 16 (Plan.then_ [16,17] .done) (Plan.then_ [13,17] .done))))) (Plan.then_ [] (.two 10 16 (Plan.then_ [12] (.two 13 16 (Plan.then_ [16,17] .done) (Plan.then_ [13,17] .done))) (Plan.then_ [10,12,13,17] .done))))))) follows (by kernel_rfl) (fun e h'=>e.n=99∧e.get 0=.one (.ptr l 0)∧e.get 1=.one (.d (.int .i64 (i:Int)))∧e.get 5=.one (.ptr (h.ep,80) 0)∧e.get 7=.one (.d (.int .i64 (j:Int)))∧Same h1 h' [] ∧
     ∃ p9 p10:Lab,p9≠p10∧(h1.ep≤p9.1∧p9.1 < h'.ep)∧(h1.ep≤p10.1∧p10.1 < h'.ep)∧e.get 9=.one (.ptr p9 0)∧e.get 10=.one (.ptr p10 0)∧h'.box p9=some [.d (.str T.name),c1,c2]∧h'.box p10=some [.d (.str O.name),d1,d2]) ?_ ?_
    ·have hnl:=ne_new (s1.lt l (by simp))
     have hnt:=ne_new (s1.lt lt (by simp[tv.tm]))
     simp (maxDischargeDepth:=12) [hn,h0,h1',h5,h7,hb1,hlt,hltj,bx,r0,q0,hnl,hnt,le_s,Plan.then_,vcPlan,planOps,isCallAt,callKind]
     repeat' (with_reducible apply And.intro)
     all_goals first
      | (refine CutK.of ⟨?_,?_,?_,?_,?_,(((Same.refl.setBox (.inr ?_)).next.setBox (.inr ?_)).next.setBox (.inr ?_)).setBox (.inr ?_),(h1.ep,144),(h1.ep+1,160),?_,⟨?_,?_⟩,⟨?_,?_⟩,?_,?_,?_,?_⟩
         all_goals first
          | (simp[hn,h0,h1',h5,h7];done)
          | (simp;omega))
      | (refine CutK.of ⟨?_,?_,?_,?_,?_,(((Same.refl.setBox (.inr ?_)).next.setBox (.inr ?_)).next.setBox (.inr ?_)).setBox (.inr ?_),(h1.ep+1,144),(h1.ep,160),?_,⟨?_,?_⟩,⟨?_,?_⟩,?_,?_,?_,?_⟩
         all_goals first
          | (simp[hn,h0,h1',h5,h7];done)
          | (simp;omega))
    ·rintro e h2 ⟨hn,h0,h1',h5,h7,hs2,p9,p10,hp,hp9,hp10,h9,h10,b9,b10⟩
     have s2:=s1.frame hs2
     have hb2:=s2.box
     have hy2:=hy.trans hs2
     have bx52:h2.box (h.ep,80)=some (stpC step x6 x12 x13 x22):=by rw[hs2.2 _ (Nat.lt_of_lt_of_le hep hs1.1) (by simp)];exact bx5'
     have ff:∀ h',Same h2 h' []→Frz h' c1 (.sl (T.cols.map Col.enc))∧Frz h' c2 (.sl (T.pk.map encI))∧Frz h' d1 (.sl (O.cols.map Col.enc))∧Frz h' d2 (.sl (O.pk.map encI)):=fun h' hs=>⟨tv.f1 h' (hs2.trans hs),tv.f2 h' (hs2.trans hs),tw.f1 h' (hs2.trans hs),tw.f2 h' (hs2.trans hs)⟩
     have hz1:Same h2 h2.next []:=Same.refl.next
     have hz2:Same h2 h2.next.next []:=hz1.next
     cases hij:(i:Int) == (j:Int) with
     | true=>
       simp only[hij,cond_true] at hm
       have e1:=r_ret hm
       simp only[Prod.mk.injEq] at e1
       obtain⟨rfl,rfl⟩:=e1
       simp[hn,h1',h7,hij]
       exact hk _ _ s2.ows (hy2.mono (by simp)) (fun k hk=>.inl hk)
     | false=>
       simp only[hij,cond_false] at hm
       replace hm:=hm.bind
       obtain⟨b,hbv,hm⟩:=hm
       have hij1:¬ (i:Int)=(j:Int):=by simpa using hij
       have hij2:¬ i=j:=by omega
       simp[hn,h1',h7,h9,h10,hij,b9,b10]
       refine callK_heap (HSpec.of_lend (c_slices_Equal_Column T.cols O.cols b hbv) ⟨.one (.frz (ff _ .refl).1),.one (.frz (ff _ .refl).2.2.1),trivial⟩ rfl ?_)
       cases b with
       | false=>
         simp only[Bool.not_false,cond_true] at hm
         have e1:=r_ret hm
         simp only[Prod.mk.injEq] at e1
         obtain⟨rfl,rfl⟩:=e1
         simp[hn]
         exact hk _ _ (s2.frame hz1).ows ((hy2.trans hz1).mono (by simp)) (fun k hk=>.inl hk)
       | true=>
         simp only[Bool.not_true,cond_false] at hm
         replace hm:=hm.bind
         obtain⟨b',hbv',hm⟩:=hm
         simp[hn,h9,h10,b9,b10]
         refine callK_heap (HSpec.of_lend (c_slices_Equal_Int T.pk O.pk b' hbv') ⟨.one (.frz (ff _ hz1).2.1),.one (.frz (ff _ hz1).2.2.2),trivial⟩ rfl ?_)
         cases b' with
         | false=>
           simp only[Bool.not_false,cond_true] at hm
           have e1:=r_ret hm
           simp only[Prod.mk.injEq] at e1
           obtain⟨rfl,rfl⟩:=e1
           simp[hn]
           exact hk _ _ (s2.frame hz2).ows ((hy2.trans hz2).mono (by simp)) (fun k hk=>.inl hk)
         | true=>
           simp only[Bool.not_true,cond_false] at hm
           replace hm:=hm.bind
           obtain⟨w,hwv,hm⟩:=hm
           have s3:=s2.frame hz2
           simp[hn]
           refine Wait.cut (Plan.then_ [0,1,2,3,4,5,6,7,8] .done) follows (by kernel_rfl) (fun e h'=>e.n=99∧e.get 0=.one (.ptr l 0)∧e.get 1=.one (.d (.int .i64 (i:Int)))∧e.get 5=.one (.ptr (h.ep,80) 0)∧e.get 9=.one (.ptr p9 0)∧e.get 10=.one (.ptr p10 0)∧e.get 11=.one (.d (.int .i64 w))∧Same h2 h' []) ?_ ?_
           ·simp[hn,h0,h9,h10,b9,b10,hb2,Plan.then_,vcPlan,planOps,isCallAt,callKind]
            refine callK_heap (HSpec.of_lend (c_evolution_sameRules S T.name O.name w hwv) ⟨.agg s3.frz,.one (.frz (.data rfl)),.one (.frz (.data rfl)),trivial⟩ rfl ?_)
            simp[hn]
            exact⟨fun _ _ x=>x,CutK.of ⟨by simp[hn],by simp[h0],by simp[h1'],by simp[h5],by simp[h9],by simp[h10],by simp,hz2.next⟩⟩
           ·rintro e h3 ⟨hn,h0,h1',h5,h9,h10,h11,hs3⟩
            have s4:=s2.frame hs3
            have hb4:=s4.box
            have hy3:=hy2.trans hs3
            have b93:h3.box p9=some [.d (.str T.name),c1,c2]:=by rw[hs3.2 _ hp9.2 (by simp)];exact b9
            have b103:h3.box p10=some [.d (.str O.name),d1,d2]:=by rw[hs3.2 _ hp10.2 (by simp)];exact b10
            have bx3:h3.box lt=some B:=by
             rw[hs3.2 _ (s2.lt lt (by simp[tv.tm])) (by simp),hs2.2 _ (s1.lt lt (by simp[tv.tm])) (by simp)];exact bx
            have bx53:h3.box (h.ep,80)=some (stpC step x6 x12 x13 x22):=by rw[hs3.2 _ (Nat.lt_of_lt_of_le (Nat.lt_of_lt_of_le hep hs1.1) hs2.1) (by simp)];exact bx52
            simp[hn,h11]
            cases hw0:w != 0 with
            | true=>
              simp only[hw0,cond_true] at hm
              have e1:=r_ret hm
              simp only[Prod.mk.injEq] at e1
              obtain⟨rfl,rfl⟩:=e1
              have hw1:¬ w=0:=by simpa using hw0
              simp[hn,h11,hw1]
              exact hk _ _ s4.ows (hy3.mono (by simp)) (fun k hk=>.inl hk)
            | false=>
              simp only[hw0,cond_false] at hm
              have hw1:w=0:=by simpa using hw0
              replace hm:=hm.chk
              obtain⟨⟨⟨hp0,hp1⟩,hc0,hc1⟩,hm⟩:=hm
              have e1:=r_ret hm
              simp only[Prod.mk.injEq] at e1
              obtain⟨rfl,rfl⟩:=e1
              have hp2:T.pk.length < 2097152:=hp1
              have hc2:T.cols.length < 2097152:=hc1
              simp[hn,hw1]
              refine Wait.cut (Plan.then_ [0,1,2,4,5,6,7,8,9] (.two 3 10 (Plan.then_ [10,11,12,13,14] .done) (Plan.then_ [] (.two 3 11 (Plan.then_ [11,12,13,14] .done) (Plan.then_ [3,12,13,14] .done))))) follows (by kernel_rfl) (fun e h'=>e.n=99∧e.get 0=.one (.ptr l 0)∧e.get 1=.one (.d (.int .i64 (i:Int)))∧e.get 5=.one (.ptr (h.ep,80) 0)∧e.get 9=.one (.ptr p9 0)∧e.get 10=.one (.ptr p10 0) ∧
               (∃ ta' B',Sc h' l { S with tables:=S.tables.set i { T with pk:=T.pk++[(T.cols.length:Int)] } } (.mrow lt 0 S.tables.length cap) fc oc ta' fa oa∧h'.box lt=some B'∧takeN 1 (B'.drop (i * 3+1))=some [c1]∧(∀ k ∈ ta',k ∈ ta∨h3.ep≤k.1))∧Same h3 h' ta) ?_ ?_
              ·have hnl:=ne_new (s4.lt l (by simp))
               have hnt:=ne_new (s4.lt lt (by simp[tv.tm]))
               have hn9:=ne_new (l:=p9) (n:=h3.ep) (Nat.lt_of_lt_of_le hp9.2 hs3.1)
               simp (maxDischargeDepth:=12) [hn,h0,h1',h9,hb4,hlt,bx3,b93,hnl,hnt,hn9,le_s,Plan.then_,vcPlan,planOps,isCallAt,callKind]
               refine lenK_clen tv.n1.1 ?_
               simp (maxDischargeDepth:=12) [hn,h0,h1',h9,hb4,hlt,bx3,b93,hnl,hnt,hn9,le_s,Plan.then_,vcPlan,planOps,isCallAt,callKind]
               have hz:Same h3 ((h3.setArr (h3.ep,16 * 77) (some (1,1))).next) []:=(Same.refl).setArr.next
               simp only[Nat.reduceMul] at hz
               obtain⟨c1',c2',tv5⟩:=(s4.frame hz).tblK (by simpa using bx3) hi
               obtain rfl:c2'=c2:=by
                have:=tv5.el.rd 2 1 (by omega)
                simp[r2] at this
                exact this.symm
               have hle5:=tv5.el.le
               refine⟨?_,?_,?_⟩
               all_goals
                refine app_mr (by simp;exact⟨rfl,rfl⟩) (by simp) (by simp) (by simp) (tv5.m2 (by intro h0;simp[h0] at hp0)) (RowAt.own1 (by simp)) (by simp;omega) (fun c' h' hm' hs5 hl5=>?_)
                have hbl:h'.box lt=some B:=by
                 rw[hs5.2 lt ((s4.frame hz).lt lt (by simp[tv5.tm])) fun h2=>(tv5.l2 lt h2).2 rfl]
                 simpa using bx3
                have hbs':h'.box l=some [.mrow lt 0 S.tables.length cap,fc,oc]:=(s4.frame hz).keep hs5 fun k hk=>.inl (tv5.l2 k hk).1
                have hep5:=hs5.1
                simp at hep5
                obtain⟨ta',s6,hta⟩:=tv5.s2 h' c' (T.pk++[(T.cols.length:Int)]) (by simpa using hm') hs5 (fun k hk=>(hl5 k hk).imp_right fun h2=>⟨fun h3=>by have:=(s4.frame hz).lt k h3;omega,h2.2⟩)
                have el6:=tv5.el.set (g:=2) (vs:=[c']) (by simp) (by simp)
                have r6:=el6.rd 1 1 (by omega)
                simp at r6
                have r5:=tv5.el.rd 1 1 (by omega)
                simp[r1] at r5
                simp[hn,h0,h1',h9,hlt,hbl,hbs']
                refine⟨by omega,CutK.of ⟨by simp[hn],by simp[h0],by simp[h1'],by simp[h5],by simp[h9],by simp[h10],⟨ta',_,s6,by simp;rfl,by rw[r6,r5],fun k hk=>?_⟩,?_⟩⟩
                ·rcases hta k hk with h2 | h2
                 ·exact .inl h2
                 ·rcases hl5 k h2 with h3 | h3
                  ·exact .inl (tv5.l2 k h3).1
                  ·refine .inr ?_
                   have h4':=h3.1
                   simp at h4'
                   omega
                ·exact ((hz.mono (by simp)).trans (hs5.mono fun k hk=>(tv5.l2 k hk).1)).setBox (.inl tv5.tm)
              ·rintro e h4 ⟨hn,h0,h1',h5,h9,h10,⟨ta4,B4,s6,bx4,r4,hta4⟩,hs4⟩
               have hi4:({ S with tables:=S.tables.set i { T with pk:=T.pk++[(T.cols.length:Int)] } }:Sch).tables[i]?=some { T with pk:=T.pk++[(T.cols.length:Int)] }:=by simp[hlt]
               have hb6:=s6.box
               have hlt4:∀ k ∈ ta,k.1 < h1.ep:=fun k hk=>s1.lt k (by simp[hk])
               have b94:h4.box p9=some [.d (.str T.name),c1,c2]:=by rw[hs4.2 _ (Nat.lt_of_lt_of_le hp9.2 hs3.1) (fun h2=>by have:=hlt4 _ h2;omega)];exact b93
               have b104:h4.box p10=some [.d (.str O.name),d1,d2]:=by rw[hs4.2 _ (Nat.lt_of_lt_of_le hp10.2 hs3.1) (fun h2=>by have:=hlt4 _ h2;omega)];exact b103
               have bx54:h4.box (h.ep,80)=some (stpC step x6 x12 x13 x22):=by
                rw[hs4.2 _ (Nat.lt_of_lt_of_le (Nat.lt_of_lt_of_le (Nat.lt_of_lt_of_le hep hs1.1) hs2.1) hs3.1) (fun h2=>by have:=s.lt (h.ep,80) (by simp[h2]);simp at this)];exact bx53
               simp[hn]
               refine Wait.cut (Plan.then_ [0,1,2,4,5,6,7,8] (.two 3 9 (Plan.then_ [9,10,11,12,13,14] .done) (Plan.then_ [] (.two 3 10 (Plan.then_ [10,11,12,13,14] .done) (Plan.then_ [] (.two 3 11 (Plan.then_ [11,12,13,14] .done) (Plan.then_ [3,12,13,14] .done))))))) follows (by kernel_rfl) (fun e h'=>e.n=99∧e.get 0=.one (.ptr l 0)∧e.get 10=.one (.ptr p10 0) ∧
                (∃ ta',Sc h' l { S with tables:=S.tables.set i { T with pk:=T.pk++[(T.cols.length:Int)],cols:=T.cols++[⟨step.column,2,false⟩] } } (.mrow lt 0 S.tables.length cap) fc oc ta' fa oa∧(∀ k ∈ ta',k ∈ ta4∨h4.ep≤k.1))∧Same h4 h' ta4) ?_ ?_
               ·have hnl:=ne_new (s6.lt l (by simp))
                obtain⟨_,_,tv6⟩:=s6.tblK bx4 hi4
                have hnt:=ne_new (s6.lt lt (by simp[tv6.tm]))
                have hn9:=ne_new (l:=p9) (n:=h4.ep) (Nat.lt_of_lt_of_le (Nat.lt_of_lt_of_le hp9.2 hs3.1) hs4.1)
                have hn5:=ne_new (l:=(h.ep,80)) (n:=h4.ep) (Nat.lt_of_lt_of_le (Nat.lt_of_lt_of_le (Nat.lt_of_lt_of_le (Nat.lt_of_lt_of_le hep hs1.1) hs2.1) hs3.1) hs4.1)
                simp (maxDischargeDepth:=12) [hn,h0,h1',h5,h9,hb6,hlt,bx4,b94,bx54,hnl,hnt,hn9,hn5,le_s,stpC,Plan.then_,vcPlan,planOps,isCallAt,callKind]
                have hz:Same h4 ((h4.setArr (h4.ep,16 * 91) (some (1,3))).next) []:=(Same.refl).setArr.next
                simp only[Nat.reduceMul] at hz
                obtain⟨c1',c2',tv5⟩:=(s6.frame hz).tblK (by simpa using bx4) hi4
                obtain rfl:c1'=c1:=by
                 have:=tv5.el.rd 1 1 (by omega)
                 simp[r4] at this
                 exact this.symm
                have hle5:=tv5.el.le
                repeat' (with_reducible apply And.intro)
                all_goals
                 refine app_mr (by simp;exact⟨rfl,rfl⟩) (by simp) (by simp) (by simp) (tv5.m1 (by intro h0;simp only at h0;simp[h0] at hc0)) (RowAt.own1 (by simp)) (by simp;omega) (fun c' h' hm' hs5 hl5=>?_)
                 have hbl:h'.box lt=some B4:=by
                  rw[hs5.2 lt ((s6.frame hz).lt lt (by simp[tv5.tm])) fun h2=>(tv5.l1 lt h2).2 rfl]
                  simpa using bx4
                 have hbs':h'.box l=some [.mrow lt 0 S.tables.length cap,fc,oc]:=(s6.frame hz).keep hs5 fun k hk=>.inl (tv5.l1 k hk).1
                 have hep5:=hs5.1
                 simp at hep5
                 obtain⟨ta',s7,hta⟩:=tv5.s1 h' c' (T.cols++[⟨step.column,2,false⟩]) (by simpa using hm') hs5 (fun k hk=>(hl5 k hk).imp_right fun h2=>⟨fun h3=>by have:=(s6.frame hz).lt k h3;omega,h2.2⟩)
                 simp[hn,h0,h1',h9,hlt,hbl,hbs']
                 refine⟨by omega,CutK.of ⟨by simp[hn],by simp[h0],by simp[h10],⟨ta',by simpa using s7,fun k hk=>?_⟩,?_⟩⟩
                 ·rcases hta k hk with h2 | h2
                  ·exact .inl h2
                  ·rcases hl5 k h2 with h3 | h3
                   ·exact .inl (tv5.l1 k h3).1
                   ·refine .inr ?_
                    have h4':=h3.1
                    simp at h4'
                    omega
                 ·exact ((hz.mono (by simp)).trans (hs5.mono fun k hk=>(tv5.l1 k hk).1)).setBox (.inl tv5.tm)
               ·rintro e h5 ⟨hn,h0,h10,⟨ta5,s7,hta5⟩,hs5⟩
                have hep34:h.ep≤h3.ep:=hy3.1
                have hep44:h.ep≤h4.ep:=Nat.le_trans hy3.1 hs4.1
                have hta6:∀ k ∈ ta5,k ∈ ta∨h.ep≤k.1:=fun k hk=>by
                 rcases hta5 k hk with h2 | h2
                 ·exact (hta4 k h2).imp_right fun h3=>Nat.le_trans hep34 h3
                 ·exact .inr (Nat.le_trans hep44 h2)
                have hs6:Same h h5 ta:=((hy3.mono (by simp)).trans hs4).trans' hs5 fun k hk=>(hta4 k hk).imp_right fun h3=>Nat.le_trans hep34 h3
                have b105:h5.box p10=some [.d (.str O.name),d1,d2]:=by
                 rw[hs5.2 _ (Nat.lt_of_lt_of_le (Nat.lt_of_lt_of_le hp10.2 hs3.1) hs4.1) (fun h2=>by
                  rcases hta4 _ h2 with h3 | h3
                  ·have:=hlt4 _ h3;omega
                  ·have:=hs3.1;have:=hp10.2;omega)];exact b104
                simp[hn,h0,h10,b105]
                refine callK_heap (h_evolution_removeTable _ l _ _ O.name s7.ows _ ?_)
                intro h6 ls6 ho6 hs7 hl7
                simp[hn]
                refine hk _ _ ho6 ((hs6.mono fun k hk=>by simp[hk]).trans' hs7 fun k hk=>?_) fun k hk=>?_
                ·simp only[List.mem_cons] at hk ⊢
                 rcases hk with rfl | hk
                 ·exact .inl (.inl rfl)
                 ·exact (keep_ta (lx:=[]) hta6 k hk).imp_left .inr
                ·rcases hl7 k hk with h2 | h2
                 ·exact keep_ta (lx:=[]) hta6 k h2
                 ·exact .inr (Nat.le_trans hs6.1 h2)
end Go.Proofs.YthgepknlibmjcaaGreat
end
section
namespace Go.Proofs.YthgepknlibmjcaaGreat
open Go.Am
def m_evolution_partitionTable_1 (fk:Fk) (k0:Tbl):Option Bool:=
 (some (strEq fk.ref k0.name))
theorem c_evolution_partitionTable_1 (fk:Fk) (k0:Tbl) (r:Bool) (hm:Is (m_evolution_partitionTable_1 fk k0) r):PSpec Tryz.prog 188 [.agg fk.enc,.one (.rp [.str k0.name,.sl (k0.cols.map Col.enc),.sl (k0.pk.map encI)])] (.one (.d (.bool r))):=by
 unfold m_evolution_partitionTable_1 at hm
 refine PSpec.of_vc Tryz.func188 rfl (by kernel_rfl) (n:=9) rfl rfl (by simp) ?_
 try simp[*]
 obtain rfl:=r_ret hm
 exact ret0 (vs:=[_]) (by simp[*];try exact rfl) (by simp[*])
end Go.Proofs.YthgepknlibmjcaaGreat
end
section
namespace Go.Proofs.YthgepknlibmjcaaGreat
open Go Go.Am
end Go.Proofs.YthgepknlibmjcaaGreat
namespace Go.Am
open Go Go.Proofs.YthgepknlibmjcaaGreat
theorem MR.at {h:HS} {w:Nat} {c:C} {xs:List (List C)} (m:MR h w c xs) {k:Nat} {x:List C} (hk:xs[k]?=some x):∃ l cap B,c=.mrow l 0 xs.length cap∧h.box l=some B∧takeN w (B.drop (k * w))=some x:=by
 have hlt:=(List.getElem?_eq_some_iff.1 hk).1
 obtain⟨l,cap,sp,rfl,hb,_⟩:=m.block (by omega)
 exact⟨l,cap,_,rfl,hb,row_all m.1 hk⟩
end Go.Am
namespace Go.Proofs.YthgepknlibmjcaaGreat
open Go Go.Am
end Go.Proofs.YthgepknlibmjcaaGreat
namespace Go.Am
open Go Go.Proofs.YthgepknlibmjcaaGreat
theorem MR.uniq {h:HS} {w:Nat} {c:C} {xs ys:List (List C)} (m:MR h w c xs) (m':MR h w c ys):xs=ys:=by
 have e:xs.length=ys.length:=by
  have h1:=m.len
  rw[m'.len] at h1
  exact (Option.some.inj h1).symm
 refine List.ext_getElem? fun k=>?_
 by_cases hk:k < xs.length
 ·obtain⟨l,cap,B,rfl,hb,ht⟩:=m.at (List.getElem?_eq_getElem hk)
  obtain⟨l',cap',B',e',hb',ht'⟩:=m'.at (List.getElem?_eq_getElem (show k < ys.length by omega))
  simp at e'
  obtain⟨rfl,-,-⟩:=e'
  rw[hb] at hb'
  cases hb'
  rw[ht] at ht'
  rw[List.getElem?_eq_getElem hk,List.getElem?_eq_getElem (show k < ys.length by omega),Option.some.inj ht']
 ·rw[List.getElem?_eq_none (by omega),List.getElem?_eq_none (by omega)]
end Go.Am
namespace Go.Proofs.YthgepknlibmjcaaGreat
open Go Go.Am
def Old (h:HS) (c0:C) (xs:List (List C)) (n w:Nat):Prop:=∀ k,k < n→∃ l0 cap0 B0 x,c0=.mrow l0 0 n cap0∧l0.1 < h.ep∧h.box l0=some B0∧xs[k]?=some x∧takeN w (B0.drop (k * w))=some x
theorem Old.init {h:HS} {c:C} {xs:List (List C)} {w:Nat} (m:MR h w c xs) (hl:∀ k ∈ labs c,k.1 < h.ep):Old h c xs xs.length w:=fun k hk=>by
 obtain⟨l,cap,B,rfl,hb,ht⟩:=m.at (List.getElem?_eq_getElem hk)
 exact⟨l,cap,B,xs[k],rfl,hl l (by simp[labs]),hb,List.getElem?_eq_getElem hk,ht⟩
theorem Old.frame {h h':HS} {c0:C} {xs:List (List C)} {n w:Nat} (o:Old h c0 xs n w) (hs:Same h h' []):Old h' c0 xs n w:=fun k hk=>by
 obtain⟨l0,cap0,B0,x,h1,h2,h3,h4,h5⟩:=o k hk
 exact⟨l0,cap0,B0,x,h1,Nat.lt_of_lt_of_le h2 hs.1,by rw[hs.2 l0 h2 (by simp)];exact h3,h4,h5⟩
theorem Old.set {h:HS} {c0:C} {xs:List (List C)} {n w:Nat} {l:Lab} {cs:List C} (o:Old h c0 xs n w) (hl:∀ k ∈ labs c0,k≠l):Old (h.setBox l cs) c0 xs n w:=fun k hk=>by
 obtain⟨l0,cap0,B0,x,rfl,h2,h3,h4,h5⟩:=o k hk
 have:=hl l0 (by simp[labs])
 exact⟨l0,cap0,B0,x,rfl,by simpa using h2,by simpa[this] using h3,h4,h5⟩
theorem Old.step {h h':HS} {c0 c c':C} {xs:List (List C)} {x:List C} {n w:Nat} (o:Old h c0 xs n w) (m:MR h w c xs) (m':MR h' w c' (xs++[x])) (hs:(Same h h' (labs c)∧labs c'=labs c)∨(Same h h' []∧∀ k ∈ labs c',h.ep≤k.1∧k.1 < h'.ep)):Old h' c0 (xs++[x]) n w:=fun k hk=>by
 obtain⟨l0,cap0,B0,y,h1,h2,h3,h4,h5⟩:=o k hk
 have hlt:=(List.getElem?_eq_some_iff.1 h4).1
 have hy:(xs++[x])[k]?=some y:=by rw[List.getElem?_append_left hlt];exact h4
 rcases hs with ⟨hs,hl⟩ | ⟨hs,_⟩
 ·by_cases hm:l0 ∈ labs c
  ·obtain⟨l',cap',B',rfl,hb',ht'⟩:=m'.at hy
   rw[← hl] at hm
   simp[labs] at hm
   subst hm
   exact⟨l0,cap0,B',y,h1,Nat.lt_of_lt_of_le h2 hs.1,hb',hy,ht'⟩
  ·exact⟨l0,cap0,B0,y,h1,Nat.lt_of_lt_of_le h2 hs.1,by rw[hs.2 l0 h2 hm];exact h3,hy,h5⟩
 ·exact⟨l0,cap0,B0,y,h1,Nat.lt_of_lt_of_le h2 hs.1,by rw[hs.2 l0 h2 (by simp)];exact h3,hy,h5⟩
def m_partF (T:Tbl) (other:ByteArray) {ρ:Type} (_:Nat) (f:Fk) (S:Sch) (next:Sch→Option ρ):Option ρ:=bif strEq f.table T.name then chkK (S.fks.length < LIM) (next { S with fks:=S.fks++[⟨other,f.cols,f.ref⟩] }) else next S
def m_partO (T:Tbl) (other:ByteArray) {ρ:Type} (_:Nat) (f:Cons) (S:Sch) (next:Sch→Option ρ):Option ρ:=bif strEq f.table T.name then chkK (S.cons.length < LIM) (next { S with cons:=S.cons++[{ f with table:=other }] }) else next S
def m_evolution_partitionTable (S:Sch) (i:Nat) (step:Stp):Option (Sch × Int):=
 getK S.tables (i:Int) fun T=>bindK (m_schema_FindColumn T step.column) fun v=>bif !v.2 then some (S,4) else
 bindK (m_value_Satisfies step.value step.op step.value) fun q=>bif q.2 != 0 then some (S,q.2) else
 bindK (m_value_Validate step.value) fun e=>bif e != 0 then some (S,e) else
 getK T.cols v.1 fun c=>bif step.value.kind != c.kind then some (S,7) else
 bindK (m_schema_FindTable S step.other) fun w=>bif w.2 then some (S,5) else
 bindK (m_slices_ContainsFunc_Foreignkey S.fks fun fk=>m_evolution_partitionTable_1 fk T) fun b=>bif b then some (S,10) else
 forK (m_partF T step.other) (fun S1=>forK (m_partO T step.other) (fun S2=>bindK (m_evolution_insertTable S2 { T with name:=step.other }) fun S3=>some (S3,0)) S.cons 0 S1) S.fks 0 S
def PartI (h:HS) (l:Lab) (tc fc oc:C) (ta fa oa:List Lab) (S:Sch) (st tcells B:List C) (lt:Lab) (S1:Sch) (e:Env) (h1:HS):Prop:=∃ fc1 fa1 ad xs,e.n=149∧e.get 0=.one (.ptr l 0)∧e.get 5=.one (.ptr (h.ep,80) 0)∧e.get 7=.one (.ptr (h.ep+1,112) 0) ∧
 S1.tables=S.tables∧S1.cons=S.cons∧S1.fks=S.fks++ad∧Sc h1 l S1 tc fc1 oc ta fa1 oa∧(∀ k ∈ fa1,k ∈ fa∨h.ep+1 < k.1)∧Same h h1 (l::(ta++(fa++oa)))∧h1.box (h.ep,80)=some st∧h1.box (h.ep+1,112)=some tcells∧h1.box lt=some B∧h.ep+1 < h1.ep∧MR h1 3 fc1 xs∧Old h1 fc xs S.fks.length 3
def PartJ (h:HS) (l:Lab) (tc fc1 oc:C) (ta fa fa1 oa:List Lab) (S:Sch) (st tcells B:List C) (lt:Lab) (S1:Sch) (e:Env) (h1:HS):Prop:=∃ oc1 oa1 ad xs,e.n=149∧e.get 0=.one (.ptr l 0)∧e.get 5=.one (.ptr (h.ep,80) 0)∧e.get 7=.one (.ptr (h.ep+1,112) 0) ∧
 S1.tables=S.tables∧S1.cons=S.cons++ad∧Sc h1 l S1 tc fc1 oc1 ta fa1 oa1∧(∀ k ∈ oa1,k ∈ oa∨h.ep+1 < k.1)∧Same h h1 (l::(ta++(fa++oa)))∧h1.box (h.ep,80)=some st∧h1.box (h.ep+1,112)=some tcells∧h1.box lt=some B∧h.ep+1 < h1.ep∧MR h1 7 oc1 xs∧Old h1 oc xs S.cons.length 7
set_option maxHeartbeats 2000000 in
theorem h_evolution_partitionTable (h:HS) (l:Lab) (tc fc oc x6 x12 x13 x22:C) (ta fa oa:List Lab) (S S':Sch) (i:Nat) (step:Stp) (r:Int) (hm:Is (m_evolution_partitionTable S i step) (S',r)) (s:Sc h l S tc fc oc ta fa oa) (K:V→HS→Prop)
  (hk:KeepS h l (ta++(fa++oa)) S' (.one (.d (.int .i64 r))) K) :
  HSpec Tryz.prog 167 [.one (.ptr l 0),.one (.d (.int .i64 (i:Int))),.agg (stpC step x6 x12 x13 x22)] h K:=by
 replace hm:=hm.getN
 obtain⟨T,hi,hm⟩:=hm
 replace hm:=hm.bind
 obtain⟨v,hv,hm⟩:=hm
 have hlt:i < S.tables.length:=(List.getElem?_eq_some_iff.1 hi).1
 obtain⟨lt,c1,c2,B,tv⟩:=s.tbl hi
 obtain⟨cap,rfl⟩:=tv.hd
 have hb:=s.box
 have bx:=tv.el.box
 have r0:=tv.el.rd0 3 (by omega)
 simp at r0
 have hne:=ne_new (s.lt l (by simp))
 have hnt:=ne_new (s.lt lt (by simp[tv.tm]))
 have hxf:∀ h',Same h h' []→FrzCs h' [C.d (D.str T.name),c1,c2] T.enc:=fun h' hs=>⟨.data rfl,tv.f1 h' hs,tv.f2 h' hs,trivial⟩
 refine HSpec.of_vc Tryz.func167 rfl (by kernel_rfl) (n:=149) rfl rfl (by simp) ?_
 have hnn:stpC step x6 x12 x13 x22≠[]:=by simp[stpC]
 have hs0:Same h (((h.setBox (h.ep,80) (stpC step x6 x12 x13 x22)).next.setBox (h.ep+1,112) [C.d (D.str ByteArray.empty),C.nil,C.nil]).next.setBox (h.ep+1,112) [C.d (D.str T.name),c1,c2]) []:=(((Same.refl.setBox (.inr (Nat.le_refl _))).next.setBox (.inr (by simp))).next.setBox (.inr (by simp)))
 have e3:takeN 1 ((stpC step x6 x12 x13 x22).drop 3)=some [.d (.str step.column)]:=by simp[stpC]
 simp[hb,hlt,bx,r0,hne,hnt,hnn,e3]
 generalize hX:(((h.setBox (h.ep,80) (stpC step x6 x12 x13 x22)).next.setBox (h.ep+1,112) _).next.setBox (h.ep+1,112) _)=HX at *
 have bx5:HX.box (h.ep,80)=some (stpC step x6 x12 x13 x22):=by rw[← hX];simp
 have bx7:HX.box (h.ep+1,112)=some [C.d (D.str T.name),c1,c2]:=by rw[← hX];simp
 have hep:h.ep+1 < HX.ep:=by rw[← hX];simp
 refine callK_heap (HSpec.of_lend (c_schema_FindColumn T step.column v hv) ⟨.agg (hxf _ hs0),.one (.frz (.data rfl)),trivial⟩ rfl ?_)
 have e78:takeN 1 ((stpC step x6 x12 x13 x22).drop 7)=some [.d (.str step.op)]:=by simp[stpC]
 have e8:takeN 3 ((stpC step x6 x12 x13 x22).drop 8)=some [.d (.int .i64 step.value.kind),.d (.int .i64 step.value.int),.d (.str step.value.text)]:=by simp[stpC]
 have e81:takeN 1 ((stpC step x6 x12 x13 x22).drop 8)=some [.d (.int .i64 step.value.kind)]:=by simp[stpC]
 have e2':takeN 1 ((stpC step x6 x12 x13 x22).drop 2)=some [.d (.str step.other)]:=by simp[stpC]
 have hs1:=hs0.next
 simp
 cases hv2:v.2 with
 | false=>
   rw[hv2] at hm
   have e1:=r_ret hm
   simp only[Prod.mk.injEq] at e1
   obtain⟨rfl,rfl⟩:=e1
   simp
   exact hk _ _ (s.frame hs1).ows (hs1.mono (by simp)) (fun k hk=>.inl hk)
 | true=>
   simp only[hv2,Bool.not_true,cond_false] at hm
   replace hm:=hm.bind
   obtain⟨q,hq,hm⟩:=hm
   simp[bx5,e78,e8]
   refine callK_heap (HSpec.of_lend (c_value_Satisfies step.value step.op step.value q hq) ⟨.agg (FrzCs.datas (ds:=step.value.enc)),.one (.frz (.data rfl)),.agg (FrzCs.datas (ds:=step.value.enc)),trivial⟩ rfl ?_)
   have hs2:=hs1.next
   simp
   cases hq2:q.2 != 0 with
   | true=>
     simp only[hq2,cond_true] at hm
     have e1:=r_ret hm
     simp only[Prod.mk.injEq] at e1
     obtain⟨rfl,rfl⟩:=e1
     simp[hq2]
     exact hk _ _ (s.frame hs2).ows (hs2.mono (by simp)) (fun k hk=>.inl hk)
   | false=>
     simp only[hq2,cond_false] at hm
     replace hm:=hm.bind
     obtain⟨u,hu,hm⟩:=hm
     simp[hq2,bx5,e8]
     refine callK_heap (HSpec.of_lend (c_value_Validate step.value u hu) ⟨.agg (FrzCs.datas (ds:=step.value.enc)),trivial⟩ rfl ?_)
     have hs3:=hs2.next
     simp
     cases hu2:u != 0 with
     | true=>
       simp only[hu2,cond_true] at hm
       have e1:=r_ret hm
       simp only[Prod.mk.injEq] at e1
       obtain⟨rfl,rfl⟩:=e1
       simp[hu2]
       exact hk _ _ (s.frame hs3).ows (hs3.mono (by simp)) (fun k hk=>.inl hk)
     | false=>
       simp only[hu2,cond_false] at hm
       replace hm:=hm.get
       obtain⟨c,hc0,hc,hm⟩:=hm
       obtain⟨n,hn1⟩:∃ n:Nat,v.1=n:=⟨v.1.toNat,by omega⟩
       have hnl:n < T.cols.length:=by
        have:=(List.getElem?_eq_some_iff.1 hc).1
        omega
       have s3:=s.frame hs3
       have bxl3:HX.next.next.next.box lt=some B:=by rw[hs3.2 lt (s.lt lt (by simp[tv.tm])) (by simp)];exact bx
       obtain⟨c1',c2',tv3⟩:=s3.tblK bxl3 hi
       have r1:=tv.el.rd 1 1 (by omega)
       simp at r1
       obtain rfl:c1'=c1:=by
        have:=tv3.el.rd 1 1 (by omega)
        simp[r1] at this
        exact this.symm
       obtain⟨l2,cap2,B2,rfl,el2,-⟩:=tv3.e1 _ c hc
       have bx2:=el2.box
       have q1:=el2.rd 1 1 (by omega)
       rw[hn1] at q1
       simp at q1 bx2
       simp[hu2,hn1]
       refine Wait.cut (Plan.then_ [0,1,2,3,4,5,6,7,8,9] .done) follows (by kernel_rfl) (fun e h'=>e.n=149∧e.get 0=.one (.ptr l 0)∧e.get 5=.one (.ptr (h.ep,80) 0)∧e.get 7=.one (.ptr (h.ep+1,112) 0)∧e.get 64=.one (.d (.bool (step.value.kind != c.kind)))∧h'=HX.next.next.next) ?_ ?_
       ·simp[bx5,bx7,e81,bx2,q1,hnl,Plan.then_,vcPlan,planOps,isCallAt,callKind]
        exact CutK.of (by simp)
       ·rintro e h4 ⟨hn,h0,h5,h7,h64,rfl⟩
        simp[hn,h64]
        cases hck:step.value.kind != c.kind with
        | true=>
          simp only[hck,cond_true] at hm
          have e1:=r_ret hm
          simp only[Prod.mk.injEq] at e1
          obtain⟨rfl,rfl⟩:=e1
          simp[hn]
          exact hk _ _ s3.ows (hs3.mono (by simp)) (fun k hk=>.inl hk)
        | false=>
          simp only[hck,cond_false] at hm
          replace hm:=hm.bind
          obtain⟨w,hw,hm⟩:=hm
          have hb3:=s3.box
          simp[hn]
          refine Wait.cut (Plan.then_ [0,1,2,3,4,5,6,7,8,9,10] .done) follows (by kernel_rfl) (fun e h'=>e.n=149∧e.get 0=.one (.ptr l 0)∧e.get 5=.one (.ptr (h.ep,80) 0)∧e.get 7=.one (.ptr (h.ep+1,112) 0)∧e.get 14=.one (.d (.bool w.2))∧Same HX h' []) ?_ ?_
          ·simp at hb3
           simp[hn,h0,h5,hb3,bx5,e2',Plan.then_,vcPlan,planOps,isCallAt,callKind]
           refine callK_heap (HSpec.of_lend (c_schema_FindTable S step.other w hw) ⟨.agg s3.frz,.one (.frz (.data rfl)),trivial⟩ rfl ?_)
           simp[hn]
           exact⟨fun _ _ x=>x,CutK.of ⟨by simp[hn],by simp[h0],by simp[h5],by simp[h7],by simp,Same.refl.next.next.next.next⟩⟩
          ·rintro e h5' ⟨hn,h0,h5,h7,h14,hs4⟩
           have hy4:=hs0.trans hs4
           have s4:=s.frame hy4
           have hb4:=s4.box
           have bx54:h5'.box (h.ep,80)=some (stpC step x6 x12 x13 x22):=by rw[hs4.2 _ (by simp;omega) (by simp)];exact bx5
           have bx74:h5'.box (h.ep+1,112)=some [C.d (D.str T.name),.mrow l2 0 T.cols.length cap2,c2]:=by rw[hs4.2 _ (by simp;omega) (by simp)];exact bx7
           simp[hn,h14]
           cases hw2:w.2 with
           | true=>
             simp only[hw2,cond_true] at hm
             have e1:=r_ret hm
             simp only[Prod.mk.injEq] at e1
             obtain⟨rfl,rfl⟩:=e1
             simp[hn]
             exact hk _ _ s4.ows (hy4.mono (by simp)) (fun k hk=>.inl hk)
           | false=>
             simp only[hw2,cond_false] at hm
             replace hm:=hm.bind
             obtain⟨b,hbv,hm⟩:=hm
             simp[hn,h0,h7,hb4]
             refine callK_heap (HSpec.of_lend (c_slices_ContainsFunc_Foreignkey S.fks 188 [T.enc] (fun fk=>m_evolution_partitionTable_1 fk T) (fun xa v hv=>c_evolution_partitionTable_1 xa T v hv) b hbv) ⟨.one (.frz s4.ffrz),.one (.fn rfl ?_),trivial⟩ rfl ?_)
             ·intro j cp ds hj hd
              cases j with
              | zero=>
                simp at hj hd
                subst hj hd
                exact⟨_,bx74,hxf _ hy4⟩
              | succ j=>simp at hj
             ·simp[hn]
              have hs5:=hs4.next
              have hy5:=hy4.next
              have s5:=s.frame hy5
              cases b with
              | true=>
                have e1:=r_ret hm
                simp only[Prod.mk.injEq] at e1
                obtain⟨rfl,rfl⟩:=e1
                simp[hn]
                exact hk _ _ s5.ows (hy5.mono (by simp)) (fun k hk=>.inl hk)
              | false=>
                simp only[cond_false] at hm
                have hb5:=s5.box
                simp at hb5
                simp[hn,h0,hb5]
                refine lenK_clen s5.len.2.1.1 ?_
                simp[hn]
                have bx55:h5'.next.box (h.ep,80)=some (stpC step x6 x12 x13 x22):=bx54
                have bx75:h5'.next.box (h.ep+1,112)=some [C.d (D.str T.name),.mrow l2 0 T.cols.length cap2,c2]:=bx74
                have bxl5:h5'.next.box lt=some B:=by rw[hy5.2 lt (s.lt lt (by simp[tv.tm])) (by simp)];exact bx
                have hep5:h.ep+1 < h5'.next.ep:=Nat.lt_of_lt_of_le hep hs5.1
                obtain⟨ys5,my5,hl5,-⟩:=s5.addF
                refine Wait.for (xs:=S.fks) (s0:=S) (fun k S1 e h1=>e.get 84=.one fc∧e.get 85=.one (.d (.int .i64 (S.fks.length:Int)))∧e.get 86=.one (.d (.int .i64 (k:Int)))∧PartI h l (.mrow lt 0 S.tables.length cap) fc oc ta fa oa S (stpC step x6 x12 x13 x22) [C.d (D.str T.name),.mrow l2 0 T.cols.length cap2,c2] B lt S1 e h1) hm
                 ⟨by simp,by simp,by simp,fc,fa,[],ys5,by simp[hn],by simp[h0],by simp[h5],by simp[h7],rfl,rfl,by simp,s5,fun k hk=>.inl hk,hy5.mono (by simp),bx55,bx75,bxl5,hep5,my5,hl5 ▸ Old.init my5 (fun k hk=>s5.lt k (by simp[s.hlabs.2.1 k hk]))⟩ ?_ ?_
                ·rintro k S1 e h1 ⟨h84,h85,h86,fc1,fa1,ad,xs,hn,h0,h5,h7,ht1,hc1,hf1,s1,hfa1,hs1',bx51,bx71,bxl1,hep1,mx,ox⟩ hltk hm
                 have hw:IntKind.i64.wrap ((k:Int)+1)=(k:Int)+1:=IntWalk.i64_in _ (by have:=s5.len.2.1.2;simp at this;omega)
                 obtain⟨l0,cap0,B0,x,rfl,hl0,hb0,hx,hr0⟩:=ox k hltk
                 have hfk:S1.fks[k]?=some S.fks[k]:=by rw[hf1,List.getElem?_append_left hltk,List.getElem?_eq_getElem hltk]
                 obtain⟨lf,cf,Bf,c1f,rfl,hlf,el,fz,cl,-,-⟩:=s1.fk hfk
                 obtain rfl:x=[.d (.str S.fks[k].table),c1f,.d (.str S.fks[k].ref)]:=by
                  obtain⟨lf',cf',Bf',e2,hb2,ht2⟩:=mx.at hx
                  simp at e2
                  obtain⟨rfl,-,-⟩:=e2
                  have e3:=el.box
                  rw[hb2] at e3
                  cases e3
                  have e4:=el.rd0 3 (by omega)
                  rw[ht2] at e4
                  simpa using e4
                 have hz:Same h1 ((h1.setBox (h1.ep,256) [C.d (D.str ByteArray.empty),C.nil,C.d (D.str ByteArray.empty)]).next.setBox (h1.ep,256) [.d (.str S.fks[k].table),c1f,.d (.str S.fks[k].ref)]) []:=((Same.refl.setBox (.inr (Nat.le_refl _))).next).setBox (.inr (Nat.le_refl _))
                 have hn5:=ne_new (l:=(h.ep,80)) (n:=h1.ep) (by simp;omega)
                 have hn7:=ne_new (l:=(h.ep+1,112)) (n:=h1.ep) (by simpa using hep1)
                 have hnl1:=ne_new (s1.lt l (by simp))
                 have hnt1:=ne_new (s1.lt lt (by simp[tv.tm]))
                 simp only[m_partF] at hm
                 simp[hn,h0,h5,h7,h84,h85,h86,hltk,hb0,hr0,bx71,hn7]
                 generalize hX2:(h1.setBox (h1.ep,256) [C.d (D.str ByteArray.empty),C.nil,C.d (D.str ByteArray.empty)]).next.setBox (h1.ep,256) [.d (.str S.fks[k].table),c1f,.d (.str S.fks[k].ref)]=HZ at hz
                 have bz16:HZ.box (h1.ep,256)=some [.d (.str S.fks[k].table),c1f,.d (.str S.fks[k].ref)]:=by rw[← hX2];simp
                 have hepz:h1.ep < HZ.ep:=by rw[← hX2];simp
                 have sz:=s1.frame hz
                 have bz5:HZ.box (h.ep,80)=some (stpC step x6 x12 x13 x22):=by rw[hz.2 _ (by simp;omega) (by simp)];exact bx51
                 have bz7:HZ.box (h.ep+1,112)=some [C.d (D.str T.name),.mrow l2 0 T.cols.length cap2,c2]:=by rw[hz.2 _ (by simpa using hep1) (by simp)];exact bx71
                 have bzl:HZ.box lt=some B:=by rw[hz.2 _ (s1.lt lt (by simp[tv.tm])) (by simp)];exact bxl1
                 have mz:MR HZ 3 (.mrow lf 0 S1.fks.length cf) xs:=mx.frame fun k hk=>hz.2 k (s1.lt k (by simp[s1.hlabs.2.1 k hk])) (by simp)
                 have oz:=ox.frame hz
                 cases hbt:strEq S.fks[k].table T.name with
                 | false=>
                   simp only[hbt,cond_false] at hm
                   simp[hbt,hn,h86,hw]
                   rw[hX2]
                   exact BackF.of S1 ⟨⟨by simp[h84],by simp[h85],by simp,_,fa1,ad,xs,by simp[hn],by simp[h0],by simp[h5],by simp[h7],ht1,hc1,hf1,sz,hfa1,hs1'.trans (hz.mono (by simp)),bz5,bz7,bzl,by omega,mz,oz⟩,hm⟩
                 | true=>
                   simp only[hbt,cond_true] at hm
                   replace hm:=hm.chk
                   obtain⟨hlim,hm⟩:=hm
                   simp[hbt,hn]
                   rw[hX2]
                   have hbz:=sz.box
                   refine Wait.cut (Plan.then_ [0,1,2,3,4,5,6,7,8,10,11,9,12,13,14,15,16,17] .done) follows (by kernel_rfl) (fun e h2=>e.get 84=.one (.mrow l0 0 S.fks.length cap0)∧e.get 85=.one (.d (.int .i64 (S.fks.length:Int)))∧e.get 86=.one (.d (.int .i64 (k:Int)))∧PartI h l (.mrow lt 0 S.tables.length cap) (.mrow l0 0 S.fks.length cap0) oc ta fa oa S (stpC step x6 x12 x13 x22) [C.d (D.str T.name),.mrow l2 0 T.cols.length cap2,c2] B lt { S1 with fks:=S1.fks++[⟨step.other,S.fks[k].cols,S.fks[k].ref⟩] } e h2) ?_ ?_
                   ·simp[hn,h0,h5,hbz,bz5,bz16,e2',Plan.then_,vcPlan,planOps,isCallAt,callKind]
                    refine callK_heap (h_slices_Clone_Int _ c1f (S.fks[k].cols.map fun c=>(encI c).map C.d) (by rw[dmap_len];exact (fz HZ hz).rowAt (n:=1) (by simp[D.flat]) (by simpa using cl.2)) _ (fun pc h2 mp hs2 hlp hbox=>?_))
                    simp[hn]
                    refine⟨hbox,?_⟩
                    have hoF:Ow h2 FkSh [.d (.str step.other),pc,.d (.str S.fks[k].ref)] (⟨step.other,S.fks[k].cols,S.fks[k].ref⟩:Fk).enc (labs pc):=by
                     refine .data rfl ?_
                     have:=Ow.rowD (es:=[.d]) (n:=1) (ts:=S.fks[k].cols.map encI) (by rw[← dmap_len];exact mp) rfl (by simp) (Ow.data (c:=.d (.str S.fks[k].ref)) (x:=.str S.fks[k].ref) rfl .nil)
                     simpa using this
                    have hepz2:=hs2.1
                    have fin:∀ (h3:HS) (x':List C) (lx:List Lab),Same h2 h3 []→(∀ h',(∀ k ∈ labs pc,h'.box k=h2.box k)→Ow h' FkSh x' (⟨step.other,S.fks[k].cols,S.fks[k].ref⟩:Fk).enc lx)→(∀ k ∈ lx,k ∈ labs pc)→lx.Nodup→∀ (c':C) (h':HS),MR h' 3 c' (xs++[x']) →
                      ((Same h3 h' (labs (.mrow lf 0 S1.fks.length cf))∧labs c'=labs (.mrow lf 0 S1.fks.length cf))∨(Same h3 h' []∧∀ k ∈ labs c',h3.ep≤k.1∧k.1 < h'.ep)) →
                      h'.box l=some [.mrow lt 0 S.tables.length cap,.mrow lf 0 S1.fks.length cf,oc]∧∃ fa',Sc (h'.setBox l [.mrow lt 0 S.tables.length cap,c',oc]) l { S1 with fks:=S1.fks++[⟨step.other,S.fks[k].cols,S.fks[k].ref⟩] } (.mrow lt 0 S.tables.length cap) c' oc ta fa' oa∧(∀ k ∈ fa',k ∈ fa∨h.ep+1 < k.1) ∧
                       Same h (h'.setBox l [.mrow lt 0 S.tables.length cap,c',oc]) (l::(ta++(fa++oa)))∧(h'.setBox l [.mrow lt 0 S.tables.length cap,c',oc]).box (h.ep,80)=some (stpC step x6 x12 x13 x22)∧(h'.setBox l [.mrow lt 0 S.tables.length cap,c',oc]).box (h.ep+1,112)=some [C.d (D.str T.name),.mrow l2 0 T.cols.length cap2,c2]∧(h'.setBox l [.mrow lt 0 S.tables.length cap,c',oc]).box lt=some B ∧
                       h.ep+1 < (h'.setBox l [.mrow lt 0 S.tables.length cap,c',oc]).ep∧MR (h'.setBox l [.mrow lt 0 S.tables.length cap,c',oc]) 3 c' (xs++[x'])∧Old (h'.setBox l [.mrow lt 0 S.tables.length cap,c',oc]) (.mrow l0 0 S.fks.length cap0) (xs++[x']) S.fks.length 3:=by
                     intro h3 x' lx hs3 hox hlx hnd c' h' hm' hd
                     have hz3:Same HZ h3 []:=hs2.trans hs3
                     have s3:=sz.frame hz3
                     obtain⟨ys,my,-,add⟩:=s3.addF
                     have m3:MR h3 3 (.mrow lf 0 S1.fks.length cf) xs:=mz.frame fun k hk=>hz3.2 k (sz.lt k (by simp[sz.hlabs.2.1 k hk])) (by simp)
                     obtain rfl:=my.uniq m3
                     have hd1:Same h3 h' (labs (.mrow lf 0 S1.fks.length cf)):=hd.elim (fun h=>h.1) fun h=>h.1.mono (by simp)
                     have hd2:∀ k ∈ labs c',k ∈ labs (.mrow lf 0 S1.fks.length cf)∨(h3.ep≤k.1∧k.1 < h'.ep):=fun k hk=>hd.elim (fun h=>.inl (h.2 ▸ hk)) fun h=>.inr (h.2 k hk)
                     have hlf':∀ k ∈ labs (.mrow lf 0 S1.fks.length cf),k=lf:=fun k hk=>by simpa[labs] using hk
                     have hlfl:=s1.lt lf (by simp[hlf])
                     have hep3:=hs3.1
                     have hep3':=hd1.1
                     have hpc:∀ k ∈ labs pc,h'.box k=h2.box k:=fun k hk=>by
                      have h1':=hlp k hk
                      rw[hd1.2 k (by omega) fun h2'=>by have:=hlf' k h2';subst this;omega]
                      exact hs3.2 k h1'.2 (by simp)
                     have hkeep:∀ k:Lab,k.1 < HZ.ep→k≠lf→k≠l→(h'.setBox l [.mrow lt 0 S.tables.length cap,c',oc]).box k=HZ.box k:=fun k h1' h2' h3'=>by
                      simp only[setBox_box,h3',if_false]
                      rw[hd1.2 k (by omega) fun h4'=>h2' (hlf' k h4'),hz3.2 k h1' (by simp)]
                     obtain⟨fa',s6,hfa'⟩:=add h' c' x' _ lx hm' hd1 hd2 (hox h' hpc) hnd (fun k hk=>by
                      have h1':=hlp k (hlx k hk)
                      refine⟨by omega,fun h2'=>by have:=sz.lt k h2';omega,fun h2'=>?_⟩
                      rcases hd2 k h2' with h3' | h3'
                      ·have:=hlf' k h3';subst this;omega
                      ·omega) _ rfl
                     have hnl:∀ k ∈ labs c',k≠l:=fun k hk he=>by
                      rcases hd2 k hk with h1' | h1'
                      ·have:=hlf' k h1';subst this;subst he;exact s1.nl.2.1 hlf
                      ·have:=s1.lt l (by simp);rw[← he] at this;omega
                     have hne5:∀ b,((h.ep,b):Lab)≠lf∧((h.ep,b):Lab)≠l:=fun b=>⟨fun he=>by
                      rcases hfa1 lf hlf with h1' | h1'
                      ·have:=s.lt lf (by simp[h1']);rw[← he] at this;simp at this
                      ·rw[← he] at h1';have h1'':h.ep+1 < h.ep:=h1';omega,fun he=>by have:=s.lt l (by simp);rw[← he] at this;simp at this⟩
                     have hne7:∀ b,((h.ep+1,b):Lab)≠lf∧((h.ep+1,b):Lab)≠l:=fun b=>⟨fun he=>by
                      rcases hfa1 lf hlf with h1' | h1'
                      ·have:=s.lt lf (by simp[h1']);rw[← he] at this;simp at this;omega
                      ·rw[← he] at h1';simp at h1',fun he=>by have:=s.lt l (by simp);rw[← he] at this;simp at this;omega⟩
                     refine⟨s3.keep hd1 fun k hk=>.inr (.inl (s3.hlabs.2.1 k hk)),fa',s6,fun k hk=>?_,?_,?_,?_,?_,by simp;omega,hm'.frame fun k hk=>by simp[hnl k hk],(((oz.frame hz3).step m3 hm' hd).set fun k hk he=>?_)⟩
                     ·rcases hfa' k hk with h1' | h1' | h1'
                      ·exact hfa1 k h1'
                      ·have:=hlp k (hlx k h1');exact .inr (by omega)
                      ·exact .inr (by omega)
                     ·refine Same.setBox ((hs1'.trans ((hz.trans hz3).mono (by simp))).trans' hd1 fun k hk=>?_) (.inl (by simp))
                      have:=hlf' k hk
                      subst this
                      exact (hfa1 k hlf).imp (fun h1'=>by simp[h1']) fun h1'=>by omega
                     ·rw[hkeep _ (by simp;omega) (hne5 80).1 (hne5 80).2];exact bz5
                     ·rw[hkeep _ (by simp;omega) (hne7 112).1 (hne7 112).2];exact bz7
                     ·refine (hkeep lt (by have:=s1.lt lt (by simp[tv.tm]);omega) (fun he=>?_) fun he=>s.nl.1 (he ▸ tv.tm)).trans bzl
                      have h6:=s1.nd
                      simp only[List.nodup_cons,List.nodup_append,List.mem_append] at h6
                      exact h6.2.2.2 lt tv.tm lf (.inl hlf) he
                     ·simp[labs] at hk
                      subst hk
                      subst he
                      exact s.nl.2.1 (s.hlabs.2.1 _ (by simp[labs]))
                    have hxl:xs.length=S1.fks.length:=by
                     have h1':=mx.len
                     simp[cLen] at h1'
                     exact h1'.symm
                    have hlim':xs.length+1≤LIM:=by rw[hxl];exact hlim
                    refine bld_ow (x:=[.d (.str step.other),pc,.d (.str S.fks[k].ref)]) (by simp[toDs];cases pc.toD<;>rfl) (by simp) (fun d hd2=>?_) (fun hd2=>?_)
                    ·obtain⟨rfl,hT2⟩:=hoF.ofD hd2
                     have hs3:Same h2 ((h2.setArr (h2.ep,16 * 108) (some (1,3))).next) []:=Same.refl.setArr.next
                     simp[hn]
                     refine app_mr2 (by simp;exact⟨rfl,rfl⟩) (by simp) (by simp) (by simp) (mz.frame fun k hk=>(hs2.trans hs3).2 k (sz.lt k (by simp[sz.hlabs.2.1 k hk])) (by simp)) (RowAt.own1 (by simp)) (by simpa using hlim') (fun c' h' hm' hd=>?_)
                     obtain⟨hbl,fa',s6,t1,t2,t3,t4,t5,t6,t7,t8⟩:=fin _ _ [] hs3 (fun h' _=>hT2 h') (by simp) List.nodup_nil c' h' hm' hd
                     simp[hn,h0,hbl]
                     exact CutK.of ⟨by simp[h84],by simp[h85],by simp[h86],c',fa',_,_,by simp[hn],by simp[h0],by simp[h5],by simp[h7],ht1,hc1,by simp[hf1];rfl,s6,t1,t2,t3,t4,t5,t6,t7,t8⟩
                    ·have hs3:Same h2 ((h2.setBox (h2.ep,16 * 108) [.d (.str step.other),pc,.d (.str S.fks[k].ref)]).next) []:=(Same.refl.setBox (.inr (Nat.le_refl _))).next
                     simp[hn]
                     refine app_mr2 (by simp;exact⟨rfl,rfl⟩) (by simp) (by simp) (by simp) (mz.frame fun k hk=>(hs2.trans hs3).2 k (sz.lt k (by simp[sz.hlabs.2.1 k hk])) (by simp)) (RowAt.new1 (x:=[.d (.str step.other),pc,.d (.str S.fks[k].ref)]) (by simp) (by simp)) (by simpa using hlim') (fun c' h' hm' hd=>?_)
                     obtain⟨hbl,fa',s6,t1,t2,t3,t4,t5,t6,t7,t8⟩:=fin _ _ (labs pc) hs3 (fun h' hb'=>hoF.frame hb') (fun _ h=>h) labs_nodup c' h' hm' hd
                     simp[hn,h0,hbl]
                     exact CutK.of ⟨by simp[h84],by simp[h85],by simp[h86],c',fa',_,_,by simp[hn],by simp[h0],by simp[h5],by simp[h7],ht1,hc1,by simp[hf1];rfl,s6,t1,t2,t3,t4,t5,t6,t7,t8⟩
                   ·rintro e h2 ⟨h84,h85,h86,hp⟩
                    have hn:=hp
                    obtain⟨_,_,_,_,hn,h0,h5,h7,-⟩:=hn
                    simp[hn,h86,hw]
                    obtain⟨fc2,fa2,ad2,xs2,-,-,-,-,q⟩:=hp
                    exact BackF.of _ ⟨⟨by simp[h84],by simp[h85],by simp,fc2,fa2,ad2,xs2,by simp[hn],by simp[h0],by simp[h5],by simp[h7],q⟩,hm⟩
                ·rintro S1 e h1 ⟨h84,h85,h86,fc1,fa1,ad,xs,hn,h0,h5,h7,ht1,hc1,hf1,s1,hfa1,hs1',bx51,bx71,bxl1,hep1,mx,ox⟩ hm
                 have hb1:=s1.box
                 simp[hn,h0,h85,h86,hb1]
                 refine lenK_clen s1.len.2.2.1 ?_
                 rw[hc1]
                 simp[hn]
                 obtain⟨yo,myo,hlo,-⟩:=s1.addO
                 rw[hc1] at hlo
                 refine Wait.for (xs:=S.cons) (s0:=S1) (fun k S2 e h2=>e.get 116=.one oc∧e.get 117=.one (.d (.int .i64 (S.cons.length:Int)))∧e.get 118=.one (.d (.int .i64 (k:Int)))∧PartJ h l (.mrow lt 0 S.tables.length cap) fc1 oc ta fa fa1 oa S (stpC step x6 x12 x13 x22) [C.d (D.str T.name),.mrow l2 0 T.cols.length cap2,c2] B lt S2 e h2) hm
                  ⟨by simp,by simp,by simp,oc,oa,[],yo,by simp[hn],by simp[h0],by simp[h5],by simp[h7],ht1,by simp[hc1],s1,fun k hk=>.inl hk,hs1',bx51,bx71,bxl1,hep1,myo,hlo ▸ Old.init myo (fun k hk=>s1.lt k (by simp[s.hlabs.2.2 k hk]))⟩ ?_ ?_
                 ·rintro k S2 e h2 ⟨h116,h117,h118,oc1,oa1,ad,xs,hn,h0,h5,h7,ht2,hc2,s2,hoa1,hs2',bx52,bx72,bxl2,hep2,mx,ox⟩ hltk hm
                  have hw:IntKind.i64.wrap ((k:Int)+1)=(k:Int)+1:=IntWalk.i64_in _ (by have:=s5.len.2.2.2;simp at this;omega)
                  obtain⟨l0,cap0,B0,x,rfl,hl0,hb0,hx,hr0⟩:=ox k hltk
                  have hck:S2.cons[k]?=some S.cons[k]:=by rw[hc2,List.getElem?_append_left hltk,List.getElem?_eq_getElem hltk]
                  obtain⟨lf,cf,Bf,rfl,hlf,el,-⟩:=s2.con hck
                  obtain rfl:x=S.cons[k].enc.map C.d:=by
                   obtain⟨lf',cf',Bf',e2,hb2,ht2⟩:=mx.at hx
                   simp at e2
                   obtain⟨rfl,-,-⟩:=e2
                   have e3:=el.box
                   rw[hb2] at e3
                   cases e3
                   have e4:=el.rd0 7 (by omega)
                   rw[ht2] at e4
                   simpa using e4
                  simp only[Cons.enc,List.map_cons,List.map_nil] at hr0
                  have hn5:=ne_new (l:=(h.ep,80)) (n:=h2.ep) (by simp;omega)
                  have hn7:=ne_new (l:=(h.ep+1,112)) (n:=h2.ep) (by simpa using hep2)
                  simp only[m_partO] at hm
                  simp[hn,h0,h5,h7,h116,h117,h118,hltk,hb0,hr0,bx72,hn7]
                  cases hbt:strEq S.cons[k].table T.name with
                  | false=>
                    simp only[hbt,cond_false] at hm
                    have hz:Same h2 ((h2.setBox (h2.ep,288) [C.d (D.str ByteArray.empty),C.d (D.int IntKind.i64 0),C.d (D.str ByteArray.empty),C.d (D.int IntKind.i64 0),C.d (D.int IntKind.i64 0),C.d (D.int IntKind.i64 0),C.d (D.str ByteArray.empty)]).next.setBox (h2.ep,288) (S.cons[k].enc.map C.d)) []:=((Same.refl.setBox (.inr (Nat.le_refl _))).next).setBox (.inr (Nat.le_refl _))
                    have sz:=s2.frame hz
                    have oz:=ox.frame hz
                    have mz:=mx.frame (h':=(h2.setBox (h2.ep,288) [C.d (D.str ByteArray.empty),C.d (D.int IntKind.i64 0),C.d (D.str ByteArray.empty),C.d (D.int IntKind.i64 0),C.d (D.int IntKind.i64 0),C.d (D.int IntKind.i64 0),C.d (D.str ByteArray.empty)]).next.setBox (h2.ep,288) (S.cons[k].enc.map C.d)) fun k hk=>hz.2 k (s2.lt k (by simp[s2.hlabs.2.2 k hk])) (by simp)
                    have bz5:=(hz.2 (h.ep,80) (by simp;omega) (by simp)).trans bx52
                    have bz7:=(hz.2 (h.ep+1,112) (by simpa using hep2) (by simp)).trans bx72
                    have bzl:=(hz.2 lt (s2.lt lt (by simp[tv.tm])) (by simp)).trans bxl2
                    have hez:=hz.1
                    simp only[Cons.enc,List.map_cons,List.map_nil] at hz sz oz mz bz5 bz7 bzl hez
                    simp[hbt,hn,h118,hw]
                    exact BackF.of S2 ⟨⟨by simp[h116],by simp[h117],by simp,_,oa1,ad,xs,by simp[hn],by simp[h0],by simp[h5],by simp[h7],ht2,hc2,sz,hoa1,hs2'.trans (hz.mono (by simp)),bz5,bz7,bzl,by omega,mz,oz⟩,hm⟩
                  | true=>
                    simp only[hbt,cond_true] at hm
                    replace hm:=hm.chk
                    obtain⟨hlim,hm⟩:=hm
                    simp (maxDischargeDepth:=12) [hbt,hn,h5,hn5,bx52,e2',le_s]
                    have hz:Same h2 (((h2.setBox (h2.ep,288) [C.d (D.str ByteArray.empty),C.d (D.int IntKind.i64 0),C.d (D.str ByteArray.empty),C.d (D.int IntKind.i64 0),C.d (D.int IntKind.i64 0),C.d (D.int IntKind.i64 0),C.d (D.str ByteArray.empty)]).next.setBox (h2.ep,288) [C.d (D.str S.cons[k].table),C.d (D.int IntKind.i64 S.cons[k].left),C.d (D.str S.cons[k].op),C.d (D.int IntKind.i64 S.cons[k].right),C.d (D.int IntKind.i64 S.cons[k].value.kind),C.d (D.int IntKind.i64 S.cons[k].value.int),C.d (D.str S.cons[k].value.text)]).setBox (h2.ep,288) [C.d (D.str step.other),C.d (D.int IntKind.i64 S.cons[k].left),C.d (D.str S.cons[k].op),C.d (D.int IntKind.i64 S.cons[k].right),C.d (D.int IntKind.i64 S.cons[k].value.kind),C.d (D.int IntKind.i64 S.cons[k].value.int),C.d (D.str S.cons[k].value.text)]) []:=(((Same.refl.setBox (.inr (Nat.le_refl _))).next).setBox (.inr (Nat.le_refl _))).setBox (.inr (Nat.le_refl _))
                    generalize hX3:(((h2.setBox (h2.ep,288) [C.d (D.str ByteArray.empty),C.d (D.int IntKind.i64 0),C.d (D.str ByteArray.empty),C.d (D.int IntKind.i64 0),C.d (D.int IntKind.i64 0),C.d (D.int IntKind.i64 0),C.d (D.str ByteArray.empty)]).next.setBox (h2.ep,288) [C.d (D.str S.cons[k].table),C.d (D.int IntKind.i64 S.cons[k].left),C.d (D.str S.cons[k].op),C.d (D.int IntKind.i64 S.cons[k].right),C.d (D.int IntKind.i64 S.cons[k].value.kind),C.d (D.int IntKind.i64 S.cons[k].value.int),C.d (D.str S.cons[k].value.text)]).setBox (h2.ep,288) [C.d (D.str step.other),C.d (D.int IntKind.i64 S.cons[k].left),C.d (D.str S.cons[k].op),C.d (D.int IntKind.i64 S.cons[k].right),C.d (D.int IntKind.i64 S.cons[k].value.kind),C.d (D.int IntKind.i64 S.cons[k].value.int),C.d (D.str S.cons[k].value.text)])=HZ at hz ⊢
                    have bz18:HZ.box (h2.ep,288)=some [C.d (D.str step.other),C.d (D.int IntKind.i64 S.cons[k].left),C.d (D.str S.cons[k].op),C.d (D.int IntKind.i64 S.cons[k].right),C.d (D.int IntKind.i64 S.cons[k].value.kind),C.d (D.int IntKind.i64 S.cons[k].value.int),C.d (D.str S.cons[k].value.text)]:=by rw[← hX3];simp
                    have sz:=s2.frame hz
                    have hbz:=sz.box
                    refine Wait.cut (Plan.then_ [0,1,2,3,4,5,6,7,8,9,10] .done) follows (by kernel_rfl) (fun e h3=>e.get 116=.one (.mrow l0 0 S.cons.length cap0)∧e.get 117=.one (.d (.int .i64 (S.cons.length:Int)))∧e.get 118=.one (.d (.int .i64 (k:Int)))∧PartJ h l (.mrow lt 0 S.tables.length cap) fc1 (.mrow l0 0 S.cons.length cap0) ta fa fa1 oa S (stpC step x6 x12 x13 x22) [C.d (D.str T.name),.mrow l2 0 T.cols.length cap2,c2] B lt { S2 with cons:=S2.cons++[{ S.cons[k] with table:=step.other }] } e h3) ?_ ?_
                    ·simp[hn,h0,hbz,bz18,Plan.then_,vcPlan,planOps,isCallAt,callKind]
                     have hs3:Same HZ ((HZ.setArr (HZ.ep,16 * 136) (some (1,7))).next) []:=Same.refl.setArr.next
                     simp only[Nat.reduceMul] at hs3
                     have hz3:=hz.trans hs3
                     have s3:=s2.frame hz3
                     obtain⟨ys,my,hly,add⟩:=s3.addO
                     have m3:=mx.frame fun k hk=>hz3.2 k (s2.lt k (by simp[s2.hlabs.2.2 k hk])) (by simp)
                     obtain rfl:=my.uniq m3
                     have hlim':ys.length+1≤LIM:=by rw[hly];exact hlim
                     refine app_mr2 (by simp;exact⟨rfl,rfl⟩) (by simp) (by simp) (by simp) my (RowAt.own1 (by simp)) (by simpa using hlim') (fun c' h' hm' hd=>?_)
                     have hd1:Same _ h' (labs (.mrow lf 0 S2.cons.length cf)):=hd.elim (fun h=>h.1) fun h=>h.1.mono (by simp)
                     have hd2:∀ k ∈ labs c',k ∈ labs (.mrow lf 0 S2.cons.length cf)∨(h2.ep≤k.1∧k.1 < h'.ep):=fun k hk=>hd.elim (fun h=>.inl (h.2 ▸ hk)) fun h=>.inr ⟨Nat.le_trans hz3.1 (h.2 k hk).1,(h.2 k hk).2⟩
                     have hd3:∀ k ∈ labs c',k ∈ labs (.mrow lf 0 S2.cons.length cf)∨(_≤k.1∧k.1 < h'.ep):=fun k hk=>hd.elim (fun h=>.inl (h.2 ▸ hk)) fun h=>.inr (h.2 k hk)
                     have hlf':∀ k ∈ labs (.mrow lf 0 S2.cons.length cf),k=lf:=fun k hk=>by simpa[labs] using hk
                     have hep3:=hz3.1
                     have hep3':=hd1.1
                     have hbl:=s3.keep hd1 fun k hk=>.inr (.inr (s3.hlabs.2.2 k hk))
                     obtain⟨oa',s6,hoa'⟩:=add h' c' { S.cons[k] with table:=step.other } (by simpa using hm') hd1 hd3
                     have hkeep:∀ k:Lab,k.1 < h2.ep→k≠lf→k≠l→(h'.setBox l [.mrow lt 0 S.tables.length cap,fc1,c']).box k=h2.box k:=fun k h1' h2' h3'=>by
                      simp only[setBox_box,h3',if_false]
                      rw[hd1.2 k (by omega) fun h4'=>h2' (hlf' k h4'),hz3.2 k h1' (by simp)]
                     have hnl:∀ k ∈ labs c',k≠l:=fun k hk he=>by
                      rcases hd2 k hk with h1' | h1'
                      ·have:=hlf' k h1';subst this;subst he;exact s2.nl.2.2 hlf
                      ·have:=s2.lt l (by simp);rw[← he] at this;omega
                     have hne5:((h.ep,80):Lab)≠lf∧((h.ep,80):Lab)≠l:=⟨fun he=>by
                      rcases hoa1 lf hlf with h1' | h1'
                      ·have:=s.lt lf (by simp[h1']);rw[← he] at this;simp at this
                      ·rw[← he] at h1';have h1'':h.ep+1 < h.ep:=h1';omega,fun he=>by have:=s.lt l (by simp);rw[← he] at this;simp at this⟩
                     have hne7:((h.ep+1,112):Lab)≠lf∧((h.ep+1,112):Lab)≠l:=⟨fun he=>by
                      rcases hoa1 lf hlf with h1' | h1'
                      ·have:=s.lt lf (by simp[h1']);rw[← he] at this;simp at this;omega
                      ·rw[← he] at h1';simp at h1',fun he=>by have:=s.lt l (by simp);rw[← he] at this;simp at this;omega⟩
                     simp[hn,h0,hbl]
                     refine CutK.of ⟨by simp[h116],by simp[h117],by simp[h118],c',oa',_,_,by simp[hn],by simp[h0],by simp[h5],by simp[h7],ht2,by simp[hc2];rfl,s6,fun k hk=>?_,?_,?_,?_,?_,by simp;omega,hm'.frame fun k hk=>by simp[hnl k hk],(((ox.frame hz3).step my hm' hd).set fun k hk he=>?_)⟩
                     ·rcases hoa' k hk with h1' | h1'
                      ·exact hoa1 k h1'
                      ·exact .inr (by omega)
                     ·refine Same.setBox ((hs2'.trans (hz3.mono (by simp))).trans' hd1 fun k hk=>?_) (.inl (by simp))
                      have:=hlf' k hk
                      subst this
                      exact (hoa1 k hlf).imp (fun h1'=>by simp[h1']) fun h1'=>by omega
                     ·rw[hkeep _ (by simp;omega) hne5.1 hne5.2];exact bx52
                     ·rw[hkeep _ (by simpa using hep2) hne7.1 hne7.2];exact bx72
                     ·refine (hkeep lt (s2.lt lt (by simp[tv.tm])) (fun he=>?_) fun he=>s.nl.1 (he ▸ tv.tm)).trans bxl2
                      have h6:=s2.nd
                      simp only[List.nodup_cons,List.nodup_append,List.mem_append] at h6
                      exact h6.2.2.2 lt tv.tm lf (.inr hlf) he
                     ·simp[labs] at hk
                      subst hk
                      subst he
                      exact s.nl.2.2 (s.hlabs.2.2 _ (by simp[labs]))
                    ·rintro e h3 ⟨h116,h117,h118,hp⟩
                     have hn:=hp
                     obtain⟨_,_,_,_,hn,h0,h5,h7,-⟩:=hn
                     simp[hn,h118,hw]
                     obtain⟨fc2,fa2,ad2,xs2,-,-,-,-,q⟩:=hp
                     exact BackF.of _ ⟨⟨by simp[h116],by simp[h117],by simp,fc2,fa2,ad2,xs2,by simp[hn],by simp[h0],by simp[h5],by simp[h7],q⟩,hm⟩
                 ·rintro S2 e h2 ⟨h116,h117,h118,oc1,oa1,ad,xs,hn,h0,h5,h7,ht2,hc2,s2,hoa1,hs2',bx52,bx72,bxl2,hep2,mx,ox⟩ hm
                  replace hm:=hm.bind
                  obtain⟨S3,hm3,hm⟩:=hm
                  have e1:=r_ret hm
                  simp only[Prod.mk.injEq] at e1
                  obtain⟨rfl,rfl⟩:=e1
                  simp[hn,h7,h117,h118,bx72]
                  have hi2:S2.tables[i]?=some T:=by rw[ht2];exact hi
                  have hfT:∀ h',Same h2 h' []→FrzCs h' [C.d (D.str T.name),.mrow l2 0 T.cols.length cap2,c2] T.enc:=by
                   obtain⟨a1,a2,tv9⟩:=s2.tblK bxl2 hi2
                   obtain⟨rfl,rfl⟩:a1=.mrow l2 0 T.cols.length cap2∧a2=c2:=by
                    have:=tv9.el.rd0 3 (by omega)
                    rw[r0] at this
                    simp at this
                    exact⟨this.1.symm,this.2.symm⟩
                   exact fun h' hs=>⟨.data rfl,tv9.f1 h' hs,tv9.f2 h' hs,trivial⟩
                  refine callK_heap (h_schema_CloneTable _ _ T hfT ⟨tv.n1.2,tv.n2.2⟩ _ ?_)
                  intro cs' h6 ls' hOw hnd' hnew hs6 hbox6
                  obtain⟨y1,y2,rfl⟩:∃ y1 y2,cs'=[C.d (D.str T.name),y1,y2]:=by
                   have h9:=hOw.len.1
                   match cs',h9,hOw with
                   | [a,b,c],_,hO=>obtain rfl:=hO.frz.1.flat rfl;exact⟨b,c,rfl⟩
                  have s6:=s2.frame hs6
                  have hep6:=hs6.1
                  have bx56:h6.box (h.ep,80)=some (stpC step x6 x12 x13 x22):=by rw[hs6.2 _ (by simp;omega) (by simp)];exact bx52
                  have hn6:=ne_new (l:=(h.ep,80)) (n:=h6.ep) (by simp;omega)
                  simp (maxDischargeDepth:=12) [hn,h0,h5,bx56,hn6,e2',le_s]
                  have hz:Same h6 (((h6.setBox (h6.ep,304) [C.d (D.str ByteArray.empty),C.nil,C.nil]).next.setBox (h6.ep,304) [C.d (D.str T.name),y1,y2]).setBox (h6.ep,304) [C.d (D.str step.other),y1,y2]) []:=((Same.refl.setBox (.inr (Nat.le_refl _))).next.setBox (.inr (Nat.le_refl _))).setBox (.inr (Nat.le_refl _))
                  have hT7:=hOw.frame (h':=(((h6.setBox (h6.ep,304) [C.d (D.str ByteArray.empty),C.nil,C.nil]).next.setBox (h6.ep,304) [C.d (D.str T.name),y1,y2]).setBox (h6.ep,304) [C.d (D.str step.other),y1,y2])) fun k hk=>hz.2 k (hnew k hk).2 (by simp)
                  have hT8:Ow (((h6.setBox (h6.ep,304) [C.d (D.str ByteArray.empty),C.nil,C.nil]).next.setBox (h6.ep,304) [C.d (D.str T.name),y1,y2]).setBox (h6.ep,304) [C.d (D.str step.other),y1,y2]) TblSh [C.d (D.str step.other),y1,y2] ({ T with name:=step.other }:Tbl).enc ls':=by
                   obtain⟨_,_,_,_,e1,e2,e3,h8⟩:=hT7.inv_d
                   simp only[Tbl.enc,List.cons.injEq] at e1 e2
                   obtain⟨rfl,rfl⟩:=e1
                   obtain⟨rfl,rfl⟩:=e2
                   exact .data rfl h8
                  have hez:=hz.1
                  refine callK_heap (h_evolution_insertTable _ l _ fc1 oc1 ta fa1 oa1 ls' S2 S3 _ _ hm3 (s6.frame hz) hT8 ⟨hnd',fun k hk=>⟨by have:=(hnew k hk).2;omega,fun h2'=>by have:=s2.lt k h2';have:=(hnew k hk).1;omega⟩⟩ _ (fun h7 tc' ta' s7 hs7 hta7=>?_))
                  simp[hn]
                  have hall:Same h (((h6.setBox (h6.ep,304) [C.d (D.str ByteArray.empty),C.nil,C.nil]).next.setBox (h6.ep,304) [C.d (D.str T.name),y1,y2]).setBox (h6.ep,304) [C.d (D.str step.other),y1,y2]) (l::(ta++(fa++oa))):=hs2'.trans ((hs6.trans hz).mono (by simp))
                  refine hk _ _ s7.ows (hall.trans (hs7.mono fun k hk=>by simp only[List.mem_cons,List.mem_append] at hk ⊢;exact hk.imp_right .inl)) fun k hk=>?_
                  simp only[List.mem_append] at hk ⊢
                  rcases hk with hk | hk | hk
                  ·rcases hta7 k hk with h1' | h1' | h1'
                   ·exact .inl (.inl h1')
                   ·have:=(hnew k h1').1;exact .inr (by omega)
                   ·exact .inr (Nat.le_trans hall.1 h1')
                  ·exact (hfa1 k hk).imp (fun h=>.inr (.inl h)) fun h=>by omega
                  ·exact (hoa1 k hk).imp (fun h=>.inr (.inr h)) fun h=>by omega
end Go.Proofs.YthgepknlibmjcaaGreat
end
section
namespace Go.Proofs.YthgepknlibmjcaaGreat
open Go.Am
def m_evolution_sequence (n:Int):Option ((List Int)):=
 (countK (fun (i1:Nat) (s1:(List Int)) next_1=>(appK2 s1 [(i1:Int)] fun _=>(chkK (okI ((i1:Int)+1)) (next_1 (s1++[(i1:Int)]))))) (fun (s1:(List Int))=>(some s1)) (Int.toNat n) 0 [])
theorem c_evolution_sequence (n:Int) (r:(List Int)) (hm:Is (m_evolution_sequence n) r):PSpec Tryz.prog 183 [.one (.d (.int .i64 n))] (.one (.d (.sl (r.map encI)))):=by
 unfold m_evolution_sequence at hm
 refine PSpec.of_vc Tryz.func183 rfl (by kernel_rfl) (n:=15) rfl rfl (by simp) ?_
 try simp[*]
 refine Wait.count (N:=n) (s0:=[]) (fun i1 s1 e1 h1=>∃ c1_0:C,e1.n=15∧e1.get 3=.one c1_0∧e1.get 5=.one (.d (.int .i64 n))∧e1.get 6=.one (.d (.int .i64 (i1:Int)))∧Grows h1 1 c1_0 (s1.map encI)) hm ⟨.nil,by simp (maxDischargeDepth:=20) [*]⟩ ?_ ?_
 ·rintro i1 s1 e1 h1 ⟨c1_0,hn1,h1_3,h1_5,h1_6,gc1_0⟩ hlt1 hm
  have hlc1_0:=gc1_0.list
  have hdc1_0:=gc1_0.toD
  have hac1_0:=gc1_0.toA
  have huc1_0:=gc1_0.useUp_arr
  try simp[*]
  try (refine condV_dec (fun _=>?_) (fun hn=>(hn (by first | omega | (simp at hlt1 ⊢;omega) | (simp at hlt1 ⊢;split at hlt1<;>split<;>omega))).elim);simp[*])
  refine r_app (xs:=s1) (ys:=[(i1:Int)]) (enc:=encI) hm ty_el30 (by first | exact Grows.nil | (simp (maxDischargeDepth:=20) [*];done) | (simp (maxDischargeDepth:=20) [*];refine⟨?_,by omega⟩;intro hq;subst hq;simp at hz2<;>omega)) (by simp[*]) (by decide) (by decide) (fun _=>rfl) ?_
  clear hm;intro hl3 hm g2
  try simp[*]
  replace hm:=hm.chk
  obtain⟨hw4,hm⟩:=hm
  replace hw4:=wrap_ok hw4
  try simp[*]
  exact BackF.of (s1++[(i1:Int)]) ⟨⟨.own (h1.ep+1,192) ((s1++[(i1:Int)]).map encI),by simp (maxDischargeDepth:=20) [*]⟩,hm⟩
 ·rintro i1 s1 e1 h1 ⟨c1_0,hn1,h1_3,h1_5,h1_6,gc1_0⟩ hge1 hm
  have hlc1_0:=gc1_0.list
  have hdc1_0:=gc1_0.toD
  have hac1_0:=gc1_0.toA
  have huc1_0:=gc1_0.useUp_arr
  try simp[*]
  try (refine condV_dec (fun hn=>((by first | omega | (simp at hge1 hn;omega) | (simp at hge1 hn;split at hge1<;>split at hn<;>omega)):False).elim) (fun _=>?_);simp[*])
  obtain rfl:=r_ret hm
  exact ret0 (vs:=[_]) (by simp[*];try exact rfl) (by simp[*])
end Go.Proofs.YthgepknlibmjcaaGreat
end
section
namespace Go.Proofs.YthgepknlibmjcaaGreat
open Go Go.Am
theorem h_evolution_dropForeignKey' (h:HS) (l:Lab) (tc fc oc:C) (ta fa oa:List Lab) (S S':Sch) (c:Fk) (cs:List C) (r:Int) (hm:Is (m_evolution_dropForeignKey S c) (S',r)) (ho:Sc h l S tc fc oc ta fa oa) (hf:∀ h',Same h h' []→FrzCs h' cs c.enc) (K:V→HS→Prop) (hk:∀ h' fc' fa',Sc h' l S' tc fc' oc ta fa' oa→Same h h' (l::fa)→(∀ k ∈ fa',k ∈ fa)→K (.one (.d (.int .i64 r))) h') :
  HSpec Tryz.prog 162 [.one (.ptr l 0),.agg cs] h K:=by
 obtain⟨qt,qf,qo,rfl,rfl,rfl,s⟩:=ho
 obtain⟨k,hk1,hm⟩:=hm.bind
 obtain⟨a1,a2,a3,rfl⟩:∃ a b d,cs=[a,b,d]:=by
  have:=(hf h .refl).get.1
  match cs,this with
  | [a,b,d],_=>exact⟨a,b,d,rfl⟩
 refine HSpec.of_vc Tryz.func162 rfl (by kernel_rfl) (n:=25) rfl rfl (by simp) ?_
 simp
 have hsame:Same h ((h.setBox (h.ep,48) [a1,a2,a3]).next) []:=(Same.refl.setBox (.inr (Nat.le_refl _))).next
 have s1:=s.frame hsame
 have hb1:=s1.box
 simp at hb1
 simp[hb1]
 refine callK_heap (HSpec.of_lend (c_slices_IndexFunc_Foreignkey S.fks 175 [c.enc] (fun o=>m_evolution_dropForeignKey_1 o c) (fun xa v hv=>c_evolution_dropForeignKey_1 xa c v hv) k hk1) ⟨.one (.frz s1.f.frz),.one (.fn rfl ?_),trivial⟩ rfl ?_)
 ·intro i cp ds hi hd
  cases i with
  | zero=>
    simp at hi hd
    subst hi hd
    exact⟨_,by simp,hf _ hsame⟩
  | succ i=>simp at hi
 ·have hs2:Same h (((h.setBox (h.ep,48) [a1,a2,a3]).next).next) []:=hsame.next
  have s2:=s.frame hs2
  simp
  have hb2:=s2.box
  simp at hb2
  refine condV_dec (fun hlt=>?_) (fun hge=>?_)
  ·rw[if_pos hlt] at hm
   have e1:=r_ret hm
   simp only[Prod.mk.injEq] at e1
   obtain⟨rfl,rfl⟩:=e1
   simp
   exact hk _ _ _ ⟨_,_,_,rfl,rfl,rfl,s2⟩ (hs2.mono (by simp)) (fun _ h=>h)
  ·rw[if_neg hge] at hm
   obtain⟨hkl,hm⟩:=hm.chk
   have e1:=r_ret hm
   simp only[Prod.mk.injEq] at e1
   obtain⟨rfl,rfl⟩:=e1
   obtain⟨i,rfl⟩:∃ i:Nat,k=i:=⟨k.toNat,by omega⟩
   have hql:qf.length=S.fks.length:=by have:=congrArg List.length s2.f.ds;simpa using this
   have hql2:=s2.f.mr.2.1
   have hw:IntKind.i64.wrap ((i:Int)+1)=((i+1:Nat):Int):=by
    exact IntWalk.i64_in _ (by simp at hql2;omega)
   simp[hb2,hw]
   refine callK_heap (h_slices_Delete_Foreignkey _ fc (qf.map (·.1)) i (i+1) s2.f.mr (by omega) (by simp;omega) _ (fun c' h2 hm2 hs3 hep harr hlab=>?_))
   have hbl:h2.box l=some [tc,fc,oc]:=by rw[hs3 l (fun hm=>s2.ne.2.1 (by simp[plabs,hm])),s2.box]
   simp[hbl]
   have hsub:(qf.take i++qf.drop (i+1)).Sublist qf:=del_sub (by omega)
   have hpl:=plabs_sub (c:=fc) (c':=c') hsub hlab
   have hp:=s2.f.sub (h2:=h2.setBox l [tc,c',oc]) (c':=c') (qs':=qf.take i++qf.drop (i+1)) (fun q hq=>hsub.subset hq) ?_ s2.nds.2.1 ?_
   ·have hp2:Part (h2.setBox l [tc,c',oc]) FkSh c' (qf.take i++qf.drop (i+1)) ((S.fks.take i++S.fks.drop (i+1)).map Fk.enc):=by
     have:=s2.f.ds
     rw[List.map_append,List.map_take,List.map_drop,← this]
     simpa using hp
    have hs4:Same ((h.setBox (h.ep,48) [a1,a2,a3]).next).next (h2.setBox l [tc,c',oc]) (l::plabs fc qf):=by
     refine⟨by rw[setBox_ep,hep];exact Nat.le_refl _,fun k hk hn=>?_⟩
     simp only[List.mem_cons,plabs,List.mem_append,not_or] at hn
     rw[← hs3 k hn.2.1]
     simp[hn.1]
    have s3:=s2.setF (by simp) hp2 hs4 (hpl.nodup s2.nds.2.1) (fun k hk=>.inl (hpl.subset hk))
    exact hk _ _ _ ⟨_,_,_,rfl,rfl,rfl,s3⟩ ((hs2.mono (by simp)).trans hs4) (fun k hk=>hpl.subset hk)
   ·have hl2:l ∉ labs c':=fun hm=>s2.ne.2.1 (by rw[hlab] at hm;simp[plabs,hm])
    refine MR.frame (h:=h2) (by simpa[FkSh] using hm2) (fun k hk=>?_)
    have:k≠l:=fun he=>hl2 (he ▸ hk)
    simp[this]
   ·rintro k hk1 ⟨q,hq,hk2⟩
    have:k≠l:=fun he=>s2.ne.2.1 (by
     simp only[plabs,List.mem_append,List.mem_flatMap]
     exact .inr ⟨q,hq,he ▸ hk2⟩)
    rw[← hs3 k hk1]
    simp[this]
def seqI (n:Nat):List Int:=(List.range n).map fun (i:Nat)=>(i:Int)
theorem h_evolution_sequence (h:HS) (n:Nat) (hn0:n≤LIM) (K:V→HS→Prop)
  (hk:∀ c' h',MR h' 1 c' ((seqI n).map fun c=>(encI c).map C.d)→Same h h' []→(∀ l ∈ labs c',h.ep≤l.1∧l.1 < h'.ep)→BoxLe h h'→K (.one c') h') :
  HSpec Tryz.prog 183 [.one (.d (.int .i64 (n:Int)))] h K:=by
 refine HSpec.good Tryz.func183 rfl (by kernel_rfl) fun hg=>?_
 refine HSpec.of_vc Tryz.func183 rfl (by kernel_rfl) (n:=15) rfl rfl (by simp) ?_
 have hn1:n≤2097152:=hn0
 simp
 refine Wait.for (xs:=List.range n) (s0:=()) (k:=fun _=>some ()) (body:=fun _ _ s next=>next s) (r:=()) (fun k _ e h1=>∃ ch,e.n=15∧e.get 3=.one ch∧e.get 5=.one (.d (.int .i64 (n:Int)))∧e.get 6=.one (.d (.int .i64 (k:Int)))∧MR h1 1 ch ((seqI k).map fun c=>(encI c).map C.d)∧Same h h1 []∧(∀ l ∈ labs ch,h.ep≤l.1∧l.1 < h1.ep)) ?_ ⟨.nil,by simp,by simp,by simp,by simp,by simpa[seqI] using MR.nil,.refl,by simp[labs]⟩ ?_ ?_
 ·have:∀ (xs:List Nat) (i:Nat),forK (ρ:=Unit) (fun _ (_:Nat) (s:Unit) next=>next s) (fun _=>some ()) xs i ()=some ():=fun xs=>by
   induction xs with
   | nil=>intro i;rfl
   | cons x xs ih=>intro i;exact ih (i+1)
  exact this _ _
 ·rintro k _ e h1 ⟨ch,hn,h3,h5,h6,mh,hs1,lh⟩ hlt hm
  simp at hlt
  have hw:IntKind.i64.wrap ((k:Int)+1)=(k:Int)+1:=IntWalk.i64_in _ (by omega)
  simp[hn,h3,h5,h6,hlt]
  have hz:Same h1 ((h1.setArr (h1.ep,16 * 11) (some (1,1))).next) []:=Same.refl.setArr.next
  simp only[Nat.reduceMul] at hz
  refine app_mr (by simp;exact⟨rfl,rfl⟩) (by simp) (by simp) (by simp) (mh.frame fun k hk=>hz.2 k (lh k hk).2 (by simp)) (RowAt.own1 (by simp)) (by simp[seqI];omega) (fun c' h' hm' hs3 hl3=>?_)
  have hep1:=hz.1
  have hep2:=hs3.1
  simp[hn,h6,hw]
  refine BackF.of _ ⟨⟨c',by simp[hn],by simp,by simp[h5],by simp,?_,(hs1.trans hz).trans' hs3 (fun k hk=>.inr (lh k hk).1),fun l hl=>?_⟩,hm⟩
  ·simpa[seqI,List.range_succ] using hm'
  ·rcases hl3 l hl with h2 | h2
   ·have:=lh l h2;omega
   ·have:=hs1.1;omega
 ·rintro _ e h1 ⟨ch,hn,h3,h5,h6,mh,hs1,lh⟩ hm
  simp at h6 mh
  simp[hn,h3,h5,h6]
  refine hk ch h1 (by simpa using mh) hs1 lh (hs1.boxLe hg)
end Go.Proofs.YthgepknlibmjcaaGreat
end
