/- joined by a program out of 96 texts -/
import Derived.Test.YthiojhcimecdgaaGreatDoorM5
set_option linter.unusedVariables false
set_option linter.unusedSimpArgs false
set_option maxRecDepth 20000
namespace Go.Proofs.YthiojhcimecdgaaGreatDoor
section
open Go Go.Am
def schOK (S:Sch):Prop:=(S.tables.length≤LIM∧S.fks.length≤LIM∧S.cons.length≤LIM)∧(∀ T ∈ S.tables,T.cols.length≤LIM∧T.pk.length≤LIM)∧∀ f ∈ S.fks,f.cols.length≤LIM
instance (S:Sch):Decidable (schOK S):=inferInstanceAs (Decidable (_∧_∧_))
def stpOK (x:Stp):Prop:=x.cols.length≤LIM∧x.newTable.cols.length≤LIM∧x.newTable.pk.length≤LIM∧x.fk.cols.length≤LIM
instance (x:Stp):Decidable (stpOK x):=inferInstanceAs (Decidable (_∧_))
def NewSch (h:HS) (S:Sch) (K:V→HS→Prop):Prop:=∀ tc fc oc qt qf qo h',Part h' TblSh tc qt (S.tables.map Tbl.enc)→Part h' FkSh fc qf (S.fks.map Fk.enc)→Part h' ConSh oc qo (S.cons.map Cons.enc)→(plabs tc qt++(plabs fc qf++plabs oc qo)).Nodup →
 (∀ k ∈ plabs tc qt++(plabs fc qf++plabs oc qo),h.ep≤k.1∧k.1 < h'.ep)→Same h h' []→K (.agg [tc,fc,oc]) h'
theorem Zc2 (h:HS) (x:Stp) (hl:stpOK x) (K:V→HS→Prop) (hk:NewOw h StpSh x.enc K) :
  HSpec Tryz.prog 137 [.agg (x.enc.map C.d)] h K:=by
 refine HSpec.good Tryz.func137 rfl (by kernel_rfl) fun hg=>?_;refine HSpec.of_vc Tryz.func137 rfl (by kernel_rfl) (n:=18) rfl rfl (by simp) ?_;obtain⟨l1,l2,l3,l4⟩:=hl;simp;refine Z02 (Z2t _ _ _ (RowAt.data (n:=1) (ts:=x.cols.map encI) (by simp) (by simpa using l1)) _ (fun c6 g1 m6 hs1 hl1 hb1=>?_));have hz0:Same h (((h.setBox (h.ep,16) (x.enc.map C.d)).next.setBox (h.ep+1,32) [C.d (D.int IntKind.i64 0),C.d (D.str ByteArray.empty),C.d (D.str ByteArray.empty),C.d (D.str ByteArray.empty),C.d (D.str ByteArray.empty),C.d (D.int IntKind.i64 0),C.nil,C.d (D.str ByteArray.empty),C.d (D.int IntKind.i64 0),C.d (D.int IntKind.i64 0),C.d (D.str ByteArray.empty),C.d (D.str ByteArray.empty),C.nil,C.nil,C.d (D.str ByteArray.empty),C.d (D.int IntKind.i64 0),C.d (D.str ByteArray.empty),C.d (D.int IntKind.i64 0),C.d (D.int IntKind.i64 0),C.d (D.int IntKind.i64 0),C.d (D.str ByteArray.empty),C.d (D.str ByteArray.empty),C.nil,C.d (D.str ByteArray.empty)]).next) []:=(((Same.refl.setBox (.inr (Nat.le_refl _))).next.setBox (.inr (by simp))).next);have hs1':=hs1.1;have b1:=hb1 (h.ep,16) _ (by simp;rfl);have b2:=hb1 (h.ep+1,32) _ (by simp;rfl);simp only[Stp.enc,List.map_cons,List.map_nil] at hz0;have hy1:=hz0.trans hs1;simp at hl1 hs1';simp[b1];refine Z02 (Z5p _ (x.newTable.enc.map C.d) x.newTable (fun h' _=>FrzCs.datas (ds:=x.newTable.enc)) ⟨l2,l3⟩ _ (fun cs g2 ls2 o2 nd2 nw2 hs2 hb2'=>?_));obtain⟨c12,c13,rfl⟩:∃ c12 c13,cs=[C.d (D.str x.newTable.name),c12,c13]:=by
  have h9:=o2.len.1
  match cs,h9,o2 with
  | [a,b,c],_,hO=>obtain rfl:=hO.frz.1.flat rfl;exact⟨b,c,rfl⟩
 have hs2':=hs2.1;have b12:=hb2' (h.ep,16) _ (by simp;rfl);have b22:=hb2' (h.ep+1,32) _ (by simpa using b2);have hy2:Same h g2 []:=(hy1.setBox (l:=(h.ep,16)) (.inr (by simp))).trans hs2;simp at hs2';simp[b12];refine Z02 (Z2t _ _ _ (RowAt.data (n:=1) (ts:=x.fk.cols.map encI) (by simp) (by simpa using l4)) _ (fun c22 g3 m22 hs3 hl3 hb3=>?_));have hs3':=hs3.1;have b13:=hb3 (h.ep,16) _ (by simp;rfl);have b23:=hb3 (h.ep+1,32) _ (by simpa using b22);have hy3:Same h g3 []:=(hy2.setBox (l:=(h.ep,16)) (.inr (by simp))).trans hs3;simp at hl3 hs3';simp[b13,b23,retH,resVs,resV];have hyF:=(hy3.setBox (l:=(h.ep,16)) (cs:=stpC x c6 c12 c13 c22) (.inr (by simp))).setBox (l:=(h.ep+1,32)) (cs:=stpC x c6 c12 c13 c22) (.inr (by simp));have k3:∀ k:Lab,h.ep+2≤k.1→((g3.setBox (h.ep,16) (stpC x c6 c12 c13 c22)).setBox (h.ep+1,32) (stpC x c6 c12 c13 c22)).box k=g3.box k:=fun k hk=>by
  have h1:k≠(h.ep,16):=fun he=>by have h9:k.1=h.ep:=by rw[he]
                                  omega
  have h2:k≠(h.ep+1,32):=fun he=>by have h9:k.1=h.ep+1:=by rw[he]
                                    omega
  simp[h1,h2]
 have k2:∀ k:Lab,h.ep+2≤k.1→k.1 < g2.ep→g3.box k=g2.box k:=fun k hk hk2=>by
  have h1:k≠(h.ep,16):=fun he=>by have h9:k.1=h.ep:=by rw[he]
                                  omega
  rw[hs3.2 k (by simpa using hk2) (by simp)];simp[h1]
 have k1:∀ k:Lab,h.ep+2≤k.1→k.1 < g1.ep→g2.box k=g1.box k:=fun k hk hk2=>by
  have h1:k≠(h.ep,16):=fun he=>by have h9:k.1=h.ep:=by rw[he]
                                  omega
  rw[hs2.2 k (by simpa using hk2) (by simp)];simp[h1]
 have e6:∀ k ∈ labs c6,h.ep+2≤k.1∧k.1 < g1.ep:=fun k hk=>by have:=hl1 k.1 k.2 hk;omega
 have e2:∀ k ∈ ls2,g1.ep≤k.1∧k.1 < g2.ep:=fun k hk=>by have:=nw2 k hk;simp at this;omega
 have e22:∀ k ∈ labs c22,g2.ep≤k.1∧k.1 < g3.ep:=fun k hk=>by have:=hl3 k.1 k.2 hk;omega
 obtain⟨_,e0,oa⟩:=o2.dcons (c:=.nil) rfl;simp at e0;subst e0;obtain⟨d1,_,la,_,e1,rfl,o12,ob⟩:=oa.split;simp at e1;obtain⟨rfl,rfl⟩:=e1;obtain⟨d2,_,lb,_,e1,rfl,o13,od⟩:=ob.split;simp at e1;obtain⟨rfl,rfl⟩:=e1;obtain⟨_,_,rfl⟩:=od.inv_nil;simp only[List.append_nil] at e2 nd2;have o6:Ow ((g3.setBox (h.ep,16) (stpC x c6 c12 c13 c22)).setBox (h.ep+1,32) (stpC x c6 c12 c13 c22)) [.r [.d]] [c6] [.sl (x.cols.map encI)] (labs c6):=Ow.nrow (n:=1) (m6.frame fun k hk=>by have:=e6 k hk;rw[k3 k (by omega),k2 k (by omega) (by omega),k1 k (by omega) (by omega)]) rfl (by simp);have o22:Ow ((g3.setBox (h.ep,16) (stpC x c6 c12 c13 c22)).setBox (h.ep+1,32) (stpC x c6 c12 c13 c22)) [.r [.d]] [c22] [.sl (x.fk.cols.map encI)] (labs c22):=Ow.nrow (n:=1) (m22.frame fun k hk=>by have:=e22 k hk;rw[k3 k (by omega)]) rfl (by simp);have o12':=o12.frame (h':=((g3.setBox (h.ep,16) (stpC x c6 c12 c13 c22)).setBox (h.ep+1,32) (stpC x c6 c12 c13 c22))) fun k hk=>by have:=e2 k (by simp[hk]);rw[k3 k (by omega),k2 k (by omega) (by omega)]
 have o13':=o13.frame (h':=((g3.setBox (h.ep,16) (stpC x c6 c12 c13 c22)).setBox (h.ep+1,32) (stpC x c6 c12 c13 c22))) fun k hk=>by have:=e2 k (by simp[hk]);rw[k3 k (by omega),k2 k (by omega) (by omega)]
 refine hk (stpC x c6 c12 c13 c22) _ _ (Ow.mkStp o6 o12' o13' o22) ?_ (fun k hk=>?_) hyF (hyF.boxLe hg)
 ·simp only[List.nodup_append,List.mem_append] at nd2 ⊢;refine⟨Z1i,⟨nd2.1,⟨nd2.2.1,Z1i,fun a ha b hb he=>?_⟩,fun a ha b hb he=>?_⟩,fun a ha b hb he=>?_⟩
  ·have t1:=e2 a (by simp[ha]);have t2:=e22 b hb;rw[← he] at t2;omega
  ·subst he;rcases hb with hb | hb
   ·exact nd2.2.2 a ha a hb rfl
   ·have:=e2 a (by simp[ha]);have:=e22 a hb;omega
  ·subst he;have h6:=e6 a ha;rcases hb with hb | hb | hb
   ·have:=e2 a (by simp[hb]);omega
   ·have:=e2 a (by simp[hb]);omega
   ·have:=e22 a hb;omega
 ·simp only[List.mem_append] at hk
  have:k.1 < g3.ep∧h.ep≤k.1:=by
   rcases hk with hk | hk | hk | hk
   ·have:=e6 k hk;omega
   ·have:=e2 k (by simp[hk]);omega
   ·have:=e2 k (by simp[hk]);omega
   ·have:=e22 k hk;omega
  simp;omega
theorem Sc.start {g:HS} {p:Lab} {oc:C} {cons:List Cons} (hb:g.box p=some [.nil,.nil,oc]) (mo:MR g 7 oc (cons.map fun c=>c.enc.map C.d)) (hp:p.1 < g.ep) (hl:∀ k ∈ labs oc,k≠p∧k.1 < g.ep):Sc g p ⟨[],[],cons⟩ .nil .nil oc [] [] (labs oc):=by
 have e:(cons.map fun c=>((c.enc.map C.d,c.enc,[]):Q)).flatMap (·.2.2)=[]:=by rw[List.flatMap_eq_nil_iff];intro q hq;obtain⟨c,_,rfl⟩:=List.mem_map.1 hq;rfl
 have pl:plabs oc (cons.map fun c=>((c.enc.map C.d,c.enc,[]):Q))=labs oc:=by rw[plabs,e,List.append_nil]
 refine⟨[],[],cons.map fun c=>(c.enc.map C.d,c.enc,[]),rfl,rfl,pl.symm,hb,⟨MR.nil,rfl,by simp⟩,⟨MR.nil,rfl,by simp⟩,⟨by simpa[ConSh,Function.comp_def] using mo,by simp[Function.comp_def],fun q hq=>?_⟩,?_,?_⟩
 ·obtain⟨c,_,rfl⟩:=List.mem_map.1 hq;exact Ow.datas (ds:=c.enc)
 ·rw[pl];simp only[plabs,labs,List.flatMap_nil,List.nil_append,List.append_nil,List.nodup_cons];exact⟨fun h=>(hl p h).1 rfl,Z1i⟩
 ·rw[pl];intro k hk;simp only[plabs,labs,List.flatMap_nil,List.nil_append,List.append_nil,List.mem_cons] at hk;rcases hk with rfl | hk
  ·exact hp
  ·exact (hl k hk).2
def ClI (h:HS) (p3:Lab) (S:Sch) (S1:Sch) (dat:List C) (e:Env) (g:HS):Prop:=∃ tc fc oc ta fa oa,e.n=46∧e.get 1=.one (.ptr (h.ep,16) 0)∧e.get 2=.one (.ptr (h.ep+1,32) 0)∧e.get 3=.one (.ptr p3 0)∧g.box (h.ep,16)=some dat∧g.box (h.ep+1,32)=some [.nil,.nil,.nil] ∧
 Sc g p3 S1 tc fc oc ta fa oa∧(∀ k ∈ ta++(fa++oa),h.ep+2≤k.1)∧h.ep+2≤p3.1∧Same h g []
set_option maxHeartbeats 1000000 in
theorem Zeh (h:HS) (S:Sch) (hS:schOK S) (K:V→HS→Prop) (hk:NewSch h S K) :
  HSpec Tryz.prog 67 [.agg (S.enc.map C.d)] h K:=by
 obtain⟨⟨l1,l2,l3⟩,l4,l5⟩:=hS;have l1':S.tables.length≤2097152:=l1;have l2':S.fks.length≤2097152:=l2;refine HSpec.of_vc Tryz.func67 rfl (by kernel_rfl) (n:=46) rfl rfl (by simp) ?_;simp;refine Z02 (Z7p _ _ _ (RowAt.data (n:=7) (ts:=S.cons.map Cons.enc) (by simp) (by simpa using l3)) _ (fun oc g1 mo hs1 hlo hb1=>?_));have hz0:Same h (((h.setBox (h.ep,16) (S.enc.map C.d)).next.setBox (h.ep+1,32) [.nil,.nil,.nil]).next) []:=(((Same.refl.setBox (.inr (Nat.le_refl _))).next.setBox (.inr (by simp))).next);have b1:=hb1 (h.ep,16) _ (by simp;rfl);have b2:=hb1 (h.ep+1,32) _ (by simp;rfl);have hs1':=hs1.1;simp only[Sch.enc,List.map_cons,List.map_nil] at hz0;have hy1:=hz0.trans hs1;simp at hs1';have hn1:=ne_new (l:=(h.ep,16)) (n:=g1.ep) (by simp<;>omega);simp (maxDischargeDepth:=12) [b1,hn1,le_s];have hz2:Same g1 ((g1.setBox (g1.ep,48) [.nil,.nil,.nil]).next.setBox (g1.ep,48) [.nil,.nil,oc]) []:=((Same.refl.setBox (.inr (Nat.le_refl _))).next).setBox (.inr (Nat.le_refl _));obtain⟨p3,hp3d⟩:∃ p:Lab,p=(g1.ep,48):=⟨_,rfl⟩;have trivF:∀ (α:Type) (xs:List α) (i:Nat),forK (ρ:=Unit) (fun _ (_:α) (s:Unit) next=>next s) (fun _=>some ()) xs i ()=some ():=fun α xs=>by
  induction xs with
  | nil=>intro i;rfl
  | cons x xs ih=>intro i;exact ih (i+1)
 intro _;have hg1:Same h ((g1.setBox (g1.ep,48) [.nil,.nil,.nil]).next.setBox (g1.ep,48) [.nil,.nil,oc]) []:=hy1.trans hz2;have hlo':∀ k ∈ labs oc,h.ep+2≤k.1∧k.1 < g1.ep:=fun k hk=>by have:=hlo k hk;simp at this;omega
 refine Wait.for (xs:=S.tables) (s0:=()) (k:=fun _=>some ()) (body:=fun _ _ s next=>next s) (r:=()) (fun k _ e g=>ClI h p3 S ⟨S.tables.take k,[],S.cons⟩ (S.enc.map C.d) e g∧e.get 13=.one (.d (.sl (S.tables.map Tbl.enc)))∧e.get 14=.one (.d (.int .i64 (S.tables.length:Int)))∧e.get 15=.one (.d (.int .i64 (k:Int)))) (trivF _ _ _) ⟨⟨.nil,.nil,oc,[],[],labs oc,by simp,by simp,by simp,by simp[hp3d],?_,?_,?_,?_,by rw[hp3d];simp<;>omega,hg1⟩,by simp,by simp,by simp⟩ ?_ ?_
 ·rw[hz2.2 _ (by simp<;>omega) (by simp)];simpa using b1
 ·rw[hz2.2 _ (by simp<;>omega) (by simp)];exact b2
 ·rw[hp3d];refine Sc.start (by simp) ?_ (by simp) fun k hk=>⟨fun he=>by have:=(hlo' k hk).2;rw[he] at this;simp at this,by have:=(hlo' k hk).2;simp<;>omega⟩;rw[Z56];exact mo.frame fun k hk=>hz2.2 k (hlo' k hk).2 (by simp)
 ·simp only[List.nil_append];exact fun k hk=>(hlo' k hk).1
 ·rintro k _ e g ⟨⟨tc,fc,oc,ta,fa,oa,hn,h1',h2',h3',b1,b2,s1,hnew,hp3,hs⟩,h13,h14,h15⟩ hlt hm;have hw:IntKind.i64.wrap ((k:Int)+1)=(k:Int)+1:=IntWalk.i64_in _ (by omega);have hT:=l4 _ (List.getElem_mem hlt);have hgp:h.ep+2 < g.ep:=by have:=s1.lt p3 (by simp);omega
  have hz4:Same g ((g.setBox (g.ep,80) [C.d (D.str ByteArray.empty),C.nil,C.nil]).next.setBox (g.ep,80) (S.tables[k].enc.map C.d)) []:=((Same.refl.setBox (.inr (Nat.le_refl _))).next).setBox (.inr (Nat.le_refl _));simp only[Tbl.enc,List.map_cons,List.map_nil] at hz4;simp[hn,h13,h14,h15,hlt];generalize hX:(g.setBox (g.ep,80) [C.d (D.str ByteArray.empty),C.nil,C.nil]).next.setBox (g.ep,80) _=GZ at hz4 ⊢;have bz5:GZ.box (g.ep,80)=some (S.tables[k].enc.map C.d):=by rw[← hX];simp
  have bz3:GZ.box p3=some [tc,fc,oc]:=(s1.frame hz4).box;simp only[Tbl.enc,List.map_cons,List.map_nil] at bz5;have hg2:=hs.1;have hgz:=hz4.1;refine Wait.cut (Plan.then_ [0,1,2,3,4,5,6,7] .done) follows (by kernel_rfl) (fun e g'=>ClI h p3 S ⟨S.tables.take (k+1),[],S.cons⟩ (S.enc.map C.d) e g'∧e.get 13=.one (.d (.sl (S.tables.map Tbl.enc)))∧e.get 14=.one (.d (.int .i64 (S.tables.length:Int)))∧e.get 15=.one (.d (.int .i64 (k:Int)))) ?_ ?_
  ·simp[hn,h3',bz5,bz3,Plan.then_,vcPlan,Z01,Z00,callKind];refine Z02 (Z5p _ (S.tables[k].enc.map C.d) S.tables[k] (fun h' _=>FrzCs.datas (ds:=S.tables[k].enc)) hT _ (fun cs g2 ls2 o2 nd2 hnw0 hs2 hb2=>?_));have hnw:∀ k ∈ ls2,g.ep≤k.1∧k.1 < g2.ep:=fun k hk=>by have:=hnw0 k hk;omega
   obtain⟨c0,c1,c2,rfl⟩:∃ a b c,cs=[a,b,c]:=by
    have h9:=o2.len.1
    match cs,h9 with
    | [a,b,c],_=>exact⟨a,b,c,rfl⟩
   simp[hn];refine⟨hb2,?_⟩;have hep2:=hs2.1;refine bld_ow (x:=[c0,c1,c2]) (by simp[toDs];cases c0.toD<;>cases c1.toD<;>cases c2.toD<;>rfl) (by simp) (fun d hd2=>?_) (fun hd2=>?_)
   ·obtain⟨rfl,hT2⟩:=o2.ofD hd2;have hz5:Same g2 ((g2.setArr (g2.ep,16 * 23) (some (1,3))).next) []:=Same.refl.setArr.next;simp only[Nat.reduceMul] at hz5;have s5:=s1.frame ((hz4.trans hs2).trans hz5);obtain⟨ys,my,hly,add⟩:=s5.addT;simp[hn];refine app_mr (by simp;exact⟨rfl,rfl⟩) (by simp) (by simp) (by simp) my (RowAt.own1 (by simp)) (by rw[hly];simp at hlt ⊢;omega) (fun c' g' hm' hs6 hl6=>?_);have hep6:=hs6.1;have hep5:=hz5.1;have hbl:=s5.keep hs6 fun k hk=>.inl (s5.hlabs.1 k hk);have hlab:∀ k ∈ labs tc,k ∈ ta:=s1.hlabs.1;obtain⟨a',s6,ha'⟩:=add g' c' _ _ [] hm' hs6 hl6 (hT2 g') List.nodup_nil (fun k hk=>by
     have h9:=hnw k ((fun k (hk:k ∈ [])=>by simp at hk) k hk);refine⟨by omega,fun h8=>by have:=s1.lt k h8;omega,fun h8=>?_⟩;rcases hl6 k h8 with h7 | h7
     ·have:=s1.lt k (by simp[hlab k h7]);omega
     ·omega) S.tables[k] rfl
    have ft:∀ k:Lab,k.1 < g.ep→k.1 < h.ep+2→g'.box k=g.box k:=fun k hk hk2=>by
     rw[hs6.2 k (by omega) fun h9=>by have:=hnew k (by simp[hlab k h9]);omega];exact ((hz4.trans hs2).trans hz5).2 k hk (by simp)
    have hne1:((h.ep,16):Lab)≠p3:=fun he=>by rw[← he] at hp3;have h9:h.ep+2≤h.ep:=hp3;omega
    have hne2:((h.ep+1,32):Lab)≠p3:=fun he=>by rw[← he] at hp3;have h9:h.ep+2≤h.ep+1:=hp3;omega
    simp[hn,h3',hbl];refine CutK.of ⟨⟨c',fc,oc,a',fa,oa,by simp[hn],by simp[h1'],by simp[h2'],by simp[h3'],?_,?_,by simpa[List.take_append_getElem hlt] using s6,fun k hk=>?_,hp3,((hs.trans ((hz4.trans hs2).trans hz5)).trans' hs6 fun k hk=>.inr (by have:=hnew k (by simp[hlab k hk]);omega)).setBox (.inr (by omega))⟩,by simp[h13],by simp[h14],by simp[h15]⟩
    ·simpa[hne1,ft (h.ep,16) (by simp<;>omega) (by simp)] using b1
    ·simpa[hne2,ft (h.ep+1,32) (by simp<;>omega) (by simp)] using b2
    ·simp only[List.mem_append] at hk;rcases hk with hk | hk
     ·rcases ha' k hk with h9 | h9 | h9
      ·exact hnew k (by simp[h9])
      ·have:=hnw k ((fun k (hk:k ∈ [])=>by simp at hk) k h9);omega
      ·omega
     ·exact hnew k (by simp only[List.mem_append];exact .inr hk)
   ·skip
    have hz5:Same g2 ((g2.setBox (g2.ep,16 * 23) [c0,c1,c2]).next) []:=(Same.refl.setBox (.inr (Nat.le_refl _))).next;simp only[Nat.reduceMul] at hz5;have s5:=s1.frame ((hz4.trans hs2).trans hz5);obtain⟨ys,my,hly,add⟩:=s5.addT;simp[hn];refine app_mr (by simp;exact⟨rfl,rfl⟩) (by simp) (by simp) (by simp) my (RowAt.new1 (x:=[c0,c1,c2]) (by simp) (by simp)) (by rw[hly];simp at hlt ⊢;omega) (fun c' g' hm' hs6 hl6=>?_);have hep6:=hs6.1;have hep5:=hz5.1;have hbl:=s5.keep hs6 fun k hk=>.inl (s5.hlabs.1 k hk);have hlab:∀ k ∈ labs tc,k ∈ ta:=s1.hlabs.1;obtain⟨a',s6,ha'⟩:=add g' c' _ _ ls2 hm' hs6 hl6 (o2.frame fun k hk=>by have h9:=hnw k hk;rw[hs6.2 k (by omega) fun h8=>by have:=s1.lt k (by simp[s1.hlabs.1 k h8]);omega];exact hz5.2 k h9.2 (by simp)) nd2 (fun k hk=>by
     have h9:=hnw k ((fun _ h=>h) k hk);refine⟨by omega,fun h8=>by have:=s1.lt k h8;omega,fun h8=>?_⟩;rcases hl6 k h8 with h7 | h7
     ·have:=s1.lt k (by simp[hlab k h7]);omega
     ·omega) S.tables[k] rfl
    have ft:∀ k:Lab,k.1 < g.ep→k.1 < h.ep+2→g'.box k=g.box k:=fun k hk hk2=>by
     rw[hs6.2 k (by omega) fun h9=>by have:=hnew k (by simp[hlab k h9]);omega];exact ((hz4.trans hs2).trans hz5).2 k hk (by simp)
    have hne1:((h.ep,16):Lab)≠p3:=fun he=>by rw[← he] at hp3;have h9:h.ep+2≤h.ep:=hp3;omega
    have hne2:((h.ep+1,32):Lab)≠p3:=fun he=>by rw[← he] at hp3;have h9:h.ep+2≤h.ep+1:=hp3;omega
    simp[hn,h3',hbl];refine CutK.of ⟨⟨c',fc,oc,a',fa,oa,by simp[hn],by simp[h1'],by simp[h2'],by simp[h3'],?_,?_,by simpa[List.take_append_getElem hlt] using s6,fun k hk=>?_,hp3,((hs.trans ((hz4.trans hs2).trans hz5)).trans' hs6 fun k hk=>.inr (by have:=hnew k (by simp[hlab k hk]);omega)).setBox (.inr (by omega))⟩,by simp[h13],by simp[h14],by simp[h15]⟩
    ·simpa[hne1,ft (h.ep,16) (by simp<;>omega) (by simp)] using b1
    ·simpa[hne2,ft (h.ep+1,32) (by simp<;>omega) (by simp)] using b2
    ·simp only[List.mem_append] at hk;rcases hk with hk | hk
     ·rcases ha' k hk with h9 | h9 | h9
      ·exact hnew k (by simp[h9])
      ·have:=hnw k ((fun _ h=>h) k h9);omega
      ·omega
     ·exact hnew k (by simp only[List.mem_append];exact .inr hk)
  ·rintro e g' ⟨hI,h13,h14,h15⟩;have hn:=hI;obtain⟨_,_,_,_,_,_,hn,h1',h2',h3',-⟩:=hn;simp[hn,h15,hw];obtain⟨tc2,fc2,oc2,ta2,fa2,oa2,-,-,-,-,q⟩:=hI;exact BackF.of () ⟨⟨⟨tc2,fc2,oc2,ta2,fa2,oa2,by simp[hn],by simp[h1'],by simp[h2'],by simp[h3'],q⟩,by simp[h13],by simp[h14],by simp⟩,hm⟩
 ·rintro _ e g ⟨⟨tc,fc,oc,ta,fa,oa,hn,h1',h2',h3',b1,b2,s1,hnew,hp3,hs⟩,h13,h14,h15⟩ _;rw[List.take_length] at s1;simp[hn,h1',h14,h15,b1];intro _;refine Wait.for (xs:=S.fks) (s0:=()) (k:=fun _=>some ()) (body:=fun _ _ s next=>next s) (r:=()) (fun k _ e g=>ClI h p3 S ⟨S.tables,S.fks.take k,S.cons⟩ (S.enc.map C.d) e g∧e.get 28=.one (.d (.sl (S.fks.map Fk.enc)))∧e.get 29=.one (.d (.int .i64 (S.fks.length:Int)))∧e.get 30=.one (.d (.int .i64 (k:Int)))) (trivF _ _ _) ⟨⟨tc,fc,oc,ta,fa,oa,by simp[hn],by simp[h1'],by simp[h2'],by simp[h3'],b1,b2,by simpa using s1,hnew,hp3,hs⟩,by simp,by simp,by simp⟩ ?_ ?_
  ·rintro k _ e g ⟨⟨tc,fc,oc,ta,fa,oa,hn,h1',h2',h3',b1,b2,s1,hnew,hp3,hs⟩,h28,h29,h30⟩ hlt hm;have hw:IntKind.i64.wrap ((k:Int)+1)=(k:Int)+1:=IntWalk.i64_in _ (by omega);have hF:=l5 _ (List.getElem_mem hlt);have hgp:h.ep+2 < g.ep:=by have:=s1.lt p3 (by simp);omega
   simp[hn,h28,h29,h30,hlt];refine Z02 (Z2t _ _ _ (RowAt.data (n:=1) (ts:=S.fks[k].cols.map encI) (by simp) (by simpa using hF)) _ (fun pc g2' mp hs2' hlp hb2=>?_));have hz4':Same g ((g.setBox (g.ep,112) [C.d (D.str ByteArray.empty),C.nil,C.d (D.str ByteArray.empty)]).next.setBox (g.ep,112) (S.fks[k].enc.map C.d)) []:=((Same.refl.setBox (.inr (Nat.le_refl _))).next).setBox (.inr (Nat.le_refl _));have bz7:=hb2 (g.ep,112) _ (by simp;rfl);simp only[Fk.enc,List.map_cons,List.map_nil] at hz4';have hep2':=hs2'.1;simp at hep2' hlp;have hz4:Same g (g2'.setBox (g.ep,112) [.d (.str S.fks[k].table),pc,.d (.str S.fks[k].ref)]) []:=(hz4'.trans hs2').setBox (.inr (Nat.le_refl _));have hoF0:Ow (g2'.setBox (g.ep,112) [.d (.str S.fks[k].table),pc,.d (.str S.fks[k].ref)]) FkSh [.d (.str S.fks[k].table),pc,.d (.str S.fks[k].ref)] S.fks[k].enc (labs pc):=by
    refine .data rfl ?_
    have:=Ow.rowD (es:=[.d]) (n:=1) (ts:=S.fks[k].cols.map encI) (mp.frame (h':=g2'.setBox (g.ep,112) [.d (.str S.fks[k].table),pc,.d (.str S.fks[k].ref)]) fun q hq=>by
     have h9:=hlp q.1 q.2 hq
     have:q≠(g.ep,112):=fun he=>by have h8:q.1=g.ep:=by rw[he]
                                   omega
     simp[this]) rfl (by simp) (Ow.data (c:=.d (.str S.fks[k].ref)) (x:=.str S.fks[k].ref) rfl .nil)
    simpa using this
   have hnw0:∀ q ∈ labs pc,g.ep≤q.1∧q.1 < g2'.ep:=fun q hq=>by have:=hlp q.1 q.2 hq;omega
   have b70:(g2'.setBox (g.ep,112) [.d (.str S.fks[k].table),pc,.d (.str S.fks[k].ref)]).box (g.ep,112)=some [.d (.str S.fks[k].table),pc,.d (.str S.fks[k].ref)]:=by simp
   have hepx:(g2'.setBox (g.ep,112) [.d (.str S.fks[k].table),pc,.d (.str S.fks[k].ref)]).ep=g2'.ep:=by simp
   have bz3:(g2'.setBox (g.ep,112) [.d (.str S.fks[k].table),pc,.d (.str S.fks[k].ref)]).box p3=some [tc,fc,oc]:=(s1.frame hz4).box
   try simp at bz7
   simp[hn,bz7];have hp3g:=s1.lt p3 (by simp);have hnp:¬ p3=(g.ep,112):=fun he=>by rw[he] at hp3g;simp at hp3g
   have bz3':g2'.box p3=some [tc,fc,oc]:=(s1.frame (hz4'.trans hs2')).box;have hs2:Same (g2'.setBox (g.ep,112) [.d (.str S.fks[k].table),pc,.d (.str S.fks[k].ref)]) (g2'.setBox (g.ep,112) [.d (.str S.fks[k].table),pc,.d (.str S.fks[k].ref)]) []:=.refl;have hnw:∀ q ∈ labs pc,g.ep≤q.1∧q.1 < (g2'.setBox (g.ep,112) [.d (.str S.fks[k].table),pc,.d (.str S.fks[k].ref)]).ep:=fun q hq=>by have:=hnw0 q hq;omega
   have hg2:=hs.1;have hgz:=hz4.1;have hep2:=hs2.1;simp[hn,h3',hnp,bz3'];refine bld_ow (x:=[.d (.str S.fks[k].table),pc,.d (.str S.fks[k].ref)]) (by simp[toDs];cases pc.toD<;>rfl) (by simp) (fun d hd2=>?_) (fun hd2=>?_)
   ·obtain⟨rfl,hT2⟩:=hoF0.ofD hd2;have hz5:Same (g2'.setBox (g.ep,112) [.d (.str S.fks[k].table),pc,.d (.str S.fks[k].ref)]) (((g2'.setBox (g.ep,112) [.d (.str S.fks[k].table),pc,.d (.str S.fks[k].ref)]).setArr (g2'.ep,16 * 41) (some (1,3))).next) []:=Same.refl.setArr.next;simp only[Nat.reduceMul] at hz5;have s5:=s1.frame ((hz4.trans hs2).trans hz5);obtain⟨ys,my,hly,add⟩:=s5.addF;simp[hn];refine app_mr (by simp;exact⟨rfl,rfl⟩) (by simp) (by simp) (by simp) my (RowAt.own1 (by simp)) (by rw[hly];simp at hlt ⊢;omega) (fun c' g' hm' hs6 hl6=>?_);have hep6:=hs6.1;have hep5:=hz5.1;have hbl:=s5.keep hs6 fun k hk=>.inr (.inl (s5.hlabs.2.1 k hk));have hlab:∀ k ∈ labs fc,k ∈ fa:=s1.hlabs.2.1;obtain⟨a',s6,ha'⟩:=add g' c' _ _ [] hm' hs6 hl6 (hT2 g') List.nodup_nil (fun k hk=>by
     have h9:=hnw k ((fun q (hq:q ∈ [])=>by simp at hq) k hk);refine⟨by omega,fun h8=>by have:=s1.lt k h8;omega,fun h8=>?_⟩;rcases hl6 k h8 with h7 | h7
     ·have:=s1.lt k (by simp[hlab k h7]);omega
     ·omega) S.fks[k] rfl
    have ft:∀ k:Lab,k.1 < g.ep→k.1 < h.ep+2→g'.box k=g.box k:=fun k hk hk2=>by
     rw[hs6.2 k (by omega) fun h9=>by have:=hnew k (by simp[hlab k h9]);omega];exact ((hz4.trans hs2).trans hz5).2 k hk (by simp)
    have hne1:((h.ep,16):Lab)≠p3:=fun he=>by rw[← he] at hp3;have h9:h.ep+2≤h.ep:=hp3;omega
    have hne2:((h.ep+1,32):Lab)≠p3:=fun he=>by rw[← he] at hp3;have h9:h.ep+2≤h.ep+1:=hp3;omega
    simp[hn,h3',hbl,h30,hw];refine BackF.of () ⟨⟨⟨tc,c',oc,ta,a',oa,by simp[hn],by simp[h1'],by simp[h2'],by simp[h3'],?_,?_,by simpa[List.take_append_getElem hlt] using s6,fun k hk=>?_,hp3,((hs.trans ((hz4.trans hs2).trans hz5)).trans' hs6 fun k hk=>.inr (by have:=hnew k (by simp[hlab k hk]);omega)).setBox (.inr (by omega))⟩,by simp[h28],by simp[h29],by simp⟩,hm⟩
    ·simpa[hne1,ft (h.ep,16) (by simp<;>omega) (by simp)] using b1
    ·simpa[hne2,ft (h.ep+1,32) (by simp<;>omega) (by simp)] using b2
    ·simp only[List.mem_append] at hk;rcases hk with hk | hk | hk
     ·exact hnew k (by simp[hk])
     ·rcases ha' k hk with h9 | h9 | h9
      ·exact hnew k (by simp[h9])
      ·have:=hnw k ((fun q (hq:q ∈ [])=>by simp at hq) k h9);omega
      ·omega
     ·exact hnew k (by simp[hk])
   ·skip
    have hz5:Same (g2'.setBox (g.ep,112) [.d (.str S.fks[k].table),pc,.d (.str S.fks[k].ref)]) (((g2'.setBox (g.ep,112) [.d (.str S.fks[k].table),pc,.d (.str S.fks[k].ref)]).setBox (g2'.ep,16 * 41) [.d (.str S.fks[k].table),pc,.d (.str S.fks[k].ref)]).next) []:=(Same.refl.setBox (.inr (Nat.le_refl _))).next;simp only[Nat.reduceMul] at hz5;have s5:=s1.frame ((hz4.trans hs2).trans hz5);obtain⟨ys,my,hly,add⟩:=s5.addF;simp[hn];refine app_mr (by simp;exact⟨rfl,rfl⟩) (by simp) (by simp) (by simp) my (RowAt.new1 (x:=[.d (.str S.fks[k].table),pc,.d (.str S.fks[k].ref)]) (by simp) (by simp)) (by rw[hly];simp at hlt ⊢;omega) (fun c' g' hm' hs6 hl6=>?_);have hep6:=hs6.1;have hep5:=hz5.1;have hbl:=s5.keep hs6 fun k hk=>.inr (.inl (s5.hlabs.2.1 k hk));have hlab:∀ k ∈ labs fc,k ∈ fa:=s1.hlabs.2.1;obtain⟨a',s6,ha'⟩:=add g' c' _ _ (labs pc) hm' hs6 hl6 (hoF0.frame fun k hk=>by have h9:=hnw k hk;rw[hs6.2 k (by omega) fun h8=>by have:=s1.lt k (by simp[s1.hlabs.2.1 k h8]);omega];exact hz5.2 k h9.2 (by simp)) Z1i (fun k hk=>by
     have h9:=hnw k ((fun _ h=>h) k hk);refine⟨by omega,fun h8=>by have:=s1.lt k h8;omega,fun h8=>?_⟩;rcases hl6 k h8 with h7 | h7
     ·have:=s1.lt k (by simp[hlab k h7]);omega
     ·omega) S.fks[k] rfl
    have ft:∀ k:Lab,k.1 < g.ep→k.1 < h.ep+2→g'.box k=g.box k:=fun k hk hk2=>by
     rw[hs6.2 k (by omega) fun h9=>by have:=hnew k (by simp[hlab k h9]);omega];exact ((hz4.trans hs2).trans hz5).2 k hk (by simp)
    have hne1:((h.ep,16):Lab)≠p3:=fun he=>by rw[← he] at hp3;have h9:h.ep+2≤h.ep:=hp3;omega
    have hne2:((h.ep+1,32):Lab)≠p3:=fun he=>by rw[← he] at hp3;have h9:h.ep+2≤h.ep+1:=hp3;omega
    simp[hn,h3',hbl,h30,hw];refine BackF.of () ⟨⟨⟨tc,c',oc,ta,a',oa,by simp[hn],by simp[h1'],by simp[h2'],by simp[h3'],?_,?_,by simpa[List.take_append_getElem hlt] using s6,fun k hk=>?_,hp3,((hs.trans ((hz4.trans hs2).trans hz5)).trans' hs6 fun k hk=>.inr (by have:=hnew k (by simp[hlab k hk]);omega)).setBox (.inr (by omega))⟩,by simp[h28],by simp[h29],by simp⟩,hm⟩
    ·simpa[hne1,ft (h.ep,16) (by simp<;>omega) (by simp)] using b1
    ·simpa[hne2,ft (h.ep+1,32) (by simp<;>omega) (by simp)] using b2
    ·simp only[List.mem_append] at hk;rcases hk with hk | hk | hk
     ·exact hnew k (by simp[hk])
     ·rcases ha' k hk with h9 | h9 | h9
      ·exact hnew k (by simp[h9])
      ·have:=hnw k ((fun _ h=>h) k h9);omega
      ·omega
     ·exact hnew k (by simp[hk])
  ·rintro _ e g ⟨⟨tc,fc,oc,ta,fa,oa,hn,h1',h2',h3',b1,b2,s1,hnew,hp3,hs⟩,h28,h29,h30⟩ _;rw[List.take_length] at s1;have hb3:=s1.box;simp[hn,h2',h3',h29,h30,hb3,b2,retH,resVs,resV];obtain⟨qt,qf,qo,rfl,rfl,rfl,sc⟩:=s1;have hsF:Same h (g.setBox (h.ep+1,32) [tc,fc,oc]) []:=hs.setBox (.inr (by simp));have kb:∀ k ∈ plabs tc qt++(plabs fc qf++plabs oc qo),(g.setBox (h.ep+1,32) [tc,fc,oc]).box k=g.box k:=fun k hk=>by
    have h9:=hnew k hk
    have:k≠(h.ep+1,32):=fun he=>by rw[he] at h9;simp at h9
    simp[this]
   simp only[List.mem_append] at kb;have hndA:=sc.nd;rw[List.nodup_cons] at hndA;refine hk tc fc oc qt qf qo _ (sc.t.frame fun k hk=>kb k (.inl hk)) (sc.f.frame fun k hk=>kb k (.inr (.inl hk))) (sc.o.frame fun k hk=>kb k (.inr (.inr hk))) hndA.2 (fun k hk=>⟨by have:=hnew k hk;omega,by have:=sc.lt k (List.mem_cons_of_mem _ hk);simpa using this⟩) hsF
def Z43 (S:Sch) (x:Stp):Option (Sch × Int):=
 bif x.kind == 13 then chkK (S.cons.length < LIM) (some ({ S with cons:=S.cons++[x.cons] },0)) else
 bif x.kind == 14 then Z2b S x.cons else
 bif x.kind == 15 then chkK (S.fks.length < LIM) (some ({ S with fks:=S.fks++[x.fk] },0)) else
 bif x.kind == 16 then Z0f S x.fk else
 bif x.kind == 10 then Z33 S x.newTable else
 bindK (Z05 S x.table) fun v=>bif !v.2 then some (S,4) else
 bif x.kind == 4 then Z31 S v.1.toNat x.newName else
 bif x.kind == 6 then Z3d S v.1.toNat x else
 bif x.kind == 7 then Z3e S v.1.toNat x.other else
 bif x.kind == 8 then Z2a S v.1.toNat x else
 bif x.kind == 9 then Z32 S v.1.toNat x else
 bif x.kind == 11 then Z3p S x.table else
 bif x.kind == 12 then Z2n S v.1.toNat x else
 bif x.kind == 1 then Z3q S v.1.toNat x else Z34 S v.1.toNat x
theorem Zgr {S:Sch} {nm:ByteArray} {v:Int × Bool} (h:Is (Z05 S nm) v):0≤v.1:=by
 obtain⟨k,_,h⟩:=Is.bind h
 have:=r_ret h
 rw[← this];show 0≤(if k < 0 then 0 else k)
 split<;>omega
theorem KeepS.sub {h:HS} {l:Lab} {ls ls':List Lab} {S':Sch} {v:V} {K:V→HS→Prop} (hk:KeepS h l ls S' v K) (hs:∀ k ∈ ls',k ∈ ls):KeepS h l ls' S' v K:=
 fun h' lz ho hm hl=>hk h' lz ho (hm.mono fun k hk=>by simp only[List.mem_cons] at hk ⊢;exact hk.imp_right (hs k)) fun k hk=>(hl k hk).imp_left (hs k)
theorem KeepS.to {h:HS} {l:Lab} {ls:List Lab} {S':Sch} {v:V} {K K':V→HS→Prop} (hk:KeepS h l ls S' v K) (hs:∀ h',K v h'→K' v h'):KeepS h l ls S' v K':=
 fun h' lz ho hm hl=>hs _ (hk h' lz ho hm hl)
set_option maxHeartbeats 2000000 in
theorem Zc1 (h:HS) (l:Lab) (tc fc oc:C) (xs:List C) (ta fa oa lx:List Lab) (S S':Sch) (x:Stp) (r:Int) (hm:Is (Z43 S x) (S',r)) (s:Sc h l S tc fc oc ta fa oa) (hx:Ow h StpSh xs x.enc lx) (hd:lx.Nodup∧∀ k ∈ lx,k.1 < h.ep∧k ∉ l::(ta++(fa++oa))) (K:V→HS→Prop)
  (hk:KeepS h l (ta++(fa++oa)++lx) S' (.one (.d (.int .i64 r))) K) :
  HSpec Tryz.prog 136 [.one (.ptr l 0),.agg xs] h K:=by
 refine HSpec.good Tryz.func136 rfl (by kernel_rfl) fun hg=>?_;obtain⟨x6,x12,x13,x22,a6,a12,a13,a22,rfl,rfl,-,-,-,-⟩:=hx.stp;refine HSpec.of_vc Tryz.func136 rfl (by kernel_rfl) (n:=120) rfl rfl (by simp) ?_;have hnn:stpC x x6 x12 x13 x22≠[]:=by simp[stpC]
 have hs0:Same h ((h.setBox (h.ep,48) (stpC x x6 x12 x13 x22)).next) []:=(Same.refl.setBox (.inr (Nat.le_refl _))).next;have s0:=s.frame hs0;have hb0:=s0.box;have bx3:(h.setBox (h.ep,48) (stpC x x6 x12 x13 x22)).next.box (h.ep,48)=some (stpC x x6 x12 x13 x22):=by simp
 have hx0:Ow ((h.setBox (h.ep,48) (stpC x x6 x12 x13 x22)).next) StpSh (stpC x x6 x12 x13 x22) x.enc (a6++(a12++(a13++a22))):=hx.frame fun k hk=>hs0.2 k (hd.2 k hk).1 (by simp);have hd0:∀ k ∈ a6++(a12++(a13++a22)),k.1 < ((h.setBox (h.ep,48) (stpC x x6 x12 x13 x22)).next).ep∧k ∉ l::(ta++(fa++oa)):=fun k hk=>⟨by have:=(hd.2 k hk).1;simp<;>omega,(hd.2 k hk).2⟩;have hk0:KeepS ((h.setBox (h.ep,48) (stpC x x6 x12 x13 x22)).next) l (ta++(fa++oa)++(a6++(a12++(a13++a22)))) S' (.one (.d (.int .i64 r))) K:=hk.after hs0;have hk1:KeepS ((h.setBox (h.ep,48) (stpC x x6 x12 x13 x22)).next) l (ta++(fa++oa)) S' (.one (.d (.int .i64 r))) K:=hk0.sub fun k hk=>List.mem_append_left _ hk;have e0:takeN 1 (stpC x x6 x12 x13 x22)=some [.d (.int .i64 x.kind)]:=by simp[stpC]
 have e24:takeN 24 (stpC x x6 x12 x13 x22)=some (stpC x x6 x12 x13 x22):=by simp[stpC]
 have e1:takeN 1 ((stpC x x6 x12 x13 x22).drop 1)=some [.d (.str x.table)]:=by simp[stpC]
 have e1':takeN 1 ((stpC x x6 x12 x13 x22).tail)=some [.d (.str x.table)]:=by simp[stpC]
 have e2:takeN 1 ((stpC x x6 x12 x13 x22).drop 2)=some [.d (.str x.other)]:=by simp[stpC]
 have e4:takeN 1 ((stpC x x6 x12 x13 x22).drop 4)=some [.d (.str x.newName)]:=by simp[stpC]
 have e11:takeN 3 ((stpC x x6 x12 x13 x22).drop 11)=some [.d (.str x.newTable.name),x12,x13]:=by simp[stpC]
 have e14:takeN 7 ((stpC x x6 x12 x13 x22).drop 14)=some (x.cons.enc.map C.d):=by simp[stpC]
 have e21:takeN 3 ((stpC x x6 x12 x13 x22).drop 21)=some [.d (.str x.fk.table),x22,.d (.str x.fk.ref)]:=by simp[stpC]
 simp only[Cons.enc,List.map_cons,List.map_nil] at e14;unfold Z43 at hm;simp[hnn,e0];cases k13:x.kind == 13 with
 | true=>
   simp only[k13,cond_true] at hm;replace hm:=hm.chk;obtain⟨hlim,hm⟩:=hm;have e1:=r_ret hm;simp only[Prod.mk.injEq] at e1;obtain⟨rfl,rfl⟩:=e1;simp[k13];generalize (h.setBox (h.ep,48) (stpC x x6 x12 x13 x22)).next=HX at *;refine Wait.cut (Plan.then_ [0,1,2,3,4,5,6,7,8,9,10,11] .done) follows (by kernel_rfl) (fun e h'=>e.n=120∧∃ oc' oa',Sc h' l { S with cons:=S.cons++[x.cons] } tc fc oc' ta fa oa'∧Same HX h' (l::oa)∧∀ k ∈ oa',k ∈ oa∨HX.ep≤k.1) ?_ ?_
   ·simp[hb0,bx3,e14,Plan.then_,vcPlan,Z01,Z00,callKind];have hz:Same HX ((HX.setArr (HX.ep,16 * 18) (some (1,7))).next) []:=Same.refl.setArr.next;simp only[Nat.reduceMul] at hz;have s1:=s0.frame hz;obtain⟨ys,my,hly,add⟩:=s1.addO;refine app_mr (by simp;exact⟨rfl,rfl⟩) (by simp) (by simp) (by simp) my (RowAt.own1 (by simp)) (by rw[hly];exact hlim) (fun c' h' hm' hs6 hl6=>?_);have hbl:=s1.keep hs6 fun k hk=>.inr (.inr (s1.hlabs.2.2 k hk));obtain⟨oa',s6,hoa'⟩:=add h' c' x.cons (by simpa using hm') hs6 hl6;have hepz:=hz.1;simp[hbl];exact CutK.of ⟨by simp,c',oa',s6,((hz.mono (by simp)).trans (hs6.mono fun k hk=>List.mem_cons_of_mem _ (s1.hlabs.2.2 k hk))).setBox (.inl (by simp)),fun k hk=>(hoa' k hk).imp_right fun h9=>by omega⟩
   ·rintro e h' ⟨hn,oc',oa',s6,hs6,hoa'⟩;simp[hn];refine hk1 _ _ s6.ows (hs6.mono fun k hk=>by simp only[List.mem_cons,List.mem_append] at hk ⊢;exact hk.imp_right fun h=>.inr (.inr h)) fun k hk=>?_;simp only[List.mem_append] at hk ⊢;rcases hk with hk | hk | hk
    ·exact .inl (.inl hk)
    ·exact .inl (.inr (.inl hk))
    ·exact (hoa' k hk).imp_left fun h=>.inr (.inr h)
 | false=>
 simp only[k13,cond_false] at hm;cases k14:x.kind == 14 with
 | true=>
   simp only[k14,cond_true] at hm;simp[k13,k14,e14];refine Z02 (Z7e _ l _ S S' x.cons r hm s0.ows _ (hk1.to fun h' hK=>?_));simp;exact hK
 | false=>
 simp only[k14,cond_false] at hm;cases k15:x.kind == 15 with
 | true=>
   simp only[k15,cond_true] at hm;replace hm:=hm.chk;obtain⟨hlim,hm⟩:=hm;have e1:=r_ret hm;simp only[Prod.mk.injEq] at e1;obtain⟨rfl,rfl⟩:=e1;simp[k13,k14,k15];obtain⟨y6,y12,y13,y22,b6,b12,b13,b22,f1,f2,p6,p12,p13,p22⟩:=hx0.stp;obtain⟨rfl,rfl,rfl,rfl⟩:x6=y6∧x12=y12∧x13=y13∧x22=y22:=by simpa[stpC] using f1
   have hnd0:=hd.1;rw[f2] at hd0 hk0 hnd0;have hoF:Ow ((h.setBox (h.ep,48) (stpC x x6 x12 x13 x22)).next) FkSh [.d (.str x.fk.table),x22,.d (.str x.fk.ref)] x.fk.enc b22:=by
    have:=Ow.data (c:=.d (.str x.fk.table)) (x:=.str x.fk.table) rfl (p22.join (.data (c:=.d (.str x.fk.ref)) (x:=.str x.fk.ref) rfl .nil))
    simp only[List.append_nil] at this;exact this
   have hndb:b22.Nodup:=by
    simp only[List.nodup_append] at hnd0;exact hnd0.2.1.2.1.2.1
   have hdb:∀ k ∈ b22,k.1 < ((h.setBox (h.ep,48) (stpC x x6 x12 x13 x22)).next).ep∧k ∉ l::(ta++(fa++oa)):=fun k hk=>hd0 k (by simp[hk]);have hk2:=hk0.sub (ls':=ta++(fa++oa)++b22) (fun k hk=>by simp only[List.mem_append] at hk ⊢;exact hk.imp_right fun h=>.inr (.inr (.inr h)));clear hk0 hk1 hx0 hd0;generalize hHX:(h.setBox (h.ep,48) (stpC x x6 x12 x13 x22)).next=HX at *;refine Wait.cut (Plan.then_ [0,1,2,3,4,5,6,7,8,9,10,11] .done) follows (by kernel_rfl) (fun e h'=>e.n=120∧∃ fc' fa',Sc h' l { S with fks:=S.fks++[x.fk] } tc fc' oc ta fa' oa∧Same HX h' (l::fa)∧∀ k ∈ fa',k ∈ fa∨k ∈ b22∨HX.ep≤k.1) ?_ ?_
   ·simp[hb0,bx3,e21,Plan.then_,vcPlan,Z01,Z00,callKind];refine bld_ow (x:=[.d (.str x.fk.table),x22,.d (.str x.fk.ref)]) (by simp[toDs];cases x22.toD<;>rfl) (by simp) (fun d hd2=>?_) (fun hd2=>?_)
    ·obtain⟨rfl,hT2⟩:=hoF.ofD hd2;have hz:Same HX ((HX.setArr (HX.ep,16 * 37) (some (1,3))).next) []:=Same.refl.setArr.next;simp only[Nat.reduceMul] at hz;have s1:=s0.frame hz;obtain⟨ys,my,hly,add⟩:=s1.addF;simp;refine app_mr (by simp;exact⟨rfl,rfl⟩) (by simp) (by simp) (by simp) my (RowAt.own1 (by simp)) (by rw[hly];exact hlim) (fun c' h' hm' hs6 hl6=>?_);have hbl:=s1.keep hs6 fun k hk=>.inr (.inl (s1.hlabs.2.1 k hk));obtain⟨fa',s6,hfa'⟩:=add h' c' _ _ [] hm' hs6 hl6 (hT2 h') List.nodup_nil (by simp) x.fk rfl;have hepz:=hz.1;simp[hbl];exact CutK.of ⟨by simp,c',fa',s6,((hz.mono (by simp)).trans (hs6.mono fun k hk=>List.mem_cons_of_mem _ (s1.hlabs.2.1 k hk))).setBox (.inl (by simp)),fun k hk=>(hfa' k hk).imp_right fun h9=>.inr (by rcases h9 with h9 | h9;simp at h9;omega)⟩
    ·have hz:Same HX ((HX.setBox (HX.ep,16 * 37) [.d (.str x.fk.table),x22,.d (.str x.fk.ref)]).next) []:=(Same.refl.setBox (.inr (Nat.le_refl _))).next;simp only[Nat.reduceMul] at hz;have s1:=s0.frame hz;obtain⟨ys,my,hly,add⟩:=s1.addF;simp;refine app_mr (by simp;exact⟨rfl,rfl⟩) (by simp) (by simp) (by simp) my (RowAt.new1 (x:=[.d (.str x.fk.table),x22,.d (.str x.fk.ref)]) (by simp) (by simp)) (by rw[hly];exact hlim) (fun c' h' hm' hs6 hl6=>?_);have hbl:=s1.keep hs6 fun k hk=>.inr (.inl (s1.hlabs.2.1 k hk));have hepz:=hz.1;have hep6:=hs6.1;obtain⟨fa',s6,hfa'⟩:=add h' c' _ _ b22 hm' hs6 hl6 (hoF.frame fun k hk=>by
      have h9:=hdb k hk;simp only[List.mem_cons,List.mem_append,not_or] at h9;rw[hs6.2 k (by omega) fun h8=>h9.2.2.2.1 (s1.hlabs.2.1 k h8)];exact hz.2 k h9.1 (by simp)) hndb (fun k hk=>by
      have h9:=hdb k hk;refine⟨by omega,h9.2,fun h8=>?_⟩;simp only[List.mem_cons,List.mem_append,not_or] at h9;rcases hl6 k h8 with h7 | h7
      ·exact h9.2.2.2.1 (s1.hlabs.2.1 k h7)
      ·omega) x.fk rfl
     simp[hbl];exact CutK.of ⟨by simp,c',fa',s6,((hz.mono (by simp)).trans (hs6.mono fun k hk=>List.mem_cons_of_mem _ (s1.hlabs.2.1 k hk))).setBox (.inl (by simp)),fun k hk=>(hfa' k hk).imp_right fun h9=>h9.imp_right fun h8=>by omega⟩
   ·rintro e h' ⟨hn,fc',fa',s6,hs6,hfa'⟩;simp[hn];refine hk2 _ _ s6.ows (hs6.mono fun k hk=>by simp only[List.mem_cons,List.mem_append] at hk ⊢;exact hk.imp_right fun h=>.inl (.inr (.inl h))) fun k hk=>?_;simp only[List.mem_append] at hk ⊢;rcases hk with hk | hk | hk
    ·exact .inl (.inl (.inl hk))
    ·rcases hfa' k hk with h9 | h9 | h9
     ·exact .inl (.inl (.inr (.inl h9)))
     ·exact .inl (.inr h9)
     ·exact .inr h9
    ·exact .inl (.inl (.inr (.inr hk)))
 | false=>
 simp only[k15,cond_false] at hm;cases k16:x.kind == 16 with
 | true=>
   simp only[k16,cond_true] at hm;simp[k13,k14,k15,k16,e21];refine Z02 (Z7d _ l _ S S' x.fk [.d (.str x.fk.table),x22,.d (.str x.fk.ref)] r hm s0.ows (fun h' hs'=>?_) _ (hk1.to fun h' hK=>?_))
   ·have:=(hx0.frame (h':=h') fun k hk=>hs'.2 k (hd0 k hk).1 (by simp)).stp
    obtain⟨y6,y12,y13,y22,b6,b12,b13,b22,f1,f2,p6,p12,p13,p22⟩:=this;obtain⟨rfl,rfl,rfl,rfl⟩:x6=y6∧x12=y12∧x13=y13∧x22=y22:=by simpa[stpC] using f1
    exact⟨.data rfl,p22.nfrz,.data rfl,trivial⟩
   ·simp;exact hK
 | false=>
 simp only[k16,cond_false] at hm;cases k10:x.kind == 10 with
 | true=>
   simp only[k10,cond_true] at hm;simp[k13,k14,k15,k16,k10,e11];obtain⟨y6,y12,y13,y22,b6,b12,b13,b22,f1,f2,p6,p12,p13,p22⟩:=hx0.stp;obtain⟨rfl,rfl,rfl,rfl⟩:x6=y6∧x12=y12∧x13=y13∧x22=y22:=by simpa[stpC] using f1
   have hnd0:=hd.1;rw[f2] at hd0 hk0 hnd0;refine Z02 (Z8i _ l tc fc oc ta fa oa (b12++(b13++[])) S S' x.newTable r _ hm s0 (.data (c:=.d (.str x.newTable.name)) (x:=.str x.newTable.name) rfl (p12.join (p13.join .nil))) ⟨?_,fun k hk=>?_⟩ _ ((hk0.sub fun k hk=>?_).to fun h' hK=>?_))
   ·simp only[List.nodup_append,List.append_nil,List.mem_append] at hnd0 ⊢;exact⟨hnd0.2.1.1,hnd0.2.1.2.1.1,fun a ha b hb=>hnd0.2.1.2.2 a ha b (.inl hb)⟩
   ·exact hd0 k (by simp only[List.append_nil,List.mem_append] at hk ⊢;exact .inr (hk.imp_right .inl))
   ·simp only[List.append_nil,List.mem_append] at hk ⊢;exact hk.imp_right fun h=>.inr (h.imp_right .inl)
   ·simp;exact hK
 | false=>
 simp only[k10,cond_false] at hm;replace hm:=hm.bind;obtain⟨v,hv,hm⟩:=hm;obtain⟨n,hn1⟩:∃ n:Nat,v.1=n:=⟨v.1.toNat,by have:=Zgr hv;omega⟩;simp[k13,k14,k15,k16,k10];have hepX:h.ep < ((h.setBox (h.ep,48) (stpC x x6 x12 x13 x22)).next).ep:=by simp
 generalize hHX:(h.setBox (h.ep,48) (stpC x x6 x12 x13 x22)).next=HX at *;refine Wait.cut (Plan.then_ [0,1,2,3,4,5,6,7,8,9,10] .done) follows (by kernel_rfl) (fun e h'=>e.n=120∧e.get 0=.one (.ptr l 0)∧e.get 3=.one (.ptr (h.ep,48) 0)∧e.get 5=.one (.d (.int .i64 v.1))∧e.get 6=.one (.d (.bool v.2))∧h'=HX.next) ?_ ?_
 ·simp[hb0,bx3,e1',Plan.then_,vcPlan,Z01,Z00,callKind];refine Z02 (HSpec.of_lend (c_schema_FindTable S x.table v hv) ⟨.agg s0.frz,.one (.frz (.data rfl)),trivial⟩ rfl ?_);simp;exact⟨fun _ _ x=>x,CutK.of (by simp)⟩
 ·rintro e h' ⟨hn,h0,h3,h5,h6,rfl⟩;have hs1:Same HX HX.next []:=Same.refl.next;have s1:=s0.frame hs1;have bx31:HX.next.box (h.ep,48)=some (stpC x x6 x12 x13 x22):=bx3;have hx1:=hx0.frame (h':=HX.next) fun k hk=>hs1.2 k (hd0 k hk).1 (by simp);have hd1:∀ k ∈ a6++(a12++(a13++a22)),k.1 < HX.next.ep∧k ∉ l::(ta++(fa++oa)):=fun k hk=>⟨by have:=(hd0 k hk).1;simp<;>omega,(hd0 k hk).2⟩;have hk2:=hk1.after hs1;rw[hn1] at h5;have hvn:v.1.toNat=n:=by omega
  rw[hvn] at hm;simp[hn,h6];cases hv2:v.2 with
  | false=>
    rw[hv2] at hm;have e1:=r_ret hm;simp only[Prod.mk.injEq] at e1;obtain⟨rfl,rfl⟩:=e1;simp[hn];exact hk2 _ _ s1.ows .refl (fun k hk=>.inl hk)
  | true=>
  simp only[hv2,Bool.not_true,cond_false] at hm;simp at bx31;simp[hn,h3,bx31,e0];cases k4:x.kind == 4 with
  | true=>
    simp only[k4,cond_true] at hm;simp[k4,hn,h0,h3,h5,bx31,e4];refine Z02 (Z8g _ l tc fc oc ta fa oa S S' n x.newName r hm s1 _ (hk2.to fun h' hK=>?_));simp[hn];exact hK
  | false=>
  simp only[k4,cond_false] at hm;cases k6:x.kind == 6 with
  | true=>
    simp only[k6,cond_true] at hm;simp[k4,k6,hn,h0,h3,h5,bx31,e24];refine Z02 (Z8r _ l tc fc oc _ ta fa oa _ S S' n x r hm s1 hx1 hd1 _ (hk2.to fun h' hK=>?_));simp[hn];exact hK
  | false=>
  simp only[k6,cond_false] at hm;cases k7:x.kind == 7 with
  | true=>
    simp only[k7,cond_true] at hm;simp[k4,k6,k7,hn,h0,h3,h5,bx31,e2];refine Z02 (Z8s _ l tc fc oc ta fa oa S S' n x.other r hm s1 _ (hk2.to fun h' hK=>?_));simp[hn];exact hK
  | false=>
  simp only[k7,cond_false] at hm;cases k8:x.kind == 8 with
  | true=>
    simp only[k8,cond_true] at hm;simp[k4,k6,k7,k8,hn,h0,h3,h5,bx31,e24];refine Z02 (Z7c _ l tc fc oc x6 x12 x13 x22 ta fa oa S S' n x r hm s1 _ (hk2.to fun h' hK=>?_));simp[hn];exact hK
  | false=>
  simp only[k8,cond_false] at hm;cases k9:x.kind == 9 with
  | true=>
    simp only[k9,cond_true] at hm;simp[k4,k6,k7,k8,k9,hn,h0,h3,h5,bx31,e24];refine Z02 (Z8h _ l tc fc oc x6 x12 x13 x22 ta fa oa S S' n x r hm s1 _ (hk2.to fun h' hK=>?_));simp[hn];exact hK
  | false=>
  simp only[k9,cond_false] at hm;cases k11:x.kind == 11 with
  | true=>
    simp only[k11,cond_true] at hm;simp[k4,k6,k7,k8,k9,k11,hn,h0,h3,h5,bx31,e1,e1'];refine Z02 (Z9a _ l _ S S' x.table r hm s1.ows _ (hk2.to fun h' hK=>?_));simp[hn];exact hK
  | false=>
  simp only[k11,cond_false] at hm;cases k12:x.kind == 12 with
  | true=>
    simp only[k12,cond_true] at hm;simp[k4,k6,k7,k8,k9,k11,k12,hn,h0,h3,h5,bx31,e24];refine Z02 (Z7q _ l tc fc oc _ ta fa oa _ S S' n x r hm s1 hx1 hd1 _ (hk2.to fun h' hK=>?_));simp[hn];exact hK
  | false=>
  simp only[k12,cond_false] at hm;cases k1:x.kind == 1 with
  | true=>
    simp only[k1,cond_true] at hm;simp[k4,k6,k7,k8,k9,k11,k12,k1,hn,h0,h3,h5,bx31,e24];refine Z02 (Z9b _ l tc fc oc x6 x12 x13 x22 ta fa oa S S' n x r hm s1 _ (hk2.to fun h' hK=>?_));simp[hn];exact hK
  | false=>
  simp only[k1,cond_false] at hm;simp[k4,k6,k7,k8,k9,k11,k12,k1,hn,h0,h3,h5,bx31,e24];refine Z02 (Z8j _ l tc fc oc x6 x12 x13 x22 ta fa oa S S' n x r hm s1 _ (hk2.to fun h' hK=>?_));simp[hn];exact hK
end
section
open Go.Am
instance i_schema_ValidName (s_:ByteArray):Con (Z3l s_) Tryz.prog 126 [.one (.d (.str s_))] (fun r=>.one (.d (.bool r))):=⟨fun r hm=>Zbf s_ r hm⟩
def Z2c (t:Tbl):Option Int:=
 (bindK (Z3l t.name) fun v2=>(bif !v2 then (some 23) else (bif ((t.cols.length:Int) == 0) then (some 3) else (bif decide (6 < (t.cols.length:Int)) then (some 2) else (forK (fun (i9:Nat) (x9:Col) (s9:Unit) next_9=>(bindK (Z3l x9.name) fun v11=>(bif !v11 then (some 23) else (bindK (Z08 t x9.name) fun v13=>(bif decide (v13.1 < (i9:Int)) then (some 5) else (bif decide (x9.kind < 1) then (some 7) else (bif decide (3 < x9.kind) then (some 7) else (next_9 ())))))))) (fun (s9:Unit)=>(forK (fun (i18:Nat) (x18:Int) (s18:Unit) next_18=>(bif decide (x18 < 0) then (some 9) else (bif decide ((t.cols.length:Int)≤x18) then (some 9) else (getK t.cols x18 fun x22=>(bif x22.nullable then (some 9) else (bif decide (0 < i18) then (chkK (okI ((i18:Int) - 1)) (getK t.pk ((i18:Int) - 1) fun x26=>(bif decide (x18≤x26) then (some 9) else (next_18 ())))) else (next_18 ()))))))) (fun (s18:Unit)=>(bif ((t.pk.length:Int) == 0) then (some 9) else (some 0))) t.pk 0 ())) t.cols 0 ())))))
instance c_schema_ValidateTable (t:Tbl):Con (Z2c t) Tryz.prog 85 [.agg t.enc] (fun r=>.one (.d (.int .i64 r))):=by
 unfold Z2c;have l1:LH (σ:=Unit) 24 [1,22,23] []:=.intro;have l2:LH (σ:=Unit) 55 [1,53,54] []:=.intro;exact go 96 Tryz.func85 rfl (by kernel_rfl) rfl rfl (by simp)
def Z0q (s_:Sch) (fk:Fk):Option Int:=
 (bindK (Z05 s_ fk.table) fun v3=>(bindK (Z05 s_ fk.ref) fun v4=>(bif !v3.2 then (some 4) else (bif !v4.2 then (some 4) else (getK s_.tables v3.1 fun x7=>(getK s_.tables v4.1 fun x8=>(bif ((fk.cols.length:Int) != (x8.pk.length:Int)) then (some 3) else (forK (fun (i34:Nat) (x34:Int) (s34:Unit) next_34=>(bif decide (x34 < 0) then (some 3) else (bif decide ((x7.cols.length:Int)≤x34) then (some 3) else (getK x7.cols x34 fun x38=>(getK x8.pk (i34:Int) fun x39=>(getK x8.cols x39 fun x40=>(bif (x38.kind != x40.kind) then (some 7) else (next_34 ())))))))) (fun (s34:Unit)=>(some 0)) fk.cols 0 ()))))))))
theorem Z7a (s_:Sch) (fk:Fk) (r:Int) (hm:Is (Z0q s_ fk) r):PSpec Tryz.prog 86 [.agg s_.enc,.agg fk.enc] (.one (.d (.int .i64 r))):=by
 unfold Z0q at hm;refine PSpec.of_vc Tryz.func86 rfl (by kernel_rfl) (n:=85) rfl rfl (by simp) ?_
 try simp[*]
 refine r_call (av:=[.agg s_.enc,.one (.d (.str fk.table))]) hm (fun v hv=>c_schema_FindTable _ _ v hv) (by simp[*]) ?_;clear hm;intro v3 hvv3 hm
 try simp[*]
 refine r_call (av:=[.agg s_.enc,.one (.d (.str fk.ref))]) hm (fun v hv=>c_schema_FindTable _ _ v hv) (by simp[*]) ?_;clear hm;intro v4 hvv4 hm
 try simp[*]
 refine Zcw hm ?_ ?_<;>clear hm<;>intro hc5 hm
 ·try simp[*]
  obtain rfl:=r_ret hm;exact ret0 (vs:=[_]) (by simp[*];try exact rfl) (by simp[*])
 ·try simp[*]
  refine r_cond hm ?_ ?_<;>clear hm<;>intro hc6 hm
  ·try simp[*]
   obtain rfl:=r_ret hm;exact ret0 (vs:=[_]) (by simp[*];try exact rfl) (by simp[*])
  ·try simp[*]
   replace hm:=hm.get;obtain⟨x7,h0x7,hxx7,hm⟩:=hm;replace hm:=hm.get;obtain⟨x8,h0x8,hxx8,hm⟩:=hm;refine Wait.cut (Plan.then_ [0,1,2,3,4,5,7] (.three 6 10 11 (Plan.then_ [8] (.three 9 10 11 (Plan.then_ [] (.two 10 11 (Plan.then_ [11,12,13] .done) (Plan.then_ [10,12,13] .done))) (Plan.then_ [] (.two 9 11 (Plan.then_ [11,12,13] .done) (Plan.then_ [] (.two 9 12 (Plan.then_ [12,13] .done) (Plan.then_ [9,13] .done))))) (Plan.then_ [] (.two 9 10 (Plan.then_ [10,12,13] .done) (Plan.then_ [] (.two 9 12 (Plan.then_ [12,13] .done) (Plan.then_ [9,13] .done))))))) (Plan.then_ [] (.two 6 11 (Plan.then_ [8] (.two 9 11 (Plan.then_ [11,12,13] .done) (Plan.then_ [] (.two 9 12 (Plan.then_ [12,13] .done) (Plan.then_ [9,13] .done))))) (Plan.then_ [] (.two 6 12 (Plan.then_ [8] (.two 9 12 (Plan.then_ [12,13] .done) (Plan.then_ [9,13] .done))) (Plan.then_ [6,8,9,13] .done))))) (Plan.then_ [] (.two 6 10 (Plan.then_ [8] (.two 9 10 (Plan.then_ [10,12,13] .done) (Plan.then_ [] (.two 9 12 (Plan.then_ [12,13] .done) (Plan.then_ [9,13] .done))))) (Plan.then_ [] (.two 6 12 (Plan.then_ [8] (.two 9 12 (Plan.then_ [12,13] .done) (Plan.then_ [9,13] .done))) (Plan.then_ [6,8,9,13] .done))))))) follows (by kernel_rfl) (fun e11 h11=>∃ n11_b9 n11_b10:Nat,e11.n=85∧e11.get 3=.one (.ptr (1,48) 0)∧e11.get 9=.one (.ptr (n11_b9,144) 0)∧e11.get 10=.one (.ptr (n11_b10,160) 0)∧h11.box (1,48)=some [.d (.str fk.table),.d (.sl (fk.cols.map encI)),.d (.str fk.ref)]∧h11.box (n11_b9,144)=some [.d (.str x7.name),.d (.sl (x7.cols.map Col.enc)),.d (.sl (x7.pk.map encI))]∧h11.box (n11_b10,160)=some [.d (.str x8.name),.d (.sl (x8.cols.map Col.enc)),.d (.sl (x8.pk.map encI))]) ?_ ?_
   ·try simp[*,Plan.then_,vcPlan,Z01,Z00,callKind]
    repeat' (first | with_reducible refine And.intro ?_ ?_ | (refine CutK.of ⟨4,5,?_⟩;(simp (maxDischargeDepth:=20) [*]);done) | (refine CutK.of ⟨5,4,?_⟩;(simp (maxDischargeDepth:=20) [*]);done))
   ·rintro e11 h11 ⟨n11_b9,n11_b10,hn11,h11_3,h11_9,h11_10,hb11_b2,hb11_b9,hb11_b10⟩
    try simp[*]
    intro hl30;replace hl30:fk.cols.length≤2097152:=by simpa using hl30
    intro hl31;replace hl31:x8.pk.length≤2097152:=by simpa using hl31
    refine r_cond hm ?_ ?_<;>clear hm<;>intro hc32 hm
    ·try simp[*]
     obtain rfl:=r_ret hm;exact ret0 (vs:=[_]) (by simp[*];try exact rfl) (by simp[*])
    ·try simp[*]
     refine Wait.for (xs:=fk.cols) (s0:=()) (fun i34 s34 e34 h34=>e34.n=85∧e34.get 9=.one (.ptr (n11_b9,144) 0)∧e34.get 10=.one (.ptr (n11_b10,160) 0)∧e34.get 51=.one (.d (.sl (fk.cols.map encI)))∧e34.get 52=.one (.d (.int .i64 (fk.cols.length:Int)))∧e34.get 53=.one (.d (.int .i64 (i34:Int)))∧h34.box (n11_b9,144)=some [.d (.str x7.name),.d (.sl (x7.cols.map Col.enc)),.d (.sl (x7.pk.map encI))]∧h34.box (n11_b10,160)=some [.d (.str x8.name),.d (.sl (x8.cols.map Col.enc)),.d (.sl (x8.pk.map encI))]) hm (by simp[*]) ?_ ?_
     ·rintro i34 s34 e34 h34 ⟨hn34,h34_9,h34_10,h34_51,h34_52,h34_53,hb34_b9,hb34_b10⟩ hlt34 hm;have hw34:IntKind.i64.wrap ((i34:Int)+1)=(i34:Int)+1:=IntWalk.i64_in _ (by omega)
      try simp[*]
      refine Zcw hm ?_ ?_<;>clear hm<;>intro hc35 hm
      ·try simp[*]
       obtain rfl:=r_ret hm;exact ret0 (vs:=[_]) (by simp[*];try exact rfl) (by simp[*])
      ·try simp[*]
       intro hl36;replace hl36:x7.cols.length≤2097152:=by simpa using hl36
       refine r_cond hm ?_ ?_<;>clear hm<;>intro hc37 hm
       ·try simp[*]
        obtain rfl:=r_ret hm;exact ret0 (vs:=[_]) (by simp[*];try exact rfl) (by simp[*])
       ·try simp[*]
        refine Wait.of (SWP.draw (Plan.then_ [0,1,2,3,4,5,6,7,8,9,10,11,12,13,14,15,16] .done) follows (by kernel_rfl) ?_)
        try simp[*,Plan.then_,vcPlan,Z01,Z00,callKind]
        replace hm:=hm.get;obtain⟨x38,h0x38,hxx38,hm⟩:=hm
        try simp[*,Plan.then_,vcPlan,Z01,Z00,callKind]
        replace hm:=hm.getN;obtain⟨x39,hxx39,hm⟩:=hm
        try simp[*,Plan.then_,vcPlan,Z01,Z00,callKind]
        replace hm:=hm.get;obtain⟨x40,h0x40,hxx40,hm⟩:=hm
        try simp[*,Plan.then_,vcPlan,Z01,Z00,callKind]
        refine r_cond hm ?_ ?_<;>clear hm<;>intro hc41 hm
        ·try simp[*]
         obtain rfl:=r_ret hm;exact ret0 (vs:=[_]) (by simp[*];try exact rfl) (by simp[*])
        ·try simp[*]
         exact BackF.of () ⟨(by simp[*]),hm⟩
     ·rintro s34 e34 h34 ⟨hn34,h34_9,h34_10,h34_51,h34_52,h34_53,hb34_b9,hb34_b10⟩ hm
      try simp[*]
      obtain rfl:=r_ret hm;exact ret0 (vs:=[_]) (by simp[*];try exact rfl) (by simp[*])
instance i_schema_validateForeignKey (s_:Sch) (fk:Fk):Con (Z0q s_ fk) Tryz.prog 86 [.agg s_.enc,.agg fk.enc] (fun r=>.one (.d (.int .i64 r))):=⟨fun r hm=>Z7a s_ fk r hm⟩
def Z3a (other:Fk) (k0:Fk):Option Bool:=
 (bindK (Z0a other k0) fun v2=>(some v2))
instance c_schema_Validate_1 (other:Fk) (k0:Fk):Con (Z3a other k0) Tryz.prog 88 [.agg other.enc,.one (.rp [.str k0.table,.sl (k0.cols.map encI),.str k0.ref])] (fun r=>.one (.d (.bool r))):=by
 unfold Z3a;exact go 7 Tryz.func88 rfl (by kernel_rfl) rfl rfl (by simp)
instance f_schema_Validate_1 (k0:Fk):ConF (fun x=>Z3a x k0) Tryz.prog (fun x=>.agg x.enc) (fun r=>.one (.d (.bool r))) 88 [[.str k0.table,.sl (k0.cols.map encI),.str k0.ref]]:=⟨fun x=>(c_schema_Validate_1 x k0)⟩
def Z19 (s_:Sch) (c:Cons):Option Int:=
 (bindK (Z05 s_ c.table) fun v3=>(bif !v3.2 then (some 4) else (getK s_.tables v3.1 fun x5=>(bindK (Z1c (GV.mk 0 0 ByteArray.empty) c.op (GV.mk 0 0 ByteArray.empty)) fun v6=>(bif decide (c.left < 0) then (some 3) else (bif decide ((x5.cols.length:Int)≤c.left) then (some 3) else (bif (v6.2 != 0) then (some 3) else (bif decide (c.right < (-1)) then (some 3) else (bif decide ((x5.cols.length:Int)≤c.right) then (some 3) else (bif decide (0≤c.right) then (bif (!(c.value.kind == 0) || (!(c.value.int == 0) || (!(c.value.text == ByteArray.empty)))) then (some 3) else (getK x5.cols c.left fun x16=>(getK x5.cols c.right fun x17=>(bif (x16.kind != x17.kind) then (some 7) else (some 0))))) else (getK x5.cols c.left fun x19=>(bif (c.value.kind != x19.kind) then (some 7) else (bindK (Z0g c.value) fun v21=>(some v21))))))))))))))
instance c_schema_validateConstraint (s_:Sch) (c:Cons):Con (Z19 s_ c) Tryz.prog 90 [.agg s_.enc,.agg c.enc] (fun r=>.one (.d (.int .i64 r))):=by
 unfold Z19;have p1:PH [9] (Plan.then_ [0,1,2,3,4,5,6,7,8,9,10,11,12] .done):=.intro;have p2:PH [12] (Plan.then_ [0,1,2,3,4,5,6,7,8,9] .done):=.intro;exact go 99 Tryz.func90 rfl (by kernel_rfl) rfl rfl (by simp)
def Z15 (s_:List Cons) (v_:Cons):Option Bool:=
 (bindK (Z11 s_ v_) fun v2=>(some (decide (0≤v2))))
instance c_slices_Contains_Constraint (s_:List Cons) (v_:Cons):Con (Z15 s_ v_) Tryz.prog 91 [.one (.d (.sl (s_.map Cons.enc))),.agg v_.enc] (fun r=>.one (.d (.bool r))):=by
 unfold Z15;exact go 9 Tryz.func91 rfl (by kernel_rfl) rfl rfl (by simp)
def Z0r (s_:Sch):Option Int:=
 (bif decide (6 < (s_.tables.length:Int)) then (some 2) else (bif decide (8 < (s_.fks.length:Int)) then (some 2) else (bif decide (8 < (s_.cons.length:Int)) then (some 2) else (forK (fun (i9:Nat) (x9:Tbl) (s9:Unit) next_9=>(bindK (Z2c x9) fun v11=>(bif (v11 != 0) then (some v11) else (bif decide (0 < i9) then (chkK (okI ((i9:Int) - 1)) (getK s_.tables ((i9:Int) - 1) fun x15=>(bif (Zbo x9.name x15.name || strEq x9.name x15.name) then (some 6) else (next_9 ())))) else (next_9 ()))))) (fun (s9:Unit)=>(forK (fun (i18:Nat) (x18:Fk) (s18:Unit) next_18=>(bindK (Z0q s_ x18) fun v20=>(bif (v20 != 0) then (some v20) else (chkK (0≤0∧0≤(i18:Int)∧(i18:Int)≤(s_.fks.length:Int)) (bindK (Z07 ((s_.fks.take i18).drop 0) (fun xa_=>Z3a xa_ x18)) fun v23=>(bif v23 then (some 5) else (next_18 ()))))))) (fun (s18:Unit)=>(forK (fun (i26:Nat) (x26:Cons) (s26:Unit) next_26=>(bindK (Z19 s_ x26) fun v28=>(bif (v28 != 0) then (some v28) else (chkK (0≤0∧0≤(i26:Int)∧(i26:Int)≤(s_.cons.length:Int)) (bindK (Z15 ((s_.cons.take i26).drop 0) x26) fun v31=>(bif v31 then (some 5) else (next_26 ()))))))) (fun (s26:Unit)=>(some 0)) s_.cons 0 ())) s_.fks 0 ())) s_.tables 0 ()))))
instance c_schema_Validate (s_:Sch):Con (Z0r s_) Tryz.prog 66 [.agg s_.enc] (fun r=>.one (.d (.int .i64 r))):=by
 unfold Z0r;have l1:LH (σ:=Unit) 31 [1,29,30] []:=.intro;have l2:LH (σ:=Unit) 59 [1,57,58] []:=.intro;have l3:LH (σ:=Unit) 80 [1,78,79] []:=.intro;have p1:PH [9] (Plan.then_ [0,1,2,3,4,5,6,7,8,9,10,11,12,13] .done):=.intro;have p2:PH [27] (Plan.then_ [0,1,2,3,4,5] .done):=.intro;exact go 98 Tryz.func66 rfl (by kernel_rfl) rfl rfl (by simp)
def Z3w (a:Tbl) (b:Tbl):Option Bool:=
 (bif strEq a.name b.name then (bindK (Z1w a.cols b.cols) fun v4=>(bif v4 then (bindK (Z14 a.pk b.pk) fun v6=>(some v6)) else (some false))) else (some false))
instance c_schema_equalTables (a:Tbl) (b:Tbl):Con (Z3w a b) Tryz.prog 202 [.agg a.enc,.agg b.enc] (fun r=>.one (.d (.bool r))):=by
 unfold Z3w;exact go 24 Tryz.func202 rfl (by kernel_rfl) rfl rfl (by simp)
def Z2y (a:Tbl) (b:Tbl):Option Bool:=
 (bindK (Z3w a b) fun v3=>(some v3))
instance c_schema_EqualTables (a:Tbl) (b:Tbl):Con (Z2y a b) Tryz.prog 174 [.agg a.enc,.agg b.enc] (fun r=>.one (.d (.bool r))):=by
 unfold Z2y;exact go 8 Tryz.func174 rfl (by kernel_rfl) rfl rfl (by simp)
def Z53 (a:Stp) (b:Stp):Option Bool:=
 (bif (a.kind == b.kind) then (bif strEq a.table b.table then (bif strEq a.other b.other then (bif strEq a.column b.column then (bif strEq a.newName b.newName then (bif (a.type == b.type) then (bindK (Z14 a.cols b.cols) fun v9=>(bif v9 then (bif strEq a.op b.op then (bif (a.value.kind == b.value.kind && (a.value.int == b.value.int && (a.value.text == b.value.text))) then (bindK (Z2y a.newTable b.newTable) fun v13=>(bif v13 then (bif (a.cons.table == b.cons.table && (a.cons.left == b.cons.left && (a.cons.op == b.cons.op && (a.cons.right == b.cons.right && (a.cons.value.kind == b.cons.value.kind && (a.cons.value.int == b.cons.value.int && (a.cons.value.text == b.cons.value.text))))))) then (bindK (Z0a a.fk b.fk) fun v16=>(some v16)) else (some false)) else (some false))) else (some false)) else (some false)) else (some false))) else (some false)) else (some false)) else (some false)) else (some false)) else (some false)) else (some false))
instance c_evolution_Equal (a:Stp) (b:Stp):Con (Z53 a b) Tryz.prog 154 [.agg a.enc,.agg b.enc] (fun r=>.one (.d (.bool r))):=by
 unfold Z53;exact go 87 Tryz.func154 rfl (by kernel_rfl) rfl rfl (by simp)
def Z2d (step:Stp):Option Stp:=
 (bif (step.kind == 1) then (some (Stp.mk step.kind step.table ByteArray.empty step.column ByteArray.empty step.type [] ByteArray.empty step.value (Tbl.mk ByteArray.empty [] []) (Cons.mk ByteArray.empty 0 ByteArray.empty 0 (GV.mk 0 0 ByteArray.empty)) (Fk.mk ByteArray.empty [] ByteArray.empty))) else (bif (step.kind == 2) then (some (Stp.mk step.kind step.table ByteArray.empty step.column ByteArray.empty 0 [] ByteArray.empty step.value (Tbl.mk ByteArray.empty [] []) (Cons.mk ByteArray.empty 0 ByteArray.empty 0 (GV.mk 0 0 ByteArray.empty)) (Fk.mk ByteArray.empty [] ByteArray.empty))) else (bif (step.kind == 3) then (some (Stp.mk step.kind step.table ByteArray.empty step.column step.newName 0 [] ByteArray.empty (GV.mk 0 0 ByteArray.empty) (Tbl.mk ByteArray.empty [] []) (Cons.mk ByteArray.empty 0 ByteArray.empty 0 (GV.mk 0 0 ByteArray.empty)) (Fk.mk ByteArray.empty [] ByteArray.empty))) else (bif (step.kind == 4) then (some (Stp.mk step.kind step.table ByteArray.empty ByteArray.empty step.newName 0 [] ByteArray.empty (GV.mk 0 0 ByteArray.empty) (Tbl.mk ByteArray.empty [] []) (Cons.mk ByteArray.empty 0 ByteArray.empty 0 (GV.mk 0 0 ByteArray.empty)) (Fk.mk ByteArray.empty [] ByteArray.empty))) else (bif (step.kind == 5) then (some (Stp.mk step.kind step.table ByteArray.empty step.column ByteArray.empty step.type [] ByteArray.empty (GV.mk 0 0 ByteArray.empty) (Tbl.mk ByteArray.empty [] []) (Cons.mk ByteArray.empty 0 ByteArray.empty 0 (GV.mk 0 0 ByteArray.empty)) (Fk.mk ByteArray.empty [] ByteArray.empty))) else (bif (step.kind == 6) then (some (Stp.mk step.kind step.table step.other ByteArray.empty ByteArray.empty 0 step.cols ByteArray.empty (GV.mk 0 0 ByteArray.empty) (Tbl.mk ByteArray.empty [] []) (Cons.mk ByteArray.empty 0 ByteArray.empty 0 (GV.mk 0 0 ByteArray.empty)) (Fk.mk ByteArray.empty [] ByteArray.empty))) else (bif (step.kind == 7) then (some (Stp.mk step.kind step.table step.other ByteArray.empty ByteArray.empty 0 [] ByteArray.empty (GV.mk 0 0 ByteArray.empty) (Tbl.mk ByteArray.empty [] []) (Cons.mk ByteArray.empty 0 ByteArray.empty 0 (GV.mk 0 0 ByteArray.empty)) (Fk.mk ByteArray.empty [] ByteArray.empty))) else (bif (step.kind == 8) then (some (Stp.mk step.kind step.table step.other step.column ByteArray.empty 0 [] step.op step.value (Tbl.mk ByteArray.empty [] []) (Cons.mk ByteArray.empty 0 ByteArray.empty 0 (GV.mk 0 0 ByteArray.empty)) (Fk.mk ByteArray.empty [] ByteArray.empty))) else (bif (step.kind == 9) then (some (Stp.mk step.kind step.table step.other step.column ByteArray.empty 0 [] ByteArray.empty (GV.mk 0 0 ByteArray.empty) (Tbl.mk ByteArray.empty [] []) (Cons.mk ByteArray.empty 0 ByteArray.empty 0 (GV.mk 0 0 ByteArray.empty)) (Fk.mk ByteArray.empty [] ByteArray.empty))) else (bif (step.kind == 10) then (some (Stp.mk step.kind ByteArray.empty ByteArray.empty ByteArray.empty ByteArray.empty 0 [] ByteArray.empty (GV.mk 0 0 ByteArray.empty) step.newTable (Cons.mk ByteArray.empty 0 ByteArray.empty 0 (GV.mk 0 0 ByteArray.empty)) (Fk.mk ByteArray.empty [] ByteArray.empty))) else (bif (step.kind == 12) then (some (Stp.mk step.kind step.table ByteArray.empty step.column ByteArray.empty 0 step.cols ByteArray.empty (GV.mk 0 0 ByteArray.empty) (Tbl.mk ByteArray.empty [] []) (Cons.mk ByteArray.empty 0 ByteArray.empty 0 (GV.mk 0 0 ByteArray.empty)) (Fk.mk ByteArray.empty [] ByteArray.empty))) else (bif (step.kind == 13) then (some (Stp.mk step.kind ByteArray.empty ByteArray.empty ByteArray.empty ByteArray.empty 0 [] ByteArray.empty (GV.mk 0 0 ByteArray.empty) (Tbl.mk ByteArray.empty [] []) step.cons (Fk.mk ByteArray.empty [] ByteArray.empty))) else (bif (step.kind == 14) then (some (Stp.mk step.kind ByteArray.empty ByteArray.empty ByteArray.empty ByteArray.empty 0 [] ByteArray.empty (GV.mk 0 0 ByteArray.empty) (Tbl.mk ByteArray.empty [] []) step.cons (Fk.mk ByteArray.empty [] ByteArray.empty))) else (bif (step.kind == 15) then (some (Stp.mk step.kind ByteArray.empty ByteArray.empty ByteArray.empty ByteArray.empty 0 [] ByteArray.empty (GV.mk 0 0 ByteArray.empty) (Tbl.mk ByteArray.empty [] []) (Cons.mk ByteArray.empty 0 ByteArray.empty 0 (GV.mk 0 0 ByteArray.empty)) step.fk)) else (bif (step.kind == 16) then (some (Stp.mk step.kind ByteArray.empty ByteArray.empty ByteArray.empty ByteArray.empty 0 [] ByteArray.empty (GV.mk 0 0 ByteArray.empty) (Tbl.mk ByteArray.empty [] []) (Cons.mk ByteArray.empty 0 ByteArray.empty 0 (GV.mk 0 0 ByteArray.empty)) step.fk)) else (some (Stp.mk step.kind step.table ByteArray.empty ByteArray.empty ByteArray.empty 0 [] ByteArray.empty (GV.mk 0 0 ByteArray.empty) (Tbl.mk ByteArray.empty [] []) (Cons.mk ByteArray.empty 0 ByteArray.empty 0 (GV.mk 0 0 ByteArray.empty)) (Fk.mk ByteArray.empty [] ByteArray.empty))))))))))))))))))
@[simp] def zs:C:=.d (.str ByteArray.empty)
@[simp] def zi:C:=.d (.int .i64 0)
@[simp] def zS:List C:=[zi,zs,zs,zs,zs,zi,.nil,zs,zi,zi,zs,zs,.nil,.nil,zs,zi,zs,zi,zi,zi,zs,zs,.nil,zs]
theorem Z8v (step:Stp) (r:Stp) (hm:Is (Z2d step) r):PSpec Tryz.prog 155 [.agg step.enc] (.agg (r.enc.map RC.d)):=by
 unfold Z2d at hm;refine PSpec.of_vc Tryz.func155 rfl (by kernel_rfl) (n:=115) rfl rfl (by simp) ?_
 try simp[*]
 refine r_cond hm ?_ ?_<;>clear hm<;>intro hc4 hm
 ·try simp[*]
  refine Wait.cut (Plan.then_ [0,1,2,4,6] (.three 3 5 7 (Plan.then_ [] (.two 5 7 (Plan.then_ [7,8,9,10,11] .done) (Plan.then_ [8] (.two 5 9 (Plan.then_ [9,10,11] .done) (Plan.then_ [5,10,11] .done))))) (Plan.then_ [] (.two 3 7 (Plan.then_ [7,8,9,10,11] .done) (Plan.then_ [3,8,9,10,11] .done))) (Plan.then_ [3,8] (.two 5 9 (Plan.then_ [9,10,11] .done) (Plan.then_ [5,10,11] .done))))) follows (by kernel_rfl) (fun e5 h5=>e5.n=115∧e5.get 2=.one (.ptr (1,32) 0)∧e5.get 3=.one (.ptr (2,48) 0)∧h5.box (1,32)=some zS∧h5.box (2,48)=some [.d (.int .i64 step.kind),.d (.str step.table),zs,.d (.str step.column),zs,.d (.int .i64 step.type),.nil,zs,.d (.int .i64 step.value.kind),.d (.int .i64 step.value.int),.d (.str step.value.text),zs,.nil,.nil,zs,zi,zs,zi,zi,zi,zs,zs,.nil,zs]) ?_ ?_
  ·try simp[*,Plan.then_,vcPlan,Z01,Z00,callKind]
   repeat' (first | with_reducible refine And.intro ?_ ?_ | (refine CutK.of ?_;simp[*];done))
  ·rintro e5 h5 ⟨hn5,h5_2,h5_3,hb5_b2,hb5_b3⟩
   try simp[*]
   obtain rfl:=r_ret hm;exact ret0 (vs:=[_]) (by simp[*];try exact rfl) (by simp[*])
 ·try simp[*]
  refine r_cond hm ?_ ?_<;>clear hm<;>intro hc6 hm
  ·try simp[*]
   refine Wait.cut (Plan.then_ [0,1,2,4] (.two 3 5 (Plan.then_ [5,6,7] .done) (Plan.then_ [3,6,7] .done))) follows (by kernel_rfl) (fun e7 h7=>e7.n=115∧e7.get 2=.one (.ptr (1,32) 0)∧e7.get 3=.one (.ptr (2,48) 0)∧h7.box (1,32)=some zS∧h7.box (2,48)=some [.d (.int .i64 step.kind),.d (.str step.table),zs,.d (.str step.column),zs,zi,.nil,zs,.d (.int .i64 step.value.kind),.d (.int .i64 step.value.int),.d (.str step.value.text),zs,.nil,.nil,zs,zi,zs,zi,zi,zi,zs,zs,.nil,zs]) ?_ ?_
   ·try simp[*,Plan.then_,vcPlan,Z01,Z00,callKind]
    repeat' (first | with_reducible refine And.intro ?_ ?_ | (refine CutK.of ?_;simp[*];done))
   ·rintro e7 h7 ⟨hn7,h7_2,h7_3,hb7_b2,hb7_b3⟩
    try simp[*]
    obtain rfl:=r_ret hm;exact ret0 (vs:=[_]) (by simp[*];try exact rfl) (by simp[*])
  ·try simp[*]
   refine r_cond hm ?_ ?_<;>clear hm<;>intro hc8 hm
   ·try simp[*]
    refine Wait.cut (Plan.then_ [0,1,2,4] (.two 3 5 (Plan.then_ [5,6,7] .done) (Plan.then_ [3,6,7] .done))) follows (by kernel_rfl) (fun e9 h9=>e9.n=115∧e9.get 2=.one (.ptr (1,32) 0)∧e9.get 3=.one (.ptr (2,48) 0)∧h9.box (1,32)=some zS∧h9.box (2,48)=some [.d (.int .i64 step.kind),.d (.str step.table),zs,.d (.str step.column),.d (.str step.newName),zi,.nil,zs,zi,zi,zs,zs,.nil,.nil,zs,zi,zs,zi,zi,zi,zs,zs,.nil,zs]) ?_ ?_
    ·try simp[*,Plan.then_,vcPlan,Z01,Z00,callKind]
     repeat' (first | with_reducible refine And.intro ?_ ?_ | (refine CutK.of ?_;simp[*];done))
    ·rintro e9 h9 ⟨hn9,h9_2,h9_3,hb9_b2,hb9_b3⟩
     try simp[*]
     obtain rfl:=r_ret hm;exact ret0 (vs:=[_]) (by simp[*];try exact rfl) (by simp[*])
   ·try simp[*]
    refine r_cond hm ?_ ?_<;>clear hm<;>intro hc10 hm
    ·try simp[*]
     obtain rfl:=r_ret hm;exact ret0 (vs:=[_]) (by simp[*];try exact rfl) (by simp[*])
    ·try simp[*]
     refine r_cond hm ?_ ?_<;>clear hm<;>intro hc11 hm
     ·try simp[*]
      refine Wait.cut (Plan.then_ [0,1,2,4] (.two 3 5 (Plan.then_ [5,6,7] .done) (Plan.then_ [3,6,7] .done))) follows (by kernel_rfl) (fun e12 h12=>e12.n=115∧e12.get 2=.one (.ptr (1,32) 0)∧e12.get 3=.one (.ptr (2,48) 0)∧h12.box (1,32)=some zS∧h12.box (2,48)=some [.d (.int .i64 step.kind),.d (.str step.table),zs,.d (.str step.column),zs,.d (.int .i64 step.type),.nil,zs,zi,zi,zs,zs,.nil,.nil,zs,zi,zs,zi,zi,zi,zs,zs,.nil,zs]) ?_ ?_
      ·try simp[*,Plan.then_,vcPlan,Z01,Z00,callKind]
       repeat' (first | with_reducible refine And.intro ?_ ?_ | (refine CutK.of ?_;simp[*];done))
      ·rintro e12 h12 ⟨hn12,h12_2,h12_3,hb12_b2,hb12_b3⟩
       try simp[*]
       obtain rfl:=r_ret hm;exact ret0 (vs:=[_]) (by simp[*];try exact rfl) (by simp[*])
     ·try simp[*]
      refine r_cond hm ?_ ?_<;>clear hm<;>intro hc13 hm
      ·try simp[*]
       refine Wait.cut (Plan.then_ [0,1,2,4] (.two 3 5 (Plan.then_ [5,6,7] .done) (Plan.then_ [3,6,7] .done))) follows (by kernel_rfl) (fun e14 h14=>e14.n=115∧e14.get 2=.one (.ptr (1,32) 0)∧e14.get 3=.one (.ptr (2,48) 0)∧h14.box (1,32)=some zS∧h14.box (2,48)=some [.d (.int .i64 step.kind),.d (.str step.table),.d (.str step.other),zs,zs,zi,.d (.sl (step.cols.map encI)),zs,zi,zi,zs,zs,.nil,.nil,zs,zi,zs,zi,zi,zi,zs,zs,.nil,zs]) ?_ ?_
       ·try simp[*,Plan.then_,vcPlan,Z01,Z00,callKind]
        repeat' (first | with_reducible refine And.intro ?_ ?_ | (refine CutK.of ?_;simp[*];done))
       ·rintro e14 h14 ⟨hn14,h14_2,h14_3,hb14_b2,hb14_b3⟩
        try simp[*]
        obtain rfl:=r_ret hm;exact ret0 (vs:=[_]) (by simp[*];try exact rfl) (by simp[*])
      ·try simp[*]
       refine r_cond hm ?_ ?_<;>clear hm<;>intro hc15 hm
       ·try simp[*]
        obtain rfl:=r_ret hm;exact ret0 (vs:=[_]) (by simp[*];try exact rfl) (by simp[*])
       ·try simp[*]
        refine r_cond hm ?_ ?_<;>clear hm<;>intro hc16 hm
        ·try simp[*]
         refine Wait.cut (Plan.then_ [0,1,2,4,6,8] (.four 3 5 7 9 (Plan.then_ [] (.three 5 7 9 (Plan.then_ [] (.two 7 9 (Plan.then_ [9,10,11,12,13,14,15] .done) (Plan.then_ [10] (.two 7 11 (Plan.then_ [11,12,13,14,15] .done) (Plan.then_ [12] (.two 7 13 (Plan.then_ [13,14,15] .done) (Plan.then_ [7,14,15] .done))))))) (Plan.then_ [] (.two 5 9 (Plan.then_ [9,10,11,12,13,14,15] .done) (Plan.then_ [10] (.two 5 11 (Plan.then_ [11,12,13,14,15] .done) (Plan.then_ [5,12,13,14,15] .done))))) (Plan.then_ [10] (.three 5 7 11 (Plan.then_ [] (.two 7 11 (Plan.then_ [11,12,13,14,15] .done) (Plan.then_ [12] (.two 7 13 (Plan.then_ [13,14,15] .done) (Plan.then_ [7,14,15] .done))))) (Plan.then_ [] (.two 5 11 (Plan.then_ [11,12,13,14,15] .done) (Plan.then_ [5,12,13,14,15] .done))) (Plan.then_ [5,12] (.two 7 13 (Plan.then_ [13,14,15] .done) (Plan.then_ [7,14,15] .done))))))) (Plan.then_ [] (.three 3 7 9 (Plan.then_ [] (.two 7 9 (Plan.then_ [9,10,11,12,13,14,15] .done) (Plan.then_ [10] (.two 7 11 (Plan.then_ [11,12,13,14,15] .done) (Plan.then_ [12] (.two 7 13 (Plan.then_ [13,14,15] .done) (Plan.then_ [7,14,15] .done))))))) (Plan.then_ [] (.two 3 9 (Plan.then_ [9,10,11,12,13,14,15] .done) (Plan.then_ [3,10,11,12,13,14,15] .done))) (Plan.then_ [3,10] (.two 7 11 (Plan.then_ [11,12,13,14,15] .done) (Plan.then_ [12] (.two 7 13 (Plan.then_ [13,14,15] .done) (Plan.then_ [7,14,15] .done))))))) (Plan.then_ [] (.three 3 5 9 (Plan.then_ [] (.two 5 9 (Plan.then_ [9,10,11,12,13,14,15] .done) (Plan.then_ [10] (.two 5 11 (Plan.then_ [11,12,13,14,15] .done) (Plan.then_ [5,12,13,14,15] .done))))) (Plan.then_ [] (.two 3 9 (Plan.then_ [9,10,11,12,13,14,15] .done) (Plan.then_ [3,10,11,12,13,14,15] .done))) (Plan.then_ [3,10] (.two 5 11 (Plan.then_ [11,12,13,14,15] .done) (Plan.then_ [5,12,13,14,15] .done))))) (Plan.then_ [3,10] (.three 5 7 11 (Plan.then_ [] (.two 7 11 (Plan.then_ [11,12,13,14,15] .done) (Plan.then_ [12] (.two 7 13 (Plan.then_ [13,14,15] .done) (Plan.then_ [7,14,15] .done))))) (Plan.then_ [] (.two 5 11 (Plan.then_ [11,12,13,14,15] .done) (Plan.then_ [5,12,13,14,15] .done))) (Plan.then_ [5,12] (.two 7 13 (Plan.then_ [13,14,15] .done) (Plan.then_ [7,14,15] .done))))))) follows (by kernel_rfl) (fun e17 h17=>e17.n=115∧e17.get 2=.one (.ptr (1,32) 0)∧e17.get 3=.one (.ptr (2,48) 0)∧h17.box (1,32)=some zS∧h17.box (2,48)=some [.d (.int .i64 step.kind),.d (.str step.table),.d (.str step.other),.d (.str step.column),zs,zi,.nil,.d (.str step.op),.d (.int .i64 step.value.kind),.d (.int .i64 step.value.int),.d (.str step.value.text),zs,.nil,.nil,zs,zi,zs,zi,zi,zi,zs,zs,.nil,zs]) ?_ ?_
         ·try simp[*,Plan.then_,vcPlan,Z01,Z00,callKind]
          repeat' (first | with_reducible refine And.intro ?_ ?_ | (refine CutK.of ?_;simp[*];done))
         ·rintro e17 h17 ⟨hn17,h17_2,h17_3,hb17_b2,hb17_b3⟩
          try simp[*]
          obtain rfl:=r_ret hm;exact ret0 (vs:=[_]) (by simp[*];try exact rfl) (by simp[*])
        ·try simp[*]
         refine r_cond hm ?_ ?_<;>clear hm<;>intro hc18 hm
         ·try simp[*]
          refine Wait.cut (Plan.then_ [0,1,2,4] (.two 3 5 (Plan.then_ [5,6,7] .done) (Plan.then_ [3,6,7] .done))) follows (by kernel_rfl) (fun e19 h19=>e19.n=115∧e19.get 2=.one (.ptr (1,32) 0)∧e19.get 3=.one (.ptr (2,48) 0)∧h19.box (1,32)=some zS∧h19.box (2,48)=some [.d (.int .i64 step.kind),.d (.str step.table),.d (.str step.other),.d (.str step.column),zs,zi,.nil,zs,zi,zi,zs,zs,.nil,.nil,zs,zi,zs,zi,zi,zi,zs,zs,.nil,zs]) ?_ ?_
          ·try simp[*,Plan.then_,vcPlan,Z01,Z00,callKind]
           repeat' (first | with_reducible refine And.intro ?_ ?_ | (refine CutK.of ?_;simp[*];done))
          ·rintro e19 h19 ⟨hn19,h19_2,h19_3,hb19_b2,hb19_b3⟩
           try simp[*]
           obtain rfl:=r_ret hm;exact ret0 (vs:=[_]) (by simp[*];try exact rfl) (by simp[*])
         ·try simp[*]
          refine r_cond hm ?_ ?_<;>clear hm<;>intro hc20 hm
          ·try simp[*]
           refine Wait.cut (Plan.then_ [0,2] (.two 1 3 (Plan.then_ [3,4,5] .done) (Plan.then_ [1,4,5] .done))) follows (by kernel_rfl) (fun e21 h21=>e21.n=115∧e21.get 2=.one (.ptr (1,32) 0)∧e21.get 3=.one (.ptr (2,48) 0)∧h21.box (1,32)=some zS∧h21.box (2,48)=some [.d (.int .i64 step.kind),zs,zs,zs,zs,zi,.nil,zs,zi,zi,zs,.d (.str step.newTable.name),.d (.sl (step.newTable.cols.map Col.enc)),.d (.sl (step.newTable.pk.map encI)),zs,zi,zs,zi,zi,zi,zs,zs,.nil,zs]) ?_ ?_
           ·try simp[*,Plan.then_,vcPlan,Z01,Z00,callKind]
            repeat' (first | with_reducible refine And.intro ?_ ?_ | (refine CutK.of ?_;simp[*];done))
           ·rintro e21 h21 ⟨hn21,h21_2,h21_3,hb21_b2,hb21_b3⟩
            try simp[*]
            obtain rfl:=r_ret hm;exact ret0 (vs:=[_]) (by simp[*];try exact rfl) (by simp[*])
          ·try simp[*]
           refine r_cond hm ?_ ?_<;>clear hm<;>intro hc22 hm
           ·try simp[*]
            refine Wait.cut (Plan.then_ [0,1,2,4] (.two 3 5 (Plan.then_ [5,6,7] .done) (Plan.then_ [3,6,7] .done))) follows (by kernel_rfl) (fun e23 h23=>e23.n=115∧e23.get 2=.one (.ptr (1,32) 0)∧e23.get 3=.one (.ptr (2,48) 0)∧h23.box (1,32)=some zS∧h23.box (2,48)=some [.d (.int .i64 step.kind),.d (.str step.table),zs,.d (.str step.column),zs,zi,.d (.sl (step.cols.map encI)),zs,zi,zi,zs,zs,.nil,.nil,zs,zi,zs,zi,zi,zi,zs,zs,.nil,zs]) ?_ ?_
            ·try simp[*,Plan.then_,vcPlan,Z01,Z00,callKind]
             repeat' (first | with_reducible refine And.intro ?_ ?_ | (refine CutK.of ?_;simp[*];done))
            ·rintro e23 h23 ⟨hn23,h23_2,h23_3,hb23_b2,hb23_b3⟩
             try simp[*]
             obtain rfl:=r_ret hm;exact ret0 (vs:=[_]) (by simp[*];try exact rfl) (by simp[*])
           ·try simp[*]
            refine r_cond hm ?_ ?_<;>clear hm<;>intro hc24 hm
            ·try simp[*]
             refine Wait.cut (Plan.then_ [0,2] (.two 1 3 (Plan.then_ [3,4,5] .done) (Plan.then_ [1,4,5] .done))) follows (by kernel_rfl) (fun e25 h25=>e25.n=115∧e25.get 2=.one (.ptr (1,32) 0)∧e25.get 3=.one (.ptr (2,48) 0)∧h25.box (1,32)=some zS∧h25.box (2,48)=some [.d (.int .i64 step.kind),zs,zs,zs,zs,zi,.nil,zs,zi,zi,zs,zs,.nil,.nil,.d (.str step.cons.table),.d (.int .i64 step.cons.left),.d (.str step.cons.op),.d (.int .i64 step.cons.right),.d (.int .i64 step.cons.value.kind),.d (.int .i64 step.cons.value.int),.d (.str step.cons.value.text),zs,.nil,zs]) ?_ ?_
             ·try simp[*,Plan.then_,vcPlan,Z01,Z00,callKind]
              repeat' (first | with_reducible refine And.intro ?_ ?_ | (refine CutK.of ?_;simp[*];done))
             ·rintro e25 h25 ⟨hn25,h25_2,h25_3,hb25_b2,hb25_b3⟩
              try simp[*]
              obtain rfl:=r_ret hm;exact ret0 (vs:=[_]) (by simp[*];try exact rfl) (by simp[*])
            ·try simp[*]
             refine r_cond hm ?_ ?_<;>clear hm<;>intro hc26 hm
             ·try simp[*]
              refine Wait.cut (Plan.then_ [0,2] (.two 1 3 (Plan.then_ [3,4,5] .done) (Plan.then_ [1,4,5] .done))) follows (by kernel_rfl) (fun e27 h27=>e27.n=115∧e27.get 2=.one (.ptr (1,32) 0)∧e27.get 3=.one (.ptr (2,48) 0)∧h27.box (1,32)=some zS∧h27.box (2,48)=some [.d (.int .i64 step.kind),zs,zs,zs,zs,zi,.nil,zs,zi,zi,zs,zs,.nil,.nil,.d (.str step.cons.table),.d (.int .i64 step.cons.left),.d (.str step.cons.op),.d (.int .i64 step.cons.right),.d (.int .i64 step.cons.value.kind),.d (.int .i64 step.cons.value.int),.d (.str step.cons.value.text),zs,.nil,zs]) ?_ ?_
              ·try simp[*,Plan.then_,vcPlan,Z01,Z00,callKind]
               repeat' (first | with_reducible refine And.intro ?_ ?_ | (refine CutK.of ?_;simp[*];done))
              ·rintro e27 h27 ⟨hn27,h27_2,h27_3,hb27_b2,hb27_b3⟩
               try simp[*]
               obtain rfl:=r_ret hm;exact ret0 (vs:=[_]) (by simp[*];try exact rfl) (by simp[*])
             ·try simp[*]
              refine r_cond hm ?_ ?_<;>clear hm<;>intro hc28 hm
              ·try simp[*]
               refine Wait.cut (Plan.then_ [0,2] (.two 1 3 (Plan.then_ [3,4,5] .done) (Plan.then_ [1,4,5] .done))) follows (by kernel_rfl) (fun e29 h29=>e29.n=115∧e29.get 2=.one (.ptr (1,32) 0)∧e29.get 3=.one (.ptr (2,48) 0)∧h29.box (1,32)=some zS∧h29.box (2,48)=some [.d (.int .i64 step.kind),zs,zs,zs,zs,zi,.nil,zs,zi,zi,zs,zs,.nil,.nil,zs,zi,zs,zi,zi,zi,zs,.d (.str step.fk.table),.d (.sl (step.fk.cols.map encI)),.d (.str step.fk.ref)]) ?_ ?_
               ·try simp[*,Plan.then_,vcPlan,Z01,Z00,callKind]
                repeat' (first | with_reducible refine And.intro ?_ ?_ | (refine CutK.of ?_;simp[*];done))
               ·rintro e29 h29 ⟨hn29,h29_2,h29_3,hb29_b2,hb29_b3⟩
                try simp[*]
                obtain rfl:=r_ret hm;exact ret0 (vs:=[_]) (by simp[*];try exact rfl) (by simp[*])
              ·try simp[*]
               refine r_cond hm ?_ ?_<;>clear hm<;>intro hc30 hm
               ·try simp[*]
                refine Wait.cut (Plan.then_ [0,2] (.two 1 3 (Plan.then_ [3,4,5] .done) (Plan.then_ [1,4,5] .done))) follows (by kernel_rfl) (fun e31 h31=>e31.n=115∧e31.get 2=.one (.ptr (1,32) 0)∧e31.get 3=.one (.ptr (2,48) 0)∧h31.box (1,32)=some zS∧h31.box (2,48)=some [.d (.int .i64 step.kind),zs,zs,zs,zs,zi,.nil,zs,zi,zi,zs,zs,.nil,.nil,zs,zi,zs,zi,zi,zi,zs,.d (.str step.fk.table),.d (.sl (step.fk.cols.map encI)),.d (.str step.fk.ref)]) ?_ ?_
                ·try simp[*,Plan.then_,vcPlan,Z01,Z00,callKind]
                 repeat' (first | with_reducible refine And.intro ?_ ?_ | (refine CutK.of ?_;simp[*];done))
                ·rintro e31 h31 ⟨hn31,h31_2,h31_3,hb31_b2,hb31_b3⟩
                 try simp[*]
                 obtain rfl:=r_ret hm;exact ret0 (vs:=[_]) (by simp[*];try exact rfl) (by simp[*])
               ·try simp[*]
                obtain rfl:=r_ret hm;exact ret0 (vs:=[_]) (by simp[*];try exact rfl) (by simp[*])
instance i_evolution_normalized (step:Stp):Con (Z2d step) Tryz.prog 155 [.agg step.enc] (fun r=>.agg (r.enc.map RC.d)):=⟨fun r hm=>Z8v step r hm⟩
def Z2z (step:Stp):Option Int:=
 (bif decide (step.kind < 1) then (some 3) else (bif decide (16 < step.kind) then (some 3) else (bindK (Z2d step) fun v4=>(bindK (Z53 step v4) fun v5=>(bif !v5 then (some 3) else (some 0))))))
instance c_evolution_Validate (step:Stp):Con (Z2z step) Tryz.prog 135 [.agg step.enc] (fun r=>.one (.d (.int .i64 r))):=by
 unfold Z2z;have p1:PH [1] (Plan.then_ [0,1,2,3,4,5,6,7,8,9,10,11,12,13,14] .done):=.intro;exact go 18 Tryz.func135 rfl (by kernel_rfl) rfl rfl (by simp)
end
section
open Go Go.Am
def schZ:Sch:=⟨[],[],[]⟩
def Z1e (S:Sch) (x:Stp):Option (Sch × Int):=
 bindK (Z0r S) fun e=>bif e != 0 then some (schZ,e) else bindK (Z2z x) fun e2=>bif e2 != 0 then some (schZ,e2) else
 chkK (schOK S∧stpOK x) (bindK (Z43 S x) fun q=>bif q.2 != 0 then some (schZ,q.2) else bindK (Z0r q.1) fun e3=>bif e3 != 0 then some (schZ,e3) else some (q.1,0))
theorem Zdu {h:HS} {cs:List C} {S:Sch} {r:Int} (hf:FrzCs h cs S.enc):FrzFin h (.tup [.agg cs,.one (.d (.int .i64 r))]) (.tup [.agg (S.enc.map RC.d),.one (.d (.int .i64 r))]):=by
 match cs,hf with
 | [a,b,c],hf=>exact⟨⟨hf.1,hf.2.1,hf.2.2.1,trivial⟩,Frz.data rfl,trivial⟩
set_option maxHeartbeats 1000000 in
theorem Z58 (S:Sch) (x:Stp) (r:Sch × Int) (hm:Is (Z1e S x) r):PSpec Tryz.prog 97 [.agg S.enc,.agg x.enc] (.tup [.agg (r.1.enc.map RC.d),.one (.d (.int .i64 r.2))]):=by
 refine PSpec.of_heap ?_;obtain⟨R,q⟩:=r;simp only at hm ⊢;replace hm:=hm.bind;obtain⟨ev,hev,hm⟩:=hm;show HSpec _ _ [.agg (S.enc.map C.d),.agg (x.enc.map C.d)] HS.init _;refine HSpec.good Tryz.func97 rfl (by kernel_rfl) fun hg=>?_;refine HSpec.of_vc Tryz.func97 rfl (by kernel_rfl) (n:=39) rfl rfl (by simp) ?_;simp;refine Z02 (HSpec.of_lend (c_schema_Validate S ev hev) ⟨.agg (FrzCs.datas (ds:=S.enc)),trivial⟩ rfl ?_);simp;cases hev0:ev != 0 with
 | true=>
   simp only[hev0,cond_true] at hm;have e1:=r_ret hm;simp only[Prod.mk.injEq] at e1;obtain⟨rfl,rfl⟩:=e1;simp[hev0,retH,resVs,resV,notTup];exact Zdu ⟨.data rfl,.data rfl,.data rfl,trivial⟩
 | false=>
   simp only[hev0,cond_false] at hm;replace hm:=hm.bind;obtain⟨e2,he2,hm⟩:=hm;simp[hev0];refine Z02 (HSpec.of_lend (c_evolution_Validate x e2 he2) ⟨.agg (FrzCs.datas (ds:=x.enc)),trivial⟩ rfl ?_);simp;cases he20:e2 != 0 with
   | true=>
     simp only[he20,cond_true] at hm;have e1:=r_ret hm;simp only[Prod.mk.injEq] at e1;obtain⟨rfl,rfl⟩:=e1;simp[he20,retH,resVs,resV,notTup];exact Zdu ⟨.data rfl,.data rfl,.data rfl,trivial⟩
   | false=>
     simp only[he20,cond_false] at hm;replace hm:=hm.chk;obtain⟨⟨hS,hx⟩,hm⟩:=hm;replace hm:=hm.bind;obtain⟨⟨S1,q1⟩,hm1,hm⟩:=hm;simp only at hm;simp[he20];refine Z02 (Zeh _ S hS _ (fun tc fc oc qt qf qo g1 pt pf po nd new hs1=>?_));have b4:=hs1.2 (2,64) (by simp) (by simp);have b3:=hs1.2 (1,48) (by simp) (by simp);have hep1:=hs1.1;simp at b4 b3 hep1;simp[b3];have hz:Same g1 ((g1.setBox (g1.ep,128) [.nil,.nil,.nil]).next.setBox (g1.ep,128) [tc,fc,oc]) []:=((Same.refl.setBox (.inr (Nat.le_refl _))).next).setBox (.inr (Nat.le_refl _));have sB:Sc ((g1.setBox (g1.ep,128) [.nil,.nil,.nil]).next.setBox (g1.ep,128) [tc,fc,oc]) (g1.ep,128) S tc fc oc (plabs tc qt) (plabs fc qf) (plabs oc qo):=by
      refine⟨qt,qf,qo,rfl,rfl,rfl,by simp,pt.frame fun k hk=>hz.2 k (new k (by simp[hk])).2 (by simp),pf.frame fun k hk=>hz.2 k (new k (by simp[hk])).2 (by simp),po.frame fun k hk=>hz.2 k (new k (by simp[hk])).2 (by simp),?_,fun k hk=>?_⟩
      ·rw[List.nodup_cons];exact⟨fun hk=>by have:=(new _ hk).2;simp at this,nd⟩
      ·rcases List.mem_cons.1 hk with rfl | hk
       ·simp
       ·have:=(new k hk).2;simp<;>omega
     have b4B:((g1.setBox (g1.ep,128) [.nil,.nil,.nil]).next.setBox (g1.ep,128) [tc,fc,oc]).box (2,64)=some [.nil,.nil,.nil]:=by simp[b4]
     have hepB:g1.ep < ((g1.setBox (g1.ep,128) [.nil,.nil,.nil]).next.setBox (g1.ep,128) [tc,fc,oc]).ep:=by simp
     have newB:∀ k ∈ (g1.ep,128)::(plabs tc qt++(plabs fc qf++plabs oc qo)),5≤k.1:=fun k hk=>by
      rcases List.mem_cons.1 hk with rfl | hk
      ·exact hep1
      ·have:=(new k hk).1;simpa using this
     refine Z02 (Zc2 _ x hx _ (fun cs g2 lx ox ndx nwx hs2 hb2=>?_));have s2:=sB.frame hs2;have b42:g2.box (2,64)=some [.nil,.nil,.nil]:=by rw[hs2.2 _ (by simp<;>omega) (by simp)];exact b4B
     simp;refine Z02 (Zc1 g2 (g1.ep,128) tc fc oc cs _ _ _ lx S S1 x q1 hm1 s2 ox ⟨ndx,fun k hk=>⟨(nwx k hk).2,fun h9=>by have:=sB.lt k h9;have:=(nwx k hk).1;omega⟩⟩ _ ?_);intro g3 ls3 ho3 hs3 hl3;obtain⟨tc3,fc3,oc3,ta3,fa3,oa3,rfl,s3⟩:=ho3.sc;have b43:g3.box (2,64)=some [.nil,.nil,.nil]:=by
      rw[hs3.2 _ (by have:=hs2.1;simp at this ⊢;omega) fun h9=>?_]
      ·exact b42
      ·simp only[List.mem_cons,List.mem_append] at h9;rcases h9 with h9 | h9 | h9
       ·simp at h9
       ·have:=newB (2,64) (by simp only[List.mem_cons,List.mem_append];exact .inr h9);simp at this
       ·have:=(nwx _ h9).1;simp at this;omega
     have hb3:=s3.box;simp;cases hq0:q1 != 0 with
     | true=>
       simp only[hq0,cond_true] at hm;have e1:=r_ret hm;simp only[Prod.mk.injEq] at e1;obtain⟨rfl,rfl⟩:=e1;simp[hq0,b43,retH,resVs,resV,notTup];exact Zdu ⟨.data rfl,.data rfl,.data rfl,trivial⟩
     | false=>
       simp only[hq0,cond_false] at hm;replace hm:=hm.bind;obtain⟨e3,he3,hm⟩:=hm;simp[hq0,hb3];refine Z02 (HSpec.of_lend (c_schema_Validate S1 e3 he3) ⟨.agg s3.frz,trivial⟩ rfl ?_);simp;cases he30:e3 != 0 with
       | true=>
         simp only[he30,cond_true] at hm;have e1:=r_ret hm;simp only[Prod.mk.injEq] at e1;obtain⟨rfl,rfl⟩:=e1;simp[he30,b43,retH,resVs,resV,notTup];exact Zdu ⟨.data rfl,.data rfl,.data rfl,trivial⟩
       | false=>
         simp only[he30,cond_false] at hm;have e1:=r_ret hm;simp only[Prod.mk.injEq] at e1;obtain⟨rfl,rfl⟩:=e1;simp[he30,b43,hb3,retH,resVs,resV,notTup];refine Zdu ((s3.frame2 (lz:=[(2,64)]) (Same.refl.next.setBox (.inl (by simp))) fun k hk h9=>?_).frz);simp at hk;subst hk;simp only[List.mem_cons] at h9;rcases h9 with h9 | h9
         ·simp at h9
         ·rcases hl3 _ h9 with h8 | h8
          ·rcases List.mem_append.1 h8 with h8 | h8
           ·have:=newB (2,64) (List.mem_cons_of_mem _ h8);simp at this
           ·have:=(nwx _ h8).1;simp at this;omega
          ·have:=hs2.1;simp at this h8;omega
end
section
open Go.Am
instance i_evolution_Apply (s_:Sch) (step:Stp):Con (Z1e s_ step) Tryz.prog 97 [.agg s_.enc,.agg step.enc] (fun r=>.tup [.agg (r.1.enc.map RC.d),.one (.d (.int .i64 r.2))]):=⟨fun r hm=>Z58 s_ step r hm⟩
def Z5o (s_:Sch) (step:Stp):Option (Sch × Int):=
 (bindK (Z1e s_ step) fun v4=>(bif (v4.2 != 0) then (some ((Sch.mk [] [] []),v4.2)) else (bif (step.kind == 13) then (bindK (Z12 s_) fun v8=>(some ((Sch.mk v8.tables [] []),0))) else (bif (step.kind == 14) then (bindK (Z12 s_) fun v10=>(some ((Sch.mk v10.tables [] []),0))) else (bif (step.kind == 15) then (bindK (Z12 s_) fun v12=>(some ((Sch.mk v12.tables [] []),0))) else (bif (step.kind == 16) then (bindK (Z12 s_) fun v14=>(some ((Sch.mk v14.tables [] []),0))) else (bif (step.kind == 3) then (some ((Sch.mk [] [] []),0)) else (bif (step.kind == 4) then (some ((Sch.mk [] [] []),0)) else (bif (step.kind == 9) then (some ((Sch.mk [] [] []),0)) else (bindK (Z4s s_ v4.1 step) fun v18=>(some ((Sch.mk [v18] [] []),0))))))))))))
instance c_complement_Schema (s_:Sch) (step:Stp):Con (Z5o s_ step) Tryz.prog 138 [.agg s_.enc,.agg step.enc] (fun r=>.tup [.agg (r.1.enc.map RC.d),.one (.d (.int .i64 r.2))]):=by
 unfold Z5o;exact go 40 Tryz.func138 rfl (by kernel_rfl) rfl rfl (by simp)
def Z4i (s_:Sch) (step:Stp):Option (Sch × Sch × Int):=
 (bindK (Z1e s_ step) fun v5=>(bif (v5.2 != 0) then (some ((Sch.mk [] [] []),(Sch.mk [] [] []),v5.2)) else (bindK (Z5o s_ step) fun v8=>(some (v5.1,v8.1,v8.2)))))
theorem Z7t (s_:Sch) (step:Stp) (r:Sch × Sch × Int) (hm:Is (Z4i s_ step) r):PSpec Tryz.prog 98 [.agg s_.enc,.agg step.enc] (.tup [.agg (r.1.enc.map RC.d),.agg (r.2.1.enc.map RC.d),.one (.d (.int .i64 r.2.2))]):=by
 unfold Z4i at hm;refine PSpec.of_vc Tryz.func98 rfl (by kernel_rfl) (n:=30) rfl rfl (by simp) ?_
 try simp[*]
 refine r_call (av:=[.agg s_.enc,.agg step.enc]) hm (fun v hv=>Z58 _ _ v hv) (by simp[*]) ?_;clear hm;intro v5 hvv5 hm
 try simp[*]
 refine r_cond hm ?_ ?_<;>clear hm<;>intro hc7 hm
 ·try simp[*]
  obtain rfl:=r_ret hm;exact ret0 (vs:=[_,_,_]) (by simp[*];try exact⟨rfl,rfl,rfl⟩) (by simp[*])
 ·try simp[*]
  refine r_call (av:=[.agg s_.enc,.agg step.enc]) hm (fun v hv=>c_complement_Schema _ _ v hv) (by simp[*]) ?_;clear hm;intro v8 hvv8 hm
  try simp[*]
  refine Wait.cut (Plan.then_ [0,2] (.two 1 3 (Plan.then_ [3,4,5] .done) (Plan.then_ [1,4,5] .done))) follows (by kernel_rfl) (fun e10 h10=>e10.n=30∧e10.get 4=.one (.ptr (2,64) 0)∧e10.get 5=.one (.ptr (3,80) 0)∧e10.get 6=.one (.d (.int .i64 v8.2))∧h10.box (2,64)=some [.d (.sl (v5.1.tables.map Tbl.enc)),.d (.sl (v5.1.fks.map Fk.enc)),.d (.sl (v5.1.cons.map Cons.enc))]∧h10.box (3,80)=some [.d (.sl (v8.1.tables.map Tbl.enc)),.d (.sl (v8.1.fks.map Fk.enc)),.d (.sl (v8.1.cons.map Cons.enc))]) ?_ ?_
  ·try simp[*,Plan.then_,vcPlan,Z01,Z00,callKind]
   repeat' (first | with_reducible refine And.intro ?_ ?_ | (refine CutK.of ?_;simp[*];done))
  ·rintro e10 h10 ⟨hn10,h10_4,h10_5,h10_6,hb10_b3,hb10_b4⟩
   try simp[*]
   obtain rfl:=r_ret hm;exact ret0 (vs:=[_,_,_]) (by simp[*];try exact⟨rfl,rfl,rfl⟩) (by simp[*])
instance i_lens_schemas (s_:Sch) (step:Stp):Con (Z4i s_ step) Tryz.prog 98 [.agg s_.enc,.agg step.enc] (fun r=>.tup [.agg (r.1.enc.map RC.d),.agg (r.2.1.enc.map RC.d),.one (.d (.int .i64 r.2.2))]):=⟨fun r hm=>Z7t s_ step r hm⟩
def Z54 (step:Stp):Option Stp:=
 (bindK (Z2r step.cols) fun v3=>(bindK (Z3b step.newTable) fun v4=>(bindK (Z2r step.fk.cols) fun v5=>(some (Stp.mk step.kind step.table step.other step.column step.newName step.type v3 step.op step.value v4 step.cons (Fk.mk step.fk.table v5 step.fk.ref))))))
instance c_evolution_Clone (step:Stp):Con (Z54 step) Tryz.prog 137 [.agg step.enc] (fun r=>.agg (r.enc.map RC.d)):=by
 unfold Z54;exact go 18 Tryz.func137 rfl (by kernel_rfl) rfl rfl (by simp)
end
section
open Go Go.Am
def Z7n (S:Sch) (step:Stp) (source comp:List Rel):Option (List Rel × List Rel × Int):=
 bindK (Z4i S step) fun q=>bif q.2.2 != 0 then some ([],[],q.2.2) else
 bindK (Z54 step) fun st=>bindK (Z12 S) fun S2=>Z9m ⟨st,true,S2,q.1,q.2.1,[],[],[],[],0⟩ source comp
def Z76 (S:Sch) (step:Stp) (target comp:List Rel):Option (List Rel × List Rel × Int):=
 bindK (Z4i S step) fun q=>bif q.2.2 != 0 then some ([],[],q.2.2) else
 bindK (Z54 step) fun st=>bindK (Z12 S) fun S2=>Z9m ⟨st,false,q.1,S2,q.2.1,[],[],[],[],0⟩ target comp
theorem Zek (S:Sch) (step:Stp) (source comp:List Rel) (r:List Rel × List Rel × Int) (hm:Is (Z7n S step source comp) r) :
  PSpec Tryz.prog 140 [.agg S.enc,.agg step.enc,.one (.d (.sl (source.map Rel.enc))),.one (.d (.sl (comp.map Rel.enc)))] (.tup [.one (.d (.sl (r.1.map Rel.enc))),.one (.d (.sl (r.2.1.map Rel.enc))),.one (.d (.int .i64 r.2.2))]):=by
 unfold Z7n at hm;refine PSpec.of_heap ?_;show HSpec _ _ [.agg (S.enc.map C.d),.agg (step.enc.map C.d),.one (.d (.sl (source.map Rel.enc))),.one (.d (.sl (comp.map Rel.enc)))] HS.init _;refine HSpec.of_vc Tryz.func140 rfl (by kernel_rfl) (n:=40) rfl rfl (by simp) ?_;obtain⟨q,hq,hm⟩:=hm.bind;simp;refine Z09 (Z7t S step q hq) (by simp) ?_;simp;refine r_cond hm ?_ ?_<;>clear hm<;>intro hc hm
 ·obtain rfl:=r_ret hm;simp[retH,resVs,resV,notTup];exact⟨.data rfl,.data rfl,.data rfl,trivial⟩
 ·obtain⟨st,hst,hm⟩:=hm.bind;obtain⟨S2,hS2,hm⟩:=hm.bind;simp;refine Wait.cut (Plan.then_ [0,2,4,5,1,3,6,7,8] .done) follows (by kernel_rfl) (fun e1 h1=>∃ l,e1.n=40∧e1.get 2=.one (.d (.sl (source.map Rel.enc)))∧e1.get 3=.one (.d (.sl (comp.map Rel.enc)))∧e1.get 14=.one (.ptr l 0)∧l.1 < h1.ep∧h1.box l=some (mpIn ⟨st,true,S2,q.1,q.2.1,[],[],[],[],0⟩)) ?_ ?_
  ·simp[Plan.then_,vcPlan,Z01,Z00,callKind];refine Z09 ((c_evolution_Clone step).h st hst) (by simp) ?_;simp[Plan.then_,vcPlan,Z01,Z00,callKind]
   try refine⟨fun _ _ x=>x,?_⟩
   refine Z09 (Z5i S S2 hS2) (by simp) ?_;simp[Plan.then_,vcPlan,Z01,Z00,callKind];refine⟨fun _ _ x=>x,?_⟩
   try simp[Plan.then_,vcPlan,Z01,Z00,callKind]
   exact CutK.of ⟨(7,512),by simp,by simp,by simp,by simp,by simp,by simp[mpIn,Stp.enc]⟩
  ·rintro e1 h1 ⟨l,en,e2,e3,e14,hl,hb⟩;simp[en,e2,e3,e14];refine Z02 (Zev _ l _ source comp r hb hl hm _ fun c1 c2 h2 f1 f2=>?_);simp[retH,resVs,resV,notTup,en];exact⟨f1,f2,.data rfl,trivial⟩
theorem Ze3 (S:Sch) (step:Stp) (target comp:List Rel) (r:List Rel × List Rel × Int) (hm:Is (Z76 S step target comp) r) :
  PSpec Tryz.prog 141 [.agg S.enc,.agg step.enc,.one (.d (.sl (target.map Rel.enc))),.one (.d (.sl (comp.map Rel.enc)))] (.tup [.one (.d (.sl (r.1.map Rel.enc))),.one (.d (.sl (r.2.1.map Rel.enc))),.one (.d (.int .i64 r.2.2))]):=by
 unfold Z76 at hm;refine PSpec.of_heap ?_;show HSpec _ _ [.agg (S.enc.map C.d),.agg (step.enc.map C.d),.one (.d (.sl (target.map Rel.enc))),.one (.d (.sl (comp.map Rel.enc)))] HS.init _;refine HSpec.of_vc Tryz.func141 rfl (by kernel_rfl) (n:=40) rfl rfl (by simp) ?_;obtain⟨q,hq,hm⟩:=hm.bind;simp;refine Z09 (Z7t S step q hq) (by simp) ?_;simp;refine r_cond hm ?_ ?_<;>clear hm<;>intro hc hm
 ·obtain rfl:=r_ret hm;simp[retH,resVs,resV,notTup];exact⟨.data rfl,.data rfl,.data rfl,trivial⟩
 ·obtain⟨st,hst,hm⟩:=hm.bind;obtain⟨S2,hS2,hm⟩:=hm.bind;simp;refine Wait.cut (Plan.then_ [0,2,3,5,1,4,6,7,8] .done) follows (by kernel_rfl) (fun e1 h1=>∃ l,e1.n=40∧e1.get 2=.one (.d (.sl (target.map Rel.enc)))∧e1.get 3=.one (.d (.sl (comp.map Rel.enc)))∧e1.get 14=.one (.ptr l 0)∧l.1 < h1.ep∧h1.box l=some (mpIn ⟨st,false,q.1,S2,q.2.1,[],[],[],[],0⟩)) ?_ ?_
  ·simp[Plan.then_,vcPlan,Z01,Z00,callKind];refine Z09 ((c_evolution_Clone step).h st hst) (by simp) ?_;simp[Plan.then_,vcPlan,Z01,Z00,callKind]
   try refine⟨fun _ _ x=>x,?_⟩
   refine Z09 (Z5i S S2 hS2) (by simp) ?_;simp[Plan.then_,vcPlan,Z01,Z00,callKind];refine⟨fun _ _ x=>x,?_⟩
   try simp[Plan.then_,vcPlan,Z01,Z00,callKind]
   exact CutK.of ⟨(7,512),by simp,by simp,by simp,by simp,by simp,by simp[mpIn,Stp.enc]⟩
  ·rintro e1 h1 ⟨l,en,e2,e3,e14,hl,hb⟩;simp[en,e2,e3,e14];refine Z02 (Zev _ l _ target comp r hb hl hm _ fun c1 c2 h2 f1 f2=>?_);simp[retH,resVs,resV,notTup,en];exact⟨f1,f2,.data rfl,trivial⟩
end
section
open Go.Am
def Z1b (s_:Sch) (script:List Stp):Option ((List Sch) × Int):=
 (bif decide (6 < (script.length:Int)) then (some ([],2)) else (bindK (Z0r s_) fun v4=>(bif (v4 != 0) then (some ([],v4)) else (bindK (Z12 s_) fun v6=>(forK (fun (i8:Nat) (x8:Stp) (s8:(List Sch)) next_8=>(getK s8 (i8:Int) fun x10=>(bindK (Z1e x10 x8) fun v11=>(bif (v11.2 != 0) then (some ([],v11.2)) else (appK2 s8 [v11.1] fun _=>(next_8 (s8++[v11.1]))))))) (fun (s8:(List Sch))=>(some (s8,0))) script 0 [v6])))))
theorem Z6t (s_:Sch) (script:List Stp) (r:(List Sch) × Int) (hm:Is (Z1b s_ script) r):PSpec Tryz.prog 70 [.agg s_.enc,.one (.d (.sl (script.map Stp.enc)))] (.tup [.one (.d (.sl (r.1.map Sch.enc))),.one (.d (.int .i64 r.2))]):=by
 unfold Z1b at hm;refine PSpec.of_vc Tryz.func70 rfl (by kernel_rfl) (n:=48) rfl rfl (by simp) ?_
 try simp[*]
 intro hl2;replace hl2:script.length≤2097152:=by simpa using hl2
 refine r_cond hm ?_ ?_<;>clear hm<;>intro hc3 hm
 ·try simp[*]
  obtain rfl:=r_ret hm;exact ret0 (vs:=[_,_]) (by simp[*];try exact⟨rfl,rfl⟩) (by simp[*])
 ·try simp[*]
  refine r_call (av:=[.agg s_.enc]) hm (fun v hv=>c_schema_Validate _ v hv) (by simp[*]) ?_;clear hm;intro v4 hvv4 hm
  try simp[*]
  refine r_cond hm ?_ ?_<;>clear hm<;>intro hc5 hm
  ·try simp[*]
   obtain rfl:=r_ret hm;exact ret0 (vs:=[_,_]) (by simp[*];try exact⟨rfl,rfl⟩) (by simp[*])
  ·try simp[*]
   refine r_call (av:=[.agg s_.enc]) hm (fun v hv=>Z5i _ v hv) (by simp[*]) ?_;clear hm;intro v6 hvv6 hm
   try simp[*]
   refine Wait.for (xs:=script) (s0:=[v6]) (fun i8 s8 e8 h8=>∃ c8_0:C,e8.n=48∧e8.get 7=.one c8_0∧e8.get 23=.one (.d (.sl (script.map Stp.enc)))∧e8.get 24=.one (.d (.int .i64 (script.length:Int)))∧e8.get 25=.one (.d (.int .i64 (i8:Int)))∧Grows h8 3 c8_0 (s8.map Sch.enc)) hm ⟨.own (3,352) ([v6].map Sch.enc),by simp (maxDischargeDepth:=20) [*]⟩ ?_ ?_
   ·rintro i8 s8 e8 h8 ⟨c8_0,hn8,h8_7,h8_23,h8_24,h8_25,gc8_0⟩ hlt8 hm;have hlc8_0:=gc8_0.list;have hdc8_0:=gc8_0.toD;have hac8_0:=gc8_0.toA;have huc8_0:=gc8_0.useUp_arr;have hw8:IntKind.i64.wrap ((i8:Int)+1)=(i8:Int)+1:=IntWalk.i64_in _ (by omega)
    try simp[*]
    refine Wait.of (SWP.draw (Plan.then_ [0,1,2,3,4] (.two 5 9 (Plan.then_ [6,7,8,9,10,11] .done) (Plan.then_ [5,6,7,8,10,11] .done))) follows (by kernel_rfl) ?_)
    try simp[*,Plan.then_,vcPlan,Z01,Z00,callKind]
    replace hm:=hm.getN;obtain⟨x10,hxx10,hm⟩:=hm
    try simp[*,Plan.then_,vcPlan,Z01,Z00,callKind]
    rcases gc8_0.1 with ⟨hzc8_0,hzz⟩ | ⟨lc8_0,hzc8_0,hz1,hz2⟩
    ·exact absurd hxx10 (by simp at hzz;subst hzz;simp)
    try simp[*,Plan.then_,vcPlan,Z01,Z00,callKind]
    refine⟨?_,?_⟩
    ·try simp[*,Plan.then_,vcPlan,Z01,Z00,callKind]
     refine r_call (av:=[.agg x10.enc,.agg (script[i8]).enc]) hm (fun v hv=>Z58 _ _ v hv) (by simp[*]) ?_;clear hm;intro v11 hvv11 hm
     try simp[*,Plan.then_,vcPlan,Z01,Z00,callKind]
     try refine⟨fun (_:Lab) (_:List C) hl=>hl,?_⟩
     refine r_cond hm ?_ ?_<;>clear hm<;>intro hc13 hm
     ·try simp[*]
      obtain rfl:=r_ret hm;exact ret0 (vs:=[_,_]) (by simp[*];try exact⟨rfl,rfl⟩) (by simp[*])
     ·try simp[*]
      refine r_app (xs:=s8) (ys:=[v11.1]) (enc:=Sch.enc) hm Z9h (by first | exact Grows.nil | (simp (maxDischargeDepth:=20) [*];done) | (simp (maxDischargeDepth:=20) [*];refine⟨?_,by omega⟩;intro hq;subst hq;simp at hz2<;>omega)) (by simp[*]) (by decide) (by decide) (fun _=>rfl) ?_;clear hm;intro hl15 hm g14
      try simp[*]
      exact BackF.of (s8++[v11.1]) ⟨⟨.own (h8.ep+4,720) ((s8++[v11.1]).map Sch.enc),by simp (maxDischargeDepth:=20) [*]⟩,hm⟩
    ·try simp[*,Plan.then_,vcPlan,Z01,Z00,callKind]
     refine r_call (av:=[.agg x10.enc,.agg (script[i8]).enc]) hm (fun v hv=>Z58 _ _ v hv) (by simp[*]) ?_;clear hm;intro v1012 hvv1012 hm
     try simp[*,Plan.then_,vcPlan,Z01,Z00,callKind]
     try refine⟨fun (_:Lab) (_:List C) hl=>hl,?_⟩
     refine r_cond hm ?_ ?_<;>clear hm<;>intro hc1013 hm
     ·try simp[*]
      obtain rfl:=r_ret hm;exact ret0 (vs:=[_,_]) (by simp[*];try exact⟨rfl,rfl⟩) (by simp[*])
     ·try simp[*]
      refine r_app (xs:=s8) (ys:=[v1012.1]) (enc:=Sch.enc) hm Z9h (by first | exact Grows.nil | (simp (maxDischargeDepth:=20) [*];done) | (simp (maxDischargeDepth:=20) [*];refine⟨?_,by omega⟩;intro hq;subst hq;simp at hz2<;>omega)) (by simp[*]) (by decide) (by decide) (fun _=>rfl) ?_;clear hm;intro hl1015 hm g1014
      try simp[*]
      exact BackF.of (s8++[v1012.1]) ⟨⟨.own (h8.ep+4,720) ((s8++[v1012.1]).map Sch.enc),by simp (maxDischargeDepth:=20) [*]⟩,hm⟩
   ·rintro s8 e8 h8 ⟨c8_0,hn8,h8_7,h8_23,h8_24,h8_25,gc8_0⟩ hm;have hlc8_0:=gc8_0.list;have hdc8_0:=gc8_0.toD;have hac8_0:=gc8_0.toA;have huc8_0:=gc8_0.useUp_arr
    try simp[*]
    obtain rfl:=r_ret hm;exact ret0 (vs:=[_,_]) (by simp[*];try exact⟨rfl,rfl⟩) (by simp[*])
instance i_script_Schemas (s_:Sch) (script:List Stp):Con (Z1b s_ script) Tryz.prog 70 [.agg s_.enc,.one (.d (.sl (script.map Stp.enc)))] (fun r=>.tup [.one (.d (.sl (r.1.map Sch.enc))),.one (.d (.int .i64 r.2))]):=⟨fun r hm=>Z6t s_ script r hm⟩
end
section
open Go Go.Am
def Z4a (h:HS) (c:C) (ds:List D):Prop:=∃ rs,MR h 1 c (ones rs)∧rs.map C.toD=ds.map some
theorem Z4a.frame {h h':HS} {c:C} {ds:List D} (m:Z4a h c ds) (hb:∀ l ∈ labs c,h'.box l=h.box l):Z4a h' c ds:=by
 obtain⟨rs,hm,he⟩:=m;exact⟨rs,hm.frame hb,he⟩
theorem Z4a.frz {h:HS} {c:C} {ds:List D} (m:Z4a h c ds):Frz h c (.sl (ds.map fun d=>[d])):=by
 obtain⟨rs,hm,he⟩:=m;have hl:rs.length=ds.length:=by have:=congrArg List.length he;simpa using this
 refine hm.frz (by simp[ones,hl]) (fun t ht=>by obtain⟨y,_,rfl⟩:=List.mem_map.1 ht;rfl) fun i x t hx ht=>?_;simp only[ones,List.getElem?_map] at hx ht;have h9:=congrArg (fun z=>z[i]?) he;simp only[List.getElem?_map] at h9;cases hr:rs[i]? with
 | none=>rw[hr] at hx;cases hx
 | some r=>
   cases hd:ds[i]? with
   | none=>rw[hd] at ht;cases ht
   | some d=>
     rw[hr] at hx h9;rw[hd] at ht h9;cases hx;cases ht;exact⟨.data (by simpa using h9),trivial⟩
theorem Z4a.at {h:HS} {c:C} {ds:List D} (m:Z4a h c ds) {i:Nat} (hi:i < ds.length):∃ lr cap bs,c=.mrow lr 0 ds.length cap∧h.box lr=some bs∧i+1≤bs.length∧(∃ x,takeN 1 (bs.drop i)=some [x]∧some (x.toD)=some (ds[i]?)) ∧
  ∀ (H:HS) (x:C) (d:D),x.toD=some d→Z4a (H.setBox lr (Z03 bs i [x])) c (ds.set i d):=by
 obtain⟨rs,hm,he⟩:=m;have hl:rs.length=ds.length:=by have:=congrArg List.length he;simpa using this
 obtain⟨lr,cap,sp,hc,hb,hcap⟩:=hm.block (by simp[ones];omega);rw[Zb7] at hb hcap;simp only[ones,List.length_map,hl] at hc;refine⟨lr,cap,rs++sp,hc,hb,by simp;omega,⟨rs[i]'(by omega),?_,?_⟩,fun H x d hx=>⟨rs.set i x,?_,?_⟩⟩
 ·have hd:(rs++sp).drop i=rs[i]'(by omega)::(rs.drop (i+1)++sp):=by
   rw[List.drop_append_of_le_length (by omega),List.drop_eq_getElem_cons (by omega)];rfl
  rw[hd];simp[takeN]
 ·have h9:=congrArg (fun z=>z[i]?) he;simp only[List.getElem?_map,List.getElem?_eq_getElem (show i < rs.length by omega),List.getElem?_eq_getElem hi,Option.map_some,Option.some.injEq] at h9;rw[h9,List.getElem?_eq_getElem hi]
 ·have:=Zik (h:=H) (l:=lr) (cap:=cap) (i:=i) (rs:=rs) (sp:=sp) (x:=x) hcap (by have:=hm.2.1;simpa[ones] using this) (by omega)
  rw[hl] at this;rw[hc];exact this
 ·rw[List.map_set,List.map_set,he,hx]
theorem Z4a.make {h:HS} {l:Lab} {n:Nat} {zc:C} {d:D} (hb:h.box l=some (List.replicate n zc)) (hz:zc.toD=some d) (hn:n≤2097152):Z4a h (.mrow l 0 n n) (List.replicate n d):=by
 refine⟨List.replicate n zc,?_,by simp[hz]⟩
 have:=Zfd (h:=h) (l:=l) (cap:=n) (rs:=List.replicate n zc) (sp:=[]) (by simpa using hb) (by simp) (by simpa using hn)
 simpa using this
def Z5k (S:Sch) (steps:List Stp) (source:List Rel) (comps:List (List Rel)):Option (List Rel × List (List Rel) × Int):=
 bindK (Z1b S steps) fun q=>bif q.2 != 0 then some ([],[],q.2) else bif (comps.length:Int) != (steps.length:Int) then some ([],[],3) else
 bindK (Z0d S source) fun e=>bif e != 0 then some ([],[],e) else bindK (Z0h source) fun inst=>
 forK (fun (i:Nat) (step:Stp) (s:List Rel × List (List Rel)) next=>getK q.1 i fun sch=>getK comps i fun c=>bindK (Z7n sch step s.1 c) fun r=>
  bif r.2.2 != 0 then some ([],[],r.2.2) else next (r.1,s.2.set i r.2.1)) (fun s=>some (s.1,s.2,0)) steps 0 (inst,List.replicate steps.length [])
def Z52 (S:Sch) (steps:List Stp) (target:List Rel) (comps:List (List Rel)):Option (List Rel × List (List Rel) × Int):=
 bindK (Z1b S steps) fun q=>bif q.2 != 0 then some ([],[],q.2) else bif (comps.length:Int) != (steps.length:Int) then some ([],[],3) else
 getK q.1 steps.length fun last=>bindK (Z0d last target) fun e=>bif e != 0 then some ([],[],e) else bindK (Z0h target) fun inst=>
 whileK (fun (s:Int × List Rel × List (List Rel)) next=>bif decide (0≤s.1) then getK q.1 s.1 fun sch=>getK steps s.1 fun step=>getK comps s.1 fun c=>bindK (Z76 sch step s.2.1 c) fun r=>
  bif r.2.2 != 0 then some ([],[],r.2.2) else next (s.1 - 1,r.1,s.2.2.set s.1.toNat r.2.1) else some (s.2.1,s.2.2,0)) (steps.length+1) ((steps.length:Int) - 1,inst,List.replicate steps.length [])
abbrev encI_ (inst:List Rel):D:=.sl (inst.map Rel.enc)
theorem Zct (S:Sch) (steps:List Stp) (source:List Rel) (comps:List (List Rel)) (r:List Rel × List (List Rel) × Int) (hm:Is (Z5k S steps source comps) r) :
  PSpec Tryz.prog 100 [.agg S.enc,.one (.d (.sl (steps.map Stp.enc))),.one (.d (.sl (source.map Rel.enc))),.one (.d (.sl (comps.map (encL Rel.enc))))] (.tup [.one (.d (.sl (r.1.map Rel.enc))),.one (.d (.sl (r.2.1.map (encL Rel.enc)))),.one (.d (.int .i64 r.2.2))]):=by
 unfold Z5k at hm;refine PSpec.of_heap ?_;show HSpec _ _ [.agg (S.enc.map C.d),.one (.d (.sl (steps.map Stp.enc))),.one (.d (.sl (source.map Rel.enc))),.one (.d (.sl (comps.map (encL Rel.enc))))] HS.init _;refine HSpec.of_vc Tryz.func100 rfl (by kernel_rfl) (n:=74) rfl rfl (by simp) ?_;obtain⟨q,hq,hm⟩:=hm.bind;simp;refine Z09 (Z6t S steps q hq) (by simp) ?_;simp;refine r_cond hm ?_ ?_<;>clear hm<;>intro hc hm
 ·obtain rfl:=r_ret hm;simp[retH,resVs,resV,notTup];exact⟨.data rfl,.data rfl,.data rfl,trivial⟩
 simp;intro hcl hsl;refine r_cond hm ?_ ?_<;>clear hm<;>intro hc2 hm
 ·obtain rfl:=r_ret hm;simp[retH,resVs,resV,notTup];exact⟨.data rfl,.data rfl,.data rfl,trivial⟩
 obtain⟨e,he,hm⟩:=hm.bind;simp;refine Z09 ((c_instance_Conforms S source).h e he) (by simp) ?_;simp;refine r_cond hm ?_ ?_<;>clear hm<;>intro hc3 hm
 ·obtain rfl:=r_ret hm;simp[retH,resVs,resV,notTup];exact⟨.data rfl,.data rfl,.data rfl,trivial⟩
 obtain⟨inst,hi,hm⟩:=hm.bind;simp;refine Z09 ((c_instance_Clone source).h inst hi) (by simp) ?_;simp;intro hsl1;refine⟨by omega,fun hsl2=>?_⟩;refine Wait.for (xs:=steps) (s0:=(inst,List.replicate steps.length [])) (fun i s e h'=>∃ c,e.n=74∧e.get 3=.one (.d (.sl (comps.map (encL Rel.enc))))∧e.get 11=.one (.d (.sl (q.1.map Sch.enc)))∧e.get 14=.one (.d (.sl (s.1.map Rel.enc)))∧e.get 15=.one c ∧
  e.get 43=.one (.d (.sl (steps.map Stp.enc)))∧e.get 44=.one (.d (.int .i64 (steps.length:Int)))∧e.get 45=.one (.d (.int .i64 (i:Int)))∧Z4a h' c (s.2.map encI_)∧s.2.length=steps.length∧∀ k ∈ labs c,k.1 < h'.ep) hm
  ⟨.mrow (4,672) 0 steps.length steps.length,by simp,by simp,by simp,by simp,by simp,by simp,by simp,by simp,?_,by simp,by simp[labs]⟩ ?_ ?_
 ·rw[List.map_replicate];refine Z4a.make (zc:=.nil) ?_ rfl (by omega);simp
 ·rintro i s e h' ⟨c,en,e3,e11,e14,e15,e43,e44,e45,mC,hsn,hlc⟩ hlt hm;have hw:IntKind.i64.wrap ((i:Int)+1)=(i:Int)+1:=IntWalk.i64_in _ (by omega);obtain⟨sch,hsch,hm⟩:=hm.getN;obtain⟨cm,hcm,hm⟩:=hm.getN;obtain⟨r2,hr2,hm⟩:=hm.bind;have hi2:i < (s.2.map encI_).length:=by simp;omega
  obtain⟨lr,cap,bs,rfl,hbr,hbl,-,hset⟩:=mC.at hi2;simp at hi2;have hlr:lr.1 < h'.ep:=hlc lr (by simp[labs]);have hno:=ne_new hlr;have hno':=Z6p hlr;simp[en,e3,e11,e14,e15,e43,e44,e45,hlt];refine Wait.cut (Plan.then_ [0,1,2,3,4,5,6,7,8,9,10,11,12,13,14,15,16,17,18,19,20] .done) follows (by kernel_rfl) (fun e1 h1=>e1.n=74∧e1.get 3=.one (.d (.sl (comps.map (encL Rel.enc))))∧e1.get 11=.one (.d (.sl (q.1.map Sch.enc)))∧e1.get 14=.one (.d (.sl (r2.1.map Rel.enc)))∧e1.get 15=.one (.mrow lr 0 (s.2.map encI_).length cap) ∧
   e1.get 43=.one (.d (.sl (steps.map Stp.enc)))∧e1.get 44=.one (.d (.int .i64 (steps.length:Int)))∧e1.get 45=.one (.d (.int .i64 (i:Int)))∧e1.get 12=.one (.d (.int .i64 r2.2.2))∧Z4a h1 (.mrow lr 0 (s.2.map encI_).length cap) ((s.2.set i r2.2.1).map encI_)∧lr.1 < h1.ep) ?_ ?_
  ·simp[Plan.then_,vcPlan,Z01,Z00,callKind,en,e3,e11,e14,e15,e43,e44,e45,hsch,hcm];refine Z09 (Zek sch steps[i] s.1 cm r2 hr2) (by simp) ?_;simp[Plan.then_,vcPlan,Z01,Z00,callKind,en,e3,e11,e14,e15,e43,e44,e45,hsch,hcm,hi2,hbr,hno,hno',hbl];refine⟨fun _ _ x=>x,?_⟩
   try simp[Plan.then_,vcPlan,Z01,Z00,callKind,en,e3,e11,e14,e15,e43,e44,e45,hsch,hcm,hi2,hbr,hno,hno',hbl]
   refine CutK.of ⟨by simp[en],by simp[e3,en],by simp[e11,en],by simp[en],by simp[e15,en],by simp[e43,en],by simp[e44,en],by simp[e45,en],by simp[en],?_,?_⟩
   ·rw[List.map_set];exact hset _ _ _ rfl
   ·simp;omega
  ·rintro e1 h1 ⟨en,e3,e11,e14,e15,e43,e44,e45,e12,mC,hlr⟩;simp[en,e3,e11,e14,e15,e43,e44,e45,e12,hw];refine r_cond hm ?_ ?_<;>clear hm<;>intro hc hm
   ·obtain rfl:=r_ret hm;simp[retH,resVs,resV,notTup,en,e12];exact⟨.data rfl,.data rfl,.data rfl,trivial⟩
   ·simp[en,e3,e11,e14,e15,e43,e44,e45,e12,hw];exact BackF.of (r2.1,s.2.set i r2.2.1) ⟨⟨_,by simp[en],by simp[e3],by simp[e11],by simp[e14],by simp[e15],by simp[e43],by simp[e44],by simp,mC,by simpa using hsn,by simpa[labs] using hlr⟩,hm⟩
 ·rintro s e h' ⟨c,en,e3,e11,e14,e15,e43,e44,e45,mC,hsn,hlc⟩ hm;obtain rfl:=r_ret hm;simp[retH,resVs,resV,notTup,en,e3,e11,e14,e15,e43,e44,e45];refine⟨.data rfl,?_,.data rfl,trivial⟩;have e1:(s.2.map encI_).map (fun d=>[d])=s.2.map (encL Rel.enc):=by rw[List.map_map];rfl
  show Frz h' c _;rw[← e1];exact mC.frz
theorem Zc8 (S:Sch) (steps:List Stp) (target:List Rel) (comps:List (List Rel)) (r:List Rel × List (List Rel) × Int) (hm:Is (Z52 S steps target comps) r) :
  PSpec Tryz.prog 101 [.agg S.enc,.one (.d (.sl (steps.map Stp.enc))),.one (.d (.sl (target.map Rel.enc))),.one (.d (.sl (comps.map (encL Rel.enc))))] (.tup [.one (.d (.sl (r.1.map Rel.enc))),.one (.d (.sl (r.2.1.map (encL Rel.enc)))),.one (.d (.int .i64 r.2.2))]):=by
 unfold Z52 at hm;refine PSpec.of_heap ?_;show HSpec _ _ [.agg (S.enc.map C.d),.one (.d (.sl (steps.map Stp.enc))),.one (.d (.sl (target.map Rel.enc))),.one (.d (.sl (comps.map (encL Rel.enc))))] HS.init _;refine HSpec.of_vc Tryz.func101 rfl (by kernel_rfl) (n:=79) rfl rfl (by simp) ?_;obtain⟨q,hq,hm⟩:=hm.bind;simp;refine Z09 (Z6t S steps q hq) (by simp) ?_;simp;refine r_cond hm ?_ ?_<;>clear hm<;>intro hc hm
 ·obtain rfl:=r_ret hm;simp[retH,resVs,resV,notTup];exact⟨.data rfl,.data rfl,.data rfl,trivial⟩
 simp;intro hcl hsl;refine r_cond hm ?_ ?_<;>clear hm<;>intro hc2 hm
 ·obtain rfl:=r_ret hm;simp[retH,resVs,resV,notTup];exact⟨.data rfl,.data rfl,.data rfl,trivial⟩
 obtain⟨last,hlast,hm⟩:=hm.getN;obtain⟨e,he,hm⟩:=hm.bind;simp;intro hsl0;simp[hlast];refine Z09 ((c_instance_Conforms last target).h e he) (by simp) ?_;simp;refine r_cond hm ?_ ?_<;>clear hm<;>intro hc3 hm
 ·obtain rfl:=r_ret hm;simp[retH,resVs,resV,notTup];exact⟨.data rfl,.data rfl,.data rfl,trivial⟩
 obtain⟨inst,hi,hm⟩:=hm.bind;simp;refine Z09 ((c_instance_Clone target).h inst hi) (by simp) ?_;simp;intro hsl1;refine⟨by omega,fun hsl2=>?_⟩;have hw0:IntKind.i64.wrap ((steps.length:Int) - 1)=(steps.length:Int) - 1:=IntWalk.i64_in _ (by omega);simp[hw0];refine Wait.while (fun s e h'=>∃ c,e.n=79∧e.get 1=.one (.d (.sl (steps.map Stp.enc)))∧e.get 3=.one (.d (.sl (comps.map (encL Rel.enc))))∧e.get 11=.one (.d (.sl (q.1.map Sch.enc)))∧e.get 14=.one (.d (.sl (s.2.1.map Rel.enc)))∧e.get 15=.one c ∧
  e.get 16=.one (.d (.int .i64 s.1))∧Z4a h' c (s.2.2.map encI_)∧s.2.2.length=steps.length∧-1≤s.1∧s.1 < (steps.length:Int)∧∀ k ∈ labs c,k.1 < h'.ep) hm
  ⟨.mrow (4,720) 0 steps.length steps.length,by simp,by simp,by simp,by simp,by simp,by simp,by simp,?_,by simp,by simp;omega,by simp;omega,by simp[labs]⟩ ?_
 ·show Z4a _ _ (List.map encI_ (List.replicate steps.length []));rw[List.map_replicate];refine Z4a.make (zc:=.nil) ?_ rfl (by omega);simp
 ·rintro n ⟨i,ins,cs⟩ e h' ⟨c,en,e1,e3,e11,e14,e15,e16,mC,hsn,hi0,hi1,hlc⟩ hm;simp only at e14 e16 mC hsn hi0 hi1 hm;simp[en,e1,e3,e11,e14,e15,e16];refine r_cond hm ?_ ?_<;>clear hm<;>intro hc hm
  ·obtain⟨sch,hi2,hsch,hm⟩:=hm.get;obtain⟨step,-,hstep,hm⟩:=hm.get;obtain⟨cm,-,hcm,hm⟩:=hm.get;obtain⟨r2,hr2,hm⟩:=hm.bind;have hw:IntKind.i64.wrap (i - 1)=i - 1:=IntWalk.i64_in _ (by omega);have hi3:i.toNat < (cs.map encI_).length:=by simp;omega
   obtain⟨lr,cap,bs,rfl,hbr,hbl,-,hset⟩:=mC.at hi3;simp at hi3;have hlr:lr.1 < h'.ep:=hlc lr (by simp[labs]);have hno:=ne_new hlr;have hno':=Z6p hlr;simp[en,e1,e3,e11,e14,e15,e16];refine Wait.cut (Plan.then_ [0,1,2,3,4,5,6,7,8,9,10,11,12,13,14,15,16,17,18,19,20,21,22,23] .done) follows (by kernel_rfl) (fun e2 h2=>e2.n=79∧e2.get 1=.one (.d (.sl (steps.map Stp.enc)))∧e2.get 3=.one (.d (.sl (comps.map (encL Rel.enc))))∧e2.get 11=.one (.d (.sl (q.1.map Sch.enc)))∧e2.get 14=.one (.d (.sl (r2.1.map Rel.enc)))∧e2.get 15=.one (.mrow lr 0 (cs.map encI_).length cap) ∧
    e2.get 16=.one (.d (.int .i64 i))∧e2.get 12=.one (.d (.int .i64 r2.2.2))∧Z4a h2 (.mrow lr 0 (cs.map encI_).length cap) ((cs.set i.toNat r2.2.1).map encI_)∧lr.1 < h2.ep) ?_ ?_
   ·simp[Plan.then_,vcPlan,Z01,Z00,callKind,en,e1,e3,e11,e14,e15,e16,hi2,hsch,hcm,hstep];refine Z09 (Ze3 sch step ins cm r2 hr2) (by simp) ?_;simp[Plan.then_,vcPlan,Z01,Z00,callKind,en,e1,e3,e11,e14,e15,e16,hi2,hsch,hcm,hstep,hi3,hbr,hno,hno',hbl]
    try refine⟨fun _ _ x=>x,?_⟩
    try simp[Plan.then_,vcPlan,Z01,Z00,callKind,en,e1,e3,e11,e14,e15,e16,hi2,hsch,hcm,hstep,hi3,hbr,hno,hno',hbl]
    refine CutK.of ⟨by simp[en],by simp[e1,en],by simp[e3,en],by simp[e11,en],by simp[en],by simp[e15,en],by simp[e16,en],by simp[en],?_,?_⟩
    ·rw[List.map_set];exact hset _ _ _ rfl
    ·simp;omega
   ·rintro e2 h2 ⟨en,e1,e3,e11,e14,e15,e16,e12,mC,hlr⟩;simp[en,e1,e3,e11,e14,e15,e16,e12,hw];refine r_cond hm ?_ ?_<;>clear hm<;>intro hc2 hm
    ·obtain rfl:=r_ret hm;simp[retH,resVs,resV,notTup,en,e12];exact⟨.data rfl,.data rfl,.data rfl,trivial⟩
    ·simp[en,e1,e3,e11,e14,e15,e16,e12,hw];exact BackF.of (i - 1,r2.1,cs.set i.toNat r2.2.1) ⟨⟨_,by simp[en],by simp[e1],by simp[e3],by simp[e11],by simp[e14],by simp[e15],by simp,mC,by simpa using hsn,by simp;omega,by simp;omega,by simpa[labs] using hlr⟩,hm⟩
  ·obtain rfl:=r_ret hm;simp[retH,resVs,resV,notTup,en,e1,e3,e11,e14,e15,e16];refine⟨.data rfl,?_,.data rfl,trivial⟩;have e1:(cs.map encI_).map (fun d=>[d])=cs.map (encL Rel.enc):=by rw[List.map_map];rfl
   show Frz h' c _;rw[← e1];exact mC.frz
end
section
open Go.Am


end
section
open Go Go.Am
abbrev encJ_ (l:List (List Rel)):D:=.sl (l.map (encL Rel.enc))
structure MC (h:HS) (gs:List (C × List D)):Prop where
 row:∀ g ∈ gs,Z4a h g.1 g.2
 lt:∀ g ∈ gs,∀ k ∈ labs g.1,k.1 < h.ep
 dis:(gs.flatMap fun g=>labs g.1).Nodup
theorem Zms:∀ {xs:List (C × List D)},(xs.flatMap fun g=>labs g.1).Nodup→∀ {k1 k2:Nat} {g1 g2:C × List D},xs[k1]?=some g1→xs[k2]?=some g2→k1≠k2→∀ k ∈ labs g1.1,k ∉ labs g2.1
 | [],_,k1,_,_,_,h1,_,_,_,_=>by simp at h1
 | y::ys,hn,0,0,_,_,_,_,hne,_,_=>absurd rfl hne
 | y::ys,hn,0,k2+1,g1,g2,h1,h2,hne,k,hk=>fun h9=>by
   rw[List.flatMap_cons,List.nodup_append] at hn;simp at h1 h2;subst h1;exact hn.2.2 k hk k (List.mem_flatMap.2 ⟨g2,List.mem_of_getElem? h2,h9⟩) rfl
 | y::ys,hn,k1+1,0,g1,g2,h1,h2,hne,k,hk=>fun h9=>by
   rw[List.flatMap_cons,List.nodup_append] at hn;simp at h1 h2;subst h2;exact hn.2.2 k h9 k (List.mem_flatMap.2 ⟨g1,List.mem_of_getElem? h1,hk⟩) rfl
 | y::ys,hn,k1+1,k2+1,g1,g2,h1,h2,hne,k,hk=>by
   rw[List.flatMap_cons,List.nodup_append] at hn;exact Zms hn.2.1 (by simpa using h1) (by simpa using h2) (by omega) k hk
theorem MC.set {h h':HS} {gs:List (C × List D)} {j:Nat} {g:C × List D} {ds:List D} (m:MC h gs) (hj:gs[j]?=some g) (hc:Z4a h' g.1 ds) (hs:Same h h' (labs g.1)):MC h' (gs.set j (g.1,ds)):=by
 have hjl:=(List.getElem?_eq_some_iff.1 hj).1;have hset:∀ (k1:Nat) (g1:C × List D),(gs.set j (g.1,ds))[k1]?=some g1→(k1=j∧g1=(g.1,ds))∨(k1≠j∧gs[k1]?=some g1):=by
  intro k1 g1 h1;rw[List.getElem?_set] at h1
  by_cases he:j=k1
  ·subst he;simp[hjl] at h1;exact .inl ⟨rfl,h1.symm⟩
  ·rw[if_neg he] at h1;exact .inr ⟨fun h9=>he h9.symm,h1⟩
 refine⟨fun g1 hg1=>?_,fun g1 hg1 k hk=>?_,?_⟩
 ·obtain⟨k1,hk1⟩:=List.getElem?_of_mem hg1;rcases hset k1 g1 hk1 with ⟨_,rfl⟩ | ⟨hne,h1⟩
  ·exact hc
  ·exact (m.row g1 (List.mem_of_getElem? h1)).frame fun k hk=>hs.2 k (m.lt g1 (List.mem_of_getElem? h1) k hk) (Zms m.dis h1 hj hne k hk)
 ·obtain⟨k1,hk1⟩:=List.getElem?_of_mem hg1;rcases hset k1 g1 hk1 with ⟨_,rfl⟩ | ⟨hne,h1⟩
  ·exact Nat.lt_of_lt_of_le (m.lt g (List.mem_of_getElem? hj) k hk) hs.1
  ·exact Nat.lt_of_lt_of_le (m.lt g1 (List.mem_of_getElem? h1) k hk) hs.1
 ·have:(gs.set j (g.1,ds)).map Prod.fst=gs.map Prod.fst:=by
   rw[List.map_set];refine List.ext_getElem? fun i=>?_;rw[List.getElem?_set]
   by_cases he:j=i
   ·subst he;rw[List.getElem?_map,hj];simp[hjl]
   ·simp[he]
  have e1:∀ xs:List (C × List D),(xs.flatMap fun g=>labs g.1)=(xs.map Prod.fst).flatMap labs:=fun xs=>by rw[List.flatMap_map]
  rw[e1,this,← e1];exact m.dis
theorem MC.at {h:HS} {gs:List (C × List D)} {j i:Nat} {g:C × List D} (m:MC h gs) (hj:gs[j]?=some g) (hi:i < g.2.length):∃ lr cap bs,g.1=.mrow lr 0 g.2.length cap∧h.box lr=some bs∧i+1≤bs.length∧lr.1 < h.ep∧(∃ x,takeN 1 (bs.drop i)=some [x]∧some (x.toD)=some (g.2[i]?)) ∧
  ∀ (h2:HS) (gs':List (C × List D)) (x:C) (d:D),MC h2 gs'→gs'[j]?=some g→x.toD=some d→MC (h2.setBox lr (Z03 bs i [x])) (gs'.set j (g.1,g.2.set i d)):=by
 obtain⟨lr,cap,bs,h1,h2,h3,h4,h5⟩:=(m.row g (List.mem_of_getElem? hj)).at hi;have hl:lr ∈ labs g.1:=by rw[h1];simp[labs]
 refine⟨lr,cap,bs,h1,h2,h3,m.lt g (List.mem_of_getElem? hj) lr hl,h4,fun H gs' x d m' hj' hx=>?_⟩;exact m'.set hj' (h5 H x d hx) (Same.refl.setBox (.inl hl))
abbrev RelSh:List Sh:=[.d,.r [RowSh]]
abbrev InstSh:Sh:=.r RelSh
theorem GrowP.ow {h h':HS} {sh:List Sh} {c:C} {ds:List (List D)} (g:GrowP h h' sh c ds):∃ ls,OwN h h' [.r sh] [c] [.sl ds] ls:=by
 obtain⟨qs,p,nd,hl,s⟩:=g
 have:=Ow.row (ss:=[]) (cs:=[]) (ds:=[]) (ls:=[]) p.mr p.ow .nil
 rw[p.ds] at this;refine⟨plabs c qs,?_,nd,hl,s⟩;simpa[plabs] using this
def InstL (x:List Rel):Prop:=x.length≤2097152∧∀ r ∈ x,r.rows.length≤2097152∧∀ row ∈ r.rows,row.length≤2097152
theorem Zc0 (h:HS) (inst:List Rel) (hok:InstL inst) (K:V→HS→Prop)
  (hk:∀ c h',GrowP h h' RelSh c (inst.map Rel.enc)→BoxLe h h'→K (.one c) h') :
  HSpec Tryz.prog 24 [.one (.d (.sl (inst.map Rel.enc)))] h K:=by
 refine HSpec.good Tryz.func24 rfl (by kernel_rfl) fun hg=>?_;refine HSpec.of_vc Tryz.func24 rfl (by kernel_rfl) (n:=23) rfl rfl (by simp) ?_;have hm:Is (forK (fun (_:Nat) x s next=>next (s++[x])) (fun s=>some s) inst 0 []) inst:=by rw[Zhv];rfl
 simp;intro hil;refine Wait.for (xs:=inst) (s0:=[]) (fun i s e h'=>∃ c,e.n=23∧e.get 3=.one c∧e.get 6=.one (.d (.sl (inst.map Rel.enc)))∧e.get 7=.one (.d (.int .i64 (inst.length:Int)))∧e.get 8=.one (.d (.int .i64 (i:Int)))∧GrowP h h' RelSh c (s.map Rel.enc)∧s.length=i) hm ⟨.nil,by simp,by simp,by simp,by simp,by simp,.nil,rfl⟩ ?_ ?_
 ·rintro i s e h' ⟨c,en,e3,e6,e7,e8,g,hsl⟩ hlt hm;have hw:IntKind.i64.wrap ((i:Int)+1)=(i:Int)+1:=IntWalk.i64_in _ (by omega);have hri:=hok.2 _ (List.getElem_mem hlt);simp[en,e3,e6,e7,e8,hlt];refine Wait.cut (Plan.then_ [0,1,2,3,4,5,6,7,8,9] .done) follows (by kernel_rfl) (fun e1 h1=>∃ c2,e1.n=23∧e1.get 3=.one c2∧e1.get 6=.one (.d (.sl (inst.map Rel.enc)))∧e1.get 7=.one (.d (.int .i64 (inst.length:Int)))∧e1.get 8=.one (.d (.int .i64 (i:Int)))∧GrowP h h1 RelSh c2 ((s++[inst[i]]).map Rel.enc)) ?_ ?_
  ·simp[en,e3,e6,e7,e8,Plan.then_,vcPlan,Z01,Z00,callKind];refine Z02 (Z81 _ inst[i].rows hri.2 _ fun c1 h1 g1 hb1=>?_);have hsc:=g1.same;simp[en,e3,e6,e7,e8,Plan.then_,vcPlan,Z01,Z00,callKind];refine⟨hb1,?_⟩;obtain⟨l1,ow1⟩:=g1.ow;have ho:Ow h1 RelSh [.d (.str inst[i].table),c1] (Rel.enc inst[i]) l1:=by
    have:=Ow.data (c:=.d (.str inst[i].table)) (x:=.str inst[i].table) rfl ow1.ow
    exact this
   have hs1:Same h' h1 []:=Same.trans (by repeat' first | exact Same.refl | apply Same.next | apply Same.setArr | (refine Same.setBox ?_ (.inr (by simp)))) hsc;have hnew:∀ k ∈ l1,h'.ep≤k.1∧k.1 < h1.ep:=fun k hk=>by have:=ow1.new k hk;simp at this;omega
   refine bld_ow (x:=[.d (.str inst[i].table),c1]) (by simp only[toDs];cases c1.toD<;>rfl) rfl (fun d hd=>?_) (fun hd=>?_)
   ·obtain⟨rfl,hd2⟩:=ho.ofD hd;simp[en,e3,e6,e7,e8,Plan.then_,vcPlan,Z01,Z00,callKind];refine GrowP.app g (hs1.trans ((Same.refl.setArr).next)) Z85 (by kernel_rfl) (by decide) (by decide) (RowAt.own1 rfl) rfl (hd2 _) (by simp) (by simp) (by simpa using (by omega:s.length+1≤2097152)) fun c' h3' hg' hs3=>?_;simp[en,e3,e6,e7,e8,Plan.then_,vcPlan,Z01,Z00,callKind];exact CutK.of ⟨c',by simp[en],by simp,by simp[e6,en],by simp[e7,en],by simp[e8,en],by simpa using hg'⟩
   ·simp[en,e3,e6,e7,e8,Plan.then_,vcPlan,Z01,Z00,callKind];have hs2:Same h1 ((h1.setBox (h1.ep,304) [.d (.str inst[i].table),c1]).next) []:=(Same.refl.setBox (.inr (by simp))).next;refine GrowP.app g (hs1.trans hs2) Z85 (by kernel_rfl) (by decide) (by decide) (RowAt.new1 rfl (by simp)) rfl (ho.frame fun k hk=>hs2.2 k (hnew k hk).2 (by simp)) ow1.nd (fun k hk=>⟨(hnew k hk).1,Nat.lt_of_lt_of_le (hnew k hk).2 hs2.1⟩) (by simpa using (by omega:s.length+1≤2097152)) fun c' h3' hg' hs3=>?_;simp[en,e3,e6,e7,e8,Plan.then_,vcPlan,Z01,Z00,callKind];exact CutK.of ⟨c',by simp[en],by simp,by simp[e6,en],by simp[e7,en],by simp[e8,en],by simpa using hg'⟩
  ·rintro e1 h1 ⟨c2,en,e3,e6,e7,e8,g1⟩;simp[en,e3,e6,e7,e8,hw];exact BackF.of (s++[inst[i]]) ⟨⟨c2,by simp[en],by simp[e3],by simp[e6],by simp[e7],by simp,g1,by simp[hsl]⟩,hm⟩
 ·rintro s e h' ⟨c,en,e3,e6,e7,e8,g,hsl⟩ hm;obtain rfl:=r_ret hm;simp[e3,e7,e8,en];exact hk _ _ g (g.same.boxLe hg)
abbrev TxSh:List Sh:=[.d,InstSh,.r [.d],.r ChSh]
theorem Zg6 (us:List ByteArray):(us.map encS).map (·.map C.d)=us.map scell:=by rw[List.map_map];rfl
theorem str_ow {h:HS} {c:C} {ss:List ByteArray} (m:MR h 1 c (ss.map scell)):Ow h [.r [.d]] [c] [.sl (ss.map encS)] (labs c):=by
 have hm:MR h 1 c ((ss.map encS).map (·.map C.d)):=by rw[Zg6];exact m
 have:=Ow.rowD (ss:=[]) (cs:=[]) (ds:=[]) (ls:=[]) hm (es:=[.d]) rfl (by intro t ht;obtain⟨s,_,rfl⟩:=List.mem_map.1 ht;rfl) .nil
 simpa using this
theorem tx_own {h Ha Hb Hc Hd Hf Hg:HS} {ci c1 c2 c4:C} {inst:List Rel} {ss:List ByteArray} {cs:List Chg} {v:Int} (s0:Same h Ha []) (g1:GrowP Ha Hb RelSh ci (inst.map Rel.enc)) (s1:Same Hb Hc []) (m2:MR Hd 1 c2 (ss.map scell)) (sd:Same Hc Hd (labs c1)) (hl2:∀ k ∈ labs c2,k ∈ labs c1)
  (hl1:∀ k ∈ labs c1,h.ep≤k.1∧k.1 < Ha.ep) (s2:Same Hd Hf []) (g2:GrowP Hf Hg ChSh c4 (cs.map Chg.enc)):∃ ls,OwN h Hg TxSh [.d (.int .i64 v),ci,c2,c4] (Txn.enc ⟨v,inst,ss,cs⟩) ls:=by
 have e1:=g1.same.1;have e2:=s1.1;have e3:=sd.1;have e4:=s2.1;have e5:=g2.same.1;have e0:=s0.1;obtain⟨li,oi⟩:=g1.ow;obtain⟨lc,oc⟩:=g2.ow;have hi:∀ k ∈ li,Hg.box k=Hb.box k:=fun k hk=>by
  have:=oi.new k hk
  rw[g2.same.2 k (by omega) (by simp),s2.2 k (by omega) (by simp),sd.2 k (by omega) fun h9=>by have:=hl1 k h9;omega,s1.2 k (by omega) (by simp)]
 have h2:∀ k ∈ labs c2,Hg.box k=Hd.box k:=fun k hk=>by
  have:=hl1 k (hl2 k hk)
  rw[g2.same.2 k (by omega) (by simp),s2.2 k (by omega) (by simp)]
 refine⟨li++(labs c2++lc),.data rfl ((oi.ow.frame hi).join ((str_ow (m2.frame h2)).join oc.ow)),?_,?_,?_⟩
 ·rw[List.nodup_append,List.nodup_append];refine⟨oi.nd,⟨Z1i,oc.nd,fun a ha b hb he=>?_⟩,fun a ha b hb he=>?_⟩
  ·subst he;have:=hl1 a (hl2 a ha);have:=oc.new a hb;omega
  ·subst he
   have:=oi.new a ha
   rcases List.mem_append.1 hb with h9 | h9
   ·have:=hl1 a (hl2 a h9);omega
   ·have:=oc.new a h9;omega
 ·intro k hk;rcases List.mem_append.1 hk with h9 | h9
  ·have:=oi.new k h9;omega
  ·rcases List.mem_append.1 h9 with h9 | h9
   ·have:=hl1 k (hl2 k h9);omega
   ·have:=oc.new k h9;omega
 ·exact (((((s0.trans g1.same).trans s1).trans' sd fun k hk=>.inr (hl1 k hk).1).trans s2).trans g2.same)
theorem Zot (a b:List Chg):[a.map Chg.enc,b.map Chg.enc].flatten.map (·.map C.d)=(a++b).map chc:=by
 show (a.map Chg.enc++(b.map Chg.enc++[])).map _=_;rw[List.append_nil,← List.map_append,List.map_map];rfl
theorem OwN.out {h H0 hd:HS} {l:Lab} {ss:List Sh} {cs xs:List C} {ds:List D} {ls:List Lab} (o:OwN H0 hd ss cs ds ls) (s:Same h H0 []) (hl:l.1 < H0.ep) (hl2:h.ep≤l.1):OwN h (hd.setBox l xs) ss cs ds ls:=by
 refine⟨o.ow.frame fun k hk=>?_,o.nd,fun k hk=>?_,(s.trans o.same).setBox (.inr hl2)⟩
 ·have:=(o.new k hk).1
  have hne:k≠l:=fun he=>by subst he;omega
  simp[hne]
 ·have:=o.new k hk
  have:=s.1
  simp;omega
def ExOK (t:Txn) (tables:List ByteArray) (chs:List Chg):Prop:=InstL t.snapshot∧ChL (t.changes++chs)∧t.tables.length+tables.length≤2097152
def extF (t:Txn) (tables:List ByteArray) (chs:List Chg):Txn:=⟨t.version,t.snapshot,compB (sortB (t.tables++tables)),t.changes++chs⟩
set_option maxHeartbeats 2000000 in
theorem Zch (h:HS) (t:Txn) (tables:List ByteArray) (chs:List Chg) (hok:ExOK t tables chs) (K:V→HS→Prop)
  (hk:∀ cs ls h',OwN h h' TxSh cs (extF t tables chs).enc ls→BoxLe h h'→K (.agg cs) h') :
  HSpec Tryz.prog 43 [.agg (t.enc.map C.d),.one (.d (.sl (tables.map encS))),.one (.d (.sl (chs.map Chg.enc)))] h K:=by
 refine HSpec.good Tryz.func43 rfl (by kernel_rfl) fun hg=>?_;refine HSpec.of_vc Tryz.func43 rfl (by kernel_rfl) (n:=29) rfl rfl (by simp) ?_;obtain⟨ver,inst,tabs,chs0⟩:=t;obtain⟨hi,hc,ht⟩:=hok;simp only at hi hc ht;simp;refine Z02 (Z8q _ _ [tabs.map encS,tables.map encS] (.inr ⟨_,rfl⟩) (fun xs hxs x hx=>?_) (by simpa using ht) _ fun c1 h1 m1 s1 l1=>?_)
 ·simp only[List.mem_cons,List.not_mem_nil,or_false] at hxs;rcases hxs with rfl | rfl<;>obtain⟨s,_,rfl⟩:=List.mem_map.1 hx<;>rfl
 have m1':MR h1 1 c1 ((tabs++tables).map scell):=by rw[← Zg6,List.map_append];simpa using m1
 simp;refine Z02 (Zbx _ c1 _ m1' _ fun h2 m2 s2=>?_);simp;have hH0:Same h (((h.setBox (h.ep,48) [C.d (D.int IntKind.i64 ver),C.d (D.sl (List.map Rel.enc inst)),C.d (D.sl (List.map encS tabs)),C.d (D.sl (List.map Chg.enc chs0))]).next.setBox (h.ep+1,96) [C.d (D.int IntKind.i64 0),C.nil,C.nil,C.nil]).next) []:=
  (((Same.refl.setBox (.inr (Nat.le_refl _))).next).setBox (.inr (by simp))).next
 generalize hX:(((h.setBox (h.ep,48) [C.d (D.int IntKind.i64 ver),C.d (D.sl (List.map Rel.enc inst)),C.d (D.sl (List.map encS tabs)),C.d (D.sl (List.map Chg.enc chs0))]).next.setBox (h.ep+1,96) [C.d (D.int IntKind.i64 0),C.nil,C.nil,C.nil]).next)=H0 at *;have hep0:H0.ep=h.ep+1+1:=by rw[← hX];simp
 have q3:H0.box (h.ep,48)=some [C.d (D.int IntKind.i64 ver),C.d (D.sl (List.map Rel.enc inst)),C.d (D.sl (List.map encS tabs)),C.d (D.sl (List.map Chg.enc chs0))]:=by rw[← hX];simp
 have hs1:Same H0 h1 []:=(Same.refl.setArr.next).trans s1;have hl1:∀ k ∈ labs c1,H0.ep≤k.1∧k.1 < h2.ep:=fun k hk=>by have h9:=l1 k hk;have:=s2.1;simp at h9;omega
 have hs2:Same H0 h2 []:=hs1.trans' s2 fun k hk=>.inr (hl1 k hk).1;have b3:h2.box (h.ep,48)=some [C.d (D.int IntKind.i64 ver),C.d (D.sl (List.map Rel.enc inst)),C.d (D.sl (List.map encS tabs)),C.d (D.sl (List.map Chg.enc chs0))]:=by rw[hs2.2 _ (by simp;omega) (by simp)];exact q3
 have hep2:h.ep+1 < h2.ep:=by have:=hs2.1;omega
 have b6:h2.box (h.ep+1,96)=some [C.d (D.int IntKind.i64 0),C.nil,C.nil,C.nil]:=by rw[hs2.2 _ (by simp;omega) (by simp),← hX];simp
 have hnc:∀ k:Lab,k.1≤h.ep+1→k ∉ labs c1:=fun k hk h9=>by have:=hl1 k h9;omega
 have hall:∀ xs ∈ [chs0.map Chg.enc,chs.map Chg.enc],∀ x ∈ xs,x.length=4:=fun xs hxs x hx=>by
  simp only[List.mem_cons,List.not_mem_nil,or_false] at hxs;rcases hxs with rfl | rfl<;>obtain⟨s,_,rfl⟩:=List.mem_map.1 hx<;>rfl
 refine Wait.cutB (fun k=>k != 6) (Plan.then_ [0,2,3,5,7,9] (.three 1 4 8 (Plan.then_ [] (.two 4 8 (Plan.then_ [] (.two 6 8 (Plan.then_ [8,10,11,12,13,14] .done) (Plan.then_ [] (.two 6 10 (Plan.then_ [10,11,12,13,14] .done) (Plan.then_ [6,11,12,13,14] .done))))) (Plan.then_ [] (.two 4 10 (Plan.then_ [] (.two 6 10 (Plan.then_ [10,11,12,13,14] .done) (Plan.then_ [6,11,12,13,14] .done))) (Plan.then_ [4,6,11,12,13,14] .done))))) (Plan.then_ [] (.three 1 6 8 (Plan.then_ [] (.two 6 8 (Plan.then_ [8,10,11,12,13,14] .done) (Plan.then_ [] (.two 6 10 (Plan.then_ [10,11,12,13,14] .done) (Plan.then_ [6,11,12,13,14] .done))))) (Plan.then_ [1,8,10,11,12,13,14] .done) (Plan.then_ [] (.three 1 6 10 (Plan.then_ [] (.two 6 10 (Plan.then_ [10,11,12,13,14] .done) (Plan.then_ [6,11,12,13,14] .done))) (Plan.then_ [1,10,11,12,13,14] .done) (Plan.then_ [] (.two 1 6 (Plan.then_ [6,11,12,13,14] .done) (Plan.then_ [1,11,12,13,14] .done))))))) (Plan.then_ [] (.three 1 4 10 (Plan.then_ [] (.two 4 10 (Plan.then_ [] (.two 6 10 (Plan.then_ [10,11,12,13,14] .done) (Plan.then_ [6,11,12,13,14] .done))) (Plan.then_ [4,6,11,12,13,14] .done))) (Plan.then_ [] (.three 1 6 10 (Plan.then_ [] (.two 6 10 (Plan.then_ [10,11,12,13,14] .done) (Plan.then_ [6,11,12,13,14] .done))) (Plan.then_ [1,10,11,12,13,14] .done) (Plan.then_ [] (.two 1 6 (Plan.then_ [6,11,12,13,14] .done) (Plan.then_ [1,11,12,13,14] .done))))) (Plan.then_ [] (.two 1 4 (Plan.then_ [4,6,11,12,13,14] .done) (Plan.then_ [] (.two 1 6 (Plan.then_ [6,11,12,13,14] .done) (Plan.then_ [1,11,12,13,14] .done))))))))) follows (by kernel_rfl)
  (fun e g=>e.n=29∧e.get 6=.one (.ptr (h.ep+1,96) 0)∧∃ cs ls,g.box (h.ep+1,96)=some cs∧OwN h g TxSh cs (Txn.enc ⟨ver,inst,compB (sortB (tabs++tables)),chs0++chs⟩) ls) ?_ ?_
 ·simp[b3,b6,Plan.then_,Z44,Z01,Z00,callKind]
  all_goals repeat' first
   | with_reducible refine And.intro ?_ ?_
   | assumption
   | (refine Z02 (Zc0 _ inst hi _ fun ci ha ga ba=>?_)
      have sa:=ga.same;have ea:=sa.1
      try simp at ea
      have b3a:=(sa.2 (h.ep,48) (by simp<;>omega) (by simp)).trans (by simpa using b3);have b6a:=(sa.2 (h.ep+1,96) (by simp<;>omega) (by simp)).trans (by simpa using b6);have m2a:MR ha 1 c1 ((sortB (tabs++tables)).map scell):=m2.frame fun k hk=>(sa.2 k (by have:=hl1 k hk;simp<;>omega) (by simp)).trans (by simp);simp[b3a,b6a,Plan.then_,Z44,Z01,Z00,callKind])
   | (refine Z02 (Z9x _ c1 _ (m2a.frame fun k hk=>by simp) _ fun c2 hb m3 sb l3=>?_)
      have eb:=sb.1
      try simp at eb
      have b3b:=(sb.2 (h.ep,48) (by simp<;>omega) (hnc _ (by simp))).trans (by simpa using b3a);have b6b:=(sb.2 (h.ep+1,96) (by simp<;>omega) (hnc _ (by simp))).trans (by simpa using b6a);simp[b3b,b6b,Plan.then_,Z44,Z01,Z00,callKind])
   | (refine Z02 (HSpec.good Tryz.func20 rfl (by kernel_rfl) fun hg4=>Z5y _ _ [chs0.map Chg.enc,chs.map Chg.enc] (.inr ⟨_,rfl⟩) hall (by simpa using hc.1) _ fun c3 hc' m4 sc l4=>?_)
      have ec:=sc.1
      try simp at ec
      have b6c:=(sc.2 (h.ep+1,96) (by simp<;>omega) (by simp)).trans (by simpa using b6b);have bc:=sc.boxLe hg4;simp[b6c,Plan.then_,Z44,Z01,Z00,callKind])
   | (refine Z02 (Z7i _ c3 (chs0++chs) (Zot chs0 chs ▸ m4.rd) hc _ fun c4 hd gd bd=>?_)
      have sd:=gd.same;have b6d:=(sd.2 (h.ep+1,96) (by simp<;>omega) (by simp)).trans b6c;simp[b6d,Plan.then_,Z44,Z01,Z00,callKind])
  all_goals
   obtain⟨ls,o⟩:=tx_own (v:=ver) (hs2.trans (by repeat' first | exact Same.refl | apply Same.next | apply Same.setArr)) ga (by repeat' first | exact Same.refl | apply Same.next | apply Same.setArr) m3 sb l3 (fun k hk=>by have:=hl1 k hk;first | omega | (simp;omega)) (Same.trans (by repeat' first | exact Same.refl | apply Same.next | apply Same.setArr) sc) gd;exact CutK.of ⟨by simp,by simp,_,ls,Z5z.trans (if_pos rfl),o.out hH0 (by simp;omega) (by simp)⟩
 ·rintro e g ⟨en,e6,cs,ls,b6,o⟩;have hcl:cs.length=4:=o.ow.len.1;have h4:takeN 4 cs=some cs:=by rw[← hcl];simp[takeN]
  simp[en,e6,b6,h4,retH,resVs,resV,notTup];exact hk _ _ _ o (o.same.boxLe hg)
end
section
open Go.Am
def Z3u (s_:Sch) (script:List Stp):Option (Sch × Int):=
 (bindK (Z1b s_ script) fun v3=>(bif (v3.2 != 0) then (some ((Sch.mk [] [] []),v3.2)) else (chkK (okI ((v3.1.length:Int) - 1)) (getK v3.1 ((v3.1.length:Int) - 1) fun x7=>(some (x7,0))))))
instance c_script_Apply (s_:Sch) (script:List Stp):Con (Z3u s_ script) Tryz.prog 68 [.agg s_.enc,.one (.d (.sl (script.map Stp.enc)))] (fun r=>.tup [.agg (r.1.enc.map RC.d),.one (.d (.int .i64 r.2))]):=by
 unfold Z3u;exact go 24 Tryz.func68 rfl (by kernel_rfl) rfl rfl (by simp)
def Z1g (g_:Gr):Option ((List Sch) × Int):=
 (bif decide (8≤(g_.edges.length:Int)) then (some ([],2)) else (bindK (Z0r g_.base) fun v4=>(bif (v4 != 0) then (some ([],v4)) else (bindK (Z12 g_.base) fun v6=>(forK (fun (i8:Nat) (x8:Edg) (s8:(List Sch)) next_8=>(bif decide (x8.parent < 0) then (some ([],1)) else (bif decide ((i8:Int) < x8.parent) then (some ([],1)) else (getK s8 x8.parent fun x12=>(bindK (Z3u x12 x8.script) fun v13=>(bif (v13.2 != 0) then (some ([],v13.2)) else (appK2 s8 [v13.1] fun _=>(next_8 (s8++[v13.1]))))))))) (fun (s8:(List Sch))=>(some (s8,0))) g_.edges 0 [v6])))))
theorem Z7k (g_:Gr) (r:(List Sch) × Int) (hm:Is (Z1g g_) r):PSpec Tryz.prog 45 [.agg g_.enc] (.tup [.one (.d (.sl (r.1.map Sch.enc))),.one (.d (.int .i64 r.2))]):=by
 unfold Z1g at hm;refine PSpec.of_vc Tryz.func45 rfl (by kernel_rfl) (n:=61) rfl rfl (by simp) ?_
 try simp[*]
 intro hl2;replace hl2:g_.edges.length≤2097152:=by simpa using hl2
 refine r_cond hm ?_ ?_<;>clear hm<;>intro hc3 hm
 ·try simp[*]
  obtain rfl:=r_ret hm;exact ret0 (vs:=[_,_]) (by simp[*];try exact⟨rfl,rfl⟩) (by simp[*])
 ·try simp[*]
  refine r_call (av:=[.agg g_.base.enc]) hm (fun v hv=>c_schema_Validate _ v hv) (by simp[*]) ?_;clear hm;intro v4 hvv4 hm
  try simp[*]
  refine r_cond hm ?_ ?_<;>clear hm<;>intro hc5 hm
  ·try simp[*]
   obtain rfl:=r_ret hm;exact ret0 (vs:=[_,_]) (by simp[*];try exact⟨rfl,rfl⟩) (by simp[*])
  ·try simp[*]
   refine r_call (av:=[.agg g_.base.enc]) hm (fun v hv=>Z5i _ v hv) (by simp[*]) ?_;clear hm;intro v6 hvv6 hm
   try simp[*]
   refine Wait.for (xs:=g_.edges) (s0:=[v6]) (fun i8 s8 e8 h8=>∃ c8_0:C,e8.n=61∧e8.get 5=.one c8_0∧e8.get 25=.one (.d (.sl (g_.edges.map Edg.enc)))∧e8.get 26=.one (.d (.int .i64 (g_.edges.length:Int)))∧e8.get 27=.one (.d (.int .i64 (i8:Int)))∧Grows h8 3 c8_0 (s8.map Sch.enc)) hm ⟨.own (3,368) ([v6].map Sch.enc),by simp (maxDischargeDepth:=20) [*]⟩ ?_ ?_
   ·rintro i8 s8 e8 h8 ⟨c8_0,hn8,h8_5,h8_25,h8_26,h8_27,gc8_0⟩ hlt8 hm;have hlc8_0:=gc8_0.list;have hdc8_0:=gc8_0.toD;have hac8_0:=gc8_0.toA;have huc8_0:=gc8_0.useUp_arr;have hw8:IntKind.i64.wrap ((i8:Int)+1)=(i8:Int)+1:=IntWalk.i64_in _ (by omega)
    try simp[*]
    refine Zcw hm ?_ ?_<;>clear hm<;>intro hc10 hm
    ·try simp[*]
     obtain rfl:=r_ret hm;exact ret0 (vs:=[_,_]) (by simp[*];try exact⟨rfl,rfl⟩) (by simp[*])
    ·try simp[*]
     refine r_cond hm ?_ ?_<;>clear hm<;>intro hc11 hm
     ·try simp[*]
      obtain rfl:=r_ret hm;exact ret0 (vs:=[_,_]) (by simp[*];try exact⟨rfl,rfl⟩) (by simp[*])
     ·try simp[*]
      refine Wait.of (SWP.draw (Plan.then_ [0,1,2,3,4,5,6] (.two 7 11 (Plan.then_ [8,9,10,11,12,13] .done) (Plan.then_ [7,8,9,10,12,13] .done))) follows (by kernel_rfl) ?_)
      try simp[*,Plan.then_,vcPlan,Z01,Z00,callKind]
      replace hm:=hm.get;obtain⟨x12,h0x12,hxx12,hm⟩:=hm
      try simp[*,Plan.then_,vcPlan,Z01,Z00,callKind]
      rcases gc8_0.1 with ⟨hzc8_0,hzz⟩ | ⟨lc8_0,hzc8_0,hz1,hz2⟩
      ·exact absurd hxx12 (by simp at hzz;subst hzz;simp)
      try simp[*,Plan.then_,vcPlan,Z01,Z00,callKind]
      refine⟨?_,?_⟩
      ·try simp[*,Plan.then_,vcPlan,Z01,Z00,callKind]
       refine r_call (av:=[.agg x12.enc,.one (.d (.sl ((g_.edges[i8].script).map Stp.enc)))]) hm (fun v hv=>c_script_Apply _ _ v hv) (by simp[*]) ?_;clear hm;intro v13 hvv13 hm
       try simp[*,Plan.then_,vcPlan,Z01,Z00,callKind]
       try refine⟨fun (_:Lab) (_:List C) hl=>hl,?_⟩
       refine r_cond hm ?_ ?_<;>clear hm<;>intro hc15 hm
       ·try simp[*]
        obtain rfl:=r_ret hm;exact ret0 (vs:=[_,_]) (by simp[*];try exact⟨rfl,rfl⟩) (by simp[*])
       ·try simp[*]
        refine r_app (xs:=s8) (ys:=[v13.1]) (enc:=Sch.enc) hm Z9h (by first | exact Grows.nil | (simp (maxDischargeDepth:=20) [*];done) | (simp (maxDischargeDepth:=20) [*];refine⟨?_,by omega⟩;intro hq;subst hq;simp at hz2<;>omega)) (by simp[*]) (by decide) (by decide) (fun _=>rfl) ?_;clear hm;intro hl17 hm g16
        try simp[*]
        exact BackF.of (s8++[v13.1]) ⟨⟨.own (h8.ep+4,928) ((s8++[v13.1]).map Sch.enc),by simp (maxDischargeDepth:=20) [*]⟩,hm⟩
      ·try simp[*,Plan.then_,vcPlan,Z01,Z00,callKind]
       refine r_call (av:=[.agg x12.enc,.one (.d (.sl ((g_.edges[i8].script).map Stp.enc)))]) hm (fun v hv=>c_script_Apply _ _ v hv) (by simp[*]) ?_;clear hm;intro v1014 hvv1014 hm
       try simp[*,Plan.then_,vcPlan,Z01,Z00,callKind]
       try refine⟨fun (_:Lab) (_:List C) hl=>hl,?_⟩
       refine r_cond hm ?_ ?_<;>clear hm<;>intro hc1015 hm
       ·try simp[*]
        obtain rfl:=r_ret hm;exact ret0 (vs:=[_,_]) (by simp[*];try exact⟨rfl,rfl⟩) (by simp[*])
       ·try simp[*]
        refine r_app (xs:=s8) (ys:=[v1014.1]) (enc:=Sch.enc) hm Z9h (by first | exact Grows.nil | (simp (maxDischargeDepth:=20) [*];done) | (simp (maxDischargeDepth:=20) [*];refine⟨?_,by omega⟩;intro hq;subst hq;simp at hz2<;>omega)) (by simp[*]) (by decide) (by decide) (fun _=>rfl) ?_;clear hm;intro hl1017 hm g1016
        try simp[*]
        exact BackF.of (s8++[v1014.1]) ⟨⟨.own (h8.ep+4,928) ((s8++[v1014.1]).map Sch.enc),by simp (maxDischargeDepth:=20) [*]⟩,hm⟩
   ·rintro s8 e8 h8 ⟨c8_0,hn8,h8_5,h8_25,h8_26,h8_27,gc8_0⟩ hm;have hlc8_0:=gc8_0.list;have hdc8_0:=gc8_0.toD;have hac8_0:=gc8_0.toA;have huc8_0:=gc8_0.useUp_arr
    try simp[*]
    obtain rfl:=r_ret hm;exact ret0 (vs:=[_,_]) (by simp[*];try exact⟨rfl,rfl⟩) (by simp[*])
instance i_versions_Schemas (g_:Gr):Con (Z1g g_) Tryz.prog 45 [.agg g_.enc] (fun r=>.tup [.one (.d (.sl (r.1.map Sch.enc))),.one (.d (.int .i64 r.2))]):=⟨fun r hm=>Z7k g_ r hm⟩
def Z1t (g_:Gr) (version:Int):Option (Sch × Int):=
 (bindK (Z1g g_) fun v3=>(bif (v3.2 != 0) then (some ((Sch.mk [] [] []),v3.2)) else (bif decide (version < 0) then (some ((Sch.mk [] [] []),1)) else (bif decide ((v3.1.length:Int)≤version) then (some ((Sch.mk [] [] []),1)) else (getK v3.1 version fun x8=>(some (x8,0)))))))
instance c_versions_Schema (g_:Gr) (version:Int):Con (Z1t g_ version) Tryz.prog 15 [.agg g_.enc,.one (.d (.int .i64 version))] (fun r=>.tup [.agg (r.1.enc.map RC.d),.one (.d (.int .i64 r.2))]):=by
 unfold Z1t;exact go 30 Tryz.func15 rfl (by kernel_rfl) rfl rfl (by simp)
def Z0o (t:Tbl) (key:List GV):Option Int:=
 (bif ((key.length:Int) != (t.pk.length:Int)) then (some 3) else (forK (fun (i6:Nat) (x6:GV) (s6:Unit) next_6=>(bindK (Z0g x6) fun v8=>(bif (v8 != 0) then (some v8) else (getK t.pk (i6:Int) fun x10=>(getK t.cols x10 fun x11=>(bif (x6.kind != x11.kind) then (some 7) else (next_6 ()))))))) (fun (s6:Unit)=>(some 0)) key 0 ()))
instance c_change_validateKey (t:Tbl) (key:List GV):Con (Z0o t key) Tryz.prog 123 [.agg t.enc,.one (.d (.sl (key.map GV.enc)))] (fun r=>.one (.d (.int .i64 r))):=by
 unfold Z0o;have l1:LH (σ:=Unit) 16 [2,14,15] []:=.intro;have p1:PH [9] (Plan.then_ [0,1,2,3,4,5,6,7,8,9,10,11,12] .done):=.intro;exact go 40 Tryz.func123 rfl (by kernel_rfl) rfl rfl (by simp)
def Z37 (s_:Sch) (c:Chg):Option Int:=
 (bif (c.kind == 1) then (bif decide (0 < c.key.length) then (some 3) else (bif (c.kind == 2) then (bif decide (0 < c.row.length) then (some 3) else (bif (c.kind != 1) then (bif (c.kind != 2) then (some 3) else (bindK (Z05 s_ c.table) fun v11=>(bif !v11.2 then (some 4) else (getK s_.tables v11.1 fun x13=>(bindK (Z0b x13 c.row) fun v14=>(some v14)))))) else (bindK (Z05 s_ c.table) fun v15=>(bif !v15.2 then (some 4) else (getK s_.tables v15.1 fun x17=>(bindK (Z0b x17 c.row) fun v18=>(some v18))))))) else (bif (c.kind != 1) then (bif (c.kind != 2) then (some 3) else (bindK (Z05 s_ c.table) fun v21=>(bif !v21.2 then (some 4) else (getK s_.tables v21.1 fun x23=>(bindK (Z0b x23 c.row) fun v24=>(some v24)))))) else (bindK (Z05 s_ c.table) fun v25=>(bif !v25.2 then (some 4) else (getK s_.tables v25.1 fun x27=>(bindK (Z0b x27 c.row) fun v28=>(some v28)))))))) else (bif (c.kind == 2) then (bif decide (0 < c.row.length) then (some 3) else (bif (c.kind != 1) then (bif (c.kind != 2) then (some 3) else (bindK (Z05 s_ c.table) fun v34=>(bif !v34.2 then (some 4) else (getK s_.tables v34.1 fun x36=>(bindK (Z0o x36 c.key) fun v37=>(some v37)))))) else (bindK (Z05 s_ c.table) fun v38=>(bif !v38.2 then (some 4) else (getK s_.tables v38.1 fun x40=>(bindK (Z0o x40 c.key) fun v41=>(some v41))))))) else (bif (c.kind != 1) then (bif (c.kind != 2) then (some 3) else (bindK (Z05 s_ c.table) fun v44=>(bif !v44.2 then (some 4) else (getK s_.tables v44.1 fun x46=>(bindK (Z0o x46 c.key) fun v47=>(some v47)))))) else (bindK (Z05 s_ c.table) fun v48=>(bif !v48.2 then (some 4) else (getK s_.tables v48.1 fun x50=>(bindK (Z0o x50 c.key) fun v51=>(some v51))))))))
instance c_change_Validate (s_:Sch) (c:Chg):Con (Z37 s_ c) Tryz.prog 82 [.agg s_.enc,.agg c.enc] (fun r=>.one (.d (.int .i64 r))):=by
 unfold Z37;have p1:PH [7,8] (Plan.then_ [0,1,2,3,4,5,6,7,8] .done):=.intro;exact go 65 Tryz.func82 rfl (by kernel_rfl) rfl rfl (by simp)
end
section
open Go Go.Am
theorem Zoc {h:HS} {c:C} {out:List Rel} (hm:MR h 2 c (out.map relC)):Frz h c (.sl (out.map Rel.enc)):=
 hm.frz (by simp) (fun t ht=>by obtain⟨y,_,rfl⟩:=List.mem_map.1 ht;rfl) fun i x t hx ht=>by
  rw[List.getElem?_map] at hx ht;cases hq:out[i]? with
  | none=>rw[hq] at hx;cases hx
  | some q=>
    rw[hq] at hx ht;cases hx;cases ht;exact⟨.data rfl,.data rfl,trivial⟩
def m_chg {ρ:Type} (s:Sch) (x:Chg) (out:List Rel) (next:List Rel→Option ρ) (bad:Int→Option ρ):Option ρ:=
 bindK (Z37 s x) fun e=>bif e != 0 then bad e else bindK (Z05 s x.table) fun q=>getK s.tables q.1 fun T=>getK out q.1 fun o=>
  bif x.kind == 1 then bindK (Z40 T o.rows x.row) fun rows=>bif decide ((24:Int) < rows.length) then bad 2 else next (out.set q.1.toNat ⟨o.table,rows⟩)
  else bindK (Z41 T o.rows x.key) fun d=>bif !d.2 then bad 9 else next (out.set q.1.toNat ⟨o.table,d.1⟩)
def Z4j (s:Sch) (inst:List Rel) (cs:List Chg):Option (List Rel × Int):=
 bindK (Z0r s) fun e=>bif e != 0 then some ([],e) else bindK (Z0d s inst) fun e2=>bif e2 != 0 then some ([],e2) else bif decide ((24:Int) < cs.length) then some ([],2) else
 bindK (Z0h inst) fun out0=>forK (fun (i:Nat) (x:Chg) (out:List Rel) next=>m_chg s x out next fun e=>some ([],e)) (fun out=>some (out,0)) cs 0 out0
theorem Zem (s:Sch) (inst:List Rel) (cs:List Chg) (r:List Rel × Int) (hm:Is (Z4j s inst cs) r) :
  PSpec Tryz.prog 65 [.agg s.enc,.one (.d (.sl (inst.map Rel.enc))),.one (.d (.sl (cs.map Chg.enc)))] (.tup [.one (.d (.sl (r.1.map Rel.enc))),.one (.d (.int .i64 r.2))]):=by
 unfold Z4j at hm;refine PSpec.of_heap ?_;show HSpec _ _ [.agg (s.enc.map C.d),.one (.d (.sl (inst.map Rel.enc))),.one (.d (.sl (cs.map Chg.enc)))] HS.init _;refine HSpec.of_vc Tryz.func65 rfl (by kernel_rfl) (n:=101) rfl rfl (by simp) ?_;obtain⟨ev,hev,hm⟩:=hm.bind;simp;refine Z09 (c_schema_Validate s ev hev) (by simp) ?_;simp;refine r_cond hm ?_ ?_<;>clear hm<;>intro hc1 hm
 ·obtain rfl:=r_ret hm;simp[hc1,retH,resVs,resV,notTup];exact⟨Frz.data rfl,Frz.data rfl,trivial⟩
 obtain⟨ev2,hev2,hm⟩:=hm.bind;simp[hc1];refine Z09 (c_instance_Conforms s inst ev2 hev2) (by simp) ?_;simp;refine r_cond hm ?_ ?_<;>clear hm<;>intro hc2 hm
 ·obtain rfl:=r_ret hm;simp[hc2,retH,resVs,resV,notTup];exact⟨Frz.data rfl,Frz.data rfl,trivial⟩
 simp[hc2];intro hcl;refine r_cond hm ?_ ?_<;>clear hm<;>intro hc3 hm
 ·obtain rfl:=r_ret hm;simp at hc3;simp[hc3,retH,resVs,resV,notTup];exact⟨Frz.data rfl,Frz.data rfl,trivial⟩
 simp at hc3;obtain⟨out0,hout0,hm⟩:=hm.bind;have hc3':¬ (24 < cs.length):=by omega
 simp[hc3'];refine Z02 (Zbz _ inst out0 hout0 _ (fun c h1 hr hs hl=>?_));have b0:=hs.2 (0,48) (by simp) (by simp);have hep:=hs.1;simp at b0 hep;have hl2:∀ k ∈ labs c,1≤k.1∧k.1 < h1.ep:=fun k hk=>by have:=hl k hk;simp at this;omega
 simp;intro _;refine Wait.for (xs:=cs) (s0:=out0) (fun i out e h=>∃ c,MR h 2 c (out.map relC)∧(∀ k ∈ labs c,1≤k.1∧k.1 < h.ep)∧1≤h.ep∧h.box (0,48)=some (s.enc.map C.d)∧e.n=101 ∧
  e.get 3=.one (.ptr (0,48) 0)∧e.get 10=.one c∧e.get 34=.one (.d (.sl (cs.map Chg.enc)))∧e.get 35=.one (.d (.int .i64 (cs.length:Int)))∧e.get 36=.one (.d (.int .i64 (i:Int)))) hm ?_ ?_ ?_
 ·exact⟨c,hr,hl2,by omega,by simpa[Sch.enc] using b0,by simp,by simp,by simp,by simp,by simp,by simp⟩
 ·clear hm hc1 hc2 hr hl2 hl hs b0 hep hout0 c h1 hev hev2 hc3;rintro i out e h ⟨c,hr,hl,hep,b0,hn,h3,h10,h34,h35,h36⟩ hlt hm;have hw:IntKind.i64.wrap ((i:Int)+1)=(i:Int)+1:=IntWalk.i64_in _ (by omega);generalize hNx:(fun s'=>forK (fun (i:Nat) (x:Chg) (out:List Rel) next=>m_chg s x out next fun e=>some ([],e)) (fun out=>some (out,0)) (List.drop (i+1) cs) (i+1) s')=nextN at hm;have hback:∀ o',Is (nextN o') r→Is (forK (fun (i:Nat) (x:Chg) (out:List Rel) next=>m_chg s x out next fun e=>some ([],e)) (fun out=>some (out,0)) (List.drop (i+1) cs) (i+1) o') r:=fun o' h'=>by rw[← hNx] at h';exact h'
  clear hNx;generalize hx:cs[i]=x at hm;have hxi:cs[i]?=some x:=by rw[← hx];exact List.getElem?_eq_getElem hlt
  unfold m_chg at hm;obtain⟨ev3,hev3,hm⟩:=hm.bind;simp only[Sch.enc,List.map_cons,List.map_nil] at b0;simp[hn,h3,h10,h34,h35,h36,b0,hlt,hx];refine Z09 (c_change_Validate s x ev3 hev3) (by simp) ?_;simp[hn,h3,h10,h34,h35,h36,b0];refine r_cond hm ?_ ?_<;>clear hm<;>intro hc4 hm
  ·obtain rfl:=r_ret hm;simp[hn,h3,h10,h34,h35,h36,b0,hc4,retH,resVs,resV,notTup];exact⟨Frz.data rfl,Frz.data rfl,trivial⟩
  obtain⟨q,hqv,hm⟩:=hm.bind;obtain⟨qi,qb⟩:=q;obtain⟨T,hq0,hT,hm⟩:=hm.get;obtain⟨o,_,ho,hm⟩:=hm.get;simp only at hq0 hT ho hm;obtain⟨qn,rfl⟩:∃ n:Nat,qi=n:=⟨qi.toNat,by omega⟩;simp only[Int.toNat_natCast] at hT ho hm;simp[hn,h3,h10,h34,h35,h36,b0,hc4];refine Z09 (c_schema_FindTable s x.table _ hqv) (by simp) ?_;simp[hn,h3,h10,h34,h35,h36,b0,hT];have hiq:qn < out.length:=(List.getElem?_eq_some_iff.1 ho).1;have hx2:(out.map relC)[qn]?=some (relC o):=by rw[List.getElem?_map,ho];rfl
  obtain⟨l,cap,sp,rfl,hb,hcap⟩:=hr.block (by simp<;>omega);rw[List.length_map] at hl hr h10;have hrl:=Z6o (sp:=sp) hr.1 (k:=qn) (by simp<;>omega);have hset:∀ rows:List (List GV),Z03 (rowBox (out.map relC) sp) (qn * 2+1) [.d (.sl (rows.map (encL GV.enc)))]=rowBox ((out.set qn ⟨o.table,rows⟩).map relC) sp:=fun rows=>by
   rw[Z60 hr.1 hx2 (by simp[relC]),List.map_set];simp[Z03,relC]
  have htk:takeN 1 ((rowBox (out.map relC) sp).drop (qn * 2+1))=some [.d (.sl (o.rows.map (encL GV.enc)))]:=by
   have h9:=Z5j (sp:=sp) (f:=1) (m:=1) hr.1 hx2 (by simp[relC]);simpa[takeN,relC] using h9
  have hll:=(hl l (by simp[labs])).2;have hl2:=(hl l (by simp[labs])).1;have hne3:((0,48):Lab)≠l:=by rintro rfl;simp at hl2
  have hall:∀ out:List Rel,AllC 2 (out.map relC):=fun out y hy=>by
   obtain⟨z,_,rfl⟩:=List.mem_map.1 hy;rfl
  have put:∀ (H:HS) (rows:List (List GV)),MR (H.setBox l (rowBox ((out.set qn ⟨o.table,rows⟩).map relC) sp)) 2 (.mrow l 0 out.length cap) ((out.set qn ⟨o.table,rows⟩).map relC):=fun H rows=>
   ⟨hall _,by simpa using hr.2.1,.inr ⟨l,cap,sp,by simp,by simp,by rw[Z04 (hall _),← hcap,Z04 (hall _)];simp⟩⟩
  have hne1:l≠(h.ep,192):=by rintro rfl;simp at hll
  have hne2:l≠(h.ep+1+1+1,256):=by rintro rfl;simp at hll;omega
  have hsH:Same h ((((h.setBox (h.ep,192) [.d (.int .i64 0),.d (.str ByteArray.empty),.nil,.nil]).next.setBox (h.ep,192) [.d (.int .i64 x.kind),.d (.str x.table),.d (.sl (x.key.map GV.enc)),.d (.sl (x.row.map GV.enc))]).next.next.setBox (h.ep+1+1+1,256) [.d (.str ByteArray.empty),.nil,.nil]).next.setBox (h.ep+1+1+1,256) [.d (.str T.name),.d (.sl (T.cols.map Col.enc)),.d (.sl (T.pk.map encI))]) []:=
   ((((Same.refl.setBox (.inr (by simp))).next.setBox (.inr (by simp))).next.next).setBox (.inr (by simp<;>omega))).next.setBox (.inr (by simp<;>omega))
  refine r_cond hm ?_ ?_<;>clear hm<;>intro hc5 hm
  ·obtain⟨rows,hrows,hm⟩:=hm.bind;simp[hn,h3,h10,h34,h35,h36,b0,hc5];refine Wait.cut (Plan.then_ [0,1,2,3,4,5,6,7,8,9,10,11,12,13] .done) follows (by kernel_rfl) (fun e1 h1=>∃ H,Same h H []∧h1=H.setBox l (rowBox ((out.set qn ⟨o.table,rows⟩).map relC) sp)∧1≤h1.ep∧e1.n=101∧e1.get 3=.one (.ptr (0,48) 0)∧e1.get 10=.one (.mrow l 0 out.length cap)∧e1.get 14=.one (.d (.int .i64 (qn:Int)))∧e1.get 34=.one (.d (.sl (cs.map Chg.enc)))∧e1.get 35=.one (.d (.int .i64 (cs.length:Int)))∧e1.get 36=.one (.d (.int .i64 (i:Int)))) ?_ ?_
   ·simp[hn,h3,h10,h34,h35,h36,b0,hc5,hiq,hb,hne1,hne2,htk,Plan.then_,vcPlan,Z01,Z00,callKind];refine Z09 (Zc9 T o.rows x.row rows hrows) (by simp) ?_;simp[hn,h3,h10,h34,h35,h36,b0,hc5,hiq,hb,hne1,hne2,htk,Plan.then_,vcPlan,Z01,Z00,callKind];refine⟨fun _ _ x=>x,by omega,CutK.of ?_⟩;rw[hset];exact⟨_,hsH.next,rfl,by simp<;>omega,by simp[hn],by simp[h3],by simp[h10],by simp[hn],by simp[h34],by simp[h35],by simp[h36]⟩
   ·have hmm:=h10;clear hn h3 h10 h34 h35 h36;rintro e1 h1 ⟨H,hsx,rfl,hep1,hn,h3,h10,h14,h34,h35,h36⟩;have htk2:takeN 1 ((rowBox ((out.set qn ⟨o.table,rows⟩).map relC) sp).drop (qn * 2+1))=some [.d (.sl (rows.map (encL GV.enc)))]:=by
     have h9:=Z5j (sp:=sp) (f:=1) (m:=1) (hall (out.set qn ⟨o.table,rows⟩)) (k:=qn) (x:=relC ⟨o.table,rows⟩) (by rw[List.getElem?_map,List.getElem?_set_self hiq];rfl) (by simp[relC]);simpa[takeN,relC] using h9
    simp only[List.map_set] at htk2;simp[hn,h3,h10,h14,h34,h35,h36,hiq,htk2];intro hrl2;refine r_cond hm ?_ ?_<;>clear hm<;>intro hc6 hm
    ·obtain rfl:=r_ret hm;simp at hc6;simp[hn,h10,hc6,retH,resVs,resV,notTup];exact⟨Frz.data rfl,Frz.data rfl,trivial⟩
    ·simp at hc6;have hc7:¬ (24 < rows.length):=by omega
     simp[hn,h10,hc7,h36,hw];have hb3:h.box (0,48)=some (s.enc.map C.d):=b0;have hput:=put H rows;exact BackF.of (out.set qn ⟨o.table,rows⟩) ⟨⟨.mrow l 0 out.length cap,by simpa only[List.map_set] using hput,fun k hk=>⟨(hl k hk).1,by have:=(hl k hk).2;have:=hsx.1;simp<;>omega⟩,hep1,by simp[hne3];rw[hsx.2 _ (by simp<;>omega) (by simp)];exact hb3,by simp[hn],by simp[h3],by simp[h10],by simp[h34],by simp[h35],by simp[hw]⟩,hback _ hm⟩
  ·obtain⟨d,hd,hm⟩:=hm.bind;simp[hn,h3,h10,h34,h35,h36,b0,hc5];refine Wait.cut (Plan.then_ [0,1,2,3,4,5,6,7,8,9,10,11,12,14,15,13,16,17] .done) follows (by kernel_rfl) (fun e1 h1=>∃ H,Same h H []∧h1=H.setBox l (rowBox ((out.set qn ⟨o.table,d.1⟩).map relC) sp)∧1≤h1.ep∧e1.n=101∧e1.get 3=.one (.ptr (0,48) 0)∧e1.get 10=.one (.mrow l 0 out.length cap)∧e1.get 17=.one (.d (.bool d.2))∧e1.get 34=.one (.d (.sl (cs.map Chg.enc)))∧e1.get 35=.one (.d (.int .i64 (cs.length:Int)))∧e1.get 36=.one (.d (.int .i64 (i:Int)))) ?_ ?_
   ·simp[hn,h3,h10,h34,h35,h36,b0,hc5,hiq,hb,hne1,hne2,htk,Plan.then_,vcPlan,Z01,Z00,callKind];refine Z09 (Zca T o.rows x.key d hd) (by simp) ?_;simp[hn,h3,h10,h34,h35,h36,b0,hc5,hiq,hb,hne1,hne2,htk,Plan.then_,vcPlan,Z01,Z00,callKind];refine⟨fun _ _ x=>x,by omega,CutK.of ?_⟩;rw[hset];exact⟨_,hsH.next,rfl,by simp<;>omega,by simp[hn],by simp[h3],by simp[h10],by simp[hn],by simp[h34],by simp[h35],by simp[h36]⟩
   ·clear hn h3 h10 h34 h35 h36;rintro e1 h1 ⟨H,hsx,rfl,hep1,hn,h3,h10,h17,h34,h35,h36⟩;simp[hn,h17];refine r_cond hm ?_ ?_<;>clear hm<;>intro hc6 hm
    ·obtain rfl:=r_ret hm;simp[hn,hc6,retH,resVs,resV,notTup];exact⟨Frz.data rfl,Frz.data rfl,trivial⟩
    ·simp[hn,h36,hw,hc6];have hb3:h.box (0,48)=some (s.enc.map C.d):=b0;have hput:=put H d.1;exact BackF.of (out.set qn ⟨o.table,d.1⟩) ⟨⟨.mrow l 0 out.length cap,by simpa only[List.map_set] using hput,fun k hk=>⟨(hl k hk).1,by have:=(hl k hk).2;have:=hsx.1;simp<;>omega⟩,hep1,by simp[hne3];rw[hsx.2 _ (by simp<;>omega) (by simp)];exact hb3,by simp[hn],by simp[h3],by simp[h10],by simp[h34],by simp[h35],by simp[hw]⟩,hback _ hm⟩
 ·rintro out e h ⟨c,hr,hl,hep,b0,hn,h3,h10,h34,h35,h36⟩ hm;obtain rfl:=r_ret hm;simp[hn,h10,h35,h36,retH,resVs,resV,notTup];refine⟨?_,Frz.data rfl,trivial⟩;show Frz _ _ _;exact Zoc hr
end
section
open Go.Am
instance i_change_Apply (s_:Sch) (inst:List Rel) (changes:List Chg):Con (Z4j s_ inst changes) Tryz.prog 65 [.agg s_.enc,.one (.d (.sl (inst.map Rel.enc))),.one (.d (.sl (changes.map Chg.enc)))] (fun r=>.tup [.one (.d (.sl (r.1.map Rel.enc))),.one (.d (.int .i64 r.2))]):=⟨fun r hm=>Zem s_ inst changes r hm⟩
def Z51 (g_:Gr) (t:Txn):Option ((List Rel) × Int):=
 (bindK (Z1t g_ t.version) fun v3=>(bif (v3.2 != 0) then (some ([],v3.2)) else (bindK (Z4j v3.1 t.snapshot t.changes) fun v6=>(some (v6.1,v6.2)))))
instance c_txn_Current (g_:Gr) (t:Txn):Con (Z51 g_ t) Tryz.prog 44 [.agg g_.enc,.agg t.enc] (fun r=>.tup [.one (.d (.sl (r.1.map Rel.enc))),.one (.d (.int .i64 r.2))]):=by
 unfold Z51;exact go 26 Tryz.func44 rfl (by kernel_rfl) rfl rfl (by simp)
end
section
open Go Go.Am
open Go.RowKit (Below)
theorem Zmo {Γ:Ctx} {h:HS} {μ:Mem} {w w':World} (hI:Inv Γ h μ w) (hb:Below w.heap.size w w'):Inv Γ h μ w':=by
 have hsz:=hI.below.size;refine⟨hI.cell.of_heap (fun b o v hm=>hb.block b (hI.cell.lt hm)),hI.tmp,hI.tcell.of_heap (fun b o v hm=>hb.block b (hI.tcell.lt hm)),hI.told,hI.ext,hI.old,hI.below.trans (hb.mono hsz),fun l cs hl=>?_,fun l es n hl=>?_,hI.inj,hI.lt,hI.both⟩
 ·obtain⟨b,n,T,conc,h1,h2,h3,h4,h5⟩:=hI.box l cs hl;exact⟨b,n,T,conc,h1,h2,(hb.block b (Z1z h3)).trans h3,h4,h5⟩
 ·obtain⟨gc,h1,h2⟩:=hI.arr l es n hl;refine⟨gc,h1,h2.keep (fun g hg=>?_) (fun _ _ _ h=>h)⟩;obtain⟨_,T1,cur,hq,_⟩:=h2.2 g hg;exact hb.block g (Z1z hq)
theorem Zhj {P:Program} {h:HS} {f:FuncId} {vs:List V} {ars:List AV} {x y:D} {K:V→HS→Prop} (hs:PSpec P f ars (.tup [.one (.d x),.one (.d y)])) (hl:LendVs h vs ars) (hy:y.flat=true) (hk:K (.tup [.one .any,.one (.d y)]) h):HSpec P f vs h K:=by
 refine⟨hs.1,fun Γ μ w vals hI hR=>?_⟩;obtain⟨hlen,hget⟩:=hl.get;have hargs:Zap (snap w) (snap w) ars vals:=⟨by rw[hR.1,hlen],fun i x hi=>by
  obtain⟨v,hv,hlv⟩:=hget i x hi;obtain⟨u,hu,hr⟩:=hR.2 i v hv;exact⟨u,hu,Zgk hI hlv hr⟩⟩
 refine (hs.2 w (snap w) (snap w) vals hI.glob (Z6y w) (Z6y w) hargs).mono ?_;rintro en w' ⟨v,m',blk,rfl,hsub,hold,hcell,hb,hr,hfr⟩;obtain⟨us,rfl,hsz,hr⟩:=hr;obtain⟨u0,h0,r0⟩:=hr 0 _ rfl;obtain⟨u1,h1,r1⟩:=hr 1 _ rfl;refine⟨_,_,h,μ,rfl,hk,Zmo hI hb,⟨us,rfl,hsz,fun i x hi=>?_⟩,.refl μ⟩
 match i,hi with
 | 0,hi=>cases hi;exact⟨u0,h0,RepD.oneCell r0⟩
 | 1,hi=>cases hi;exact⟨u1,h1,Zfp hy r1⟩
instance dChL (x:List Chg):Decidable (ChL x):=inferInstanceAs (Decidable (_∧_))
instance dInstL (x:List Rel):Decidable (InstL x):=inferInstanceAs (Decidable (_∧_))
instance dExOK (t:Txn) (a:List ByteArray) (b:List Chg):Decidable (ExOK t a b):=inferInstanceAs (Decidable (_∧_∧_))
def txZ:Txn:=⟨0,[],[],[]⟩
theorem Zhd {h h':HS} (hs:Same h h' []):OwN h h' TxSh [.d (.int .i64 0),.nil,.nil,.nil] txZ.enc []:=⟨.data rfl (.emp rfl (.emp rfl (.emp rfl .nil))),List.nodup_nil,by simp,hs⟩
def Z4u (g_:Gr) (t:Txn) (chs:List Chg):Option (Txn × Int):=
 chkK (ExOK t (chs.map (·.table)) chs) <| bif decide ((24:Int) < (t.changes.length:Int)+(chs.length:Int)) then some (txZ,2) else
 bindK (Z51 g_ (extF t (chs.map (·.table)) chs)) fun r=>bif r.2 != 0 then some (txZ,r.2) else some (extF t (chs.map (·.table)) chs,0)
set_option maxHeartbeats 2000000 in
theorem Zdp (h:HS) (g_:Gr) (t:Txn) (chs:List Chg) (r:Txn × Int) (hm:Is (Z4u g_ t chs) r) (K:V→HS→Prop)
  (hk:∀ cs ls h',OwN h h' TxSh cs r.1.enc ls→BoxLe h h'→K (.tup [.agg cs,.one (.d (.int .i64 r.2))]) h') :
  HSpec Tryz.prog 14 [.agg (g_.enc.map C.d),.agg (t.enc.map C.d),.one (.d (.sl (chs.map Chg.enc)))] h K:=by
 refine HSpec.good Tryz.func14 rfl (by kernel_rfl) fun hg=>?_;refine HSpec.of_vc Tryz.func14 rfl (by kernel_rfl) (n:=48) rfl rfl (by simp) ?_;obtain⟨hok,hm⟩:=hm.chk;have hcl:=hok.2.1.1;have htl:=hok.2.2;simp at hcl htl;have hw:IntKind.i64.wrap ((t.changes.length:Int)+(chs.length:Int))=(t.changes.length:Int)+(chs.length:Int):=IntWalk.i64_in _ (by omega);simp[hw];intro hl1 hl2;refine Z10 (fun hgt=>?_) (fun hle=>?_)
 ·rw[decide_eq_true hgt] at hm;obtain rfl:=r_ret hm;simp;refine (show retH _ _ _ _ _ _ from ?_);simp[retH,resVs,resV,notTup,takeN];refine hk _ [] _ (Zhd ?_) (Same.boxLe ?_ hg)<;>exact (((((Same.refl.setBox (.inr (Nat.le_refl _))).next).setBox (.inr (by simp))).next.setBox (.inr (by simp<;>omega))).next).setBox (.inr (by simp<;>omega))
 ·rw[decide_eq_false hle] at hm;simp only[cond_false] at hm;simp;intro _;generalize hX:(((h.setBox (h.ep,48) _).next.setBox (h.ep+1,64) _).next.setBox (h.ep+1+1,96) _).next=HX;have q3:HX.box (h.ep,48)=some (g_.enc.map C.d):=by rw[← hX];simp
  have q4:HX.box (h.ep+1,64)=some (t.enc.map C.d):=by rw[← hX];simp
  have q6:HX.box (h.ep+1+1,96)=some [C.d (D.int IntKind.i64 0),C.nil,C.nil,C.nil]:=by rw[← hX];simp
  have hep:HX.ep=h.ep+1+1+1:=by rw[← hX];simp
  have hs:Same h HX []:=by
   rw[← hX];exact ((((Same.refl.setBox (.inr (Nat.le_refl _))).next).setBox (.inr (by simp))).next.setBox (.inr (by simp<;>omega))).next
  refine Wait.rounds (fun n e h'=>∃ (i:Nat) (c8:C),n=chs.length - i∧i≤chs.length∧e.n=48∧e.get 2=.one (.d (.sl (chs.map Chg.enc)))∧e.get 3=.one (.ptr (h.ep,48) 0)∧e.get 4=.one (.ptr (h.ep+1,64) 0)∧e.get 6=.one (.ptr (h.ep+1+1,96) 0)∧e.get 8=.one c8 ∧
   e.get 21=.one (.d (.sl (chs.map Chg.enc)))∧e.get 22=.one (.d (.int .i64 (chs.length:Int)))∧e.get 23=.one (.d (.int .i64 (i:Int)))∧MR h' 1 c8 (((chs.take i).map (·.table)).map scell)∧Same HX h' []∧∀ k ∈ labs c8,HX.ep≤k.1∧k.1 < h'.ep) chs.length
   ⟨0,.nil,rfl,by omega,by simp,by simp,by simp,by simp,by simp,by simp,by simp,by simp,by simp,by simpa using MR.nil,.refl,by simp[labs]⟩ ?_
  rintro n e h' ⟨i,c8,rfl,hil,en,e2,e3,e4,e6,e8,e21,e22,e23,m8,hs8,hl8⟩;simp[en,e21,e22,e23];refine Z10 (fun hlt=>?_) (fun hge=>?_)
  ·have hlt':i < chs.length:=by omega
   have hw1:IntKind.i64.wrap ((i:Int)+1)=(i:Int)+1:=IntWalk.i64_in _ (by omega);simp[en,e8,e21,e22,e23,hlt',hw1];refine app_mr Z84 (by kernel_rfl) (by decide) (by decide) (m8.frame fun k hk=>?_) (RowAt.own1 rfl) (by simp;omega) (fun c' g hm' hs6 hl6=>?_)
   ·have:=hl8 k hk
    have hne:k≠(h'.ep,160):=fun he=>by subst he;simp at this
    simp[hne]
   ·have hy:Same h' (((h'.setBox (h'.ep,160) [C.d (D.int IntKind.i64 0),C.d (D.str ByteArray.empty),C.nil,C.nil]).next.setBox (h'.ep,160) [C.d (D.int IntKind.i64 chs[i].kind),C.d (D.str chs[i].table),C.d (D.sl (List.map GV.enc chs[i].key)),C.d (D.sl (List.map GV.enc chs[i].row))]).setArr (h'.ep+1,480) (some (1,1))).next []:=
     (((Same.refl.setBox (.inr (Nat.le_refl _))).next).setBox (.inr (Nat.le_refl _))).setArr.next
    have hye:=hy.1;have h6e:=hs6.1;simp[en,e23,hw1];refine Back.of (n':=chs.length - (i+1)) (by omega) ⟨i+1,c',rfl,by omega,by simp[en],by simp[e2],by simp[e3],by simp[e4],by simp[e6],by simp,by simp[e21],by simp[e22],by simp,?_,?_,?_⟩
    ·rw[List.take_succ_eq_append_getElem hlt',List.map_append,List.map_append];exact hm'
    ·exact (hs8.trans hy).trans' hs6 fun k hk=>.inr (hl8 k hk).1
    ·intro k hk;rcases hl6 k hk with h9 | h9
     ·have:=hl8 k h9;omega
     ·have:=hs8.1;omega
  ·have hie:i=chs.length:=by omega
   subst hie;rw[List.take_length] at m8;have b3:h'.box (h.ep,48)=some (g_.enc.map C.d):=by rw[hs8.2 _ (by simp<;>omega) (by simp)];exact q3
   have b4:h'.box (h.ep+1,64)=some (t.enc.map C.d):=by rw[hs8.2 _ (by simp<;>omega) (by simp)];exact q4
   have b6:h'.box (h.ep+1+1,96)=some [C.d (D.int IntKind.i64 0),C.nil,C.nil,C.nil]:=by rw[hs8.2 _ (by simp<;>omega) (by simp)];exact q6
   have hep8:=hs8.1;have hs1:Same HX (h'.sans (labs c8)) []:=⟨hep8,fun k hk _=>by
    rw[← hs8.2 k hk (by simp)];simp only[HS.sans];rw[if_neg fun h9=>by have:=hl8 k h9;omega]⟩
   have hfz:Frz (h'.only (labs c8)) c8 (.sl ((chs.map (·.table)).map encS)):=(str_ow (m8.frame (h':=h'.only (labs c8)) fun k hk=>by simp[HS.only,hk])).frz.1;simp[en,e3,e4,e8,e2,b4];refine Z02 (HSpec.frz_args (vs':=[.agg (t.enc.map C.d),.one (.d (.sl ((chs.map (·.table)).map encS))),.one (.d (.sl (chs.map Chg.enc)))]) (labs c8) ⟨FrzV.refl,.inr ⟨_,rfl,hfz⟩,FrzV.refl,trivial⟩ (Zch _ t (chs.map (·.table)) chs hok _ fun cs ls g o hb=>?_));have hs2:=hs1.trans o.same;have hep2:=hs2.1;have c3:g.box (h.ep,48)=some (g_.enc.map C.d):=by rw[hs2.2 _ (by simp<;>omega) (by simp)];exact q3
   have c4:g.box (h.ep+1,64)=some (t.enc.map C.d):=by rw[hs2.2 _ (by simp<;>omega) (by simp)];exact q4
   have c6:g.box (h.ep+1+1,96)=some [C.d (D.int IntKind.i64 0),C.nil,C.nil,C.nil]:=by rw[hs2.2 _ (by simp<;>omega) (by simp)];exact q6
   have hcl4:cs.length=4:=o.ow.len.1;have ht4:takeN 4 cs=some cs:=by rw[← hcl4];simp[takeN]
   simp[en,e3,e4,e8,e2,c3,c4];have h5:∀ a b c d:C,Z03 [a,b,c,d] 0 cs=cs:=fun a b c d=>by simp[Z03,hcl4]
   refine⟨hcl4,?_⟩;simp[en,e3,e4,e8,e2,c3,c4,h5,ht4];replace hm:=hm.bind;obtain⟨q,hq,hm⟩:=hm;have hne4:∀ k ∈ ls,k≠(h.ep+1,64):=fun k hk he=>by have h9:=(o.new k hk).1;subst he;have h8:HX.ep≤(h'.sans (labs c8)).ep:=hs1.1;simp only at h9;omega
   have o2:OwN h (g.setBox (h.ep+1,64) cs) TxSh cs (extF t (chs.map (·.table)) chs).enc ls:=by
    refine⟨o.ow.frame fun k hk=>by simp[hne4 k hk],o.nd,fun k hk=>?_,((hs.trans hs2).setBox (.inr (by simp)))⟩;have h9:=o.new k hk;have h8:HX.ep≤(h'.sans (labs c8)).ep:=hs1.1;exact⟨by omega,h9.2⟩
   refine Z02 (Zhj ((c_txn_Current g_ (extF t (chs.map (·.table)) chs)).h q hq) ⟨.agg (Zal (ds:=g_.enc)),.agg o2.ow.frz,trivial⟩ rfl ?_);simp[en];have o3:∀ xs,OwN h ((g.setBox (h.ep+1,64) cs).setBox (h.ep+1+1,96) xs) TxSh cs (extF t (chs.map (·.table)) chs).enc ls:=fun xs=>by
    have hne6:∀ k ∈ ls,k≠(h.ep+1+1,96):=fun k hk he=>by have h9:=(o.new k hk).1;subst he;have h8:HX.ep≤(h'.sans (labs c8)).ep:=hs1.1;simp only at h9;omega
    exact⟨o2.ow.frame fun k hk=>by simp[hne6 k hk],o2.nd,o2.new,o2.same.setBox (.inr (by simp<;>omega))⟩
   have d6:(g.setBox (h.ep+1,64) cs).box (h.ep+1+1,96)=some [C.d (D.int IntKind.i64 0),C.nil,C.nil,C.nil]:=by simp[c6]
   have d4:(g.setBox (h.ep+1,64) cs).box (h.ep+1,64)=some cs:=by simp
   generalize g.setBox (h.ep+1,64) cs=G at *;refine r_cond hm ?_ ?_<;>clear hm<;>intro hc hm
   ·obtain rfl:=r_ret hm;simp[en,e6,d6,hc,retH,resVs,resV,notTup,takeN];refine hk _ [] _ (Zhd ?_) (Same.boxLe ?_ hg)<;>exact o2.same.setBox (.inr (by simp<;>omega))
   ·obtain rfl:=r_ret hm;simp[en,e4,e6,d4,d6,ht4,hc,hcl4,h5,retH,resVs,resV,notTup];exact hk _ _ _ (o3 cs) ((o3 cs).same.boxLe hg)
end
section
open Go Go.Am
theorem Zfo {h:HS}:∀ {cs:List C} {ds:List D},FrzCs h cs ds→FrzRs h cs (ds.map RC.d)
 | [],[],_=>trivial
 | _::_,_::_,hf=>⟨hf.1,Zfo hf.2⟩
 | [],_::_,hf=>hf.elim
 | _::_,[],hf=>hf.elim
theorem Zhz (g_:Gr) (t:Txn) (changes:List Chg) (r:Txn × Int) (hm:Is (Z4u g_ t changes) r) :
  PSpec Tryz.prog 14 [.agg g_.enc,.agg t.enc,.one (.d (.sl (changes.map Chg.enc)))] (.tup [.agg (r.1.enc.map RC.d),.one (.d (.int .i64 r.2))]):=by
 refine PSpec.of_heap (Zdp HS.init g_ t changes r hm _ fun cs ls h' o hb=>?_);exact⟨Zfo o.ow.frz,Frz.data rfl,trivial⟩
theorem Zob (h:HS):h.sans []=h:=by simp[HS.sans]
theorem Zqw {h:HS} (t:Txn) (table:ByteArray) (lab:Lab) (hok:ExOK t [table] []) (K:V→HS→Prop) (hk:∀ cs ls h',OwN h h' TxSh cs (extF t [table] []).enc ls→BoxLe h h'→K (.agg cs) h') :
  HSpec Tryz.prog 43 [.agg (t.enc.map C.d),.one (.own lab [[.str table]]),.one .nil] h K:=by
 refine HSpec.frz_args (vs':=[.agg (t.enc.map C.d),.one (.d (.sl ([table].map encS))),.one (.d (.sl (([]:List Chg).map Chg.enc)))]) [] ⟨FrzV.refl,.inr ⟨_,rfl,.data rfl⟩,.inr ⟨_,rfl,.data rfl⟩,trivial⟩ ?_;rw[Zob];exact Zch h t [table] [] hok K hk
theorem lkZ {h h':HS} (hs:Same h h' []):OwN h h' (RowSh::TxSh) (.nil::[.d (.int .i64 0),.nil,.nil,.nil]) (.sl []::txZ.enc) ([]++[]):=⟨.emp rfl (Zhd hs).ow,List.nodup_nil,by simp,hs⟩
def Z3j (g_:Gr) (t:Txn) (table:ByteArray) (key:List GV):Option (List GV × Txn × Int):=
 bindK (Z51 g_ t) fun c=>bif c.2 != 0 then some ([],txZ,c.2) else bindK (Z1t g_ t.version) fun s=>bindK (Z05 s.1 table) fun f=>bif !f.2 then some ([],txZ,4) else
 chkK (ExOK t [table] []) <| getK s.1.tables f.1 fun T=>getK c.1 f.1 fun R=>bindK (Z25 T R.rows key) fun q=>bif !q.2 then some ([],extF t [table] [],0) else getK R.rows q.1 fun row=>chkK (row.length≤2097152) (some (row,extF t [table] [],0))
set_option maxHeartbeats 2000000 in
theorem Zci (h:HS) (g_:Gr) (t:Txn) (table:ByteArray) (key:List GV) (r:List GV × Txn × Int) (hm:Is (Z3j g_ t table key) r) (K:V→HS→Prop)
  (hk:∀ c cs l1 ls h',OwN h h' (RowSh::TxSh) (c::cs) (.sl (r.1.map GV.enc)::r.2.1.enc) (l1++ls)→BoxLe h h'→K (.tup [.one c,.agg cs,.one (.d (.int .i64 r.2.2))]) h') :
  HSpec Tryz.prog 18 [.agg (g_.enc.map C.d),.agg (t.enc.map C.d),.one (.d (.str table)),.one (.d (.sl (key.map GV.enc)))] h K:=by
 refine HSpec.good Tryz.func18 rfl (by kernel_rfl) fun hg=>?_;refine HSpec.of_vc Tryz.func18 rfl (by kernel_rfl) (n:=76) rfl rfl (by simp) ?_;obtain⟨c,hc,hm⟩:=hm.bind;simp;refine Z09 ((c_txn_Current g_ t).h c hc) (by simp) ?_;simp;refine r_cond hm ?_ ?_<;>clear hm<;>intro hc1 hm
 ·obtain rfl:=r_ret hm;simp[hc1,retH,resVs,resV,notTup,takeN];refine hk _ _ [] [] _ (lkZ ?_) (Same.boxLe ?_ hg)<;>exact (((((Same.refl.setBox (.inr (Nat.le_refl _))).next).setBox (.inr (by simp))).next.setBox (.inr (by simp<;>omega))).next.next).setBox (.inr (by simp<;>omega))
 ·obtain⟨sv,hsv,hm⟩:=hm.bind;obtain⟨ft,hft,hm⟩:=hm.bind;simp[hc1];refine Z09 ((c_versions_Schema g_ t.version).h sv hsv) (by simp) ?_;simp[hc1];refine Z09 ((c_schema_FindTable sv.1 table).h ft hft) (by simp) ?_;simp[hc1];refine r_cond hm ?_ ?_<;>clear hm<;>intro hf hm
  ·obtain rfl:=r_ret hm;simp[hc1,hf,retH,resVs,resV,notTup,takeN];refine hk _ _ [] [] _ (lkZ ?_) (Same.boxLe ?_ hg)<;>exact ((((((((Same.refl.setBox (.inr (Nat.le_refl _))).next).setBox (.inr (by simp))).next.setBox (.inr (by simp<;>omega))).next.next.next).setBox (.inr (by simp<;>omega))).next.setBox (.inr (by simp<;>omega))).next).setBox (.inr (by simp<;>omega))
  ·obtain⟨hok,hm⟩:=hm.chk;simp[hc1,hf];obtain⟨T,h0,hT,hm⟩:=hm.get;obtain⟨R,_,hR,hm⟩:=hm.get;obtain⟨k,hk0⟩:∃ k:Nat,ft.1=k:=⟨ft.1.toNat,(Int.toNat_of_nonneg h0).symm⟩;rw[hk0] at hT hR;simp only[Int.toNat_natCast] at hT hR;have hTl:=(List.getElem?_eq_some_iff.1 hT).1;have hRl:=(List.getElem?_eq_some_iff.1 hR).1;obtain⟨q,hq,hm⟩:=hm.bind;have hTe:=(List.getElem?_eq_some_iff.1 hT).2;have hRe:=(List.getElem?_eq_some_iff.1 hR).2;generalize hX:HS.next (HS.setArr _ (h.ep+1+1+1+1+1+1+1,736) _)=HX;have q5:HX.box (h.ep+1,80)=some (t.enc.map C.d):=by rw[← hX];simp
   have q9:HX.box (h.ep+1+1,144)=some [C.d (D.int IntKind.i64 0),C.nil,C.nil,C.nil]:=by rw[← hX];simp
   have q13:HX.box (h.ep+1+1+1+1+1,208)=some (sv.1.enc.map C.d):=by rw[← hX];simp
   have hep:HX.ep=h.ep+8:=by rw[← hX];simp
   have hs:Same h HX []:=by
    rw[← hX];exact ((((((((Same.refl.setBox (.inr (Nat.le_refl _))).next).setBox (.inr (by simp))).next.setBox (.inr (by simp<;>omega))).next.next.next).setBox (.inr (by simp<;>omega))).next.setBox (.inr (by simp<;>omega))).next).setArr.next
   refine Z02 (Zqw t table _ hok _ fun cs ls g o hb=>?_);have hs2:=o.same;have hep2:=hs2.1;have c5:g.box (h.ep+1,80)=some (t.enc.map C.d):=by rw[hs2.2 _ (by simp<;>omega) (by simp)];exact q5
   have c9:g.box (h.ep+1+1,144)=some [C.d (D.int IntKind.i64 0),C.nil,C.nil,C.nil]:=by rw[hs2.2 _ (by simp<;>omega) (by simp)];exact q9
   have c13:g.box (h.ep+1+1+1+1+1,208)=some (sv.1.enc.map C.d):=by rw[hs2.2 _ (by simp<;>omega) (by simp)];exact q13
   have hcl4:cs.length=4:=o.ow.len.1;have ht4:takeN 4 cs=some cs:=by rw[← hcl4];simp[takeN]
   have h5:∀ a b c d:C,Z03 [a,b,c,d] 0 cs=cs:=fun a b c d=>by simp[Z03,hcl4]
   have hne:∀ p:Lab,p.1 < HX.ep→∀ k ∈ ls,k≠p:=fun p hp k hk he=>by have:=(o.new k hk).1;subst he;omega
   simp[c5];refine⟨hcl4,?_⟩;simp[h5];have o2:OwN h (g.setBox (h.ep+1,80) cs) TxSh cs (extF t [table] []).enc ls:=by
    refine⟨o.ow.frame fun k hk=>by simp[hne (h.ep+1,80) (by simp;omega) k hk],o.nd,fun k hk=>?_,((hs.trans hs2).setBox (.inr (by simp)))⟩;have h9:=o.new k hk;exact⟨by omega,h9.2⟩
   have d5:(g.setBox (h.ep+1,80) cs).box (h.ep+1,80)=some cs:=by simp
   have d9:(g.setBox (h.ep+1,80) cs).box (h.ep+1+1,144)=some [C.d (D.int IntKind.i64 0),C.nil,C.nil,C.nil]:=by simp[c9]
   have d13:(g.setBox (h.ep+1,80) cs).box (h.ep+1+1+1+1+1,208)=some (sv.1.enc.map C.d):=by simp[c13]
   have hepG:h.ep+8≤(g.setBox (h.ep+1,80) cs).ep:=by simp;omega
   generalize g.setBox (h.ep+1,80) cs=G at *;refine Wait.cut (Plan.then_ [0,1,2,3,4,5,6,7,8,9,10,11,12,13,14,15,16] .done) follows (by kernel_rfl) (fun e1 h1=>e1.n=76∧e1.get 5=.one (.ptr (h.ep+1,80) 0)∧e1.get 9=.one (.ptr (h.ep+1+1,144) 0)∧e1.get 11=.one (.d (.sl (c.1.map Rel.enc)))∧e1.get 15=.one (.d (.int .i64 (k:Int)))∧e1.get 16=.one (.d (.bool q.2))∧e1.get 17=.one (.d (.int .i64 q.1))∧Same G h1 []) ?_ ?_
   ·simp[d13,hk0,hT,hR,hTl,hRl,Plan.then_,vcPlan,Z01,Z00,callKind];refine Z09 ((c_relation_Find T R.rows key).h q hq) (by simp[hTe,hRe]) ?_;simp[Plan.then_,vcPlan,Z01,Z00,callKind];exact⟨fun _ _ x=>x,CutK.of ⟨by simp,by simp,by simp,by simp,by simp,by simp,by simp,Same.refl.next⟩⟩
   ·rintro e1 h1 ⟨en,e5,e9,e11,e15,e16,e17,hs3⟩;have hep3:=hs3.1;have f5:h1.box (h.ep+1,80)=some cs:=by rw[hs3.2 _ (by simp<;>omega) (by simp)];exact d5
    have f9:h1.box (h.ep+1+1,144)=some [C.d (D.int IntKind.i64 0),C.nil,C.nil,C.nil]:=by rw[hs3.2 _ (by simp<;>omega) (by simp)];exact d9
    have o3:OwN h h1 TxSh cs (extF t [table] []).enc ls:=⟨o2.ow.frame fun k hk=>hs3.2 k (o2.new k hk).2 (by simp),o2.nd,fun k hk=>⟨(o2.new k hk).1,Nat.lt_of_lt_of_le (o2.new k hk).2 hep3⟩,o2.same.trans hs3⟩;have hn9:∀ k ∈ ls,k≠(h.ep+1+1,144):=fun k hk=>hne _ (by simp;omega) k hk;simp[en,e16];refine r_cond hm ?_ ?_<;>clear hm<;>intro hq2 hm
    ·obtain rfl:=r_ret hm;simp[en,hq2];refine Wait.cut (Plan.then_ [0,1,2,3] .done) follows (by kernel_rfl) (fun e2 h2=>e2.n=76∧e2.get 8=.one .nil∧e2.get 9=.one (.ptr (h.ep+1+1,144) 0)∧e2.get 10=.one (.d (.int .i64 0))∧h2.box (h.ep+1+1,144)=some cs∧OwN h h2 TxSh cs (extF t [table] []).enc ls) ?_ ?_
     ·simp[en,e5,e9,f5,f9,ht4,hcl4,h5,Plan.then_,vcPlan,Z01,Z00,callKind];exact CutK.of ⟨by simp[en],by simp,by simp[e9],by simp,by simp,⟨o3.ow.frame fun k hk=>by simp[hn9 k hk],o3.nd,fun k hk=>by simpa using o3.new k hk,o3.same.setBox (.inr (by simp<;>omega))⟩⟩
     ·rintro e2 h2 ⟨en,e8,e9,e10,b9,o4⟩;simp[en,e8,e9,e10,b9,ht4,retH,resVs,resV,notTup];exact hk _ _ [] ls _ ⟨.emp rfl o4.ow,by simpa using o4.nd,by simpa using o4.new,o4.same⟩ (o4.same.boxLe hg)
    ·obtain⟨row,hq0,hrow,hm⟩:=hm.get;obtain⟨hrl,hm⟩:=hm.chk;obtain rfl:=r_ret hm;obtain⟨j,hj⟩:∃ j:Nat,q.1=j:=⟨q.1.toNat,(Int.toNat_of_nonneg hq0).symm⟩;rw[hj] at hrow e17;simp only[Int.toNat_natCast] at hrow;have hjl:=(List.getElem?_eq_some_iff.1 hrow).1;have hre:=(List.getElem?_eq_some_iff.1 hrow).2;simp[en,hq2];refine Wait.cut (Plan.then_ [0,1,2,3,4,5,6,7,9,8,10,11,12] .done) follows (by kernel_rfl) (fun e2 h2=>e2.n=76∧∃ c1,e2.get 8=.one c1∧e2.get 9=.one (.ptr (h.ep+1+1,144) 0)∧e2.get 10=.one (.d (.int .i64 0))∧h2.box (h.ep+1+1,144)=some cs∧OwN h h2 (RowSh::TxSh) (c1::cs) (.sl (row.map GV.enc)::(extF t [table] []).enc) (labs c1++ls)) ?_ ?_
     ·simp[en,e5,e9,e11,e15,e17,f5,f9,ht4,hcl4,h5,hR,hRl,hRe,hrow,hjl,hre,Plan.then_,vcPlan,Z01,Z00,callKind];refine Z02 (Z3r h1 row hrl _ fun c1 h2 oc m1 hb1=>?_);have g9:h2.box (h.ep+1+1,144)=some [C.d (D.int IntKind.i64 0),C.nil,C.nil,C.nil]:=by rw[oc.same.2 _ (by simp<;>omega) (by simp)];exact f9
      have hep4:=oc.same.1;simp[en,e9,g9,hcl4,h5,Plan.then_,vcPlan,Z01,Z00,callKind];refine⟨hb1,CutK.of ⟨by simp[en],c1,by simp,by simp[e9],by simp,by simp,?_⟩⟩;have hn1:∀ k ∈ labs c1,k≠(h.ep+1+1,144):=fun k hk he=>by have:=(oc.new k hk).1;subst he;simp at this;omega
      refine⟨(oc.ow.frame fun k hk=>by simp[hn1 k hk]).join (o3.ow.frame fun k hk=>?_),List.nodup_append.2 ⟨oc.nd,o3.nd,fun a ha b hb' he=>?_⟩,fun k hk=>?_,(o3.same.trans oc.same).setBox (.inr (by simp<;>omega))⟩
      ·simp[hn9 k hk];exact oc.same.2 k (o3.new k hk).2 (by simp)
      ·subst he
       have:=(oc.new a ha).1
       have:=(o3.new a hb').2
       omega
      ·simp
       have:=o3.same.1
       rcases List.mem_append.1 hk with h9 | h9
       ·have:=oc.new k h9;omega
       ·have:=o3.new k h9;omega
     ·rintro e2 h2 ⟨en,c1,e8,e9,e10,b9,o4⟩;simp[en,e8,e9,e10,b9,ht4,retH,resVs,resV,notTup];exact hk _ _ (labs c1) ls _ o4 (o4.same.boxLe hg)
theorem Zon {h:HS} {c:C} {cs:List C} {x:D} {ds:List D} (f:FrzCs h (c::cs) (x::ds)):Frz h c x∧FrzCs h cs ds:=f
theorem Zgv (g_:Gr) (t:Txn) (table:ByteArray) (key:List GV) (r:List GV × Txn × Int) (hm:Is (Z3j g_ t table key) r) :
  PSpec Tryz.prog 18 [.agg g_.enc,.agg t.enc,.one (.d (.str table)),.one (.d (.sl (key.map GV.enc)))] (.tup [.one (.d (.sl (r.1.map GV.enc))),.agg (r.2.1.enc.map RC.d),.one (.d (.int .i64 r.2.2))]):=by
 refine PSpec.of_heap (Zci HS.init g_ t table key r hm _ fun c cs l1 ls h' o hb=>?_);obtain⟨f1,f2⟩:=Zon o.ow.frz;exact⟨f1,Zfo f2,Frz.data rfl,trivial⟩
def Z7h (changes:List Chg):Option (List Chg):=chkK (ChL changes) (some changes)
theorem Zbe (changes:List Chg) (r:List Chg) (hm:Is (Z7h changes) r):PSpec Tryz.prog 26 [.one (.d (.sl (changes.map Chg.enc)))] (.one (.d (.sl (r.map Chg.enc)))):=by
 obtain⟨hok,hm⟩:=hm.chk;obtain rfl:=r_ret hm;refine PSpec.of_heap (Z7i HS.init _ changes ?_ hok _ fun c h' g hb=>?_)
 ·have:=RowAt.data (h:=HS.init) (n:=4) (ts:=changes.map Chg.enc) (fun t ht=>by obtain⟨x,_,rfl⟩:=List.mem_map.1 ht;rfl) (by simpa using hok.1)
  rw[List.map_map] at this;exact this
 ·obtain⟨qs,p,_⟩:=g;exact p.frz
end
section
open Go.Am
def Z0j (a:List GV) (b:List GV):Option Bool:=
 (bif ((a.length:Int) != (b.length:Int)) then (some false) else (forK (fun (i5:Nat) (x5:GV) (s5:Unit) next_5=>(getK b (i5:Int) fun x6=>(bif (!(x5.kind == x6.kind) || (!(x5.int == x6.int) || (!(x5.text == x6.text)))) then (some false) else (next_5 ())))) (fun (s5:Unit)=>(some true)) a 0 ()))
instance c_stemref1_EqualRow (a:List GV) (b:List GV):Con (Z0j a b) Tryz.prog 19 [.one (.d (.sl (a.map GV.enc))),.one (.d (.sl (b.map GV.enc)))] (fun r=>.one (.d (.bool r))):=by
 unfold Z0j;have l1:LH (σ:=Unit) 13 [0,1,12] []:=.intro;have p1:PH [6] (Plan.then_ [0,1,2,3,4,5,6,7,8] .done):=.intro;exact go 26 Tryz.func19 rfl (by kernel_rfl) rfl rfl (by simp)
end
end Go.Proofs.YthiojhcimecdgaaGreatDoor
section
namespace Go.Am
open Go
def firstC (md:Region.Mode) (ops:Array Oper) (listed:Array Bool) (i:Nat):Bool:=
 match ops[i]? with
 | none=>false
 | some oi=>
   let w:=waitsN md ops i 1 []
   Z47 oi.op && (Region.ready md ops listed).contains i && waitsB md ops i w && w.all (fun j=>!listed.getD j true) && (List.range ops.size).all fun j=>j == i || listed.getD j true || w.contains j || match ops[j]? with
    | some oj=>oi.apart ops oj && (!storeKind oj.op || !loadKind oi.op)
    | none=>true
def chainB (md:Region.Mode) (ops:Array Oper):List Nat→Nat→Array Bool→Bool
 | [],f,listed=>f == 0 && (Region.ready md ops listed).isEmpty
 | _::_,0,_=>false
 | i::p,f+1,listed=>(Region.ready md ops listed == [i] || firstC md ops listed i) && chainB md ops p f (listed.setIfInBounds i true)
theorem Za4 {P:Program} {md:Region.Mode} {ops:Array Oper} {K:Env→HS→Prop}:∀ (p:List Nat) (f:Nat) (listed:Array Bool) (e:Env) (h:HS),chainB md ops p f listed=true →
  vcPlan P ops.toList K (Plan.then_ p .done) e h→vcAny P md ops K f listed e h
 | [],f,listed,e,h,hB,hv=>by
   unfold chainB at hB;simp only[Bool.and_eq_true,beq_iff_eq] at hB;obtain⟨rfl,hB⟩:=hB;exact⟨by simpa using hB,fun _=>hv⟩
 | i::p,0,listed,e,h,hB,hv=>by unfold chainB at hB;cases hB
 | i::p,f+1,listed,e,h,hB,hv=>by
   unfold chainB at hB;simp only[Bool.and_eq_true,Bool.or_eq_true] at hB;obtain⟨hB,hrest⟩:=hB;have ih:=fun e h=>Za4 (P:=P) (K:=K) p f (listed.setIfInBounds i true) e h hrest;have hmem:i ∈ Region.ready md ops listed:=by
    rcases hB with hB | hB
    ·rw[eq_of_beq hB];simp
    ·unfold firstC at hB;split at hB
     ·cases hB
     ·simp only[Bool.and_eq_true] at hB;simpa using hB.1.1.1.2
   obtain⟨o,ho,hck,hv'⟩:=Z1j hmem hv;rw[hck] at hv'
   by_cases hR:Real e h
   ·rcases hB with hB | hB
    ·intro _;refine⟨fun h0=>(by rw[h0] at hmem;cases hmem),fun j hj=>?_⟩;rw[eq_of_beq hB] at hj
     have:j=i:=by simpa using hj
     subst this;exact⟨o,ho,Z21 hR (fun e' h' hk=>⟨hk.1,ih e' h' hk.2⟩) hv'⟩
    ·unfold firstC at hB;simp only[ho,Bool.and_eq_true] at hB;obtain⟨⟨⟨⟨hp,_⟩,hwB⟩,hwl⟩,hall⟩:=hB;obtain⟨v,hk,hR',hg⟩:=Z9k hp hR hv';generalize waitsN md ops i 1 []=w at hwB hwl hall;refine Zd8 (fun j=>w.contains j) ho hp (fun j hj=>?_) f listed e h (fun j hj=>?_) (fun j oj hj hne hun hno=>?_) hmem hg (ih _ _ hk.2)
     ·have h1:=List.all_eq_true.1 hwB j (by simpa using hj);split at h1
      ·rename_i o ho';obtain⟨x,hx,hb⟩:=Array.any_eq_true'.1 h1;simp only[Bool.and_eq_true,Bool.or_eq_true,beq_iff_eq] at hb;exact⟨o,ho',x,hx,hb.1,hb.2⟩
      ·cases h1
     ·have h1:=List.all_eq_true.1 hwl j (by simpa using hj);simpa using h1
     ·have h1:=List.all_eq_true.1 hall j (List.mem_range.2 (Array.getElem?_eq_some_iff.1 hj).1);simp only[hj,Bool.or_eq_true,beq_iff_eq,hne,false_or,hun,Bool.false_eq_true,hno] at h1;simp only[Bool.and_eq_true,Bool.or_eq_true,Bool.not_eq_true'] at h1;exact h1
   ·exact fun hR'=>absurd hR' hR
theorem Wait.chain {P:Program} {id:Nat} {ops:Array Oper} {Q:Exit→Env→HS→Prop} {e:Env} {h:HS} (l:List Nat) (hm:P.follows .mixedOrders=true)
  (hB:chainB .any ops l ops.size (Array.replicate ops.size false)=true) (J:Env→HS→Prop) (h1:vcPlan P ops.toList (fun e h=>CutK (J:=⟨J⟩) e h) (Plan.then_ l .done) e h) (h2:∀ e h,J e h→Q .normal e h) :
  Wait P (c:=⟨.region id ops true⟩) (Q:=⟨Q⟩) e h:=by
 refine SWP.mono (Q:=fun x e h=>match x with | .normal=>J e h | _=>False) (fun Γ a w μ hI hE=>wp_region_any hm (Za9 (Γ:=Γ) (fun e' h' μ' a' w' hk hI' hE' hle=>⟨e',h',μ',hk,hI',hE',hle⟩) ops.size _ (hI.drew) hE (.refl μ) (Za4 l _ _ e h hB h1))) ?_;intro x e h hq;cases x with
 | normal=>exact h2 e h hq
 | _=>exact hq.elim
end Go.Am
namespace Go.Proofs.YthiojhcimecdgaaGreatDoor
open Go Go.Am
def m_eqC (x y:Chg):Option Bool:=bif x.kind != y.kind then some false else bif !(strEq x.table y.table) then some false else bindK (Z0j x.key y.key) fun v=>bif !v then some false else Z0j x.row y.row
def Z23 (a b:List Chg):Option Bool:=
 bif ((a.length:Int) != (b.length:Int)) then some false else forK (fun (i:Nat) (x:Chg) (s:Unit) next=>getK b (i:Int) fun y=>bindK (m_eqC x y) fun v=>bif !v then some false else next ()) (fun _=>some true) a 0 ()
theorem Z8k (a b:List Chg) (r:Bool) (hm:Is (Z23 a b) r):PSpec Tryz.prog 21 [.one (.d (.sl (a.map Chg.enc))),.one (.d (.sl (b.map Chg.enc)))] (.one (.d (.bool r))):=by
 unfold Z23 at hm;refine PSpec.of_vc Tryz.func21 rfl (by kernel_rfl) (n:=69) rfl rfl (by simp) ?_;simp;intro hl1 hl2;refine r_cond hm ?_ ?_<;>clear hm<;>intro hc3 hm
 ·simp[*];obtain rfl:=r_ret hm;exact ret0 (vs:=[_]) (by simp[*];try exact rfl) (by simp[*])
 ·simp[*];refine Wait.for (xs:=a) (s0:=()) (fun i s e h=>e.n=69∧e.get 0=.one (.d (.sl (a.map Chg.enc)))∧e.get 1=.one (.d (.sl (b.map Chg.enc)))∧e.get 12=.one (.d (.int .i64 (a.length:Int)))∧e.get 13=.one (.d (.int .i64 (i:Int)))) hm (by simp[*]) ?_ ?_
  ·rintro i s e h ⟨hn,e0,e1,e12,e13⟩ hlt hm;have hw:IntKind.i64.wrap ((i:Int)+1)=(i:Int)+1:=IntWalk.i64_in _ (by omega);replace hm:=hm.getN;obtain⟨y,hy,hm⟩:=hm;obtain⟨hyl,hye⟩:=List.getElem?_eq_some_iff.1 hy;obtain⟨v,hv,hm⟩:=hm.bind;simp[*];refine Wait.chain [0,1,2,3,4,5,6,7,8,9,10,11,12,13,14,15,16,17,18,19,20,21,22,23,24,25,26,27,28,29,30,31,32,33,34,35,36,37,38,39,40,41,42,43,44,45,46,47,48,49,50,51] follows (by kernel_rfl)
    (fun e1 h1=>e1.n=69∧e1.get 0=.one (.d (.sl (a.map Chg.enc)))∧e1.get 1=.one (.d (.sl (b.map Chg.enc)))∧e1.get 12=.one (.d (.int .i64 (a.length:Int)))∧e1.get 13=.one (.d (.int .i64 (i:Int)))∧e1.get 67=.one (.d (.bool (!v)))) ?_ ?_
   ·unfold m_eqC at hv;cases hk1:(a[i].kind != y.kind)<;>simp only[hk1,cond_true,cond_false] at hv;rotate_left
    ·obtain rfl:=r_ret hv;simp[*,Plan.then_,vcPlan,Z01,Z00,callKind]
     repeat' first | exact CutK.of (by simp[*]) | refine⟨fun _ _ x=>x,?_⟩
    cases hk2:(!(strEq a[i].table y.table))<;>simp only[hk2,cond_true,cond_false] at hv;rotate_left
    ·obtain rfl:=r_ret hv;simp at hk2;simp[*,Plan.then_,vcPlan,Z01,Z00,callKind]
     repeat' first | exact CutK.of (by simp[*]) | refine⟨fun _ _ x=>x,?_⟩
    obtain⟨v1,hv1,hv⟩:=hv.bind;simp at hk2;cases hk3:v1<;>simp only[hk3,Bool.not_true,Bool.not_false,cond_true,cond_false] at hv
    ·obtain rfl:=r_ret hv;simp[*,Plan.then_,vcPlan,Z01,Z00,callKind];refine Z09 ((c_stemref1_EqualRow a[i].key y.key).h v1 hv1) (by simp) ?_;simp[*,Plan.then_,vcPlan,Z01,Z00,callKind]
     repeat' first | exact CutK.of (by simp[*]) | refine⟨fun _ _ x=>x,?_⟩
    ·simp[*,Plan.then_,vcPlan,Z01,Z00,callKind];refine Z09 ((c_stemref1_EqualRow a[i].key y.key).h v1 hv1) (by simp) ?_;simp[*,Plan.then_,vcPlan,Z01,Z00,callKind]
     try refine⟨fun _ _ x=>x,?_⟩
     try simp[*,Plan.then_,vcPlan,Z01,Z00,callKind]
     refine Z09 ((c_stemref1_EqualRow a[i].row y.row).h v hv) (by simp) ?_;simp[*,Plan.then_,vcPlan,Z01,Z00,callKind]
     repeat' first | exact CutK.of (by simp[*]) | refine⟨fun _ _ x=>x,?_⟩
   ·rintro e1 h1 ⟨hn,e0,e1',e12,e13,e67⟩;simp[hn,e0,e1',e12,e13,e67];refine r_cond hm ?_ ?_<;>clear hm<;>intro hc4 hm
    ·simp[*];obtain rfl:=r_ret hm;exact ret0 (vs:=[_]) (by simp[*];try exact rfl) (by simp[*])
    ·simp[hn,hc4,e13,hw];exact BackF.of () ⟨by simp[*],hm⟩
  ·rintro s e h ⟨hn,e0,e1,e12,e13⟩ hm;simp[hn,e12,e13];obtain rfl:=r_ret hm;exact ret0 (vs:=[_]) (by simp[*];try exact rfl) (by simp[*])
end Go.Proofs.YthiojhcimecdgaaGreatDoor
end
namespace Go.Proofs.YthiojhcimecdgaaGreatDoor
section
open Go Go.Am
def PartR (h:HS) (c:C) (xs:List C):Prop:=MR h 1 c (ones xs)∨(c.toD=some (.sl [])∧xs=[])
theorem PartR.frame {h h':HS} {c:C} {xs:List C} (p:PartR h c xs) (hb:∀ l ∈ labs c,h'.box l=h.box l):PartR h' c xs:=p.imp (fun m=>m.frame hb) id
theorem PartR.rd {h:HS} {c:C} {xs:List C} (p:PartR h c xs):RowAt h 1 c (ones xs):=by
 rcases p with m | ⟨h1,rfl⟩
 ·exact m.rd
 ·have h2:=(toD_rd h1).1;refine⟨?_,?_,by simp[AllC,ones],by simp[ones]⟩
  ·cases c<;>simp[C.list?] at h2<;>simp[Z0i,C.list?,h2,ones]
  ·cases c<;>simp[C.list?] at h2<;>simp[cLen,C.list?,h2,ones]
theorem PartR.le {h:HS} {c:C} {xs:List C} (p:PartR h c xs):xs.length≤2097152:=by
 have:=p.rd.2.2.2
 simpa[ones] using this
abbrev El:=List C × List Lab
structure OwL (h:HS) (sh:List Sh) (x:C) (es:List El):Prop where
 mr:(x.toD=some (.sl [])∧es=[])∨MR h sh.length x (es.map (·.1))
 ow:∀ e ∈ es,∃ ds,Ow h sh e.1 ds e.2
def ells (x:C) (es:List El):List Lab:=labs x++es.flatMap (·.2)
theorem Zgl {x:C} {d:D} (h:x.toD=some d):labs x=[]:=by cases x<;>simp[C.toD] at h<;>rfl
theorem OwL.of {h:HS} {sh:List Sh} {x:C} {ds:List D} {ls:List Lab} (o:Ow h [.r sh] [x] ds ls):∃ es,OwL h sh x es∧ls=ells x es:=by
 rcases o.inv_r with ⟨c,cs,ds',h1,h2,h3,h4⟩ | ⟨c,qs,cs',ds',ls',h1,h2,h3,hm,hq,hr⟩
 ·obtain⟨-,-,rfl⟩:=h4.inv_nil;simp only[List.cons.injEq,and_true] at h1;obtain⟨rfl,_⟩:=h1;exact⟨[],⟨.inl ⟨h3,rfl⟩,by simp⟩,by simp[ells,Zgl h3]⟩
 ·obtain⟨-,-,rfl⟩:=hr.inv_nil;simp only[List.cons.injEq,and_true] at h1;obtain⟨rfl,_⟩:=h1;refine⟨qs.map fun q=>(q.1,q.2.2),⟨.inr (by simpa[Function.comp_def] using hm),fun e he=>?_⟩,by simp[h3,ells,List.flatMap_map]⟩;obtain⟨q,hqm,rfl⟩:=List.mem_map.1 he;exact⟨q.2.1,hq q hqm⟩
theorem Zmf {h:HS} {sh:List Sh}:∀ (es:List El),(∀ e ∈ es,∃ ds,Ow h sh e.1 ds e.2)→∃ qs:List (List C × List D × List Lab),qs.map (fun q=>(q.1,q.2.2))=es∧∀ q ∈ qs,Ow h sh q.1 q.2.1 q.2.2
 | [],_=>⟨[],rfl,by simp⟩
 | e::es,he=>by
   obtain⟨ds,hd⟩:=he e (by simp);obtain⟨qs,h1,h2⟩:=Zmf es fun e' he'=>he e' (by simp[he']);refine⟨(e.1,ds,e.2)::qs,by simp[h1],fun q hq=>?_⟩;rcases List.mem_cons.1 hq with rfl | hq
   ·exact hd
   ·exact h2 q hq
theorem OwL.ow' {h:HS} {sh:List Sh} {x:C} {es:List El} (o:OwL h sh x es):∃ ds,Ow h [.r sh] [x] ds (ells x es):=by
 rcases o.mr with ⟨h1,rfl⟩ | hm
 ·refine⟨[.sl []],?_⟩
  have:=Ow.emp (h:=h) (es:=sh) (ss:=[]) (cs:=[]) (ds:=[]) (ls:=[]) h1 .nil
  simpa[ells,Zgl h1] using this
 ·obtain⟨qs,rfl,hq⟩:=Zmf es o.ow;refine⟨[.sl (qs.map (·.2.1))],?_⟩
  have:=Ow.row (h:=h) (es:=sh) (c:=x) (qs:=qs) (ss:=[]) (cs:=[]) (ds:=[]) (ls:=[]) (by simpa[Function.comp_def] using hm) hq .nil
  simpa[ells,List.flatMap_map] using this
theorem OwL.lenK {h:HS} {sh:List Sh} {x:C} {es:List El} {f:Nat→Prop} (o:OwL h sh x es) (hk:f es.length):lenK x (k:=⟨f⟩):=by
 rcases o.mr with ⟨h1,rfl⟩ | hm
 ·exact Z8d (toD_rd h1).1 fun _=>hk
 ·exact MR.lenK hm (by simpa using hk)
theorem OwL.le {h:HS} {sh:List Sh} {x:C} {es:List El} (o:OwL h sh x es):es.length≤2097152:=by
 rcases o.mr with ⟨h1,rfl⟩ | hm
 ·simp
 ·have:=hm.2.1;simpa using this
theorem OwL.block {h:HS} {sh:List Sh} {x:C} {es:List El} (o:OwL h sh x es) {i:Nat} (hi:i < es.length):∃ l cap sp,x=.mrow l 0 es.length cap∧h.box l=some (rowBox (es.map (·.1)) sp)∧takeN sh.length ((rowBox (es.map (·.1)) sp).drop (i * sh.length))=some es[i].1∧(rowBox (es.map (·.1)) sp).length=cap * sh.length∧AllC sh.length (es.map (·.1)):=by
 rcases o.mr with ⟨h1,rfl⟩ | hm
 ·simp at hi
 ·obtain⟨l,cap,sp,h1,h2,h3⟩:=hm.block (by simp;omega);exact⟨l,cap,sp,by simpa using h1,h2,Zad hm.1 (by rw[List.getElem?_map,List.getElem?_eq_getElem hi];rfl),h3,hm.1⟩
theorem OwL.step {h h':HS} {sh:List Sh} {x:C} {es:List El} (o:OwL h sh x es) (nd:(ells x es).Nodup) (hlt:∀ k ∈ ells x es,k.1 < h.ep) {i:Nat} (hi:i < es.length) (hs:Same h h' es[i].2) (hw:∃ ds,Ow h' sh es[i].1 ds es[i].2):OwL h' sh x es:=by
 have hn:=List.nodup_append.1 nd;have hmem:∀ k ∈ es[i].2,k ∈ es.flatMap (·.2):=fun k hk=>List.mem_flatMap.2 ⟨_,List.getElem_mem hi,hk⟩;refine⟨o.mr.imp id fun m=>m.frame fun l hl=>hs.2 l (hlt l (List.mem_append_left _ hl)) fun h9=>hn.2.2 l hl l (hmem l h9) rfl,fun e he=>?_⟩;obtain⟨j,hj⟩:=List.getElem?_of_mem he
 by_cases hq:j=i
 ·subst hq;rw[List.getElem?_eq_getElem hi] at hj;cases hj;exact hw
 ·obtain⟨ds,hd⟩:=o.ow e he;refine⟨ds,hd.frame fun l hl=>hs.2 l (hlt l (List.mem_append_right _ (List.mem_flatMap.2 ⟨e,he,hl⟩))) fun h9=>?_⟩;have gen:∀ (xs:List El),(xs.flatMap (·.2)).Nodup→∀ (j i:Nat) (a b:El),xs[j]?=some a→xs[i]?=some b→j≠i→∀ k ∈ a.2,k ∉ b.2:=by
   intro xs
   induction xs with
   | nil=>intro _ j i a b h1;simp at h1
   | cons y ys ih=>
     intro hn j i a b h1 h2 hne k hk h9;rw[List.flatMap_cons,List.nodup_append] at hn;cases j with
     | zero=>
       cases i with
       | zero=>exact hne rfl
       | succ i=>
         simp at h1 h2;subst h1;exact hn.2.2 k hk k (List.mem_flatMap.2 ⟨b,List.mem_of_getElem? h2,h9⟩) rfl
     | succ j=>
       cases i with
       | zero=>
         simp at h1 h2;subst h2;exact hn.2.2 k h9 k (List.mem_flatMap.2 ⟨a,List.mem_of_getElem? h1,hk⟩) rfl
       | succ i=>exact ih hn.2.1 j i a b (by simpa using h1) (by simpa using h2) (by omega) k hk h9
  exact gen es hn.2.1 j i e es[i] hj (List.getElem?_eq_getElem hi) hq l hl h9
theorem OwL.frame {h h':HS} {sh:List Sh} {x:C} {es:List El} (o:OwL h sh x es) (hlt:∀ k ∈ ells x es,k.1 < h.ep) (hs:Same h h' []):OwL h' sh x es:=by
 refine⟨o.mr.imp id fun m=>m.frame fun l hl=>hs.2 l (hlt l (List.mem_append_left _ hl)) (by simp),fun e he=>?_⟩;obtain⟨ds,hd⟩:=o.ow e he;exact⟨ds,hd.frame fun l hl=>hs.2 l (hlt l (List.mem_append_right _ (List.mem_flatMap.2 ⟨e,he,hl⟩))) (by simp)⟩
theorem OwL.val {h:HS} {l:Lab} {cap:Nat} {es:List El} {sp vs:List C} {ds:List D} (o:OwL h VSh (.mrow l 0 es.length cap) es) (hb:h.box l=some (rowBox (es.map (·.1)) sp)) (hcap:(rowBox (es.map (·.1)) sp).length=cap * 3) {i:Nat} (hi:i < es.length) (hv:vs=ds.map C.d) (hd:ds.length=3)
  (hall:AllC 3 (es.map (·.1))) (hl:∀ k ∈ es.flatMap (·.2),k≠l):OwL (h.setBox l (Z03 (rowBox (es.map (·.1)) sp) (i * 3) vs)) VSh (.mrow l 0 es.length cap) (es.set i (vs,[])):=by
 have hvl:vs.length=3:=by rw[hv];simpa using hd
 have hx:(es.map (·.1))[i]?=some es[i].1:=by rw[List.getElem?_map,List.getElem?_eq_getElem hi];rfl
 have h9:=Z60 (sp:=sp) (f:=0) (vs:=vs) hall hx (by omega);have he:es[i].1.length=3:=hall.get hx;have h8:Z03 es[i].1 0 vs=vs:=by simp[Z03,hvl,he]
 rw[h8,Nat.add_zero] at h9;have hm:(es.map (·.1)).set i vs=(es.set i (vs,[])).map (·.1):=by rw[List.map_set]
 rw[hm] at h9;have ha:AllC 3 ((es.set i (vs,([]:List Lab))).map (·.1)):=by rw[← hm];exact hall.set hvl
 refine⟨.inr ⟨ha,by simpa using o.le,.inr ⟨l,cap,sp,by simp,by rw[h9];simp,?_⟩⟩,fun e he=>?_⟩
 ·show _=cap * 3;rw[Z04 ha,List.length_map,List.length_set,← hcap,Z04 hall,List.length_map]
 ·rcases List.mem_or_eq_of_mem_set he with h1 | rfl
  ·obtain⟨d,hd'⟩:=o.ow e h1;exact⟨d,hd'.frame fun k hk=>by
    have:=hl k (List.mem_flatMap.2 ⟨e,h1,hk⟩)
    simp[this]⟩
  ·refine⟨ds,?_⟩;subst hv
   match ds,hd with
   | [a,b,c],_=>exact .data rfl (.data rfl (.data rfl .nil))
theorem ow_v {h:HS} {cs:List C} {ds:List D} {ls:List Lab} (o:Ow h VSh cs ds ls):ls=[]:=by
 obtain⟨c,x,cs',ds',rfl,rfl,_,o⟩:=o.inv_d;obtain⟨c,x,cs',ds',rfl,rfl,_,o⟩:=o.inv_d;obtain⟨c,x,cs',ds',rfl,rfl,_,o⟩:=o.inv_d;exact o.inv_nil.2.2
theorem OwL.flat {h:HS} {x:C} {es:List El} (o:OwL h VSh x es):∀ e ∈ es,e.2=[]:=fun e he=>by
 obtain⟨ds,hd⟩:=o.ow e he;exact ow_v hd
theorem Zb8 {x:C} {es:List El} (hf:∀ e ∈ es,e.2=[]):ells x es=labs x:=by
 have:es.flatMap (·.2)=[]:=by
  rw[List.flatMap_eq_nil_iff];exact hf
 simp[ells,this]
theorem Zb0 {α:Type}:∀ (xs:List α) (i:Nat),Is (forK (fun (_:Nat) (_:α) (s:Unit) next=>next s) (fun s=>some s) xs i ()) ()
 | [],_=>rfl
 | _::xs,i=>Zb0 xs (i+1)
end
section
open Go.Am
def Z69 (n:Int):Option GV:=
 (some (GV.mk 1 n ByteArray.empty))
instance c_stemref1_Int (n:Int):Con (Z69 n) Tryz.prog 53 [.one (.d (.int .i64 n))] (fun r=>.agg (r.enc.map RC.d)):=by
 unfold Z69;exact go 5 Tryz.func53 rfl (by kernel_rfl) rfl rfl (by simp)
def Z4k:Option Gr:=
 (bindK (Z69 5) fun v2=>(some (Gr.mk (Sch.mk [(Tbl.mk ({ data:=#[116] }) [(Col.mk ({ data:=#[105,100] }) 1 false),(Col.mk ({ data:=#[110] }) 1 false)] [0])] [] []) [(Edg.mk 0 [(Stp.mk 1 ({ data:=#[116] }) ByteArray.empty ({ data:=#[120] }) ByteArray.empty 1 [] ByteArray.empty v2 (Tbl.mk ByteArray.empty [] []) (Cons.mk ByteArray.empty 0 ByteArray.empty 0 (GV.mk 0 0 ByteArray.empty)) (Fk.mk ByteArray.empty [] ByteArray.empty))])])))
instance c_stemref1_SampleGraph  : Con (Z4k) Tryz.prog 27 [] (fun r=>.agg (r.enc.map RC.d)):=by
 unfold Z4k;exact go 16 Tryz.func27 rfl (by kernel_rfl) rfl rfl (by simp)
def Z4o (s_:Sch) (step:Stp):Option ((List Rel) × Int):=
 (bindK (Z4i s_ step) fun v3=>(bif (v3.2.2 != 0) then (some ([],v3.2.2)) else (bindK (Z28 v3.2.1) fun v7=>(some (v7,0)))))
instance c_lens_EmptyComplement (s_:Sch) (step:Stp):Con (Z4o s_ step) Tryz.prog 71 [.agg s_.enc,.agg step.enc] (fun r=>.tup [.one (.d (.sl (r.1.map Rel.enc))),.one (.d (.int .i64 r.2))]):=by
 unfold Z4o;exact go 21 Tryz.func71 rfl (by kernel_rfl) rfl rfl (by simp)
def Z3t (s_:Sch) (script:List Stp):Option ((List (List Rel)) × Int):=
 (bindK (Z1b s_ script) fun v2=>(bif (v2.2 != 0) then (some ([],v2.2)) else (forK (fun (i5:Nat) (x5:Stp) (s5:(List (List Rel))) next_5=>(getK v2.1 (i5:Int) fun x7=>(bindK (Z4o x7 x5) fun v8=>(bif (v8.2 != 0) then (some ([],v8.2)) else (appK2 s5 [v8.1] fun _=>(next_5 (s5++[v8.1]))))))) (fun (s5:(List (List Rel)))=>(some (s5,0))) script 0 [])))
instance c_script_EmptyComplements (s_:Sch) (script:List Stp):Con (Z3t s_ script) Tryz.prog 55 [.agg s_.enc,.one (.d (.sl (script.map Stp.enc)))] (fun r=>.tup [.one (.d (.sl (r.1.map (encL Rel.enc)))),.one (.d (.int .i64 r.2))]):=by
 unfold Z3t;have l1:LH (σ:=(List (List Rel))) 24 [6,22,23] [.g 8 1 (fun s=>s.map (encL Rel.enc))]:=.intro;have p1:PH [8] (Plan.then_ [0,1,2,3,4,5,6,7,8,9,10] .done):=.intro;exact go 47 Tryz.func55 rfl (by kernel_rfl) rfl rfl (by simp)
def Z6a (g_:Gr):Option (Db × Int):=
 (bindK (Z1g g_) fun v3=>(bif (v3.2 != 0) then (some ((Db.mk [] []),v3.2)) else (forK (fun (i7:Nat) (x7:Sch) (s7:(List (List Rel))) next_7=>(bindK (Z28 x7) fun v9=>(appK2 s7 [v9] fun _=>(next_7 (s7++[v9]))))) (fun (s7:(List (List Rel)))=>(forK (fun (i13:Nat) (x13:Edg) (s13:(List (List (List Rel)))) next_13=>(getK v3.1 x13.parent fun x15=>(bindK (Z3t x15 x13.script) fun v16=>(bif (v16.2 != 0) then (some ((Db.mk [] []),v16.2)) else (appK2 s13 [v16.1] fun _=>(next_13 (s13++[v16.1]))))))) (fun (s13:(List (List (List Rel))))=>(some ((Db.mk s7 s13),0))) g_.edges 0 [])) v3.1 0 [])))
theorem Zel (g_:Gr) (r:Db × Int) (hm:Is (Z6a g_) r):PSpec Tryz.prog 28 [.agg g_.enc] (.tup [.agg (r.1.enc.map RC.d),.one (.d (.int .i64 r.2))]):=by
 unfold Z6a at hm;refine PSpec.of_vc Tryz.func28 rfl (by kernel_rfl) (n:=66) rfl rfl (by simp) ?_
 try simp[*]
 refine r_call (av:=[.agg g_.enc]) hm (fun v hv=>Z7k _ v hv) (by simp[*]) ?_;clear hm;intro v3 hvv3 hm
 try simp[*]
 refine r_cond hm ?_ ?_<;>clear hm<;>intro hc4 hm
 ·try simp[*]
  obtain rfl:=r_ret hm;exact ret0 (vs:=[_,_]) (by simp[*];try exact⟨rfl,rfl⟩) (by simp[*])
 ·try simp[*]
  intro hl6;replace hl6:v3.1.length≤2097152:=by simpa using hl6
  refine Wait.for (xs:=v3.1) (s0:=[]) (fun i7 s7 e7 h7=>∃ c7_0:C,e7.n=66∧e7.get 1=.one (.ptr (0,16) 0)∧e7.get 2=.one (.ptr (1,32) 0)∧e7.get 4=.one (.d (.sl (v3.1.map Sch.enc)))∧e7.get 6=.one (.ptr (3,96) 0)∧e7.get 22=.one (.d (.sl (v3.1.map Sch.enc)))∧e7.get 23=.one (.d (.int .i64 (v3.1.length:Int)))∧e7.get 24=.one (.d (.int .i64 (i7:Int)))∧h7.box (0,16)=some [.d (.sl (g_.base.tables.map Tbl.enc)),.d (.sl (g_.base.fks.map Fk.enc)),.d (.sl (g_.base.cons.map Cons.enc)),.d (.sl (g_.edges.map Edg.enc))]∧h7.box (1,32)=some [.nil,.nil]∧h7.box (3,96)=some [c7_0,.nil]∧Grows h7 1 c7_0 (s7.map (encL Rel.enc))) hm ⟨.nil,by simp (maxDischargeDepth:=20) [*]⟩ ?_ ?_
  ·rintro i7 s7 e7 h7 ⟨c7_0,hn7,h7_1,h7_2,h7_4,h7_6,h7_22,h7_23,h7_24,hb7_b1,hb7_b2,hb7_b5,gc7_0⟩ hlt7 hm;have hlc7_0:=gc7_0.list;have hdc7_0:=gc7_0.toD;have hac7_0:=gc7_0.toA;have huc7_0:=gc7_0.useUp_arr;have hw7:IntKind.i64.wrap ((i7:Int)+1)=(i7:Int)+1:=IntWalk.i64_in _ (by omega)
   try simp[*]
   refine Wait.of (SWP.draw (Plan.then_ [0,1,2,3,4,5,6,7] .done) follows (by kernel_rfl) ?_)
   try simp[*,Plan.then_,vcPlan,Z01,Z00,callKind]
   refine r_call (av:=[.agg (v3.1[i7]).enc]) hm (fun v hv=>c_instance_Empty _ v hv) (by simp[*]) ?_;clear hm;intro v9 hvv9 hm
   try simp[*,Plan.then_,vcPlan,Z01,Z00,callKind]
   try refine⟨fun (_:Lab) (_:List C) hl=>hl,?_⟩
   refine r_app (xs:=s7) (ys:=[v9]) (enc:=(encL Rel.enc)) hm Zab (by first | exact Grows.nil | (simp (maxDischargeDepth:=20) [*];done) | (simp (maxDischargeDepth:=20) [*];refine⟨?_,by omega⟩;intro hq;subst hq;simp at hz2<;>omega)) (by simp[*]) (by decide) (by decide) (fun _=>rfl) ?_;clear hm;intro hl11 hm g10
   try simp[*,Plan.then_,vcPlan,Z01,Z00,callKind]
   exact BackF.of (s7++[v9]) ⟨⟨.own (h7.ep+3,528) ((s7++[v9]).map (encL Rel.enc)),by simp (maxDischargeDepth:=20) [*]⟩,hm⟩
  ·rintro s7 e7 h7 ⟨c7_0,hn7,h7_1,h7_2,h7_4,h7_6,h7_22,h7_23,h7_24,hb7_b1,hb7_b2,hb7_b5,gc7_0⟩ hm;have hlc7_0:=gc7_0.list;have hdc7_0:=gc7_0.toD;have hac7_0:=gc7_0.toA;have huc7_0:=gc7_0.useUp_arr
   try simp[*]
   intro hl12;replace hl12:g_.edges.length≤2097152:=by simpa using hl12
   refine Wait.for (xs:=g_.edges) (s0:=[]) (fun i13 s13 e13 h13=>∃ c13_bb5_0 c13_0:C,(e13.n=66∧e13.get 2=.one (.ptr (1,32) 0)∧e13.get 4=.one (.d (.sl (v3.1.map Sch.enc)))∧e13.get 6=.one (.ptr (3,96) 0)∧e13.get 37=.one (.d (.sl (g_.edges.map Edg.enc)))∧e13.get 38=.one (.d (.int .i64 (g_.edges.length:Int)))∧e13.get 39=.one (.d (.int .i64 (i13:Int)))∧h13.box (1,32)=some [.nil,.nil]∧h13.box (3,96)=some [c13_bb5_0,c13_0]∧Grows h13 1 c13_bb5_0 (s7.map (encL Rel.enc))∧Grows h13 1 c13_0 (s13.map (encL (encL Rel.enc))))∧Apart c13_bb5_0 c13_0) hm ⟨c7_0,.nil,by simp (maxDischargeDepth:=20) [*],(by simp)⟩ ?_ ?_
   ·rintro i13 s13 e13 h13 ⟨c13_bb5_0,c13_0,⟨hn13,h13_2,h13_4,h13_6,h13_37,h13_38,h13_39,hb13_b2,hb13_b5,gc13_bb5_0,gc13_0⟩,apc13_bb5_0_c13_0⟩ hlt13 hm;have hlc13_bb5_0:=gc13_bb5_0.list;have hdc13_bb5_0:=gc13_bb5_0.toD;have hac13_bb5_0:=gc13_bb5_0.toA;have huc13_bb5_0:=gc13_bb5_0.useUp_arr;have hlc13_0:=gc13_0.list;have hdc13_0:=gc13_0.toD;have hac13_0:=gc13_0.toA;have huc13_0:=gc13_0.useUp_arr;have hw13:IntKind.i64.wrap ((i13:Int)+1)=(i13:Int)+1:=IntWalk.i64_in _ (by omega)
    try simp[*]
    refine Wait.of (SWP.draw (Plan.then_ [0,1,2,3,4,5,6,7,8,9,10,11,12] .done) follows (by kernel_rfl) ?_)
    try simp[*,Plan.then_,vcPlan,Z01,Z00,callKind]
    replace hm:=hm.get;obtain⟨x15,h0x15,hxx15,hm⟩:=hm
    try simp[*,Plan.then_,vcPlan,Z01,Z00,callKind]
    refine r_call (av:=[.agg x15.enc,.one (.d (.sl ((g_.edges[i13].script).map Stp.enc)))]) hm (fun v hv=>c_script_EmptyComplements _ _ v hv) (by simp[*]) ?_;clear hm;intro v16 hvv16 hm
    try simp[*,Plan.then_,vcPlan,Z01,Z00,callKind]
    try refine⟨fun (_:Lab) (_:List C) hl=>hl,?_⟩
    refine r_cond hm ?_ ?_<;>clear hm<;>intro hc17 hm
    ·try simp[*]
     obtain rfl:=r_ret hm;exact ret0 (vs:=[_,_]) (by simp[*];try exact⟨rfl,rfl⟩) (by simp[*])
    ·try simp[*]
     refine r_app (xs:=s13) (ys:=[v16.1]) (enc:=(encL (encL Rel.enc))) hm Zhc (by first | exact Grows.nil | (simp (maxDischargeDepth:=20) [*];done) | (simp (maxDischargeDepth:=20) [*];refine⟨?_,by omega⟩;intro hq;subst hq;simp at hz2<;>omega)) (by simp[*]) (by decide) (by decide) (fun _=>rfl) ?_;clear hm;intro hl19 hm g18
     try simp[*]
     exact BackF.of (s13++[v16.1]) ⟨⟨c13_bb5_0,.own (h13.ep+3,992) ((s13++[v16.1]).map (encL (encL Rel.enc))),by simp (maxDischargeDepth:=20) [*],(by first | (simp[*];done) | exact (gc13_bb5_0.apart (by simp)).symm)⟩,hm⟩
   ·rintro s13 e13 h13 ⟨c13_bb5_0,c13_0,⟨hn13,h13_2,h13_4,h13_6,h13_37,h13_38,h13_39,hb13_b2,hb13_b5,gc13_bb5_0,gc13_0⟩,apc13_bb5_0_c13_0⟩ hm;have hlc13_bb5_0:=gc13_bb5_0.list;have hdc13_bb5_0:=gc13_bb5_0.toD;have hac13_bb5_0:=gc13_bb5_0.toA;have huc13_bb5_0:=gc13_bb5_0.useUp_arr;have hlc13_0:=gc13_0.list;have hdc13_0:=gc13_0.toD;have hac13_0:=gc13_0.toA;have huc13_0:=gc13_0.useUp_arr
    try simp[*]
    obtain rfl:=r_ret hm;exact ret0 (vs:=[_,_]) (by simp[*];try exact⟨rfl,rfl⟩) (by simp[*])
instance i_database_New (g_:Gr):Con (Z6a g_) Tryz.prog 28 [.agg g_.enc] (fun r=>.tup [.agg (r.1.enc.map RC.d),.one (.d (.int .i64 r.2))]):=⟨fun r hm=>Zel g_ r hm⟩
end
section
open Go Go.Am
structure PSt where
 insts:List (List Rel)
 comps:List (List (List Rel))
 errs:List Int
 reached:List Bool
def PSt.rows (s:PSt) (ci cc ce cr:C):List (C × List D):=[(ci,s.insts.map encI_),(cc,s.comps.map encJ_),(ce,s.errs.map fun z=>.int .i64 z),(cr,s.reached.map D.bool)]
end
section
open Go.Am
def Z4l (s_:List (List GV)) (f:(List GV)→Option Bool):Option Int:=
 (forK (fun (i2:Nat) (x2:List GV) (s2:Unit) next_2=>(bindK (f x2) fun v3=>(bif v3 then (some (i2:Int)) else (next_2 ())))) (fun (s2:Unit)=>(some (-1))) s_ 0 ())
instance i_slices_IndexFunc_Row (s_:List (List GV)) (f:(List GV)→Option Bool) {g:FuncId} {caps:List (List D)} [ConF f Tryz.prog (fun x=>.one (.d (.sl (x.map GV.enc)))) (fun v=>.one (.d (.bool v))) g caps]:Con (Z4l s_ f) Tryz.prog 142 [.one (.d (.sl (s_.map (encL GV.enc)))),.one (.fn g caps)] (fun r=>.one (.d (.int .i64 r))):=by
 unfold Z4l;have l1:LH (σ:=Unit) 8 [0,1,7] []:=.intro;exact go 19 Tryz.func142 rfl (by kernel_rfl) rfl rfl (by simp)
def Z2i (s_:List (List GV)) (f:(List GV)→Option Bool):Option Bool:=
 (bindK (Z4l s_ f) fun v1=>(some (decide (0≤v1))))
instance i_slices_ContainsFunc_Row (s_:List (List GV)) (f:(List GV)→Option Bool) {g:FuncId} {caps:List (List D)} [ConF f Tryz.prog (fun x=>.one (.d (.sl (x.map GV.enc)))) (fun v=>.one (.d (.bool v))) g caps]:Con (Z2i s_ f) Tryz.prog 103 [.one (.d (.sl (s_.map (encL GV.enc)))),.one (.fn g caps)] (fun r=>.one (.d (.bool r))):=by
 unfold Z2i;exact go 9 Tryz.func103 rfl (by kernel_rfl) rfl rfl (by simp)
def Z4x (s_:Sch) (inst:List Rel) (fk:Fk) (row:List GV):Option Bool:=
 (bindK (Z0z s_ inst fk.ref) fun v3=>(forK (fun (i6:Nat) (x6:Int) (s6:(List GV)) next_6=>(bif decide (x6 < 0) then (some true) else (bif decide ((row.length:Int)≤x6) then (some true) else (getK row x6 fun x10=>(bif (x10.kind == 0) then (some true) else (appK2 s6 [x10] fun _=>(next_6 (s6++[x10])))))))) (fun (s6:(List GV))=>(bindK (Z25 v3.1 v3.2 s6) fun v14=>(some v14.2))) fk.cols 0 []))
instance c_instance_References (s_:Sch) (inst:List Rel) (fk:Fk) (row:List GV):Con (Z4x s_ inst fk row) Tryz.prog 105 [.agg s_.enc,.one (.d (.sl (inst.map Rel.enc))),.agg fk.enc,.one (.d (.sl (row.map GV.enc)))] (fun r=>.one (.d (.bool r))):=by
 unfold Z4x;have l1:LH (σ:=(List GV)) 27 [3,9,10,25,26] [.g 11 3 (fun s=>s.map GV.enc)]:=.intro;exact go 63 Tryz.func105 rfl (by kernel_rfl) rfl rfl (by simp)
def Z3o (row:List GV) (k0:Sch) (k1:List Rel) (k2:Fk):Option Bool:=
 (bindK (Z4x k0 k1 k2 row) fun v1=>(some !v1))
instance c_instance_Validate_1 (row:List GV) (k0:Sch) (k1:List Rel) (k2:Fk):Con (Z3o row k0 k1 k2) Tryz.prog 104 [.one (.d (.sl (row.map GV.enc))),.one (.rp [.sl (k0.tables.map Tbl.enc),.sl (k0.fks.map Fk.enc),.sl (k0.cons.map Cons.enc)]),.one (.rp [.sl (k1.map Rel.enc)]),.one (.rp [.str k2.table,.sl (k2.cols.map encI),.str k2.ref])] (fun r=>.one (.d (.bool r))):=by
 unfold Z3o;exact go 12 Tryz.func104 rfl (by kernel_rfl) rfl rfl (by simp)
instance f_instance_Validate_1 (k0:Sch) (k1:List Rel) (k2:Fk):ConF (fun x=>Z3o x k0 k1 k2) Tryz.prog (fun x=>.one (.d (.sl (x.map GV.enc)))) (fun r=>.one (.d (.bool r))) 104 [[.sl (k0.tables.map Tbl.enc),.sl (k0.fks.map Fk.enc),.sl (k0.cons.map Cons.enc)],[.sl (k1.map Rel.enc)],[.str k2.table,.sl (k2.cols.map encI),.str k2.ref]]:=⟨fun x=>(c_instance_Validate_1 x k0 k1 k2)⟩
def Z5d (c:Cons) (row:List GV):Option Bool:=
 (bif decide (c.left < 0) then (some true) else (bif decide ((row.length:Int)≤c.left) then (some true) else (bif decide ((row.length:Int)≤c.right) then (some true) else (bif decide (0≤c.right) then (getK row c.right fun x9=>(getK row c.left fun x10=>(bindK (Z1c x10 c.op x9) fun v11=>(bif v11.1 then (some true) else (some (v11.2 != 0)))))) else (getK row c.left fun x13=>(bindK (Z1c x13 c.op c.value) fun v14=>(bif v14.1 then (some true) else (some (v14.2 != 0)))))))))
instance c_instance_Satisfies (c:Cons) (row:List GV):Con (Z5d c row) Tryz.prog 107 [.agg c.enc,.one (.d (.sl (row.map GV.enc)))] (fun r=>.one (.d (.bool r))):=by
 unfold Z5d;have p1:PH [6] (Plan.then_ [0,1,2,3,4,5,6,7,8,9,10,11,12,13] .done):=.intro;exact go 52 Tryz.func107 rfl (by kernel_rfl) rfl rfl (by simp)
def Z3n (row:List GV) (k0:Cons):Option Bool:=
 (bindK (Z5d k0 row) fun v1=>(some !v1))
instance c_instance_Validate_2 (row:List GV) (k0:Cons):Con (Z3n row k0) Tryz.prog 106 [.one (.d (.sl (row.map GV.enc))),.one (.rp [.str k0.table,.int .i64 k0.left,.str k0.op,.int .i64 k0.right,.int .i64 k0.value.kind,.int .i64 k0.value.int,.str k0.value.text])] (fun r=>.one (.d (.bool r))):=by
 unfold Z3n;exact go 8 Tryz.func106 rfl (by kernel_rfl) rfl rfl (by simp)
instance f_instance_Validate_2 (k0:Cons):ConF (fun x=>Z3n x k0) Tryz.prog (fun x=>.one (.d (.sl (x.map GV.enc)))) (fun r=>.one (.d (.bool r))) 106 [[.str k0.table,.int .i64 k0.left,.str k0.op,.int .i64 k0.right,.int .i64 k0.value.kind,.int .i64 k0.value.int,.str k0.value.text]]:=⟨fun x=>(c_instance_Validate_2 x k0)⟩
def Z5m (s_:Sch) (inst:List Rel):Option Int:=
 (bindK (Z0d s_ inst) fun v3=>(bif (v3 != 0) then (some v3) else (forK (fun (i6:Nat) (x6:Fk) (s6:Unit) next_6=>(bindK (Z0z s_ inst x6.table) fun v8=>(bindK (Z2i v8.2 (fun xa_=>Z3o xa_ s_ inst x6)) fun v10=>(bif v10 then (some 10) else (next_6 ()))))) (fun (s6:Unit)=>(forK (fun (i13:Nat) (x13:Cons) (s13:Unit) next_13=>(bindK (Z0z s_ inst x13.table) fun v15=>(bindK (Z2i v15.2 (fun xa_=>Z3n xa_ x13)) fun v17=>(bif v17 then (some 11) else (next_13 ()))))) (fun (s13:Unit)=>(some 0)) s_.cons 0 ())) s_.fks 0 ())))
instance c_instance_Validate (s_:Sch) (inst:List Rel):Con (Z5m s_ inst) Tryz.prog 73 [.agg s_.enc,.one (.d (.sl (inst.map Rel.enc)))] (fun r=>.one (.d (.int .i64 r))):=by
 unfold Z5m;have l1:LH (σ:=Unit) 23 [2,3,21,22] []:=.intro;have l2:LH (σ:=Unit) 42 [2,3,40,41] []:=.intro;exact go 58 Tryz.func73 rfl (by kernel_rfl) rfl rfl (by simp)
instance i_script_Forward (s_:Sch) (script:List Stp) (source:List Rel) (comps:List (List Rel)):Con (Z5k s_ script source comps) Tryz.prog 100 [.agg s_.enc,.one (.d (.sl (script.map Stp.enc))),.one (.d (.sl (source.map Rel.enc))),.one (.d (.sl (comps.map (encL Rel.enc))))] (fun r=>.tup [.one (.d (.sl (r.1.map Rel.enc))),.one (.d (.sl (r.2.1.map (encL Rel.enc)))),.one (.d (.int .i64 r.2.2))]):=⟨fun r hm=>Zct s_ script source comps r hm⟩
instance i_script_Backward (s_:Sch) (script:List Stp) (target:List Rel) (comps:List (List Rel)):Con (Z52 s_ script target comps) Tryz.prog 101 [.agg s_.enc,.one (.d (.sl (script.map Stp.enc))),.one (.d (.sl (target.map Rel.enc))),.one (.d (.sl (comps.map (encL Rel.enc))))] (fun r=>.tup [.one (.d (.sl (r.1.map Rel.enc))),.one (.d (.sl (r.2.1.map (encL Rel.enc)))),.one (.d (.int .i64 r.2.2))]):=⟨fun r hm=>Zc8 s_ script target comps r hm⟩
def Z39 (s1:List (List Rel)) (s2:List (List Rel)) (eq:(List Rel)→(List Rel)→Option Bool):Option Bool:=
 (bif ((s1.length:Int) != (s2.length:Int)) then (some false) else (forK (fun (i5:Nat) (x5:List Rel) (s5:Unit) next_5=>(getK s2 (i5:Int) fun x6=>(bindK (eq x5 x6) fun v7=>(bif !v7 then (some false) else (next_5 ()))))) (fun (s5:Unit)=>(some true)) s1 0 ()))
instance i_slices_EqualFunc_Instance (s1:List (List Rel)) (s2:List (List Rel)) (eq:(List Rel)→(List Rel)→Option Bool) {g:FuncId} {caps:List (List D)} [ConG eq Tryz.prog (fun x=>.one (.d (.sl (x.map Rel.enc)))) (fun x=>.one (.d (.sl (x.map Rel.enc)))) (fun v=>.one (.d (.bool v))) g caps]:Con (Z39 s1 s2 eq) Tryz.prog 60 [.one (.d (.sl (s1.map (encL Rel.enc)))),.one (.d (.sl (s2.map (encL Rel.enc)))),.one (.fn g caps)] (fun r=>.one (.d (.bool r))):=by
 unfold Z39;have l1:LH (σ:=Unit) 17 [1,2,15,16] []:=.intro;exact go 32 Tryz.func60 rfl (by kernel_rfl) rfl rfl (by simp)
def Z38 (s1:List Rel) (s2:List Rel) (eq:Rel→Rel→Option Bool):Option Bool:=
 (bif ((s1.length:Int) != (s2.length:Int)) then (some false) else (forK (fun (i5:Nat) (x5:Rel) (s5:Unit) next_5=>(getK s2 (i5:Int) fun x7=>(bindK (eq x5 x7) fun v9=>(bif !v9 then (some false) else (next_5 ()))))) (fun (s5:Unit)=>(some true)) s1 0 ()))
instance i_slices_EqualFunc_Relation (s1:List Rel) (s2:List Rel) (eq:Rel→Rel→Option Bool) {g:FuncId} {caps:List (List D)} [ConG eq Tryz.prog (fun x=>.agg x.enc) (fun x=>.agg x.enc) (fun v=>.one (.d (.bool v))) g caps]:Con (Z38 s1 s2 eq) Tryz.prog 75 [.one (.d (.sl (s1.map Rel.enc))),.one (.d (.sl (s2.map Rel.enc))),.one (.fn g caps)] (fun r=>.one (.d (.bool r))):=by
 unfold Z38;have l1:LH (σ:=Unit) 17 [1,2,15,16] []:=.intro;exact go 32 Tryz.func75 rfl (by kernel_rfl) rfl rfl (by simp)
def Z4m (s1:List (List GV)) (s2:List (List GV)) (eq:(List GV)→(List GV)→Option Bool):Option Bool:=
 (bif ((s1.length:Int) != (s2.length:Int)) then (some false) else (forK (fun (i5:Nat) (x5:List GV) (s5:Unit) next_5=>(getK s2 (i5:Int) fun x6=>(bindK (eq x5 x6) fun v7=>(bif !v7 then (some false) else (next_5 ()))))) (fun (s5:Unit)=>(some true)) s1 0 ()))
instance i_slices_EqualFunc_Row (s1:List (List GV)) (s2:List (List GV)) (eq:(List GV)→(List GV)→Option Bool) {g:FuncId} {caps:List (List D)} [ConG eq Tryz.prog (fun x=>.one (.d (.sl (x.map GV.enc)))) (fun x=>.one (.d (.sl (x.map GV.enc)))) (fun v=>.one (.d (.bool v))) g caps]:Con (Z4m s1 s2 eq) Tryz.prog 108 [.one (.d (.sl (s1.map (encL GV.enc)))),.one (.d (.sl (s2.map (encL GV.enc)))),.one (.fn g caps)] (fun r=>.one (.d (.bool r))):=by
 unfold Z4m;have l1:LH (σ:=Unit) 17 [1,2,15,16] []:=.intro;exact go 32 Tryz.func108 rfl (by kernel_rfl) rfl rfl (by simp)
def Z5c (s1:List GV) (s2:List GV):Option Bool:=
 (bif ((s1.length:Int) != (s2.length:Int)) then (some false) else (forK (fun (i5:Nat) (x5:GV) (s5:Unit) next_5=>(getK s2 (i5:Int) fun x6=>(bif (!(x5.kind == x6.kind) || (!(x5.int == x6.int) || (!(x5.text == x6.text)))) then (some false) else (next_5 ())))) (fun (s5:Unit)=>(some true)) s1 0 ()))
instance c_slices_Equal_Value (s1:List GV) (s2:List GV):Con (Z5c s1 s2) Tryz.prog 110 [.one (.d (.sl (s1.map GV.enc))),.one (.d (.sl (s2.map GV.enc)))] (fun r=>.one (.d (.bool r))):=by
 unfold Z5c;have l1:LH (σ:=Unit) 13 [0,1,12] []:=.intro;have p1:PH [6] (Plan.then_ [0,1,2,3,4,5,6,7,8] .done):=.intro;exact go 26 Tryz.func110 rfl (by kernel_rfl) rfl rfl (by simp)
def Z4q (x:List GV) (y:List GV):Option Bool:=
 (bindK (Z5c x y) fun v1=>(some v1))
instance c_relation_Equal_1 (x:List GV) (y:List GV):Con (Z4q x y) Tryz.prog 109 [.one (.d (.sl (x.map GV.enc))),.one (.d (.sl (y.map GV.enc)))] (fun r=>.one (.d (.bool r))):=by
 unfold Z4q;exact go 8 Tryz.func109 rfl (by kernel_rfl) rfl rfl (by simp)
instance f_relation_Equal_1  : ConG (fun x y=>Z4q x y) Tryz.prog (fun x=>.one (.d (.sl (x.map GV.enc)))) (fun x=>.one (.d (.sl (x.map GV.enc)))) (fun r=>.one (.d (.bool r))) 109 []:=⟨fun x y=>(c_relation_Equal_1 x y)⟩
def Z6q (a:List (List GV)) (b:List (List GV)):Option Bool:=
 (bindK (Z4m a b (fun xa_ xb_=>Z4q xa_ xb_)) fun v1=>(some v1))
instance c_relation_Equal (a:List (List GV)) (b:List (List GV)):Con (Z6q a b) Tryz.prog 77 [.one (.d (.sl (a.map (encL GV.enc)))),.one (.d (.sl (b.map (encL GV.enc))))] (fun r=>.one (.d (.bool r))):=by
 unfold Z6q;exact go 8 Tryz.func77 rfl (by kernel_rfl) rfl rfl (by simp)
def Z4r (x:Rel) (y:Rel):Option Bool:=
 (bif strEq x.table y.table then (bindK (Z6q x.rows y.rows) fun v4=>(some v4)) else (some false))
instance c_instance_Equal_1 (x:Rel) (y:Rel):Con (Z4r x y) Tryz.prog 76 [.agg x.enc,.agg y.enc] (fun r=>.one (.d (.bool r))):=by
 unfold Z4r;exact go 17 Tryz.func76 rfl (by kernel_rfl) rfl rfl (by simp)
instance f_instance_Equal_1  : ConG (fun x y=>Z4r x y) Tryz.prog (fun x=>.agg x.enc) (fun x=>.agg x.enc) (fun r=>.one (.d (.bool r))) 76 []:=⟨fun x y=>(c_instance_Equal_1 x y)⟩
def Z3h (a:List Rel) (b:List Rel):Option Bool:=
 (bindK (Z38 a b (fun xa_ xb_=>Z4r xa_ xb_)) fun v1=>(some v1))
instance c_instance_Equal (a:List Rel) (b:List Rel):Con (Z3h a b) Tryz.prog 61 [.one (.d (.sl (a.map Rel.enc))),.one (.d (.sl (b.map Rel.enc)))] (fun r=>.one (.d (.bool r))):=by
 unfold Z3h;exact go 8 Tryz.func61 rfl (by kernel_rfl) rfl rfl (by simp)
instance f_instance_Equal  : ConG (fun x y=>Z3h x y) Tryz.prog (fun x=>.one (.d (.sl (x.map Rel.enc)))) (fun x=>.one (.d (.sl (x.map Rel.enc)))) (fun r=>.one (.d (.bool r))) 61 []:=⟨fun x y=>(c_instance_Equal x y)⟩
def Z49 (a:List (List Rel)) (b:List (List Rel)):Option Bool:=
 (bindK (Z39 a b (fun xa_ xb_=>Z3h xa_ xb_)) fun v1=>(some v1))
instance c_database_equalAll (a:List (List Rel)) (b:List (List Rel)):Con (Z49 a b) Tryz.prog 40 [.one (.d (.sl (a.map (encL Rel.enc)))),.one (.d (.sl (b.map (encL Rel.enc))))] (fun r=>.one (.d (.bool r))):=by
 unfold Z49;exact go 8 Tryz.func40 rfl (by kernel_rfl) rfl rfl (by simp)
def Z4y (s_:Sch) (sc:List Stp) (parent:List Rel) (child:List Rel) (complements:List (List Rel)):Option Bool:=
 (bindK (Z5k s_ sc parent complements) fun v2=>(bindK (Z52 s_ sc child complements) fun v3=>(bif (v2.2.2 == 0) then (bif (v3.2.2 == 0) then (bindK (Z3h v2.1 child) fun v6=>(bif v6 then (bindK (Z3h v3.1 parent) fun v8=>(bif v8 then (bindK (Z49 v2.2.1 complements) fun v10=>(bif v10 then (bindK (Z49 v3.2.1 complements) fun v12=>(some v12)) else (some false))) else (some false))) else (some false))) else (some false)) else (some false))))
instance c_database_consistent (s_:Sch) (sc:List Stp) (parent:List Rel) (child:List Rel) (complements:List (List Rel)):Con (Z4y s_ sc parent child complements) Tryz.prog 74 [.agg s_.enc,.one (.d (.sl (sc.map Stp.enc))),.one (.d (.sl (parent.map Rel.enc))),.one (.d (.sl (child.map Rel.enc))),.one (.d (.sl (complements.map (encL Rel.enc))))] (fun r=>.one (.d (.bool r))):=by
 unfold Z4y;exact go 61 Tryz.func74 rfl (by kernel_rfl) rfl rfl (by simp)
def Z5n (g_:Gr) (db:Db):Option Int:=
 (bindK (Z1g g_) fun v3=>(bif (v3.2 != 0) then (some v3.2) else (bif ((db.insts.length:Int) != (v3.1.length:Int)) then (some 3) else (bif ((db.comps.length:Int) != (g_.edges.length:Int)) then (some 3) else (forK (fun (i12:Nat) (x12:Sch) (s12:Unit) next_12=>(getK db.insts (i12:Int) fun x14=>(bindK (Z5m x12 x14) fun v15=>(bif (v15 != 0) then (some v15) else (next_12 ()))))) (fun (s12:Unit)=>(forK (fun (i18:Nat) (x18:Edg) (s18:Unit) next_18=>(getK v3.1 x18.parent fun x20=>(getK db.insts x18.parent fun x21=>(getK db.insts (i18+1:Int) fun x22=>(getK db.comps (i18:Int) fun x23=>(bindK (Z4y x20 x18.script x21 x22 x23) fun v24=>(bif !v24 then (some 13) else (next_18 ())))))))) (fun (s18:Unit)=>(some 0)) g_.edges 0 ())) v3.1 0 ())))))
instance c_database_Validate (g_:Gr) (db:Db):Con (Z5n g_ db) Tryz.prog 57 [.agg g_.enc,.agg db.enc] (fun r=>.one (.d (.int .i64 r))):=by
 unfold Z5n;have l1:LH (σ:=Unit) 37 [2,3,5,35,36] []:=.intro;have l2:LH (σ:=Unit) 56 [3,5,54,55] []:=.intro;have p1:PH [9] (Plan.then_ [0,1,2,3,4,5,6,7] .done):=.intro;have p2:PH [16] (Plan.then_ [0,1,2,3,4,5,6,7,8,9,10,11,12,13,14,15,16,17,18,19,20,21,22,23,24,25] .done):=.intro;exact go 88 Tryz.func57 rfl (by kernel_rfl) rfl rfl (by simp)
end
section
open Go Go.Am
def InstOK (x:List Rel):Prop:=x.length≤2097152∧∀ r ∈ x,r.rows.length≤2097152
instance (x:List Rel):Decidable (InstOK x):=inferInstanceAs (Decidable (_∧_))
def DbOK (db:Db):Prop:=(∀ x ∈ db.insts,InstOK x)∧∀ l ∈ db.comps,l.length≤2097152∧∀ x ∈ l,InstOK x
instance (db:Db):Decidable (DbOK db):=inferInstanceAs (Decidable (_∧_))
end
section
open Go.Am


def Z4v (l:List Int):Option ((List GV)):=
 (forK (fun (i2:Nat) (x2:Int) (s2:(List GV)) next_2=>(bindK (Z69 x2) fun v3=>(appK2 s2 [v3] fun _=>(next_2 (s2++[v3]))))) (fun (s2:(List GV))=>(some s2)) l 0 [])
instance c_stemref1_Ints (l:List Int):Con (Z4v l) Tryz.prog 33 [.one (.d (.sl (l.map encI)))] (fun r=>.one (.d (.sl (r.map GV.enc)))):=by
 unfold Z4v;have l1:LH (σ:=(List GV)) 8 [6,7] [.g 3 3 (fun s=>s.map GV.enc)]:=.intro;exact go 19 Tryz.func33 rfl (by kernel_rfl) rfl rfl (by simp)
def Z62 (l:List Int):Option Chg:=
 (bindK (Z4v l) fun v2=>(some (Chg.mk 1 ({ data:=#[116] }) [] v2)))
instance c_stemref1_Upsert (l:List Int):Con (Z62 l) Tryz.prog 30 [.one (.d (.sl (l.map encI)))] (fun r=>.agg (r.enc.map RC.d)):=by
 unfold Z62;exact go 6 Tryz.func30 rfl (by kernel_rfl) rfl rfl (by simp)
def Z77 (g_:Gr) (db:Db) (v_:Int):Option ((List Rel) × Int):=
 (bindK (Z5n g_ db) fun v3=>(bif (v3 != 0) then (some ([],v3)) else (bif decide (v_ < 0) then (some ([],4)) else (bif decide ((db.insts.length:Int)≤v_) then (some ([],4)) else (getK db.insts v_ fun x8=>(bindK (Z0h x8) fun v9=>(some (v9,0))))))))
instance c_database_Read (g_:Gr) (db:Db) (v_:Int):Con (Z77 g_ db v_) Tryz.prog 31 [.agg g_.enc,.agg db.enc,.one (.d (.int .i64 v_))] (fun r=>.tup [.one (.d (.sl (r.1.map Rel.enc))),.one (.d (.int .i64 r.2))]):=by
 unfold Z77;exact go 30 Tryz.func31 rfl (by kernel_rfl) rfl rfl (by simp)
def Z2w (a:List (List GV)) (b:List (List GV)):Option Bool:=
 (bif ((a.length:Int) != (b.length:Int)) then (some false) else (forK (fun (i5:Nat) (x5:List GV) (s5:Unit) next_5=>(getK b (i5:Int) fun x6=>(bindK (Z0j x5 x6) fun v7=>(bif !v7 then (some false) else (next_5 ()))))) (fun (s5:Unit)=>(some true)) a 0 ()))
instance c_stemref1_EqualRows (a:List (List GV)) (b:List (List GV)):Con (Z2w a b) Tryz.prog 32 [.one (.d (.sl (a.map (encL GV.enc)))),.one (.d (.sl (b.map (encL GV.enc))))] (fun r=>.one (.d (.bool r))):=by
 unfold Z2w;have l1:LH (σ:=Unit) 13 [0,1,12] []:=.intro;have p1:PH [6] (Plan.then_ [0,1,2,3,4,5,6,7,8,9] .done):=.intro;exact go 27 Tryz.func32 rfl (by kernel_rfl) rfl rfl (by simp)

instance i_slices_Concat_Instance (slices:List (List (List Rel))):Con (Z1x slices) Tryz.prog 10 [.one (.d (.sl (slices.map (encL (encL Rel.enc)))))] (fun r=>.one (.d (.sl (r.map (encL Rel.enc))))):=⟨fun r hm=>Z83 slices r hm⟩
def Z24 (s_:List Rel) (f:Rel→Option Bool):Option Int:=
 (forK (fun (i2:Nat) (x2:Rel) (s2:Unit) next_2=>(bindK (f x2) fun v3=>(bif v3 then (some (i2:Int)) else (next_2 ())))) (fun (s2:Unit)=>(some (-1))) s_ 0 ())
instance i_slices_IndexFunc_Relation (s_:List Rel) (f:Rel→Option Bool) {g:FuncId} {caps:List (List D)} [ConF f Tryz.prog (fun x=>.agg x.enc) (fun v=>.one (.d (.bool v))) g caps]:Con (Z24 s_ f) Tryz.prog 58 [.one (.d (.sl (s_.map Rel.enc))),.one (.fn g caps)] (fun r=>.one (.d (.int .i64 r))):=by
 unfold Z24;have l1:LH (σ:=Unit) 8 [0,1,7] []:=.intro;exact go 19 Tryz.func58 rfl (by kernel_rfl) rfl rfl (by simp)
def Z1h (s_:List Rel) (f:Rel→Option Bool):Option Bool:=
 (bindK (Z24 s_ f) fun v1=>(some (decide (0≤v1))))
instance i_slices_ContainsFunc_Relation (s_:List Rel) (f:Rel→Option Bool) {g:FuncId} {caps:List (List D)} [ConF f Tryz.prog (fun x=>.agg x.enc) (fun v=>.one (.d (.bool v))) g caps]:Con (Z1h s_ f) Tryz.prog 34 [.one (.d (.sl (s_.map Rel.enc))),.one (.fn g caps)] (fun r=>.one (.d (.bool r))):=by
 unfold Z1h;exact go 9 Tryz.func34 rfl (by kernel_rfl) rfl rfl (by simp)
def Z3k (r_:Rel):Option Bool:=
 (some (decide (40 < (r_.rows.length:Int))))
instance c_stemkeep1_bounded_1 (r_:Rel):Con (Z3k r_) Tryz.prog 35 [.agg r_.enc] (fun r=>.one (.d (.bool r))):=by
 unfold Z3k;exact go 7 Tryz.func35 rfl (by kernel_rfl) rfl rfl (by simp)
instance f_stemkeep1_bounded_1  : ConF (fun x=>Z3k x) Tryz.prog (fun x=>.agg x.enc) (fun r=>.one (.d (.bool r))) 35 []:=⟨fun x=>(c_stemkeep1_bounded_1 x)⟩
def Z1r (g_:Gr) (db:Db) (changes:List Chg):Option Bool:=
 (bif decide (8 < (g_.edges.length:Int)) then (some false) else (bif decide (9 < (db.insts.length:Int)) then (some false) else (bif decide (9 < (db.comps.length:Int)) then (some false) else (bif decide (50 < (changes.length:Int)) then (some false) else (bindK (Z1x db.comps) fun v11=>(bindK (Z1x [v11,db.insts]) fun v12=>(forK (fun (i14:Nat) (x14:List Rel) (s14:Unit) next_14=>(bif decide (20 < (x14.length:Int)) then (some false) else (bindK (Z1h x14 (fun xa_=>Z3k xa_)) fun v17=>(bif v17 then (some false) else (next_14 ()))))) (fun (s14:Unit)=>(some true)) v12 0 ())))))))
instance c_stemkeep1_bounded (g_:Gr) (db:Db) (changes:List Chg):Con (Z1r g_ db changes) Tryz.prog 8 [.agg g_.enc,.agg db.enc,.one (.d (.sl (changes.map Chg.enc)))] (fun r=>.one (.d (.bool r))):=by
 unfold Z1r;have l1:LH (σ:=Unit) 38 [36,37] []:=.intro;have p1:PH [3] (Plan.then_ [0,1,3,4,8,2,5,6,7] .done):=.intro;exact go 50 Tryz.func8 rfl (by kernel_rfl) rfl rfl (by simp)


def Z1u (a:List Rel) (b:List Rel):Option Bool:=
 (bif ((a.length:Int) != (b.length:Int)) then (some false) else (forK (fun (i5:Nat) (x5:Rel) (s5:Unit) next_5=>(getK b (i5:Int) fun x6=>(bif !(strEq x5.table x6.table) then (some false) else (bindK (Z2w x5.rows x6.rows) fun v8=>(bif !v8 then (some false) else (next_5 ())))))) (fun (s5:Unit)=>(some true)) a 0 ()))
instance c_stemref1_EqualInstance (a:List Rel) (b:List Rel):Con (Z1u a b) Tryz.prog 23 [.one (.d (.sl (a.map Rel.enc))),.one (.d (.sl (b.map Rel.enc)))] (fun r=>.one (.d (.bool r))):=by
 unfold Z1u;have l1:LH (σ:=Unit) 13 [0,1,12] []:=.intro;have p1:PH [6] (Plan.then_ [0,1,2,3,4,5,6,7,8,9,10,11,12,13,14,15,16,17,18,19,20,21,22,23,24] .done):=.intro;exact go 42 Tryz.func23 rfl (by kernel_rfl) rfl rfl (by simp)




end
section
open Go Go.Am
instance (x:List Rel):Decidable (InstL x):=inferInstanceAs (Decidable (_∧_))
def DbL (db:Db):Prop:=(∀ x ∈ db.insts,InstL x)∧(∀ y ∈ db.comps,∀ x ∈ y,InstL x)∧db.comps.flatten.length+db.insts.length≤2097152
instance (db:Db):Decidable (DbL db):=inferInstanceAs (Decidable (_∧_∧_))
def L34 (e:Env) (f:Lab→Lab→Prop):Prop:=match e.get 3,e.get 4 with | .one (.ptr a 0),.one (.ptr b 0)=>f a b | _,_=>False
theorem L34.of {e:Env} {f:Lab→Lab→Prop} (h:L34 e f):∃ a b,e.get 3=.one (.ptr a 0)∧e.get 4=.one (.ptr b 0)∧f a b:=by
 unfold L34 at h;split at h
 ·exact⟨_,_,by assumption,by assumption,h⟩
 ·exact h.elim
theorem Zhi {h:HS} {s:Sh} {cs:List C} {ds:List D} {ls:List Lab} (o:Ow h [s] cs ds ls):∃ y,cs=[y]:=by
 have:=o.len.1
 match cs,this with
 | [y],_=>exact⟨y,rfl⟩
theorem OwL.one {h:HS} {sh:List Sh} {x:C} {es:List El} (o:OwL h [.r sh] x es) {i:Nat} (hi:i < es.length):∃ y es',es[i].1=[y]∧OwL h sh y es'∧es[i].2=ells y es':=by
 obtain⟨d,hd⟩:=o.ow _ (List.getElem_mem hi);obtain⟨y,hy⟩:=Zhi hd;rw[hy] at hd;obtain⟨es',h1,h2⟩:=OwL.of hd;exact⟨y,es',hy,h1,h2⟩
theorem Zfs {x:C} {es:List El} {i:Nat} (hi:i < es.length):es[i].2.Sublist (ells x es):=
 List.Sublist.trans (by
  induction es generalizing i with
  | nil=>simp at hi
  | cons e es ih=>
    rw[List.flatMap_cons];cases i with
    | zero=>exact List.sublist_append_left _ _
    | succ i=>exact (ih (by simpa using hi)).trans (List.sublist_append_right _ _)) (List.sublist_append_right _ _)
def hdC (e:El):C:=e.1.headD .nil
theorem hd_map {h:HS} {s:Sh}:∀ (es:List El),(∀ e ∈ es,∃ ds,Ow h [s] e.1 ds e.2)→es.map (·.1)=ones (es.map hdC)
 | [],_=>rfl
 | e::es,he=>by
   obtain⟨ds,hd⟩:=he e (by simp);have hl:=hd.len.1;have ih:=hd_map es fun e' h'=>he e' (by simp[h']);obtain⟨cs,ls⟩:=e
   match cs,hl with
   | [y],_=>simp only[List.map_cons,ih,ones,hdC];rfl
theorem OwL.hd {h:HS} {s:Sh} {x:C} {es:List El} (o:OwL h [s] x es):es.map (·.1)=ones (es.map hdC):=hd_map es o.ow
end
section
open Go.Am
instance i_txn_Apply (g_:Gr) (t:Txn) (changes:List Chg):Con (Z4u g_ t changes) Tryz.prog 14 [.agg g_.enc,.agg t.enc,.one (.d (.sl (changes.map Chg.enc)))] (fun r=>.tup [.agg (r.1.enc.map RC.d),.one (.d (.int .i64 r.2))]):=⟨fun r hm=>Zhz g_ t changes r hm⟩
instance i_txn_Lookup (g_:Gr) (t:Txn) (table:ByteArray) (key:List GV):Con (Z3j g_ t table key) Tryz.prog 18 [.agg g_.enc,.agg t.enc,.one (.d (.str table)),.one (.d (.sl (key.map GV.enc)))] (fun r=>.tup [.one (.d (.sl (r.1.map GV.enc))),.agg (r.2.1.enc.map RC.d),.one (.d (.int .i64 r.2.2))]):=⟨fun r hm=>Zgv g_ t table key r hm⟩
def Z1v (s1:List ByteArray) (s2:List ByteArray):Option Bool:=
 (bif ((s1.length:Int) != (s2.length:Int)) then (some false) else (forK (fun (i5:Nat) (x5:ByteArray) (s5:Unit) next_5=>(getK s2 (i5:Int) fun x6=>(bif !(strEq x5 x6) then (some false) else (next_5 ())))) (fun (s5:Unit)=>(some true)) s1 0 ()))
instance c_slices_Equal_String (s1:List ByteArray) (s2:List ByteArray):Con (Z1v s1 s2) Tryz.prog 22 [.one (.d (.sl (s1.map encS))),.one (.d (.sl (s2.map encS)))] (fun r=>.one (.d (.bool r))):=by
 unfold Z1v;have l1:LH (σ:=Unit) 13 [0,1,12] []:=.intro;have p1:PH [6] (Plan.then_ [0,1,2,3,4,5,6,7,8] .done):=.intro;exact go 26 Tryz.func22 rfl (by kernel_rfl) rfl rfl (by simp)
def Zae (g_:Gr) (db:Db) (v_:Int):Option (Txn × Int):=
 (bindK (Z77 g_ db v_) fun v4=>(bif (v4.2 != 0) then (some ((Txn.mk 0 [] [] []),v4.2)) else (some ((Txn.mk v_ v4.1 [] []),0))))
instance c_txn_Begin (g_:Gr) (db:Db) (v_:Int):Con (Zae g_ db v_) Tryz.prog 42 [.agg g_.enc,.agg db.enc,.one (.d (.int .i64 v_))] (fun r=>.tup [.agg (r.1.enc.map RC.d),.one (.d (.int .i64 r.2))]):=by
 unfold Zae;exact go 24 Tryz.func42 rfl (by kernel_rfl) rfl rfl (by simp)
def Z1f:Option Bool:=
 (bindK (Z4k) fun v1=>(bindK (Z6a v1) fun v3=>(bif (v3.2 != 0) then (some false) else (bindK (Zae v1 v3.1 0) fun v6=>(bif (v6.2 != 0) then (some false) else (bindK (Z62 [3,4]) fun v9=>(bindK (Z4u v1 v6.1 [v9]) fun v10=>(bif (v10.2 != 0) then (some false) else (bindK (Z4v [3]) fun v12=>(bindK (Z3j v1 v10.1 ({ data:=#[116] }) v12) fun v13=>(bif (v13.2.2 == 0) then (bindK (Z4v [3,4]) fun v15=>(bindK (Z0j v13.1 v15) fun v16=>(bif v16 then (bindK (Z1v v13.2.1.tables [{ data:=#[116] }]) fun v18=>(some v18)) else (some false)))) else (some false))))))))))))
instance c_stemkeep1_txnWorks  : Con (Z1f) Tryz.prog 13 [] (fun r=>.one (.d (.bool r))):=by
 unfold Z1f;have p1:PH [8] (Plan.then_ [0,1,2,3,4,5,6,7,8,9,10] .done):=.intro;have p2:PH [11] (Plan.then_ [0,1,2,3,4,5,6,7,8,9,10,11] .done):=.intro;exact go 56 Tryz.func13 rfl (by kernel_rfl) rfl rfl (by simp)
def Z6g (s_:List ByteArray):Option (List ByteArray):=some s_
theorem Z9f (s_:List ByteArray) (r:List ByteArray) (hm:Is (Z6g s_) r):PSpec Tryz.prog 25 [.one (.d (.sl (s_.map encS)))] (.one (.fresh 0 1 (r.map encS))):=by
 obtain rfl:=r_ret hm;refine bound1 ⟨_,Tryz.func25,by kernel_rfl,by kernel_rfl⟩ (fun hl=>?_);have hxs:∀ x ∈ s_.map encS,x.length=1:=by
  intro x hx;obtain⟨y,_,rfl⟩:=List.mem_map.1 hx;rfl
 generalize s_.map encS=xs at *;refine PSpec.of_vc Tryz.func25 rfl (by kernel_rfl) (n:=8) rfl rfl (by simp) ?_;simp;refine Z7y Z84 rfl (xs:=xs) rfl (fun b hb=>?_);cases b with
 | true=>
   have:xs=[]:=Classical.byContradiction fun h=>by simpa using hb h
   subst this;simp;exact Z3g (by simpa using GrowsV.nil)
 | false=>
   simp;refine Z6z (by simp) ?_;simp;refine Zcc Z84 (Grows.own (by simp) (by simp) (by simp)) rfl (by decide) (by decide) hxs (by simpa using hl) ?_;simp;exact Z3g (by simpa using GrowsV.app (by simp) (by simp) hxs rfl)
end
end Go.Proofs.YthiojhcimecdgaaGreatDoor
