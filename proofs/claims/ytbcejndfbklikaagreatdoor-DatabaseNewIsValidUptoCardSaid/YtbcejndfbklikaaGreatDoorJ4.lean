/- joined by a program out of 24 texts -/
import Derived.Test.YtbcejndfbklikaaGreatDoorJ3
set_option linter.unusedVariables false
set_option linter.unusedSimpArgs false
set_option maxRecDepth 20000
open Go.Proofs.Tryz(prog)
open ByteArray(empty)
namespace Go.Proofs.YtbcejndfbklikaaGreatDoor
section
open Go Go.Am
def ltT (a b:Tbl):Bool:=decide (cmpS a.name b.name < 0)
def cmpE:List D->List D->Int
 | .str x::_,.str y::_=>cmpS x y
 | _,_=>0
theorem Sc.sortT {h:HS} {l:Lab} {S:Sch} {tc fc oc:C} {ta fa oa:List Lab} (s:Sc h l S tc fc oc ta fa oa):∃ qs:List (List C × List D),MR h 3 tc (qs.map (·.1))/\qs.length=S.tables.length/\(∀ k ∈ labs tc,k ∈ ta)/\(∀ h',Same h h' (labs tc)->∀ q ∈ qs,FrzCs h' q.1 q.2)/\(∀ q ∈ qs,∃ T ∈ S.tables,q.2=T.enc) /\
  ∀ h',MR h' 3 tc ((sortS cmpE qs).map (·.1))->Same h h' (labs tc)->∃ ta',Sc h' l { S with tables:=outerS ltT (S.tables.length - 1) 1 S.tables } tc fc oc ta' fa oa/\∀ k ∈ ta',k ∈ ta:=by
 obtain⟨qt,qf,qo,rfl,rfl,rfl,s⟩:=s;have hlen:qt.length=S.tables.length:=by have:=congrArg List.length s.t.ds;simpa using this
 have hlt:∀ k ∈ plabs tc qt,k.1 < h.ep:=fun k hk=>s.lt k (by simp[hk]);have hnd:=s.nds.1;refine⟨qt.map fun q=>(q.1,q.2.1),?_,by simpa using hlen,fun k hk=>by simp[plabs,hk],fun h' hs q hq=>?_,fun q hq=>?_,fun h' hm hs=>?_⟩
 .have:=s.t.mr
  simpa[TblSh,Function.comp_def] using this
 .obtain⟨q',hq',rfl⟩:=Y0m.1 hq;obtain⟨i,hi⟩:=Y1c hq';exact ((s.t.ow q' hq').frame fun k hk=>hs.2 k (hlt k (Z42 hi hk)) (Z4v hnd hi hk)).frz
 .obtain⟨q',hq',rfl⟩:=Y0m.1 hq
  have:q'.2.1 ∈ S.tables.map Tbl.enc:=by rw[<- s.t.ds];exact Y0m.2 ⟨q',hq',rfl⟩
  obtain⟨T,hT,he⟩:=Y0m.1 this;exact⟨T,hT,he.symm⟩
 .let ltq:Q->Q->Bool:=fun p q=>cmpLt cmpE (p.1,p.2.1) (q.1,q.2.1)
  have e1:sortS cmpE (qt.map fun q=>(q.1,q.2.1))=(outerS ltq (qt.length - 1) 1 qt).map fun q=>(q.1,q.2.1):=by
   unfold sortS;rw[Y0z];exact Z9x (f:=fun q:Q=>(q.1,q.2.1)) (fun x y=>rfl) _ _ _
  have e2:(outerS ltq (qt.length - 1) 1 qt).map (fun q:Q=>q.2.1)=(outerS ltT (S.tables.length - 1) 1 S.tables).map Tbl.enc:=by
   have h1:=Z9x (lt:=ltq) (lt':=fun a b=>decide (cmpE a b < 0)) (f:=fun q:Q=>q.2.1) (fun x y=>rfl) (qt.length - 1) 1 qt;have h2:=Z9x (lt:=ltT) (lt':=fun a b=>decide (cmpE a b < 0)) (f:=Tbl.enc) (fun x y=>rfl) (S.tables.length - 1) 1 S.tables;rw[<- h1,<- h2,hlen]
   congr 1
   exact s.t.ds
  have hperm:=Zag ltq (qt.length - 1) 1 qt;have hpl:(plabs tc (outerS ltq (qt.length - 1) 1 qt)).Perm (plabs tc qt):=(List.Perm.refl _).append (hperm.flatMap_right _);have hself:∀ q ∈ qt,∀ k ∈ q.2.2,h'.box k=h.box k:=fun q hq k hk=>by
   obtain⟨i,hi⟩:=Y1c hq;exact hs.2 k (hlt k (Z42 hi hk)) (Z4v hnd hi hk)
  have hp:Part h' TblSh tc (outerS ltq (qt.length - 1) 1 qt) ((outerS ltT (S.tables.length - 1) 1 S.tables).map Tbl.enc):=by
   refine⟨?_,e2,fun q hq=>(s.t.ow q (hperm.subset hq)).frame (hself q (hperm.subset hq))⟩;rw[e1] at hm;simpa[TblSh,Function.comp_def] using hm
  have hl:h'.box l=h.box l:=hs.2 l (s.lt l (by simp)) fun hk=>s.ne.1 (by simp[plabs,hk]);exact⟨_,⟨_,qf,qo,rfl,rfl,rfl,s.setT (by rw[hl];exact s.box) hp (hs.mono fun k hk=>by simp[plabs,hk]) (hpl.nodup_iff.2 hnd) fun k hk=>.inl (hpl.subset hk)⟩,fun k hk=>hpl.subset hk⟩
def Z16 (S:Sch) (T:Tbl):Option Sch:=chkK (S.tables.length < 19) (some { S with tables:=outerS ltT S.tables.length 1 (S.tables++[T]) })
theorem Z3p (h:HS) (l:Lab) (tc fc oc:C) (ta fa oa lt:List Lab) (S S':Sch) (T:Tbl) (xs:List C) (hm:Is (Z16 S T) S') (s:Sc h l S tc fc oc ta fa oa) (hT:Ow h TblSh xs T.enc lt) (hd:lt.Nodup/\(∀ k ∈ lt,k.1 < h.ep/\k ∉ l::(ta++(fa++oa)))) (K:V->HS->Prop)
  (hk:∀ h' tc' ta',Sc h' l S' tc' fc oc ta' fa oa->Same h h' (l::ta)->(∀ k ∈ ta',k ∈ ta\/k ∈ lt\/h.ep<=k.1)->K (.tup []) h') :
  HSpec prog 160 [.one (.ptr l 0),.agg xs] h K:=by
 obtain⟨hlen,hm⟩:=hm.chk;obtain rfl:=r_ret hm;obtain⟨x0,x1,x2,rfl⟩:∃ a b c,xs=[a,b,c]:=by
  have:=hT.len.1
  match xs,this with
  | [a,b,c],_=>exact⟨a,b,c,rfl⟩
 refine HSpec.of_vc Tryz.func160 rfl (by kernel_rfl) (n:=19) rfl rfl (by simp) ?_;simp;have hsame:Same h ((h.setBox (h.ep,48) [x0,x1,x2]).next) []:=(Same.refl.setBox (.inr (Y09 _))).next;have s1:=s.frame hsame;have hb1:=s1.box;simp at hb1;refine Wait.cut (Plan.then_ [0,1,2,3,4,5,6,7,8,9,10] .done) follows (by kernel_rfl) (fun e h'=>∃ tc' ta',Sc h' l { S with tables:=S.tables++[T] } tc' fc oc ta' fa oa/\e.n=19/\e.get 0=.one (.ptr l 0)/\Same h h' (l::ta)/\(∀ k ∈ ta',k ∈ ta\/k ∈ lt\/h.ep<=k.1)/\∀ k ∈ labs tc',k ∈ ta\/h.ep<=k.1) ?_ ?_
 .simp[hb1];have hTl:=hT.len.1;refine bld_ow (x:=[x0,x1,x2]) (by simp[toDs];cases x0.toD<;>cases x1.toD<;>cases x2.toD<;>rfl) (by simp) (fun d hd2=>?_) (fun hd2=>?_)
  .obtain⟨rfl,hT2⟩:=hT.ofD hd2;have hs2:Same h (((h.setBox (h.ep,48) [x0,x1,x2]).next.setArr ((h.setBox (h.ep,48) [x0,x1,x2]).next.ep,16 * 10) (some (1,3))).next) []:=hsame.setArr.next;have s2:=s.frame hs2;obtain⟨ys,mx,hl2,add⟩:=s2.addT;simp;simp only[Zb2,Zn6] at mx add hs2 s2;refine app_mr (by simp;exact⟨rfl,rfl⟩) (by simp) (by simp) (by simp) mx (RowAt.own1 (by simp)) (by simp[hl2];omega) (fun c' h' hm' hs3 hl3=>?_);have hbx:=s2.keep hs3 fun k hk=>.inl (s.hlabs.1 k hk);simp[hbx];obtain⟨ta',s3,hta⟩:=add h' c' _ T.enc [] hm' hs3 hl3 (hT2 h') Y2k (by simp) T rfl;refine CutK.of ⟨c',ta',s3,by simp,by simp,(((hs2.mono (by simp)).trans (hs3.mono fun k hk=>by simp[s.hlabs.1 k hk])).setBox (.inl (by simp))),fun k hk=>?_,fun k hk=>(hl3 k hk).imp (s.hlabs.1 k) fun h2=>by have:=h2.1;simp at this;omega⟩;rcases hta k hk with h1 | h1 | h1
   .exact .inl h1
   .simp at h1
   .exact .inr (.inr (by first | omega | (simp at h1;omega)))
  .have hs2:Same h (((h.setBox (h.ep,48) [x0,x1,x2]).next.setBox ((h.setBox (h.ep,48) [x0,x1,x2]).next.ep,16 * 10) [x0,x1,x2]).next) []:=(hsame.setBox (.inr (by simp))).next;have s2:=s.frame hs2;obtain⟨ys,mx,hl2,add⟩:=s2.addT;simp;simp only[Zb2,Zn6] at mx add hs2 s2;refine app_mr (by simp;exact⟨rfl,rfl⟩) (by simp) (by simp) (by simp) mx (RowAt.new1 (x:=[x0,x1,x2]) (by simp) (by simp)) (by simp[hl2];omega) (fun c' h' hm' hs3 hl3=>?_);have hbx:=s2.keep hs3 fun k hk=>.inl (s.hlabs.1 k hk);simp[hbx];have hT3:Ow h' TblSh [x0,x1,x2] T.enc lt:=hT.frame fun k hk=>by
    have h1:=hd.2 k hk;simp only[Y08,Y02,not_or] at h1;rw[hs3.2 k (by simp;omega) fun h2=>h1.2.2.1 (s.hlabs.1 k h2)];exact hs2.2 k h1.1 (by simp)
   obtain⟨ta',s3,hta⟩:=add h' c' _ T.enc lt hm' hs3 hl3 hT3 hd.1 (fun k hk=>by
    have h1:=hd.2 k hk;have h4:=hs3.1;simp at h4;refine⟨by omega,h1.2,fun h2=>?_⟩;simp only[Y08,Y02,not_or] at h1;rcases hl3 k h2 with h3 | h3
    .exact h1.2.2.1 (s.hlabs.1 k h3)
    .simp at h3;omega) T rfl
   refine CutK.of ⟨c',ta',s3,by simp,by simp,(((hs2.mono (by simp)).trans (hs3.mono fun k hk=>by simp[s.hlabs.1 k hk])).setBox (.inl (by simp))),fun k hk=>?_,fun k hk=>(hl3 k hk).imp (s.hlabs.1 k) fun h2=>by have:=h2.1;simp at this;omega⟩;rcases hta k hk with h1 | h1 | h1
   .exact .inl h1
   .exact .inr (.inl h1)
   .exact .inr (.inr (by first | omega | (simp at h1;omega)))
 .rintro e h1 ⟨tc',ta',s2,hn,h0,hs2,hta,hlt2⟩;have hb2:=s2.box;simp[hn,h0,hb2];obtain⟨qs,q1,q2,q3,q4,q5,q6⟩:=s2.sortT;simp only[Y0f,List.length_singleton,Nat.add_sub_cancel] at q2 q6;refine Z00 (Z91 h1 tc' qs 201 [] [] cmpE q1 (fun k hk=>s2.lt k (by simp[q3 k hk])) (by omega) q4 (fun h' hs=>trivial) (fun q hq q' hq'=>?_) _ (fun h' hm' hs3=>?_))
  .obtain⟨A,_,e1⟩:=q5 q hq;obtain⟨B,_,e2⟩:=q5 q' hq';rw[e1,e2];exact c_evolution_insertTable_1 A B _ rfl
  .obtain⟨ta2,s3,hta2⟩:=q6 h' hm' hs3;simp;refine hk h' tc' ta2 s3 (hs2.trans' hs3 fun k hk=>?_) fun k hk=>hta k (hta2 k hk);exact (hlt2 k hk).imp_left fun h1=>by simp[h1]
def Z3n (S:Sch) (T:Tbl):Option (Sch × Int):=
 bindK (Z02 S T.name) fun r=>bif r.2 then some (S,5) else bindK (Z16 S T) fun S'=>some (S',0)
theorem Z8q (h:HS) (l:Lab) (tc fc oc:C) (ta fa oa lt:List Lab) (S S':Sch) (T:Tbl) (r:Int) (xs:List C) (hm:Is (Z3n S T) (S',r)) (s:Sc h l S tc fc oc ta fa oa) (hT:Ow h TblSh xs T.enc lt) (hd:lt.Nodup/\(∀ k ∈ lt,k.1 < h.ep/\k ∉ l::(ta++(fa++oa)))) (K:V->HS->Prop)
  (hk:KeepS h l (ta++(fa++oa)++lt) S' (.one (.d (.int .i64 r))) K) :
  HSpec prog 131 [.one (.ptr l 0),.agg xs] h K:=by
 refine HSpec.good Tryz.func131 rfl (by kernel_rfl) fun hg=>?_;obtain⟨x0,x1,x2,rfl⟩:∃ a b c,xs=[a,b,c]:=by
  have:=hT.len.1
  match xs,this with
  | [a,b,c],_=>exact⟨a,b,c,rfl⟩
 obtain rfl:x0=.d (.str T.name):=hT.frz.1.flat rfl;obtain⟨v,hv,hm⟩:=hm.bind;refine HSpec.of_vc Tryz.func131 rfl (by kernel_rfl) (n:=20) rfl rfl (by simp) ?_;simp;have hsame:Same h ((h.setBox (h.ep,48) [.d (.str T.name),x1,x2]).next) []:=(Same.refl.setBox (.inr (Y09 _))).next;have s1:=s.frame hsame;have hb1:=s1.box;simp at hb1;refine Wait.cut (Plan.then_ [0,3,4,1,2,5,6,7,8,9,10] .done) follows (by kernel_rfl) (fun e h'=>Same h h' []/\e.n=20/\e.get 0=.one (.ptr l 0)/\e.get 3=.one (.ptr (h.ep,48) 0)/\e.get 6=.one (.d (.bool v.2))/\h'.box (h.ep,48)=some [.d (.str T.name),x1,x2]) ?_ ?_
 .simp[hb1];refine Z00 (HSpec.of_lend (c_schema_FindTable S T.name v hv) ⟨.agg s1.frz,.one (.frz (.data rfl)),trivial⟩ rfl ?_);simp;exact⟨fun _ _ x=>x,CutK.of (by simp[hsame.next])⟩
 .rintro e h1 ⟨hs1,hn,h0,h3,h6,hb3⟩;simp[hn,h0,h3,h6];cases hv2:v.2 with
  | true=>
    rw[hv2] at hm;have e1:=r_ret hm;simp only[Y07] at e1;obtain⟨rfl,rfl⟩:=e1;simp[hn];exact hk _ _ (s.frame hs1).ows (hs1.mono (by simp)) (fun k hk=>.inl (by simp at hk |-;rcases hk with hk | hk | hk<;>simp[hk]))
  | false=>
    rw[hv2] at hm;simp only[cond_false] at hm;obtain⟨S2,hm2,hm⟩:=hm.bind;have e1:=r_ret hm;simp only[Y07] at e1;obtain⟨rfl,rfl⟩:=e1;simp[hn,h0,h3,hb3];refine Z00 (Z3p h1 l tc fc oc ta fa oa lt S S2 T _ hm2 (s.frame hs1) (hT.frame fun k hk=>hs1.2 k (hd.2 k hk).1 (by simp)) ⟨hd.1,fun k hk=>⟨Y04 (hd.2 k hk).1 hs1.1,(hd.2 k hk).2⟩⟩ _ (fun h2 tc' ta' s2 hs2 hta=>?_));simp[hn];refine hk _ _ s2.ows ((hs1.mono (by simp)).trans (hs2.mono fun k hk=>by simp at hk |-;rcases hk with hk | hk<;>simp[hk])) (fun k hk=>?_);simp only[Y02] at hk |-;rcases hk with hk | hk | hk
    .rcases hta k hk with h1 | h1 | h1
     .exact .inl (by simp[h1])
     .exact .inl (by simp[h1])
     .exact .inr (Y0y hs1.1 h1)
    .exact .inl (by simp[hk])
    .exact .inl (by simp[hk])
theorem Sc.delT {h:HS} {l:Lab} {S:Sch} {tc fc oc:C} {ta fa oa:List Lab} (s:Sc h l S tc fc oc ta fa oa) {i:Nat} {T:Tbl} (hi:S.tables[i]? = some T) :
  ∃ (xs:List (List C)) (c1 c2:C) (lx:List Lab) (lr:Lab) (cap:Nat) (B:List C),MR h 3 tc xs/\xs.length=S.tables.length/\tc=.mrow lr 0 S.tables.length cap/\Elem h lr i 3 [.d (.str T.name),c1,c2] B/\Ow h TblSh [.d (.str T.name),c1,c2] T.enc lx/\lx.Nodup/\(∀ k ∈ lx,k ∈ ta/\k ∉ labs tc) /\
    ∀ h' c',MR h' 3 c' (xs.take i++xs.drop (i+1))->Same h h' (labs tc)->labs c'=labs tc ->
      ∃ ta',Sc (h'.setBox l [c',fc,oc]) l { S with tables:=S.tables.take i++S.tables.drop (i+1) } c' fc oc ta' fa oa/\(∀ k ∈ ta',k ∈ ta)/\∀ k ∈ lx,k ∉ ta':=by
 obtain⟨qt,qf,qo,rfl,rfl,rfl,s⟩:=s;have hlen:qt.length=S.tables.length:=by have:=congrArg List.length s.t.ds;simpa using this
 have hlt:∀ k ∈ plabs tc qt,k.1 < h.ep:=fun k hk=>s.lt k (by simp[hk]);have hnd:=s.nds.1;obtain⟨q,lr,cap,sp,h1,h2,h3,h4,h5,h6⟩:=s.t.elem (Z6c (f:=Tbl.enc) hi);obtain⟨qc,qd,ql⟩:=q;simp only at h2 h3 h6;subst h2;obtain⟨c0,x0,cs,ds,rfl,e1,e2,h7⟩:=h3.inv_d;simp only[Tbl.enc,List.cons.injEq] at e1;obtain⟨rfl,rfl⟩:=e1;obtain rfl:=(Frz.data (h:=h) e2).flat rfl;obtain⟨c1,c2,rfl⟩:∃ c1 c2,cs=[c1,c2]:=by
  have:=h7.len.1
  match cs,this with
  | [a,b],_=>exact⟨a,b,rfl⟩
 refine⟨qt.map (fun q:Q=>q.1),c1,c2,ql,lr,cap,_,s.t.mr,by simpa using hlen,by simpa using h4,h6,h3,Zfo hnd h1,fun k hk=>⟨Z42 h1 hk,Z4v hnd h1 hk⟩,fun h' c' hm hs hlc=>?_⟩;have hsub:(qt.take i++qt.drop (i+1)).Sublist qt:=Zga (by omega);have hpl:=Z9b (c:=tc) (c':=c') hsub hlc;have hnl:∀ k ∈ plabs tc qt,k≠l:=fun k hk he=>s.ne.1 (he ▸ hk);have hp:=s.t.sub (h2:=h'.setBox l [c',fc,oc]) (c':=c') (qs':=qt.take i++qt.drop (i+1)) (fun q hq=>hsub.subset hq) ?_ hnd ?_
 .have hp2:Part (h'.setBox l [c',fc,oc]) TblSh c' (qt.take i++qt.drop (i+1)) ((S.tables.take i++S.tables.drop (i+1)).map Tbl.enc):=by
   have:=s.t.ds
   rw[Y2c,Y30,Y2d,<- this];simpa using hp
  refine⟨_,⟨_,qf,qo,rfl,rfl,rfl,s.setT (by simp) hp2 ((hs.mono fun k hk=>by simp[plabs,hk]).setBox (.inl (by simp))) (hpl.nodup hnd) (fun k hk=>.inl (hpl.subset hk))⟩,fun k hk=>hpl.subset hk,fun k hk hk2=>?_⟩;simp only[plabs,Y02,Y0w] at hk2;rcases hk2 with hk2 | ⟨q2,hq2,hk2⟩
  .exact Z4v hnd h1 hk (hlc ▸ hk2)
  .have:∃ j,j≠i/\qt[j]? = some q2:=by
    rcases hq2 with hq2 | hq2
    .obtain⟨j,hj⟩:=Y1c hq2;have hji:j < i:=by
      have:=(Y00.1 hj).1
      simp at this;omega
     exact⟨j,by omega,by rw[Y2g hji] at hj;exact hj⟩
    .obtain⟨j,hj⟩:=Y1c hq2;rw[Y16] at hj;exact⟨i+1+j,by omega,hj⟩
   obtain⟨j,hj,hq⟩:=this;exact (Z7p hnd h1 hq hj hk2).2 hk
 .have:MR h' TblSh.length c' ((qt.take i++qt.drop (i+1)).map (·.1)):=by simpa[TblSh] using hm
  refine this.frame fun k hk=>?_
  have:k≠l:=hnl k (by rw[hlc] at hk;simp[plabs,hk])
  simp[this]
 .rintro k hk1 ⟨q,hq,hk2⟩;have hk3:k ∈ plabs tc qt:=by
   simp only[plabs,Y02,Y0w];exact .inr ⟨q,hq,hk2⟩
  simp[hnl k hk3,hs.2 k (hlt k hk3) hk1]
def Z3l (S:Sch) (i:Nat) (name:ByteArray):Option (Sch × Int):=
 bindK (Z02 S name) fun r=>bif r.2 then some (S,5) else
 getK S.tables (i:Int) fun T=>
 bindK (Z16 { S with tables:=S.tables.take i++S.tables.drop (i+1) } { T with name:=name }) fun S1=>
 countK (fun k (S:Sch) next=>getK S.fks (k:Int) fun f=>
   bif strEq f.table T.name then (bif strEq f.ref T.name then next { S with fks:=S.fks.set k ⟨name,f.cols,name⟩ } else next { S with fks:=S.fks.set k ⟨name,f.cols,f.ref⟩ })
   else (bif strEq f.ref T.name then next { S with fks:=S.fks.set k ⟨f.table,f.cols,name⟩ } else next S))
  (fun S=>countK (fun k (S:Sch) next=>getK S.cons (k:Int) fun c=>bif strEq c.table T.name then next { S with cons:=S.cons.set k { c with table:=name } } else next S) (fun S=>some (S,0)) S.cons.length 0 S) S1.fks.length 0 S1
theorem Z8o (h:HS) (l:Lab) (tc fc oc:C) (ta fa oa:List Lab) (S S':Sch) (i:Nat) (name:ByteArray) (r:Int) (hm:Is (Z3l S i name) (S',r)) (s:Sc h l S tc fc oc ta fa oa) (K:V->HS->Prop)
  (hk:KeepS h l (ta++(fa++oa)) S' (.one (.d (.int .i64 r))) K) :
  HSpec prog 132 [.one (.ptr l 0),.one (.d (.int .i64 (i:Int))),.one (.d (.str name))] h K:=by
 refine HSpec.good Tryz.func132 rfl (by kernel_rfl) fun hg=>?_;replace hm:=hm.bind;obtain⟨v,hv,hm⟩:=hm;have hb:=s.box;refine HSpec.of_vc Tryz.func132 rfl (by kernel_rfl) (n:=119) rfl rfl (by simp) ?_;have hne:=ne_new (s.lt l (by simp));simp[hb];refine Z00 (HSpec.of_lend (c_schema_FindTable S name v hv) ⟨.agg s.frz,.one (.frz (.data rfl)),trivial⟩ rfl ?_);simp;have hsame:Same h h.next []:=Same.refl.next;cases hv2:v.2 with
 | true=>
   rw[hv2] at hm;have e1:=r_ret hm;simp only[Y07] at e1;obtain⟨rfl,rfl⟩:=e1;simp;exact hk _ _ (s.frame hsame).ows (hsame.mono (by simp)) (fun k hk=>.inl hk)
 | false=>
   rw[hv2] at hm;simp only[cond_false] at hm;replace hm:=hm.getN;obtain⟨T,hi,hm⟩:=hm;replace hm:=hm.bind;obtain⟨S1,hm1,hm⟩:=hm;obtain⟨xs,c1,c2,lx,lr,cap,B,d1,d2,rfl,d4,d5,d6,d7,d8⟩:=(s.frame hsame).delT hi;have hlt:i < S.tables.length:=(Y00.1 hi).1;have d9:=d4.rd0 3 (by omega);have d10:h.box lr=some B:=d4.box;have hli:=s.len.1.2;simp only[lim_eq] at hli;have hw:IntKind.i64.wrap ((i:Int)+1)=((i+1:Nat):Int):=by
    exact Y0a _ (by omega)
   have hnr:=ne_new (s.lt lr (by simp[s.hlabs.1 lr (by simp[labs])]));simp (maxDischargeDepth:=12) [hb,hlt,d9,d10,hw,hne,hnr,le_s];have hs2:Same h ((h.next.setBox (h.ep+1,144) [C.d (D.str T.name),c1,c2]).next) []:=(hsame.setBox (.inr (by simp))).next;have s2:=s.frame hs2;have hnl:=s.nl;have hlrl:lr≠l:=fun he=>hnl.1 (s.hlabs.1 l (by simp[labs,he]));refine Z00 (Z6q _ (.mrow lr 0 S.tables.length cap) xs i (i+1) (d1.frame fun k hk=>?_) (by omega) (by omega) _ (fun c' h2 hm2 hs3 hep harr hlab=>?_))
   .have:k≠(h.ep+1,144):=fun he=>by
     have:=s.lt k (by simp[s.hlabs.1 k hk]);rw[he] at this;simp at this;omega
    simp[this]
   .have hbl:h2.box l=some [C.mrow lr 0 S.tables.length cap,fc,oc]:=by
     rw[hs3 l (by simp[labs];exact fun he=>hlrl he.symm)];simp[hb,hne]
    have hb9:h2.box (h.ep+1,144)=some [C.d (D.str T.name),c1,c2]:=by
     rw[hs3 _ (by simp[labs];exact fun he=>by have:=hnr (h.ep+1) 144 (by omega);rw[<- he] at this;simp at this)];simp
    have hne2:=Z05 (s.lt l (by simp));simp (maxDischargeDepth:=12) [hbl,hb9,hne,hne2,le_s];obtain⟨ta1,s3,ht1,ht2⟩:=d8 h2 c' hm2 ⟨by rw[hep];simp,fun k hk hn=>by
     rw[hs3 k hn]
     have:k≠(h.ep+1,144):=fun he=>by rw[he] at hk;simp at hk
     simp[this]⟩ hlab
    have hx1:∀ k,k.1 < h.ep->k≠(h.ep+1,144):=fun k hk he=>by rw[he] at hk;simp at hk;omega
    have hlt1:∀ k ∈ l::(ta++(fa++oa)),k.1 < h.ep:=s.lt;have hsx:Same (h2.setBox l [c',fc,oc]) ((h2.setBox l [c',fc,oc]).setBox (h.ep+1,144) [C.d (D.str name),c1,c2]) [(h.ep+1,144)]:=Same.refl.setBox (.inl (by simp));have hsy:Same h ((h2.setBox l [c',fc,oc]).setBox (h.ep+1,144) [C.d (D.str name),c1,c2]) (l::ta):=by
     refine Same.setBox (Same.setBox ⟨by rw[hep];simp<;>omega,fun k hk hn=>?_⟩ (.inl (by simp))) (.inr (by simp));simp only[Y08,not_or] at hn;rw[hs3 k fun h1=>hn.2 (s.hlabs.1 k h1)];simp[hx1 k hk]
    have s4:=s3.frame2 hsx (fun k hk=>by
     simp only[Y20] at hk;subst hk;intro h1;simp only[Y08,Y02] at h1;rcases h1 with h1 | h1 | h1 | h1
     .exact hx1 l (hlt1 l (by simp)) h1.symm
     .exact hx1 _ (hlt1 _ (by simp[ht1 _ h1])) rfl
     .exact hx1 _ (hlt1 _ (by simp[h1])) rfl
     .exact hx1 _ (hlt1 _ (by simp[h1])) rfl)
    have hT3:Ow ((h2.setBox l [c',fc,oc]).setBox (h.ep+1,144) [C.d (D.str name),c1,c2]) TblSh [C.d (D.str name),c1,c2] ({ T with name:=name }:Tbl).enc lx:=by
     have h9:∀ k ∈ lx,((h2.setBox l [c',fc,oc]).setBox (h.ep+1,144) [C.d (D.str name),c1,c2]).box k=h.next.box k:=fun k hk=>by
      have h1:=d7 k hk;have h2':=hlt1 k (by simp[h1.1]);have h3:k≠l:=fun he=>hnl.1 (he ▸ h1.1);simp[hx1 k h2',h3,hs3 k h1.2]
     obtain⟨_,_,_,_,e1,e2,e3,h8⟩:=d5.inv_d;simp only[Tbl.enc,List.cons.injEq] at e1 e2;obtain⟨rfl,rfl⟩:=e1;obtain⟨rfl,rfl⟩:=e2;exact .data rfl (h8.frame h9)
    refine Z00 (Z3p _ l c' fc oc ta1 fa oa lx _ S1 _ _ hm1 s4 hT3 ⟨d6,fun k hk=>?_⟩ _ (fun h5 tc5 ta5 s5 hs5 hta5=>?_))
    .have h1:=d7 k hk;have h2':=hlt1 k (by simp[h1.1]);have h6:=s.nd;simp only[Y1z,Y0e,Y02] at h6;refine⟨by simp[hep];omega,?_⟩;simp only[Y08,Y02,not_or];refine⟨fun he=>hnl.1 (he ▸ h1.1),ht2 k hk,fun h7=>?_,fun h7=>?_⟩
     .exact h6.2.2.2 k h1.1 k (.inl h7) rfl
     .exact h6.2.2.2 k h1.1 k (.inr h7) rfl
    have hs6:Same h h5 (l::ta):=hsy.trans' hs5 fun k hk=>by
     simp only[Y08] at hk;rcases hk with rfl | hk
     .exact .inl (by simp)
     .exact .inl (by simp[ht1 k hk])
    have hta6:∀ k ∈ ta5,k ∈ ta\/h.ep<=k.1:=fun k hk=>by
     rcases hta5 k hk with h1 | h1 | h1
     .exact .inl (ht1 k h1)
     .exact .inl (d7 k h1).1
     .exact .inr (Y0y hsy.1 h1)
    have hb5:=s5.box;simp (maxDischargeDepth:=12) [hb5];refine Z1n s5.len.2.1.1 ?_;simp;refine Wait.count (N:=(S1.fks.length:Int)) (s0:=S1) (fun k S e h'=>e.n=119/\e.get 0=.one (.ptr l 0)/\e.get 2=.one (.d (.str name))/\e.get 10=.one (.d (.str T.name))/\e.get 51=.one (.d (.int .i64 (S1.fks.length:Int)))/\e.get 52=.one (.d (.int .i64 (k:Int)))/\S.fks.length=S1.fks.length/\Sc h' l S tc5 fc oc ta5 fa oa/\Same h h' (l::(ta++(fa++oa)))) (by simpa using hm) ⟨by simp,by simp,by simp,by simp,by simp,by simp,rfl,s5,hs6.mono (by simp only[Y08,Y02];exact fun k hk=>hk.imp_right .inl)⟩ ?_ ?_
    .rintro k S2 e h6 ⟨hn,h0,h2',h10,h51,h52,hl2,s6,hs7⟩ hlt6 hm;replace hm:=hm.getN;obtain⟨f,hf,hm⟩:=hm;have hlt7:k < S1.fks.length:=by omega
     have hlt8:k < S2.fks.length:=by omega
     have hfl:=s6.len.2.1.2;simp only[lim_eq] at hfl;have hw7:IntKind.i64.wrap ((k:Int)+1)=(k:Int)+1:=Y0a _ (by omega);have hb6:=s6.box;obtain⟨lf,cf,Bf,rfl,bx,hle⟩:=s6.fkH hf;obtain⟨hlf,hllf,c1f,el,-,-,w0,w2⟩:=s6.fkK bx hf;have r0:=el.rd0 1 (by omega);have r2:=el.rd 2 1 (by omega);simp at r0 r2;have fin:∀ (e':Env) (h':HS) (S3:Sch),e'.n=119->e'.get 0=.one (.ptr l 0)->e'.get 2=.one (.d (.str name))->e'.get 10=.one (.d (.str T.name))->e'.get 51=.one (.d (.int .i64 (S1.fks.length:Int)))->e'.get 52=.one (.d (.int .i64 ((k:Int)+1)))->S3.fks.length=S2.fks.length->Sc h' l S3 tc5 (.mrow lf 0 S2.fks.length cf) oc ta5 fa oa->Same h6 h' fa ->
       (e'.n=119/\e'.get 0=.one (.ptr l 0)/\e'.get 2=.one (.d (.str name))/\e'.get 10=.one (.d (.str T.name))/\e'.get 51=.one (.d (.int .i64 (S1.fks.length:Int)))/\e'.get 52=.one (.d (.int .i64 ((k+1:Nat):Int)))/\S3.fks.length=S1.fks.length/\Sc h' l S3 tc5 (.mrow lf 0 S2.fks.length cf) oc ta5 fa oa/\Same h h' (l::(ta++(fa++oa)))):=
      fun e' h' S3 a1 a2 a3 a4 a5 a6 a7 a8 a9=>⟨a1,a2,a3,a4,a5,by simpa using a6,by omega,a8,hs7.trans' a9 fun k hk=>.inl (by simp[hk])⟩
     cases hb1:strEq f.table T.name with
     | true=>
       simp only[hb1,cond_true] at hm;have s7:=w0 name;have bx7:(h6.setBox lf (Z01 Bf (k * 3) [.d (.str name)])).box lf=some (Z01 Bf (k * 3) [.d (.str name)]):=by simp
       have hf7:({ S2 with fks:=S2.fks.set k ⟨name,f.cols,f.ref⟩ }:Sch).fks[k]? = some ⟨name,f.cols,f.ref⟩:=by simp[hlt8]
       obtain⟨-,-,c1g,el7,-,-,-,w7⟩:=s7.fkK bx7 hf7;have r7:=el7.rd 2 1 (by omega);simp at r7;have hle7:(Z01 Bf (k * 3) [.d (.str name)]).length=Bf.length:=Z0z (by simp<;>omega);cases hb2:strEq f.ref T.name with
       | true=>
         simp only[hb2,cond_true] at hm;simp[hn,h0,h2',h10,h51,h52,hlt7,hlt8,hb6,bx,r0,hb1,hw7,hllf,r7,hb2,hle7];refine⟨by omega,by omega,BackF.of _ ⟨fin _ _ _ (by simp[hn]) (by simp[h0]) (by simp[h2']) (by simp[h10]) (by simp[h51]) (by simp) ?_ (by simpa using w7 name) ((Same.set1 hlf).setBox (.inl hlf)),hm⟩⟩;simp
       | false=>
         simp only[hb2,cond_false] at hm;simp[hn,h0,h2',h10,h51,h52,hlt7,hlt8,hb6,bx,r0,hb1,hw7,hllf,r7,hb2];refine⟨by omega,BackF.of _ ⟨fin _ _ _ (by simp[hn]) (by simp[h0]) (by simp[h2']) (by simp[h10]) (by simp[h51]) (by simp) ?_ s7 (Same.set1 hlf),hm⟩⟩;simp
     | false=>
       simp only[hb1,cond_false] at hm;cases hb2:strEq f.ref T.name with
       | true=>
         simp only[hb2,cond_true] at hm;simp[hn,h0,h2',h10,h51,h52,hlt7,hlt8,hb6,bx,r0,hb1,hw7,hllf,r2,hb2];refine⟨by omega,BackF.of _ ⟨fin _ _ _ (by simp[hn]) (by simp[h0]) (by simp[h2']) (by simp[h10]) (by simp[h51]) (by simp) ?_ (w2 name) (Same.set1 hlf),hm⟩⟩;simp
       | false=>
         simp only[hb2,cond_false] at hm;simp[hn,h0,h2',h10,h51,h52,hlt7,hlt8,hb6,bx,r0,hb1,hw7,hllf,r2,hb2];exact BackF.of _ ⟨fin _ _ _ (by simp[hn]) (by simp[h0]) (by simp[h2']) (by simp[h10]) (by simp[h51]) (by simp) rfl s6 .refl,hm⟩
    .rintro k S2 e h6 ⟨hn,h0,h2',h10,h51,h52,hl2,s6,hs7⟩ hge hm;have hb6:=s6.box;have hge':¬ k < S1.fks.length:=by omega
     simp[hn,h0,h2',h10,h51,h52,hge',hb6];refine Z1n s6.len.2.2.1 ?_;simp[hn,h0];refine Wait.count (N:=(S2.cons.length:Int)) (s0:=S2) (fun k S e h'=>e.n=119/\e.get 0=.one (.ptr l 0)/\e.get 2=.one (.d (.str name))/\e.get 10=.one (.d (.str T.name))/\e.get 96=.one (.d (.int .i64 (S2.cons.length:Int)))/\e.get 97=.one (.d (.int .i64 (k:Int)))/\S.cons.length=S2.cons.length/\Sc h' l S tc5 fc oc ta5 fa oa/\Same h h' (l::(ta++(fa++oa)))) (by simpa using hm) ⟨by simp[hn],by simp[h0],by simp[h2'],by simp[h10],by simp,by simp,rfl,s6,hs7⟩ ?_ ?_
     .rintro k S3 e h6 ⟨hn,h0,h2',h10,h96,h97,hl3,s6,hs7⟩ hlt6 hm;replace hm:=hm.getN;obtain⟨f,hf,hm⟩:=hm;have hlt7:k < S2.cons.length:=by omega
      have hlt8:k < S3.cons.length:=by omega
      have hfl:=s6.len.2.2.2;simp only[lim_eq] at hfl;have hw7:IntKind.i64.wrap ((k:Int)+1)=(k:Int)+1:=Y0a _ (by omega);have hb6:=s6.box;obtain⟨lf,cf,Bf,rfl,bx,hle⟩:=s6.conH hf;obtain⟨hlf,hllf,el,w0,-,-⟩:=s6.conK bx hf;have r0:=el.rd0 1 (by omega);simp at r0;cases hb1:strEq f.table T.name with
      | true=>
        simp only[hb1,cond_true] at hm;simp[hn,h0,h2',h10,h96,h97,hlt7,hlt8,hb6,bx,r0,hb1,hw7,hllf];refine⟨by omega,BackF.of _ ⟨⟨by simp[hn],by simp[h0],by simp[h2'],by simp[h10],by simp[h96],by simp,?_,w0 name,hs7.setBox (.inl (by simp[hlf]))⟩,hm⟩⟩;simpa using hl3
      | false=>
        simp only[hb1,cond_false] at hm;simp[hn,h0,h2',h10,h96,h97,hlt7,hlt8,hb6,bx,r0,hb1,hw7,hllf];exact BackF.of _ ⟨⟨by simp[hn],by simp[h0],by simp[h2'],by simp[h10],by simp[h96],by simp,hl3,s6,hs7⟩,hm⟩
     .rintro k S3 e h6 ⟨hn,h0,h2',h10,h96,h97,hl3,s6,hs7⟩ hge hm;have e1:=r_ret hm;simp only[Y07] at e1;obtain⟨rfl,rfl⟩:=e1;have hge':¬ k < S2.cons.length:=by omega
      simp[hn,h0,h2',h10,h96,h97,hge'];refine hk _ _ s6.ows hs7 (fun k hk=>?_);simp only[Y02] at hk |-;rcases hk with hk | hk | hk
      .exact (hta6 k hk).imp_left .inl
      .exact .inl (.inr (.inl hk))
      .exact .inl (.inr (.inr hk))
end
section
open Go.Am
def Z18 (s1:List Fk) (s2:List Fk) (eq:Fk->Fk->Option Bool):Option Bool:=
 (bif ((s1.length:Int) != (s2.length:Int)) then (some false) else (forK (fun (i5:Nat) (x5:Fk) (s5:Unit) next_5=>(getK s2 (i5:Int) fun x7=>(bindK (eq x5 x7) fun v9=>(bif !v9 then (some false) else (next_5 ()))))) (fun (s5:Unit)=>(some true)) s1 0 ()))
instance i_slices_EqualFunc_Foreignkey (s1:List Fk) (s2:List Fk) (eq:Fk->Fk->Option Bool) {g:FuncId} {caps:List (List D)} [ConG eq prog (fun x=>.agg x.enc) (fun x=>.agg x.enc) (fun v=>.one (.d (.bool v))) g caps]:Con (Z18 s1 s2 eq) prog 203 [.one (.d (.sl (s1.map Fk.enc))),.one (.d (.sl (s2.map Fk.enc))),.one (.fn g caps)] (fun r=>.one (.d (.bool r))):=by
 unfold Z18;have l1:LH (σ:=Unit) 17 [1,2,15,16] []:=.intro;exact go 32 Tryz.func203 rfl (by kernel_rfl) rfl rfl (by simp)
def Z1v (s1:List Cons) (s2:List Cons):Option Bool:=
 (bif ((s1.length:Int) != (s2.length:Int)) then (some false) else (forK (fun (i5:Nat) (x5:Cons) (s5:Unit) next_5=>(getK s2 (i5:Int) fun x6=>(bif (!(x5.table == x6.table) || (!(x5.left == x6.left) || (!(x5.op == x6.op) || (!(x5.right == x6.right) || (!(x5.value.kind == x6.value.kind) || (!(x5.value.int == x6.value.int) || (!(x5.value.text == x6.value.text)))))))) then (some false) else (next_5 ())))) (fun (s5:Unit)=>(some true)) s1 0 ()))
instance c_slices_Equal_Constraint (s1:List Cons) (s2:List Cons):Con (Z1v s1 s2) prog 204 [.one (.d (.sl (s1.map Cons.enc))),.one (.d (.sl (s2.map Cons.enc)))] (fun r=>.one (.d (.bool r))):=by
 unfold Z1v;have l1:LH (σ:=Unit) 13 [0,1,12] []:=.intro;have p1:PH [6] (Plan.then_ [0,1,2,3,4,5,6,7,8] .done):=.intro;exact go 26 Tryz.func204 rfl (by kernel_rfl) rfl rfl (by simp)
def Z36 (s_:Sch) (table:ByteArray) (other:ByteArray):Option Int:=
 (forK (fun (i3:Nat) (x3:Fk) (s3:(List Fk) × (List Fk)) next_3=>(bif strEq x3.ref table then (some 10) else (bif strEq x3.ref other then (some 10) else (bif strEq x3.table table then (appK2 s3.1 [x3] fun _=>(next_3 ((s3.1++[x3]),s3.2))) else (bif strEq x3.table other then (appK2 s3.2 [(Fk.mk table x3.cols x3.ref)] fun _=>(next_3 (s3.1,(s3.2++[(Fk.mk table x3.cols x3.ref)])))) else (next_3 (s3.1,s3.2))))))) (fun (s3:(List Fk) × (List Fk))=>(bindK (Z18 s3.1 s3.2 (fun xa_ xb_=>Z0b xa_ xb_)) fun v13=>(bif !v13 then (some 10) else (forK (fun (i16:Nat) (x16:Cons) (s16:(List Cons) × (List Cons)) next_16=>(bif strEq x16.table table then (appK2 s16.1 [x16] fun _=>(next_16 ((s16.1++[x16]),s16.2))) else (bif strEq x16.table other then (appK2 s16.2 [(Cons.mk table x16.left x16.op x16.right x16.value)] fun _=>(next_16 (s16.1,(s16.2++[(Cons.mk table x16.left x16.op x16.right x16.value)])))) else (next_16 (s16.1,s16.2))))) (fun (s16:(List Cons) × (List Cons))=>(bindK (Z1v s16.1 s16.2) fun v24=>(bif !v24 then (some 11) else (some 0)))) s_.cons 0 ([],[]))))) s_.fks 0 ([],[]))
instance c_evolution_sameRules (s_:Sch) (table:ByteArray) (other:ByteArray):Con (Z36 s_ table other) prog 173 [.agg s_.enc,.one (.d (.str table)),.one (.d (.str other))] (fun r=>.one (.d (.int .i64 r))):=by
 unfold Z36;have l1:LH (σ:=(List Fk) × (List Fk)) 18 [1,2,3,16,17] [.g 7 3 (fun s=>s.1.map Fk.enc),.g 8 3 (fun s=>s.2.map Fk.enc)]:=.intro;have l2:LH (σ:=(List Cons) × (List Cons)) 58 [1,2,56,57] [.g 11 7 (fun s=>s.1.map Cons.enc),.g 12 7 (fun s=>s.2.map Cons.enc)]:=.intro;exact go 85 Tryz.func173 rfl (by kernel_rfl) rfl rfl (by simp)
def Z25 (s1:List Col) (s2:List Col):Option Bool:=
 (bif ((s1.length:Int) != (s2.length:Int)) then (some false) else (forK (fun (i5:Nat) (x5:Col) (s5:Unit) next_5=>(getK s2 (i5:Int) fun x6=>(bif (!(x5.name == x6.name) || (!(x5.kind == x6.kind) || (!(x5.nullable == x6.nullable)))) then (some false) else (next_5 ())))) (fun (s5:Unit)=>(some true)) s1 0 ()))
instance c_slices_Equal_Column (s1:List Col) (s2:List Col):Con (Z25 s1 s2) prog 172 [.one (.d (.sl (s1.map Col.enc))),.one (.d (.sl (s2.map Col.enc)))] (fun r=>.one (.d (.bool r))):=by
 unfold Z25;have l1:LH (σ:=Unit) 13 [0,1,12] []:=.intro;have p1:PH [6] (Plan.then_ [0,1,2,3,4,5,6,7,8] .done):=.intro;exact go 26 Tryz.func172 rfl (by kernel_rfl) rfl rfl (by simp)
end
section
open Go Go.Am
def Z3m (S:Sch) (i:Nat) (step:Stp):Option (Sch × Int):=
 bindK (Z02 S step.other) fun v=>bif !v.2 then some (S,4) else getK S.tables (i:Int) fun T=>getK S.tables v.1 fun O=>bif ((i:Int) == v.1) then some (S,7) else
 bindK (Z25 T.cols O.cols) fun b=>bif !b then some (S,7) else bindK (Z1g T.pk O.pk) fun b2=>bif !b2 then some (S,7) else
 bindK (Z36 S T.name O.name) fun e=>bif e != 0 then some (S,e) else
 chkK ((0 < T.pk.length/\T.pk.length < LIM)/\0 < T.cols.length/\T.cols.length < LIM) (some (Z4r { S with tables:=S.tables.set i { T with pk:=T.pk++[(T.cols.length:Int)],cols:=T.cols++[⟨step.column,2,false⟩] } } O.name,0))
set_option maxHeartbeats 2000000 in
theorem Z8p (h:HS) (l:Lab) (tc fc oc x6 x12 x13 x22:C) (ta fa oa:List Lab) (S S':Sch) (i:Nat) (step:Stp) (r:Int) (hm:Is (Z3m S i step) (S',r)) (s:Sc h l S tc fc oc ta fa oa) (K:V->HS->Prop)
  (hk:KeepS h l (ta++(fa++oa)) S' (.one (.d (.int .i64 r))) K) :
  HSpec prog 136 [.one (.ptr l 0),.one (.d (.int .i64 (i:Int))),.agg (stpC step x6 x12 x13 x22)] h K:=by
 replace hm:=hm.bind;obtain⟨v,hv,hm⟩:=hm;have hs0:Same h ((h.setBox (h.ep,80) (stpC step x6 x12 x13 x22)).next) []:=(Same.refl.setBox (.inr (Y09 _))).next;have s0:=s.frame hs0;have hb0:=s0.box;have bx5:(h.setBox (h.ep,80) (stpC step x6 x12 x13 x22)).next.box (h.ep,80)=some (stpC step x6 x12 x13 x22):=by simp
 refine HSpec.of_vc Tryz.func136 rfl (by kernel_rfl) (n:=99) rfl rfl (by simp) ?_;have hnn:stpC step x6 x12 x13 x22≠[]:=by simp[stpC]
 have hne:=ne_new (s.lt l (by simp));have hbs:=s.box;have hep:h.ep < ((h.setBox (h.ep,80) (stpC step x6 x12 x13 x22)).next).ep:=by simp
 simp[hnn];generalize (h.setBox (h.ep,80) (stpC step x6 x12 x13 x22)).next=HX at *;refine Wait.cut (Plan.then_ [0,1,2,3,4,5,6,7,8,9,10] .done) follows (by kernel_rfl) (fun e h'=>e.n=99/\e.get 0=.one (.ptr l 0)/\e.get 1=.one (.d (.int .i64 (i:Int)))/\e.get 5=.one (.ptr (h.ep,80) 0)/\e.get 7=.one (.d (.int .i64 v.1))/\e.get 8=.one (.d (.bool v.2))/\Same HX h' []) ?_ ?_
 .simp[hb0,bx5,stpC];refine Z00 (HSpec.of_lend (c_schema_FindTable S step.other v hv) ⟨.agg s0.frz,.one (.frz (.data rfl)),trivial⟩ rfl ?_);simp;exact⟨fun _ _ x=>x,CutK.of (by simp[Same.refl.next])⟩
 .rintro e h1 ⟨hn,h0,h1',h5,h7,h8,hs1⟩;have bx5':h1.box (h.ep,80)=some (stpC step x6 x12 x13 x22):=by rw[hs1.2 _ hep (by simp)];exact bx5
  have s1:=s0.frame hs1;have hb1:=s1.box;have hy:=hs0.trans hs1;simp[hn,h8];cases hv2:v.2 with
  | false=>
    rw[hv2] at hm;have e1:=r_ret hm;simp only[Y07] at e1;obtain⟨rfl,rfl⟩:=e1;simp[hn];exact hk _ _ s1.ows (hy.mono (by simp)) (fun k hk=>.inl hk)
  | true=>
    simp only[hv2,Y1v,cond_false] at hm;replace hm:=hm.getN;obtain⟨T,hi,hm⟩:=hm;replace hm:=hm.get;obtain⟨O,hv0,hj,hm⟩:=hm;obtain⟨j,hj1⟩:∃ j:Nat,v.1=j:=⟨v.1.toNat,by omega⟩;rw[hj1] at h7 hj hm;simp at hj;have hlt:i < S.tables.length:=(Y00.1 hi).1;have hltj:j < S.tables.length:=(Y00.1 hj).1;obtain⟨lt,c1,c2,B,tv⟩:=s1.tbl hi;obtain⟨cap,rfl⟩:=tv.hd;have bx:=tv.el.box;have r0:=tv.el.rd0 3 (by omega);have r1:=tv.el.rd 1 1 (by omega);have r2:=tv.el.rd 2 1 (by omega);simp at r0 r1 r2;obtain⟨d1,d2,tw⟩:=s1.tblK bx hj;have q0:=tw.el.rd0 3 (by omega);simp at q0;simp;refine Wait.cut (Plan.then_ [0,1,2,3,4,5,6,7,8,9,11] (.three 10 14 15 (Plan.then_ [12] (.three 13 14 15 (Plan.then_ [] (.two 14 15 (Plan.then_ [15,16,17] .done) (Plan.then_ [14,16,17] .done))) (Plan.then_ [] (.two 13 15 (Plan.then_ [15,16,17] .done) (Plan.then_ [] (.two 13 16 (Plan.then_ [16,17] .done) (Plan.then_ [13,17] .done))))) (Plan.then_ [] (.two 13 14 (Plan.then_ [14,16,17] .done) (Plan.then_ [] (.two 13 16 (Plan.then_ [16,17] .done) (Plan.then_ [13,17] .done))))))) (Plan.then_ [] (.two 10 15 (Plan.then_ [12] (.two 13 15 (Plan.then_ [15,16,17] .done) (Plan.then_ [] (.two 13 16 (Plan.then_ [16,17] .done) (Plan.then_ [13,17] .done))))) (Plan.then_ [] (.two 10 16 (Plan.then_ [12] (.two 13 16 (Plan.then_ [16,17] .done) (Plan.then_ [13,17] .done))) (Plan.then_ [10,12,13,17] .done))))) (Plan.then_ [] (.two 10 14 (Plan.then_ [12] (.two 13 14 (Plan.then_ [14,16,17] .done) (Plan.then_ [] (.two 13 16 (Plan.then_ [16,17] .done) (Plan.then_ [13,17] .done))))) (Plan.then_ [] (.two 10 16 (Plan.then_ [12] (.two 13 16 (Plan.then_ [16,17] .done) (Plan.then_ [13,17] .done))) (Plan.then_ [10,12,13,17] .done))))))) follows (by kernel_rfl) (fun e h'=>e.n=99/\e.get 0=.one (.ptr l 0)/\e.get 1=.one (.d (.int .i64 (i:Int)))/\e.get 5=.one (.ptr (h.ep,80) 0)/\e.get 7=.one (.d (.int .i64 (j:Int)))/\Same h1 h' [] /\
     ∃ p9 p10:Lab,p9≠p10/\(h1.ep<=p9.1/\p9.1 < h'.ep)/\(h1.ep<=p10.1/\p10.1 < h'.ep)/\e.get 9=.one (.ptr p9 0)/\e.get 10=.one (.ptr p10 0)/\h'.box p9=some [.d (.str T.name),c1,c2]/\h'.box p10=some [.d (.str O.name),d1,d2]) ?_ ?_
    .have hnl:=ne_new (s1.lt l (by simp));have hnt:=ne_new (s1.lt lt (by simp[tv.tm]));simp (maxDischargeDepth:=12) [hn,h0,h1',h5,h7,hb1,hlt,hltj,bx,r0,q0,hnl,hnt,le_s]
     repeat' (with_reducible apply And.intro)
     all_goals first
      | (refine CutK.of ⟨?_,?_,?_,?_,?_,(((Same.refl.setBox (.inr ?_)).next.setBox (.inr ?_)).next.setBox (.inr ?_)).setBox (.inr ?_),(h1.ep,144),(h1.ep+1,160),?_,⟨?_,?_⟩,⟨?_,?_⟩,?_,?_,?_,?_⟩
         all_goals first
          | (simp[hn,h0,h1',h5,h7];done)
          | (simp<;>omega))
      | (refine CutK.of ⟨?_,?_,?_,?_,?_,(((Same.refl.setBox (.inr ?_)).next.setBox (.inr ?_)).next.setBox (.inr ?_)).setBox (.inr ?_),(h1.ep+1,144),(h1.ep,160),?_,⟨?_,?_⟩,⟨?_,?_⟩,?_,?_,?_,?_⟩
         all_goals first
          | (simp[hn,h0,h1',h5,h7];done)
          | (simp<;>omega))
    .rintro e h2 ⟨hn,h0,h1',h5,h7,hs2,p9,p10,hp,hp9,hp10,h9,h10,b9,b10⟩;have s2:=s1.frame hs2;have hb2:=s2.box;have hy2:=hy.trans hs2;have bx52:h2.box (h.ep,80)=some (stpC step x6 x12 x13 x22):=by rw[hs2.2 _ (Y04 hep hs1.1) (by simp)];exact bx5'
     have ff:∀ h',Same h2 h' []->Frz h' c1 (.sl (T.cols.map Col.enc))/\Frz h' c2 (.sl (T.pk.map encI))/\Frz h' d1 (.sl (O.cols.map Col.enc))/\Frz h' d2 (.sl (O.pk.map encI)):=fun h' hs=>⟨tv.f1 h' (hs2.trans hs),tv.f2 h' (hs2.trans hs),tw.f1 h' (hs2.trans hs),tw.f2 h' (hs2.trans hs)⟩;have hz1:Same h2 h2.next []:=Same.refl.next;have hz2:Same h2 h2.next.next []:=hz1.next;cases hij:(i:Int) == (j:Int) with
     | true=>
       simp only[hij,cond_true] at hm;have e1:=r_ret hm;simp only[Y07] at e1;obtain⟨rfl,rfl⟩:=e1;simp[hn,h1',h7,hij];exact hk _ _ s2.ows (hy2.mono (by simp)) (fun k hk=>.inl hk)
     | false=>
       simp only[hij,cond_false] at hm;replace hm:=hm.bind;obtain⟨b,hbv,hm⟩:=hm;have hij1:¬ (i:Int)=(j:Int):=by simpa using hij
       have hij2:¬ i=j:=by omega
       simp[hn,h1',h7,h9,h10,hij,b9,b10];refine Z00 (HSpec.of_lend (c_slices_Equal_Column T.cols O.cols b hbv) ⟨.one (.frz (ff _ .refl).1),.one (.frz (ff _ .refl).2.2.1),trivial⟩ rfl ?_);cases b with
       | false=>
         simp only[Y29,cond_true] at hm;have e1:=r_ret hm;simp only[Y07] at e1;obtain⟨rfl,rfl⟩:=e1;simp[hn];exact hk _ _ (s2.frame hz1).ows ((hy2.trans hz1).mono (by simp)) (fun k hk=>.inl hk)
       | true=>
         simp only[Y1v,cond_false] at hm;replace hm:=hm.bind;obtain⟨b',hbv',hm⟩:=hm;simp[hn,h9,h10,b9,b10];refine Z00 (HSpec.of_lend (c_slices_Equal_Int T.pk O.pk b' hbv') ⟨.one (.frz (ff _ hz1).2.1),.one (.frz (ff _ hz1).2.2.2),trivial⟩ rfl ?_);cases b' with
         | false=>
           simp only[Y29,cond_true] at hm;have e1:=r_ret hm;simp only[Y07] at e1;obtain⟨rfl,rfl⟩:=e1;simp[hn];exact hk _ _ (s2.frame hz2).ows ((hy2.trans hz2).mono (by simp)) (fun k hk=>.inl hk)
         | true=>
           simp only[Y1v,cond_false] at hm;replace hm:=hm.bind;obtain⟨w,hwv,hm⟩:=hm;have s3:=s2.frame hz2;simp[hn];refine Wait.cut (Plan.then_ [0,1,2,3,4,5,6,7,8] .done) follows (by kernel_rfl) (fun e h'=>e.n=99/\e.get 0=.one (.ptr l 0)/\e.get 1=.one (.d (.int .i64 (i:Int)))/\e.get 5=.one (.ptr (h.ep,80) 0)/\e.get 9=.one (.ptr p9 0)/\e.get 10=.one (.ptr p10 0)/\e.get 11=.one (.d (.int .i64 w))/\Same h2 h' []) ?_ ?_
           .simp[hn,h0,h9,h10,b9,b10,hb2];refine Z00 (HSpec.of_lend (c_evolution_sameRules S T.name O.name w hwv) ⟨.agg s3.frz,.one (.frz (.data rfl)),.one (.frz (.data rfl)),trivial⟩ rfl ?_);simp[hn];exact⟨fun _ _ x=>x,CutK.of ⟨by simp[hn],by simp[h0],by simp[h1'],by simp[h5],by simp[h9],by simp[h10],by simp,hz2.next⟩⟩
           .rintro e h3 ⟨hn,h0,h1',h5,h9,h10,h11,hs3⟩;have s4:=s2.frame hs3;have hb4:=s4.box;have hy3:=hy2.trans hs3;have b93:h3.box p9=some [.d (.str T.name),c1,c2]:=by rw[hs3.2 _ hp9.2 (by simp)];exact b9
            have b103:h3.box p10=some [.d (.str O.name),d1,d2]:=by rw[hs3.2 _ hp10.2 (by simp)];exact b10
            have bx3:h3.box lt=some B:=by
             rw[hs3.2 _ (s2.lt lt (by simp[tv.tm])) (by simp),hs2.2 _ (s1.lt lt (by simp[tv.tm])) (by simp)];exact bx
            have bx53:h3.box (h.ep,80)=some (stpC step x6 x12 x13 x22):=by rw[hs3.2 _ (Y04 (Y04 hep hs1.1) hs2.1) (by simp)];exact bx52
            simp[hn,h11];cases hw0:w != 0 with
            | true=>
              simp only[hw0,cond_true] at hm;have e1:=r_ret hm;simp only[Y07] at e1;obtain⟨rfl,rfl⟩:=e1;have hw1:¬ w=0:=by simpa using hw0
              simp[hn,h11,hw1];exact hk _ _ s4.ows (hy3.mono (by simp)) (fun k hk=>.inl hk)
            | false=>
              simp only[hw0,cond_false] at hm;have hw1:w=0:=by simpa using hw0
              replace hm:=hm.chk;obtain⟨⟨⟨hp0,hp1⟩,hc0,hc1⟩,hm⟩:=hm;have e1:=r_ret hm;simp only[Y07] at e1;obtain⟨rfl,rfl⟩:=e1;have hp2:T.pk.length < 2097152:=hp1;have hc2:T.cols.length < 2097152:=hc1;simp[hn,hw1];refine Wait.cut (Plan.then_ [0,1,2,4,5,6,7,8,9] (.two 3 10 (Plan.then_ [10,11,12,13,14] .done) (Plan.then_ [] (.two 3 11 (Plan.then_ [11,12,13,14] .done) (Plan.then_ [3,12,13,14] .done))))) follows (by kernel_rfl) (fun e h'=>e.n=99/\e.get 0=.one (.ptr l 0)/\e.get 1=.one (.d (.int .i64 (i:Int)))/\e.get 5=.one (.ptr (h.ep,80) 0)/\e.get 9=.one (.ptr p9 0)/\e.get 10=.one (.ptr p10 0) /\
               (∃ ta' B',Sc h' l { S with tables:=S.tables.set i { T with pk:=T.pk++[(T.cols.length:Int)] } } (.mrow lt 0 S.tables.length cap) fc oc ta' fa oa/\h'.box lt=some B'/\takeN 1 (B'.drop (i * 3+1))=some [c1]/\(∀ k ∈ ta',k ∈ ta\/h3.ep<=k.1))/\Same h3 h' ta) ?_ ?_
              .have hnl:=ne_new (s4.lt l (by simp));have hnt:=ne_new (s4.lt lt (by simp[tv.tm]));have hn9:=ne_new (l:=p9) (n:=h3.ep) (Y04 hp9.2 hs3.1);simp (maxDischargeDepth:=12) [hn,h0,h1',h9,hb4,hlt,bx3,b93,hnl,hnt,hn9,le_s];refine Z1n tv.n1.1 ?_;simp (maxDischargeDepth:=12) [hn,h0,h1',h9,hb4,hlt,bx3,b93,hnl,hnt,hn9,le_s];have hz:Same h3 ((h3.setArr (h3.ep,16 * 77) (some (1,1))).next) []:=(Same.refl).setArr.next;simp only[Nat.reduceMul] at hz;obtain⟨c1',c2',tv5⟩:=(s4.frame hz).tblK (by simpa using bx3) hi;obtain rfl:c2'=c2:=by
                have:=tv5.el.rd 2 1 (by omega)
                simp[r2] at this;exact this.symm
               have hle5:=tv5.el.le;refine⟨?_,?_,?_⟩
               all_goals
                refine app_mr (by simp;exact⟨rfl,rfl⟩) (by simp) (by simp) (by simp) (tv5.m2 (by intro h0;simp[h0] at hp0)) (RowAt.own1 (by simp)) (by simp<;>omega) (fun c' h' hm' hs5 hl5=>?_);have hbl:h'.box lt=some B:=by
                 rw[hs5.2 lt ((s4.frame hz).lt lt (by simp[tv5.tm])) fun h2=>(tv5.l2 lt h2).2 rfl];simpa using bx3
                have hbs':h'.box l=some [.mrow lt 0 S.tables.length cap,fc,oc]:=(s4.frame hz).keep hs5 fun k hk=>.inl (tv5.l2 k hk).1;have hep5:=hs5.1;simp at hep5;obtain⟨ta',s6,hta⟩:=tv5.s2 h' c' (T.pk++[(T.cols.length:Int)]) (by simpa using hm') hs5 (fun k hk=>(hl5 k hk).imp_right fun h2=>⟨fun h3=>by have:=(s4.frame hz).lt k h3;omega,h2.2⟩);have el6:=tv5.el.set (g:=2) (vs:=[c']) (by simp) (by simp);have r6:=el6.rd 1 1 (by omega);simp at r6;have r5:=tv5.el.rd 1 1 (by omega);simp[r1] at r5;simp[hn,h0,h1',h9,hlt,hbl,hbs'];refine⟨by omega,CutK.of ⟨by simp[hn],by simp[h0],by simp[h1'],by simp[h5],by simp[h9],by simp[h10],⟨ta',_,s6,by simp;rfl,by rw[r6,r5],fun k hk=>?_⟩,?_⟩⟩
                .rcases hta k hk with h2 | h2
                 .exact .inl h2
                 .rcases hl5 k h2 with h3 | h3
                  .exact .inl (tv5.l2 k h3).1
                  .refine .inr ?_;have h4':=h3.1;simp at h4';omega
                .exact ((hz.mono (by simp)).trans (hs5.mono fun k hk=>(tv5.l2 k hk).1)).setBox (.inl tv5.tm)
              .rintro e h4 ⟨hn,h0,h1',h5,h9,h10,⟨ta4,B4,s6,bx4,r4,hta4⟩,hs4⟩;have hi4:({ S with tables:=S.tables.set i { T with pk:=T.pk++[(T.cols.length:Int)] } }:Sch).tables[i]? = some { T with pk:=T.pk++[(T.cols.length:Int)] }:=by simp[hlt]
               have hb6:=s6.box;have hlt4:∀ k ∈ ta,k.1 < h1.ep:=fun k hk=>s1.lt k (by simp[hk]);have b94:h4.box p9=some [.d (.str T.name),c1,c2]:=by rw[hs4.2 _ (Y04 hp9.2 hs3.1) (fun h2=>by have:=hlt4 _ h2;omega)];exact b93
               have b104:h4.box p10=some [.d (.str O.name),d1,d2]:=by rw[hs4.2 _ (Y04 hp10.2 hs3.1) (fun h2=>by have:=hlt4 _ h2;omega)];exact b103
               have bx54:h4.box (h.ep,80)=some (stpC step x6 x12 x13 x22):=by
                rw[hs4.2 _ (Y04 (Y04 (Y04 hep hs1.1) hs2.1) hs3.1) (fun h2=>by have:=s.lt (h.ep,80) (by simp[h2]);simp at this)];exact bx53
               simp[hn];refine Wait.cut (Plan.then_ [0,1,2,4,5,6,7,8] (.two 3 9 (Plan.then_ [9,10,11,12,13,14] .done) (Plan.then_ [] (.two 3 10 (Plan.then_ [10,11,12,13,14] .done) (Plan.then_ [] (.two 3 11 (Plan.then_ [11,12,13,14] .done) (Plan.then_ [3,12,13,14] .done))))))) follows (by kernel_rfl) (fun e h'=>e.n=99/\e.get 0=.one (.ptr l 0)/\e.get 10=.one (.ptr p10 0) /\
                (∃ ta',Sc h' l { S with tables:=S.tables.set i { T with pk:=T.pk++[(T.cols.length:Int)],cols:=T.cols++[⟨step.column,2,false⟩] } } (.mrow lt 0 S.tables.length cap) fc oc ta' fa oa/\(∀ k ∈ ta',k ∈ ta4\/h4.ep<=k.1))/\Same h4 h' ta4) ?_ ?_
               .have hnl:=ne_new (s6.lt l (by simp));obtain⟨_,_,tv6⟩:=s6.tblK bx4 hi4;have hnt:=ne_new (s6.lt lt (by simp[tv6.tm]));have hn9:=ne_new (l:=p9) (n:=h4.ep) (Y04 (Y04 hp9.2 hs3.1) hs4.1);have hn5:=ne_new (l:=(h.ep,80)) (n:=h4.ep) (Y04 (Y04 (Y04 (Y04 hep hs1.1) hs2.1) hs3.1) hs4.1);simp (maxDischargeDepth:=12) [hn,h0,h1',h5,h9,hb6,hlt,bx4,b94,bx54,hnl,hnt,hn9,hn5,le_s,stpC];have hz:Same h4 ((h4.setArr (h4.ep,16 * 91) (some (1,3))).next) []:=(Same.refl).setArr.next;simp only[Nat.reduceMul] at hz;obtain⟨c1',c2',tv5⟩:=(s6.frame hz).tblK (by simpa using bx4) hi4;obtain rfl:c1'=c1:=by
                 have:=tv5.el.rd 1 1 (by omega)
                 simp[r4] at this;exact this.symm
                have hle5:=tv5.el.le
                repeat' (with_reducible apply And.intro)
                all_goals
                 refine app_mr (by simp;exact⟨rfl,rfl⟩) (by simp) (by simp) (by simp) (tv5.m1 (by intro h0;simp only at h0;simp[h0] at hc0)) (RowAt.own1 (by simp)) (by simp<;>omega) (fun c' h' hm' hs5 hl5=>?_);have hbl:h'.box lt=some B4:=by
                  rw[hs5.2 lt ((s6.frame hz).lt lt (by simp[tv5.tm])) fun h2=>(tv5.l1 lt h2).2 rfl];simpa using bx4
                 have hbs':h'.box l=some [.mrow lt 0 S.tables.length cap,fc,oc]:=(s6.frame hz).keep hs5 fun k hk=>.inl (tv5.l1 k hk).1;have hep5:=hs5.1;simp at hep5;obtain⟨ta',s7,hta⟩:=tv5.s1 h' c' (T.cols++[⟨step.column,2,false⟩]) (by simpa using hm') hs5 (fun k hk=>(hl5 k hk).imp_right fun h2=>⟨fun h3=>by have:=(s6.frame hz).lt k h3;omega,h2.2⟩);simp[hn,h0,h1',h9,hlt,hbl,hbs'];refine⟨by omega,CutK.of ⟨by simp[hn],by simp[h0],by simp[h10],⟨ta',by simpa using s7,fun k hk=>?_⟩,?_⟩⟩
                 .rcases hta k hk with h2 | h2
                  .exact .inl h2
                  .rcases hl5 k h2 with h3 | h3
                   .exact .inl (tv5.l1 k h3).1
                   .refine .inr ?_;have h4':=h3.1;simp at h4';omega
                 .exact ((hz.mono (by simp)).trans (hs5.mono fun k hk=>(tv5.l1 k hk).1)).setBox (.inl tv5.tm)
               .rintro e h5 ⟨hn,h0,h10,⟨ta5,s7,hta5⟩,hs5⟩;have hep34:h.ep<=h3.ep:=hy3.1;have hep44:h.ep<=h4.ep:=Y0y hy3.1 hs4.1;have hta6:∀ k ∈ ta5,k ∈ ta\/h.ep<=k.1:=fun k hk=>by
                 rcases hta5 k hk with h2 | h2
                 .exact (hta4 k h2).imp_right fun h3=>Y0y hep34 h3
                 .exact .inr (Y0y hep44 h2)
                have hs6:Same h h5 ta:=((hy3.mono (by simp)).trans hs4).trans' hs5 fun k hk=>(hta4 k hk).imp_right fun h3=>Y0y hep34 h3;have b105:h5.box p10=some [.d (.str O.name),d1,d2]:=by
                 rw[hs5.2 _ (Y04 (Y04 hp10.2 hs3.1) hs4.1) (fun h2=>by
                  rcases hta4 _ h2 with h3 | h3
                  .have:=hlt4 _ h3;omega
                  .have:=hs3.1;have:=hp10.2;omega)];exact b104
                simp[hn,h0,h10,b105];refine Z00 (Z69 _ l _ _ O.name s7.ows _ ?_);intro h6 ls6 ho6 hs7 hl7;simp[hn];refine hk _ _ ho6 ((hs6.mono fun k hk=>by simp[hk]).trans' hs7 fun k hk=>?_) fun k hk=>?_
                .simp only[Y08] at hk |-;rcases hk with rfl | hk
                 .exact .inl (.inl rfl)
                 .exact (Zdh (lx:=[]) hta6 k hk).imp_left .inr
                .rcases hl7 k hk with h2 | h2
                 .exact Zdh (lx:=[]) hta6 k h2
                 .exact .inr (Y0y hs6.1 h2)
end
section
open Go.Am
def Z2a (fk:Fk) (k0:Tbl):Option Bool:=
 (some (strEq fk.ref k0.name))
instance c_evolution_partitionTable_1 (fk:Fk) (k0:Tbl):Con (Z2a fk k0) prog 171 [.agg fk.enc,.one (.rp [.str k0.name,.sl (k0.cols.map Col.enc),.sl (k0.pk.map encI)])] (fun r=>.one (.d (.bool r))):=by
 unfold Z2a;exact go 9 Tryz.func171 rfl (by kernel_rfl) rfl rfl (by simp)
end
end Go.Proofs.YtbcejndfbklikaaGreatDoor
section
namespace Go.Proofs.YtbcejndfbklikaaGreatDoor
open Go Go.Am
end Go.Proofs.YtbcejndfbklikaaGreatDoor
namespace Go.Am
open Go Go.Proofs.YtbcejndfbklikaaGreatDoor
theorem MR.at {h:HS} {w:Nat} {c:C} {xs:List (List C)} (m:MR h w c xs) {k:Nat} {x:List C} (hk:xs[k]? = some x):∃ l cap B,c=.mrow l 0 xs.length cap/\h.box l=some B/\takeN w (B.drop (k * w))=some x:=by
 have hlt:=(Y00.1 hk).1;obtain⟨l,cap,sp,rfl,hb,_⟩:=m.block (by omega);exact⟨l,cap,_,rfl,hb,Zfn m.1 hk⟩
end Go.Am
namespace Go.Proofs.YtbcejndfbklikaaGreatDoor
open Go Go.Am
end Go.Proofs.YtbcejndfbklikaaGreatDoor
namespace Go.Am
open Go Go.Proofs.YtbcejndfbklikaaGreatDoor
theorem MR.uniq {h:HS} {w:Nat} {c:C} {xs ys:List (List C)} (m:MR h w c xs) (m':MR h w c ys):xs=ys:=by
 have e:xs.length=ys.length:=by
  have h1:=m.len;rw[m'.len] at h1;exact (Option.some.inj h1).symm
 refine Y2r fun k=>?_
 by_cases hk:k < xs.length
 .obtain⟨l,cap,B,rfl,hb,ht⟩:=m.at (Y01 hk);obtain⟨l',cap',B',e',hb',ht'⟩:=m'.at (Y01 (show k < ys.length by omega));simp at e';obtain⟨rfl,-,-⟩:=e';rw[hb] at hb';cases hb';rw[ht] at ht';rw[Y01 hk,Y01 (show k < ys.length by omega),Option.some.inj ht']
 .rw[Y1t (by omega),Y1t (by omega)]
end Go.Am
namespace Go.Proofs.YtbcejndfbklikaaGreatDoor
open Go Go.Am
def Old (h:HS) (c0:C) (xs:List (List C)) (n w:Nat):Prop:=∀ k,k < n->∃ l0 cap0 B0 x,c0=.mrow l0 0 n cap0/\l0.1 < h.ep/\h.box l0=some B0/\xs[k]? = some x/\takeN w (B0.drop (k * w))=some x
theorem Old.init {h:HS} {c:C} {xs:List (List C)} {w:Nat} (m:MR h w c xs) (hl:∀ k ∈ labs c,k.1 < h.ep):Old h c xs xs.length w:=fun k hk=>by
 obtain⟨l,cap,B,rfl,hb,ht⟩:=m.at (Y01 hk);exact⟨l,cap,B,xs[k],rfl,hl l (by simp[labs]),hb,Y01 hk,ht⟩
theorem Old.frame {h h':HS} {c0:C} {xs:List (List C)} {n w:Nat} (o:Old h c0 xs n w) (hs:Same h h' []):Old h' c0 xs n w:=fun k hk=>by
 obtain⟨l0,cap0,B0,x,h1,h2,h3,h4,h5⟩:=o k hk;exact⟨l0,cap0,B0,x,h1,Y04 h2 hs.1,by rw[hs.2 l0 h2 (by simp)];exact h3,h4,h5⟩
theorem Old.set {h:HS} {c0:C} {xs:List (List C)} {n w:Nat} {l:Lab} {cs:List C} (o:Old h c0 xs n w) (hl:∀ k ∈ labs c0,k≠l):Old (h.setBox l cs) c0 xs n w:=fun k hk=>by
 obtain⟨l0,cap0,B0,x,rfl,h2,h3,h4,h5⟩:=o k hk
 have:=hl l0 (by simp[labs])
 exact⟨l0,cap0,B0,x,rfl,by simpa using h2,by simpa[this] using h3,h4,h5⟩
theorem Old.step {h h':HS} {c0 c c':C} {xs:List (List C)} {x:List C} {n w:Nat} (o:Old h c0 xs n w) (m:MR h w c xs) (m':MR h' w c' (xs++[x])) (hs:(Same h h' (labs c)/\labs c'=labs c)\/(Same h h' []/\∀ k ∈ labs c',h.ep<=k.1/\k.1 < h'.ep)):Old h' c0 (xs++[x]) n w:=fun k hk=>by
 obtain⟨l0,cap0,B0,y,h1,h2,h3,h4,h5⟩:=o k hk;have hlt:=(Y00.1 h4).1;have hy:(xs++[x])[k]? = some y:=by rw[Y0j hlt];exact h4
 rcases hs with ⟨hs,hl⟩ | ⟨hs,_⟩
 .by_cases hm:l0 ∈ labs c
  .obtain⟨l',cap',B',rfl,hb',ht'⟩:=m'.at hy;rw[<- hl] at hm;simp[labs] at hm;subst hm;exact⟨l0,cap0,B',y,h1,Y04 h2 hs.1,hb',hy,ht'⟩
  .exact⟨l0,cap0,B0,y,h1,Y04 h2 hs.1,by rw[hs.2 l0 h2 hm];exact h3,hy,h5⟩
 .exact⟨l0,cap0,B0,y,h1,Y04 h2 hs.1,by rw[hs.2 l0 h2 (by simp)];exact h3,hy,h5⟩
def Zi8 (T:Tbl) (other:ByteArray) {ρ:Type} (_:Nat) (f:Fk) (S:Sch) (next:Sch->Option ρ):Option ρ:=bif strEq f.table T.name then chkK (S.fks.length < LIM) (next { S with fks:=S.fks++[⟨other,f.cols,f.ref⟩] }) else next S
def Zi7 (T:Tbl) (other:ByteArray) {ρ:Type} (_:Nat) (f:Cons) (S:Sch) (next:Sch->Option ρ):Option ρ:=bif strEq f.table T.name then chkK (S.cons.length < LIM) (next { S with cons:=S.cons++[{ f with table:=other }] }) else next S
def Z2m (S:Sch) (i:Nat) (step:Stp):Option (Sch × Int):=
 getK S.tables (i:Int) fun T=>bindK (Z03 T step.column) fun v=>bif !v.2 then some (S,4) else
 bindK (Z1p step.value step.op step.value) fun q=>bif q.2 != 0 then some (S,q.2) else
 bindK (Z0y step.value) fun e=>bif e != 0 then some (S,e) else
 getK T.cols v.1 fun c=>bif step.value.kind != c.kind then some (S,7) else
 bindK (Z02 S step.other) fun w=>bif w.2 then some (S,5) else
 bindK (Z04 S.fks fun fk=>Z2a fk T) fun b=>bif b then some (S,10) else
 forK (Zi8 T step.other) (fun S1=>forK (Zi7 T step.other) (fun S2=>bindK (Z16 S2 { T with name:=step.other }) fun S3=>some (S3,0)) S.cons 0 S1) S.fks 0 S
def PartI (h:HS) (l:Lab) (tc fc oc:C) (ta fa oa:List Lab) (S:Sch) (st tcells B:List C) (lt:Lab) (S1:Sch) (e:Env) (h1:HS):Prop:=∃ fc1 fa1 ad xs,e.n=149/\e.get 0=.one (.ptr l 0)/\e.get 5=.one (.ptr (h.ep,80) 0)/\e.get 7=.one (.ptr (h.ep+1,112) 0) /\
 S1.tables=S.tables/\S1.cons=S.cons/\S1.fks=S.fks++ad/\Sc h1 l S1 tc fc1 oc ta fa1 oa/\(∀ k ∈ fa1,k ∈ fa\/h.ep+1 < k.1)/\Same h h1 (l::(ta++(fa++oa)))/\h1.box (h.ep,80)=some st/\h1.box (h.ep+1,112)=some tcells/\h1.box lt=some B/\h.ep+1 < h1.ep/\MR h1 3 fc1 xs/\Old h1 fc xs S.fks.length 3
def PartJ (h:HS) (l:Lab) (tc fc1 oc:C) (ta fa fa1 oa:List Lab) (S:Sch) (st tcells B:List C) (lt:Lab) (S1:Sch) (e:Env) (h1:HS):Prop:=∃ oc1 oa1 ad xs,e.n=149/\e.get 0=.one (.ptr l 0)/\e.get 5=.one (.ptr (h.ep,80) 0)/\e.get 7=.one (.ptr (h.ep+1,112) 0) /\
 S1.tables=S.tables/\S1.cons=S.cons++ad/\Sc h1 l S1 tc fc1 oc1 ta fa1 oa1/\(∀ k ∈ oa1,k ∈ oa\/h.ep+1 < k.1)/\Same h h1 (l::(ta++(fa++oa)))/\h1.box (h.ep,80)=some st/\h1.box (h.ep+1,112)=some tcells/\h1.box lt=some B/\h.ep+1 < h1.ep/\MR h1 7 oc1 xs/\Old h1 oc xs S.cons.length 7
set_option maxHeartbeats 2000000 in
theorem Z7v (h:HS) (l:Lab) (tc fc oc x6 x12 x13 x22:C) (ta fa oa:List Lab) (S S':Sch) (i:Nat) (step:Stp) (r:Int) (hm:Is (Z2m S i step) (S',r)) (s:Sc h l S tc fc oc ta fa oa) (K:V->HS->Prop)
  (hk:KeepS h l (ta++(fa++oa)) S' (.one (.d (.int .i64 r))) K) :
  HSpec Tryz.prog 135 [.one (.ptr l 0),.one (.d (.int .i64 (i:Int))),.agg (stpC step x6 x12 x13 x22)] h K:=by
 replace hm:=hm.getN;obtain⟨T,hi,hm⟩:=hm;replace hm:=hm.bind;obtain⟨v,hv,hm⟩:=hm;have hlt:i < S.tables.length:=(Y00.1 hi).1;obtain⟨lt,c1,c2,B,tv⟩:=s.tbl hi;obtain⟨cap,rfl⟩:=tv.hd;have hb:=s.box;have bx:=tv.el.box;have r0:=tv.el.rd0 3 (by omega);simp at r0;have hne:=ne_new (s.lt l (by simp));have hnt:=ne_new (s.lt lt (by simp[tv.tm]));have hxf:∀ h',Same h h' []->FrzCs h' [C.d (D.str T.name),c1,c2] T.enc:=fun h' hs=>⟨.data rfl,tv.f1 h' hs,tv.f2 h' hs,trivial⟩;refine HSpec.of_vc Tryz.func135 rfl (by kernel_rfl) (n:=149) rfl rfl (by simp) ?_;have hnn:stpC step x6 x12 x13 x22≠[]:=by simp[stpC]
 have hs0:Same h (((h.setBox (h.ep,80) (stpC step x6 x12 x13 x22)).next.setBox (h.ep+1,112) [C.d (D.str ByteArray.empty),C.nil,C.nil]).next.setBox (h.ep+1,112) [C.d (D.str T.name),c1,c2]) []:=(((Same.refl.setBox (.inr (Y09 _))).next.setBox (.inr (by simp))).next.setBox (.inr (by simp)));have e3:takeN 1 ((stpC step x6 x12 x13 x22).drop 3)=some [.d (.str step.column)]:=by simp[stpC]
 simp[hb,hlt,bx,r0,hne,hnt,hnn,e3];generalize hX:(((h.setBox (h.ep,80) (stpC step x6 x12 x13 x22)).next.setBox (h.ep+1,112) _).next.setBox (h.ep+1,112) _)=HX at *;have bx5:HX.box (h.ep,80)=some (stpC step x6 x12 x13 x22):=by rw[<- hX];simp
 have bx7:HX.box (h.ep+1,112)=some [C.d (D.str T.name),c1,c2]:=by rw[<- hX];simp
 have hep:h.ep+1 < HX.ep:=by rw[<- hX];simp
 refine Z00 (HSpec.of_lend (c_schema_FindColumn T step.column v hv) ⟨.agg (hxf _ hs0),.one (.frz (.data rfl)),trivial⟩ rfl ?_);have e78:takeN 1 ((stpC step x6 x12 x13 x22).drop 7)=some [.d (.str step.op)]:=by simp[stpC]
 have e8:takeN 3 ((stpC step x6 x12 x13 x22).drop 8)=some [.d (.int .i64 step.value.kind),.d (.int .i64 step.value.int),.d (.str step.value.text)]:=by simp[stpC]
 have e81:takeN 1 ((stpC step x6 x12 x13 x22).drop 8)=some [.d (.int .i64 step.value.kind)]:=by simp[stpC]
 have e2':takeN 1 ((stpC step x6 x12 x13 x22).drop 2)=some [.d (.str step.other)]:=by simp[stpC]
 have hs1:=hs0.next;simp;cases hv2:v.2 with
 | false=>
   rw[hv2] at hm;have e1:=r_ret hm;simp only[Y07] at e1;obtain⟨rfl,rfl⟩:=e1;simp;exact hk _ _ (s.frame hs1).ows (hs1.mono (by simp)) (fun k hk=>.inl hk)
 | true=>
   simp only[hv2,Y1v,cond_false] at hm;replace hm:=hm.bind;obtain⟨q,hq,hm⟩:=hm;simp[bx5,e78,e8];refine Z00 (HSpec.of_lend (c_value_Satisfies step.value step.op step.value q hq) ⟨.agg (FrzCs.datas (ds:=step.value.enc)),.one (.frz (.data rfl)),.agg (FrzCs.datas (ds:=step.value.enc)),trivial⟩ rfl ?_);have hs2:=hs1.next;simp;cases hq2:q.2 != 0 with
   | true=>
     simp only[hq2,cond_true] at hm;have e1:=r_ret hm;simp only[Y07] at e1;obtain⟨rfl,rfl⟩:=e1;simp[hq2];exact hk _ _ (s.frame hs2).ows (hs2.mono (by simp)) (fun k hk=>.inl hk)
   | false=>
     simp only[hq2,cond_false] at hm;replace hm:=hm.bind;obtain⟨u,hu,hm⟩:=hm;simp[hq2,bx5,e8];refine Z00 (HSpec.of_lend (c_value_Validate step.value u hu) ⟨.agg (FrzCs.datas (ds:=step.value.enc)),trivial⟩ rfl ?_);have hs3:=hs2.next;simp;cases hu2:u != 0 with
     | true=>
       simp only[hu2,cond_true] at hm;have e1:=r_ret hm;simp only[Y07] at e1;obtain⟨rfl,rfl⟩:=e1;simp[hu2];exact hk _ _ (s.frame hs3).ows (hs3.mono (by simp)) (fun k hk=>.inl hk)
     | false=>
       simp only[hu2,cond_false] at hm;replace hm:=hm.get;obtain⟨c,hc0,hc,hm⟩:=hm;obtain⟨n,hn1⟩:∃ n:Nat,v.1=n:=⟨v.1.toNat,by omega⟩;have hnl:n < T.cols.length:=by
        have:=(Y00.1 hc).1
        omega
       have s3:=s.frame hs3;have bxl3:HX.next.next.next.box lt=some B:=by rw[hs3.2 lt (s.lt lt (by simp[tv.tm])) (by simp)];exact bx
       obtain⟨c1',c2',tv3⟩:=s3.tblK bxl3 hi;have r1:=tv.el.rd 1 1 (by omega);simp at r1;obtain rfl:c1'=c1:=by
        have:=tv3.el.rd 1 1 (by omega)
        simp[r1] at this;exact this.symm
       obtain⟨l2,cap2,B2,rfl,el2,-⟩:=tv3.e1 _ c hc;have bx2:=el2.box;have q1:=el2.rd 1 1 (by omega);rw[hn1] at q1;simp at q1 bx2;simp[hu2,hn1];refine Wait.cut (Plan.then_ [0,1,2,3,4,5,6,7,8,9] .done) follows (by kernel_rfl) (fun e h'=>e.n=149/\e.get 0=.one (.ptr l 0)/\e.get 5=.one (.ptr (h.ep,80) 0)/\e.get 7=.one (.ptr (h.ep+1,112) 0)/\e.get 64=.one (.d (.bool (step.value.kind != c.kind)))/\h'=HX.next.next.next) ?_ ?_
       .simp[bx5,bx7,e81,bx2,q1,hnl];exact CutK.of (by simp)
       .rintro e h4 ⟨hn,h0,h5,h7,h64,rfl⟩;simp[hn,h64];cases hck:step.value.kind != c.kind with
        | true=>
          simp only[hck,cond_true] at hm;have e1:=r_ret hm;simp only[Y07] at e1;obtain⟨rfl,rfl⟩:=e1;simp[hn];exact hk _ _ s3.ows (hs3.mono (by simp)) (fun k hk=>.inl hk)
        | false=>
          simp only[hck,cond_false] at hm;replace hm:=hm.bind;obtain⟨w,hw,hm⟩:=hm;have hb3:=s3.box;simp[hn];refine Wait.cut (Plan.then_ [0,1,2,3,4,5,6,7,8,9,10] .done) follows (by kernel_rfl) (fun e h'=>e.n=149/\e.get 0=.one (.ptr l 0)/\e.get 5=.one (.ptr (h.ep,80) 0)/\e.get 7=.one (.ptr (h.ep+1,112) 0)/\e.get 14=.one (.d (.bool w.2))/\Same HX h' []) ?_ ?_
          .simp at hb3;simp[hn,h0,h5,hb3,bx5,e2'];refine Z00 (HSpec.of_lend (c_schema_FindTable S step.other w hw) ⟨.agg s3.frz,.one (.frz (.data rfl)),trivial⟩ rfl ?_);simp[hn];exact⟨fun _ _ x=>x,CutK.of ⟨by simp[hn],by simp[h0],by simp[h5],by simp[h7],by simp,Same.refl.next.next.next.next⟩⟩
          .rintro e h5' ⟨hn,h0,h5,h7,h14,hs4⟩;have hy4:=hs0.trans hs4;have s4:=s.frame hy4;have hb4:=s4.box;have bx54:h5'.box (h.ep,80)=some (stpC step x6 x12 x13 x22):=by rw[hs4.2 _ (by simp<;>omega) (by simp)];exact bx5
           have bx74:h5'.box (h.ep+1,112)=some [C.d (D.str T.name),.mrow l2 0 T.cols.length cap2,c2]:=by rw[hs4.2 _ (by simp<;>omega) (by simp)];exact bx7
           simp[hn,h14];cases hw2:w.2 with
           | true=>
             simp only[hw2,cond_true] at hm;have e1:=r_ret hm;simp only[Y07] at e1;obtain⟨rfl,rfl⟩:=e1;simp[hn];exact hk _ _ s4.ows (hy4.mono (by simp)) (fun k hk=>.inl hk)
           | false=>
             simp only[hw2,cond_false] at hm;replace hm:=hm.bind;obtain⟨b,hbv,hm⟩:=hm;simp[hn,h0,h7,hb4];refine Z00 (HSpec.of_lend (Z2k S.fks 171 [T.enc] (fun fk=>Z2a fk T) (fun xa v hv=>c_evolution_partitionTable_1 xa T v hv) b hbv) ⟨.one (.frz s4.ffrz),.one (.fn rfl ?_),trivial⟩ rfl ?_)
             .intro j cp ds hj hd;cases j with
              | zero=>
                simp at hj hd;subst hj hd;exact⟨_,bx74,hxf _ hy4⟩
              | succ j=>simp at hj
             .simp[hn];have hs5:=hs4.next;have hy5:=hy4.next;have s5:=s.frame hy5;cases b with
              | true=>
                have e1:=r_ret hm;simp only[Y07] at e1;obtain⟨rfl,rfl⟩:=e1;simp[hn];exact hk _ _ s5.ows (hy5.mono (by simp)) (fun k hk=>.inl hk)
              | false=>
                simp only[cond_false] at hm;have hb5:=s5.box;simp at hb5;simp[hn,h0,hb5];refine Z1n s5.len.2.1.1 ?_;simp[hn];have bx55:h5'.next.box (h.ep,80)=some (stpC step x6 x12 x13 x22):=bx54;have bx75:h5'.next.box (h.ep+1,112)=some [C.d (D.str T.name),.mrow l2 0 T.cols.length cap2,c2]:=bx74;have bxl5:h5'.next.box lt=some B:=by rw[hy5.2 lt (s.lt lt (by simp[tv.tm])) (by simp)];exact bx
                have hep5:h.ep+1 < h5'.next.ep:=Y04 hep hs5.1;obtain⟨ys5,my5,hl5,-⟩:=s5.addF;refine Wait.for (xs:=S.fks) (s0:=S) (fun k S1 e h1=>e.get 84=.one fc/\e.get 85=.one (.d (.int .i64 (S.fks.length:Int)))/\e.get 86=.one (.d (.int .i64 (k:Int)))/\PartI h l (.mrow lt 0 S.tables.length cap) fc oc ta fa oa S (stpC step x6 x12 x13 x22) [C.d (D.str T.name),.mrow l2 0 T.cols.length cap2,c2] B lt S1 e h1) hm
                 ⟨by simp,by simp,by simp,fc,fa,[],ys5,by simp[hn],by simp[h0],by simp[h5],by simp[h7],rfl,rfl,by simp,s5,fun k hk=>.inl hk,hy5.mono (by simp),bx55,bx75,bxl5,hep5,my5,hl5 ▸ Old.init my5 (fun k hk=>s5.lt k (by simp[s.hlabs.2.1 k hk]))⟩ ?_ ?_
                .rintro k S1 e h1 ⟨h84,h85,h86,fc1,fa1,ad,xs,hn,h0,h5,h7,ht1,hc1,hf1,s1,hfa1,hs1',bx51,bx71,bxl1,hep1,mx,ox⟩ hltk hm;have hw:IntKind.i64.wrap ((k:Int)+1)=(k:Int)+1:=Y0a _ (by have:=s5.len.2.1.2;simp at this;omega);obtain⟨l0,cap0,B0,x,rfl,hl0,hb0,hx,hr0⟩:=ox k hltk;have hfk:S1.fks[k]? = some S.fks[k]:=by rw[hf1,Y0j hltk,Y01 hltk]
                 obtain⟨lf,cf,Bf,c1f,rfl,hlf,el,fz,cl,-,-⟩:=s1.fk hfk;obtain rfl:x=[.d (.str S.fks[k].table),c1f,.d (.str S.fks[k].ref)]:=by
                  obtain⟨lf',cf',Bf',e2,hb2,ht2⟩:=mx.at hx;simp at e2;obtain⟨rfl,-,-⟩:=e2;have e3:=el.box;rw[hb2] at e3;cases e3;have e4:=el.rd0 3 (by omega);rw[ht2] at e4;simpa using e4
                 have hz:Same h1 ((h1.setBox (h1.ep,256) [C.d (D.str ByteArray.empty),C.nil,C.d (D.str ByteArray.empty)]).next.setBox (h1.ep,256) [.d (.str S.fks[k].table),c1f,.d (.str S.fks[k].ref)]) []:=((Same.refl.setBox (.inr (Y09 _))).next).setBox (.inr (Y09 _));have hn5:=ne_new (l:=(h.ep,80)) (n:=h1.ep) (by simp<;>omega);have hn7:=ne_new (l:=(h.ep+1,112)) (n:=h1.ep) (by simpa using hep1);have hnl1:=ne_new (s1.lt l (by simp));have hnt1:=ne_new (s1.lt lt (by simp[tv.tm]));simp only[Zi8] at hm;simp[hn,h0,h5,h7,h84,h85,h86,hltk,hb0,hr0,bx71,hn7];generalize hX2:(h1.setBox (h1.ep,256) [C.d (D.str ByteArray.empty),C.nil,C.d (D.str ByteArray.empty)]).next.setBox (h1.ep,256) [.d (.str S.fks[k].table),c1f,.d (.str S.fks[k].ref)]=HZ at hz;have bz16:HZ.box (h1.ep,256)=some [.d (.str S.fks[k].table),c1f,.d (.str S.fks[k].ref)]:=by rw[<- hX2];simp
                 have hepz:h1.ep < HZ.ep:=by rw[<- hX2];simp
                 have sz:=s1.frame hz;have bz5:HZ.box (h.ep,80)=some (stpC step x6 x12 x13 x22):=by rw[hz.2 _ (by simp<;>omega) (by simp)];exact bx51
                 have bz7:HZ.box (h.ep+1,112)=some [C.d (D.str T.name),.mrow l2 0 T.cols.length cap2,c2]:=by rw[hz.2 _ (by simpa using hep1) (by simp)];exact bx71
                 have bzl:HZ.box lt=some B:=by rw[hz.2 _ (s1.lt lt (by simp[tv.tm])) (by simp)];exact bxl1
                 have mz:MR HZ 3 (.mrow lf 0 S1.fks.length cf) xs:=mx.frame fun k hk=>hz.2 k (s1.lt k (by simp[s1.hlabs.2.1 k hk])) (by simp);have oz:=ox.frame hz;cases hbt:strEq S.fks[k].table T.name with
                 | false=>
                   simp only[hbt,cond_false] at hm;simp[hbt,hn,h86,hw];rw[hX2];exact BackF.of S1 ⟨⟨by simp[h84],by simp[h85],by simp,_,fa1,ad,xs,by simp[hn],by simp[h0],by simp[h5],by simp[h7],ht1,hc1,hf1,sz,hfa1,hs1'.trans (hz.mono (by simp)),bz5,bz7,bzl,by omega,mz,oz⟩,hm⟩
                 | true=>
                   simp only[hbt,cond_true] at hm;replace hm:=hm.chk;obtain⟨hlim,hm⟩:=hm;simp[hbt,hn];rw[hX2];have hbz:=sz.box;refine Wait.cut (Plan.then_ [0,1,2,3,4,5,6,7,8,10,11,9,12,13,14,15,16,17] .done) follows (by kernel_rfl) (fun e h2=>e.get 84=.one (.mrow l0 0 S.fks.length cap0)/\e.get 85=.one (.d (.int .i64 (S.fks.length:Int)))/\e.get 86=.one (.d (.int .i64 (k:Int)))/\PartI h l (.mrow lt 0 S.tables.length cap) (.mrow l0 0 S.fks.length cap0) oc ta fa oa S (stpC step x6 x12 x13 x22) [C.d (D.str T.name),.mrow l2 0 T.cols.length cap2,c2] B lt { S1 with fks:=S1.fks++[⟨step.other,S.fks[k].cols,S.fks[k].ref⟩] } e h2) ?_ ?_
                   .simp[hn,h0,h5,hbz,bz5,bz16,e2'];refine Z00 (Z3c _ c1f (S.fks[k].cols.map fun c=>(encI c).map C.d) (by rw[Z5i];exact (fz HZ hz).rowAt (n:=1) (by simp[D.flat]) (by simpa using cl.2)) _ (fun pc h2 mp hs2 hlp hbox=>?_));simp[hn];refine⟨hbox,?_⟩;have hoF:Ow h2 FkSh [.d (.str step.other),pc,.d (.str S.fks[k].ref)] (⟨step.other,S.fks[k].cols,S.fks[k].ref⟩:Fk).enc (labs pc):=by
                     refine .data rfl ?_
                     have:=Ow.rowD (es:=[.d]) (n:=1) (ts:=S.fks[k].cols.map encI) (by rw[<- Z5i];exact mp) rfl (by simp) (Ow.data (c:=.d (.str S.fks[k].ref)) (x:=.str S.fks[k].ref) rfl .nil)
                     simpa using this
                    have hepz2:=hs2.1;have fin:∀ (h3:HS) (x':List C) (lx:List Lab),Same h2 h3 []->(∀ h',(∀ k ∈ labs pc,h'.box k=h2.box k)->Ow h' FkSh x' (⟨step.other,S.fks[k].cols,S.fks[k].ref⟩:Fk).enc lx)->(∀ k ∈ lx,k ∈ labs pc)->lx.Nodup->∀ (c':C) (h':HS),MR h' 3 c' (xs++[x']) ->
                      ((Same h3 h' (labs (.mrow lf 0 S1.fks.length cf))/\labs c'=labs (.mrow lf 0 S1.fks.length cf))\/(Same h3 h' []/\∀ k ∈ labs c',h3.ep<=k.1/\k.1 < h'.ep)) ->
                      h'.box l=some [.mrow lt 0 S.tables.length cap,.mrow lf 0 S1.fks.length cf,oc]/\∃ fa',Sc (h'.setBox l [.mrow lt 0 S.tables.length cap,c',oc]) l { S1 with fks:=S1.fks++[⟨step.other,S.fks[k].cols,S.fks[k].ref⟩] } (.mrow lt 0 S.tables.length cap) c' oc ta fa' oa/\(∀ k ∈ fa',k ∈ fa\/h.ep+1 < k.1) /\
                       Same h (h'.setBox l [.mrow lt 0 S.tables.length cap,c',oc]) (l::(ta++(fa++oa)))/\(h'.setBox l [.mrow lt 0 S.tables.length cap,c',oc]).box (h.ep,80)=some (stpC step x6 x12 x13 x22)/\(h'.setBox l [.mrow lt 0 S.tables.length cap,c',oc]).box (h.ep+1,112)=some [C.d (D.str T.name),.mrow l2 0 T.cols.length cap2,c2]/\(h'.setBox l [.mrow lt 0 S.tables.length cap,c',oc]).box lt=some B /\
                       h.ep+1 < (h'.setBox l [.mrow lt 0 S.tables.length cap,c',oc]).ep/\MR (h'.setBox l [.mrow lt 0 S.tables.length cap,c',oc]) 3 c' (xs++[x'])/\Old (h'.setBox l [.mrow lt 0 S.tables.length cap,c',oc]) (.mrow l0 0 S.fks.length cap0) (xs++[x']) S.fks.length 3:=by
                     intro h3 x' lx hs3 hox hlx hnd c' h' hm' hd;have hz3:Same HZ h3 []:=hs2.trans hs3;have s3:=sz.frame hz3;obtain⟨ys,my,-,add⟩:=s3.addF;have m3:MR h3 3 (.mrow lf 0 S1.fks.length cf) xs:=mz.frame fun k hk=>hz3.2 k (sz.lt k (by simp[sz.hlabs.2.1 k hk])) (by simp);obtain rfl:=my.uniq m3;have hd1:Same h3 h' (labs (.mrow lf 0 S1.fks.length cf)):=hd.elim (fun h=>h.1) fun h=>h.1.mono (by simp);have hd2:∀ k ∈ labs c',k ∈ labs (.mrow lf 0 S1.fks.length cf)\/(h3.ep<=k.1/\k.1 < h'.ep):=fun k hk=>hd.elim (fun h=>.inl (h.2 ▸ hk)) fun h=>.inr (h.2 k hk);have hlf':∀ k ∈ labs (.mrow lf 0 S1.fks.length cf),k=lf:=fun k hk=>by simpa[labs] using hk
                     have hlfl:=s1.lt lf (by simp[hlf]);have hep3:=hs3.1;have hep3':=hd1.1;have hpc:∀ k ∈ labs pc,h'.box k=h2.box k:=fun k hk=>by
                      have h1':=hlp k hk;rw[hd1.2 k (by omega) fun h2'=>by have:=hlf' k h2';subst this;omega];exact hs3.2 k h1'.2 (by simp)
                     have hkeep:∀ k:Lab,k.1 < HZ.ep->k≠lf->k≠l->(h'.setBox l [.mrow lt 0 S.tables.length cap,c',oc]).box k=HZ.box k:=fun k h1' h2' h3'=>by
                      simp only[Zbk,h3',if_false];rw[hd1.2 k (by omega) fun h4'=>h2' (hlf' k h4'),hz3.2 k h1' (by simp)]
                     obtain⟨fa',s6,hfa'⟩:=add h' c' x' _ lx hm' hd1 hd2 (hox h' hpc) hnd (fun k hk=>by
                      have h1':=hlp k (hlx k hk);refine⟨by omega,fun h2'=>by have:=sz.lt k h2';omega,fun h2'=>?_⟩;rcases hd2 k h2' with h3' | h3'
                      .have:=hlf' k h3';subst this;omega
                      .omega) _ rfl
                     have hnl:∀ k ∈ labs c',k≠l:=fun k hk he=>by
                      rcases hd2 k hk with h1' | h1'
                      .have:=hlf' k h1';subst this;subst he;exact s1.nl.2.1 hlf
                      .have:=s1.lt l (by simp);rw[<- he] at this;omega
                     have hne5:∀ b,((h.ep,b):Lab)≠lf/\((h.ep,b):Lab)≠l:=fun b=>⟨fun he=>by
                      rcases hfa1 lf hlf with h1' | h1'
                      .have:=s.lt lf (by simp[h1']);rw[<- he] at this;simp at this
                      .rw[<- he] at h1';have h1'':h.ep+1 < h.ep:=h1';omega,fun he=>by have:=s.lt l (by simp);rw[<- he] at this;simp at this⟩
                     have hne7:∀ b,((h.ep+1,b):Lab)≠lf/\((h.ep+1,b):Lab)≠l:=fun b=>⟨fun he=>by
                      rcases hfa1 lf hlf with h1' | h1'
                      .have:=s.lt lf (by simp[h1']);rw[<- he] at this;simp at this;omega
                      .rw[<- he] at h1';simp at h1',fun he=>by have:=s.lt l (by simp);rw[<- he] at this;simp at this;omega⟩
                     refine⟨s3.keep hd1 fun k hk=>.inr (.inl (s3.hlabs.2.1 k hk)),fa',s6,fun k hk=>?_,?_,?_,?_,?_,by simp<;>omega,hm'.frame fun k hk=>by simp[hnl k hk],(((oz.frame hz3).step m3 hm' hd).set fun k hk he=>?_)⟩
                     .rcases hfa' k hk with h1' | h1' | h1'
                      .exact hfa1 k h1'
                      .have:=hlp k (hlx k h1');exact .inr (by omega)
                      .exact .inr (by omega)
                     .refine Same.setBox ((hs1'.trans ((hz.trans hz3).mono (by simp))).trans' hd1 fun k hk=>?_) (.inl (by simp))
                      have:=hlf' k hk
                      subst this;exact (hfa1 k hlf).imp (fun h1'=>by simp[h1']) fun h1'=>by omega
                     .rw[hkeep _ (by simp<;>omega) (hne5 80).1 (hne5 80).2];exact bz5
                     .rw[hkeep _ (by simp<;>omega) (hne7 112).1 (hne7 112).2];exact bz7
                     .refine (hkeep lt (by have:=s1.lt lt (by simp[tv.tm]);omega) (fun he=>?_) fun he=>s.nl.1 (he ▸ tv.tm)).trans bzl;have h6:=s1.nd;simp only[Y1z,Y0e,Y02] at h6;exact h6.2.2.2 lt tv.tm lf (.inl hlf) he
                     .simp[labs] at hk;subst hk;subst he;exact s.nl.2.1 (s.hlabs.2.1 _ (by simp[labs]))
                    have hxl:xs.length=S1.fks.length:=by
                     have h1':=mx.len;simp[cLen] at h1';exact h1'.symm
                    have hlim':xs.length+1<=LIM:=by rw[hxl];exact hlim
                    refine bld_ow (x:=[.d (.str step.other),pc,.d (.str S.fks[k].ref)]) (by simp[toDs];cases pc.toD<;>rfl) (by simp) (fun d hd2=>?_) (fun hd2=>?_)
                    .obtain⟨rfl,hT2⟩:=hoF.ofD hd2;have hs3:Same h2 ((h2.setArr (h2.ep,16 * 108) (some (1,3))).next) []:=Same.refl.setArr.next;simp[hn];refine Zim (by simp;exact⟨rfl,rfl⟩) (by simp) (by simp) (by simp) (mz.frame fun k hk=>(hs2.trans hs3).2 k (sz.lt k (by simp[sz.hlabs.2.1 k hk])) (by simp)) (RowAt.own1 (by simp)) (by simpa using hlim') (fun c' h' hm' hd=>?_);obtain⟨hbl,fa',s6,t1,t2,t3,t4,t5,t6,t7,t8⟩:=fin _ _ [] hs3 (fun h' _=>hT2 h') (by simp) Y2k c' h' hm' hd;simp[hn,h0,hbl];exact CutK.of ⟨by simp[h84],by simp[h85],by simp[h86],c',fa',_,_,by simp[hn],by simp[h0],by simp[h5],by simp[h7],ht1,hc1,by simp[hf1];rfl,s6,t1,t2,t3,t4,t5,t6,t7,t8⟩
                    .have hs3:Same h2 ((h2.setBox (h2.ep,16 * 108) [.d (.str step.other),pc,.d (.str S.fks[k].ref)]).next) []:=(Same.refl.setBox (.inr (Y09 _))).next;simp[hn];refine Zim (by simp;exact⟨rfl,rfl⟩) (by simp) (by simp) (by simp) (mz.frame fun k hk=>(hs2.trans hs3).2 k (sz.lt k (by simp[sz.hlabs.2.1 k hk])) (by simp)) (RowAt.new1 (x:=[.d (.str step.other),pc,.d (.str S.fks[k].ref)]) (by simp) (by simp)) (by simpa using hlim') (fun c' h' hm' hd=>?_);obtain⟨hbl,fa',s6,t1,t2,t3,t4,t5,t6,t7,t8⟩:=fin _ _ (labs pc) hs3 (fun h' hb'=>hoF.frame hb') (fun _ h=>h) Z1t c' h' hm' hd;simp[hn,h0,hbl];exact CutK.of ⟨by simp[h84],by simp[h85],by simp[h86],c',fa',_,_,by simp[hn],by simp[h0],by simp[h5],by simp[h7],ht1,hc1,by simp[hf1];rfl,s6,t1,t2,t3,t4,t5,t6,t7,t8⟩
                   .rintro e h2 ⟨h84,h85,h86,hp⟩;have hn:=hp;obtain⟨_,_,_,_,hn,h0,h5,h7,-⟩:=hn;simp[hn,h86,hw];obtain⟨fc2,fa2,ad2,xs2,-,-,-,-,q⟩:=hp;exact BackF.of _ ⟨⟨by simp[h84],by simp[h85],by simp,fc2,fa2,ad2,xs2,by simp[hn],by simp[h0],by simp[h5],by simp[h7],q⟩,hm⟩
                .rintro S1 e h1 ⟨h84,h85,h86,fc1,fa1,ad,xs,hn,h0,h5,h7,ht1,hc1,hf1,s1,hfa1,hs1',bx51,bx71,bxl1,hep1,mx,ox⟩ hm;have hb1:=s1.box;simp[hn,h0,h85,h86,hb1];refine Z1n s1.len.2.2.1 ?_;rw[hc1];simp[hn];obtain⟨yo,myo,hlo,-⟩:=s1.addO;rw[hc1] at hlo;refine Wait.for (xs:=S.cons) (s0:=S1) (fun k S2 e h2=>e.get 116=.one oc/\e.get 117=.one (.d (.int .i64 (S.cons.length:Int)))/\e.get 118=.one (.d (.int .i64 (k:Int)))/\PartJ h l (.mrow lt 0 S.tables.length cap) fc1 oc ta fa fa1 oa S (stpC step x6 x12 x13 x22) [C.d (D.str T.name),.mrow l2 0 T.cols.length cap2,c2] B lt S2 e h2) hm
                  ⟨by simp,by simp,by simp,oc,oa,[],yo,by simp[hn],by simp[h0],by simp[h5],by simp[h7],ht1,by simp[hc1],s1,fun k hk=>.inl hk,hs1',bx51,bx71,bxl1,hep1,myo,hlo ▸ Old.init myo (fun k hk=>s1.lt k (by simp[s.hlabs.2.2 k hk]))⟩ ?_ ?_
                 .rintro k S2 e h2 ⟨h116,h117,h118,oc1,oa1,ad,xs,hn,h0,h5,h7,ht2,hc2,s2,hoa1,hs2',bx52,bx72,bxl2,hep2,mx,ox⟩ hltk hm;have hw:IntKind.i64.wrap ((k:Int)+1)=(k:Int)+1:=Y0a _ (by have:=s5.len.2.2.2;simp at this;omega);obtain⟨l0,cap0,B0,x,rfl,hl0,hb0,hx,hr0⟩:=ox k hltk;have hck:S2.cons[k]? = some S.cons[k]:=by rw[hc2,Y0j hltk,Y01 hltk]
                  obtain⟨lf,cf,Bf,rfl,hlf,el,-⟩:=s2.con hck;obtain rfl:x=S.cons[k].enc.map C.d:=by
                   obtain⟨lf',cf',Bf',e2,hb2,ht2⟩:=mx.at hx;simp at e2;obtain⟨rfl,-,-⟩:=e2;have e3:=el.box;rw[hb2] at e3;cases e3;have e4:=el.rd0 7 (by omega);rw[ht2] at e4;simpa using e4
                  simp only[Cons.enc,Y0d,Y0g] at hr0;have hn5:=ne_new (l:=(h.ep,80)) (n:=h2.ep) (by simp<;>omega);have hn7:=ne_new (l:=(h.ep+1,112)) (n:=h2.ep) (by simpa using hep2);simp only[Zi7] at hm;simp[hn,h0,h5,h7,h116,h117,h118,hltk,hb0,hr0,bx72,hn7];cases hbt:strEq S.cons[k].table T.name with
                  | false=>
                    simp only[hbt,cond_false] at hm;have hz:Same h2 ((h2.setBox (h2.ep,288) [C.d (D.str ByteArray.empty),C.d (D.int IntKind.i64 0),C.d (D.str ByteArray.empty),C.d (D.int IntKind.i64 0),C.d (D.int IntKind.i64 0),C.d (D.int IntKind.i64 0),C.d (D.str ByteArray.empty)]).next.setBox (h2.ep,288) (S.cons[k].enc.map C.d)) []:=((Same.refl.setBox (.inr (Y09 _))).next).setBox (.inr (Y09 _));have sz:=s2.frame hz;have oz:=ox.frame hz;have mz:=mx.frame (h':=(h2.setBox (h2.ep,288) [C.d (D.str ByteArray.empty),C.d (D.int IntKind.i64 0),C.d (D.str ByteArray.empty),C.d (D.int IntKind.i64 0),C.d (D.int IntKind.i64 0),C.d (D.int IntKind.i64 0),C.d (D.str ByteArray.empty)]).next.setBox (h2.ep,288) (S.cons[k].enc.map C.d)) fun k hk=>hz.2 k (s2.lt k (by simp[s2.hlabs.2.2 k hk])) (by simp);have bz5:=(hz.2 (h.ep,80) (by simp<;>omega) (by simp)).trans bx52;have bz7:=(hz.2 (h.ep+1,112) (by simpa using hep2) (by simp)).trans bx72;have bzl:=(hz.2 lt (s2.lt lt (by simp[tv.tm])) (by simp)).trans bxl2;have hez:=hz.1;simp only[Cons.enc,Y0d,Y0g] at hz sz oz mz bz5 bz7 bzl hez;simp[hbt,hn,h118,hw];exact BackF.of S2 ⟨⟨by simp[h116],by simp[h117],by simp,_,oa1,ad,xs,by simp[hn],by simp[h0],by simp[h5],by simp[h7],ht2,hc2,sz,hoa1,hs2'.trans (hz.mono (by simp)),bz5,bz7,bzl,by omega,mz,oz⟩,hm⟩
                  | true=>
                    simp only[hbt,cond_true] at hm;replace hm:=hm.chk;obtain⟨hlim,hm⟩:=hm;simp (maxDischargeDepth:=12) [hbt,hn,h5,hn5,bx52,e2',le_s];have hz:Same h2 (((h2.setBox (h2.ep,288) [C.d (D.str ByteArray.empty),C.d (D.int IntKind.i64 0),C.d (D.str ByteArray.empty),C.d (D.int IntKind.i64 0),C.d (D.int IntKind.i64 0),C.d (D.int IntKind.i64 0),C.d (D.str ByteArray.empty)]).next.setBox (h2.ep,288) [C.d (D.str S.cons[k].table),C.d (D.int IntKind.i64 S.cons[k].left),C.d (D.str S.cons[k].op),C.d (D.int IntKind.i64 S.cons[k].right),C.d (D.int IntKind.i64 S.cons[k].value.kind),C.d (D.int IntKind.i64 S.cons[k].value.int),C.d (D.str S.cons[k].value.text)]).setBox (h2.ep,288) [C.d (D.str step.other),C.d (D.int IntKind.i64 S.cons[k].left),C.d (D.str S.cons[k].op),C.d (D.int IntKind.i64 S.cons[k].right),C.d (D.int IntKind.i64 S.cons[k].value.kind),C.d (D.int IntKind.i64 S.cons[k].value.int),C.d (D.str S.cons[k].value.text)]) []:=(((Same.refl.setBox (.inr (Y09 _))).next).setBox (.inr (Y09 _))).setBox (.inr (Y09 _));generalize hX3:(((h2.setBox (h2.ep,288) [C.d (D.str ByteArray.empty),C.d (D.int IntKind.i64 0),C.d (D.str ByteArray.empty),C.d (D.int IntKind.i64 0),C.d (D.int IntKind.i64 0),C.d (D.int IntKind.i64 0),C.d (D.str ByteArray.empty)]).next.setBox (h2.ep,288) [C.d (D.str S.cons[k].table),C.d (D.int IntKind.i64 S.cons[k].left),C.d (D.str S.cons[k].op),C.d (D.int IntKind.i64 S.cons[k].right),C.d (D.int IntKind.i64 S.cons[k].value.kind),C.d (D.int IntKind.i64 S.cons[k].value.int),C.d (D.str S.cons[k].value.text)]).setBox (h2.ep,288) [C.d (D.str step.other),C.d (D.int IntKind.i64 S.cons[k].left),C.d (D.str S.cons[k].op),C.d (D.int IntKind.i64 S.cons[k].right),C.d (D.int IntKind.i64 S.cons[k].value.kind),C.d (D.int IntKind.i64 S.cons[k].value.int),C.d (D.str S.cons[k].value.text)])=HZ at hz |-;have bz18:HZ.box (h2.ep,288)=some [C.d (D.str step.other),C.d (D.int IntKind.i64 S.cons[k].left),C.d (D.str S.cons[k].op),C.d (D.int IntKind.i64 S.cons[k].right),C.d (D.int IntKind.i64 S.cons[k].value.kind),C.d (D.int IntKind.i64 S.cons[k].value.int),C.d (D.str S.cons[k].value.text)]:=by rw[<- hX3];simp
                    have sz:=s2.frame hz;have hbz:=sz.box;refine Wait.cut (Plan.then_ [0,1,2,3,4,5,6,7,8,9,10] .done) follows (by kernel_rfl) (fun e h3=>e.get 116=.one (.mrow l0 0 S.cons.length cap0)/\e.get 117=.one (.d (.int .i64 (S.cons.length:Int)))/\e.get 118=.one (.d (.int .i64 (k:Int)))/\PartJ h l (.mrow lt 0 S.tables.length cap) fc1 (.mrow l0 0 S.cons.length cap0) ta fa fa1 oa S (stpC step x6 x12 x13 x22) [C.d (D.str T.name),.mrow l2 0 T.cols.length cap2,c2] B lt { S2 with cons:=S2.cons++[{ S.cons[k] with table:=step.other }] } e h3) ?_ ?_
                    .simp[hn,h0,hbz,bz18];have hs3:Same HZ ((HZ.setArr (HZ.ep,16 * 136) (some (1,7))).next) []:=Same.refl.setArr.next;simp only[Nat.reduceMul] at hs3;have hz3:=hz.trans hs3;have s3:=s2.frame hz3;obtain⟨ys,my,hly,add⟩:=s3.addO;have m3:=mx.frame fun k hk=>hz3.2 k (s2.lt k (by simp[s2.hlabs.2.2 k hk])) (by simp);obtain rfl:=my.uniq m3;have hlim':ys.length+1<=LIM:=by rw[hly];exact hlim
                     refine Zim (by simp;exact⟨rfl,rfl⟩) (by simp) (by simp) (by simp) my (RowAt.own1 (by simp)) (by simpa using hlim') (fun c' h' hm' hd=>?_);have hd1:Same _ h' (labs (.mrow lf 0 S2.cons.length cf)):=hd.elim (fun h=>h.1) fun h=>h.1.mono (by simp);have hd2:∀ k ∈ labs c',k ∈ labs (.mrow lf 0 S2.cons.length cf)\/(h2.ep<=k.1/\k.1 < h'.ep):=fun k hk=>hd.elim (fun h=>.inl (h.2 ▸ hk)) fun h=>.inr ⟨Y0y hz3.1 (h.2 k hk).1,(h.2 k hk).2⟩;have hd3:∀ k ∈ labs c',k ∈ labs (.mrow lf 0 S2.cons.length cf)\/(_<=k.1/\k.1 < h'.ep):=fun k hk=>hd.elim (fun h=>.inl (h.2 ▸ hk)) fun h=>.inr (h.2 k hk);have hlf':∀ k ∈ labs (.mrow lf 0 S2.cons.length cf),k=lf:=fun k hk=>by simpa[labs] using hk
                     have hep3:=hz3.1;have hep3':=hd1.1;have hbl:=s3.keep hd1 fun k hk=>.inr (.inr (s3.hlabs.2.2 k hk));obtain⟨oa',s6,hoa'⟩:=add h' c' { S.cons[k] with table:=step.other } (by simpa using hm') hd1 hd3;have hkeep:∀ k:Lab,k.1 < h2.ep->k≠lf->k≠l->(h'.setBox l [.mrow lt 0 S.tables.length cap,fc1,c']).box k=h2.box k:=fun k h1' h2' h3'=>by
                      simp only[Zbk,h3',if_false];rw[hd1.2 k (by omega) fun h4'=>h2' (hlf' k h4'),hz3.2 k h1' (by simp)]
                     have hnl:∀ k ∈ labs c',k≠l:=fun k hk he=>by
                      rcases hd2 k hk with h1' | h1'
                      .have:=hlf' k h1';subst this;subst he;exact s2.nl.2.2 hlf
                      .have:=s2.lt l (by simp);rw[<- he] at this;omega
                     have hne5:((h.ep,80):Lab)≠lf/\((h.ep,80):Lab)≠l:=⟨fun he=>by
                      rcases hoa1 lf hlf with h1' | h1'
                      .have:=s.lt lf (by simp[h1']);rw[<- he] at this;simp at this
                      .rw[<- he] at h1';have h1'':h.ep+1 < h.ep:=h1';omega,fun he=>by have:=s.lt l (by simp);rw[<- he] at this;simp at this⟩
                     have hne7:((h.ep+1,112):Lab)≠lf/\((h.ep+1,112):Lab)≠l:=⟨fun he=>by
                      rcases hoa1 lf hlf with h1' | h1'
                      .have:=s.lt lf (by simp[h1']);rw[<- he] at this;simp at this;omega
                      .rw[<- he] at h1';simp at h1',fun he=>by have:=s.lt l (by simp);rw[<- he] at this;simp at this;omega⟩
                     simp[hn,h0,hbl];refine CutK.of ⟨by simp[h116],by simp[h117],by simp[h118],c',oa',_,_,by simp[hn],by simp[h0],by simp[h5],by simp[h7],ht2,by simp[hc2];rfl,s6,fun k hk=>?_,?_,?_,?_,?_,by simp<;>omega,hm'.frame fun k hk=>by simp[hnl k hk],(((ox.frame hz3).step my hm' hd).set fun k hk he=>?_)⟩
                     .rcases hoa' k hk with h1' | h1'
                      .exact hoa1 k h1'
                      .exact .inr (by omega)
                     .refine Same.setBox ((hs2'.trans (hz3.mono (by simp))).trans' hd1 fun k hk=>?_) (.inl (by simp))
                      have:=hlf' k hk
                      subst this;exact (hoa1 k hlf).imp (fun h1'=>by simp[h1']) fun h1'=>by omega
                     .rw[hkeep _ (by simp<;>omega) hne5.1 hne5.2];exact bx52
                     .rw[hkeep _ (by simpa using hep2) hne7.1 hne7.2];exact bx72
                     .refine (hkeep lt (s2.lt lt (by simp[tv.tm])) (fun he=>?_) fun he=>s.nl.1 (he ▸ tv.tm)).trans bxl2;have h6:=s2.nd;simp only[Y1z,Y0e,Y02] at h6;exact h6.2.2.2 lt tv.tm lf (.inr hlf) he
                     .simp[labs] at hk;subst hk;subst he;exact s.nl.2.2 (s.hlabs.2.2 _ (by simp[labs]))
                    .rintro e h3 ⟨h116,h117,h118,hp⟩;have hn:=hp;obtain⟨_,_,_,_,hn,h0,h5,h7,-⟩:=hn;simp[hn,h118,hw];obtain⟨fc2,fa2,ad2,xs2,-,-,-,-,q⟩:=hp;exact BackF.of _ ⟨⟨by simp[h116],by simp[h117],by simp,fc2,fa2,ad2,xs2,by simp[hn],by simp[h0],by simp[h5],by simp[h7],q⟩,hm⟩
                 .rintro S2 e h2 ⟨h116,h117,h118,oc1,oa1,ad,xs,hn,h0,h5,h7,ht2,hc2,s2,hoa1,hs2',bx52,bx72,bxl2,hep2,mx,ox⟩ hm;replace hm:=hm.bind;obtain⟨S3,hm3,hm⟩:=hm;have e1:=r_ret hm;simp only[Y07] at e1;obtain⟨rfl,rfl⟩:=e1;simp[hn,h7,h117,h118,bx72];have hi2:S2.tables[i]? = some T:=by rw[ht2];exact hi
                  have hfT:∀ h',Same h2 h' []->FrzCs h' [C.d (D.str T.name),.mrow l2 0 T.cols.length cap2,c2] T.enc:=by
                   obtain⟨a1,a2,tv9⟩:=s2.tblK bxl2 hi2;obtain⟨rfl,rfl⟩:a1=.mrow l2 0 T.cols.length cap2/\a2=c2:=by
                    have:=tv9.el.rd0 3 (by omega)
                    rw[r0] at this;simp at this;exact⟨this.1.symm,this.2.symm⟩
                   exact fun h' hs=>⟨.data rfl,tv9.f1 h' hs,tv9.f2 h' hs,trivial⟩
                  refine Z00 (Z61 _ _ T hfT ⟨tv.n1.2,tv.n2.2⟩ _ ?_);intro cs' h6 ls' hOw hnd' hnew hs6 hbox6;obtain⟨y1,y2,rfl⟩:∃ y1 y2,cs'=[C.d (D.str T.name),y1,y2]:=by
                   have h9:=hOw.len.1
                   match cs',h9,hOw with
                   | [a,b,c],_,hO=>obtain rfl:=hO.frz.1.flat rfl;exact⟨b,c,rfl⟩
                  have s6:=s2.frame hs6;have hep6:=hs6.1;have bx56:h6.box (h.ep,80)=some (stpC step x6 x12 x13 x22):=by rw[hs6.2 _ (by simp<;>omega) (by simp)];exact bx52
                  have hn6:=ne_new (l:=(h.ep,80)) (n:=h6.ep) (by simp<;>omega);simp (maxDischargeDepth:=12) [hn,h0,h5,bx56,hn6,e2',le_s];have hz:Same h6 (((h6.setBox (h6.ep,304) [C.d (D.str ByteArray.empty),C.nil,C.nil]).next.setBox (h6.ep,304) [C.d (D.str T.name),y1,y2]).setBox (h6.ep,304) [C.d (D.str step.other),y1,y2]) []:=((Same.refl.setBox (.inr (Y09 _))).next.setBox (.inr (Y09 _))).setBox (.inr (Y09 _));have hT7:=hOw.frame (h':=(((h6.setBox (h6.ep,304) [C.d (D.str ByteArray.empty),C.nil,C.nil]).next.setBox (h6.ep,304) [C.d (D.str T.name),y1,y2]).setBox (h6.ep,304) [C.d (D.str step.other),y1,y2])) fun k hk=>hz.2 k (hnew k hk).2 (by simp);have hT8:Ow (((h6.setBox (h6.ep,304) [C.d (D.str ByteArray.empty),C.nil,C.nil]).next.setBox (h6.ep,304) [C.d (D.str T.name),y1,y2]).setBox (h6.ep,304) [C.d (D.str step.other),y1,y2]) TblSh [C.d (D.str step.other),y1,y2] ({ T with name:=step.other }:Tbl).enc ls':=by
                   obtain⟨_,_,_,_,e1,e2,e3,h8⟩:=hT7.inv_d;simp only[Tbl.enc,List.cons.injEq] at e1 e2;obtain⟨rfl,rfl⟩:=e1;obtain⟨rfl,rfl⟩:=e2;exact .data rfl h8
                  have hez:=hz.1;refine Z00 (Z3p _ l _ fc1 oc1 ta fa1 oa1 ls' S2 S3 _ _ hm3 (s6.frame hz) hT8 ⟨hnd',fun k hk=>⟨by have:=(hnew k hk).2;omega,fun h2'=>by have:=s2.lt k h2';have:=(hnew k hk).1;omega⟩⟩ _ (fun h7 tc' ta' s7 hs7 hta7=>?_));simp[hn];have hall:Same h (((h6.setBox (h6.ep,304) [C.d (D.str ByteArray.empty),C.nil,C.nil]).next.setBox (h6.ep,304) [C.d (D.str T.name),y1,y2]).setBox (h6.ep,304) [C.d (D.str step.other),y1,y2]) (l::(ta++(fa++oa))):=hs2'.trans ((hs6.trans hz).mono (by simp));refine hk _ _ s7.ows (hall.trans (hs7.mono fun k hk=>by simp only[Y08,Y02] at hk |-;exact hk.imp_right .inl)) fun k hk=>?_;simp only[Y02] at hk |-;rcases hk with hk | hk | hk
                  .rcases hta7 k hk with h1' | h1' | h1'
                   .exact .inl (.inl h1')
                   .have:=(hnew k h1').1;exact .inr (by omega)
                   .exact .inr (Y0y hall.1 h1')
                  .exact (hfa1 k hk).imp (fun h=>.inr (.inl h)) fun h=>by omega
                  .exact (hoa1 k hk).imp (fun h=>.inr (.inr h)) fun h=>by omega
end Go.Proofs.YtbcejndfbklikaaGreatDoor
end
namespace Go.Proofs.YtbcejndfbklikaaGreatDoor
section
open Go.Am

end
section
open Go Go.Am
theorem Z7r (h:HS) (l:Lab) (tc fc oc:C) (ta fa oa:List Lab) (S S':Sch) (c:Fk) (cs:List C) (r:Int) (hm:Is (Z0s S c) (S',r)) (ho:Sc h l S tc fc oc ta fa oa) (hf:∀ h',Same h h' []->FrzCs h' cs c.enc) (K:V->HS->Prop) (hk:∀ h' fc' fa',Sc h' l S' tc fc' oc ta fa' oa->Same h h' (l::fa)->(∀ k ∈ fa',k ∈ fa)->K (.one (.d (.int .i64 r))) h') :
  HSpec prog 130 [.one (.ptr l 0),.agg cs] h K:=by
 obtain⟨qt,qf,qo,rfl,rfl,rfl,s⟩:=ho;obtain⟨k,hk1,hm⟩:=hm.bind;obtain⟨a1,a2,a3,rfl⟩:∃ a b d,cs=[a,b,d]:=by
  have:=(hf h .refl).get.1
  match cs,this with
  | [a,b,d],_=>exact⟨a,b,d,rfl⟩
 refine HSpec.of_vc Tryz.func130 rfl (by kernel_rfl) (n:=25) rfl rfl (by simp) ?_;simp;have hsame:Same h ((h.setBox (h.ep,48) [a1,a2,a3]).next) []:=(Same.refl.setBox (.inr (Y09 _))).next;have s1:=s.frame hsame;have hb1:=s1.box;simp at hb1;simp[hb1];refine Z00 (HSpec.of_lend (Z3h S.fks 158 [c.enc] (fun o=>Z0v o c) (fun xa v hv=>c_evolution_dropForeignKey_1 xa c v hv) k hk1) ⟨.one (.frz s1.f.frz),.one (.fn rfl ?_),trivial⟩ rfl ?_)
 .intro i cp ds hi hd;cases i with
  | zero=>
    simp at hi hd;subst hi hd;exact⟨_,by simp,hf _ hsame⟩
  | succ i=>simp at hi
 .have hs2:Same h (((h.setBox (h.ep,48) [a1,a2,a3]).next).next) []:=hsame.next;have s2:=s.frame hs2;simp;have hb2:=s2.box;simp at hb2;refine Z4d (fun hlt=>?_) (fun hge=>?_)
  .rw[if_pos hlt] at hm;have e1:=r_ret hm;simp only[Y07] at e1;obtain⟨rfl,rfl⟩:=e1;simp;exact hk _ _ _ ⟨_,_,_,rfl,rfl,rfl,s2⟩ (hs2.mono (by simp)) (fun _ h=>h)
  .rw[if_neg hge] at hm;obtain⟨hkl,hm⟩:=hm.chk;have e1:=r_ret hm;simp only[Y07] at e1;obtain⟨rfl,rfl⟩:=e1;obtain⟨i,rfl⟩:∃ i:Nat,k=i:=⟨k.toNat,by omega⟩;have hql:qf.length=S.fks.length:=by have:=congrArg List.length s2.f.ds;simpa using this
   have hql2:=s2.f.mr.2.1;have hw:IntKind.i64.wrap ((i:Int)+1)=((i+1:Nat):Int):=by
    exact Y0a _ (by simp at hql2;omega)
   simp[hb2,hw];refine Z00 (Z5k _ fc (qf.map (·.1)) i (i+1) s2.f.mr (by omega) (by simp<;>omega) _ (fun c' h2 hm2 hs3 hep harr hlab=>?_));have hbl:h2.box l=some [tc,fc,oc]:=by rw[hs3 l (fun hm=>s2.ne.2.1 (by simp[plabs,hm])),s2.box]
   simp[hbl];have hsub:(qf.take i++qf.drop (i+1)).Sublist qf:=Zga (by omega);have hpl:=Z9b (c:=fc) (c':=c') hsub hlab;have hp:=s2.f.sub (h2:=h2.setBox l [tc,c',oc]) (c':=c') (qs':=qf.take i++qf.drop (i+1)) (fun q hq=>hsub.subset hq) ?_ s2.nds.2.1 ?_
   .have hp2:Part (h2.setBox l [tc,c',oc]) FkSh c' (qf.take i++qf.drop (i+1)) ((S.fks.take i++S.fks.drop (i+1)).map Fk.enc):=by
     have:=s2.f.ds
     rw[Y2c,Y30,Y2d,<- this];simpa using hp
    have hs4:Same ((h.setBox (h.ep,48) [a1,a2,a3]).next).next (h2.setBox l [tc,c',oc]) (l::plabs fc qf):=by
     refine⟨by rw[Zb2,hep];exact Y09 _,fun k hk hn=>?_⟩;simp only[Y08,plabs,Y02,not_or] at hn;rw[<- hs3 k hn.2.1];simp[hn.1]
    have s3:=s2.setF (by simp) hp2 hs4 (hpl.nodup s2.nds.2.1) (fun k hk=>.inl (hpl.subset hk));exact hk _ _ _ ⟨_,_,_,rfl,rfl,rfl,s3⟩ ((hs2.mono (by simp)).trans hs4) (fun k hk=>hpl.subset hk)
   .have hl2:l ∉ labs c':=fun hm=>s2.ne.2.1 (by rw[hlab] at hm;simp[plabs,hm]);refine MR.frame (h:=h2) (by simpa[FkSh] using hm2) (fun k hk=>?_)
    have:k≠l:=fun he=>hl2 (he ▸ hk)
    simp[this]
   .rintro k hk1 ⟨q,hq,hk2⟩
    have:k≠l:=fun he=>s2.ne.2.1 (by
     simp only[plabs,Y02,Y0w];exact .inr ⟨q,hq,he ▸ hk2⟩)
    rw[<- hs3 k hk1];simp[this]
def seqI (n:Nat):List Int:=(List.range n).map fun (i:Nat)=>(i:Int)
theorem Z3k (h:HS) (n:Nat) (hn0:n<=LIM) (K:V->HS->Prop)
  (hk:∀ c' h',MR h' 1 c' ((seqI n).map fun c=>(encI c).map C.d)->Same h h' []->(∀ l ∈ labs c',h.ep<=l.1/\l.1 < h'.ep)->BoxLe h h'->K (.one c') h') :
  HSpec prog 166 [.one (.d (.int .i64 (n:Int)))] h K:=by
 refine HSpec.good Tryz.func166 rfl (by kernel_rfl) fun hg=>?_;refine HSpec.of_vc Tryz.func166 rfl (by kernel_rfl) (n:=15) rfl rfl (by simp) ?_;have hn1:n<=2097152:=hn0;simp;refine Wait.for (xs:=List.range n) (s0:=()) (k:=fun _=>some ()) (body:=fun _ _ s next=>next s) (r:=()) (fun k _ e h1=>∃ ch,e.n=15/\e.get 3=.one ch/\e.get 5=.one (.d (.int .i64 (n:Int)))/\e.get 6=.one (.d (.int .i64 (k:Int)))/\MR h1 1 ch ((seqI k).map fun c=>(encI c).map C.d)/\Same h h1 []/\(∀ l ∈ labs ch,h.ep<=l.1/\l.1 < h1.ep)) ?_ ⟨.nil,by simp,by simp,by simp,by simp,by simpa[seqI] using MR.nil,.refl,by simp[labs]⟩ ?_ ?_
 .have:∀ (xs:List Nat) (i:Nat),forK (ρ:=Unit) (fun _ (_:Nat) (s:Unit) next=>next s) (fun _=>some ()) xs i ()=some ():=fun xs=>by
   induction xs with
   | nil=>intro i;rfl
   | cons x xs ih=>intro i;exact ih (i+1)
  exact this _ _
 .rintro k _ e h1 ⟨ch,hn,h3,h5,h6,mh,hs1,lh⟩ hlt hm;simp at hlt;have hw:IntKind.i64.wrap ((k:Int)+1)=(k:Int)+1:=Y0a _ (by omega);simp[hn,h3,h5,h6,hlt];have hz:Same h1 ((h1.setArr (h1.ep,16 * 11) (some (1,1))).next) []:=Same.refl.setArr.next;simp only[Nat.reduceMul] at hz;refine app_mr (by simp;exact⟨rfl,rfl⟩) (by simp) (by simp) (by simp) (mh.frame fun k hk=>hz.2 k (lh k hk).2 (by simp)) (RowAt.own1 (by simp)) (by simp[seqI];omega) (fun c' h' hm' hs3 hl3=>?_);have hep1:=hz.1;have hep2:=hs3.1;simp[hn,h6,hw];refine BackF.of _ ⟨⟨c',by simp[hn],by simp,by simp[h5],by simp,?_,(hs1.trans hz).trans' hs3 (fun k hk=>.inr (lh k hk).1),fun l hl=>?_⟩,hm⟩
  .simpa[seqI,List.range_succ] using hm'
  .rcases hl3 l hl with h2 | h2
   .have:=lh l h2;omega
   .have:=hs1.1;omega
 .rintro _ e h1 ⟨ch,hn,h3,h5,h6,mh,hs1,lh⟩ hm;simp at h6 mh;simp[hn,h3,h5,h6];refine hk ch h1 (by simpa using mh) hs1 lh (hs1.boxLe hg)
end
section
open Go.Am
def Z12 (column:Int) (k0:Int) (k1:Stp):Option Int:=
 (bindK (Z38 k1.cols column) fun v1=>(chkK (okI (k0+v1)) (some (k0+v1))))
instance c_evolution_splitTable_1 (column:Int) (k0:Int) (k1:Stp):Con (Z12 column k0 k1) prog 163 [.one (.d (.int .i64 column)),.one (.rp [.int .i64 k0]),.one (.rp [.int .i64 k1.kind,.str k1.table,.str k1.other,.str k1.column,.str k1.newName,.int .i64 k1.type,.sl (k1.cols.map encI),.str k1.op,.int .i64 k1.value.kind,.int .i64 k1.value.int,.str k1.value.text,.str k1.newTable.name,.sl (k1.newTable.cols.map Col.enc),.sl (k1.newTable.pk.map encI),.str k1.cons.table,.int .i64 k1.cons.left,.str k1.cons.op,.int .i64 k1.cons.right,.int .i64 k1.cons.value.kind,.int .i64 k1.cons.value.int,.str k1.cons.value.text,.str k1.fk.table,.sl (k1.fk.cols.map encI),.str k1.fk.ref])] (fun r=>.one (.d (.int .i64 r))):=by
 unfold Z12;have p1:PH [1] (Plan.then_ [0,1,2,3,4,5,6] .done):=.intro;exact go 11 Tryz.func163 rfl (by kernel_rfl) rfl rfl (by simp)
def Z22 (columns:List Int) (set:List Int):Option Int:=
 (forK (fun (i2:Nat) (x2:Int) (s2:Int) next_2=>(bindK (Z0d set x2) fun v3=>(bif v3 then (chkK (okI (s2+1)) (next_2 (s2+1))) else (next_2 s2)))) (fun (s2:Int)=>(bif (s2 == 0) then (some 0) else (bif (s2 == (columns.length:Int)) then (some 2) else (some 1)))) columns 0 0)
instance c_evolution_overlap (columns:List Int) (set:List Int):Con (Z22 columns set) prog 164 [.one (.d (.sl (columns.map encI))),.one (.d (.sl (set.map encI)))] (fun r=>.one (.d (.int .i64 r))):=by
 unfold Z22;have l1:LH (σ:=Int) 10 [0,1,8,9] [.d 5 (fun s=>.int .i64 s)]:=.intro;exact go 27 Tryz.func164 rfl (by kernel_rfl) rfl rfl (by simp)
def Z2q (s_:Sch) (t:Tbl) (step:Stp):Option Int:=
 (forK (fun (i5:Nat) (x5:Int) (s5:Unit) next_5=>(bif decide (x5 < 0) then (some 3) else (bif decide ((t.cols.length:Int)<=x5) then (some 3) else (bif decide (0 < i5) then (chkK (okI ((i5:Int) - 1)) (getK step.cols ((i5:Int) - 1) fun x11=>(bif decide (x5<=x11) then (some 3) else (next_5 ())))) else (next_5 ()))))) (fun (s5:Unit)=>(bif ((step.cols.length:Int) == 0) then (some 3) else (bindK (Z22 step.cols t.pk) fun v15=>(bif (v15 != 0) then (some 9) else (bindK (Z02 s_ step.other) fun v17=>(bif v17.2 then (some 5) else (some 0))))))) step.cols 0 ())
instance c_evolution_checkSplit (s_:Sch) (t:Tbl) (step:Stp):Con (Z2q s_ t step) prog 162 [.agg s_.enc,.agg t.enc,.agg step.enc] (fun r=>.one (.d (.int .i64 r))):=by
 unfold Z2q;have l1:LH (σ:=Unit) 14 [3,4,5,12,13] []:=.intro;exact go 61 Tryz.func162 rfl (by kernel_rfl) rfl rfl (by simp)
def Z20 (c:Cons):Option ((List Int)):=
 (bif decide (c.right < 0) then (some [c.left]) else (some [c.left,c.right]))
instance c_evolution_constraintColumns (c:Cons):Con (Z20 c) prog 165 [.agg c.enc] (fun r=>.one (.d (.sl (r.map encI)))):=by
 unfold Z20;exact go 14 Tryz.func165 rfl (by kernel_rfl) rfl rfl (by simp)
end
section
open Go Go.Am
def Zj9 (n:Int) (step:Stp) (k:Nat) {ρ:Type} (j:Nat) (S:Sch) (next:Sch->Option ρ):Option ρ:=
 getK S.fks (k:Int) fun f=>getK f.cols (j:Int) fun c=>bindK (Z12 c n step) fun v=>next { S with fks:=S.fks.set k ⟨f.table,f.cols.set j v,f.ref⟩ }
def Zj8 (T:Tbl) (n:Int) (step:Stp) (k:Nat) (S:Sch) (next:Sch->Option (Sch × Int)):Option (Sch × Int):=
 getK S.fks (k:Int) fun f=>bif !(strEq f.table T.name) then next S else
 bindK (Z22 f.cols step.cols) fun o=>bif o == 1 then some (S,10) else bif o == 2 then countK (Zj9 n step k) next f.cols.length 0 { S with fks:=S.fks.set k ⟨step.other,f.cols,f.ref⟩ } else next S
def Zj7 (T:Tbl) (n:Int) (step:Stp) (k:Nat) (S:Sch) (next:Sch->Option (Sch × Int)):Option (Sch × Int):=
 getK S.cons (k:Int) fun c=>bif !(strEq c.table T.name) then next S else
 bindK (Z20 c) fun cc=>bindK (Z22 cc step.cols) fun o=>bif o == 1 then some (S,11) else bif o == 2 then
  bindK (Z12 c.left n step) fun v=>bif decide (0<=c.right) then bindK (Z12 c.right n step) fun w=>next { S with cons:=S.cons.set k { c with table:=step.other,left:=v,right:=w } }
   else next { S with cons:=S.cons.set k { c with table:=step.other,left:=v } }
 else next S
def Zfu (T:Tbl) {ρ:Type} (_:Nat) (col:Int) (acc:List Col) (next:List Col->Option ρ):Option ρ:=getK T.cols col fun c=>next (acc++[c])
def Zbs (T:Tbl) (step:Stp) (i:Nat) (S:Sch) (ocols:List Col):Option (Sch × Int):=
 bindK (Z1c S i step.cols) fun S3=>bindK (Z16 S3 ⟨step.other,ocols,seqI T.pk.length⟩) fun S4=>chkK (S4.fks.length < LIM) (some ({ S4 with fks:=S4.fks++[⟨step.other,seqI T.pk.length,T.name⟩] },0))
def Z3w (S:Sch) (i:Nat) (step:Stp):Option (Sch × Int):=
 getK S.tables (i:Int) fun T=>bindK (Z2q S T step) fun e=>bif e != 0 then some (S,e) else
 countK (Zj8 T T.pk.length step) (fun S1=>countK (Zj7 T T.pk.length step) (fun S2=>chkK (T.pk.length+step.cols.length<=LIM) (forK (Zfu T) (Zbs T step i S2) (T.pk++step.cols) 0 [])) S1.cons.length 0 S1) S.fks.length 0 S
set_option maxHeartbeats 2000000 in
theorem Z8z (h:HS) (l:Lab) (tc fc oc:C) (xs:List C) (ta fa oa lx:List Lab) (S S':Sch) (i:Nat) (step:Stp) (r:Int) (hm:Is (Z3w S i step) (S',r)) (s:Sc h l S tc fc oc ta fa oa) (hx:Ow h StpSh xs step.enc lx) (hd:∀ k ∈ lx,k.1 < h.ep/\k ∉ l::(ta++(fa++oa))) (K:V->HS->Prop)
  (hk:KeepS h l (ta++(fa++oa)) S' (.one (.d (.int .i64 r))) K) :
  HSpec prog 133 [.one (.ptr l 0),.one (.d (.int .i64 (i:Int))),.agg xs] h K:=by
 obtain⟨x6,x12,x13,x22,a6,a12,a13,a22,rfl,rfl,o6,o12,o13,o22⟩:=hx.stp;replace hm:=hm.getN;obtain⟨T,hi,hm⟩:=hm;replace hm:=hm.bind;obtain⟨ce,hce,hm⟩:=hm;have hlt:i < S.tables.length:=(Y00.1 hi).1;obtain⟨lt,c1,c2,B,tv⟩:=s.tbl hi;obtain⟨cap,rfl⟩:=tv.hd;have hb:=s.box;have bx:=tv.el.box;have r0:=tv.el.rd0 3 (by omega);simp at r0;have hne:=ne_new (s.lt l (by simp));have hnt:=ne_new (s.lt lt (by simp[tv.tm]));have hxf:∀ h',Same h h' []->FrzCs h' [C.d (D.str T.name),c1,c2] T.enc:=fun h' hs=>⟨.data rfl,tv.f1 h' hs,tv.f2 h' hs,trivial⟩;have hsf:∀ h',Same h h' (l::(ta++(fa++oa)))->Ow h' StpSh (stpC step x6 x12 x13 x22) step.enc (a6++(a12++(a13++a22))):=fun h' hs=>hx.frame fun k hk=>hs.2 k (hd k hk).1 (hd k hk).2;refine HSpec.of_vc Tryz.func133 rfl (by kernel_rfl) (n:=206) rfl rfl (by simp) ?_;have hnn:stpC step x6 x12 x13 x22≠[]:=by simp[stpC]
 have hs0:Same h (((h.setBox (h.ep,80) (stpC step x6 x12 x13 x22)).next.setBox (h.ep+1,112) [C.d (D.str empty),C.nil,C.nil]).next.setBox (h.ep+1,112) [C.d (D.str T.name),c1,c2]) []:=(((Same.refl.setBox (.inr (Y09 _))).next.setBox (.inr (by simp))).next.setBox (.inr (by simp)));have e2:takeN 1 ((stpC step x6 x12 x13 x22).drop 2)=some [.d (.str step.other)]:=by simp[stpC]
 have e6:takeN 1 ((stpC step x6 x12 x13 x22).drop 6)=some [x6]:=by simp[stpC]
 have e24:takeN 24 (stpC step x6 x12 x13 x22)=some (stpC step x6 x12 x13 x22):=by simp[stpC]
 simp[hb,hlt,bx,r0,hne,hnt,hnn];generalize hX:(((h.setBox (h.ep,80) (stpC step x6 x12 x13 x22)).next.setBox (h.ep+1,112) _).next.setBox (h.ep+1,112) _)=HX at *;have bx5:HX.box (h.ep,80)=some (stpC step x6 x12 x13 x22):=by rw[<- hX];simp
 have bx7:HX.box (h.ep+1,112)=some [C.d (D.str T.name),c1,c2]:=by rw[<- hX];simp
 have hep:h.ep+1 < HX.ep:=by rw[<- hX];simp
 have s0:=s.frame hs0;have hb0:=s0.box;refine Wait.cut (Plan.then_ [0,1,2,3,4,5,6] .done) follows (by kernel_rfl) (fun e h'=>e.n=206/\e.get 0=.one (.ptr l 0)/\e.get 1=.one (.d (.int .i64 (i:Int)))/\e.get 5=.one (.ptr (h.ep,80) 0)/\e.get 7=.one (.ptr (h.ep+1,112) 0)/\e.get 8=.one (.d (.int .i64 ce))/\Same HX h' []) ?_ ?_
 .simp[hb0,bx5,bx7,e24];refine Z00 (HSpec.of_lend (c_evolution_checkSplit S T step ce hce) ⟨.agg s0.frz,.agg (hxf _ hs0),.agg (hsf _ (hs0.mono (by simp))).frz,trivial⟩ rfl ?_);simp;exact⟨fun _ _ x=>x,CutK.of (by simp[Same.refl.next])⟩
 .rintro e h1 ⟨hn,h0,h1',h5,h7,h8,hs1⟩;have hy1:=hs0.trans hs1;have s1:=s.frame hy1;have hb1:=s1.box;have bx51:h1.box (h.ep,80)=some (stpC step x6 x12 x13 x22):=by rw[hs1.2 _ (by simp<;>omega) (by simp)];exact bx5
  have bx71:h1.box (h.ep+1,112)=some [C.d (D.str T.name),c1,c2]:=by rw[hs1.2 _ (by simpa using hep) (by simp)];exact bx7
  simp[hn,h8];cases hce0:ce != 0 with
  | true=>
    simp only[hce0,cond_true] at hm;have e1:=r_ret hm;simp only[Y07] at e1;obtain⟨rfl,rfl⟩:=e1;have hw1:¬ ce=0:=by simpa using hce0
    simp[hn,h8,hce0];exact hk _ _ s1.ows (hy1.mono (by simp)) (fun k hk=>.inl hk)
  | false=>
    simp only[hce0,cond_false] at hm;simp[hn,h0,h5,h7,hce0,bx71];refine Z1n tv.n2.1 ?_;have hne1:=ne_new (s1.lt l (by simp));have h71:=ne_new (l:=(h.ep+1,112)) (n:=h1.ep) (by have:=hs1.1;simp<;>omega);have h51:=ne_new (l:=(h.ep,80)) (n:=h1.ep) (by have:=hs1.1;simp<;>omega);simp (maxDischargeDepth:=12) [hn,h0,h5,h7,hne1,hb1,le_s];refine Z1n s1.len.2.1.1 ?_;simp[hn];have hz:Same h1 ((h1.setBox (h1.ep,144) [C.d (D.int IntKind.i64 0)]).next.setBox (h1.ep,144) [C.d (D.int IntKind.i64 T.pk.length)]) []:=((Same.refl.setBox (.inr (Y09 _))).next).setBox (.inr (Y09 _));generalize hX2:(h1.setBox (h1.ep,144) [C.d (D.int IntKind.i64 0)]).next.setBox (h1.ep,144) [C.d (D.int IntKind.i64 T.pk.length)]=HB at hz |-;have bb9:HB.box (h1.ep,144)=some [C.d (D.int IntKind.i64 T.pk.length)]:=by rw[<- hX2];simp
    have hepB:h1.ep < HB.ep:=by rw[<- hX2];simp
    have hyB:=hy1.trans hz;have sB:=s.frame hyB;have hep1:h.ep+1 < h1.ep:=Y04 hep hs1.1;have bbl:HB.box lt=some B:=by rw[hyB.2 _ (s.lt lt (by simp[tv.tm])) (by simp)];exact bx
    have fresh:∀ k:Lab,h.ep<=k.1->k ∉ l::(ta++(fa++oa)):=fun k hk h2=>by have:=s.lt k h2;omega
    have fresh':∀ k:Lab,h.ep<=k.1->k ∉ fa++oa:=fun k hk h2=>fresh k hk (Y0c _ (Y1m _ h2));have en:∀ h',Same HB h' (fa++oa)->h'.box (h.ep,80)=some (stpC step x6 x12 x13 x22)/\h'.box (h.ep+1,112)=some [C.d (D.str T.name),c1,c2]/\h'.box (h1.ep,144)=some [C.d (D.int IntKind.i64 T.pk.length)]/\h'.box lt=some B:=fun h' hs'=>by
     refine⟨?_,?_,?_,?_⟩
     .rw[hs'.2 _ (by simp<;>omega) (fresh' _ (by simp)),hz.2 _ (by simp<;>omega) (by simp)];exact bx51
     .rw[hs'.2 _ (by simp<;>omega) (fresh' _ (by simp)),hz.2 _ (by simpa using hep1) (by simp)];exact bx71
     .rw[hs'.2 _ (by simpa using hepB) (fresh' _ (by simp<;>omega))];exact bb9
     .refine (hs'.2 lt (sB.lt lt (by simp[tv.tm])) fun h2=>?_).trans bbl;have h6:=s.nd;simp only[Y1z,Y0e] at h6;exact h6.2.2.2 lt tv.tm lt h2 rfl
    have all:∀ h',Same HB h' (fa++oa)->Same h h' (l::(ta++(fa++oa))):=fun h' hs'=>(hyB.mono (by simp)).trans (hs'.mono fun k hk=>Y0c _ (Y1m _ hk));have ef:∀ h',Same HB h' (fa++oa)->FrzCs h' (stpC step x6 x12 x13 x22) step.enc:=fun h' hs'=>(hsf h' (all h' hs')).frz;have e6f:∀ h',Same HB h' (fa++oa)->Frz h' x6 (.sl (step.cols.map encI)):=fun h' hs'=>(ef h' hs').2.2.2.2.2.2.1;have lend:∀ h',Same HB h' (fa++oa)->LendVs h' ([Cap.lab (h1.ep,144),Cap.lab (h.ep,80)].map capV) (capsOf [[.int .i64 T.pk.length],step.enc]):=fun h' hs'=>⟨.one (.ptr (en h' hs').2.2.1 (FrzCs.datas (ds:=[.int .i64 T.pk.length]))),.one (.ptr (en h' hs').1 (ef h' hs')),trivial⟩;refine Wait.count (N:=(S.fks.length:Int)) (s0:=S) (fun k S1 e h2=>e.n=206/\e.get 0=.one (.ptr l 0)/\e.get 1=.one (.d (.int .i64 (i:Int)))/\e.get 5=.one (.ptr (h.ep,80) 0)/\e.get 7=.one (.ptr (h.ep+1,112) 0)/\e.get 9=.one (.ptr (h1.ep,144) 0)/\e.get 10=.one (.fn 163 [.lab (h1.ep,144),.lab (h.ep,80)])/\e.get 43=.one fc/\e.get 44=.one (.d (.int .i64 (S.fks.length:Int)))/\e.get 45=.one (.d (.int .i64 (k:Int)))/\S1.fks.length=S.fks.length/\S1.tables=S.tables/\Sc h2 l S1 (.mrow lt 0 S.tables.length cap) fc oc ta fa oa/\Same HB h2 (fa++oa)) (by simpa using hm) ⟨by simp[hn],by simp[h0],by simp[h1'],by simp[h5],by simp[h7],by simp,by simp,by simp,by simp,by simp,rfl,rfl,sB,.refl⟩ ?_ ?_
    .rintro k S1 e h2 ⟨hn,h0,h1',h5,h7,h9,h10,h43,h44,h45,hl1,ht1,s2,hs2⟩ hlt2 hm;replace hm:=Is.getN hm;obtain⟨f,hf,hm⟩:=hm;have hltk:k < S.fks.length:=by omega
     have hltk2:k < S1.fks.length:=by omega
     have hfl:=s2.len.2.1.2;simp only[lim_eq] at hfl;have hw:IntKind.i64.wrap ((k:Int)+1)=(k:Int)+1:=Y0a _ (by omega);obtain⟨lf,cf,Bf,rfl,bxf,hle⟩:=s2.fkH hf;obtain⟨hlf,hllf,c1f,el,hcf,hcl,w0,-⟩:=s2.fkK bxf hf;have q0:=el.rd0 3 (by omega);have q1:=el.rd 1 1 (by omega);simp at q0 q1;obtain⟨b5,b7,b9,bl⟩:=en h2 hs2;have hnf:=ne_new (s2.lt lf (by simp[hlf]));have hep2:h1.ep < h2.ep:=Y04 hepB hs2.1;have hn5:=ne_new (l:=(h.ep,80)) (n:=h2.ep) (by simp<;>omega);have hn7:=ne_new (l:=(h.ep+1,112)) (n:=h2.ep) (by simp<;>omega);have hzz:Same h2 ((h2.setBox (h2.ep,192) [C.d (D.str empty),C.nil,C.d (D.str empty)]).next.setBox (h2.ep,192) [.d (.str f.table),c1f,.d (.str f.ref)]) []:=((Same.refl.setBox (.inr (Y09 _))).next).setBox (.inr (Y09 _));cases hbt:strEq f.table T.name with
     | false=>
       simp only[hbt,Y29,cond_true] at hm;simp[hn,h0,h5,h7,h43,h44,h45,hltk,hltk2,bxf,q0,b7,hn7,hbt,hw];exact BackF.of S1 ⟨⟨by simp[hn],by simp[h0],by simp[h1'],by simp[h5],by simp[h7],by simp[h9],by simp[h10],by simp[h43],by simp[h44],by simp,hl1,ht1,s2.frame hzz,hs2.trans (hzz.mono (by simp))⟩,hm⟩
     | true=>
       simp only[hbt,Y1v,cond_false] at hm;replace hm:=hm.bind;obtain⟨o,ho,hm⟩:=hm;simp (maxDischargeDepth:=12) [hn,h0,h5,h7,h43,h44,h45,hltk,hltk2,bxf,q0,b7,b5,hn5,hn7,hbt,e6,le_s];have hy2:=hs2.trans (hzz.mono (by simp));generalize hX4:(h2.setBox (h2.ep,192) [C.d (D.str empty),C.nil,C.d (D.str empty)]).next.setBox (h2.ep,192) [.d (.str f.table),c1f,.d (.str f.ref)]=HZ at hzz hy2 |-;have bz12:HZ.box (h2.ep,192)=some [.d (.str f.table),c1f,.d (.str f.ref)]:=by rw[<- hX4];simp
       have bzf:HZ.box lf=some Bf:=by rw[hzz.2 lf (s2.lt lf (by simp[hlf])) (by simp)];exact bxf
       have hepz:h2.ep < HZ.ep:=by rw[<- hX4];simp
       refine Z00 (HSpec.of_lend (c_evolution_overlap f.cols step.cols o ho) ⟨.one (.frz (hcf _ hzz)),.one (.frz (e6f _ hy2)),trivial⟩ rfl ?_);have hy3:=hy2.next;have hzz3:=hzz.next;have s3:=s2.frame hzz3;have hb3:=s3.box;cases ho1:o == 1 with
       | true=>
         simp only[ho1,cond_true] at hm;have e1:=r_ret hm;simp only[Y07] at e1;obtain⟨rfl,rfl⟩:=e1;simp[hn,ho1];exact hk _ _ s3.ows (all _ hy3) (fun k hk=>.inl hk)
       | false=>
         simp only[ho1,cond_false] at hm;cases ho2:o == 2 with
         | false=>
           simp only[ho2,cond_false] at hm;simp[hn,h45,ho1,ho2,hw];exact BackF.of S1 ⟨⟨by simp[hn],by simp[h0],by simp[h1'],by simp[h5],by simp[h7],by simp[h9],by simp[h10],by simp[h43],by simp[h44],by simp,hl1,ht1,s3,hy3⟩,hm⟩
         | true=>
           simp only[ho2,cond_true] at hm;simp[hn,ho1,ho2];obtain⟨b5',b7',b9',bl'⟩:=en _ hy3;simp at b5' hb3;obtain⟨-,-,c1g,el3,-,-,w3,-⟩:=s3.fkK (by simpa using bzf) hf;obtain rfl:c1g=c1f:=by
            have:=el3.rd 1 1 (by omega)
            simp[q1] at this;exact this.symm
           refine Wait.cut (Plan.then_ [0,1,2,3,4,5,6,7,8,9] .done) follows (by kernel_rfl) (fun e h3=>e.n=206/\e.get 0=.one (.ptr l 0)/\e.get 1=.one (.d (.int .i64 (i:Int)))/\e.get 5=.one (.ptr (h.ep,80) 0)/\e.get 7=.one (.ptr (h.ep+1,112) 0)/\e.get 9=.one (.ptr (h1.ep,144) 0)/\e.get 10=.one (.fn 163 [.lab (h1.ep,144),.lab (h.ep,80)])/\e.get 43=.one (.mrow lf 0 S1.fks.length cf)/\e.get 44=.one (.d (.int .i64 (S.fks.length:Int)))/\e.get 45=.one (.d (.int .i64 (k:Int)))/\e.get 11=.one (.d (.int .i64 (k:Int)))/\e.get 12=.one (.ptr (h2.ep,192) 0)/\h3.box (h2.ep,192)=some [.d (.str f.table),c1g,.d (.str f.ref)] /\
            Sc h3 l { S1 with fks:=S1.fks.set k ⟨step.other,f.cols,f.ref⟩ } (.mrow lt 0 S.tables.length cap) (.mrow lf 0 S1.fks.length cf) oc ta fa oa/\h3.box lf=some (Z01 Bf (k * 3) [.d (.str step.other)])/\Same HB h3 (fa++oa)) ?_ ?_
           .simp[hn,h0,h5,hltk2,hb3,b5',bzf,e2];refine⟨by omega,CutK.of ⟨by simp[hn],by simp[h0],by simp[h1'],by simp[h5],by simp[h7],by simp[h9],by simp[h10],by simp[h43],by simp[h44],by simp[h45],by simp,by simp,?_,w3 step.other,by simp,hy3.setBox (.inl (by simp[hlf]))⟩⟩
            have:¬ (h2.ep,192)=lf:=fun he=>by have:=hnf h2.ep 192 (Y09 _);rw[<- he] at this;simp at this
            simp[this,bz12]
           .rintro e h3 ⟨hn,h0,h1',h5,h7,h9,h10,h43,h44,h45,h11,h12,b12,s4,bxf4,hy4⟩;have el4:=(s2.fkK bxf hf).2.2.choose_spec.1.set (g:=0) (vs:=[.d (.str step.other)]) (by simp) (by simp);have r4:takeN 1 ((Z01 Bf (k * 3) [.d (.str step.other)]).drop (k * 3+1))=some [c1g]:=by
             have e1:=(s2.fkK bxf hf).2.2.choose_spec.1.rd 1 1 (by omega);simp[q1] at e1;have e2:=el4.rd 1 1 (by omega);simp at e2;rw[e2,e1]
            simp[hn,h12,b12];refine Z1n hcl.1 ?_;simp[hn];refine Wait.count (N:=(f.cols.length:Int)) (s0:=({ S1 with fks:=S1.fks.set k ⟨step.other,f.cols,f.ref⟩ }:Sch)) (fun j S2 e h4=>e.n=206/\e.get 0=.one (.ptr l 0)/\e.get 1=.one (.d (.int .i64 (i:Int)))/\e.get 5=.one (.ptr (h.ep,80) 0)/\e.get 7=.one (.ptr (h.ep+1,112) 0)/\e.get 9=.one (.ptr (h1.ep,144) 0)/\e.get 10=.one (.fn 163 [.lab (h1.ep,144),.lab (h.ep,80)])/\e.get 43=.one (.mrow lf 0 S1.fks.length cf)/\e.get 44=.one (.d (.int .i64 (S.fks.length:Int)))/\e.get 45=.one (.d (.int .i64 (k:Int)))/\e.get 11=.one (.d (.int .i64 (k:Int)))/\e.get 74=.one c1g/\e.get 75=.one (.d (.int .i64 (f.cols.length:Int)))/\e.get 76=.one (.d (.int .i64 (j:Int))) /\
             S2.fks.length=S.fks.length/\S2.tables=S.tables/\(∃ f2,S2.fks[k]? = some f2/\f2.cols.length=f.cols.length)/\h4.box lf=some (Z01 Bf (k * 3) [.d (.str step.other)])/\Sc h4 l S2 (.mrow lt 0 S.tables.length cap) (.mrow lf 0 S1.fks.length cf) oc ta fa oa/\Same HB h4 (fa++oa)) (by simpa using hm) ⟨by simp[hn],by simp[h0],by simp[h1'],by simp[h5],by simp[h7],by simp[h9],by simp[h10],by simp[h43],by simp[h44],by simp[h45],by simp[h11],by simp,by simp,by simp,by simpa using hl1,ht1,⟨⟨step.other,f.cols,f.ref⟩,by simp[hltk2],rfl⟩,bxf4,s4,hy4⟩ ?_ ?_
            .rintro j S2 e h4 ⟨hn,h0,h1',h5,h7,h9,h10,h43,h44,h45,h11,h74,h75,h76,hl2,ht2,⟨f2,hf2,hfl2⟩,bx3,s3,hs3⟩ hltj hm;replace hm:=hm.getN;obtain⟨f3,hf3,hm⟩:=hm;rw[hf2] at hf3;cases hf3;replace hm:=hm.getN;obtain⟨v,hv,hm⟩:=hm;replace hm:=hm.bind;obtain⟨v',hv',hm⟩:=hm;have hltj1:j < f.cols.length:=by omega
             have hltj2:j < f2.cols.length:=by omega
             have hcl1:=hcl.2;simp only[lim_eq] at hcl1;have hwj:IntKind.i64.wrap ((j:Int)+1)=(j:Int)+1:=Y0a _ (by omega);obtain⟨l2,cap2,B2,rfl,hl2m,hl2f,hll2,bx4,r5,hle4,w4⟩:=s3.fkN bx3 hf2 hv r4;have hb3:=s3.box;simp[hn,h0,h74,h75,h76,hltj1,hltj2,bx4,r5];refine Wait.cut (Plan.then_ [0,1,2,3,4,5,6,7,8,9,10,11,12,13] .done) follows (by kernel_rfl) (fun e h5=>e.n=206/\e.get 0=.one (.ptr l 0)/\e.get 1=.one (.d (.int .i64 (i:Int)))/\e.get 5=.one (.ptr (h.ep,80) 0)/\e.get 7=.one (.ptr (h.ep+1,112) 0)/\e.get 9=.one (.ptr (h1.ep,144) 0)/\e.get 10=.one (.fn 163 [.lab (h1.ep,144),.lab (h.ep,80)])/\e.get 43=.one (.mrow lf 0 S1.fks.length cf)/\e.get 44=.one (.d (.int .i64 (S.fks.length:Int)))/\e.get 45=.one (.d (.int .i64 (k:Int)))/\e.get 11=.one (.d (.int .i64 (k:Int)))/\e.get 74=.one (.mrow l2 0 f2.cols.length cap2)/\e.get 75=.one (.d (.int .i64 (f.cols.length:Int)))/\e.get 76=.one (.d (.int .i64 (j:Int))) /\
              h5.box lf=some (Z01 Bf (k * 3) [.d (.str step.other)])/\Sc h5 l { S2 with fks:=S2.fks.set k ⟨f2.table,f2.cols.set j v',f2.ref⟩ } (.mrow lt 0 S.tables.length cap) (.mrow lf 0 S1.fks.length cf) oc ta fa oa/\Same HB h5 (fa++oa)) ?_ ?_
             .simp[hb3,hn,h0,h10,h11,h74,h75,h76,hltj1,hltj2,hltk2,bx3,bx4,r4,r5];refine Z00 (HSpec.of_lend (c_evolution_splitTable_1 v T.pk.length step v' hv') ⟨.one (.frz (.data rfl)),lend h4 hs3⟩ rfl ?_);simp[hn,hltj2,bx4];refine⟨fun _ _ x=>x,by omega,CutK.of ⟨by simp[hn],by simp[h0],by simp[h1'],by simp[h5],by simp[h7],by simp[h9],by simp[h10],by simp[h43],by simp[h44],by simp[h45],by simp[h11],by simp[h74],by simp[h75],by simp[h76],?_,?_,?_⟩⟩
              .simp[hl2f.symm,bx3]
              .have:=(s3.frame (Same.refl.next:Same h4 h4.next [])).fkN (by simpa using bx3) hf2 hv r4
               obtain⟨l2',cap2',B2',e1,k2,k3,k4,k5,k6,k7,k8⟩:=this;simp at e1;obtain⟨rfl,rfl⟩:=e1;simp only[Zfs,bx4] at k5;cases k5;exact k8 v'
              .exact (hs3.next).setBox (.inl (by simp[hl2m]))
             .rintro e h5' ⟨hn,h0,h1',h5,h7,h9,h10,h43,h44,h45,h11,h74,h75,h76,bx5',s5,hs5⟩;simp[hn,h76,hwj];have hi2:k < S2.fks.length:=by omega
              exact BackF.of ({ S2 with fks:=S2.fks.set k ⟨f2.table,f2.cols.set j v',f2.ref⟩ }:Sch) ⟨⟨by simp[hn],by simp[h0],by simp[h1'],by simp[h5],by simp[h7],by simp[h9],by simp[h10],by simp[h43],by simp[h44],by simp[h45],by simp[h11],by simp[h74],by simp[h75],by simp,by simpa using hl2,ht2,⟨⟨f2.table,f2.cols.set j v',f2.ref⟩,by simp[hi2],by simpa using hfl2⟩,bx5',s5,hs5⟩,hm⟩
            .rintro j S2 e h4 ⟨hn,h0,h1',h5,h7,h9,h10,h43,h44,h45,h11,h74,h75,h76,hl2,ht2,⟨f2,hf2,hfl2⟩,bx3,s3,hs3⟩ hge hm;have hge1:¬ j < f.cols.length:=by omega
             simp[hn,h45,h75,h76,hge1,hw];exact BackF.of S2 ⟨⟨by simp[hn],by simp[h0],by simp[h1'],by simp[h5],by simp[h7],by simp[h9],by simp[h10],by simp[h43],by simp[h44],by simp,hl2,ht2,s3,hs3⟩,hm⟩
    .rintro k S1 e h2 ⟨hn,h0,h1',h5,h7,h9,h10,h43,h44,h45,hl1,ht1,s2,hs2⟩ hge hm;have hge1:¬ k < S.fks.length:=by omega
     have hb2:=s2.box;simp[hn,h0,h44,h45,hge1,hb2];refine Z1n s2.len.2.2.1 ?_;simp[hn];refine Wait.count (N:=(S1.cons.length:Int)) (s0:=S1) (fun k S2 e h3=>e.n=206/\e.get 0=.one (.ptr l 0)/\e.get 1=.one (.d (.int .i64 (i:Int)))/\e.get 5=.one (.ptr (h.ep,80) 0)/\e.get 7=.one (.ptr (h.ep+1,112) 0)/\e.get 9=.one (.ptr (h1.ep,144) 0)/\e.get 10=.one (.fn 163 [.lab (h1.ep,144),.lab (h.ep,80)])/\e.get 99=.one oc/\e.get 100=.one (.d (.int .i64 (S1.cons.length:Int)))/\e.get 101=.one (.d (.int .i64 (k:Int)))/\S2.cons.length=S1.cons.length/\S2.tables=S.tables/\Sc h3 l S2 (.mrow lt 0 S.tables.length cap) fc oc ta fa oa/\Same HB h3 (fa++oa)) (by simpa using hm) ⟨by simp[hn],by simp[h0],by simp[h1'],by simp[h5],by simp[h7],by simp[h9],by simp[h10],by simp,by simp,by simp,rfl,ht1,s2,hs2⟩ ?_ ?_
     .rintro k S2 e h3 ⟨hn,h0,h1',h5,h7,h9,h10,h99,h100,h101,hl3,ht2,s3,hs3⟩ hlt2 hm;replace hm:=Is.getN hm;obtain⟨c,hc,hm⟩:=hm;have hltk:k < S1.cons.length:=by omega
      have hltk2:k < S2.cons.length:=by omega
      have hfl:=s3.len.2.2.2;simp only[lim_eq] at hfl;have hw:IntKind.i64.wrap ((k:Int)+1)=(k:Int)+1:=Y0a _ (by omega);obtain⟨lo,co,Bo,rfl,bxo,hle⟩:=s3.conH hc;obtain⟨hlo,hllo,el,-,-,-⟩:=s3.conK bxo hc;have q0:=el.rd0 7 (by omega);simp at q0;obtain⟨b5,b7,b9,bl⟩:=en h3 hs3;have hno:=ne_new (s3.lt lo (by simp[hlo]));have hep3:h1.ep < h3.ep:=Y04 hepB hs3.1;have hn5:=ne_new (l:=(h.ep,80)) (n:=h3.ep) (by simp<;>omega);have hn7:=ne_new (l:=(h.ep+1,112)) (n:=h3.ep) (by simp<;>omega);have hzz:Same h3 ((h3.setBox (h3.ep,256) [C.d (D.str empty),C.d (D.int IntKind.i64 0),C.d (D.str empty),C.d (D.int IntKind.i64 0),C.d (D.int IntKind.i64 0),C.d (D.int IntKind.i64 0),C.d (D.str empty)]).next.setBox (h3.ep,256) [C.d (D.str c.table),C.d (D.int IntKind.i64 c.left),C.d (D.str c.op),C.d (D.int IntKind.i64 c.right),C.d (D.int IntKind.i64 c.value.kind),C.d (D.int IntKind.i64 c.value.int),C.d (D.str c.value.text)]) []:=((Same.refl.setBox (.inr (Y09 _))).next).setBox (.inr (Y09 _));cases hbt:strEq c.table T.name with
      | false=>
        simp only[hbt,Y29,cond_true] at hm;simp[hn,h0,h5,h7,h99,h100,h101,hltk,hltk2,bxo,q0,b7,hn7,hbt,hw];exact BackF.of S2 ⟨⟨by simp[hn],by simp[h0],by simp[h1'],by simp[h5],by simp[h7],by simp[h9],by simp[h10],by simp[h99],by simp[h100],by simp,hl3,ht2,s3.frame hzz,hs3.trans (hzz.mono (by simp))⟩,hm⟩
      | true=>
        simp only[hbt,Y1v,cond_false] at hm;replace hm:=hm.bind;obtain⟨cc,hcc,hm⟩:=hm;replace hm:=hm.bind;obtain⟨o,ho,hm⟩:=hm;simp (maxDischargeDepth:=12) [hn,h0,h5,h7,h99,h100,h101,hltk,hltk2,bxo,q0,b7,b5,hn5,hn7,hbt,e6,le_s];have hy2:=hs3.trans (hzz.mono (by simp));generalize hX4:((h3.setBox (h3.ep,256) [C.d (D.str empty),C.d (D.int IntKind.i64 0),C.d (D.str empty),C.d (D.int IntKind.i64 0),C.d (D.int IntKind.i64 0),C.d (D.int IntKind.i64 0),C.d (D.str empty)]).next.setBox (h3.ep,256) [C.d (D.str c.table),C.d (D.int IntKind.i64 c.left),C.d (D.str c.op),C.d (D.int IntKind.i64 c.right),C.d (D.int IntKind.i64 c.value.kind),C.d (D.int IntKind.i64 c.value.int),C.d (D.str c.value.text)])=HZ at hzz hy2 |-;have bz16:HZ.box (h3.ep,256)=some [C.d (D.str c.table),C.d (D.int IntKind.i64 c.left),C.d (D.str c.op),C.d (D.int IntKind.i64 c.right),C.d (D.int IntKind.i64 c.value.kind),C.d (D.int IntKind.i64 c.value.int),C.d (D.str c.value.text)]:=by rw[<- hX4];simp
        have bzo:HZ.box lo=some Bo:=by rw[hzz.2 lo (s3.lt lo (by simp[hlo])) (by simp)];exact bxo
        have hepz:h3.ep < HZ.ep:=by rw[<- hX4];simp
        obtain⟨b5z,-⟩:=en HZ hy2;have hy4:=hy2.next.next;have hzz4:=hzz.next.next;refine Wait.cut (Plan.then_ [0,2,3,1,4] .done) follows (by kernel_rfl) (fun e h4=>e.n=206/\e.get 0=.one (.ptr l 0)/\e.get 1=.one (.d (.int .i64 (i:Int)))/\e.get 5=.one (.ptr (h.ep,80) 0)/\e.get 7=.one (.ptr (h.ep+1,112) 0)/\e.get 9=.one (.ptr (h1.ep,144) 0)/\e.get 10=.one (.fn 163 [.lab (h1.ep,144),.lab (h.ep,80)])/\e.get 99=.one (.mrow lo 0 S2.cons.length co)/\e.get 100=.one (.d (.int .i64 (S1.cons.length:Int)))/\e.get 101=.one (.d (.int .i64 (k:Int)))/\e.get 15=.one (.d (.int .i64 (k:Int)))/\e.get 16=.one (.ptr (h3.ep,256) 0)/\e.get 115=.one (.d (.int .i64 o))/\h4=HZ.next.next) ?_ ?_
        .simp[hn,h5,bz16,b5z,e6];refine Z08 (c_evolution_constraintColumns c cc hcc) (by simp) ?_;simp[hn];refine⟨fun _ _ x=>x,?_⟩;refine Z00 (HSpec.of_lend (c_evolution_overlap cc step.cols o ho) ⟨.one (.frz (.data rfl)),.one (.frz (e6f _ hy2.next)),trivial⟩ rfl ?_);simp[hn];exact⟨fun _ _ x=>x,CutK.of ⟨by simp[hn],by simp[h0],by simp[h1'],by simp[h5],by simp[h7],by simp[h9],by simp[h10],by simp[h99],by simp[h100],by simp[h101],by simp,by simp,by simp,rfl⟩⟩
        .rintro e h4 ⟨hn,h0,h1',h5,h7,h9,h10,h99,h100,h101,h15,h16,h115,rfl⟩;have s4:=s3.frame hzz4;have hb4:=s4.box;simp at hb4;simp[hn,h115];cases ho1:o == 1 with
         | true=>
           simp only[ho1,cond_true] at hm;have e1:=r_ret hm;simp only[Y07] at e1;obtain⟨rfl,rfl⟩:=e1;simp[hn,ho1];exact hk _ _ s4.ows (all _ hy4) (fun k hk=>.inl hk)
         | false=>
           simp only[ho1,cond_false] at hm;cases ho2:o == 2 with
           | false=>
             simp only[ho2,cond_false] at hm;simp[hn,h101,h115,ho1,ho2,hw];exact BackF.of S2 ⟨⟨by simp[hn],by simp[h0],by simp[h1'],by simp[h5],by simp[h7],by simp[h9],by simp[h10],by simp[h99],by simp[h100],by simp,hl3,ht2,s4,hy4⟩,hm⟩
           | true=>
             simp only[ho2,cond_true] at hm;replace hm:=hm.bind;obtain⟨v,hv,hm⟩:=hm;simp[hn,h115,ho1,ho2];obtain⟨-,-,-,w0,-,-⟩:=s4.conK (by simpa using bzo) hc;have s5:=w0 step.other;have hc5:({ S2 with cons:=S2.cons.set k { c with table:=step.other } }:Sch).cons[k]? = some { c with table:=step.other }:=by simp[hltk2]
             refine Wait.cut (Plan.then_ [0,1,2,3,4,5,6,7,8,9,10,11,12,13,14,15,16,17,18,19,20,21] .done) follows (by kernel_rfl) (fun e h4=>e.n=206/\e.get 0=.one (.ptr l 0)/\e.get 1=.one (.d (.int .i64 (i:Int)))/\e.get 5=.one (.ptr (h.ep,80) 0)/\e.get 7=.one (.ptr (h.ep+1,112) 0)/\e.get 9=.one (.ptr (h1.ep,144) 0)/\e.get 10=.one (.fn 163 [.lab (h1.ep,144),.lab (h.ep,80)])/\e.get 99=.one (.mrow lo 0 S2.cons.length co)/\e.get 100=.one (.d (.int .i64 (S1.cons.length:Int)))/\e.get 101=.one (.d (.int .i64 (k:Int)))/\e.get 15=.one (.d (.int .i64 (k:Int)))/\e.get 16=.one (.ptr (h3.ep,256) 0)/\h4.box (h3.ep,256)=some [C.d (D.str c.table),C.d (D.int IntKind.i64 c.left),C.d (D.str c.op),C.d (D.int IntKind.i64 c.right),C.d (D.int IntKind.i64 c.value.kind),C.d (D.int IntKind.i64 c.value.int),C.d (D.str c.value.text)] /\
              (∃ B4,h4.box lo=some B4/\B4.length=Bo.length)/\Sc h4 l { S2 with cons:=S2.cons.set k { c with table:=step.other,left:=v } } (.mrow lt 0 S.tables.length cap) fc (.mrow lo 0 S2.cons.length co) ta fa oa/\Same HB h4 (fa++oa)) ?_ ?_
             .simp[hn,h0,h5,h10,h15,h16,hltk2,hb4,b5z,bz16,e2];refine Z00 (HSpec.of_lend (c_evolution_splitTable_1 c.left T.pk.length step v hv) ⟨.one (.frz (.data rfl)),lend _ hy4⟩ rfl ?_);have sc:=s3.frame hzz4.next;obtain⟨-,-,-,w0c,-,-⟩:=sc.conK (by simpa using bzo) hc;obtain⟨-,-,-,-,w1c,-⟩:=(w0c step.other).conK (B:=Z01 Bo (k * 7) [.d (.str step.other)]) (by simp) hc5;have hle5:(Z01 Bo (k * 7) [C.d (D.str step.other)]).length=Bo.length:=Z0z (by simp<;>omega);have hle6:(Z01 (Z01 Bo (k * 7) [C.d (D.str step.other)]) (k * 7+1) [C.d (D.int IntKind.i64 v)]).length=Bo.length:=by rw[Z0z (by simp<;>omega),hle5]
              have hz16:¬ (h3.ep,256)=lo:=fun he=>by have:=hno h3.ep 256 (Y09 _);rw[<- he] at this;simp at this
              simp[hn,hltk2,bzo,hle5];refine⟨fun _ _ x=>x,by omega,by omega,CutK.of ⟨by simp[hn],by simp[h0],by simp[h1'],by simp[h5],by simp[h7],by simp[h9],by simp[h10],by simp[h99],by simp[h100],by simp[h101],by simp[h15],by simp[h16],?_,⟨_,by simp,hle6⟩,?_,((hy4.next).setBox (.inl (by simp[hlo]))).setBox (.inl (by simp[hlo]))⟩⟩
              .simp[hz16,bz16]
              .simpa using w1c v
             .rintro e h4 ⟨hn,h0,h1',h5,h7,h9,h10,h99,h100,h101,h15,h16,b16,⟨B4,bo4,hlb4⟩,s6,hy6⟩;have hc6:({ S2 with cons:=S2.cons.set k { c with table:=step.other,left:=v } }:Sch).cons[k]? = some { c with table:=step.other,left:=v }:=by simp[hltk2]
              cases hr:decide (0<=c.right) with
              | false=>
                simp only[hr,cond_false] at hm;simp at hr;have hr2:¬ 0<=c.right:=by omega
                simp[hn,h16,b16,h101,hr2,hw];exact BackF.of ({ S2 with cons:=S2.cons.set k { c with table:=step.other,left:=v } }:Sch) ⟨⟨by simp[hn],by simp[h0],by simp[h1'],by simp[h5],by simp[h7],by simp[h9],by simp[h10],by simp[h99],by simp[h100],by simp,by simpa using hl3,ht2,s6,hy6⟩,hm⟩
              | true=>
                simp only[hr,cond_true] at hm;simp at hr;replace hm:=hm.bind;obtain⟨w,hwv,hm⟩:=hm;have hb6:=s6.box;simp[hn,h16,b16,hr];refine Wait.cut (Plan.then_ [0,1,2,3,4,5,6,7,8,9,10,11] .done) follows (by kernel_rfl) (fun e h4=>e.n=206/\e.get 0=.one (.ptr l 0)/\e.get 1=.one (.d (.int .i64 (i:Int)))/\e.get 5=.one (.ptr (h.ep,80) 0)/\e.get 7=.one (.ptr (h.ep+1,112) 0)/\e.get 9=.one (.ptr (h1.ep,144) 0)/\e.get 10=.one (.fn 163 [.lab (h1.ep,144),.lab (h.ep,80)])/\e.get 99=.one (.mrow lo 0 S2.cons.length co)/\e.get 100=.one (.d (.int .i64 (S1.cons.length:Int)))/\e.get 101=.one (.d (.int .i64 (k:Int))) /\
                 Sc h4 l { S2 with cons:=S2.cons.set k { c with table:=step.other,left:=v,right:=w } } (.mrow lt 0 S.tables.length cap) fc (.mrow lo 0 S2.cons.length co) ta fa oa/\Same HB h4 (fa++oa)) ?_ ?_
                .simp[hn,h0,h10,h15,h16,hltk2,hb6,b16];refine Z00 (HSpec.of_lend (c_evolution_splitTable_1 c.right T.pk.length step w hwv) ⟨.one (.frz (.data rfl)),lend _ hy6⟩ rfl ?_);simp[hn,hltk2,bo4];refine⟨fun _ _ x=>x,by omega,CutK.of ⟨by simp[hn],by simp[h0],by simp[h1'],by simp[h5],by simp[h7],by simp[h9],by simp[h10],by simp[h99],by simp[h100],by simp[h101],?_,hy6.next.setBox (.inl (by simp[hlo]))⟩⟩
                 have:=((s6.frame (Same.refl.next:Same h4 h4.next [])).conK (by simpa using bo4) hc6).2.2.2.2.2 w
                 simpa using this
                .rintro e h4 ⟨hn,h0,h1',h5,h7,h9,h10,h99,h100,h101,s7,hy7⟩;simp[hn,h101,hw];exact BackF.of ({ S2 with cons:=S2.cons.set k { c with table:=step.other,left:=v,right:=w } }:Sch) ⟨⟨by simp[hn],by simp[h0],by simp[h1'],by simp[h5],by simp[h7],by simp[h9],by simp[h10],by simp[h99],by simp[h100],by simp,by simpa using hl3,ht2,s7,hy7⟩,hm⟩
     .rintro k S2 e h3 ⟨hn,h0,h1',h5,h7,h9,h10,h99,h100,h101,hl3,ht2,s3,hs3⟩ hge hm;have hge1:¬ k < S1.cons.length:=by omega
      replace hm:=hm.chk;obtain⟨hlim,hm⟩:=hm;obtain⟨b5,b7,b9,bl⟩:=en h3 hs3;have hep3:h1.ep < h3.ep:=Y04 hepB hs3.1;simp[hn,h100,h101,hge1];have hplim:T.pk.length<=LIM:=tv.n2.2;have n5:=ne_new (l:=(h.ep,80)) (n:=h3.ep) (by simp<;>omega);have n7:=ne_new (l:=(h.ep+1,112)) (n:=h3.ep) (by simp<;>omega);have n9:=ne_new (l:=(h1.ep,144)) (n:=h3.ep) (by simpa using hep3);refine Wait.cut (Plan.then_ [0,1,2] (.two 3 5 (Plan.then_ [] (.two 4 5 (Plan.then_ [5,6] .done) (Plan.then_ [4,6] .done))) (Plan.then_ [3,4,6] .done))) follows (by kernel_rfl) (fun e h4=>e.n=206/\e.get 0=.one (.ptr l 0)/\e.get 1=.one (.d (.int .i64 (i:Int)))/\e.get 5=.one (.ptr (h.ep,80) 0)/\e.get 7=.one (.ptr (h.ep+1,112) 0)/\e.get 9=.one (.ptr (h1.ep,144) 0)/\Same h3 h4 []/\∃ (p17:Lab) (pc:C),e.get 17=.one (.ptr p17 0)/\h4.box p17=some [.d (.str step.other),.nil,pc]/\(h3.ep<=p17.1/\p17.1 < h4.ep)/\MR h4 1 pc ((seqI T.pk.length).map fun c=>(encI c).map C.d)/\∀ k ∈ labs pc,h3.ep<=k.1/\k.1 < h4.ep/\k≠p17) ?_ ?_
      .simp (maxDischargeDepth:=12) [hn,h0,h5,h9,b5,b9,e2,n5,n9,le_s];refine⟨?_,?_⟩
       .refine Z00 (Z3k _ T.pk.length hplim _ (fun pc h4 mp hs4 hlp hbox=>?_));simp[hn];have hep4:=hs4.1;have hk1:∀ k ∈ labs pc,k≠(h4.ep,272):=fun k hk he=>by have:=(hlp k hk).2;rw[he] at this;simp at this
        refine⟨hbox,?_⟩
        repeat' (with_reducible apply And.intro)
        all_goals
         refine CutK.of ⟨by simp[hn],by simp[h0],by simp[h1'],by simp[h5],by simp[h7],by simp[h9],((hs4.setBox (.inr (by simpa using hep4))).next.setBox (.inr (by simpa using hep4))),(h4.ep,272),pc,by simp,by simp,⟨by simpa using hep4,by simp⟩,mp.frame fun k hk=>by simp[hk1 k hk],fun k hk=>⟨(hlp k hk).1,by have:=(hlp k hk).2;simp<;>omega,hk1 k hk⟩⟩
       .have hz5:Same h3 ((h3.setBox (h3.ep,272) [C.d (D.str empty),C.nil,C.nil]).next) []:=(Same.refl.setBox (.inr (Y09 _))).next;refine Z00 (Z3k _ T.pk.length hplim _ (fun pc h4 mp hs4 hlp hbox=>?_));have hep4:=hs4.1;simp at hep4;have hk1:∀ k ∈ labs pc,k≠(h3.ep,272):=fun k hk he=>by have:=(hlp k hk).1;rw[he] at this;exact absurd (show h3.ep+1<=h3.ep by simpa using this) (by omega)
        have b17:h4.box (h3.ep,272)=some [C.d (D.str empty),C.nil,C.nil]:=hbox _ _ (by simp);simp[hn,b17];refine⟨hbox,?_⟩;refine CutK.of ⟨by simp[hn],by simp[h0],by simp[h1'],by simp[h5],by simp[h7],by simp[h9],((hz5.trans hs4).setBox (.inr (Y09 _))),(h3.ep,272),pc,by simp,by simp,⟨by simp,by simp<;>omega⟩,mp.frame fun k hk=>by simp[hk1 k hk],fun k hk=>⟨by have:=(hlp k hk).1;simp at this;omega,by simpa using (hlp k hk).2,hk1 k hk⟩⟩
      .rintro e h4 ⟨hn,h0,h1',h5,h7,h9,hs4,p17,pc,h17,b17,hp17,mp,hlp⟩;have hs34:=hs3.trans (hs4.mono (by simp));obtain⟨b54,b74,b94,bl4⟩:=en h4 hs34;have s4:=s3.frame hs4;have hi2:S2.tables[i]? = some T:=by rw[ht2];exact hi
       have tvf:∀ h',Same h4 h' []->TblV h' l S2 (.mrow lt 0 S.tables.length cap) fc oc ta fa oa i T lt c1 c2 B:=fun h' hs'=>by
        obtain⟨a1,a2,tv9⟩:=(s4.frame hs').tblK ((en h' (hs34.trans (hs'.mono (by simp)))).2.2.2) hi2;obtain⟨rfl,rfl⟩:a1=c1/\a2=c2:=by
         have:=tv9.el.rd0 3 (by omega)
         rw[r0] at this;simp at this;exact⟨this.1.symm,this.2.symm⟩
        exact tv9
       have hcl6:=(hsf h4 (all _ hs34)).stp;have o6n:=o6.nlen;simp at o6n;simp[hn];refine Wait.cut (Plan.then_ [0,1,3,4,7,2,5,6] .done) follows (by kernel_rfl) (fun e h5=>e.n=206/\e.get 0=.one (.ptr l 0)/\e.get 1=.one (.d (.int .i64 (i:Int)))/\e.get 5=.one (.ptr (h.ep,80) 0)/\e.get 7=.one (.ptr (h.ep+1,112) 0)/\e.get 9=.one (.ptr (h1.ep,144) 0)/\Same h4 h5 []/\e.get 17=.one (.ptr p17 0)/\∃ hc:C,e.get 165=.one hc/\e.get 166=.one (.d (.int .i64 ((T.pk++step.cols).length:Int)))/\e.get 167=.one (.d (.int .i64 0))/\MR h5 1 hc ((T.pk++step.cols).map fun c=>(encI c).map C.d)/\∀ k ∈ labs hc,h4.ep<=k.1/\k.1 < h5.ep) ?_ ?_
       .simp[hn,h0,h5,h7,b54,b74,e6];refine Z00 (Z3c _ c2 (T.pk.map fun c=>(encI c).map C.d) (by rw[Z5i];exact ((tvf h4 .refl).f2 _ .refl).rowAt (n:=1) (by simp[D.flat]) (by simpa using hplim)) _ (fun hc g5 mh hs5 hlh hbox=>?_));simp[hn];refine⟨hbox,?_⟩;have hf6:=(e6f g5 (hs34.trans (hs5.mono (by simp)))).rowAt (n:=1) (by simp[D.flat]) (by simpa using o6n.2);rw[<- Z5i] at hf6;refine app_mr (by simp;exact⟨rfl,rfl⟩) (by simp) (by simp) (by simp) mh hf6 (by simpa using hlim) (fun hc' g6 mh' hs6 hlh'=>?_);simp[hn];have mh2:MR g6 1 hc' ((T.pk++step.cols).map fun c=>(encI c).map C.d):=by simpa using mh'
        refine Z1n (n:=(T.pk++step.cols).length) (by rw[mh2.len];simp) ?_;simp[hn];have hep5:=hs5.1;have hep6:=hs6.1;refine CutK.of ⟨by simp[hn],by simp[h0],by simp[h1'],by simp[h5],by simp[h7],by simp[h9],hs5.trans' hs6 (fun k hk=>.inr (hlh k hk).1),by simp[h17],hc',by simp,by simp,by simp,mh2,fun k hk=>?_⟩;rcases hlh' k hk with h2 | h2
        .have:=hlh k h2;omega
        .omega
       .rintro e g5 ⟨hn,h0,h1',h5,h7,h9,hs5,h17,hc,h165,h166,h167,mh,hlh⟩;have hep34:=hs4.1;have hep45:=hs5.1;have b175:g5.box p17=some [.d (.str step.other),.nil,pc]:=by rw[hs5.2 p17 hp17.2 (by simp)];exact b17
        have mp5:MR g5 1 pc ((seqI T.pk.length).map fun c=>(encI c).map C.d):=mp.frame fun k hk=>hs5.2 k (hlp k hk).2.1 (by simp);refine Wait.for (xs:=T.pk++step.cols) (s0:=[]) (fun k acc e g=>e.n=206/\e.get 0=.one (.ptr l 0)/\e.get 1=.one (.d (.int .i64 (i:Int)))/\e.get 5=.one (.ptr (h.ep,80) 0)/\e.get 7=.one (.ptr (h.ep+1,112) 0)/\e.get 9=.one (.ptr (h1.ep,144) 0)/\Same h4 g [p17]/\e.get 17=.one (.ptr p17 0)/\e.get 165=.one hc/\e.get 166=.one (.d (.int .i64 ((T.pk++step.cols).length:Int)))/\e.get 167=.one (.d (.int .i64 (k:Int)))/\MR g 1 hc ((T.pk++step.cols).map fun c=>(encI c).map C.d)/\MR g 1 pc ((seqI T.pk.length).map fun c=>(encI c).map C.d)/\g5.ep<=g.ep/\acc.length<=k /\
         ∃ ch,g.box p17=some [.d (.str step.other),ch,pc]/\MR g 3 ch (acc.map fun c=>c.enc.map C.d)/\∀ k ∈ labs ch,g5.ep<=k.1/\k.1 < g.ep) hm ⟨by simp[hn],by simp[h0],by simp[h1'],by simp[h5],by simp[h7],by simp[h9],hs5.mono (by simp),by simp[h17],by simp[h165],by simp[h166],by simp[h167],mh,mp5,Y09 _,by simp,.nil,b175,MR.nil,by simp[labs]⟩ ?_ ?_
        .rintro k acc e g ⟨hn,h0,h1',h5,h7,h9,hsg,h17,h165,h166,h167,mh,mp,hepg,hal,ch,b17g,mc,hlc⟩ hltk hm;simp only[Zfu] at hm;replace hm:=hm.get;obtain⟨c,hc0,hcc,hm⟩:=hm;have hw:IntKind.i64.wrap ((k:Int)+1)=(k:Int)+1:=Y0a _ (by have:=hlim;simp at hltk this;omega);obtain⟨lh,caph,Bh,rfl,bh,rh⟩:=mh.at (k:=k) (x:=[.d (.int .i64 (T.pk++step.cols)[k])]) (by rw[Y0b,Y01 hltk];rfl);simp only[Y0z] at mh h165;simp at rh;obtain⟨n,hn1⟩:∃ n:Nat,(T.pk++step.cols)[k]=n:=⟨((T.pk++step.cols)[k]).toNat,by omega⟩;rw[hn1] at rh hcc;simp at hcc;have hnl:n < T.cols.length:=(Y00.1 hcc).1;have hsg2:Same h3 g []:=hs4.trans' hsg (fun k hk=>.inr (by simp at hk;rw[hk];exact hp17.1));have hsg3:=hs3.trans (hsg2.mono (by simp));obtain⟨b5g,b7g,b9g,blg⟩:=en g hsg3;have tvg:TblV g l S2 (.mrow lt 0 S.tables.length cap) fc oc ta fa oa i T lt c1 c2 B:=by
          obtain⟨a1,a2,tv9⟩:=(s3.frame hsg2).tblK blg hi2;obtain⟨rfl,rfl⟩:a1=c1/\a2=c2:=by
           have:=tv9.el.rd0 3 (by omega)
           rw[r0] at this;simp at this;exact⟨this.1.symm,this.2.symm⟩
          exact tv9
         obtain⟨l2,cap2,B2,rfl,el2,-⟩:=tvg.e1 n c hcc;have bx2:=el2.box;have q0:=el2.rd0 3 (by omega);simp at q0;have hltk':k < T.pk.length+step.cols.length:=by simpa using hltk
         have hltI:(k:Int) < (T.pk.length:Int)+(step.cols.length:Int):=by omega
         simp[hn,h165,h166,h167,hltk',hltI,bh,rh];refine Wait.cut (Plan.then_ [0,1,2,3,4,5,6,7,8,9,10] .done) follows (by kernel_rfl) (fun e g'=>e.n=206/\e.get 0=.one (.ptr l 0)/\e.get 1=.one (.d (.int .i64 (i:Int)))/\e.get 5=.one (.ptr (h.ep,80) 0)/\e.get 7=.one (.ptr (h.ep+1,112) 0)/\e.get 9=.one (.ptr (h1.ep,144) 0)/\Same h4 g' [p17]/\e.get 17=.one (.ptr p17 0)/\e.get 165=.one (.mrow lh 0 (T.pk++step.cols).length caph)/\e.get 166=.one (.d (.int .i64 ((T.pk++step.cols).length:Int)))/\e.get 167=.one (.d (.int .i64 (k:Int)))/\MR g' 1 (.mrow lh 0 (T.pk++step.cols).length caph) ((T.pk++step.cols).map fun c=>(encI c).map C.d)/\MR g' 1 pc ((seqI T.pk.length).map fun c=>(encI c).map C.d)/\g5.ep<=g'.ep /\
          ∃ ch,g'.box p17=some [.d (.str step.other),ch,pc]/\MR g' 3 ch ((acc++[c]).map fun c=>c.enc.map C.d)/\∀ k ∈ labs ch,g5.ep<=k.1/\k.1 < g'.ep) ?_ ?_
         .simp[hn,h7,h17,b17g,b7g,hn1,hnl,bx2,q0];have hz:Same g ((g.setArr (g.ep,16 * 178) (some (1,3))).next) []:=Same.refl.setArr.next;simp only[Nat.reduceMul] at hz;have hlim2:T.pk.length+step.cols.length<=2097152:=hlim;refine app_mr (by simp;exact⟨rfl,rfl⟩) (by simp) (by simp) (by simp) (mc.frame fun k hk=>hz.2 k (hlc k hk).2 (by simp)) (RowAt.own1 (by simp)) (by simp<;>omega) (fun c' g' hm' hs6 hl6=>?_);have hepz:=hs6.1;simp at hepz;have hp5:p17.1 < g5.ep:=Y04 hp17.2 hep45;have hkeep:∀ q:Lab,q.1 < g5.ep->g'.box q=g.box q:=fun q hq=>by
           rw[hs6.2 q (by simp<;>omega) fun h2=>by have:=(hlc q h2).1;omega];exact hz.2 q (by omega) (by simp)
          have b17':g'.box p17=some [.d (.str step.other),ch,pc]:=by rw[hkeep _ hp5];exact b17g
          have hnp:∀ q ∈ labs c',q≠p17/\g5.ep<=q.1/\q.1 < g'.ep:=fun q hq=>by
           rcases hl6 q hq with h2 | h2
           .have:=hlc q h2;exact⟨fun he=>by rw[he] at this;omega,this.1,by omega⟩
           .simp at h2;exact⟨fun he=>by rw[he] at h2;omega,by omega,h2.2⟩
          simp[hn,h17,b17'];refine CutK.of ⟨by simp[hn],by simp[h0],by simp[h1'],by simp[h5],by simp[h7],by simp[h9],((hsg.trans (hz.mono (by simp))).trans' hs6 fun q hq=>.inr (by have:=(hlc q hq).1;omega)).setBox (.inl (by simp)),by simp[h17],by simp[h165],by simp[h166],by simp[h167],mh.frame fun q hq=>?_,mp.frame fun q hq=>?_,by simp<;>omega,c',by simp,?_,fun q hq=>⟨(hnp q hq).2.1,by simpa using (hnp q hq).2.2⟩⟩
          .have h2:=hlh q hq
           have:q≠p17:=fun he=>by rw[he] at h2;have:=hp17.2;omega
           simp[this,hkeep q h2.2]
          .have h2:=hlp q hq;simp[h2.2.2,hkeep q (by omega)]
          .refine MR.frame (h:=g') (by simpa using hm') fun q hq=>?_;simp[(hnp q hq).1]
         .rintro e g' ⟨hn,h0,h1',h5,h7,h9,hsg,h17,h165,h166,h167,mh,mp,hepg,ch,b17g,mc,hlc⟩;simp[hn,h167,hw];exact BackF.of (acc++[c]) ⟨⟨by simp[hn],by simp[h0],by simp[h1'],by simp[h5],by simp[h7],by simp[h9],hsg,by simp[h17],by simp[h165],by simp[h166],by simp,by rw[Y0z];exact mh,mp,hepg,by simp<;>omega,ch,b17g,mc,hlc⟩,hm⟩
        .rintro ocols e g ⟨hn,h0,h1',h5,h7,h9,hsg,h17,h165,h166,h167,mh,mp,hepg,hal,ch,b17g,mc,hlc⟩ hm;simp only[Zbs] at hm;replace hm:=hm.bind;obtain⟨S3,hm3,hm⟩:=hm;replace hm:=hm.bind;obtain⟨S4,hm4,hm⟩:=hm;replace hm:=hm.chk;obtain⟨hlim4,hm⟩:=hm;have e1:=r_ret hm;simp only[Y07] at e1;obtain⟨rfl,rfl⟩:=e1;have hsg2:Same h3 g []:=hs4.trans' hsg (fun k hk=>.inr (by simp at hk;rw[hk];exact hp17.1));have hsg3:=hs3.trans (hsg2.mono (by simp));obtain⟨b5g,b7g,b9g,blg⟩:=en g hsg3;have sg:=s3.frame hsg2;have hag:=all g hsg3;simp at h166 h167;simp[hn,h0,h1',h5,h166,h167,b5g,e6];refine Z00 (Z4h _ l _ fc oc _ ta fa oa S2 S3 i step.cols hm3 sg (fun h' hs'=>(hsf h' (hag.trans (hs'.mono fun k hk=>Y0c _ hk))).frz.2.2.2.2.2.2.1) _ (fun g2 ta2 sg2 hs2' hta2=>?_));have hp5:p17.1 < g5.ep:=Y04 hp17.2 hep45;have hepg2:=hs2'.1;have hkeep:∀ q:Lab,h.ep<=q.1->q.1 < g.ep->g2.box q=g.box q:=fun q hq1 hq2=>hs2'.2 q hq2 fun h2=>fresh q hq1 (Y0c _ h2);have hhp:h.ep<=h3.ep:=by omega
         have b172:g2.box p17=some [.d (.str step.other),ch,pc]:=by rw[hkeep p17 (by omega) (by omega)];exact b17g
         have mc2:MR g2 3 ch (ocols.map fun c=>c.enc.map C.d):=mc.frame fun q hq=>hkeep q (by have:=(hlc q hq).1;omega) (hlc q hq).2;have mp2:MR g2 1 pc ((seqI T.pk.length).map fun c=>(encI c).map C.d):=mp.frame fun q hq=>hkeep q (by have:=(hlp q hq).1;omega) (by have:=(hlp q hq).2.1;omega);have hT:Ow g2 TblSh [.d (.str step.other),ch,pc] (⟨step.other,ocols,seqI T.pk.length⟩:Tbl).enc (labs ch++(labs pc++[])):=by
          rw[Z5i] at mc2 mp2;exact .data rfl ((Ow.nrow (n:=3) mc2 rfl (by simp)).join ((Ow.nrow (n:=1) mp2 rfl (by simp)).join .nil))
         simp[hn,h0,h17,b172];refine Z00 (Z3p _ l _ fc oc ta2 fa oa (labs ch++(labs pc++[])) S3 S4 _ _ hm4 sg2 hT ⟨?_,fun q hq=>?_⟩ _ (fun g3 tc3 ta3 sg3 hs3' hta3=>?_))
         .rw[Y0k,Y0e];refine⟨Z1t,Z1t,fun a ha b hb he=>?_⟩
          have:=(hlc a ha).1;have:=(hlp b hb).2.1;rw[<- he] at this;omega
         .have hq2:h3.ep<=q.1/\q.1 < g.ep:=by
           simp only[Y0k,Y02] at hq;rcases hq with hq | hq
           .have:=hlc q hq;omega
           .have:=hlp q hq;omega
          refine⟨by omega,fun h2=>?_⟩;simp only[Y08,Y02] at h2;have hf:=fresh q (by omega);simp only[Y08,Y02,not_or] at hf;rcases h2 with h2 | h2 | h2 | h2
          .exact hf.1 h2
          .rcases hta2 q h2 with h4 | h4
           .exact hf.2.1 h4
           .omega
          .exact hf.2.2.1 h2
          .exact hf.2.2.2 h2
         .have hepg3:=hs3'.1;have hkeep3:∀ q:Lab,h.ep<=q.1->q.1 < g.ep->g3.box q=g.box q:=fun q hq1 hq2=>by
           rw[hs3'.2 q (by omega) fun h2=>?_,hkeep q hq1 hq2];have hf:=fresh q hq1;simp only[Y08,Y02,not_or] at hf h2;rcases h2 with h2 | h2
           .exact hf.1 h2
           .rcases hta2 q h2 with h4 | h4
            .exact hf.2.1 h4
            .omega
          have b53:g3.box (h.ep,80)=some (stpC step x6 x12 x13 x22):=by rw[hkeep3 _ (by simp) (by simp<;>omega)];exact b5g
          have b73:g3.box (h.ep+1,112)=some [C.d (D.str T.name),c1,c2]:=by rw[hkeep3 _ (by simp) (by simp<;>omega)];exact b7g
          have b93:g3.box (h1.ep,144)=some [C.d (D.int IntKind.i64 T.pk.length)]:=by rw[hkeep3 _ (by simp<;>omega) (by simp<;>omega)];exact b9g
          have hb3:=sg3.box;have hta4:∀ q ∈ ta3,q ∈ ta\/h.ep<=q.1:=fun q hq=>by
           rcases hta3 q hq with h2 | h2 | h2
           .exact (hta2 q h2).imp_right fun h=>by omega
           .simp only[Y0k,Y02] at h2;rcases h2 with h2 | h2
            .have:=hlc q h2;exact .inr (by omega)
            .have:=hlp q h2;exact .inr (by omega)
           .exact .inr (by omega)
          have hall3:Same h g3 (l::(ta++(fa++oa))):=(hag.trans (hs2'.mono fun k hk=>Y0c _ hk)).trans' hs3' fun q hq=>by
           simp only[Y08] at hq;rcases hq with rfl | hq
           .exact .inl (by simp)
           .exact (hta2 q hq).imp (fun h=>by simp[h]) fun h=>by omega
          simp[hn];refine Wait.cut (Plan.then_ [0,1,2,3,4,5,6,7,9,10,8,11,12,13,14,15,16] .done) follows (by kernel_rfl) (fun e h'=>e.n=206/\∃ fa' fc',Sc h' l { S4 with fks:=S4.fks++[⟨step.other,seqI T.pk.length,T.name⟩] } tc3 fc' oc ta3 fa' oa/\(∀ k ∈ fa',k ∈ fa\/h.ep<=k.1)/\Same h h' (l::(ta++(fa++oa)))) ?_ ?_
          .simp[hn,h0,h5,h7,h9,hb3,b53,b73,b93,e2];refine Z00 (Z3k _ T.pk.length hplim _ (fun pc2 g4 mp4 hs4' hlp4 hbox4=>?_));simp[hn];refine⟨hbox4,?_⟩;have hoF:Ow g4 FkSh [.d (.str step.other),pc2,.d (.str T.name)] (⟨step.other,seqI T.pk.length,T.name⟩:Fk).enc (labs pc2):=by
            refine .data rfl ?_
            have:=Ow.rowD (es:=[.d]) (n:=1) (ts:=(seqI T.pk.length).map encI) (by rw[<- Z5i];exact mp4) rfl (by simp) (Ow.data (c:=.d (.str T.name)) (x:=.str T.name) rfl .nil)
            simpa using this
           have hep34':=hs4'.1;have hhe:h.ep<=g3.ep:=by omega
           have fin:∀ (h5:HS) (x':List C) (lx:List Lab),Same g4 h5 []->∀ ys:List (List C),ys.length=S4.fks.length->MR h5 3 fc ys ->
             (∀ (h':HS) (c':C) (x:List C) (d:List D) (lx:List Lab),MR h' 3 c' (ys++[x])->Same h5 h' (labs fc)->(∀ k ∈ labs c',k ∈ labs fc\/(h5.ep<=k.1/\k.1 < h'.ep))->Ow h' FkSh x d lx->lx.Nodup->(∀ k ∈ lx,k.1 < h'.ep/\k ∉ l::(ta3++(fa++oa))/\k ∉ labs c')->∀ T,d=Fk.enc T->∃ fa',Sc (h'.setBox l [tc3,c',oc]) l { S4 with fks:=S4.fks++[T] } tc3 c' oc ta3 fa' oa/\∀ k ∈ fa',k ∈ fa\/k ∈ lx\/h5.ep<=k.1) ->
             (∀ h',(∀ k ∈ labs pc2,h'.box k=g4.box k)->Ow h' FkSh x' (⟨step.other,seqI T.pk.length,T.name⟩:Fk).enc lx)->(∀ k ∈ lx,k ∈ labs pc2)->lx.Nodup->∀ (c':C) (h':HS),MR h' 3 c' (ys++[x'])->Same h5 h' (labs fc)->(∀ k ∈ labs c',k ∈ labs fc\/(h5.ep<=k.1/\k.1 < h'.ep)) ->
             h'.box l=some [tc3,fc,oc]/\∃ fa',Sc (h'.setBox l [tc3,c',oc]) l { S4 with fks:=S4.fks++[⟨step.other,seqI T.pk.length,T.name⟩] } tc3 c' oc ta3 fa' oa/\(∀ k ∈ fa',k ∈ fa\/h.ep<=k.1)/\Same h (h'.setBox l [tc3,c',oc]) (l::(ta++(fa++oa))):=by
            intro h5 x' lx hs5' ys hly my add hox hlx hnd c' h' hm' hs6 hl6;have hep56:=hs6.1;have hep45':=hs5'.1;have hfc:∀ k ∈ labs fc,k ∈ fa:=s.hlabs.2.1;obtain⟨fa',s6,hfa'⟩:=add h' c' x' _ lx hm' hs6 hl6 (hox h' fun k hk=>by
             have h2:=hlp4 k hk;rw[hs6.2 k (by omega) fun h3=>by have:=sg3.lt k (by simp[hfc k h3]);omega];exact hs5'.2 k h2.2 (by simp)) hnd (fun k hk=>by
              have h2:=hlp4 k (hlx k hk);refine⟨by omega,fun h3=>by have:=sg3.lt k h3;omega,fun h3=>?_⟩;rcases hl6 k h3 with h4 | h4
              .have:=sg3.lt k (by simp[hfc k h4]);omega
              .omega) _ rfl
            refine⟨(sg3.frame (hs4'.trans hs5')).keep hs6 fun k hk=>.inr (.inl (hfc k hk)),fa',s6,fun k hk=>?_,((hall3.trans ((hs4'.trans hs5').mono (by simp))).trans' hs6 fun k hk=>.inl (by simp[hfc k hk])).setBox (.inl (by simp))⟩;rcases hfa' k hk with h2 | h2 | h2
            .exact .inl h2
            .have:=hlp4 k (hlx k h2);exact .inr (by omega)
            .exact .inr (by omega)
           refine bld_ow (x:=[.d (.str step.other),pc2,.d (.str T.name)]) (by simp[toDs];cases pc2.toD<;>rfl) (by simp) (fun d hd2=>?_) (fun hd2=>?_)
           .obtain⟨rfl,hT2⟩:=hoF.ofD hd2;have hs5':Same g4 ((g4.setArr (g4.ep,16 * 202) (some (1,3))).next) []:=Same.refl.setArr.next;simp only[Nat.reduceMul] at hs5';obtain⟨ys,my,hly,add⟩:=(sg3.frame (hs4'.trans hs5')).addF;simp[hn];refine app_mr (by simp;exact⟨rfl,rfl⟩) (by simp) (by simp) (by simp) my (RowAt.own1 (by simp)) (by rw[hly];exact hlim4) (fun c' h' hm' hs6 hl6=>?_);obtain⟨hbl,fa',s6,t1,t2⟩:=fin _ _ [] hs5' ys hly my add (fun h' _=>hT2 h') (by simp) Y2k c' h' hm' hs6 hl6;simp[hn,h0,hbl];exact CutK.of ⟨by simp[hn],fa',c',s6,t1,t2⟩
           .skip
            have hs5':Same g4 ((g4.setBox (g4.ep,16 * 202) [.d (.str step.other),pc2,.d (.str T.name)]).next) []:=(Same.refl.setBox (.inr (Y09 _))).next;simp only[Nat.reduceMul] at hs5';obtain⟨ys,my,hly,add⟩:=(sg3.frame (hs4'.trans hs5')).addF;simp[hn];refine app_mr (by simp;exact⟨rfl,rfl⟩) (by simp) (by simp) (by simp) my (RowAt.new1 (x:=[.d (.str step.other),pc2,.d (.str T.name)]) (by simp) (by simp)) (by rw[hly];exact hlim4) (fun c' h' hm' hs6 hl6=>?_);obtain⟨hbl,fa',s6,t1,t2⟩:=fin _ _ (labs pc2) hs5' ys hly my add (fun h' hb'=>hoF.frame hb') (fun _ h=>h) Z1t c' h' hm' hs6 hl6;simp[hn,h0,hbl];exact CutK.of ⟨by simp[hn],fa',c',s6,t1,t2⟩
          .rintro e h' ⟨hn,fa',fc',s7,hfa',hs7⟩;simp[hn];refine hk _ _ s7.ows hs7 fun k hk=>?_;simp only[Y02] at hk |-;rcases hk with hk | hk | hk
           .exact (hta4 k hk).imp_left .inl
           .exact (hfa' k hk).imp_left fun h=>.inr (.inl h)
           .exact .inl (.inr (.inr hk))
end
section
open Go.Am
def Z3b (fk:Fk) (k0:ByteArray):Option Bool:=
 (some (strEq fk.ref k0))
instance c_evolution_joinTables_1 (fk:Fk) (k0:ByteArray):Con (Z3b fk k0) prog 168 [.agg fk.enc,.one (.rp [.str k0])] (fun r=>.one (.d (.bool r))):=by
 unfold Z3b;exact go 8 Tryz.func168 rfl (by kernel_rfl) rfl rfl (by simp)
def Z28 (column:Int) (k0:Int) (k1:Tbl) (k2:Int):Option Int:=
 (bif decide (column < k0) then (getK k1.pk column fun x2=>(some x2)) else (chkK (okI (k2+column)) (chkK (okI ((k2+column) - k0)) (some ((k2+column) - k0)))))
instance c_evolution_joinTables_2 (column:Int) (k0:Int) (k1:Tbl) (k2:Int):Con (Z28 column k0 k1 k2) prog 170 [.one (.d (.int .i64 column)),.one (.rp [.int .i64 k0]),.one (.rp [.str k1.name,.sl (k1.cols.map Col.enc),.sl (k1.pk.map encI)]),.one (.rp [.int .i64 k2])] (fun r=>.one (.d (.int .i64 r))):=by
 unfold Z28;exact go 19 Tryz.func170 rfl (by kernel_rfl) rfl rfl (by simp)
end
end Go.Proofs.YtbcejndfbklikaaGreatDoor
section
namespace Go.Proofs.YtbcejndfbklikaaGreatDoor
open Go Go.Am
theorem Za1 {σ ρ:Type} {body:Nat->σ->(σ->Option ρ)->Option ρ} {k:σ->Option ρ} (P:σ->Prop) (Q:ρ->Prop) (hb:∀ i s next r,P s->(∀ s' r,P s'->next s'=some r->Q r)->body i s next=some r->Q r) (hk:∀ s r,P s->k s=some r->Q r):∀ n i s r,P s->countK body k n i s=some r->Q r
 | 0,_,s,r,hP,h=>hk s r hP h
 | n+1,i,s,r,hP,h=>hb i s _ r hP (fun s' r' hP' h'=>Za1 P Q hb hk n (i+1) s' r' hP' h') h
theorem Zgt {S S':Sch} {table:ByteArray} {mr:Int->Option Int} (h:Is (Z14 S table mr) S'):S'.tables=S.tables:=by
 refine Za1 (fun s:Sch=>s.tables=S.tables) (fun s=>s.tables=S.tables) (fun i s next r hP hn hb=>?_) (fun s r hP hk=>?_) _ _ S S' rfl h
 .obtain⟨f,hf,hb⟩:=Is.getN hb;cases hc:strEq f.table table with
  | false=>rw[hc] at hb;exact hn _ _ hP hb
  | true=>
    rw[hc] at hb;refine Za1 (fun s:Sch=>s.tables=S.tables) (fun s=>s.tables=S.tables) (fun j s next r hP hn hb=>?_) hn _ _ s r hP hb;obtain⟨f,hf,hb⟩:=Is.getN hb;obtain⟨v,hv,hb⟩:=Is.getN hb;obtain⟨v',hv',hb⟩:=hb.bind;exact hn { s with fks:=s.fks.set i ⟨f.table,f.cols.set j v',f.ref⟩ } _ hP hb
 .refine Za1 (fun s:Sch=>s.tables=S.tables) (fun s=>s.tables=S.tables) (fun j s next r hP hn hb=>?_) (fun s r hP hk=>?_) _ _ s r hP hk
  .obtain⟨c,hc,hb⟩:=Is.getN hb;cases hct:strEq c.table table with
   | false=>rw[hct] at hb;exact hn _ _ hP hb
   | true=>
     rw[hct] at hb;obtain⟨v,hv,hb⟩:=Is.bind hb;cases hr:decide (0<=c.right) with
     | false=>rw[hr] at hb;exact hn { s with cons:=s.cons.set j { c with left:=v } } _ hP hb
     | true=>
       rw[hr] at hb;obtain⟨w,hw,hb⟩:=Is.bind hb;exact hn { s with cons:=s.cons.set j { c with left:=v,right:=w } } _ hP hb
  .obtain rfl:=r_ret hk;exact hP
theorem Zg8 {S S':Sch} {c:Fk} {r:Int} (h:Is (Z0s S c) (S',r)):S'.tables=S.tables:=by
 obtain⟨k,hk,h⟩:=h.bind;split at h
 .have:=r_ret h
  simp only[Y07] at this;rw[<- this.1]
 .obtain⟨_,h⟩:=Is.chk h
  have:=r_ret h
  simp only[Y07] at this;rw[<- this.1]
theorem Sc.tblFrz {h:HS} {l:Lab} {S:Sch} {tc fc oc:C} {ta fa oa:List Lab} (s:Sc h l S tc fc oc ta fa oa) {i:Nat} {T:Tbl} {lt:Lab} {c1 c2:C} {B:List C} (tv:TblV h l S tc fc oc ta fa oa i T lt c1 c2 B) (hi:S.tables[i]? = some T):∀ h',(∀ k ∈ ta,h'.box k=h.box k)->FrzCs h' [.d (.str T.name),c1,c2] T.enc:=by
 obtain⟨qt,qf,qo,rfl,rfl,rfl,s⟩:=s;obtain⟨q,lr,cap,sp,h1,h2,h3,h4,h5,h6⟩:=s.t.elem (Z6c (f:=Tbl.enc) hi);obtain⟨cap',e⟩:=tv.hd;rw[h4] at e;simp at e;obtain⟨rfl,-⟩:=e;have hu:=h6.uniq tv.el h3.len.1 (by simp[TblSh]);intro h' hb
 have:=h3.frame (h':=h') fun k hk=>hb k (Z42 h1 hk)
 rw[hu.1] at this;exact this.frz
end Go.Proofs.YtbcejndfbklikaaGreatDoor
namespace Go.Am
open Go Go.Proofs.YtbcejndfbklikaaGreatDoor
theorem MR.tail {h:HS} {w:Nat} {l:Lab} {n cap:Nat} {xs:List (List C)} (m:MR h w (.mrow l 0 n cap) xs) (k:Nat) (hk:k<=n):RowAt h w (.mrow l (k * w) (n - k) (cap - k)) (xs.drop k):=by
 have hn:=m.len;simp[cLen] at hn;subst hn;have hb:∃ sp,h.box l=some (rowBox xs sp):=by
  rcases m.2.2 with ⟨_,h2 | h2⟩ | ⟨l',cap',sp,h1,h2,_⟩
  .cases h2
  .cases h2
  .simp at h1;obtain⟨rfl,rfl⟩:=h1;exact⟨sp,h2⟩
 obtain⟨sp,hb⟩:=hb;have hr:=Z8g (off:=k) (k:=xs.length - k) (cap:=cap - k) m.1 hb (by omega);refine⟨?_,by simp[cLen],m.1.drop,by have:=m.2.1;simp at this |-;omega⟩;rw[hr,Y0l (by simp)]
end Go.Am
namespace Go.Proofs.YtbcejndfbklikaaGreatDoor
open Go Go.Am
end Go.Proofs.YtbcejndfbklikaaGreatDoor
end
section
namespace Go.Am
open Go
open Go.RowKit (Below)
section
variable {P:Program}
theorem Zlz {c:Prop} {ops:Array Oper} {oi oj:Oper} {e:Env} {h:HS} {v:V} {K:Env->HS->Prop} (hap:oi.apart ops oj=true) (hst:storeKind oj.op=false\/loadKind oi.op=false) (hcc:loadKind oi.op=true->callKind oj.op=true->c) (hr:Real (e.put oi.dst v) h)
  (hv:vcG P ops.toList oj (e.put oi.dst v) h (fun e' h'=>(c->BoxLe h h')/\K e' h')) :
  vcG P ops.toList oj e h (fun e' h'=>(c->BoxLe h h')/\e'.n=e.n/\(∀ t ∈ oi.looksAt ops,e'.get t=e.get t)/\(loadKind oi.op=true->BoxLe h h')/\K (e'.put oi.dst v) h'):=by
 obtain⟨h1,h2,h3⟩:=Oper.apart_spec hap;have hag:∀ t ∈ oj.looksAt ops,e.get t=(e.put oi.dst v).get t:=fun t ht=>(Zcu (fun d hd he=>h1 d hd (he ▸ ht))).symm;have fin:∀ u h',(storeKind oj.op=false->callKind oj.op=false->BoxLe h h')->((c->BoxLe h h')/\K ((e.put oi.dst v).put oj.dst u) h') ->
   (c->BoxLe h h')/\(e.put oj.dst u).n=e.n/\(∀ t ∈ oi.looksAt ops,(e.put oj.dst u).get t=e.get t)/\(loadKind oi.op=true->BoxLe h h')/\K ((e.put oj.dst u).put oi.dst v) h':=fun u h' hb hk=>
  ⟨hk.1,put_n',fun t ht=>Zcu (fun d hd he=>h3 d hd (he ▸ ht)),fun hl=>by
   cases hc:callKind oj.op with
   | true=>exact hk.1 (hcc hl hc)
   | false=>exact hb (hst.resolve_right (by simp[hl])) hc,by rw[<- Zgv h2];exact hk.2⟩
 obtain⟨hd,hv⟩:=hv;refine⟨Zc0 put_n'.symm hd,?_⟩;have go:vcOp P oj (e.put oi.dst v) h (fun e' h'=>(c->BoxLe h h')/\K e' h')->vcOp P oj e h (fun e' h'=>(c->BoxLe h h')/\e'.n=e.n/\(∀ t ∈ oi.looksAt ops,e'.get t=e.get t)/\(loadKind oi.op=true->BoxLe h h')/\K (e'.put oi.dst v) h'):=fun hs=>
  Zbi hr (Zg5 hag) (fun u h' hb hk=>fin u h' hb hk) hs
 cases hg:oj.guard with
 | none=>simp only[hg] at hv |-;exact go hv
 | some gw=>
   obtain⟨j,want⟩:=gw;simp only[hg] at hv |-;rw[Z7i hag hg];split at hv
   .exact⟨fun hb=>go (hv.1 hb),fun hb=>fin _ _ (fun _ _=>BoxLe.refl h) (hv.2 hb)⟩
   .exact fin _ _ (fun _ _=>BoxLe.refl h) hv
   .exact hv.elim
def vcAnyB (P:Program) (md:Region.Mode) (ops:Array Oper) (bl:Nat->Bool) (K:Env->HS->Prop):Nat->Array Bool->Env->HS->Prop
 | 0,listed,e,h=>Region.ready md ops listed=[]/\(Real e h->K e h)
 | f+1,listed,e,h=>Real e h->(Region.ready md ops listed=[]->K e h) /\
     ∀ i ∈ Region.ready md ops listed,∃ o,ops[i]? = some o/\vcG P ops.toList o e h (fun e' h'=>((bl i=true/\callKind o.op=true)->BoxLe h h')/\vcAnyB P md ops bl K f (listed.setIfInBounds i true) e' h')
theorem Zc8 {bl:Nat->Bool} {md:Region.Mode} {ops:Array Oper} {Γ:Ctx} {Q:Exit->Act->World->Prop} {K:Env->HS->Prop} {μ0:Mem} (hN:∀ e' h' μ' a' w',K e' h'->Inv Γ h' μ' w'->EnvRel μ' e' a'->Mem.Le μ0 μ'->Q .normal a' w') :
  ∀ (f:Nat) (listed:Array Bool) {e:Env} {h:HS} {μ:Mem} {a:Act} {w:World},Inv Γ h μ w->EnvRel μ e a->Mem.Le μ0 μ->vcAnyB P md ops bl K f listed e h->wpAny P md ops Q f listed a w
 | 0,listed,e,h,μ,a,w,hI,hE,hle,hv=>⟨hv.1,hN _ _ _ _ _ (hv.2 ⟨_,_,_,_,hI,hE⟩) hI hE hle⟩
 | f+1,listed,e,h,μ,a,w,hI,hE,hle,hv=>by
   obtain⟨h0,h1⟩:=hv ⟨_,_,_,_,hI,hE⟩;refine⟨fun hr=>hN _ _ _ _ _ (h0 hr) hI hE hle,fun i hi=>?_⟩;obtain⟨o,ho,hg⟩:=h1 i hi;exact Zgm ho hI hE (fun e' h' μ' a' w' hk hI' hE' hle'=>Zc8 hN f _ hI' hE' (hle.trans hle') hk.2) hg
theorem Zgo {bl:Nat->Bool} {md:Region.Mode} {ops:Array Oper} {K:Env->HS->Prop} {i:Nat} {oi:Oper} {v:V} (W:Nat->Bool) (hi:ops[i]? = some oi) (hp:Z55 oi.op=true)
  (hW:∀ j,W j=true->∃ oj,ops[j]? = some oj/\∃ x ∈ oj.after,Region.binds md x=true/\(x.on=i\/W x.on=true)) :
  ∀ (f:Nat) (listed:Array Bool) (e:Env) (h:HS),(∀ j,W j=true->listed.getD j true=false) ->
    (∀ j oj,ops[j]? = some oj->j≠i->listed.getD j true=false->W j=false->oi.apart ops oj=true/\(storeKind oj.op=false\/loadKind oi.op=false)/\(loadKind oi.op=true->callKind oj.op=true->bl j=true)) ->
    i ∈ Region.ready md ops listed->GivesG P ops oi e h v ->
    vcAnyB P md ops bl K f (listed.setIfInBounds i true) (e.put oi.dst v) h->vcAnyB P md ops bl K (f+1) listed e h:=by
 intro f
 induction f with
 | zero=>
   intro listed e h _ _ hr hg H hR;refine⟨fun h=>(by rw[h] at hr;cases hr),fun j hj=>?_⟩
   by_cases hji:j=i
   .subst hji;exact⟨oi,hi,hg e h _ rfl (fun _ _=>rfl) (fun _=>BoxLe.refl h) ⟨fun hc=>(by rw[Z7a hp] at hc;cases hc.2),H⟩⟩
   .have:=ready_mono hj hji
    rw[H.1] at this;cases this
 | succ f ih=>
   intro listed e h hWl hfree hr hg H hR;have hR':=hg.real hp hR;refine⟨fun h=>(by rw[h] at hr;cases hr),fun j hj=>?_⟩
   by_cases hji:j=i
   .subst hji;exact⟨oi,hi,hg e h _ rfl (fun _ _=>rfl) (fun _=>BoxLe.refl h) ⟨fun hc=>(by rw[Z7a hp] at hc;cases hc.2),H⟩⟩
   .obtain⟨oj,hoj,h1⟩:=(H hR').2 j (ready_mono hj hji);obtain⟨hjun,oj',hoj',hall⟩:=mem_ready.1 hj
    have:oj'=oj:=Option.some.inj (hoj'.symm.trans hoj)
    subst this;have unl:∀ k,listed.getD k true=false->listed.getD k false=true->False:=fun k h1 h2=>by
     rcases Y0t k listed.size with h' | h'
     .simp[h'] at h1 h2;rw[h1] at h2;cases h2
     .simp[Y1r h'] at h2
    have hnot:W j=false:=by
     cases hw:W j with
     | false=>rfl
     | true=>
       obtain⟨ok,hok,x,hx,hb,hon⟩:=hW j hw
       have:ok=oj':=Option.some.inj (hok.symm.trans hoj)
       subst this;have h1:=hall x hx hb;rcases hon with hon | hon
       .rw[hon] at h1;exact (unl i (mem_ready.1 hr).1 h1).elim
       .exact (unl _ (hWl _ hon) h1).elim
    obtain⟨hap,hst,hbl⟩:=hfree j oj' hoj hji hjun hnot;have hfree':∀ k ok,ops[k]? = some ok->k≠i->(listed.setIfInBounds j true).getD k true=false ->
      W k=false->oi.apart ops ok=true/\(storeKind ok.op=false\/loadKind oi.op=false)/\(loadKind oi.op=true->callKind ok.op=true->bl k=true):=fun k ok hk hki hun hno=>by
     refine hfree k ok hk hki ?_ hno
     by_cases hjk:j=k
     .subst hjk;exact hjun
     .rw[getD_set_ne true hjk] at hun;exact hun
    have hWl':∀ k,W k=true->(listed.setIfInBounds j true).getD k true=false:=fun k hk=>by
     have hjk:j≠k:=by rintro rfl;rw[hnot] at hk;cases hk
     rw[getD_set_ne true hjk];exact hWl k hk
    refine⟨oj',hoj,Z2l hR (fun e' h' hk=>?_) (Zlz hap hst (fun hl hc=>⟨hbl hl hc,hc⟩) hR' h1)⟩;obtain⟨hcb,hn,hag,hb,hk⟩:=hk;refine⟨hcb,?_⟩;refine ih (listed.setIfInBounds j true) e' h' hWl' hfree' (ready_mono hr (Ne.symm hji)) (hg.step hn hag hb) ?_
    .rw[Array.setIfInBounds_comm _ _ hji];exact hk
def Zik (bl:Nat->Bool) (md:Region.Mode) (ops:Array Oper) (listed:Array Bool) (i:Nat):Bool:=
 match ops[i]? with
 | none=>false
 | some oi=>
   let w:=waitsN md ops i ops.size []
   Z55 oi.op && (Region.ready md ops listed).contains i && waitsB md ops i w && w.all (fun j=>!listed.getD j true) && (List.range ops.size).all fun j=>j == i || listed.getD j true || w.contains j || match ops[j]? with
    | some oj=>oi.apart ops oj && ((!storeKind oj.op || !loadKind oi.op) && (!loadKind oi.op || !callKind oj.op || bl j))
    | none=>true
def planBB (bl:Nat->Bool) (md:Region.Mode) (ops:Array Oper):Plan->Nat->Array Bool->Bool
 | .done,f,listed=>f == 0 && (Region.ready md ops listed).isEmpty
 | .one _ _,0,_=>false
 | .one i p,f+1,listed=>(Region.ready md ops listed == [i] || Zik bl md ops listed i) && planBB bl md ops p f (listed.setIfInBounds i true)
 | .two _ _ _ _,0,_=>false
 | .two i j p q,f+1,listed=>Region.ready md ops listed == [i,j] && planBB bl md ops p f (listed.setIfInBounds i true) && planBB bl md ops q f (listed.setIfInBounds j true)
 | .three _ _ _ _ _ _,0,_=>false
 | .three i j k p q r,f+1,listed=>Region.ready md ops listed == [i,j,k] && planBB bl md ops p f (listed.setIfInBounds i true) && planBB bl md ops q f (listed.setIfInBounds j true) && planBB bl md ops r f (listed.setIfInBounds k true)
 | .four _ _ _ _ _ _ _ _,0,_=>false
 | .four i j k l p q r s,f+1,listed=>Region.ready md ops listed == [i,j,k,l] && planBB bl md ops p f (listed.setIfInBounds i true) && planBB bl md ops q f (listed.setIfInBounds j true) && planBB bl md ops r f (listed.setIfInBounds k true) && planBB bl md ops s f (listed.setIfInBounds l true)
def Z3y (P:Program) (ops:List Oper) (bl:Nat->Bool) (K:Env->HS->Prop):Plan->Env->HS->Prop
 | .done,e,h=>K e h
 | .one i p,e,h=>vcOps P ops (planOps ops [i]) e h (fun e' h'=>((bl i=true/\isCallAt ops i=true)->BoxLe h h')/\Z3y P ops bl K p e' h')
 | .two i j p q,e,h=>vcOps P ops (planOps ops [i]) e h (fun e' h'=>((bl i=true/\isCallAt ops i=true)->BoxLe h h')/\Z3y P ops bl K p e' h')/\vcOps P ops (planOps ops [j]) e h (fun e' h'=>((bl j=true/\isCallAt ops j=true)->BoxLe h h')/\Z3y P ops bl K q e' h')
 | .four i j k l p q r s,e,h=>vcOps P ops (planOps ops [i]) e h (fun e' h'=>((bl i=true/\isCallAt ops i=true)->BoxLe h h')/\Z3y P ops bl K p e' h')/\vcOps P ops (planOps ops [j]) e h (fun e' h'=>((bl j=true/\isCallAt ops j=true)->BoxLe h h')/\Z3y P ops bl K q e' h')/\vcOps P ops (planOps ops [k]) e h (fun e' h'=>((bl k=true/\isCallAt ops k=true)->BoxLe h h')/\Z3y P ops bl K r e' h')/\vcOps P ops (planOps ops [l]) e h (fun e' h'=>((bl l=true/\isCallAt ops l=true)->BoxLe h h')/\Z3y P ops bl K s e' h')
 | .three i j k p q r,e,h=>vcOps P ops (planOps ops [i]) e h (fun e' h'=>((bl i=true/\isCallAt ops i=true)->BoxLe h h')/\Z3y P ops bl K p e' h')/\vcOps P ops (planOps ops [j]) e h (fun e' h'=>((bl j=true/\isCallAt ops j=true)->BoxLe h h')/\Z3y P ops bl K q e' h')/\vcOps P ops (planOps ops [k]) e h (fun e' h'=>((bl k=true/\isCallAt ops k=true)->BoxLe h h')/\Z3y P ops bl K r e' h')
theorem Z1u {bl:Nat->Bool} {md:Region.Mode} {ops:Array Oper} {K:Env->HS->Prop}:∀ (p:Plan) (f:Nat) (listed:Array Bool) (e:Env) (h:HS),planBB bl md ops p f listed=true ->
  Z3y P ops.toList bl K p e h->vcAnyB P md ops bl K f listed e h
 | .done,f,listed,e,h,hB,hv=>by
   unfold planBB at hB;simp only[Y0q,beq_iff_eq] at hB;obtain⟨rfl,hB⟩:=hB;exact⟨by simpa using hB,fun _=>hv⟩
 | .one i p,0,listed,e,h,hB,hv=>by unfold planBB at hB;cases hB
 | .one i p,f+1,listed,e,h,hB,hv=>by
   unfold planBB at hB;simp only[Y0q,Y1o] at hB;obtain⟨hB,hrest⟩:=hB;have ih:=fun e h=>Z1u (K:=K) p f (listed.setIfInBounds i true) e h hrest;have hmem:i ∈ Region.ready md ops listed:=by
    rcases hB with hB | hB
    .rw[eq_of_beq hB];simp
    .unfold Zik at hB;split at hB
     .cases hB
     .simp only[Y0q] at hB;simpa using hB.1.1.1.2
   obtain⟨o,ho,hck,hv'⟩:=Z24 hmem hv;rw[hck] at hv'
   by_cases hR:Real e h
   .rcases hB with hB | hB
    .intro _;refine⟨fun h0=>(by rw[h0] at hmem;cases hmem),fun j hj=>?_⟩;rw[eq_of_beq hB] at hj
     have:j=i:=by simpa using hj
     subst this;exact⟨o,ho,Z2l hR (fun e' h' hk=>⟨hk.1,ih e' h' hk.2⟩) hv'⟩
    .unfold Zik at hB;simp only[ho,Y0q] at hB;obtain⟨⟨⟨⟨hp,_⟩,hwB⟩,hwl⟩,hall⟩:=hB;obtain⟨v,hk,hR',hg⟩:=Zbn hp hR hv';generalize waitsN md ops i ops.size []=w at hwB hwl hall;refine Zgo (fun j=>w.contains j) ho hp (fun j hj=>?_) f listed e h (fun j hj=>?_) (fun j oj hj hne hun hno=>?_) hmem hg (ih _ _ hk.2)
     .have h1:=Y1a.1 hwB j (by simpa using hj);split at h1
      .rename_i o ho';obtain⟨x,hx,hb⟩:=Array.any_eq_true'.1 h1;simp only[Y0q,Y1o,beq_iff_eq] at hb;exact⟨o,ho',x,hx,hb.1,hb.2⟩
      .cases h1
     .have h1:=Y1a.1 hwl j (by simpa using hj);simpa using h1
     .have h1:=Y1a.1 hall j (List.mem_range.2 (Y0u.1 hj).1);simp only[hj,Y1o,beq_iff_eq,hne,false_or,hun,Y1k,hno] at h1;simp only[Y0q,Y1o,Bool.not_eq_true'] at h1;refine⟨h1.1,h1.2.1,fun hl hc=>?_⟩;rcases h1.2.2 with (h2 | h2) | h2
      .rw[h2] at hl;cases hl
      .rw[h2] at hc;cases hc
      .exact h2
   .exact fun hR'=>absurd hR' hR
 | .two i j p q,0,listed,e,h,hB,hv=>by unfold planBB at hB;cases hB
 | .two i j p q,f+1,listed,e,h,hB,hv=>by
   unfold planBB at hB;simp only[Y0q] at hB;have hr:Region.ready md ops listed=[i,j]:=eq_of_beq hB.1.1;intro hR;refine⟨fun h0=>(by rw[hr] at h0;cases h0),fun k hk=>?_⟩;have hk':=hk;rw[hr] at hk';simp only[Y08,Y1x,or_false] at hk';rcases hk' with rfl | rfl
   .obtain⟨o,ho,hck,hv'⟩:=Z24 hk hv.1;rw[hck] at hv';exact⟨o,ho,Z2l hR (fun e' h' hk=>⟨hk.1,Z1u p f _ e' h' hB.1.2 hk.2⟩) hv'⟩
   .obtain⟨o,ho,hck,hv'⟩:=Z24 hk hv.2;rw[hck] at hv';exact⟨o,ho,Z2l hR (fun e' h' hk=>⟨hk.1,Z1u q f _ e' h' hB.2 hk.2⟩) hv'⟩
 | .three i j l p q r,0,listed,e,h,hB,hv=>by unfold planBB at hB;cases hB
 | .three i j l p q r,f+1,listed,e,h,hB,hv=>by
   unfold planBB at hB;simp only[Y0q] at hB;have hr:Region.ready md ops listed=[i,j,l]:=eq_of_beq hB.1.1.1;intro hR;refine⟨fun h0=>(by rw[hr] at h0;cases h0),fun k hk=>?_⟩;have hk':=hk;rw[hr] at hk';simp only[Y08,Y1x,or_false] at hk';rcases hk' with rfl | rfl | rfl
   .obtain⟨o,ho,hck,hv'⟩:=Z24 hk hv.1;rw[hck] at hv';exact⟨o,ho,Z2l hR (fun e' h' hk=>⟨hk.1,Z1u p f _ e' h' hB.1.1.2 hk.2⟩) hv'⟩
   .obtain⟨o,ho,hck,hv'⟩:=Z24 hk hv.2.1;rw[hck] at hv';exact⟨o,ho,Z2l hR (fun e' h' hk=>⟨hk.1,Z1u q f _ e' h' hB.1.2 hk.2⟩) hv'⟩
   .obtain⟨o,ho,hck,hv'⟩:=Z24 hk hv.2.2;rw[hck] at hv';exact⟨o,ho,Z2l hR (fun e' h' hk=>⟨hk.1,Z1u r f _ e' h' hB.2 hk.2⟩) hv'⟩
 | .four i j l m p q r s,0,listed,e,h,hB,hv=>by unfold planBB at hB;cases hB
 | .four i j l m p q r s,f+1,listed,e,h,hB,hv=>by
   unfold planBB at hB;simp only[Y0q] at hB;have hr:Region.ready md ops listed=[i,j,l,m]:=eq_of_beq hB.1.1.1.1;intro hR;refine⟨fun h0=>(by rw[h0] at hr;cases hr),fun k hk=>?_⟩;have hk':=hk;rw[hr] at hk';simp only[Y08,Y1x,or_false] at hk';rcases hk' with rfl | rfl | rfl | rfl
   .obtain⟨o,ho,hck,hv'⟩:=Z24 hk hv.1;rw[hck] at hv';exact⟨o,ho,Z2l hR (fun e' h' hk=>⟨hk.1,Z1u p f _ e' h' hB.1.1.1.2 hk.2⟩) hv'⟩
   .obtain⟨o,ho,hck,hv'⟩:=Z24 hk hv.2.1;rw[hck] at hv';exact⟨o,ho,Z2l hR (fun e' h' hk=>⟨hk.1,Z1u q f _ e' h' hB.1.1.2 hk.2⟩) hv'⟩
   .obtain⟨o,ho,hck,hv'⟩:=Z24 hk hv.2.2.1;rw[hck] at hv';exact⟨o,ho,Z2l hR (fun e' h' hk=>⟨hk.1,Z1u r f _ e' h' hB.1.2 hk.2⟩) hv'⟩
   .obtain⟨o,ho,hck,hv'⟩:=Z24 hk hv.2.2.2;rw[hck] at hv';exact⟨o,ho,Z2l hR (fun e' h' hk=>⟨hk.1,Z1u s f _ e' h' hB.2 hk.2⟩) hv'⟩
theorem SWP.drawB (bl:Nat->Bool) {id:Nat} {ops:Array Oper} {Q:Exit->Env->HS->Prop} {e:Env} {h:HS} (plan:Plan) (hm:P.follows .mixedOrders=true)
  (hB:planBB bl .any ops plan ops.size (Array.replicate ops.size false)=true) (hv:Z3y P ops.toList bl (Q .normal) plan e h):SWP P (.region id ops true) Q e h:=by
 intro Γ a w μ hI hE;exact wp_region_any hm (Zc8 (Γ:=Γ) (fun e' h' μ' a' w' hk hI' hE' hle=>⟨e',h',μ',hk,hI',hE',hle⟩) ops.size _ (hI.drew) hE (.refl μ) (Z1u plan _ _ e h hB hv))
end
theorem Wait.cutB {P:Program} {id:Nat} {ops:Array Oper} {Q:Exit->Env->HS->Prop} {e:Env} {h:HS} (bl:Nat->Bool) (plan:Plan) (hm:P.follows .mixedOrders=true)
  (hB:planBB bl .any ops plan ops.size (Array.replicate ops.size false)=true) (J:Env->HS->Prop) (h1:Z3y P ops.toList bl (fun e h=>CutK (J:=⟨J⟩) e h) plan e h) (h2:∀ e h,J e h->Q .normal e h) :
  Wait P (c:=⟨.region id ops true⟩) (Q:=⟨Q⟩) e h:=by
 refine SWP.mono (Q:=fun x e h=>match x with | .normal=>J e h | _=>False) (SWP.drawB bl plan hm hB h1) ?_;intro x e h hq;cases x with
 | normal=>exact h2 e h hq
 | _=>exact hq.elim
end Go.Am
end
namespace Go.Proofs.YtbcejndfbklikaaGreatDoor
section
open Go Go.Am
def Zi9 (S:Sch) (T O:Tbl) (j:Nat) (col:Int) (_:Unit) (next:Unit->Option (Sch × Int)):Option (Sch × Int):=
 getK T.cols col fun a=>getK O.cols (j:Int) fun b=>bif a.kind != b.kind then some (S,9) else next ()
def Zi6 (name tn:ByteArray) {ρ:Type} (k:Nat) (S:Sch) (next:Sch->Option ρ):Option ρ:=
 getK S.fks (k:Int) fun f=>bif strEq f.table name then next { S with fks:=S.fks.set k ⟨tn,f.cols,f.ref⟩ } else next S
def Zi5 (name tn:ByteArray) {ρ:Type} (k:Nat) (S:Sch) (next:Sch->Option ρ):Option ρ:=
 getK S.cons (k:Int) fun c=>bif strEq c.table name then next { S with cons:=S.cons.set k { c with table:=tn } } else next S
def Zde (T O:Tbl) (i j:Nat) (S:Sch):Option (Sch × Int):=
 chkK (T.pk.length<=O.cols.length/\0 < O.cols.length/\0 < T.cols.length/\T.cols.length+O.cols.length<=LIM) (some ({ S with tables:=(S.tables.set i { T with cols:=T.cols++O.cols.drop T.pk.length }).take j++(S.tables.set i { T with cols:=T.cols++O.cols.drop T.pk.length }).drop (j+1) },0))
def Z3x (S:Sch) (i:Nat) (name:ByteArray):Option (Sch × Int):=
 bindK (Z02 S name) fun v=>bif !v.2 then some (S,4) else getK S.tables (i:Int) fun T=>getK S.tables v.1 fun O=>bif ((i:Int) == v.1) then some (S,9) else
 bindK (Z1g O.pk (seqI T.pk.length)) fun b=>bif !b then some (S,9) else
 forK (Zi9 S T O) (fun _=>bindK (Z0s S ⟨name,seqI T.pk.length,T.name⟩) fun q=>bif q.2 != 0 then some (q.1,10) else
  bindK (Z04 q.1.fks fun fk=>Z3b fk name) fun b=>bif b then some (q.1,10) else
  bindK (Z14 q.1 name fun c=>Z28 c T.pk.length T T.cols.length) fun S2=>
  countK (Zi6 name T.name) (fun S3=>countK (Zi5 name T.name) (Zde T O i v.1.toNat) S3.cons.length 0 S3) S2.fks.length 0 S2) T.pk 0 ()
set_option maxHeartbeats 2000000 in
theorem Z90 (h:HS) (l:Lab) (tc fc oc:C) (ta fa oa:List Lab) (S S':Sch) (i:Nat) (name:ByteArray) (r:Int) (hm:Is (Z3x S i name) (S',r)) (s:Sc h l S tc fc oc ta fa oa) (K:V->HS->Prop)
  (hk:KeepS h l (ta++(fa++oa)) S' (.one (.d (.int .i64 r))) K) :
  HSpec prog 134 [.one (.ptr l 0),.one (.d (.int .i64 (i:Int))),.one (.d (.str name))] h K:=by
 replace hm:=hm.bind;obtain⟨v,hv,hm⟩:=hm;have hs0:Same h ((h.setBox (h.ep,80) [.d (.str name)]).next) []:=(Same.refl.setBox (.inr (Y09 _))).next;have s0:=s.frame hs0;have hb0:=s0.box;have bx5:(h.setBox (h.ep,80) [.d (.str name)]).next.box (h.ep,80)=some [.d (.str name)]:=by simp
 refine HSpec.of_vc Tryz.func134 rfl (by kernel_rfl) (n:=188) rfl rfl (by simp) ?_;have hbs:=s.box;have hep:h.ep < ((h.setBox (h.ep,80) [.d (.str name)]).next).ep:=by simp
 simp;generalize (h.setBox (h.ep,80) [.d (.str name)]).next=HX at *;refine Wait.cut (Plan.then_ [0,1,2,3,4,5,6,7,8,9] .done) follows (by kernel_rfl) (fun e h'=>e.n=188/\e.get 0=.one (.ptr l 0)/\e.get 1=.one (.d (.int .i64 (i:Int)))/\e.get 5=.one (.ptr (h.ep,80) 0)/\e.get 7=.one (.d (.int .i64 v.1))/\e.get 8=.one (.d (.bool v.2))/\Same HX h' []) ?_ ?_
 .simp[hb0,bx5];refine Z00 (HSpec.of_lend (c_schema_FindTable S name v hv) ⟨.agg s0.frz,.one (.frz (.data rfl)),trivial⟩ rfl ?_);simp;exact⟨fun _ _ x=>x,CutK.of (by simp[Same.refl.next])⟩
 .rintro e h1 ⟨hn,h0,h1',h5,h7,h8,hs1⟩;have bx5':h1.box (h.ep,80)=some [.d (.str name)]:=by rw[hs1.2 _ hep (by simp)];exact bx5
  have s1:=s0.frame hs1;have hb1:=s1.box;have hy:=hs0.trans hs1;simp[hn,h8];cases hv2:v.2 with
  | false=>
    rw[hv2] at hm;have e1:=r_ret hm;simp only[Y07] at e1;obtain⟨rfl,rfl⟩:=e1;simp[hn];exact hk _ _ s1.ows (hy.mono (by simp)) (fun k hk=>.inl hk)
  | true=>
    simp only[hv2,Y1v,cond_false] at hm;replace hm:=hm.getN;obtain⟨T,hi,hm⟩:=hm;replace hm:=hm.get;obtain⟨O,hv0,hj,hm⟩:=hm;obtain⟨j,hj1⟩:∃ j:Nat,v.1=j:=⟨v.1.toNat,by omega⟩;rw[hj1] at h7 hj hm;simp at hj;have hlt:i < S.tables.length:=(Y00.1 hi).1;have hltj:j < S.tables.length:=(Y00.1 hj).1;obtain⟨lt,c1,c2,B,tv⟩:=s1.tbl hi;obtain⟨cap,rfl⟩:=tv.hd;have bx:=tv.el.box;have r0:=tv.el.rd0 3 (by omega);have r1:=tv.el.rd 1 1 (by omega);have r2:=tv.el.rd 2 1 (by omega);simp at r0 r1 r2;obtain⟨d1,d2,tw⟩:=s1.tblK bx hj;have q0:=tw.el.rd0 3 (by omega);simp at q0;simp;refine Wait.cut (Plan.then_ [0,1,2,3,4,5,6,7,8,9,11] (.three 10 14 15 (Plan.then_ [12] (.three 13 14 15 (Plan.then_ [] (.two 14 15 (Plan.then_ [15,16,17] .done) (Plan.then_ [14,16,17] .done))) (Plan.then_ [] (.two 13 15 (Plan.then_ [15,16,17] .done) (Plan.then_ [] (.two 13 16 (Plan.then_ [16,17] .done) (Plan.then_ [13,17] .done))))) (Plan.then_ [] (.two 13 14 (Plan.then_ [14,16,17] .done) (Plan.then_ [] (.two 13 16 (Plan.then_ [16,17] .done) (Plan.then_ [13,17] .done))))))) (Plan.then_ [] (.two 10 15 (Plan.then_ [12] (.two 13 15 (Plan.then_ [15,16,17] .done) (Plan.then_ [] (.two 13 16 (Plan.then_ [16,17] .done) (Plan.then_ [13,17] .done))))) (Plan.then_ [] (.two 10 16 (Plan.then_ [12] (.two 13 16 (Plan.then_ [16,17] .done) (Plan.then_ [13,17] .done))) (Plan.then_ [10,12,13,17] .done))))) (Plan.then_ [] (.two 10 14 (Plan.then_ [12] (.two 13 14 (Plan.then_ [14,16,17] .done) (Plan.then_ [] (.two 13 16 (Plan.then_ [16,17] .done) (Plan.then_ [13,17] .done))))) (Plan.then_ [] (.two 10 16 (Plan.then_ [12] (.two 13 16 (Plan.then_ [16,17] .done) (Plan.then_ [13,17] .done))) (Plan.then_ [10,12,13,17] .done))))))) follows (by kernel_rfl) (fun e h'=>e.n=188/\e.get 0=.one (.ptr l 0)/\e.get 1=.one (.d (.int .i64 (i:Int)))/\e.get 5=.one (.ptr (h.ep,80) 0)/\e.get 7=.one (.d (.int .i64 (j:Int)))/\Same h1 h' [] /\
     ∃ p9 p10:Lab,p9≠p10/\(h1.ep<=p9.1/\p9.1 < h'.ep)/\(h1.ep<=p10.1/\p10.1 < h'.ep)/\e.get 9=.one (.ptr p9 0)/\e.get 10=.one (.ptr p10 0)/\h'.box p9=some [.d (.str T.name),c1,c2]/\h'.box p10=some [.d (.str O.name),d1,d2]) ?_ ?_
    .have hnl:=ne_new (s1.lt l (by simp));have hnt:=ne_new (s1.lt lt (by simp[tv.tm]));simp (maxDischargeDepth:=12) [hn,h0,h1',h5,h7,hb1,hlt,hltj,bx,r0,q0,hnl,hnt,le_s]
     repeat' (with_reducible apply And.intro)
     all_goals first
      | (refine CutK.of ⟨?_,?_,?_,?_,?_,(((Same.refl.setBox (.inr ?_)).next.setBox (.inr ?_)).next.setBox (.inr ?_)).setBox (.inr ?_),(h1.ep,144),(h1.ep+1,160),?_,⟨?_,?_⟩,⟨?_,?_⟩,?_,?_,?_,?_⟩
         all_goals first
          | (simp[hn,h0,h1',h5,h7];done)
          | (simp<;>omega))
      | (refine CutK.of ⟨?_,?_,?_,?_,?_,(((Same.refl.setBox (.inr ?_)).next.setBox (.inr ?_)).next.setBox (.inr ?_)).setBox (.inr ?_),(h1.ep+1,144),(h1.ep,160),?_,⟨?_,?_⟩,⟨?_,?_⟩,?_,?_,?_,?_⟩
         all_goals first
          | (simp[hn,h0,h1',h5,h7];done)
          | (simp<;>omega))
    .rintro e h2 ⟨hn,h0,h1',h5,h7,hs2,p9,p10,hp,hp9,hp10,h9,h10,b9,b10⟩;have s2:=s1.frame hs2;have hb2:=s2.box;have hy2:=hy.trans hs2;have bx52:h2.box (h.ep,80)=some [.d (.str name)]:=by rw[hs2.2 _ (Y04 hep hs1.1) (by simp)];exact bx5'
     have bxl2:h2.box lt=some B:=by rw[hs2.2 _ (s1.lt lt (by simp[tv.tm])) (by simp)];exact bx
     have tT:∀ h',Same h2 h' []->TblV h' l S (.mrow lt 0 S.tables.length cap) fc oc ta fa oa i T lt c1 c2 B:=fun h' hs'=>by
      have e9:=hs'.2 lt (s2.lt lt (by simp[tv.tm])) (by simp);rw[bxl2] at e9;obtain⟨a1,a2,tv9⟩:=(s2.frame hs').tblK e9 hi;obtain⟨rfl,rfl⟩:a1=c1/\a2=c2:=by
       have:=tv9.el.rd0 3 (by omega)
       rw[r0] at this;simp at this;exact⟨this.1.symm,this.2.symm⟩
      exact tv9
     have tO:∀ h',Same h2 h' []->TblV h' l S (.mrow lt 0 S.tables.length cap) fc oc ta fa oa j O lt d1 d2 B:=fun h' hs'=>by
      have e9:=hs'.2 lt (s2.lt lt (by simp[tv.tm])) (by simp);rw[bxl2] at e9;obtain⟨a1,a2,tv9⟩:=(s2.frame hs').tblK e9 hj;obtain⟨rfl,rfl⟩:a1=d1/\a2=d2:=by
       have:=tv9.el.rd0 3 (by omega)
       rw[q0] at this;simp at this;exact⟨this.1.symm,this.2.symm⟩
      exact tv9
     simp[hn,h9,b9];refine Z1n tv.n2.1 ?_;simp[hn];have hz:Same h2 ((h2.setBox (h2.ep,176) [C.d (D.int IntKind.i64 0)]).next.setBox (h2.ep,176) [C.d (D.int IntKind.i64 T.pk.length)]) []:=((Same.refl.setBox (.inr (Y09 _))).next).setBox (.inr (Y09 _));generalize hX2:(h2.setBox (h2.ep,176) [C.d (D.int IntKind.i64 0)]).next.setBox (h2.ep,176) [C.d (D.int IntKind.i64 T.pk.length)]=HB at hz |-;have bb11:HB.box (h2.ep,176)=some [C.d (D.int IntKind.i64 T.pk.length)]:=by rw[<- hX2];simp
     have hepB:h2.ep < HB.ep:=by rw[<- hX2];simp
     have hyB:=hy2.trans hz;have bb9:HB.box p9=some [.d (.str T.name),c1,c2]:=by rw[hz.2 _ hp9.2 (by simp)];exact b9
     have bb10:HB.box p10=some [.d (.str O.name),d1,d2]:=by rw[hz.2 _ hp10.2 (by simp)];exact b10
     have hplim:T.pk.length<=LIM:=tv.n2.2;have hep1:h.ep < h1.ep:=Y04 hep hs1.1;have hep12:=hs2.1;have bb5:HB.box (h.ep,80)=some [.d (.str name)]:=by rw[hz.2 _ (by simp<;>omega) (by simp)];exact bx52
     cases hij:(i:Int) == (j:Int) with
     | true=>
       simp only[hij,cond_true] at hm;have e1:=r_ret hm;simp only[Y07] at e1;obtain⟨rfl,rfl⟩:=e1;refine Wait.cut (Plan.then_ [0,1,2,3,4,5,6,7,8,9,10] .done) follows (by kernel_rfl) (fun e h'=>e.n=188/\e.get 55=.one (.d (.bool true))/\h'=HB) ?_ ?_
       .simp[hn,h1',h7,hij];exact⟨BoxLe.refl _,CutK.of ⟨by simp[hn],by simp,rfl⟩⟩
       .rintro e h3 ⟨hn,h55,rfl⟩;simp[hn,h55];exact hk _ _ (s.frame hyB).ows (hyB.mono (by simp)) (fun k hk=>.inl hk)
     | false=>
       simp only[hij,cond_false] at hm;replace hm:=hm.bind;obtain⟨b,hbv,hm⟩:=hm;have hij1:¬ (i:Int)=(j:Int):=by simpa using hij
       have hij2:¬ i=j:=by omega
       refine Wait.cut (Plan.then_ [0,1,2,3,4,5,6,7,8,9,10] .done) follows (by kernel_rfl) (fun e h'=>e.n=188/\e.get 0=.one (.ptr l 0)/\e.get 1=.one (.d (.int .i64 (i:Int)))/\e.get 5=.one (.ptr (h.ep,80) 0)/\e.get 7=.one (.d (.int .i64 (j:Int)))/\e.get 9=.one (.ptr p9 0)/\e.get 10=.one (.ptr p10 0)/\e.get 11=.one (.ptr (h2.ep,176) 0)/\e.get 55=.one (.d (.bool !b))/\Same HB h' []) ?_ ?_
       .simp[hn,h1',h7,h10,hij,bb10,bb11];refine Z00 (Z3k _ T.pk.length hplim _ (fun pc g mp hs3 hlp hbox=>?_));simp[hn];refine⟨hbox,?_⟩;rw[Z5i] at mp;refine Z00 (HSpec.of_lend (c_slices_Equal_Int O.pk (seqI T.pk.length) b hbv) ⟨.one (.frz ((tO g (hz.trans hs3)).f2 _ .refl)),.one (.frz ((Ow.nrow (n:=1) mp rfl (by simp)).nfrz)),trivial⟩ rfl ?_);simp[hn];exact⟨fun _ _ x=>x,CutK.of ⟨by simp[hn],by simp[h0],by simp[h1'],by simp[h5],by simp[h7],by simp[h9],by simp[h10],by simp,by simp,hs3.next⟩⟩
       .rintro e h3 ⟨hn,h0,h1',h5,h7,h9,h10,h11,h55,hs3⟩;have hz3:=hz.trans hs3;have hy3:=hy2.trans hz3;have s3:=s.frame hy3;simp[hn,h55];cases b with
        | false=>
          have e1:=r_ret hm;simp only[Y07] at e1;obtain⟨rfl,rfl⟩:=e1;simp[hn];exact hk _ _ s3.ows (hy3.mono (by simp)) (fun k hk=>.inl hk)
        | true=>
          simp only[Y1v,cond_false] at hm;have b93:h3.box p9=some [.d (.str T.name),c1,c2]:=by rw[hs3.2 _ (by omega) (by simp)];exact bb9
          have b103:h3.box p10=some [.d (.str O.name),d1,d2]:=by rw[hs3.2 _ (by omega) (by simp)];exact bb10
          have b113:h3.box (h2.ep,176)=some [C.d (D.int IntKind.i64 T.pk.length)]:=by rw[hs3.2 _ (by simpa using hepB) (by simp)];exact bb11
          have b53:h3.box (h.ep,80)=some [.d (.str name)]:=by rw[hs3.2 _ (by simp<;>omega) (by simp)];exact bb5
          simp[hn,h9,b93];refine Z1n tv.n2.1 ?_;simp[hn];have t3:=tT h3 hz3;have u3:=tO h3 hz3;refine Wait.for (xs:=T.pk) (s0:=()) (fun k _ e g=>e.n=188/\e.get 0=.one (.ptr l 0)/\e.get 1=.one (.d (.int .i64 (i:Int)))/\e.get 5=.one (.ptr (h.ep,80) 0)/\e.get 7=.one (.d (.int .i64 (j:Int)))/\e.get 9=.one (.ptr p9 0)/\e.get 10=.one (.ptr p10 0)/\e.get 11=.one (.ptr (h2.ep,176) 0)/\e.get 57=.one c2/\e.get 58=.one (.d (.int .i64 (T.pk.length:Int)))/\e.get 59=.one (.d (.int .i64 (k:Int)))/\g=h3) hm ⟨by simp[hn],by simp[h0],by simp[h1'],by simp[h5],by simp[h7],by simp[h9],by simp[h10],by simp[h11],by simp,by simp,by simp,rfl⟩ ?_ ?_
          .rintro k _ e g ⟨hn,h0,h1',h5,h7,h9,h10,h11,h57,h58,h59,rfl⟩ hltk hm;simp only[Zi9] at hm;replace hm:=hm.get;obtain⟨ca,hca0,hca,hm⟩:=hm;replace hm:=hm.getN;obtain⟨cb,hcb,hm⟩:=hm;have hw:IntKind.i64.wrap ((k:Int)+1)=(k:Int)+1:=Y0a _ (by have h9':T.pk.length<=2097152:=hplim;omega);obtain⟨lp,cp,Bp,rfl,ep,-⟩:=t3.e2 k _ (Y01 hltk);have bp:=ep.box;have rp:=ep.rd0 1 (by omega);obtain⟨n,hn1⟩:∃ n:Nat,T.pk[k]=n:=⟨(T.pk[k]).toNat,by omega⟩;rw[hn1] at rp hca;simp at rp hca;have hnl:n < T.cols.length:=(Y00.1 hca).1;have hkl:k < O.cols.length:=(Y00.1 hcb).1;obtain⟨l1,cp1,B1,rfl,el1,-⟩:=t3.e1 n ca hca;obtain⟨l2,cp2,B2,rfl,el2,-⟩:=u3.e1 k cb hcb;have bx1:=el1.box;have bx2:=el2.box;have q1:=el1.rd 1 1 (by omega);have q2:=el2.rd 1 1 (by omega);simp at q1 q2;simp[hn,h57,h58,h59,hltk,bp,rp];refine Wait.cut (Plan.then_ [0,1,2,3,4,5,6,7,8,9,10,11,12] .done) follows (by kernel_rfl) (fun e g'=>e.n=188/\e.get 0=.one (.ptr l 0)/\e.get 1=.one (.d (.int .i64 (i:Int)))/\e.get 5=.one (.ptr (h.ep,80) 0)/\e.get 7=.one (.d (.int .i64 (j:Int)))/\e.get 9=.one (.ptr p9 0)/\e.get 10=.one (.ptr p10 0)/\e.get 11=.one (.ptr (h2.ep,176) 0)/\e.get 57=.one (.mrow lp 0 T.pk.length cp)/\e.get 58=.one (.d (.int .i64 (T.pk.length:Int)))/\e.get 59=.one (.d (.int .i64 (k:Int)))/\e.get 76=.one (.d (.bool (ca.kind != cb.kind)))/\g'=g) ?_ ?_
           .simp[hn,h9,h10,b93,b103,hn1,hnl,hkl,bx1,bx2,q1,q2];exact CutK.of ⟨by simp[hn],by simp[h0],by simp[h1'],by simp[h5],by simp[h7],by simp[h9],by simp[h10],by simp[h11],by simp[h57],by simp[h58],by simp[h59],by simp,rfl⟩
           .rintro e g' ⟨hn,h0,h1',h5,h7,h9,h10,h11,h57,h58,h59,h76,rfl⟩;simp[hn,h76];cases hkk:ca.kind != cb.kind with
            | true=>
              simp only[hkk,cond_true] at hm;have e1:=r_ret hm;simp only[Y07] at e1;obtain⟨rfl,rfl⟩:=e1;simp[hn,hkk];exact hk _ _ s3.ows (hy3.mono (by simp)) (fun k hk=>.inl hk)
            | false=>
              simp only[hkk,cond_false] at hm;simp[hn,h59,hkk,hw];exact BackF.of () ⟨⟨by simp[hn],by simp[h0],by simp[h1'],by simp[h5],by simp[h7],by simp[h9],by simp[h10],by simp[h11],by simp[h57],by simp[h58],by simp,rfl⟩,hm⟩
          .rintro _ e g ⟨hn,h0,h1',h5,h7,h9,h10,h11,h57,h58,h59,rfl⟩ hm;replace hm:=hm.bind;obtain⟨q,hq,hm⟩:=hm;simp[hn,h58,h59];have hep3:=hs3.1;refine Wait.cutB (fun k=>k == 3) (Plan.then_ [0,1,2,4,5,3,6,7,8] .done) follows (by kernel_rfl) (fun e g'=>e.n=188/\e.get 0=.one (.ptr l 0)/\e.get 1=.one (.d (.int .i64 (i:Int)))/\e.get 5=.one (.ptr (h.ep,80) 0)/\e.get 7=.one (.d (.int .i64 (j:Int)))/\e.get 9=.one (.ptr p9 0)/\e.get 10=.one (.ptr p10 0)/\e.get 11=.one (.ptr (h2.ep,176) 0)/\e.get 14=.one (.d (.int .i64 q.2))/\∃ fc' fa',Sc g' l q.1 (.mrow lt 0 S.tables.length cap) fc' oc ta fa' oa/\Same g g' (l::fa)/\(∀ k ∈ fa',k ∈ fa)) ?_ ?_
           .simp[hn,h0,h5,h9,h11,b53,b93,b113,Plan.then_,Z3y,planOps,isCallAt,callKind];refine Z00 (Z3k _ T.pk.length hplim _ (fun pc g2 mp hs4 hlp hbox=>?_));simp[hn];refine⟨hbox,?_⟩;refine Z00 (Z7r g2 l _ fc oc ta fa oa S q.1 ⟨name,seqI T.pk.length,T.name⟩ [.d (.str name),pc,.d (.str T.name)] q.2 hq (s3.frame hs4) (fun h' hs'=>⟨.data rfl,?_,.data rfl,trivial⟩) _ (fun g3 fc' fa' s4 hs5 hfa'=>?_))
            .rw[Z5i] at mp;exact (Ow.nrow (n:=1) (mp.frame fun k hk=>hs'.2 k (hlp k hk).2 (by simp)) rfl (by simp)).nfrz
            .simp[hn];exact CutK.of ⟨by simp[hn],by simp[h0],by simp[h1'],by simp[h5],by simp[h7],by simp[h9],by simp[h10],by simp[h11],by simp,fc',fa',s4,(hs4.mono (by simp)).trans hs5,hfa'⟩
           .rintro e ga ⟨hn,h0,h1',h5,h7,h9,h10,h11,h14,fc',fa',s4,hs4,hfa'⟩;obtain⟨S1,q2⟩:=q;simp only at hq hm h14 s4;have ht4:=Zg8 hq;have hi4:S1.tables[i]? = some T:=by rw[ht4];exact hi
            have hj4:S1.tables[j]? = some O:=by rw[ht4];exact hj
            have hy4:Same h ga (l::(ta++(fa++oa))):=(hy3.mono (by simp)).trans (hs4.mono fun k hk=>by simp only[Y08,Y02] at hk |-;exact hk.imp_right fun h=>.inr (.inl h));have fresh:∀ k:Lab,h.ep<=k.1->k ∉ l::(ta++(fa++oa)):=fun k hk h2=>by have:=s.lt k h2;omega
            have fresh2:∀ k:Lab,h.ep<=k.1->k ∉ l::fa:=fun k hk h2=>fresh k hk (by simp only[Y08,Y02] at h2 |-;exact h2.imp_right fun h=>.inr (.inl h));have b94:ga.box p9=some [.d (.str T.name),c1,c2]:=by rw[hs4.2 _ (by omega) (fresh2 _ (by omega))];exact b93
            have b104:ga.box p10=some [.d (.str O.name),d1,d2]:=by rw[hs4.2 _ (by omega) (fresh2 _ (by omega))];exact b103
            have b114:ga.box (h2.ep,176)=some [C.d (D.int IntKind.i64 T.pk.length)]:=by rw[hs4.2 _ (by simp<;>omega) (fresh2 _ (by simp<;>omega))];exact b113
            have b54:ga.box (h.ep,80)=some [.d (.str name)]:=by rw[hs4.2 _ (by simp<;>omega) (fresh2 _ (by simp))];exact b53
            have hep4:=hs4.1;have hnd:=s.nd;simp only[Y1z,Y0e,Y02,not_or] at hnd;have htaf:∀ k ∈ ta,k≠l/\k ∉ fa/\k ∉ oa:=fun k hk=>⟨fun he=>hnd.1.1 (he ▸ hk),fun h2=>hnd.2.2.2 k hk k (.inl h2) rfl,fun h2=>hnd.2.2.2 k hk k (.inr h2) rfl⟩;have bl4:ga.box lt=some B:=by
             rw[hs4.2 lt (s3.lt lt (by simp[tv.tm])) (fun h2=>by
              have:=htaf lt tv.tm
              simp only[Y08] at h2;exact h2.elim this.1 this.2.1)]
             exact t3.el.box
            have mkT:∀ {h':HS} {S9:Sch} {fc9 oc9:C} {fa9 oa9:List Lab},Sc h' l S9 (.mrow lt 0 S.tables.length cap) fc9 oc9 ta fa9 oa9->S9.tables=S.tables->h'.box lt=some B->TblV h' l S9 (.mrow lt 0 S.tables.length cap) fc9 oc9 ta fa9 oa9 i T lt c1 c2 B/\TblV h' l S9 (.mrow lt 0 S.tables.length cap) fc9 oc9 ta fa9 oa9 j O lt d1 d2 B:=fun {h' S9 fc9 oc9 fa9 oa9} s9 ht9 hb9=>by
             refine⟨?_,?_⟩
             .obtain⟨a1,a2,tv9⟩:=s9.tblK hb9 (i:=i) (T:=T) (by rw[ht9];exact hi);obtain⟨rfl,rfl⟩:a1=c1/\a2=c2:=by
               have:=tv9.el.rd0 3 (by omega)
               rw[r0] at this;simp at this;exact⟨this.1.symm,this.2.symm⟩
              exact tv9
             .obtain⟨a1,a2,tv9⟩:=s9.tblK hb9 (i:=j) (T:=O) (by rw[ht9];exact hj);obtain⟨rfl,rfl⟩:a1=d1/\a2=d2:=by
               have:=tv9.el.rd0 3 (by omega)
               rw[q0] at this;simp at this;exact⟨this.1.symm,this.2.symm⟩
              exact tv9
            have ks:∀ k ∈ ta++(fa'++oa),k ∈ ta++(fa++oa):=fun k hk=>by simp only[Y02] at hk |-;exact hk.imp_right fun h=>h.imp_left (hfa' k)
            simp[hn,h14];cases hq0:q2 != 0 with
            | true=>
              simp only[hq0,cond_true] at hm;have e1:=r_ret hm;simp only[Y07] at e1;obtain⟨rfl,rfl⟩:=e1;simp[hn,hq0];exact hk _ _ s4.ows hy4 (fun k hk=>.inl (ks k hk))
            | false=>
              simp only[hq0,cond_false] at hm;replace hm:=hm.bind;obtain⟨b,hbv,hm⟩:=hm;have hb4:=s4.box;simp[hn,h0,h5,h14,hq0,hb4];refine Z00 (HSpec.of_lend (Z2k S1.fks 168 [[.str name]] (fun fk=>Z3b fk name) (fun xa v hv=>c_evolution_joinTables_1 xa name v hv) b hbv) ⟨.one (.frz s4.ffrz),.one (.fn rfl ?_),trivial⟩ rfl ?_)
              .intro jj cp ds hj hd;cases jj with
               | zero=>
                 simp at hj hd;subst hj hd;exact⟨_,b54,FrzCs.datas (ds:=[.str name])⟩
               | succ jj=>simp at hj
              .have hz5:Same ga ga.next []:=Same.refl.next;have s5:=s4.frame hz5;simp[hn];cases b with
               | true=>
                 have e1:=r_ret hm;simp only[Y07] at e1;obtain⟨rfl,rfl⟩:=e1;simp[hn];exact hk _ _ s5.ows (hy4.trans (hz5.mono (by simp))) (fun k hk=>.inl (ks k hk))
               | false=>
                 simp only[cond_false] at hm;replace hm:=hm.bind;obtain⟨S2,hm2,hm⟩:=hm;simp[hn,h9,b94];refine Z1n tv.n1.1 ?_;have h5n:=ne_new (l:=(h.ep,80)) (n:=ga.ep) (by simp<;>omega);simp (maxDischargeDepth:=12) [hn,h0,h5,h9,h11,h5n,b54,le_s];have hz6:Same ga ((ga.next.setBox (ga.ep+1,240) [C.d (D.int IntKind.i64 0)]).next.setBox (ga.ep+1,240) [C.d (D.int IntKind.i64 T.cols.length)]) []:=((hz5.setBox (.inr (by simp))).next).setBox (.inr (by simp));generalize hX7:(ga.next.setBox (ga.ep+1,240) [C.d (D.int IntKind.i64 0)]).next.setBox (ga.ep+1,240) [C.d (D.int IntKind.i64 T.cols.length)]=HC at hz6 |-;have s6:=s4.frame hz6;have hep6:ga.ep+1 < HC.ep:=by rw[<- hX7];simp
                 have b15:HC.box (ga.ep+1,240)=some [C.d (D.int IntKind.i64 T.cols.length)]:=by rw[<- hX7];simp
                 have kC:∀ k:Lab,k.1 < ga.ep->HC.box k=ga.box k:=fun k hk=>hz6.2 k hk (by simp);have fr6:∀ k:Lab,h.ep<=k.1->k ∉ fa'++oa:=fun k hk h2=>fresh k hk (by simp only[Y08,Y02] at h2 |-;exact .inr (.inr (h2.imp_left (hfa' k))));have blC:HC.box lt=some B:=by rw[kC lt (s4.lt lt (by simp[tv.tm]))];exact bl4
                 obtain⟨t6,u6⟩:=mkT s6 ht4 blC;have lend:∀ h',Same HC h' (fa'++oa)->LendVs h' ([Cap.lab (h2.ep,176),Cap.lab p9,Cap.lab (ga.ep+1,240)].map capV) (capsOf [[.int .i64 T.pk.length],T.enc,[.int .i64 T.cols.length]]):=fun h' hs'=>by
                  refine⟨.one (.ptr (cs:=[C.d (D.int IntKind.i64 T.pk.length)]) ?_ (FrzCs.datas (ds:=[.int .i64 T.pk.length]))),.one (.ptr (cs:=[.d (.str T.name),c1,c2]) ?_ (s6.tblFrz t6 hi4 h' fun k hk=>hs'.2 k (s6.lt k (by simp[hk])) fun h2=>?_)),.one (.ptr (cs:=[C.d (D.int IntKind.i64 T.cols.length)]) ?_ (FrzCs.datas (ds:=[.int .i64 T.cols.length]))),trivial⟩
                  .rw[hs'.2 _ (by simp<;>omega) (fr6 _ (by simp<;>omega)),kC _ (by simp<;>omega)];exact b114
                  .rw[hs'.2 _ (by omega) (fr6 _ (by omega)),kC _ (by omega)];exact b94
                  .have:=htaf k hk
                   rcases Y02.1 h2 with h2 | h2
                   .exact this.2.1 (hfa' k h2)
                   .exact this.2.2 h2
                  .rw[hs'.2 _ (by simpa using hep6) (fr6 _ (by simp<;>omega))];exact b15
                 refine Z00 (Z62 HC l _ fc' oc ta fa' oa S1 S2 name 170 [Cap.lab (h2.ep,176),Cap.lab p9,Cap.lab (ga.ep+1,240)] [[.int .i64 T.pk.length],T.enc,[.int .i64 T.cols.length]] _ hm2 s6 lend (fun x v hv=>c_evolution_joinTables_2 x T.pk.length T T.cols.length v hv) _ (fun g7 s7 hs7=>?_));have ht7:S2.tables=S.tables:=(Zgt hm2).trans ht4;have hb7:=s7.box;simp[hn,h0,hb7];refine Z1n s7.len.2.1.1 ?_;simp[hn];have en2:∀ h',Same HC h' (fa'++oa)->h'.box (h.ep,80)=some [.d (.str name)]/\h'.box p9=some [.d (.str T.name),c1,c2]/\h'.box p10=some [.d (.str O.name),d1,d2]/\h'.box (h2.ep,176)=some [C.d (D.int IntKind.i64 T.pk.length)]/\h'.box lt=some B:=fun h' hs'=>by
                  refine⟨?_,?_,?_,?_,?_⟩
                  .rw[hs'.2 _ (by simp<;>omega) (fr6 _ (by simp)),kC _ (by simp<;>omega)];exact b54
                  .rw[hs'.2 _ (by omega) (fr6 _ (by omega)),kC _ (by omega)];exact b94
                  .rw[hs'.2 _ (by omega) (fr6 _ (by omega)),kC _ (by omega)];exact b104
                  .rw[hs'.2 _ (by simp<;>omega) (fr6 _ (by simp<;>omega)),kC _ (by simp<;>omega)];exact b114
                  .rw[hs'.2 lt (s6.lt lt (by simp[tv.tm])) fun h2=>?_]
                   .exact blC
                   .have:=htaf lt tv.tm
                    rcases Y02.1 h2 with h2 | h2
                    .exact this.2.1 (hfa' lt h2)
                    .exact this.2.2 h2
                 refine Wait.count (N:=(S2.fks.length:Int)) (s0:=S2) (fun k S3 e g=>e.n=188/\e.get 0=.one (.ptr l 0)/\e.get 1=.one (.d (.int .i64 (i:Int)))/\e.get 5=.one (.ptr (h.ep,80) 0)/\e.get 7=.one (.d (.int .i64 (j:Int)))/\e.get 9=.one (.ptr p9 0)/\e.get 10=.one (.ptr p10 0)/\e.get 11=.one (.ptr (h2.ep,176) 0)/\e.get 105=.one (.d (.int .i64 (S2.fks.length:Int)))/\e.get 106=.one (.d (.int .i64 (k:Int)))/\S3.fks.length=S2.fks.length/\S3.tables=S.tables/\Sc g l S3 (.mrow lt 0 S.tables.length cap) fc' oc ta fa' oa/\Same HC g (fa'++oa)) (by simpa using hm) ⟨by simp[hn],by simp[h0],by simp[h1'],by simp[h5],by simp[h7],by simp[h9],by simp[h10],by simp[h11],by simp,by simp,rfl,ht7,s7,hs7⟩ ?_ ?_
                 .rintro k S3 e g ⟨hn,h0,h1',h5,h7,h9,h10,h11,hlen,hcnt,hl3,ht3,s8,hs8⟩ hlt8 hm;simp only[Zi6] at hm;replace hm:=hm.getN;obtain⟨f,hf,hm⟩:=hm;have hltk:k < S2.fks.length:=by omega
                  have hltk2:k < S3.fks.length:=by omega
                  have hfl:=s8.len.2.1.2;simp only[lim_eq] at hfl;have hw:IntKind.i64.wrap ((k:Int)+1)=(k:Int)+1:=Y0a _ (by omega);have hb8:=s8.box;obtain⟨lf,cf,Bf,rfl,bxf,hle⟩:=s8.fkH hf;obtain⟨hlf,hllf,c1f,el,-,-,w0,-⟩:=s8.fkK bxf hf;have rf:=el.rd0 1 (by omega);simp at rf;obtain⟨b58,b98,b108,b118,bl8⟩:=en2 g hs8;simp[hn,hlen,hcnt,hltk];refine Wait.cut (Plan.then_ [0,1,2,3,4,5,6,7,8,9] .done) follows (by kernel_rfl) (fun e g'=>e.n=188/\e.get 0=.one (.ptr l 0)/\e.get 1=.one (.d (.int .i64 (i:Int)))/\e.get 5=.one (.ptr (h.ep,80) 0)/\e.get 7=.one (.d (.int .i64 (j:Int)))/\e.get 9=.one (.ptr p9 0)/\e.get 10=.one (.ptr p10 0)/\e.get 11=.one (.ptr (h2.ep,176) 0)/\e.get 105=.one (.d (.int .i64 (S2.fks.length:Int)))/\e.get 106=.one (.d (.int .i64 (k:Int)))/\e.get 16=.one (.d (.int .i64 (k:Int)))/\e.get 118=.one (.d (.bool (strEq f.table name)))/\g'=g) ?_ ?_
                  .simp[hn,h0,h5,hltk2,hb8,b58,bxf,rf];exact CutK.of ⟨by simp[hn],by simp[h0],by simp[h1'],by simp[h5],by simp[h7],by simp[h9],by simp[h10],by simp[h11],by simp[hlen],by simp[hcnt],by simp,by simp,rfl⟩
                  .rintro e g' ⟨hn,h0,h1',h5,h7,h9,h10,h11,hlen,hcnt,hidx,hcmp,rfl⟩;simp[hn,hcmp];cases hbt:strEq f.table name with
                   | false=>
                     simp only[hbt,cond_false] at hm;simp[hn,hcnt,hw];exact BackF.of S3 ⟨⟨by simp[hn],by simp[h0],by simp[h1'],by simp[h5],by simp[h7],by simp[h9],by simp[h10],by simp[h11],by simp[hlen],by simp,hl3,ht3,s8,hs8⟩,hm⟩
                   | true=>
                     simp only[hbt,cond_true] at hm;simp[hn];refine Wait.cut (Plan.then_ [0,1,2,3,4,5,6,7,8,9] .done) follows (by kernel_rfl) (fun e g''=>e.n=188/\e.get 0=.one (.ptr l 0)/\e.get 1=.one (.d (.int .i64 (i:Int)))/\e.get 5=.one (.ptr (h.ep,80) 0)/\e.get 7=.one (.d (.int .i64 (j:Int)))/\e.get 9=.one (.ptr p9 0)/\e.get 10=.one (.ptr p10 0)/\e.get 11=.one (.ptr (h2.ep,176) 0)/\e.get 105=.one (.d (.int .i64 (S2.fks.length:Int)))/\e.get 106=.one (.d (.int .i64 (k:Int)))/\Sc g'' l { S3 with fks:=S3.fks.set k ⟨T.name,f.cols,f.ref⟩ } (.mrow lt 0 S.tables.length cap) (.mrow lf 0 S3.fks.length cf) oc ta fa' oa/\Same HC g'' (fa'++oa)) ?_ ?_
                     .simp[hn,h0,h9,hidx,hltk2,hb8,b98,bxf];exact⟨by omega,CutK.of ⟨by simp[hn],by simp[h0],by simp[h1'],by simp[h5],by simp[h7],by simp[h9],by simp[h10],by simp[h11],by simp[hlen],by simp[hcnt],w0 T.name,hs8.setBox (.inl (by simp[hlf]))⟩⟩
                     .rintro e g'' ⟨hn,h0,h1',h5,h7,h9,h10,h11,hlen,hcnt,s9,hs9⟩;simp[hn,hcnt,hw];exact BackF.of ({ S3 with fks:=S3.fks.set k ⟨T.name,f.cols,f.ref⟩ }:Sch) ⟨⟨by simp[hn],by simp[h0],by simp[h1'],by simp[h5],by simp[h7],by simp[h9],by simp[h10],by simp[h11],by simp[hlen],by simp,by simpa using hl3,ht3,s9,hs9⟩,hm⟩
                 .rintro k S3 e g ⟨hn,h0,h1',h5,h7,h9,h10,h11,h105,h106,hl3,ht3,s8,hs8⟩ hge hm;have hge1:¬ k < S2.fks.length:=by omega
                  have hb8:=s8.box;simp[hn,h0,h105,h106,hge1,hb8];refine Z1n s8.len.2.2.1 ?_;simp[hn];refine Wait.count (N:=(S3.cons.length:Int)) (s0:=S3) (fun k S4 e g=>e.n=188/\e.get 0=.one (.ptr l 0)/\e.get 1=.one (.d (.int .i64 (i:Int)))/\e.get 5=.one (.ptr (h.ep,80) 0)/\e.get 7=.one (.d (.int .i64 (j:Int)))/\e.get 9=.one (.ptr p9 0)/\e.get 10=.one (.ptr p10 0)/\e.get 11=.one (.ptr (h2.ep,176) 0)/\e.get 133=.one (.d (.int .i64 (S3.cons.length:Int)))/\e.get 134=.one (.d (.int .i64 (k:Int)))/\S4.cons.length=S3.cons.length/\S4.tables=S.tables/\Sc g l S4 (.mrow lt 0 S.tables.length cap) fc' oc ta fa' oa/\Same HC g (fa'++oa)) (by simpa using hm) ⟨by simp[hn],by simp[h0],by simp[h1'],by simp[h5],by simp[h7],by simp[h9],by simp[h10],by simp[h11],by simp,by simp,rfl,ht3,s8,hs8⟩ ?_ ?_
                  .rintro k S4 e g ⟨hn,h0,h1',h5,h7,h9,h10,h11,hlen,hcnt,hl3,ht3,s8,hs8⟩ hlt8 hm;simp only[Zi5] at hm;replace hm:=hm.getN;obtain⟨f,hf,hm⟩:=hm;have hltk:k < S3.cons.length:=by omega
                   have hltk2:k < S4.cons.length:=by omega
                   have hfl:=s8.len.2.2.2;simp only[lim_eq] at hfl;have hw:IntKind.i64.wrap ((k:Int)+1)=(k:Int)+1:=Y0a _ (by omega);have hb8:=s8.box;obtain⟨lf,cf,Bf,rfl,bxf,hle⟩:=s8.conH hf;obtain⟨hlf,hllf,el,w0,-,-⟩:=s8.conK bxf hf;have rf:=el.rd0 1 (by omega);simp at rf;obtain⟨b58,b98,b108,b118,bl8⟩:=en2 g hs8;simp[hn,hlen,hcnt,hltk];refine Wait.cut (Plan.then_ [0,1,2,3,4,5,6,7,8,9] .done) follows (by kernel_rfl) (fun e g'=>e.n=188/\e.get 0=.one (.ptr l 0)/\e.get 1=.one (.d (.int .i64 (i:Int)))/\e.get 5=.one (.ptr (h.ep,80) 0)/\e.get 7=.one (.d (.int .i64 (j:Int)))/\e.get 9=.one (.ptr p9 0)/\e.get 10=.one (.ptr p10 0)/\e.get 11=.one (.ptr (h2.ep,176) 0)/\e.get 133=.one (.d (.int .i64 (S3.cons.length:Int)))/\e.get 134=.one (.d (.int .i64 (k:Int)))/\e.get 17=.one (.d (.int .i64 (k:Int)))/\e.get 146=.one (.d (.bool (strEq f.table name)))/\g'=g) ?_ ?_
                   .simp[hn,h0,h5,hltk2,hb8,b58,bxf,rf];exact CutK.of ⟨by simp[hn],by simp[h0],by simp[h1'],by simp[h5],by simp[h7],by simp[h9],by simp[h10],by simp[h11],by simp[hlen],by simp[hcnt],by simp,by simp,rfl⟩
                   .rintro e g' ⟨hn,h0,h1',h5,h7,h9,h10,h11,hlen,hcnt,hidx,hcmp,rfl⟩;simp[hn,hcmp];cases hbt:strEq f.table name with
                    | false=>
                      simp only[hbt,cond_false] at hm;simp[hn,hcnt,hw];exact BackF.of S4 ⟨⟨by simp[hn],by simp[h0],by simp[h1'],by simp[h5],by simp[h7],by simp[h9],by simp[h10],by simp[h11],by simp[hlen],by simp,hl3,ht3,s8,hs8⟩,hm⟩
                    | true=>
                      simp only[hbt,cond_true] at hm;simp[hn];refine Wait.cut (Plan.then_ [0,1,2,3,4,5,6,7,8,9] .done) follows (by kernel_rfl) (fun e g''=>e.n=188/\e.get 0=.one (.ptr l 0)/\e.get 1=.one (.d (.int .i64 (i:Int)))/\e.get 5=.one (.ptr (h.ep,80) 0)/\e.get 7=.one (.d (.int .i64 (j:Int)))/\e.get 9=.one (.ptr p9 0)/\e.get 10=.one (.ptr p10 0)/\e.get 11=.one (.ptr (h2.ep,176) 0)/\e.get 133=.one (.d (.int .i64 (S3.cons.length:Int)))/\e.get 134=.one (.d (.int .i64 (k:Int)))/\Sc g'' l { S4 with cons:=S4.cons.set k { f with table:=T.name } } (.mrow lt 0 S.tables.length cap) fc' (.mrow lf 0 S4.cons.length cf) ta fa' oa/\Same HC g'' (fa'++oa)) ?_ ?_
                      .simp[hn,h0,h9,hidx,hltk2,hb8,b98,bxf];exact⟨by omega,CutK.of ⟨by simp[hn],by simp[h0],by simp[h1'],by simp[h5],by simp[h7],by simp[h9],by simp[h10],by simp[h11],by simp[hlen],by simp[hcnt],w0 T.name,hs8.setBox (.inl (by simp[hlf]))⟩⟩
                      .rintro e g'' ⟨hn,h0,h1',h5,h7,h9,h10,h11,hlen,hcnt,s9,hs9⟩;simp[hn,hcnt,hw];exact BackF.of ({ S4 with cons:=S4.cons.set k { f with table:=T.name } }:Sch) ⟨⟨by simp[hn],by simp[h0],by simp[h1'],by simp[h5],by simp[h7],by simp[h9],by simp[h10],by simp[h11],by simp[hlen],by simp,by simpa using hl3,ht3,s9,hs9⟩,hm⟩
                  .rintro k S4 e g ⟨hn,h0,h1',h5,h7,h9,h10,h11,h133,h134,hl4,ht4',s9,hs9⟩ hge hm;have hge1:¬ k < S3.cons.length:=by omega
                   simp only[Zde] at hm;replace hm:=hm.chk;obtain⟨⟨hpo,ho0,hc0,hto⟩,hm⟩:=hm;have e1:=r_ret hm;simp only[Y07] at e1;obtain⟨rfl,rfl⟩:=e1;simp[hn,h133,h134,hge1];obtain⟨b59,b99,b109,b119,bl9⟩:=en2 g hs9;obtain⟨t9,u9⟩:=mkT s9 ht4' bl9;have hlt9:i < S4.tables.length:=by rw[ht4'];exact hlt
                   have hltj9:j < S4.tables.length:=by rw[ht4'];exact hltj
                   have hb9:=s9.box;have htl:S.tables.length=S4.tables.length:=by rw[ht4']
                   obtain⟨lo,cpo,Bo,hd1,-,-⟩:=u9.e1 0 _ (Y01 ho0);have mo:=u9.m1 (by intro h0;simp[h0] at ho0);subst hd1;have hcpo:O.cols.length<=cpo:=by
                    rcases mo.2.2 with ⟨h2,_⟩ | ⟨l',cap',sp,h2,h3,h4⟩
                    .simp at h2;simp[h2] at ho0
                    .simp at h2;obtain⟨rfl,rfl⟩:=h2;rw[Z0e mo.1] at h4;simp at h4;omega
                   have hto2:T.cols.length+O.cols.length<=2097152:=hto;have r19:=t9.el.rd 1 1 (by omega);simp at r19;have hep8:=hs9.1;refine Wait.cut (Plan.then_ [0,1,2,4,5,6,7,8,9,10,11,12,13,14,15,16] (.two 3 17 (Plan.then_ [17,18,19,20] .done) (Plan.then_ [3,18,19,20] .done))) follows (by kernel_rfl) (fun e g'=>e.n=188/\e.get 0=.one (.ptr l 0)/\e.get 7=.one (.d (.int .i64 (j:Int)))/\∃ ta',Sc g' l { S4 with tables:=S4.tables.set i { T with cols:=T.cols++O.cols.drop T.pk.length } } (.mrow lt 0 S.tables.length cap) fc' oc ta' fa' oa/\Same g g' ta/\∀ k ∈ ta',k ∈ ta\/g.ep<=k.1) ?_ ?_
                   .simp[hn,h0,h1',h10,h11,hb9,hlt,hlt9,htl,bl9,r19,b109,b119];refine Z1f ⟨hpo,hcpo⟩ (fun hlo=>?_) (fun hlo=>?_)
                    .have hro:=mo.tail T.pk.length hpo;have hdl:(O.cols.drop T.pk.length).length<=O.cols.length:=by simp
                     simp[hn,h0,h1',hlt,hlt9,hb9];refine⟨?_,?_⟩
                     all_goals
                      refine app_mr (by simp;exact⟨rfl,rfl⟩) (by simp) (by simp) (by simp) (t9.m1 (by intro h0;simp[h0] at hc0)) hro (by simp<;>omega) (fun c' g' hm' hs10 hl10=>?_);have hbl:g'.box lt=some B:=by
                       rw[hs10.2 lt (s9.lt lt (by simp[tv.tm])) fun h2=>(t9.l1 lt h2).2 rfl];exact bl9
                      have hbs':g'.box l=some [.mrow lt 0 S.tables.length cap,fc',oc]:=s9.keep hs10 fun k hk=>.inl (t9.l1 k hk).1;have hep10:=hs10.1;obtain⟨ta',s10,hta⟩:=t9.s1 g' c' (T.cols++O.cols.drop T.pk.length) (by simpa[Y2d] using hm') hs10 (fun k hk=>(hl10 k hk).imp_right fun h2=>⟨fun h3=>by have:=s9.lt k h3;omega,h2.2⟩);have hle9:=t9.el.le;simp[hn,h0,h1',hlt,hlt9,hbl,hbs'];refine⟨by omega,CutK.of ⟨by simp[hn],by simp[h0],by simp[h7],ta',s10,(hs10.mono fun k hk=>(t9.l1 k hk).1).setBox (.inl t9.tm),fun k hk=>?_⟩⟩;rcases hta k hk with h2 | h2
                      .exact .inl h2
                      .rcases hl10 k h2 with h3 | h3
                       .exact .inl (t9.l1 k h3).1
                       .exact .inr h3.1
                    .have hdrop:O.cols.drop T.pk.length=[]:=Y23 (by omega);have hro:RowAt g 3 .z ((O.cols.map fun c=>c.enc.map C.d).drop T.pk.length):=by
                      rw[<- Y2d,hdrop];exact (MR.z).rd
                     simp[hn,h0,h1',hlt,hlt9,hb9];refine⟨?_,?_⟩
                     all_goals
                      refine app_mr (by simp;exact⟨rfl,rfl⟩) (by simp) (by simp) (by simp) (t9.m1 (by intro h0;simp[h0] at hc0)) hro (by simp<;>omega) (fun c' g' hm' hs10 hl10=>?_);have hbl:g'.box lt=some B:=by
                       rw[hs10.2 lt (s9.lt lt (by simp[tv.tm])) fun h2=>(t9.l1 lt h2).2 rfl];exact bl9
                      have hbs':g'.box l=some [.mrow lt 0 S.tables.length cap,fc',oc]:=s9.keep hs10 fun k hk=>.inl (t9.l1 k hk).1;have hep10:=hs10.1;obtain⟨ta',s10,hta⟩:=t9.s1 g' c' (T.cols++O.cols.drop T.pk.length) (by simpa[Y2d] using hm') hs10 (fun k hk=>(hl10 k hk).imp_right fun h2=>⟨fun h3=>by have:=s9.lt k h3;omega,h2.2⟩);have hle9:=t9.el.le;simp[hn,h0,h1',hlt,hlt9,hbl,hbs'];refine⟨by omega,CutK.of ⟨by simp[hn],by simp[h0],by simp[h7],ta',s10,(hs10.mono fun k hk=>(t9.l1 k hk).1).setBox (.inl t9.tm),fun k hk=>?_⟩⟩;rcases hta k hk with h2 | h2
                      .exact .inl h2
                      .rcases hl10 k h2 with h3 | h3
                       .exact .inl (t9.l1 k h3).1
                       .exact .inr h3.1
                   .rintro e g' ⟨hn,h0,h7,ta',s10,hs10,hta'⟩;have hj10:(S4.tables.set i { T with cols:=T.cols++O.cols.drop T.pk.length })[j]? = some O:=by
                     rw[Y1d hij2,ht4'];exact hj
                    obtain⟨xs,a1,a2,lx,lr,capr,Br,e1,e2,e3,e4,e5,e6,e7,e8⟩:=s10.delT (T:=O) hj10;have hb10:=s10.box;have hli:=s10.len.1.2;simp only[lim_eq,Y2b] at hli e2;have hw:IntKind.i64.wrap ((j:Int)+1)=((j+1:Nat):Int):=Y0a _ (by omega);simp[hn,h0,h7,hb10,hw];refine Z00 (Z6q _ _ xs j (j+1) e1 (by omega) (by omega) _ (fun c' g2 hm2 hs11 hep hharr hlab=>?_));have hs12:Same g' g2 (labs (.mrow lt 0 S.tables.length cap)):=⟨by rw[hep];exact Y09 _,fun k _ hk=>hs11 k hk⟩;have hbl:g2.box l=some [.mrow lt 0 S.tables.length cap,fc',oc]:=s10.keep hs12 fun k hk=>.inl (s10.hlabs.1 k hk);obtain⟨ta2,s11,ht11,-⟩:=e8 g2 c' hm2 hs12 hlab;simp[hn,h0,hbl];have hallC:Same h g (l::(ta++(fa++oa))):=(hy4.trans (hz6.mono (by simp))).trans (hs9.mono fun k hk=>by simp only[Y08,Y02] at hk |-;exact .inr (.inr (hk.imp_left (hfa' k))));have hepC:=hallC.1;refine hk _ _ s11.ows ((((hallC.trans (hs10.mono fun k hk=>by simp[hk])).trans' hs12 fun k hk=>?_)).setBox (.inl (by simp))) fun k hk=>?_
                    .exact (hta' k (s10.hlabs.1 k hk)).imp (fun h=>by simp[h]) fun h=>by omega
                    .simp only[Y02] at hk;rcases hk with hk | hk
                     .exact (hta' k (ht11 k hk)).imp (fun h=>by simp[h]) fun h=>by omega
                     .exact .inl (ks k (by simp only[Y02];exact .inr hk))
def schOK (S:Sch):Prop:=(S.tables.length<=LIM/\S.fks.length<=LIM/\S.cons.length<=LIM)/\(∀ T ∈ S.tables,T.cols.length<=LIM/\T.pk.length<=LIM)/\∀ f ∈ S.fks,f.cols.length<=LIM
instance (S:Sch):Decidable (schOK S):=inferInstanceAs (Decidable (_/\_/\_))
def stpOK (x:Stp):Prop:=x.cols.length<=LIM/\x.newTable.cols.length<=LIM/\x.newTable.pk.length<=LIM/\x.fk.cols.length<=LIM
instance (x:Stp):Decidable (stpOK x):=inferInstanceAs (Decidable (_/\_))
def NewSch (h:HS) (S:Sch) (K:V->HS->Prop):Prop:=∀ tc fc oc qt qf qo h',Part h' TblSh tc qt (S.tables.map Tbl.enc)->Part h' FkSh fc qf (S.fks.map Fk.enc)->Part h' ConSh oc qo (S.cons.map Cons.enc)->(plabs tc qt++(plabs fc qf++plabs oc qo)).Nodup ->
 (∀ k ∈ plabs tc qt++(plabs fc qf++plabs oc qo),h.ep<=k.1/\k.1 < h'.ep)->Same h h' []->K (.agg [tc,fc,oc]) h'
theorem Zby (h:HS) (x:Stp) (hl:stpOK x) (K:V->HS->Prop) (hk:NewOw h StpSh x.enc K) :
  HSpec prog 110 [.agg (x.enc.map C.d)] h K:=by
 refine HSpec.good Tryz.func110 rfl (by kernel_rfl) fun hg=>?_;refine HSpec.of_vc Tryz.func110 rfl (by kernel_rfl) (n:=18) rfl rfl (by simp) ?_;obtain⟨l1,l2,l3,l4⟩:=hl;simp;refine Z00 (Z3c _ _ _ (RowAt.data (n:=1) (ts:=x.cols.map encI) (by simp) (by simpa using l1)) _ (fun c6 g1 m6 hs1 hl1 hb1=>?_));have hz0:Same h (((h.setBox (h.ep,16) (x.enc.map C.d)).next.setBox (h.ep+1,32) [C.d (D.int IntKind.i64 0),C.d (D.str empty),C.d (D.str empty),C.d (D.str empty),C.d (D.str empty),C.d (D.int IntKind.i64 0),C.nil,C.d (D.str empty),C.d (D.int IntKind.i64 0),C.d (D.int IntKind.i64 0),C.d (D.str empty),C.d (D.str empty),C.nil,C.nil,C.d (D.str empty),C.d (D.int IntKind.i64 0),C.d (D.str empty),C.d (D.int IntKind.i64 0),C.d (D.int IntKind.i64 0),C.d (D.int IntKind.i64 0),C.d (D.str empty),C.d (D.str empty),C.nil,C.d (D.str empty)]).next) []:=(((Same.refl.setBox (.inr (Y09 _))).next.setBox (.inr (by simp))).next);have hs1':=hs1.1;have b1:=hb1 (h.ep,16) _ (by simp;rfl);have b2:=hb1 (h.ep+1,32) _ (by simp;rfl);simp only[Stp.enc,Y0d,Y0g] at hz0;have hy1:=hz0.trans hs1;simp at hl1 hs1';simp[b1];refine Z00 (Z61 _ (x.newTable.enc.map C.d) x.newTable (fun h' _=>FrzCs.datas (ds:=x.newTable.enc)) ⟨l2,l3⟩ _ (fun cs g2 ls2 o2 nd2 nw2 hs2 hb2'=>?_));obtain⟨c12,c13,rfl⟩:∃ c12 c13,cs=[C.d (D.str x.newTable.name),c12,c13]:=by
  have h9:=o2.len.1
  match cs,h9,o2 with
  | [a,b,c],_,hO=>obtain rfl:=hO.frz.1.flat rfl;exact⟨b,c,rfl⟩
 have hs2':=hs2.1;have b12:=hb2' (h.ep,16) _ (by simp;rfl);have b22:=hb2' (h.ep+1,32) _ (by simpa using b2);have hy2:Same h g2 []:=(hy1.setBox (l:=(h.ep,16)) (.inr (by simp))).trans hs2;simp at hs2';simp[b12];refine Z00 (Z3c _ _ _ (RowAt.data (n:=1) (ts:=x.fk.cols.map encI) (by simp) (by simpa using l4)) _ (fun c22 g3 m22 hs3 hl3 hb3=>?_));have hs3':=hs3.1;have b13:=hb3 (h.ep,16) _ (by simp;rfl);have b23:=hb3 (h.ep+1,32) _ (by simpa using b22);have hy3:Same h g3 []:=(hy2.setBox (l:=(h.ep,16)) (.inr (by simp))).trans hs3;simp at hl3 hs3';simp[b13,b23,retH,resVs,resV];have hyF:=(hy3.setBox (l:=(h.ep,16)) (cs:=stpC x c6 c12 c13 c22) (.inr (by simp))).setBox (l:=(h.ep+1,32)) (cs:=stpC x c6 c12 c13 c22) (.inr (by simp));have k3:∀ k:Lab,h.ep+2<=k.1->((g3.setBox (h.ep,16) (stpC x c6 c12 c13 c22)).setBox (h.ep+1,32) (stpC x c6 c12 c13 c22)).box k=g3.box k:=fun k hk=>by
  have h1:k≠(h.ep,16):=fun he=>by have h9:k.1=h.ep:=by rw[he]
                                  omega
  have h2:k≠(h.ep+1,32):=fun he=>by have h9:k.1=h.ep+1:=by rw[he]
                                    omega
  simp[h1,h2]
 have k2:∀ k:Lab,h.ep+2<=k.1->k.1 < g2.ep->g3.box k=g2.box k:=fun k hk hk2=>by
  have h1:k≠(h.ep,16):=fun he=>by have h9:k.1=h.ep:=by rw[he]
                                  omega
  rw[hs3.2 k (by simpa using hk2) (by simp)];simp[h1]
 have k1:∀ k:Lab,h.ep+2<=k.1->k.1 < g1.ep->g2.box k=g1.box k:=fun k hk hk2=>by
  have h1:k≠(h.ep,16):=fun he=>by have h9:k.1=h.ep:=by rw[he]
                                  omega
  rw[hs2.2 k (by simpa using hk2) (by simp)];simp[h1]
 have e6:∀ k ∈ labs c6,h.ep+2<=k.1/\k.1 < g1.ep:=fun k hk=>by have:=hl1 k.1 k.2 hk;omega
 have e2:∀ k ∈ ls2,g1.ep<=k.1/\k.1 < g2.ep:=fun k hk=>by have:=nw2 k hk;simp at this;omega
 have e22:∀ k ∈ labs c22,g2.ep<=k.1/\k.1 < g3.ep:=fun k hk=>by have:=hl3 k.1 k.2 hk;omega
 obtain⟨_,e0,oa⟩:=o2.dcons (c:=.nil) rfl;simp at e0;subst e0;obtain⟨d1,_,la,_,e1,rfl,o12,ob⟩:=oa.split;simp at e1;obtain⟨rfl,rfl⟩:=e1;obtain⟨d2,_,lb,_,e1,rfl,o13,od⟩:=ob.split;simp at e1;obtain⟨rfl,rfl⟩:=e1;obtain⟨_,_,rfl⟩:=od.inv_nil;simp only[Y0k] at e2 nd2;have o6:Ow ((g3.setBox (h.ep,16) (stpC x c6 c12 c13 c22)).setBox (h.ep+1,32) (stpC x c6 c12 c13 c22)) [.r [.d]] [c6] [.sl (x.cols.map encI)] (labs c6):=Ow.nrow (n:=1) (m6.frame fun k hk=>by have:=e6 k hk;rw[k3 k (by omega),k2 k (by omega) (by omega),k1 k (by omega) (by omega)]) rfl (by simp);have o22:Ow ((g3.setBox (h.ep,16) (stpC x c6 c12 c13 c22)).setBox (h.ep+1,32) (stpC x c6 c12 c13 c22)) [.r [.d]] [c22] [.sl (x.fk.cols.map encI)] (labs c22):=Ow.nrow (n:=1) (m22.frame fun k hk=>by have:=e22 k hk;rw[k3 k (by omega)]) rfl (by simp);have o12':=o12.frame (h':=((g3.setBox (h.ep,16) (stpC x c6 c12 c13 c22)).setBox (h.ep+1,32) (stpC x c6 c12 c13 c22))) fun k hk=>by have:=e2 k (by simp[hk]);rw[k3 k (by omega),k2 k (by omega) (by omega)]
 have o13':=o13.frame (h':=((g3.setBox (h.ep,16) (stpC x c6 c12 c13 c22)).setBox (h.ep+1,32) (stpC x c6 c12 c13 c22))) fun k hk=>by have:=e2 k (by simp[hk]);rw[k3 k (by omega),k2 k (by omega) (by omega)]
 refine hk (stpC x c6 c12 c13 c22) _ _ (Ow.mkStp o6 o12' o13' o22) ?_ (fun k hk=>?_) hyF (hyF.boxLe hg)
 .simp only[Y0e,Y02] at nd2 |-;refine⟨Z1t,⟨nd2.1,⟨nd2.2.1,Z1t,fun a ha b hb he=>?_⟩,fun a ha b hb he=>?_⟩,fun a ha b hb he=>?_⟩
  .have t1:=e2 a (by simp[ha]);have t2:=e22 b hb;rw[<- he] at t2;omega
  .subst he;rcases hb with hb | hb
   .exact nd2.2.2 a ha a hb rfl
   .have:=e2 a (by simp[ha]);have:=e22 a hb;omega
  .subst he;have h6:=e6 a ha;rcases hb with hb | hb | hb
   .have:=e2 a (by simp[hb]);omega
   .have:=e2 a (by simp[hb]);omega
   .have:=e22 a hb;omega
 .simp only[Y02] at hk
  have:k.1 < g3.ep/\h.ep<=k.1:=by
   rcases hk with hk | hk | hk | hk
   .have:=e6 k hk;omega
   .have:=e2 k (by simp[hk]);omega
   .have:=e2 k (by simp[hk]);omega
   .have:=e22 k hk;omega
  simp;omega
theorem Sc.start {g:HS} {p:Lab} {oc:C} {cons:List Cons} (hb:g.box p=some [.nil,.nil,oc]) (mo:MR g 7 oc (cons.map fun c=>c.enc.map C.d)) (hp:p.1 < g.ep) (hl:∀ k ∈ labs oc,k≠p/\k.1 < g.ep):Sc g p ⟨[],[],cons⟩ .nil .nil oc [] [] (labs oc):=by
 have e:(cons.map fun c=>((c.enc.map C.d,c.enc,[]):Q)).flatMap (·.2.2)=[]:=by rw[Y2j];intro q hq;obtain⟨c,_,rfl⟩:=Y0m.1 hq;rfl
 have pl:plabs oc (cons.map fun c=>((c.enc.map C.d,c.enc,[]):Q))=labs oc:=by rw[plabs,e,Y0k]
 refine⟨[],[],cons.map fun c=>(c.enc.map C.d,c.enc,[]),rfl,rfl,pl.symm,hb,⟨MR.nil,rfl,by simp⟩,⟨MR.nil,rfl,by simp⟩,⟨by simpa[ConSh,Function.comp_def] using mo,by simp[Function.comp_def],fun q hq=>?_⟩,?_,?_⟩
 .obtain⟨c,_,rfl⟩:=Y0m.1 hq;exact Ow.datas (ds:=c.enc)
 .rw[pl];simp only[plabs,labs,Y26,Y0v,Y0k,Y1z];exact⟨fun h=>(hl p h).1 rfl,Z1t⟩
 .rw[pl];intro k hk;simp only[plabs,labs,Y26,Y0v,Y0k,Y08] at hk;rcases hk with rfl | hk
  .exact hp
  .exact (hl k hk).2
def ClI (h:HS) (p3:Lab) (S:Sch) (S1:Sch) (dat:List C) (e:Env) (g:HS):Prop:=∃ tc fc oc ta fa oa,e.n=46/\e.get 1=.one (.ptr (h.ep,16) 0)/\e.get 2=.one (.ptr (h.ep+1,32) 0)/\e.get 3=.one (.ptr p3 0)/\g.box (h.ep,16)=some dat/\g.box (h.ep+1,32)=some [.nil,.nil,.nil] /\
 Sc g p3 S1 tc fc oc ta fa oa/\(∀ k ∈ ta++(fa++oa),h.ep+2<=k.1)/\h.ep+2<=p3.1/\Same h g []
set_option maxHeartbeats 1000000 in
theorem Zea (h:HS) (S:Sch) (hS:schOK S) (K:V->HS->Prop) (hk:NewSch h S K) :
  HSpec prog 49 [.agg (S.enc.map C.d)] h K:=by
 obtain⟨⟨l1,l2,l3⟩,l4,l5⟩:=hS;have l1':S.tables.length<=2097152:=l1;have l2':S.fks.length<=2097152:=l2;refine HSpec.of_vc Tryz.func49 rfl (by kernel_rfl) (n:=46) rfl rfl (by simp) ?_;simp;refine Z00 (Z87 _ _ _ (RowAt.data (n:=7) (ts:=S.cons.map Cons.enc) (by simp) (by simpa using l3)) _ (fun oc g1 mo hs1 hlo hb1=>?_));have hz0:Same h (((h.setBox (h.ep,16) (S.enc.map C.d)).next.setBox (h.ep+1,32) [.nil,.nil,.nil]).next) []:=(((Same.refl.setBox (.inr (Y09 _))).next.setBox (.inr (by simp))).next);have b1:=hb1 (h.ep,16) _ (by simp;rfl);have b2:=hb1 (h.ep+1,32) _ (by simp;rfl);have hs1':=hs1.1;simp only[Sch.enc,Y0d,Y0g] at hz0;have hy1:=hz0.trans hs1;simp at hs1';have hn1:=ne_new (l:=(h.ep,16)) (n:=g1.ep) (by simp<;>omega);simp (maxDischargeDepth:=12) [b1,hn1,le_s];have hz2:Same g1 ((g1.setBox (g1.ep,48) [.nil,.nil,.nil]).next.setBox (g1.ep,48) [.nil,.nil,oc]) []:=((Same.refl.setBox (.inr (Y09 _))).next).setBox (.inr (Y09 _));obtain⟨p3,hp3d⟩:∃ p:Lab,p=(g1.ep,48):=⟨_,rfl⟩;have trivF:∀ (α:Type) (xs:List α) (i:Nat),forK (ρ:=Unit) (fun _ (_:α) (s:Unit) next=>next s) (fun _=>some ()) xs i ()=some ():=fun α xs=>by
  induction xs with
  | nil=>intro i;rfl
  | cons x xs ih=>intro i;exact ih (i+1)
 intro _;have hg1:Same h ((g1.setBox (g1.ep,48) [.nil,.nil,.nil]).next.setBox (g1.ep,48) [.nil,.nil,oc]) []:=hy1.trans hz2;have hlo':∀ k ∈ labs oc,h.ep+2<=k.1/\k.1 < g1.ep:=fun k hk=>by have:=hlo k hk;simp at this;omega
 refine Wait.for (xs:=S.tables) (s0:=()) (k:=fun _=>some ()) (body:=fun _ _ s next=>next s) (r:=()) (fun k _ e g=>ClI h p3 S ⟨S.tables.take k,[],S.cons⟩ (S.enc.map C.d) e g/\e.get 13=.one (.d (.sl (S.tables.map Tbl.enc)))/\e.get 14=.one (.d (.int .i64 (S.tables.length:Int)))/\e.get 15=.one (.d (.int .i64 (k:Int)))) (trivF _ _ _) ⟨⟨.nil,.nil,oc,[],[],labs oc,by simp,by simp,by simp,by simp[hp3d],?_,?_,?_,?_,by rw[hp3d];simp<;>omega,hg1⟩,by simp,by simp,by simp⟩ ?_ ?_
 .rw[hz2.2 _ (by simp<;>omega) (by simp)];simpa using b1
 .rw[hz2.2 _ (by simp<;>omega) (by simp)];exact b2
 .rw[hp3d];refine Sc.start (by simp) ?_ (by simp) fun k hk=>⟨fun he=>by have:=(hlo' k hk).2;rw[he] at this;simp at this,by have:=(hlo' k hk).2;simp<;>omega⟩;rw[Z5i];exact mo.frame fun k hk=>hz2.2 k (hlo' k hk).2 (by simp)
 .simp only[Y0v];exact fun k hk=>(hlo' k hk).1
 .rintro k _ e g ⟨⟨tc,fc,oc,ta,fa,oa,hn,h1',h2',h3',b1,b2,s1,hnew,hp3,hs⟩,h13,h14,h15⟩ hlt hm;have hw:IntKind.i64.wrap ((k:Int)+1)=(k:Int)+1:=Y0a _ (by omega);have hT:=l4 _ (Y0p hlt);have hgp:h.ep+2 < g.ep:=by have:=s1.lt p3 (by simp);omega
  have hz4:Same g ((g.setBox (g.ep,80) [C.d (D.str empty),C.nil,C.nil]).next.setBox (g.ep,80) (S.tables[k].enc.map C.d)) []:=((Same.refl.setBox (.inr (Y09 _))).next).setBox (.inr (Y09 _));simp only[Tbl.enc,Y0d,Y0g] at hz4;simp[hn,h13,h14,h15,hlt];generalize hX:(g.setBox (g.ep,80) [C.d (D.str empty),C.nil,C.nil]).next.setBox (g.ep,80) _=GZ at hz4 |-;have bz5:GZ.box (g.ep,80)=some (S.tables[k].enc.map C.d):=by rw[<- hX];simp
  have bz3:GZ.box p3=some [tc,fc,oc]:=(s1.frame hz4).box;simp only[Tbl.enc,Y0d,Y0g] at bz5;have hg2:=hs.1;have hgz:=hz4.1;refine Wait.cut (Plan.then_ [0,1,2,3,4,5,6,7] .done) follows (by kernel_rfl) (fun e g'=>ClI h p3 S ⟨S.tables.take (k+1),[],S.cons⟩ (S.enc.map C.d) e g'/\e.get 13=.one (.d (.sl (S.tables.map Tbl.enc)))/\e.get 14=.one (.d (.int .i64 (S.tables.length:Int)))/\e.get 15=.one (.d (.int .i64 (k:Int)))) ?_ ?_
  .simp[hn,h3',bz5,bz3];refine Z00 (Z61 _ (S.tables[k].enc.map C.d) S.tables[k] (fun h' _=>FrzCs.datas (ds:=S.tables[k].enc)) hT _ (fun cs g2 ls2 o2 nd2 hnw0 hs2 hb2=>?_));have hnw:∀ k ∈ ls2,g.ep<=k.1/\k.1 < g2.ep:=fun k hk=>by have:=hnw0 k hk;omega
   obtain⟨c0,c1,c2,rfl⟩:∃ a b c,cs=[a,b,c]:=by
    have h9:=o2.len.1
    match cs,h9 with
    | [a,b,c],_=>exact⟨a,b,c,rfl⟩
   simp[hn];refine⟨hb2,?_⟩;have hep2:=hs2.1;refine bld_ow (x:=[c0,c1,c2]) (by simp[toDs];cases c0.toD<;>cases c1.toD<;>cases c2.toD<;>rfl) (by simp) (fun d hd2=>?_) (fun hd2=>?_)
   .obtain⟨rfl,hT2⟩:=o2.ofD hd2;have hz5:Same g2 ((g2.setArr (g2.ep,16 * 23) (some (1,3))).next) []:=Same.refl.setArr.next;simp only[Nat.reduceMul] at hz5;have s5:=s1.frame ((hz4.trans hs2).trans hz5);obtain⟨ys,my,hly,add⟩:=s5.addT;simp[hn];refine app_mr (by simp;exact⟨rfl,rfl⟩) (by simp) (by simp) (by simp) my (RowAt.own1 (by simp)) (by rw[hly];simp at hlt |-;omega) (fun c' g' hm' hs6 hl6=>?_);have hep6:=hs6.1;have hep5:=hz5.1;have hbl:=s5.keep hs6 fun k hk=>.inl (s5.hlabs.1 k hk);have hlab:∀ k ∈ labs tc,k ∈ ta:=s1.hlabs.1;obtain⟨a',s6,ha'⟩:=add g' c' _ _ [] hm' hs6 hl6 (hT2 g') Y2k (fun k hk=>by
     have h9:=hnw k ((fun k (hk:k ∈ [])=>by simp at hk) k hk);refine⟨by omega,fun h8=>by have:=s1.lt k h8;omega,fun h8=>?_⟩;rcases hl6 k h8 with h7 | h7
     .have:=s1.lt k (by simp[hlab k h7]);omega
     .omega) S.tables[k] rfl
    have ft:∀ k:Lab,k.1 < g.ep->k.1 < h.ep+2->g'.box k=g.box k:=fun k hk hk2=>by
     rw[hs6.2 k (by omega) fun h9=>by have:=hnew k (by simp[hlab k h9]);omega];exact ((hz4.trans hs2).trans hz5).2 k hk (by simp)
    have hne1:((h.ep,16):Lab)≠p3:=fun he=>by rw[<- he] at hp3;have h9:h.ep+2<=h.ep:=hp3;omega
    have hne2:((h.ep+1,32):Lab)≠p3:=fun he=>by rw[<- he] at hp3;have h9:h.ep+2<=h.ep+1:=hp3;omega
    simp[hn,h3',hbl];refine CutK.of ⟨⟨c',fc,oc,a',fa,oa,by simp[hn],by simp[h1'],by simp[h2'],by simp[h3'],?_,?_,by simpa[Y2h hlt] using s6,fun k hk=>?_,hp3,((hs.trans ((hz4.trans hs2).trans hz5)).trans' hs6 fun k hk=>.inr (by have:=hnew k (by simp[hlab k hk]);omega)).setBox (.inr (by omega))⟩,by simp[h13],by simp[h14],by simp[h15]⟩
    .simpa[hne1,ft (h.ep,16) (by simp<;>omega) (by simp)] using b1
    .simpa[hne2,ft (h.ep+1,32) (by simp<;>omega) (by simp)] using b2
    .simp only[Y02] at hk;rcases hk with hk | hk
     .rcases ha' k hk with h9 | h9 | h9
      .exact hnew k (by simp[h9])
      .have:=hnw k ((fun k (hk:k ∈ [])=>by simp at hk) k h9);omega
      .omega
     .exact hnew k (by simp only[Y02];exact .inr hk)
   .skip
    have hz5:Same g2 ((g2.setBox (g2.ep,16 * 23) [c0,c1,c2]).next) []:=(Same.refl.setBox (.inr (Y09 _))).next;simp only[Nat.reduceMul] at hz5;have s5:=s1.frame ((hz4.trans hs2).trans hz5);obtain⟨ys,my,hly,add⟩:=s5.addT;simp[hn];refine app_mr (by simp;exact⟨rfl,rfl⟩) (by simp) (by simp) (by simp) my (RowAt.new1 (x:=[c0,c1,c2]) (by simp) (by simp)) (by rw[hly];simp at hlt |-;omega) (fun c' g' hm' hs6 hl6=>?_);have hep6:=hs6.1;have hep5:=hz5.1;have hbl:=s5.keep hs6 fun k hk=>.inl (s5.hlabs.1 k hk);have hlab:∀ k ∈ labs tc,k ∈ ta:=s1.hlabs.1;obtain⟨a',s6,ha'⟩:=add g' c' _ _ ls2 hm' hs6 hl6 (o2.frame fun k hk=>by have h9:=hnw k hk;rw[hs6.2 k (by omega) fun h8=>by have:=s1.lt k (by simp[s1.hlabs.1 k h8]);omega];exact hz5.2 k h9.2 (by simp)) nd2 (fun k hk=>by
     have h9:=hnw k ((fun _ h=>h) k hk);refine⟨by omega,fun h8=>by have:=s1.lt k h8;omega,fun h8=>?_⟩;rcases hl6 k h8 with h7 | h7
     .have:=s1.lt k (by simp[hlab k h7]);omega
     .omega) S.tables[k] rfl
    have ft:∀ k:Lab,k.1 < g.ep->k.1 < h.ep+2->g'.box k=g.box k:=fun k hk hk2=>by
     rw[hs6.2 k (by omega) fun h9=>by have:=hnew k (by simp[hlab k h9]);omega];exact ((hz4.trans hs2).trans hz5).2 k hk (by simp)
    have hne1:((h.ep,16):Lab)≠p3:=fun he=>by rw[<- he] at hp3;have h9:h.ep+2<=h.ep:=hp3;omega
    have hne2:((h.ep+1,32):Lab)≠p3:=fun he=>by rw[<- he] at hp3;have h9:h.ep+2<=h.ep+1:=hp3;omega
    simp[hn,h3',hbl];refine CutK.of ⟨⟨c',fc,oc,a',fa,oa,by simp[hn],by simp[h1'],by simp[h2'],by simp[h3'],?_,?_,by simpa[Y2h hlt] using s6,fun k hk=>?_,hp3,((hs.trans ((hz4.trans hs2).trans hz5)).trans' hs6 fun k hk=>.inr (by have:=hnew k (by simp[hlab k hk]);omega)).setBox (.inr (by omega))⟩,by simp[h13],by simp[h14],by simp[h15]⟩
    .simpa[hne1,ft (h.ep,16) (by simp<;>omega) (by simp)] using b1
    .simpa[hne2,ft (h.ep+1,32) (by simp<;>omega) (by simp)] using b2
    .simp only[Y02] at hk;rcases hk with hk | hk
     .rcases ha' k hk with h9 | h9 | h9
      .exact hnew k (by simp[h9])
      .have:=hnw k ((fun _ h=>h) k h9);omega
      .omega
     .exact hnew k (by simp only[Y02];exact .inr hk)
  .rintro e g' ⟨hI,h13,h14,h15⟩;have hn:=hI;obtain⟨_,_,_,_,_,_,hn,h1',h2',h3',-⟩:=hn;simp[hn,h15,hw];obtain⟨tc2,fc2,oc2,ta2,fa2,oa2,-,-,-,-,q⟩:=hI;exact BackF.of () ⟨⟨⟨tc2,fc2,oc2,ta2,fa2,oa2,by simp[hn],by simp[h1'],by simp[h2'],by simp[h3'],q⟩,by simp[h13],by simp[h14],by simp⟩,hm⟩
 .rintro _ e g ⟨⟨tc,fc,oc,ta,fa,oa,hn,h1',h2',h3',b1,b2,s1,hnew,hp3,hs⟩,h13,h14,h15⟩ _;rw[Y1b] at s1;simp[hn,h1',h14,h15,b1];intro _;refine Wait.for (xs:=S.fks) (s0:=()) (k:=fun _=>some ()) (body:=fun _ _ s next=>next s) (r:=()) (fun k _ e g=>ClI h p3 S ⟨S.tables,S.fks.take k,S.cons⟩ (S.enc.map C.d) e g/\e.get 28=.one (.d (.sl (S.fks.map Fk.enc)))/\e.get 29=.one (.d (.int .i64 (S.fks.length:Int)))/\e.get 30=.one (.d (.int .i64 (k:Int)))) (trivF _ _ _) ⟨⟨tc,fc,oc,ta,fa,oa,by simp[hn],by simp[h1'],by simp[h2'],by simp[h3'],b1,b2,by simpa using s1,hnew,hp3,hs⟩,by simp,by simp,by simp⟩ ?_ ?_
  .rintro k _ e g ⟨⟨tc,fc,oc,ta,fa,oa,hn,h1',h2',h3',b1,b2,s1,hnew,hp3,hs⟩,h28,h29,h30⟩ hlt hm;have hw:IntKind.i64.wrap ((k:Int)+1)=(k:Int)+1:=Y0a _ (by omega);have hF:=l5 _ (Y0p hlt);have hgp:h.ep+2 < g.ep:=by have:=s1.lt p3 (by simp);omega
   simp[hn,h28,h29,h30,hlt];refine Z00 (Z3c _ _ _ (RowAt.data (n:=1) (ts:=S.fks[k].cols.map encI) (by simp) (by simpa using hF)) _ (fun pc g2' mp hs2' hlp hb2=>?_));have hz4':Same g ((g.setBox (g.ep,112) [C.d (D.str empty),C.nil,C.d (D.str empty)]).next.setBox (g.ep,112) (S.fks[k].enc.map C.d)) []:=((Same.refl.setBox (.inr (Y09 _))).next).setBox (.inr (Y09 _));have bz7:=hb2 (g.ep,112) _ (by simp;rfl);simp only[Fk.enc,Y0d,Y0g] at hz4';have hep2':=hs2'.1;simp at hep2' hlp;have hz4:Same g (g2'.setBox (g.ep,112) [.d (.str S.fks[k].table),pc,.d (.str S.fks[k].ref)]) []:=(hz4'.trans hs2').setBox (.inr (Y09 _));have hoF0:Ow (g2'.setBox (g.ep,112) [.d (.str S.fks[k].table),pc,.d (.str S.fks[k].ref)]) FkSh [.d (.str S.fks[k].table),pc,.d (.str S.fks[k].ref)] S.fks[k].enc (labs pc):=by
    refine .data rfl ?_
    have:=Ow.rowD (es:=[.d]) (n:=1) (ts:=S.fks[k].cols.map encI) (mp.frame (h':=g2'.setBox (g.ep,112) [.d (.str S.fks[k].table),pc,.d (.str S.fks[k].ref)]) fun q hq=>by
     have h9:=hlp q.1 q.2 hq
     have:q≠(g.ep,112):=fun he=>by have h8:q.1=g.ep:=by rw[he]
                                   omega
     simp[this]) rfl (by simp) (Ow.data (c:=.d (.str S.fks[k].ref)) (x:=.str S.fks[k].ref) rfl .nil)
    simpa using this
   have hnw0:∀ q ∈ labs pc,g.ep<=q.1/\q.1 < g2'.ep:=fun q hq=>by have:=hlp q.1 q.2 hq;omega
   have b70:(g2'.setBox (g.ep,112) [.d (.str S.fks[k].table),pc,.d (.str S.fks[k].ref)]).box (g.ep,112)=some [.d (.str S.fks[k].table),pc,.d (.str S.fks[k].ref)]:=by simp
   have hepx:(g2'.setBox (g.ep,112) [.d (.str S.fks[k].table),pc,.d (.str S.fks[k].ref)]).ep=g2'.ep:=by simp
   have bz3:(g2'.setBox (g.ep,112) [.d (.str S.fks[k].table),pc,.d (.str S.fks[k].ref)]).box p3=some [tc,fc,oc]:=(s1.frame hz4).box
   try simp at bz7
   simp[hn,bz7];have hp3g:=s1.lt p3 (by simp);have hnp:¬ p3=(g.ep,112):=fun he=>by rw[he] at hp3g;simp at hp3g
   have bz3':g2'.box p3=some [tc,fc,oc]:=(s1.frame (hz4'.trans hs2')).box;have hs2:Same (g2'.setBox (g.ep,112) [.d (.str S.fks[k].table),pc,.d (.str S.fks[k].ref)]) (g2'.setBox (g.ep,112) [.d (.str S.fks[k].table),pc,.d (.str S.fks[k].ref)]) []:=.refl;have hnw:∀ q ∈ labs pc,g.ep<=q.1/\q.1 < (g2'.setBox (g.ep,112) [.d (.str S.fks[k].table),pc,.d (.str S.fks[k].ref)]).ep:=fun q hq=>by have:=hnw0 q hq;omega
   have hg2:=hs.1;have hgz:=hz4.1;have hep2:=hs2.1;simp[hn,h3',hnp,bz3'];refine bld_ow (x:=[.d (.str S.fks[k].table),pc,.d (.str S.fks[k].ref)]) (by simp[toDs];cases pc.toD<;>rfl) (by simp) (fun d hd2=>?_) (fun hd2=>?_)
   .obtain⟨rfl,hT2⟩:=hoF0.ofD hd2;have hz5:Same (g2'.setBox (g.ep,112) [.d (.str S.fks[k].table),pc,.d (.str S.fks[k].ref)]) (((g2'.setBox (g.ep,112) [.d (.str S.fks[k].table),pc,.d (.str S.fks[k].ref)]).setArr (g2'.ep,16 * 41) (some (1,3))).next) []:=Same.refl.setArr.next;simp only[Nat.reduceMul] at hz5;have s5:=s1.frame ((hz4.trans hs2).trans hz5);obtain⟨ys,my,hly,add⟩:=s5.addF;simp[hn];refine app_mr (by simp;exact⟨rfl,rfl⟩) (by simp) (by simp) (by simp) my (RowAt.own1 (by simp)) (by rw[hly];simp at hlt |-;omega) (fun c' g' hm' hs6 hl6=>?_);have hep6:=hs6.1;have hep5:=hz5.1;have hbl:=s5.keep hs6 fun k hk=>.inr (.inl (s5.hlabs.2.1 k hk));have hlab:∀ k ∈ labs fc,k ∈ fa:=s1.hlabs.2.1;obtain⟨a',s6,ha'⟩:=add g' c' _ _ [] hm' hs6 hl6 (hT2 g') Y2k (fun k hk=>by
     have h9:=hnw k ((fun q (hq:q ∈ [])=>by simp at hq) k hk);refine⟨by omega,fun h8=>by have:=s1.lt k h8;omega,fun h8=>?_⟩;rcases hl6 k h8 with h7 | h7
     .have:=s1.lt k (by simp[hlab k h7]);omega
     .omega) S.fks[k] rfl
    have ft:∀ k:Lab,k.1 < g.ep->k.1 < h.ep+2->g'.box k=g.box k:=fun k hk hk2=>by
     rw[hs6.2 k (by omega) fun h9=>by have:=hnew k (by simp[hlab k h9]);omega];exact ((hz4.trans hs2).trans hz5).2 k hk (by simp)
    have hne1:((h.ep,16):Lab)≠p3:=fun he=>by rw[<- he] at hp3;have h9:h.ep+2<=h.ep:=hp3;omega
    have hne2:((h.ep+1,32):Lab)≠p3:=fun he=>by rw[<- he] at hp3;have h9:h.ep+2<=h.ep+1:=hp3;omega
    simp[hn,h3',hbl,h30,hw];refine BackF.of () ⟨⟨⟨tc,c',oc,ta,a',oa,by simp[hn],by simp[h1'],by simp[h2'],by simp[h3'],?_,?_,by simpa[Y2h hlt] using s6,fun k hk=>?_,hp3,((hs.trans ((hz4.trans hs2).trans hz5)).trans' hs6 fun k hk=>.inr (by have:=hnew k (by simp[hlab k hk]);omega)).setBox (.inr (by omega))⟩,by simp[h28],by simp[h29],by simp⟩,hm⟩
    .simpa[hne1,ft (h.ep,16) (by simp<;>omega) (by simp)] using b1
    .simpa[hne2,ft (h.ep+1,32) (by simp<;>omega) (by simp)] using b2
    .simp only[Y02] at hk;rcases hk with hk | hk | hk
     .exact hnew k (by simp[hk])
     .rcases ha' k hk with h9 | h9 | h9
      .exact hnew k (by simp[h9])
      .have:=hnw k ((fun q (hq:q ∈ [])=>by simp at hq) k h9);omega
      .omega
     .exact hnew k (by simp[hk])
   .skip
    have hz5:Same (g2'.setBox (g.ep,112) [.d (.str S.fks[k].table),pc,.d (.str S.fks[k].ref)]) (((g2'.setBox (g.ep,112) [.d (.str S.fks[k].table),pc,.d (.str S.fks[k].ref)]).setBox (g2'.ep,16 * 41) [.d (.str S.fks[k].table),pc,.d (.str S.fks[k].ref)]).next) []:=(Same.refl.setBox (.inr (Y09 _))).next;simp only[Nat.reduceMul] at hz5;have s5:=s1.frame ((hz4.trans hs2).trans hz5);obtain⟨ys,my,hly,add⟩:=s5.addF;simp[hn];refine app_mr (by simp;exact⟨rfl,rfl⟩) (by simp) (by simp) (by simp) my (RowAt.new1 (x:=[.d (.str S.fks[k].table),pc,.d (.str S.fks[k].ref)]) (by simp) (by simp)) (by rw[hly];simp at hlt |-;omega) (fun c' g' hm' hs6 hl6=>?_);have hep6:=hs6.1;have hep5:=hz5.1;have hbl:=s5.keep hs6 fun k hk=>.inr (.inl (s5.hlabs.2.1 k hk));have hlab:∀ k ∈ labs fc,k ∈ fa:=s1.hlabs.2.1;obtain⟨a',s6,ha'⟩:=add g' c' _ _ (labs pc) hm' hs6 hl6 (hoF0.frame fun k hk=>by have h9:=hnw k hk;rw[hs6.2 k (by omega) fun h8=>by have:=s1.lt k (by simp[s1.hlabs.2.1 k h8]);omega];exact hz5.2 k h9.2 (by simp)) Z1t (fun k hk=>by
     have h9:=hnw k ((fun _ h=>h) k hk);refine⟨by omega,fun h8=>by have:=s1.lt k h8;omega,fun h8=>?_⟩;rcases hl6 k h8 with h7 | h7
     .have:=s1.lt k (by simp[hlab k h7]);omega
     .omega) S.fks[k] rfl
    have ft:∀ k:Lab,k.1 < g.ep->k.1 < h.ep+2->g'.box k=g.box k:=fun k hk hk2=>by
     rw[hs6.2 k (by omega) fun h9=>by have:=hnew k (by simp[hlab k h9]);omega];exact ((hz4.trans hs2).trans hz5).2 k hk (by simp)
    have hne1:((h.ep,16):Lab)≠p3:=fun he=>by rw[<- he] at hp3;have h9:h.ep+2<=h.ep:=hp3;omega
    have hne2:((h.ep+1,32):Lab)≠p3:=fun he=>by rw[<- he] at hp3;have h9:h.ep+2<=h.ep+1:=hp3;omega
    simp[hn,h3',hbl,h30,hw];refine BackF.of () ⟨⟨⟨tc,c',oc,ta,a',oa,by simp[hn],by simp[h1'],by simp[h2'],by simp[h3'],?_,?_,by simpa[Y2h hlt] using s6,fun k hk=>?_,hp3,((hs.trans ((hz4.trans hs2).trans hz5)).trans' hs6 fun k hk=>.inr (by have:=hnew k (by simp[hlab k hk]);omega)).setBox (.inr (by omega))⟩,by simp[h28],by simp[h29],by simp⟩,hm⟩
    .simpa[hne1,ft (h.ep,16) (by simp<;>omega) (by simp)] using b1
    .simpa[hne2,ft (h.ep+1,32) (by simp<;>omega) (by simp)] using b2
    .simp only[Y02] at hk;rcases hk with hk | hk | hk
     .exact hnew k (by simp[hk])
     .rcases ha' k hk with h9 | h9 | h9
      .exact hnew k (by simp[h9])
      .have:=hnw k ((fun _ h=>h) k h9);omega
      .omega
     .exact hnew k (by simp[hk])
  .rintro _ e g ⟨⟨tc,fc,oc,ta,fa,oa,hn,h1',h2',h3',b1,b2,s1,hnew,hp3,hs⟩,h28,h29,h30⟩ _;rw[Y1b] at s1;have hb3:=s1.box;simp[hn,h2',h3',h29,h30,hb3,b2,retH,resVs,resV];obtain⟨qt,qf,qo,rfl,rfl,rfl,sc⟩:=s1;have hsF:Same h (g.setBox (h.ep+1,32) [tc,fc,oc]) []:=hs.setBox (.inr (by simp));have kb:∀ k ∈ plabs tc qt++(plabs fc qf++plabs oc qo),(g.setBox (h.ep+1,32) [tc,fc,oc]).box k=g.box k:=fun k hk=>by
    have h9:=hnew k hk
    have:k≠(h.ep+1,32):=fun he=>by rw[he] at h9;simp at h9
    simp[this]
   simp only[Y02] at kb;have hndA:=sc.nd;rw[Y1z] at hndA;refine hk tc fc oc qt qf qo _ (sc.t.frame fun k hk=>kb k (.inl hk)) (sc.f.frame fun k hk=>kb k (.inr (.inl hk))) (sc.o.frame fun k hk=>kb k (.inr (.inr hk))) hndA.2 (fun k hk=>⟨by have:=hnew k hk;omega,by have:=sc.lt k (Y0c _ hk);simpa using this⟩) hsF
end
end Go.Proofs.YtbcejndfbklikaaGreatDoor
