/-
  Part 6 of the proof: joined by a program out of 44 texts.
-/
import Derived.Test.YthgepknlibmjcaaGreatL5
set_option linter.unusedVariables false
set_option linter.unusedSimpArgs false
set_option maxRecDepth 20000
section
namespace Go.Proofs.YthgepknlibmjcaaGreat
open Go.Am
def m_schema_Clone (s_:Sch):Option Sch:=
 (bindK (m_slices_Clone_Constraint s_.cons) fun v3=>(forK (fun (i6:Nat) (x6:Tbl) (s6:(List Tbl)) next_6=>(bindK (m_schema_CloneTable x6) fun v8=>(appK2 s6 [v8] fun _=>(next_6 (s6++[v8]))))) (fun (s6:(List Tbl))=>(forK (fun (i12:Nat) (x12:Fk) (s12:(List Fk)) next_12=>(bindK (m_slices_Clone_Int x12.cols) fun v14=>(appK2 s12 [(Fk.mk x12.table v14 x12.ref)] fun _=>(next_12 (s12++[(Fk.mk x12.table v14 x12.ref)]))))) (fun (s12:(List Fk))=>(some (Sch.mk s6 s12 v3))) s_.fks 0 [])) s_.tables 0 []))
theorem c_schema_Clone (s_:Sch) (r:Sch) (hm:Is (m_schema_Clone s_) r):PSpec Tryz.prog 101 [.agg s_.enc] (.agg (r.enc.map RC.d)):=by
 unfold m_schema_Clone at hm
 refine PSpec.of_vc Tryz.func101 rfl (by kernel_rfl) (n:=46) rfl rfl (by simp) ?_
 try simp[*]
 refine r_call (av:=[.one (.d (.sl (s_.cons.map Cons.enc)))]) hm (fun v hv=>c_slices_Clone_Constraint _ v hv) (by simp[*]) ?_
 clear hm;intro v3 hvv3 hm
 try simp[*]
 intro hl5
 replace hl5:s_.tables.length≤2097152:=by simpa using hl5
 refine Wait.for (xs:=s_.tables) (s0:=[]) (fun i6 s6 e6 h6=>∃ c6_0 c6_bb4_2:C,(e6.n=46∧e6.get 1=.one (.ptr (0,16) 0)∧e6.get 2=.one (.ptr (1,32) 0)∧e6.get 3=.one (.ptr (3,48) 0)∧e6.get 13=.one (.d (.sl (s_.tables.map Tbl.enc)))∧e6.get 14=.one (.d (.int .i64 (s_.tables.length:Int)))∧e6.get 15=.one (.d (.int .i64 (i6:Int)))∧h6.box (0,16)=some [.d (.sl (s_.tables.map Tbl.enc)),.d (.sl (s_.fks.map Fk.enc)),.d (.sl (s_.cons.map Cons.enc))]∧h6.box (1,32)=some [.nil,.nil,.nil]∧h6.box (3,48)=some [c6_0,.nil,c6_bb4_2]∧Grows h6 3 c6_0 (s6.map Tbl.enc)∧Grows h6 7 c6_bb4_2 (v3.map Cons.enc))∧Apart c6_0 c6_bb4_2) hm ⟨.nil,.own (2,161) (v3.map Cons.enc),by simp (maxDischargeDepth:=20) [*],(by simp)⟩ ?_ ?_
 ·rintro i6 s6 e6 h6 ⟨c6_0,c6_bb4_2,⟨hn6,h6_1,h6_2,h6_3,h6_13,h6_14,h6_15,hb6_b1,hb6_b2,hb6_b4,gc6_0,gc6_bb4_2⟩,apc6_0_c6_bb4_2⟩ hlt6 hm
  have hlc6_0:=gc6_0.list
  have hdc6_0:=gc6_0.toD
  have hac6_0:=gc6_0.toA
  have huc6_0:=gc6_0.useUp_arr
  have hlc6_bb4_2:=gc6_bb4_2.list
  have hdc6_bb4_2:=gc6_bb4_2.toD
  have hac6_bb4_2:=gc6_bb4_2.toA
  have huc6_bb4_2:=gc6_bb4_2.useUp_arr
  have hw6:IntKind.i64.wrap ((i6:Int)+1)=(i6:Int)+1:=IntWalk.i64_in _ (by omega)
  try simp[*]
  refine Wait.of (SWP.draw (Plan.then_ [0,1,2,3,4,5,6,7] .done) follows (by kernel_rfl) ?_)
  try simp[*,Plan.then_,vcPlan,planOps,isCallAt,callKind]
  refine r_call (av:=[.agg (s_.tables[i6]).enc]) hm (fun v hv=>c_schema_CloneTable _ v hv) (by simp[*]) ?_
  clear hm;intro v8 hvv8 hm
  try simp[*,Plan.then_,vcPlan,planOps,isCallAt,callKind]
  try refine⟨fun (_:Lab) (_:List C) hl=>hl,?_⟩
  refine r_app (xs:=s6) (ys:=[v8]) (enc:=Tbl.enc) hm ty_el22 (by first | exact Grows.nil | (simp (maxDischargeDepth:=20) [*];done) | (simp (maxDischargeDepth:=20) [*];refine⟨?_,by omega⟩;intro hq;subst hq;simp at hz2<;>omega)) (by simp[*]) (by decide) (by decide) (fun _=>rfl) ?_
  clear hm;intro hl10 hm g9
  try simp[*,Plan.then_,vcPlan,planOps,isCallAt,callKind]
  exact BackF.of (s6++[v8]) ⟨⟨.own (h6.ep+3,384) ((s6++[v8]).map Tbl.enc),c6_bb4_2,by simp (maxDischargeDepth:=20) [*],(by first | (simp[*];done) | exact gc6_bb4_2.apart (by simp))⟩,hm⟩
 ·rintro s6 e6 h6 ⟨c6_0,c6_bb4_2,⟨hn6,h6_1,h6_2,h6_3,h6_13,h6_14,h6_15,hb6_b1,hb6_b2,hb6_b4,gc6_0,gc6_bb4_2⟩,apc6_0_c6_bb4_2⟩ hm
  have hlc6_0:=gc6_0.list
  have hdc6_0:=gc6_0.toD
  have hac6_0:=gc6_0.toA
  have huc6_0:=gc6_0.useUp_arr
  have hlc6_bb4_2:=gc6_bb4_2.list
  have hdc6_bb4_2:=gc6_bb4_2.toD
  have hac6_bb4_2:=gc6_bb4_2.toA
  have huc6_bb4_2:=gc6_bb4_2.useUp_arr
  try simp[*]
  intro hl11
  replace hl11:s_.fks.length≤2097152:=by simpa using hl11
  refine Wait.for (xs:=s_.fks) (s0:=[]) (fun i12 s12 e12 h12=>∃ c12_bb4_0 c12_0 c12_bb4_2:C,(e12.n=46∧e12.get 2=.one (.ptr (1,32) 0)∧e12.get 3=.one (.ptr (3,48) 0)∧e12.get 28=.one (.d (.sl (s_.fks.map Fk.enc)))∧e12.get 29=.one (.d (.int .i64 (s_.fks.length:Int)))∧e12.get 30=.one (.d (.int .i64 (i12:Int)))∧h12.box (1,32)=some [.nil,.nil,.nil]∧h12.box (3,48)=some [c12_bb4_0,c12_0,c12_bb4_2]∧Grows h12 3 c12_bb4_0 (s6.map Tbl.enc)∧Grows h12 3 c12_0 (s12.map Fk.enc)∧Grows h12 7 c12_bb4_2 (v3.map Cons.enc))∧Apart c12_bb4_0 c12_0∧Apart c12_bb4_0 c12_bb4_2∧Apart c12_0 c12_bb4_2) hm ⟨c6_0,.nil,c6_bb4_2,by simp (maxDischargeDepth:=20) [*],(by simp),(by first | assumption | exact Apart.symm (by assumption)),(by simp)⟩ ?_ ?_
  ·rintro i12 s12 e12 h12 ⟨c12_bb4_0,c12_0,c12_bb4_2,⟨hn12,h12_2,h12_3,h12_28,h12_29,h12_30,hb12_b2,hb12_b4,gc12_bb4_0,gc12_0,gc12_bb4_2⟩,apc12_bb4_0_c12_0,apc12_bb4_0_c12_bb4_2,apc12_0_c12_bb4_2⟩ hlt12 hm
   have hlc12_bb4_0:=gc12_bb4_0.list
   have hdc12_bb4_0:=gc12_bb4_0.toD
   have hac12_bb4_0:=gc12_bb4_0.toA
   have huc12_bb4_0:=gc12_bb4_0.useUp_arr
   have hlc12_0:=gc12_0.list
   have hdc12_0:=gc12_0.toD
   have hac12_0:=gc12_0.toA
   have huc12_0:=gc12_0.useUp_arr
   have hlc12_bb4_2:=gc12_bb4_2.list
   have hdc12_bb4_2:=gc12_bb4_2.toD
   have hac12_bb4_2:=gc12_bb4_2.toA
   have huc12_bb4_2:=gc12_bb4_2.useUp_arr
   have hw12:IntKind.i64.wrap ((i12:Int)+1)=(i12:Int)+1:=IntWalk.i64_in _ (by omega)
   try simp[*]
   refine r_call (av:=[.one (.d (.sl ((s_.fks[i12].cols).map encI)))]) hm (fun v hv=>c_slices_Clone_Int _ v hv) (by simp[*]) ?_
   clear hm;intro v14 hvv14 hm
   try simp[*]
   refine r_app (xs:=s12) (ys:=[(Fk.mk s_.fks[i12].table v14 s_.fks[i12].ref)]) (enc:=Fk.enc) hm ty_el23 (by first | exact Grows.nil | (simp (maxDischargeDepth:=20) [*];done) | (simp (maxDischargeDepth:=20) [*];refine⟨?_,by omega⟩;intro hq;subst hq;simp at hz2<;>omega)) (by simp[*]) (by decide) (by decide) (fun _=>rfl) ?_
   clear hm;intro hl16 hm g15
   try simp[*]
   exact BackF.of (s12++[(Fk.mk s_.fks[i12].table v14 s_.fks[i12].ref)]) ⟨⟨c12_bb4_0,.own (h12.ep+3,672) ((s12++[(Fk.mk s_.fks[i12].table v14 s_.fks[i12].ref)]).map Fk.enc),c12_bb4_2,by simp (maxDischargeDepth:=20) [*],(by first | (simp[*];done) | exact (gc12_bb4_0.apart (by simp)).symm),(by first | assumption | exact Apart.symm (by assumption)),(by first | (simp[*];done) | exact gc12_bb4_2.apart (by simp))⟩,hm⟩
  ·rintro s12 e12 h12 ⟨c12_bb4_0,c12_0,c12_bb4_2,⟨hn12,h12_2,h12_3,h12_28,h12_29,h12_30,hb12_b2,hb12_b4,gc12_bb4_0,gc12_0,gc12_bb4_2⟩,apc12_bb4_0_c12_0,apc12_bb4_0_c12_bb4_2,apc12_0_c12_bb4_2⟩ hm
   have hlc12_bb4_0:=gc12_bb4_0.list
   have hdc12_bb4_0:=gc12_bb4_0.toD
   have hac12_bb4_0:=gc12_bb4_0.toA
   have huc12_bb4_0:=gc12_bb4_0.useUp_arr
   have hlc12_0:=gc12_0.list
   have hdc12_0:=gc12_0.toD
   have hac12_0:=gc12_0.toA
   have huc12_0:=gc12_0.useUp_arr
   have hlc12_bb4_2:=gc12_bb4_2.list
   have hdc12_bb4_2:=gc12_bb4_2.toD
   have hac12_bb4_2:=gc12_bb4_2.toA
   have huc12_bb4_2:=gc12_bb4_2.useUp_arr
   try simp[*]
   obtain rfl:=r_ret hm
   exact ret0 (vs:=[_]) (by simp[*];try exact rfl) (by simp[*])
end Go.Proofs.YthgepknlibmjcaaGreat
end
section
namespace Go.Proofs.YthgepknlibmjcaaGreat
open Go Go.Am
theorem w_clone {α β:Type} {xs:List α} {f:α→β} {Q:List β→Prop} {ρ:Type} {R:ρ→Prop} {body:Nat→α→List β→(List β→Option ρ)→Option ρ} {k:List β→Option ρ} (hl:xs.length≤1048576)
  (hb:∀ i x s next,s.length < 1048576→Wp (next (s++[f x])) R→Wp (body i x s next) R) (hk:Wp (k (xs.map f)) R):Wp (forK body k xs 0 []) R:=by
 refine Wp.for (fun i s=>s=(xs.take i).map f) (by simp) ?_ ?_
 ·intro i x s next hx hm hI hn
  have hi:=(List.getElem?_eq_some_iff.1 hx).1
  subst hI
  refine hb i x _ next (by simp;omega) (hn _ ?_)
  rw[List.take_add_one,hx]
  simp
 ·intro s hs
  rw[hs,List.take_length]
  exact hk
theorem w_schema_Clone (S:Sch) (h1:S.tables.length≤1048576) (h2:S.fks.length≤1048576):Wp (m_schema_Clone S) fun r=>r=S:=by
 unfold m_schema_Clone
 refine Wp.bind (R:=fun r=>r=S.cons) (Wp.ret rfl) fun o _ ho=>?_
 subst ho
 refine w_clone (f:=id) (Q:=fun _=>True) h1 ?_ ?_
 ·intro i x s next hs hn
  refine Wp.bind (R:=fun r=>r=x) (Wp.ret (by cases x;rfl)) fun y _ hy=>?_
  subst hy
  exact Wp.app (by simp;omega) hn
 ·refine w_clone (f:=id) (Q:=fun _=>True) h2 ?_ ?_
  ·intro i x s next hs hn
   refine Wp.bind (R:=fun r=>r=x.cols) (Wp.ret rfl) fun y _ hy=>?_
   subst hy
   exact Wp.app (by simp;omega) (by cases x;exact hn)
  ·exact Wp.ret (by cases S;simp)
theorem w_Equal_Column (a b:List Col):Wp (m_slices_Equal_Column a b) fun _=>True:=by
 unfold m_slices_Equal_Column
 refine Wp.cond (fun _=>Wp.ret trivial) fun h=>?_
 have hl:a.length=b.length:=by simp at h;omega
 refine Wp.for (fun _ _=>True) trivial (fun i x s next hx _ _ hn=>?_) fun _ _=>Wp.ret trivial
 have hi:=(List.getElem?_eq_some_iff.1 hx).1
 exact Wp.get (by omega) (by omega) fun _ _ _=>Wp.cond (fun _=>Wp.ret trivial) fun _=>hn () trivial
theorem w_EqualTables (a b:Tbl):Wp (m_schema_EqualTables a b) fun _=>True:=by
 unfold m_schema_EqualTables m_schema_equalTables
 refine Wp.bind (R:=fun _=>True) (Wp.cond (fun _=>Wp.bind (w_Equal_Column _ _) fun _ _ _=>Wp.cond (fun _=>Wp.bind (w_Equal_Int _ _) fun _ _ _=>Wp.ret trivial) fun _=>Wp.ret trivial) fun _=>Wp.ret trivial) fun _ _ _=>Wp.ret trivial
theorem w_evolution_Validate (x:Stp):Wp (m_evolution_Validate x) fun _=>True:=by
 unfold m_evolution_Validate
 refine Wp.cond (fun _=>Wp.ret trivial) fun _=>Wp.cond (fun _=>Wp.ret trivial) fun _=>Wp.bind (R:=fun _=>True) ?_ fun y _ _=>Wp.bind (R:=fun _=>True) ?_ fun _ _ _=>Wp.cond (fun _=>Wp.ret trivial) fun _=>Wp.ret trivial
 ·unfold m_evolution_normalized
  repeat' first | exact Wp.ret trivial | refine Wp.cond (fun _=>?_) fun _=>?_
 ·unfold m_evolution_Equal
  repeat' first | exact Wp.ret trivial | refine Wp.bind (w_Equal_Int _ _) fun _ _ _=>?_ | refine Wp.bind (w_EqualTables _ _) fun _ _ _=>?_ | refine Wp.bind (w_EqualForeignKeys _ _) fun _ _ _=>?_ | refine Wp.cond (fun _=>?_) fun _=>?_
theorem w_Index_Int (xs:List Int) (v:Int):Wp (m_slices_Index_Int xs v) fun k=>(k=-1∧v ∉ xs)∨(0≤k∧k < xs.length∧v ∈ xs):=by
 unfold m_slices_Index_Int
 refine Wp.for (fun i _=>∀ (j:Nat) (y:Int),j < i→xs[j]?=some y→y≠v) (by intro j y h;omega) ?_ ?_
 ·intro i x s next hx hm hI hn
  have hi:=(List.getElem?_eq_some_iff.1 hx).1
  refine Wp.cond (fun h=>Wp.ret (.inr ⟨by omega,by omega,?_⟩)) fun h=>hn () (upto_succ hI hx ?_)
  ·have:v=x:=by simpa using h
   rw[this];exact hm
  ·intro h0
   simp[h0] at h
 ·intro s hI
  exact Wp.ret (.inl ⟨rfl,fun hv=>upto_mem hI v hv rfl⟩)
theorem w_Contains_Int (xs:List Int) (v:Int):Wp (m_slices_Contains_Int xs v) fun b=>b=true↔v ∈ xs:=by
 unfold m_slices_Contains_Int
 refine Wp.bind (w_Index_Int xs v) fun k _ hk=>Wp.ret ?_
 rcases hk with ⟨rfl,h⟩ | ⟨h1,_,h⟩
 ·simp[h]
 ·simp[h,h1]
theorem w_overlap (a b:List Int) (hl:a.length≤2097152):Wp (m_evolution_overlap a b) fun _=>True:=by
 unfold m_evolution_overlap
 refine Wp.for (fun i s=>0≤s∧s≤i) (by simp) ?_ ?_
 ·rintro i x s next hx hm ⟨h0,h1⟩ hn
  have hi:=(List.getElem?_eq_some_iff.1 hx).1
  refine Wp.bind (w_Contains_Int _ _) fun _ _ _=>Wp.cond (fun _=>Wp.chk ⟨by omega,by omega⟩ (hn _ ⟨by omega,by omega⟩)) fun _=>hn _ ⟨h0,by omega⟩
 ·intro s _
  exact Wp.cond (fun _=>Wp.ret trivial) fun _=>Wp.cond (fun _=>Wp.ret trivial) fun _=>Wp.ret trivial
theorem w_dropConstraint (S:Sch) (c:Cons):Wp (m_evolution_dropConstraint S c) fun _=>True:=by
 unfold m_evolution_dropConstraint m_slices_Index_Constraint
 refine Wp.bind (R:=fun k=>k < S.cons.length) (Wp.for (fun _ _=>True) trivial (fun i x s next hx _ _ hn=>Wp.cond (fun _=>Wp.ret ?_) fun _=>hn () trivial) fun _ _=>Wp.ret (by omega)) fun k _ hk=>Wp.ite (fun _=>Wp.ret trivial) fun h=>Wp.chk (by omega) (Wp.ret trivial)
 have hi:=(List.getElem?_eq_some_iff.1 hx).1
 omega
theorem w_dropForeignKey (S:Sch) (c:Fk):Wp (m_evolution_dropForeignKey S c) fun q=>q.1.tables=S.tables∧q.1.cons=S.cons∧∀ f ∈ q.1.fks,f ∈ S.fks:=by
 unfold m_evolution_dropForeignKey m_slices_IndexFunc_Foreignkey
 refine Wp.bind (Wp.index fun x _=>?_) fun k _ hk=>Wp.ite (fun _=>Wp.ret ⟨rfl,rfl,fun _ h=>h⟩) fun h=>Wp.chk (by have:=hk.lt;omega) (Wp.ret ⟨rfl,rfl,fun f hf=>?_⟩)
 ·unfold m_evolution_dropForeignKey_1
  exact Wp.bind (w_EqualForeignKeys _ _) fun _ _ _=>Wp.ret trivial
 ·simp only at hf
  rcases List.mem_append.1 hf with h1 | h1
  ·exact List.mem_of_mem_take h1
  ·exact List.mem_of_mem_drop h1
theorem w_insertTable (S:Sch) (T:Tbl) (h:S.tables.length < 19):Wp (m_evolution_insertTable S T) fun S'=>S'.fks=S.fks∧S'.cons=S.cons:=by
 unfold m_evolution_insertTable
 exact Wp.chk h (Wp.ret ⟨rfl,rfl⟩)
theorem w_createTable (S:Sch) (T:Tbl) (h:S.tables.length < 19):Wp (m_evolution_createTable S T) fun _=>True:=by
 unfold m_evolution_createTable
 exact Wp.bind (w_FindTable _ _) fun _ _ _=>Wp.cond (fun _=>Wp.ret trivial) fun _=>Wp.bind (w_insertTable S T h) fun _ _ _=>Wp.ret trivial
theorem w_renameTable (S:Sch) (i:Nat) (nm:ByteArray) (h:S.tables.length < 19) (hi:i < S.tables.length):Wp (m_evolution_renameTable S i nm) fun _=>True:=by
 unfold m_evolution_renameTable
 refine Wp.bind (w_FindTable _ _) fun _ _ _=>Wp.cond (fun _=>Wp.ret trivial) fun _=>Wp.get (by omega) (by omega) fun T _ _=>Wp.bind (w_insertTable _ _ (by simp;omega)) fun S1 _ hS1=>?_
 refine Wp.count (fun _ (S2:Sch)=>S2.fks.length=S1.fks.length) rfl ?_ ?_
 ·intro k S2 next hk hl hn
  refine Wp.get (by omega) (by omega) fun f _ _=>?_
  repeat' first | exact hn _ (by simpa using hl) | refine Wp.cond (fun _=>?_) fun _=>?_
 ·intro S2 _
  refine Wp.count (fun _ (S3:Sch)=>S3.cons.length=S2.cons.length) rfl ?_ fun _ _=>Wp.ret trivial
  intro k S3 next hk hl hn
  refine Wp.get (by omega) (by omega) fun f _ _=>?_
  repeat' first | exact hn _ (by simpa using hl) | refine Wp.cond (fun _=>?_) fun _=>?_
end Go.Proofs.YthgepknlibmjcaaGreat
end
section
namespace Go.Proofs.YthgepknlibmjcaaGreat
open Go Go.Am
theorem LIM_eq:LIM=2097152:=rfl
theorem w_remapColumns (S:Sch) (table:ByteArray) (mr:Int→Option Int) (P:Int→Prop) (hmr:∀ v,P v→Wp (mr v) fun _=>True)
  (hf:∀ f ∈ S.fks,strEq f.table table=true→∀ v ∈ f.cols,P v) (ho:∀ c ∈ S.cons,strEq c.table table=true→P c.left∧(0≤c.right→P c.right)) :
  Wp (m_evolution_remapColumns S table mr) fun S'=>S'.tables=S.tables∧S'.fks.length=S.fks.length∧S'.cons.length=S.cons.length:=by
 unfold m_evolution_remapColumns
 refine Wp.count (fun i (S1:Sch)=>S1.tables=S.tables∧S1.cons=S.cons∧S1.fks.length=S.fks.length∧∀ j,i≤j→S1.fks[j]?=S.fks[j]?) ⟨rfl,rfl,rfl,fun _ _=>rfl⟩ ?_ ?_
 ·rintro i S1 next hi ⟨h1,h2,h3,h4⟩ hn
  unfold m_remapF
  refine Wp.get (by omega) (by omega) fun f hfx _=>?_
  have hfx':S.fks[i]?=some f:=by rw[← h4 i (Nat.le_refl _),← hfx];congr 1
  refine Wp.cond (fun hst=>?_) fun _=>hn _ ⟨h1,h2,h3,fun j hj=>h4 j (by omega)⟩
  have hP:=hf f (List.mem_of_getElem? hfx') hst
  refine Wp.count (fun k (S2:Sch)=>S2.tables=S.tables∧S2.cons=S.cons∧S2.fks.length=S.fks.length∧(∀ j,i+1≤j→S2.fks[j]?=S.fks[j]?)∧∃ f',S2.fks[i]?=some f'∧f'.cols.length=f.cols.length∧∀ j,k≤j→f'.cols[j]?=f.cols[j]?)
   ⟨h1,h2,h3,fun j hj=>h4 j (by omega),f,by rw[← hfx];congr 1,rfl,fun _ _=>rfl⟩ ?_ ?_
  ·rintro k S2 next2 hk ⟨g1,g2,g3,g4,f',g5,g6,g7⟩ hn2
   refine Wp.getN g5 (Wp.get (by omega) (by omega) fun v hv _=>?_)
   have hv':f.cols[k]?=some v:=by rw[← g7 k (Nat.le_refl _),← hv];congr 1
   refine Wp.bind (hmr v (hP v (List.mem_of_getElem? hv'))) fun w _ _=>hn2 _ ⟨g1,g2,by simpa using g3,fun j hj=>?_,⟨f'.table,f'.cols.set k w,f'.ref⟩,?_,by simpa using g6,fun j hj=>?_⟩
   ·rw[List.getElem?_set_ne (by omega)];exact g4 j hj
   ·rw[List.getElem?_set_self (by omega)]
   ·simp only
    rw[List.getElem?_set_ne (by omega)];exact g7 j (by omega)
  ·rintro S2 ⟨g1,g2,g3,g4,_⟩
   exact hn _ ⟨g1,g2,g3,g4⟩
 ·rintro S1 ⟨h1,h2,h3,_⟩
  refine Wp.count (fun i (S2:Sch)=>S2.tables=S.tables∧S2.fks.length=S.fks.length∧S2.cons.length=S.cons.length∧∀ j,i≤j→S2.cons[j]?=S.cons[j]?) ⟨h1,h3,by rw[h2],fun _ _=>by rw[h2]⟩ ?_ fun S2 h=>Wp.ret ⟨h.1,h.2.1,h.2.2.1⟩
  rintro i S2 next hi ⟨g1,g2,g3,g4⟩ hn
  unfold m_remapO
  have hi':i < S.cons.length:=by rw[← h2];exact hi
  refine Wp.get (by omega) (by omega) fun c hc _=>?_
  have hc':S.cons[i]?=some c:=by rw[← g4 i (Nat.le_refl _),← hc];congr 1
  refine Wp.cond (fun _=>hn _ ⟨g1,g2,g3,fun j hj=>g4 j (by omega)⟩) fun hst=>?_
  have hP:=ho c (List.mem_of_getElem? hc') (by simpa using hst)
  have hset:∀ c',∀ j,i+1≤j→(S2.cons.set i c')[j]?=S.cons[j]?:=fun c' j hj=>by rw[List.getElem?_set_ne (by omega)];exact g4 j (by omega)
  refine Wp.bind (hmr _ hP.1) fun v _ _=>Wp.cond (fun h=>Wp.bind (hmr _ (hP.2 (by simpa using h))) fun w _ _=>hn _ ⟨g1,g2,by simpa using g3,hset _⟩) fun _=>hn _ ⟨g1,g2,by simpa using g3,hset _⟩
theorem w_removeColumns_1 (v:Int) (removed:List Int) (h0:0≤v) (h1:v < 2097152) (hl:removed.length≤2097152):Wp (m_evolution_removeColumns_1 v removed) fun _=>True:=by
 unfold m_evolution_removeColumns_1
 refine Wp.for (fun i s=>0≤s∧s≤i) (by simp) ?_ ?_
 ·rintro i x s next hx hm ⟨h2,h3⟩ hn
  have hi:=(List.getElem?_eq_some_iff.1 hx).1
  exact Wp.cond (fun _=>Wp.chk ⟨by omega,by omega⟩ (hn _ ⟨by omega,by omega⟩)) fun _=>hn _ ⟨h2,by omega⟩
 ·rintro s ⟨h2,h3⟩
  exact Wp.chk ⟨by omega,by omega⟩ (Wp.ret trivial)
theorem w_removeColumns (S:Sch) (i:Nat) (T:Tbl) (removed:List Int) (hT:S.tables[i]?=some T) (hV:VT T) (hl:removed.length≤2097152)
  (hf:∀ f ∈ S.fks,strEq f.table T.name=true→∀ v ∈ f.cols,0≤v∧v < 6) (ho:∀ c ∈ S.cons,strEq c.table T.name=true→(0≤c.left∧c.left < 6)∧c.right < 6) :
  Wp (m_evolution_removeColumns S i removed) fun S'=>S'.tables.length=S.tables.length∧S'.fks.length=S.fks.length∧S'.cons.length=S.cons.length ∧
   ∃ T',S'.tables[i]?=some T'∧T'.cols.length≤T.cols.length∧((∃ k,k < T.cols.length∧(k:Int) ∉ removed)→0 < T'.cols.length):=by
 unfold m_evolution_removeColumns
 have hi:=(List.getElem?_eq_some_iff.1 hT).1
 refine Wp.getN hT ?_
 refine Wp.for (fun k (s:List Col)=>s.length≤k∧((∃ j,j < k∧(j:Int) ∉ removed)→0 < s.length)) ⟨by simp,by rintro⟨j,h,_⟩;omega⟩ ?_ ?_
 ·rintro k c s next hx hm ⟨h1,h2⟩ hn
  unfold m_removeC
  refine Wp.bind (w_Contains_Int _ _) fun b _ hb=>Wp.cond (fun h=>hn _ ⟨by simp;omega,fun _=>by simp⟩) fun h=>hn _ ⟨by omega,?_⟩
  rintro⟨j,hj,hr⟩
  refine h2 ⟨j,?_,hr⟩
  rcases Nat.lt_or_ge j k with h3 | h3
  ·exact h3
  ·obtain rfl:j=k:=by omega
   exact absurd (hb.1 (by simpa using h)) hr
 ·rintro cols ⟨h1,h2⟩
  refine Wp.count (fun k (S1:Sch)=>S1.fks=S.fks∧S1.cons=S.cons∧S1.tables.length=S.tables.length∧∃ T',S1.tables[i]?=some T'∧T'.name=T.name∧T'.pk.length=T.pk.length∧∀ j,k≤j→T'.pk[j]?=T.pk[j]?) ⟨rfl,rfl,rfl,T,hT,rfl,rfl,fun _ _=>rfl⟩ ?_ ?_
  ·rintro k S1 next hk ⟨g1,g2,g3,T',g4,g5,g6,g7⟩ hn
   unfold m_removeP
   refine Wp.getN g4 (Wp.get (by omega) (by omega) fun v hv _=>?_)
   have hv':T.pk[k]?=some v:=by rw[← g7 k (Nat.le_refl _),← hv];congr 1
   have hp:=hV.pk v (List.mem_of_getElem? hv')
   have h6:=hV.cols6
   refine Wp.bind (w_removeColumns_1 v removed hp.1 (by omega) hl) fun w _ _=>hn _ ⟨g1,g2,by simpa using g3,_,List.getElem?_set_self (by omega),g5,by simpa using g6,fun j hj=>?_⟩
   simp only
   rw[List.getElem?_set_ne (by omega)];exact g7 j (by omega)
  ·rintro S1 ⟨g1,g2,g3,T',g4,g5,g6,_⟩
   refine Wp.getN g4 (Wp.bind (w_remapColumns _ _ _ (fun v=>0≤v∧v < 6) (fun v hv=>w_removeColumns_1 v removed hv.1 (by omega) hl) ?_ ?_) fun S2 _ hS2=>Wp.ret ?_)
   ·simp only[g1,g5];exact hf
   ·simp only[g2,g5];exact fun c hc he=>⟨(ho c hc he).1,fun h=>⟨h,(ho c hc he).2⟩⟩
   ·obtain⟨k1,k2,k3⟩:=hS2
    refine⟨by rw[k1];simpa using g3,by rw[k2];simp[g1],by rw[k3];simp[g2],{ T' with cols:=cols },by rw[k1];exact List.getElem?_set_self (by omega),h1,fun h=>h2 h⟩
theorem w_checkUnused (S:Sch) (T:Tbl) (v:Int):Wp (m_evolution_checkUnused S T v) fun e=>e=0→v ∉ T.pk:=by
 unfold m_evolution_checkUnused m_slices_ContainsFunc_Constraint m_slices_IndexFunc_Constraint
 refine Wp.bind (w_Contains_Int _ _) fun b _ hb=>Wp.cond (fun _=>Wp.ret (by simp)) fun h1=>?_
 have hn:v ∉ T.pk:=fun h=>by rw[hb.2 h] at h1;cases h1
 refine Wp.bind (w_ContainsFunc_Fk _ _ fun x _=>?_) fun _ _ _=>Wp.cond (fun _=>Wp.ret (by simp)) fun _=>Wp.bind (R:=fun _=>True) (Wp.bind (Wp.index fun x _=>?_) fun _ _ _=>Wp.ret trivial) fun _ _ _=>Wp.cond (fun _=>Wp.ret (by simp)) fun _=>Wp.ret fun _=>hn
 ·unfold m_evolution_checkUnused_1
  exact Wp.cond (fun _=>Wp.bind (w_Contains_Int _ _) fun _ _ _=>Wp.ret trivial) fun _=>Wp.ret trivial
 ·unfold m_evolution_checkUnused_2
  exact Wp.cond (fun _=>Wp.cond (fun _=>Wp.ret trivial) fun _=>Wp.ret trivial) fun _=>Wp.ret trivial
theorem w_checkDefault (v:GV) (c:Col):Wp (m_evolution_checkDefault v c) fun _=>True:=by
 unfold m_evolution_checkDefault
 refine Wp.bind (w_value_Validate _) fun _ _ _=>?_
 repeat' first | exact Wp.ret trivial | refine Wp.cond (fun _=>?_) fun _=>?_
section
variable {S:Sch} {i:Nat} {T:Tbl}
theorem w_addColumn (x:Stp) (hT:S.tables[i]?=some T) (hV:VT T):Wp (m_evolution_addColumn S i x) fun _=>True:=by
 unfold m_evolution_addColumn
 have h1:=hV.cols0
 have h2:=hV.cols6
 exact Wp.bind (w_checkDefault _ _) fun _ _ _=>Wp.cond (fun _=>Wp.ret trivial) fun _=>Wp.getN hT (Wp.chk ⟨h1,by have:=LIM_eq;omega⟩ (Wp.ret trivial))
theorem VS.hf (h:VS S) (nm:ByteArray):∀ f ∈ S.fks,strEq f.table nm=true→∀ v ∈ f.cols,0≤v∧v < 6:=fun f hf _=>(h.fk f hf).2
theorem VS.ho (h:VS S) (nm:ByteArray):∀ c ∈ S.cons,strEq c.table nm=true→(0≤c.left∧c.left < 6)∧c.right < 6:=fun c hc _=>⟨(h.con c hc).1,(h.con c hc).2.2⟩
theorem w_alterColumn (x:Stp) (hT:S.tables[i]?=some T) (hS:VS S):Wp (m_evolution_alterColumn S i x) fun _=>True:=by
 unfold m_evolution_alterColumn
 have hV:=hS.tab T (List.mem_of_getElem? hT)
 refine Wp.getN hT (Wp.bind (w_FindColumn _ _) fun r _ hr=>Wp.cond (fun _=>Wp.ret trivial) fun h=>?_)
 have h':r.2=true:=by simpa using h
 have hr1:=hr.2.1 h'
 refine Wp.cond (fun _=>Wp.bind (w_FindColumn _ _) fun _ _ _=>Wp.cond (fun _=>Wp.ret trivial) fun _=>Wp.get hr.1 hr1 fun _ _ _=>Wp.ret trivial) fun _=>?_
 refine Wp.bind (w_checkUnused _ _ _) fun _ _ _=>Wp.cond (fun _=>Wp.ret trivial) fun _=>Wp.cond (fun _=>Wp.get hr.1 hr1 fun _ _ _=>Wp.ret trivial) fun _=>Wp.get hr.1 hr1 fun _ _ _=>?_
 exact Wp.bind (w_checkDefault _ _) fun _ _ _=>Wp.cond (fun _=>Wp.ret trivial) fun _=>Wp.bind (w_removeColumns S i T [r.1] hT hV (by simp) (hS.hf _) (hS.ho _)) fun _ _ _=>Wp.ret trivial
theorem w_concatColumns (x:Stp) (hT:S.tables[i]?=some T) (hS:VS S):Wp (m_evolution_concatColumns S i x) fun _=>True:=by
 unfold m_evolution_concatColumns
 have hV:=hS.tab T (List.mem_of_getElem? hT)
 refine Wp.getN hT (Wp.cond (fun _=>Wp.ret trivial) fun h1=>?_)
 have hl:x.cols.length=2:=by simp at h1;omega
 obtain⟨a,b,hab⟩:∃ a b,x.cols=[a,b]:=by
  match x.cols,hl with
  | [a,b],_=>exact⟨a,b,rfl⟩
 rw[hab]
 refine Wp.get (by omega) (by simp) fun a' ha _=>Wp.cond (fun _=>Wp.ret trivial) fun h2=>Wp.get (by omega) (by simp) fun b' hb _=>Wp.cond (fun _=>Wp.ret trivial) fun h3=>Wp.cond (fun _=>Wp.ret trivial) fun h4=>?_
 simp at ha hb h2 h3 h4
 subst ha hb
 refine Wp.for (fun _ _=>True) trivial ?_ fun nul _=>?_
 ·intro j col s next hx hm _ hn
  have hc:col=a∨col=b:=by simpa using hm
  exact Wp.get (by omega) (by omega) fun _ _ _=>Wp.cond (fun _=>Wp.ret trivial) fun _=>hn _ trivial
 refine Wp.for (fun i _=>∀ (j:Nat) (y:Int),j < i→([a,b]:List Int)[j]?=some y→y ∉ T.pk) (by intro j y h;omega) ?_ fun s hI=>?_
 ·intro j col s next hx hm hI hn
  exact Wp.bind (w_checkUnused _ _ _) fun e _ he=>Wp.cond (fun _=>Wp.ret trivial) fun h=>hn () (upto_succ hI hx (he (by simpa using h)))
 ·have hU:=upto_mem hI
  refine Wp.bind (w_removeColumns S i T [a,b] hT hV (by simp) (hS.hf _) (hS.ho _)) fun S1 _ hS1=>?_
  obtain⟨_,_,_,T1,hT1,hc1,hc2⟩:=hS1
  have h6:=hV.cols6
  refine Wp.getN hT1 (Wp.chk ⟨hc2 ?_,by have:=LIM_eq;omega⟩ (Wp.ret trivial))
  have hp0:=hV.pk0
  have hp:=hV.pk _ (List.getElem_mem hp0)
  refine⟨(T.pk[0]).toNat,by omega,fun hin=>?_⟩
  rw[show (((T.pk[0]).toNat:Nat):Int)=T.pk[0] by omega] at hin
  exact hU _ hin (List.getElem_mem hp0)
theorem w_dropTable (nm:ByteArray):Wp (m_evolution_dropTable S nm) fun _=>True:=by
 unfold m_evolution_dropTable
 refine Wp.bind (w_ContainsFunc_Fk _ _ fun x _=>?_) fun _ _ _=>Wp.ite (fun _=>Wp.ret trivial) fun _=>Wp.ret trivial
 unfold m_evolution_dropTable_1
 exact Wp.cond (fun _=>Wp.ret trivial) fun _=>Wp.ret trivial
end
end Go.Proofs.YthgepknlibmjcaaGreat
end
section
namespace Go.Proofs.YthgepknlibmjcaaGreat
open Go Go.Am
theorem strEq_symm {a b:ByteArray}:strEq a b=strEq b a:=by
 unfold strEq
 first | exact Bool.beq_comm | exact BEq.comm | exact decide_eq_decide.2 eq_comm
section
variable {S:Sch} {i:Nat} {T:Tbl}
theorem w_checkSplit (x:Stp) (hl:x.cols.length≤1048576):Wp (m_evolution_checkSplit S T x) fun e=>e=0→(∀ v ∈ x.cols,0≤v∧v < T.cols.length)∧∀ t ∈ S.tables,strEq t.name x.other=false:=by
 have hL:=LIM_eq
 unfold m_evolution_checkSplit
 refine Wp.for (fun i _=>∀ (j:Nat) (y:Int),j < i→x.cols[j]?=some y→0≤y∧y < T.cols.length) (by intro j y h;omega) ?_ ?_
 ·intro i y s next hx hm hI hn
  have hi:=(List.getElem?_eq_some_iff.1 hx).1
  refine Wp.cond (fun _=>Wp.ret (by simp)) fun h1=>Wp.cond (fun _=>Wp.ret (by simp)) fun h2=>?_
  have hnx:=upto_succ hI hx ⟨by simpa using h1,by simpa using h2⟩
  refine Wp.cond (fun h3=>?_) fun _=>hn () hnx
  have h3':0 < i:=by simpa using h3
  exact Wp.chk ⟨by omega,by omega⟩ (Wp.get (by omega) (by omega) fun _ _ _=>Wp.cond (fun _=>Wp.ret (by simp)) fun _=>hn () hnx)
 ·intro s hI
  refine Wp.cond (fun _=>Wp.ret (by simp)) fun _=>Wp.bind (w_overlap _ _ (by omega)) fun _ _ _=>Wp.cond (fun _=>Wp.ret (by simp)) fun _=>Wp.bind (w_FindTable _ _) fun v _ hv=>Wp.cond (fun _=>Wp.ret (by simp)) fun h=>Wp.ret fun _=>⟨upto_mem hI,hv.2.2 h⟩
theorem w_splitTable_1 (v n:Int) (x:Stp) (hl:x.cols.length≤1048576) (h0:0≤n) (h6:n≤6):Wp (m_evolution_splitTable_1 v n x) fun _=>True:=by
 have hL:=LIM_eq
 unfold m_evolution_splitTable_1
 refine Wp.bind (w_Index_Int _ _) fun k _ hk=>Wp.chk ?_ (Wp.ret trivial)
 rcases hk with ⟨rfl,_⟩ | ⟨h1,h2,_⟩
 ·exact⟨by omega,by omega⟩
 ·exact⟨by omega,by omega⟩
def SpF (S:Sch) (other:ByteArray) (S1:Sch):Prop:=S1.tables=S.tables∧S1.cons=S.cons∧S1.fks.length=S.fks.length∧∀ f ∈ S1.fks,f.cols.length≤6∧(f.table=other∨f ∈ S.fks)
theorem mem_set {α:Type} {xs:List α} {k:Nat} {a b:α} (h:b ∈ xs.set k a):b ∈ xs∨b=a:=List.mem_or_eq_of_mem_set h
theorem w_splitTable (x:Stp) (hT:S.tables[i]?=some T) (hS:VS S) (hl:x.cols.length≤1048576):Wp (m_evolution_splitTable S i x) fun _=>True:=by
 have hL:=LIM_eq
 have hV:=hS.tab T (List.mem_of_getElem? hT)
 have hpk:=hV.pk6
 have hc6:=hV.cols6
 unfold m_evolution_splitTable
 refine Wp.getN hT (Wp.bind (w_checkSplit x hl) fun e _ he=>Wp.cond (fun _=>Wp.ret trivial) fun he0=>?_)
 obtain⟨hcol,hoth⟩:=he (by simpa using he0)
 have hne:strEq x.other T.name=false:=by rw[strEq_symm];exact hoth T (List.mem_of_getElem? hT)
 refine Wp.count (fun _ S1=>SpF S x.other S1) ⟨rfl,rfl,rfl,fun f hf=>⟨(hS.fk f hf).1,.inr hf⟩⟩ ?_ ?_
 ·rintro k S1 next hk ⟨h1,h2,h3,h4⟩ hn
  unfold m_splitF
  refine Wp.get (by omega) (by omega) fun f hf hfm=>Wp.cond (fun _=>hn _ ⟨h1,h2,h3,h4⟩) fun _=>?_
  have hf6:=(h4 f hfm).1
  refine Wp.bind (w_overlap _ _ (by omega)) fun o _ _=>Wp.cond (fun _=>Wp.ret trivial) fun _=>Wp.cond (fun _=>?_) fun _=>hn _ ⟨h1,h2,h3,h4⟩
  refine Wp.count (fun _ S2=>SpF S x.other S2∧∃ f',S2.fks[k]?=some f'∧f'.cols.length=f.cols.length∧f'.table=x.other) ⟨⟨h1,h2,by simpa using h3,?_⟩,⟨x.other,f.cols,f.ref⟩,List.getElem?_set_self (by omega),rfl,rfl⟩ ?_ fun S2 h=>hn _ h.1
  ·intro g hg
   rcases mem_set hg with h | rfl
   ·exact h4 g h
   ·exact⟨hf6,.inl rfl⟩
  ·rintro j S2 next2 hj ⟨⟨g1,g2,g3,g4⟩,f',g5,g6,g7⟩ hn2
   unfold m_splitC
   refine Wp.getN g5 (Wp.get (by omega) (by omega) fun v _ _=>Wp.bind (w_splitTable_1 _ _ _ hl (by omega) (by omega)) fun w _ _=>hn2 _ ⟨⟨g1,g2,by simpa using g3,fun g hg=>?_⟩,⟨f'.table,f'.cols.set j w,f'.ref⟩,List.getElem?_set_self (by omega),by simpa using g6,g7⟩)
   rcases mem_set hg with h | rfl
   ·exact g4 g h
   ·exact⟨by simp;omega,.inl g7⟩
 rintro S1 ⟨h1,h2,h3,h4⟩
 refine Wp.count (fun _ (S2:Sch)=>S2.tables=S.tables∧S2.fks=S1.fks∧S2.cons.length=S.cons.length∧∀ c ∈ S2.cons,c.table=x.other∨c ∈ S.cons) ⟨h1,rfl,by rw[h2],fun c hc=>.inr (h2 ▸ hc)⟩ ?_ ?_
 ·rintro k S2 next hk ⟨g1,g2,g3,g4⟩ hn
  rw[h2] at hk
  unfold m_splitO
  refine Wp.get (by omega) (by omega) fun c hc hcm=>Wp.cond (fun _=>hn _ ⟨g1,g2,g3,g4⟩) fun _=>?_
  refine Wp.bind (R:=fun cc=>cc.length≤2) ?_ fun cc _ hcc=>Wp.bind (w_overlap _ _ (by omega)) fun o _ _=>Wp.cond (fun _=>Wp.ret trivial) fun _=>Wp.cond (fun _=>?_) fun _=>hn _ ⟨g1,g2,g3,g4⟩
  ·unfold m_evolution_constraintColumns
   exact Wp.cond (fun _=>Wp.ret (by simp)) fun _=>Wp.ret (by simp)
  ·have hset:∀ c':Cons,c'.table=x.other→∀ d ∈ S2.cons.set k c',d.table=x.other∨d ∈ S.cons:=by
    intro c' hc' d hd
    rcases mem_set hd with h | rfl
    ·exact g4 d h
    ·exact .inl hc'
   refine Wp.bind (w_splitTable_1 _ _ _ hl (by omega) (by omega)) fun v _ _=>Wp.cond (fun _=>Wp.bind (w_splitTable_1 _ _ _ hl (by omega) (by omega)) fun w _ _=>hn _ ⟨g1,g2,by simpa using g3,hset _ rfl⟩) fun _=>hn _ ⟨g1,g2,by simpa using g3,hset _ rfl⟩
 rintro S2 ⟨g1,g2,g3,g4⟩
 refine Wp.chk ?_ (Wp.for (fun _ _=>True) trivial ?_ ?_)
 ·omega
 ·intro j col s next hx hm _ hn
  unfold m_splitT
  have hb:0≤col∧col < T.cols.length:=by
   rcases List.mem_append.1 hm with h | h
   ·exact hV.pk col h
   ·exact hcol col h
  exact Wp.get hb.1 hb.2 fun _ _ _=>hn _ trivial
 ·intro oc _
  unfold m_splitEnd
  refine Wp.bind (w_removeColumns S2 i T x.cols (by rw[g1];exact hT) hV (by omega) ?_ ?_) fun S3 _ hS3=>Wp.bind (w_insertTable S3 _ ?_) fun S4 _ hS4=>Wp.chk ?_ (Wp.ret trivial)
  ·intro f hf hfe
   rw[g2] at hf
   rcases (h4 f hf).2 with h | h
   ·rw[h,hne] at hfe;cases hfe
   ·exact (hS.fk f h).2
  ·intro c hc hce
   rcases g4 c hc with h | h
   ·rw[h,hne] at hce;cases hce
   ·exact⟨(hS.con c h).1,(hS.con c h).2.2⟩
  ·have:=hS.t6;rw[hS3.1,g1];omega
  ·have:=hS.f8;rw[hS4.1,hS3.2.1,g2,h3];omega
end
end Go.Proofs.YthgepknlibmjcaaGreat
end
section
namespace Go.Proofs.YthgepknlibmjcaaGreat
open Go Go.Am
theorem VT.pkle {T:Tbl} (h:VT T):T.pk.length≤T.cols.length:=by
 have:∀ (n:Nat) (v:Int),T.pk[n]?=some v→(n:Int)≤v:=by
  intro n
  induction n with
  | zero=>intro v hv;have:=(h.pk v (List.mem_of_getElem? hv)).1;omega
  | succ n ih=>
    intro v hv
    have hn:=(List.getElem?_eq_some_iff.1 hv).1
    have h1:=ih _ (List.getElem?_eq_getElem (by omega))
    have h2:=h.asc n _ v (List.getElem?_eq_getElem (by omega)) hv
    omega
 have hp:=h.pk0
 have h1:=this (T.pk.length - 1) _ (List.getElem?_eq_getElem (by omega))
 have h2:=(h.pk _ (List.getElem_mem (show T.pk.length - 1 < T.pk.length by omega))).2
 omega
section
variable {S:Sch} {i:Nat} {T:Tbl}
theorem w_joinTables_2 (v:Int) (h0:0≤v) (h6:v < 6) (n:Nat) (hn:n=T.pk.length) (m:Nat) (hm:m≤6) (hn6:n≤6):Wp (m_evolution_joinTables_2 v n T m) fun _=>True:=by
 subst hn
 unfold m_evolution_joinTables_2
 refine Wp.cond (fun h=>?_) fun _=>Wp.chk ⟨by omega,by omega⟩ (Wp.chk ⟨by omega,by omega⟩ (Wp.ret trivial))
 exact Wp.get h0 (by simpa using h) fun _ _ _=>Wp.ret trivial
theorem w_joinTables (nm:ByteArray) (hT:S.tables[i]?=some T) (hS:VS S):Wp (m_evolution_joinTables S i nm) fun _=>True:=by
 have hL:=LIM_eq
 have hV:=hS.tab T (List.mem_of_getElem? hT)
 have hpk:=hV.pk6
 have hc6:=hV.cols6
 have hc0:=hV.cols0
 have hi:=(List.getElem?_eq_some_iff.1 hT).1
 unfold m_evolution_joinTables
 refine Wp.bind (w_FindTable S nm) fun v _ hv=>Wp.cond (fun _=>Wp.ret trivial) fun hf=>Wp.getN hT (Wp.get hv.1 (hv.2.1 (by simpa using hf)).1 fun O hO hOm=>Wp.cond (fun _=>Wp.ret trivial) fun _=>Wp.bind (w_Equal_Int _ _) fun b _ hb=>Wp.cond (fun _=>Wp.ret trivial) fun hb1=>?_)
 have hVO:=hS.tab O hOm
 have hOpk:O.pk=seqI T.pk.length:=hb (by simpa using hb1)
 have hOl:T.pk.length≤O.cols.length:=by
  have:=hVO.pkle
  rw[hOpk] at this
  simpa[seqI] using this
 have hO6:=hVO.cols6
 have hO0:=hVO.cols0
 refine Wp.for (fun _ _=>True) trivial ?_ fun _ _=>?_
 ·intro j col s next hx hm _ hn
  have hj:=(List.getElem?_eq_some_iff.1 hx).1
  have hp:=hV.pk col hm
  unfold m_joinK
  exact Wp.get hp.1 hp.2 fun _ _ _=>Wp.get (by omega) (by omega) fun _ _ _=>Wp.cond (fun _=>Wp.ret trivial) fun _=>hn () trivial
 refine Wp.bind (w_dropForeignKey S _) fun q _ hq=>Wp.cond (fun _=>Wp.ret trivial) fun _=>Wp.bind (w_ContainsFunc_Fk _ _ fun x _=>Wp.ret trivial) fun _ _ _=>Wp.cond (fun _=>Wp.ret trivial) fun _=>?_
 refine Wp.bind (w_remapColumns q.1 nm _ (fun v=>0≤v∧v < 6) (fun v hv=>w_joinTables_2 v hv.1 hv.2 _ rfl _ hc6 hpk) (fun f hf _=>(hS.fk f (hq.2.2 f hf)).2) (fun c hc _=>?_)) fun S2 _ hS2=>?_
 ·rw[hq.2.1] at hc
  exact⟨(hS.con c hc).1,fun h=>⟨h,(hS.con c hc).2.2⟩⟩
 refine Wp.count (fun _ (S3:Sch)=>S3.fks.length=S2.fks.length) rfl ?_ fun S3 _=>Wp.count (fun _ (S4:Sch)=>S4.cons.length=S3.cons.length) rfl ?_ fun S4 _=>?_
 ·intro k S3 next hk hl hn
  unfold m_renF1
  exact Wp.get (by omega) (by omega) fun _ _ _=>Wp.cond (fun _=>hn _ (by simpa using hl)) fun _=>hn _ hl
 ·intro k S4 next hk hl hn
  unfold m_renO1
  exact Wp.get (by omega) (by omega) fun _ _ _=>Wp.cond (fun _=>hn _ (by simpa using hl)) fun _=>hn _ hl
 ·unfold m_joinEnd
  exact Wp.chk ⟨hOl,hO0,hc0,by omega⟩ (Wp.ret trivial)
theorem w_partitionTable (x:Stp) (hT:S.tables[i]?=some T) (hS:VS S):Wp (m_evolution_partitionTable S i x) fun _=>True:=by
 have hL:=LIM_eq
 have h6:=hS.t6
 have h8:=hS.f8
 have h9:=hS.o8
 unfold m_evolution_partitionTable
 refine Wp.getN hT (Wp.bind (w_FindColumn _ _) fun v _ hv=>Wp.cond (fun _=>Wp.ret trivial) fun h=>Wp.bind (w_Satisfies _ _ _) fun _ _ _=>Wp.cond (fun _=>Wp.ret trivial) fun _=>Wp.bind (w_value_Validate _) fun _ _ _=>Wp.cond (fun _=>Wp.ret trivial) fun _=>Wp.get hv.1 (hv.2.1 (by simpa using h)) fun _ _ _=>Wp.cond (fun _=>Wp.ret trivial) fun _=>Wp.bind (w_FindTable _ _) fun _ _ _=>Wp.cond (fun _=>Wp.ret trivial) fun _=>Wp.bind (w_ContainsFunc_Fk _ _ fun x _=>Wp.ret trivial) fun _ _ _=>Wp.cond (fun _=>Wp.ret trivial) fun _=>?_)
 refine Wp.for (fun k (S1:Sch)=>S1.tables=S.tables∧S1.cons=S.cons∧S1.fks.length≤S.fks.length+k) ⟨rfl,rfl,by omega⟩ ?_ ?_
 ·rintro k f S1 next hx hm ⟨h1,h2,h3⟩ hn
  have hk:=(List.getElem?_eq_some_iff.1 hx).1
  unfold m_partF
  exact Wp.cond (fun _=>Wp.chk (by omega) (hn _ ⟨h1,h2,by simp;omega⟩)) fun _=>hn _ ⟨h1,h2,by omega⟩
 ·rintro S1 ⟨h1,h2,_⟩
  refine Wp.for (fun k (S2:Sch)=>S2.tables=S.tables∧S2.cons.length≤S.cons.length+k) ⟨h1,by rw[h2];omega⟩ ?_ ?_
  ·rintro k f S2 next hx hm ⟨g1,g2⟩ hn
   have hk:=(List.getElem?_eq_some_iff.1 hx).1
   unfold m_partO
   exact Wp.cond (fun _=>Wp.chk (by omega) (hn _ ⟨g1,by simp;omega⟩)) fun _=>hn _ ⟨g1,by omega⟩
  ·rintro S2 ⟨g1,_⟩
   exact Wp.bind (w_insertTable _ _ (by rw[g1];omega)) fun _ _ _=>Wp.ret trivial
theorem w_EqualFunc_Fk (a b:List Fk):Wp (m_slices_EqualFunc_Foreignkey a b (fun x y=>m_schema_EqualForeignKeys x y)) fun _=>True:=by
 unfold m_slices_EqualFunc_Foreignkey
 refine Wp.cond (fun _=>Wp.ret trivial) fun h=>?_
 have hl:a.length=b.length:=by simp at h;omega
 refine Wp.for (fun _ _=>True) trivial (fun i x s next hx _ _ hn=>?_) fun _ _=>Wp.ret trivial
 have hi:=(List.getElem?_eq_some_iff.1 hx).1
 exact Wp.get (by omega) (by omega) fun _ _ _=>Wp.bind (w_EqualForeignKeys _ _) fun _ _ _=>Wp.cond (fun _=>Wp.ret trivial) fun _=>hn () trivial
theorem w_Equal_Cons (a b:List Cons):Wp (m_slices_Equal_Constraint a b) fun _=>True:=by
 unfold m_slices_Equal_Constraint
 refine Wp.cond (fun _=>Wp.ret trivial) fun h=>?_
 have hl:a.length=b.length:=by simp at h;omega
 refine Wp.for (fun _ _=>True) trivial (fun i x s next hx _ _ hn=>?_) fun _ _=>Wp.ret trivial
 have hi:=(List.getElem?_eq_some_iff.1 hx).1
 exact Wp.get (by omega) (by omega) fun _ _ _=>Wp.cond (fun _=>Wp.ret trivial) fun _=>hn () trivial
theorem w_sameRules (a b:ByteArray) (hS:VS S):Wp (m_evolution_sameRules S a b) fun _=>True:=by
 have hL:=LIM_eq
 have h8:=hS.f8
 have h9:=hS.o8
 unfold m_evolution_sameRules
 refine Wp.for (fun k (s:List Fk × List Fk)=>s.1.length≤k∧s.2.length≤k) (by simp) ?_ ?_
 ·rintro k f s next hx hm ⟨h1,h2⟩ hn
  have hk:=(List.getElem?_eq_some_iff.1 hx).1
  refine Wp.cond (fun _=>Wp.ret trivial) fun _=>Wp.cond (fun _=>Wp.ret trivial) fun _=>Wp.cond (fun _=>Wp.app (by simp;omega) (hn _ ⟨by simp;omega,by simp;omega⟩)) fun _=>Wp.cond (fun _=>Wp.app (by simp;omega) (hn _ ⟨by simp;omega,by simp;omega⟩)) fun _=>hn _ ⟨by simp;omega,by simp;omega⟩
 ·rintro s _
  refine Wp.bind (w_EqualFunc_Fk _ _) fun _ _ _=>Wp.cond (fun _=>Wp.ret trivial) fun _=>?_
  refine Wp.for (fun k (s:List Cons × List Cons)=>s.1.length≤k∧s.2.length≤k) (by simp) ?_ ?_
  ·rintro k f s next hx hm ⟨h1,h2⟩ hn
   have hk:=(List.getElem?_eq_some_iff.1 hx).1
   refine Wp.cond (fun _=>Wp.app (by simp;omega) (hn _ ⟨by simp;omega,by simp;omega⟩)) fun _=>Wp.cond (fun _=>Wp.app (by simp;omega) (hn _ ⟨by simp;omega,by simp;omega⟩)) fun _=>hn _ ⟨by simp;omega,by simp;omega⟩
  ·rintro s _
   exact Wp.bind (w_Equal_Cons _ _) fun _ _ _=>Wp.cond (fun _=>Wp.ret trivial) fun _=>Wp.ret trivial
theorem w_mergeTables (x:Stp) (hT:S.tables[i]?=some T) (hS:VS S):Wp (m_evolution_mergeTables S i x) fun _=>True:=by
 have hL:=LIM_eq
 have hV:=hS.tab T (List.mem_of_getElem? hT)
 have hpk:=hV.pk6
 have hp0:=hV.pk0
 have hc6:=hV.cols6
 have hc0:=hV.cols0
 unfold m_evolution_mergeTables
 refine Wp.bind (w_FindTable S _) fun v _ hv=>Wp.cond (fun _=>Wp.ret trivial) fun hf=>Wp.getN hT (Wp.get hv.1 (hv.2.1 (by simpa using hf)).1 fun O hO hOm=>Wp.cond (fun _=>Wp.ret trivial) fun _=>Wp.bind (w_Equal_Column _ _) fun _ _ _=>Wp.cond (fun _=>Wp.ret trivial) fun _=>Wp.bind (w_Equal_Int _ _) fun _ _ _=>Wp.cond (fun _=>Wp.ret trivial) fun _=>Wp.bind (w_sameRules _ _ hS) fun _ _ _=>Wp.cond (fun _=>Wp.ret trivial) fun _=>Wp.chk ⟨⟨hp0,by omega⟩,hc0,by omega⟩ (Wp.ret trivial))
end
theorem w_apply (S:Sch) (x:Stp) (hS:VS S) (hl:x.cols.length≤1048576):Wp (m_evolution_apply S x) fun _=>True:=by
 have hL:=LIM_eq
 have h6:=hS.t6
 have h8:=hS.f8
 have h9:=hS.o8
 unfold m_evolution_apply
 refine Wp.cond (fun _=>Wp.chk (by omega) (Wp.ret trivial)) fun _=>Wp.cond (fun _=>w_dropConstraint _ _) fun _=>Wp.cond (fun _=>Wp.chk (by omega) (Wp.ret trivial)) fun _=>Wp.cond (fun _=>(w_dropForeignKey _ _).mono fun _ _ _=>trivial) fun _=>Wp.cond (fun _=>w_createTable _ _ (by omega)) fun _=>?_
 refine Wp.bind (w_FindTable _ _) fun v _ hv=>Wp.cond (fun _=>Wp.ret trivial) fun hf=>?_
 obtain⟨hv1,T,hT,_⟩:=hv.2.1 (by simpa using hf)
 refine Wp.cond (fun _=>w_renameTable _ _ _ (by omega) (by have:=hv.1;omega)) fun _=>Wp.cond (fun _=>w_splitTable x hT hS hl) fun _=>Wp.cond (fun _=>w_joinTables _ hT hS) fun _=>Wp.cond (fun _=>w_partitionTable x hT hS) fun _=>Wp.cond (fun _=>w_mergeTables x hT hS) fun _=>Wp.cond (fun _=>w_dropTable _) fun _=>Wp.cond (fun _=>w_concatColumns x hT hS) fun _=>Wp.cond (fun _=>w_addColumn x hT (hS.tab T (List.mem_of_getElem? hT))) fun _=>w_alterColumn x hT hS
def SmallX (x:Stp):Prop:=x.cols.length≤1048576∧x.newTable.cols.length≤1048576∧x.newTable.pk.length≤1048576∧x.fk.cols.length≤1048576
theorem w_Apply (S:Sch) (x:Stp) (hx:SmallX x):Wp (m_evolution_Apply S x) fun r=>r.2=0→VS r.1:=by
 have hL:=LIM_eq
 unfold m_evolution_Apply
 refine Wp.bind (w_schema_Validate S) fun e _ he=>Wp.cond (fun h=>Wp.ret fun h0=>?_) fun h1=>Wp.bind (w_evolution_Validate x) fun e2 _ _=>Wp.cond (fun h=>Wp.ret fun h0=>?_) fun _=>?_
 ·simp only at h0;rw[h0] at h;cases h
 ·simp only at h0;rw[h0] at h;cases h
 have hS:VS S:=he (by simpa using h1)
 refine Wp.chk ⟨⟨⟨by have:=hS.t6;omega,by have:=hS.f8;omega,by have:=hS.o8;omega⟩,fun T hT=>⟨by have:=(hS.tab T hT).cols6;omega,by have:=(hS.tab T hT).pk6;omega⟩,fun f hf=>by have:=(hS.fk f hf).1;omega⟩,by obtain⟨a,b,c,d⟩:=hx;exact⟨by omega,by omega,by omega,by omega⟩⟩ ?_
 refine Wp.bind (w_apply S x hS hx.1) fun q _ _=>Wp.cond (fun h=>Wp.ret fun h0=>?_) fun _=>Wp.bind (w_schema_Validate q.1) fun e3 _ he3=>Wp.cond (fun h=>Wp.ret fun h0=>?_) fun h3=>Wp.ret fun _=>he3 (by simpa using h3)
 ·simp only at h0;rw[h0] at h;cases h
 ·simp only at h0;rw[h0] at h;cases h
end Go.Proofs.YthgepknlibmjcaaGreat
end
section
namespace Go.Proofs.YthgepknlibmjcaaGreat
open Go.Am
def m_script_Schemas (s_:Sch) (script:List Stp):Option ((List Sch) × Int):=
 (bif decide (6 < (script.length:Int)) then (some ([],2)) else (bindK (m_schema_Validate s_) fun v4=>(bif (v4 != 0) then (some ([],v4)) else (bindK (m_schema_Clone s_) fun v6=>(forK (fun (i8:Nat) (x8:Stp) (s8:(List Sch)) next_8=>(getK s8 (i8:Int) fun x10=>(bindK (m_evolution_Apply x10 x8) fun v11=>(bif (v11.2 != 0) then (some ([],v11.2)) else (appK2 s8 [v11.1] fun _=>(next_8 (s8++[v11.1]))))))) (fun (s8:(List Sch))=>(some (s8,0))) script 0 [v6])))))
theorem c_script_Schemas (s_:Sch) (script:List Stp) (r:(List Sch) × Int) (hm:Is (m_script_Schemas s_ script) r):PSpec Tryz.prog 126 [.agg s_.enc,.one (.d (.sl (script.map Stp.enc)))] (.tup [.one (.d (.sl (r.1.map Sch.enc))),.one (.d (.int .i64 r.2))]):=by
 unfold m_script_Schemas at hm
 refine PSpec.of_vc Tryz.func126 rfl (by kernel_rfl) (n:=48) rfl rfl (by simp) ?_
 try simp[*]
 intro hl2
 replace hl2:script.length≤2097152:=by simpa using hl2
 refine r_cond hm ?_ ?_<;>clear hm<;>intro hc3 hm
 ·try simp[*]
  obtain rfl:=r_ret hm
  exact ret0 (vs:=[_,_]) (by simp[*];try exact⟨rfl,rfl⟩) (by simp[*])
 ·try simp[*]
  refine r_call (av:=[.agg s_.enc]) hm (fun v hv=>c_schema_Validate _ v hv) (by simp[*]) ?_
  clear hm;intro v4 hvv4 hm
  try simp[*]
  refine r_cond hm ?_ ?_<;>clear hm<;>intro hc5 hm
  ·try simp[*]
   obtain rfl:=r_ret hm
   exact ret0 (vs:=[_,_]) (by simp[*];try exact⟨rfl,rfl⟩) (by simp[*])
  ·try simp[*]
   refine r_call (av:=[.agg s_.enc]) hm (fun v hv=>c_schema_Clone _ v hv) (by simp[*]) ?_
   clear hm;intro v6 hvv6 hm
   try simp[*]
   refine Wait.for (xs:=script) (s0:=[v6]) (fun i8 s8 e8 h8=>∃ c8_0:C,e8.n=48∧e8.get 7=.one c8_0∧e8.get 23=.one (.d (.sl (script.map Stp.enc)))∧e8.get 24=.one (.d (.int .i64 (script.length:Int)))∧e8.get 25=.one (.d (.int .i64 (i8:Int)))∧Grows h8 3 c8_0 (s8.map Sch.enc)) hm ⟨.own (3,352) ([v6].map Sch.enc),by simp (maxDischargeDepth:=20) [*]⟩ ?_ ?_
   ·rintro i8 s8 e8 h8 ⟨c8_0,hn8,h8_7,h8_23,h8_24,h8_25,gc8_0⟩ hlt8 hm
    have hlc8_0:=gc8_0.list
    have hdc8_0:=gc8_0.toD
    have hac8_0:=gc8_0.toA
    have huc8_0:=gc8_0.useUp_arr
    have hw8:IntKind.i64.wrap ((i8:Int)+1)=(i8:Int)+1:=IntWalk.i64_in _ (by omega)
    try simp[*]
    refine Wait.of (SWP.draw (Plan.then_ [0,1,2,3,4] (.two 5 9 (Plan.then_ [6,7,8,9,10,11] .done) (Plan.then_ [5,6,7,8,10,11] .done))) follows (by kernel_rfl) ?_)
    try simp[*,Plan.then_,vcPlan,planOps,isCallAt,callKind]
    replace hm:=hm.getN
    obtain⟨x10,hxx10,hm⟩:=hm
    try simp[*,Plan.then_,vcPlan,planOps,isCallAt,callKind]
    rcases gc8_0.1 with ⟨hzc8_0,hzz⟩ | ⟨lc8_0,hzc8_0,hz1,hz2⟩
    ·exact absurd hxx10 (by simp at hzz;subst hzz;simp)
    try simp[*,Plan.then_,vcPlan,planOps,isCallAt,callKind]
    refine⟨?_,?_⟩
    ·try simp[*,Plan.then_,vcPlan,planOps,isCallAt,callKind]
     refine r_call (av:=[.agg x10.enc,.agg (script[i8]).enc]) hm (fun v hv=>c_evolution_Apply _ _ v hv) (by simp[*]) ?_
     clear hm;intro v11 hvv11 hm
     try simp[*,Plan.then_,vcPlan,planOps,isCallAt,callKind]
     try refine⟨fun (_:Lab) (_:List C) hl=>hl,?_⟩
     refine r_cond hm ?_ ?_<;>clear hm<;>intro hc13 hm
     ·try simp[*]
      obtain rfl:=r_ret hm
      exact ret0 (vs:=[_,_]) (by simp[*];try exact⟨rfl,rfl⟩) (by simp[*])
     ·try simp[*]
      refine r_app (xs:=s8) (ys:=[v11.1]) (enc:=Sch.enc) hm ty_el117 (by first | exact Grows.nil | (simp (maxDischargeDepth:=20) [*];done) | (simp (maxDischargeDepth:=20) [*];refine⟨?_,by omega⟩;intro hq;subst hq;simp at hz2<;>omega)) (by simp[*]) (by decide) (by decide) (fun _=>rfl) ?_
      clear hm;intro hl15 hm g14
      try simp[*]
      exact BackF.of (s8++[v11.1]) ⟨⟨.own (h8.ep+4,720) ((s8++[v11.1]).map Sch.enc),by simp (maxDischargeDepth:=20) [*]⟩,hm⟩
    ·try simp[*,Plan.then_,vcPlan,planOps,isCallAt,callKind]
     refine r_call (av:=[.agg x10.enc,.agg (script[i8]).enc]) hm (fun v hv=>c_evolution_Apply _ _ v hv) (by simp[*]) ?_
     clear hm;intro v1012 hvv1012 hm
     try simp[*,Plan.then_,vcPlan,planOps,isCallAt,callKind]
     try refine⟨fun (_:Lab) (_:List C) hl=>hl,?_⟩
     refine r_cond hm ?_ ?_<;>clear hm<;>intro hc1013 hm
     ·try simp[*]
      obtain rfl:=r_ret hm
      exact ret0 (vs:=[_,_]) (by simp[*];try exact⟨rfl,rfl⟩) (by simp[*])
     ·try simp[*]
      refine r_app (xs:=s8) (ys:=[v1012.1]) (enc:=Sch.enc) hm ty_el117 (by first | exact Grows.nil | (simp (maxDischargeDepth:=20) [*];done) | (simp (maxDischargeDepth:=20) [*];refine⟨?_,by omega⟩;intro hq;subst hq;simp at hz2<;>omega)) (by simp[*]) (by decide) (by decide) (fun _=>rfl) ?_
      clear hm;intro hl1015 hm g1014
      try simp[*]
      exact BackF.of (s8++[v1012.1]) ⟨⟨.own (h8.ep+4,720) ((s8++[v1012.1]).map Sch.enc),by simp (maxDischargeDepth:=20) [*]⟩,hm⟩
   ·rintro s8 e8 h8 ⟨c8_0,hn8,h8_7,h8_23,h8_24,h8_25,gc8_0⟩ hm
    have hlc8_0:=gc8_0.list
    have hdc8_0:=gc8_0.toD
    have hac8_0:=gc8_0.toA
    have huc8_0:=gc8_0.useUp_arr
    try simp[*]
    obtain rfl:=r_ret hm
    exact ret0 (vs:=[_,_]) (by simp[*];try exact⟨rfl,rfl⟩) (by simp[*])
def m_script_Apply (s_:Sch) (script:List Stp):Option (Sch × Int):=
 (bindK (m_script_Schemas s_ script) fun v3=>(bif (v3.2 != 0) then (some ((Sch.mk [] [] []),v3.2)) else (chkK (okI ((v3.1.length:Int) - 1)) (getK v3.1 ((v3.1.length:Int) - 1) fun x7=>(some (x7,0))))))
theorem c_script_Apply (s_:Sch) (script:List Stp) (r:Sch × Int) (hm:Is (m_script_Apply s_ script) r):PSpec Tryz.prog 102 [.agg s_.enc,.one (.d (.sl (script.map Stp.enc)))] (.tup [.agg (r.1.enc.map RC.d),.one (.d (.int .i64 r.2))]):=by
 unfold m_script_Apply at hm
 refine PSpec.of_vc Tryz.func102 rfl (by kernel_rfl) (n:=24) rfl rfl (by simp) ?_
 try simp[*]
 refine r_call (av:=[.agg s_.enc,.one (.d (.sl (script.map Stp.enc)))]) hm (fun v hv=>c_script_Schemas _ _ v hv) (by simp[*]) ?_
 clear hm;intro v3 hvv3 hm
 try simp[*]
 refine r_cond hm ?_ ?_<;>clear hm<;>intro hc4 hm
 ·try simp[*]
  obtain rfl:=r_ret hm
  exact ret0 (vs:=[_,_]) (by simp[*];try exact⟨rfl,rfl⟩) (by simp[*])
 ·try simp[*]
  intro hl5
  replace hl5:v3.1.length≤2097152:=by simpa using hl5
  replace hm:=hm.chk
  obtain⟨hw6,hm⟩:=hm
  replace hw6:=wrap_ok hw6
  try simp[*]
  replace hm:=hm.get
  obtain⟨x7,h0x7,hxx7,hm⟩:=hm
  try simp at h0x7
  try simp at hxx7
  try simp[*]
  obtain rfl:=r_ret hm
  exact ret0 (vs:=[_,_]) (by simp[*];try exact⟨rfl,rfl⟩) (by simp[*])
def m_versions_Schemas (g_:Gr):Option ((List Sch) × Int):=
 (bif decide (8≤(g_.edges.length:Int)) then (some ([],2)) else (bindK (m_schema_Validate g_.base) fun v4=>(bif (v4 != 0) then (some ([],v4)) else (bindK (m_schema_Clone g_.base) fun v6=>(forK (fun (i8:Nat) (x8:Edg) (s8:(List Sch)) next_8=>(bif decide (x8.parent < 0) then (some ([],1)) else (bif decide ((i8:Int) < x8.parent) then (some ([],1)) else (getK s8 x8.parent fun x12=>(bindK (m_script_Apply x12 x8.script) fun v13=>(bif (v13.2 != 0) then (some ([],v13.2)) else (appK2 s8 [v13.1] fun _=>(next_8 (s8++[v13.1]))))))))) (fun (s8:(List Sch))=>(some (s8,0))) g_.edges 0 [v6])))))
theorem c_versions_Schemas (g_:Gr) (r:(List Sch) × Int) (hm:Is (m_versions_Schemas g_) r):PSpec Tryz.prog 54 [.agg g_.enc] (.tup [.one (.d (.sl (r.1.map Sch.enc))),.one (.d (.int .i64 r.2))]):=by
 unfold m_versions_Schemas at hm
 refine PSpec.of_vc Tryz.func54 rfl (by kernel_rfl) (n:=61) rfl rfl (by simp) ?_
 try simp[*]
 intro hl2
 replace hl2:g_.edges.length≤2097152:=by simpa using hl2
 refine r_cond hm ?_ ?_<;>clear hm<;>intro hc3 hm
 ·try simp[*]
  obtain rfl:=r_ret hm
  exact ret0 (vs:=[_,_]) (by simp[*];try exact⟨rfl,rfl⟩) (by simp[*])
 ·try simp[*]
  refine r_call (av:=[.agg g_.base.enc]) hm (fun v hv=>c_schema_Validate _ v hv) (by simp[*]) ?_
  clear hm;intro v4 hvv4 hm
  try simp[*]
  refine r_cond hm ?_ ?_<;>clear hm<;>intro hc5 hm
  ·try simp[*]
   obtain rfl:=r_ret hm
   exact ret0 (vs:=[_,_]) (by simp[*];try exact⟨rfl,rfl⟩) (by simp[*])
  ·try simp[*]
   refine r_call (av:=[.agg g_.base.enc]) hm (fun v hv=>c_schema_Clone _ v hv) (by simp[*]) ?_
   clear hm;intro v6 hvv6 hm
   try simp[*]
   refine Wait.for (xs:=g_.edges) (s0:=[v6]) (fun i8 s8 e8 h8=>∃ c8_0:C,e8.n=61∧e8.get 5=.one c8_0∧e8.get 25=.one (.d (.sl (g_.edges.map Edg.enc)))∧e8.get 26=.one (.d (.int .i64 (g_.edges.length:Int)))∧e8.get 27=.one (.d (.int .i64 (i8:Int)))∧Grows h8 3 c8_0 (s8.map Sch.enc)) hm ⟨.own (3,368) ([v6].map Sch.enc),by simp (maxDischargeDepth:=20) [*]⟩ ?_ ?_
   ·rintro i8 s8 e8 h8 ⟨c8_0,hn8,h8_5,h8_25,h8_26,h8_27,gc8_0⟩ hlt8 hm
    have hlc8_0:=gc8_0.list
    have hdc8_0:=gc8_0.toD
    have hac8_0:=gc8_0.toA
    have huc8_0:=gc8_0.useUp_arr
    have hw8:IntKind.i64.wrap ((i8:Int)+1)=(i8:Int)+1:=IntWalk.i64_in _ (by omega)
    try simp[*]
    refine r_guardF hm ?_ ?_<;>clear hm<;>intro hc10 hm
    ·try simp[*]
     obtain rfl:=r_ret hm
     exact ret0 (vs:=[_,_]) (by simp[*];try exact⟨rfl,rfl⟩) (by simp[*])
    ·try simp[*]
     refine r_cond hm ?_ ?_<;>clear hm<;>intro hc11 hm
     ·try simp[*]
      obtain rfl:=r_ret hm
      exact ret0 (vs:=[_,_]) (by simp[*];try exact⟨rfl,rfl⟩) (by simp[*])
     ·try simp[*]
      refine Wait.of (SWP.draw (Plan.then_ [0,1,2,3,4,5,6] (.two 7 11 (Plan.then_ [8,9,10,11,12,13] .done) (Plan.then_ [7,8,9,10,12,13] .done))) follows (by kernel_rfl) ?_)
      try simp[*,Plan.then_,vcPlan,planOps,isCallAt,callKind]
      replace hm:=hm.get
      obtain⟨x12,h0x12,hxx12,hm⟩:=hm
      try simp[*,Plan.then_,vcPlan,planOps,isCallAt,callKind]
      rcases gc8_0.1 with ⟨hzc8_0,hzz⟩ | ⟨lc8_0,hzc8_0,hz1,hz2⟩
      ·exact absurd hxx12 (by simp at hzz;subst hzz;simp)
      try simp[*,Plan.then_,vcPlan,planOps,isCallAt,callKind]
      refine⟨?_,?_⟩
      ·try simp[*,Plan.then_,vcPlan,planOps,isCallAt,callKind]
       refine r_call (av:=[.agg x12.enc,.one (.d (.sl ((g_.edges[i8].script).map Stp.enc)))]) hm (fun v hv=>c_script_Apply _ _ v hv) (by simp[*]) ?_
       clear hm;intro v13 hvv13 hm
       try simp[*,Plan.then_,vcPlan,planOps,isCallAt,callKind]
       try refine⟨fun (_:Lab) (_:List C) hl=>hl,?_⟩
       refine r_cond hm ?_ ?_<;>clear hm<;>intro hc15 hm
       ·try simp[*]
        obtain rfl:=r_ret hm
        exact ret0 (vs:=[_,_]) (by simp[*];try exact⟨rfl,rfl⟩) (by simp[*])
       ·try simp[*]
        refine r_app (xs:=s8) (ys:=[v13.1]) (enc:=Sch.enc) hm ty_el117 (by first | exact Grows.nil | (simp (maxDischargeDepth:=20) [*];done) | (simp (maxDischargeDepth:=20) [*];refine⟨?_,by omega⟩;intro hq;subst hq;simp at hz2<;>omega)) (by simp[*]) (by decide) (by decide) (fun _=>rfl) ?_
        clear hm;intro hl17 hm g16
        try simp[*]
        exact BackF.of (s8++[v13.1]) ⟨⟨.own (h8.ep+4,928) ((s8++[v13.1]).map Sch.enc),by simp (maxDischargeDepth:=20) [*]⟩,hm⟩
      ·try simp[*,Plan.then_,vcPlan,planOps,isCallAt,callKind]
       refine r_call (av:=[.agg x12.enc,.one (.d (.sl ((g_.edges[i8].script).map Stp.enc)))]) hm (fun v hv=>c_script_Apply _ _ v hv) (by simp[*]) ?_
       clear hm;intro v1014 hvv1014 hm
       try simp[*,Plan.then_,vcPlan,planOps,isCallAt,callKind]
       try refine⟨fun (_:Lab) (_:List C) hl=>hl,?_⟩
       refine r_cond hm ?_ ?_<;>clear hm<;>intro hc1015 hm
       ·try simp[*]
        obtain rfl:=r_ret hm
        exact ret0 (vs:=[_,_]) (by simp[*];try exact⟨rfl,rfl⟩) (by simp[*])
       ·try simp[*]
        refine r_app (xs:=s8) (ys:=[v1014.1]) (enc:=Sch.enc) hm ty_el117 (by first | exact Grows.nil | (simp (maxDischargeDepth:=20) [*];done) | (simp (maxDischargeDepth:=20) [*];refine⟨?_,by omega⟩;intro hq;subst hq;simp at hz2<;>omega)) (by simp[*]) (by decide) (by decide) (fun _=>rfl) ?_
        clear hm;intro hl1017 hm g1016
        try simp[*]
        exact BackF.of (s8++[v1014.1]) ⟨⟨.own (h8.ep+4,928) ((s8++[v1014.1]).map Sch.enc),by simp (maxDischargeDepth:=20) [*]⟩,hm⟩
   ·rintro s8 e8 h8 ⟨c8_0,hn8,h8_5,h8_25,h8_26,h8_27,gc8_0⟩ hm
    have hlc8_0:=gc8_0.list
    have hdc8_0:=gc8_0.toD
    have hac8_0:=gc8_0.toA
    have huc8_0:=gc8_0.useUp_arr
    try simp[*]
    obtain rfl:=r_ret hm
    exact ret0 (vs:=[_,_]) (by simp[*];try exact⟨rfl,rfl⟩) (by simp[*])
def m_versions_Validate (g_:Gr):Option Int:=
 (bindK (m_versions_Schemas g_) fun v2=>(some v2.2))
theorem c_versions_Validate (g_:Gr) (r:Int) (hm:Is (m_versions_Validate g_) r):PSpec Tryz.prog 42 [.agg g_.enc] (.one (.d (.int .i64 r))):=by
 unfold m_versions_Validate at hm
 refine PSpec.of_vc Tryz.func42 rfl (by kernel_rfl) (n:=11) rfl rfl (by simp) ?_
 try simp[*]
 refine r_call (av:=[.agg g_.enc]) hm (fun v hv=>c_versions_Schemas _ v hv) (by simp[*]) ?_
 clear hm;intro v2 hvv2 hm
 try simp[*]
 obtain rfl:=r_ret hm
 exact ret0 (vs:=[_]) (by simp[*];try exact rfl) (by simp[*])
def m_versions_Schema (g_:Gr) (version:Int):Option (Sch × Int):=
 (bindK (m_versions_Schemas g_) fun v3=>(bif (v3.2 != 0) then (some ((Sch.mk [] [] []),v3.2)) else (bif decide (version < 0) then (some ((Sch.mk [] [] []),1)) else (bif decide ((v3.1.length:Int)≤version) then (some ((Sch.mk [] [] []),1)) else (getK v3.1 version fun x8=>(some (x8,0)))))))
theorem c_versions_Schema (g_:Gr) (version:Int) (r:Sch × Int) (hm:Is (m_versions_Schema g_ version) r):PSpec Tryz.prog 25 [.agg g_.enc,.one (.d (.int .i64 version))] (.tup [.agg (r.1.enc.map RC.d),.one (.d (.int .i64 r.2))]):=by
 unfold m_versions_Schema at hm
 refine PSpec.of_vc Tryz.func25 rfl (by kernel_rfl) (n:=30) rfl rfl (by simp) ?_
 try simp[*]
 refine r_call (av:=[.agg g_.enc]) hm (fun v hv=>c_versions_Schemas _ v hv) (by simp[*]) ?_
 clear hm;intro v3 hvv3 hm
 try simp[*]
 refine r_cond hm ?_ ?_<;>clear hm<;>intro hc4 hm
 ·try simp[*]
  obtain rfl:=r_ret hm
  exact ret0 (vs:=[_,_]) (by simp[*];try exact⟨rfl,rfl⟩) (by simp[*])
 ·try simp[*]
  refine r_guardF hm ?_ ?_<;>clear hm<;>intro hc5 hm
  ·try simp[*]
   obtain rfl:=r_ret hm
   exact ret0 (vs:=[_,_]) (by simp[*];try exact⟨rfl,rfl⟩) (by simp[*])
  ·try simp[*]
   intro hl6
   replace hl6:v3.1.length≤2097152:=by simpa using hl6
   refine r_cond hm ?_ ?_<;>clear hm<;>intro hc7 hm
   ·try simp[*]
    obtain rfl:=r_ret hm
    exact ret0 (vs:=[_,_]) (by simp[*];try exact⟨rfl,rfl⟩) (by simp[*])
   ·try simp[*]
    replace hm:=hm.get
    obtain⟨x8,h0x8,hxx8,hm⟩:=hm
    try simp[*]
    obtain rfl:=r_ret hm
    exact ret0 (vs:=[_,_]) (by simp[*];try exact⟨rfl,rfl⟩) (by simp[*])
end Go.Proofs.YthgepknlibmjcaaGreat
end
section
namespace Go.Proofs.YthgepknlibmjcaaGreat
open Go Go.Am
theorem w_script_Schemas (S:Sch) (script:List Stp) (hx:∀ x ∈ script,SmallX x):Wp (m_script_Schemas S script) fun r=>r.2=0→0 < r.1.length∧r.1.length≤7∧∀ T ∈ r.1,VS T:=by
 have hL:=LIM_eq
 unfold m_script_Schemas
 refine Wp.cond (fun _=>Wp.ret (by simp)) fun h6=>Wp.bind (w_schema_Validate S) fun e _ he=>Wp.cond (fun h=>Wp.ret fun h0=>?_) fun h1=>?_
 ·simp only at h0;rw[h0] at h;cases h
 have hS:VS S:=he (by simpa using h1)
 have hl:script.length≤6:=by simp at h6;omega
 refine Wp.bind (w_schema_Clone S (by have:=hS.t6;omega) (by have:=hS.f8;omega)) fun S0 _ hS0=>?_
 subst hS0
 refine Wp.for (fun i (s:List Sch)=>s.length=i+1∧∀ T ∈ s,VS T) ⟨rfl,by simpa using hS⟩ ?_ ?_
 ·rintro i x s next hx1 hm ⟨hs,hv⟩ hn
  have hi:=(List.getElem?_eq_some_iff.1 hx1).1
  refine Wp.get (by omega) (by omega) fun y _ _=>Wp.bind (w_Apply y x (hx x hm)) fun r _ hr=>Wp.cond (fun h=>Wp.ret fun h0=>?_) fun h2=>Wp.app (by simp;omega) (hn _ ⟨by simp;omega,fun T hT=>?_⟩)
  ·simp only at h0;rw[h0] at h;cases h
  ·rcases List.mem_append.1 hT with h | h
   ·exact hv T h
   ·rw[List.mem_singleton.1 h];exact hr (by simpa using h2)
 ·rintro s ⟨hs,hv⟩
  exact Wp.ret fun _=>⟨by simp only;omega,by simp only;omega,hv⟩
theorem w_script_Apply (S:Sch) (script:List Stp) (hx:∀ x ∈ script,SmallX x):Wp (m_script_Apply S script) fun r=>r.2=0→VS r.1:=by
 unfold m_script_Apply
 refine Wp.bind (w_script_Schemas S script hx) fun r _ hr=>Wp.cond (fun h=>Wp.ret fun h0=>?_) fun h1=>?_
 ·simp only at h0;rw[h0] at h;cases h
 ·obtain⟨h2,h3,h4⟩:=hr (by simpa using h1)
  exact Wp.chk ⟨by omega,by omega⟩ (Wp.get (by omega) (by omega) fun T _ hT=>Wp.ret fun _=>h4 T hT)
def EdgesOK (g:Gr):Prop:=∀ (i:Nat) (e:Edg),g.edges[i]?=some e→0≤e.parent∧e.parent≤i
theorem w_versions_Schemas (g:Gr) (hx:∀ e ∈ g.edges,∀ x ∈ e.script,SmallX x):Wp (m_versions_Schemas g) fun r=>r.2=0→EdgesOK g∧g.edges.length≤7∧r.1.length=g.edges.length+1∧∀ T ∈ r.1,VS T:=by
 have hL:=LIM_eq
 unfold m_versions_Schemas
 refine Wp.cond (fun _=>Wp.ret (by simp)) fun h6=>Wp.bind (w_schema_Validate _) fun e _ he=>Wp.cond (fun h=>Wp.ret fun h0=>?_) fun h1=>?_
 ·simp only at h0;rw[h0] at h;cases h
 have hS:VS g.base:=he (by simpa using h1)
 have hl:g.edges.length≤7:=by simp at h6;omega
 refine Wp.bind (w_schema_Clone g.base (by have:=hS.t6;omega) (by have:=hS.f8;omega)) fun S0 _ hS0=>?_
 rw[hS0]
 refine Wp.for (fun i (s:List Sch)=>s.length=i+1∧(∀ T ∈ s,VS T)∧∀ (j:Nat) (e:Edg),j < i→g.edges[j]?=some e→0≤e.parent∧e.parent≤j) ⟨rfl,by simpa using hS,by intro j e h;omega⟩ ?_ ?_
 ·rintro i x s next hx1 hm ⟨hs,hv,hI⟩ hn
  have hi:=(List.getElem?_eq_some_iff.1 hx1).1
  refine Wp.cond (fun _=>Wp.ret (by simp)) fun h2=>Wp.cond (fun _=>Wp.ret (by simp)) fun h3=>?_
  have a2:0≤x.parent:=by simpa using h2
  have a3:x.parent≤i:=by simpa using h3
  refine Wp.get (by omega) (by omega) fun y _ _=>Wp.bind (w_script_Apply y x.script (hx x hm)) fun r _ hr=>Wp.cond (fun h=>Wp.ret fun h0=>?_) fun h2=>Wp.app (by simp;omega) (hn _ ⟨by simp;omega,fun T hT=>?_,fun j e hj he=>?_⟩)
  ·simp only at h0;rw[h0] at h;cases h
  ·rcases List.mem_append.1 hT with h | h
   ·exact hv T h
   ·rw[List.mem_singleton.1 h];exact hr (by simpa using h2)
  ·rcases Nat.lt_or_ge j i with h | h
   ·exact hI j e h he
   ·obtain rfl:j=i:=by omega
    rw[hx1] at he
    cases he
    exact⟨a2,a3⟩
 ·rintro s ⟨hs,hv,hI⟩
  exact Wp.ret fun _=>⟨fun i e he=>hI i e (List.getElem?_eq_some_iff.1 he).1 he,hl,hs,hv⟩
theorem w_versions_Validate (g:Gr) (hx:∀ e ∈ g.edges,∀ x ∈ e.script,SmallX x):Wp (m_versions_Validate g) fun r=>r=0→EdgesOK g∧g.edges.length≤7:=by
 unfold m_versions_Validate
 exact Wp.bind (w_versions_Schemas g hx) fun r _ hr=>Wp.ret fun h=>⟨(hr h).1,(hr h).2.1⟩
theorem concat_sz {α:Type} {xss:List (List α)} {i:Nat} {x:List α} (h:xss[i]?=some x):(xss.take (i+1)).flatten=(xss.take i).flatten++x:=by
 obtain⟨h1,h2⟩:=List.getElem?_eq_some_iff.1 h
 rw[List.take_succ_eq_append_getElem h1,h2]
 simp
theorem frzCs_datas {h:HS} {ds:List D}:FrzCs h (ds.map C.d) ds:=by
 induction ds with
 | nil=>trivial
 | cons d ds ih=>exact⟨.data rfl,ih⟩
def catLen {α:Type} (xss:List (List α)) (i:Nat):Nat:=(xss.take i).flatten.length
theorem concat_le {α:Type} (xss:List (List α)) (i:Nat):(xss.take i).flatten.length≤xss.flatten.length:=by
 conv=>rhs;rw[← List.take_append_drop i xss]
 rw[List.flatten_append,List.length_append]
 omega
theorem catLen_succ {α:Type} {xss:List (List α)} {i:Nat} {x:List α} (h:xss[i]?=some x):catLen xss (i+1)=catLen xss i+x.length:=by
 unfold catLen
 rw[concat_sz h,List.length_append]
theorem catLen_le {α:Type} (xss:List (List α)) (i:Nat):catLen xss i≤xss.flatten.length:=concat_le xss i
theorem catLen_all {α:Type} (xss:List (List α)):catLen xss xss.length=xss.flatten.length:=by
 unfold catLen
 rw[List.take_length]
theorem catLen_zero {α:Type} (xss:List (List α)):catLen xss 0=0:=rfl
theorem h_slices_Grow_Int (h:HS) (n:Nat) (hn:n≤2097152) (K:V→HS→Prop)
  (hk:∀ c' h',MR h' 1 c' []→Same h h' []→(∀ l ∈ labs c',h.ep≤l.1∧l.1 < h'.ep)→K (.one c') h') :
  HSpec Tryz.prog 119 [.one .nil,.one (.d (.int .i64 (n:Int)))] h K:=by
 refine HSpec.of_vc Tryz.func119 rfl (by kernel_rfl) (n:=27) rfl rfl (by simp) ?_
 simp
 have h0:¬ ((n:Int) < 0):=by omega
 have hw:IntKind.i64.wrap ((n:Int) - 0)=(n:Int):=by rw[Int.sub_zero];exact IntWalk.i64_in _ (by omega)
 have hw0:IntKind.i64.wrap 0=0:=IntWalk.i64_in _ (by omega)
 have hw1:IntKind.i64.wrap (n:Int)=(n:Int):=IntWalk.i64_in _ (by omega)
 try simp[h0]
 refine capK_nil ty_el30 ?_
 simp[hw,hw0,hw1]
 refine condV_dec (fun hp=>?_) (fun hp=>?_)
 ·simp[hw,hw0,hw1]
  refine capK_nil ty_el30 ?_
  simp[hw,hw0,hw1]
  refine zerosK_of ty_el30 (by decide) (kk:=.i64) rfl (by kernel_rfl) (by decide) (by decide) (by omega) (by show (n:Int)≤2097152;omega) (fun cap' hcap=>?_)
  have hc0:0 < cap':=by omega
  simp at hcap
  simp[hw0,hw1,hc0]
  refine hk _ _ ⟨AllC.nil,by simp,.inr ⟨(h.ep,352),cap',List.replicate (cap' * 1) .any,by simp,by simp[rowBox],by simp[rowBox]⟩⟩ ((Same.refl.setBox (.inr (Nat.le_refl _))).next) (by simp[labs])
 ·simp
  exact hk _ _ MR.nil .refl (by simp[labs])
theorem h_slices_Concat_Int (h:HS) (c:C) (xss:List (List (List D))) (hc:c=.d (.sl (xss.map fun xs=>[.sl xs]))∨∃ lab,c=.own lab (xss.map fun xs=>[.sl xs])) (hall:∀ xs ∈ xss,∀ x ∈ xs,x.length=1) (hl:xss.flatten.length≤2097152) (K:V→HS→Prop)
  (hk:∀ c' h',MR h' 1 c' (xss.flatten.map (·.map C.d))→Same h h' []→(∀ l ∈ labs c',h.ep≤l.1∧l.1 < h'.ep)→K (.one c') h') :
  HSpec Tryz.prog 95 [.one c] h K:=by
 refine HSpec.of_vc Tryz.func95 rfl (by kernel_rfl) (n:=36) rfl rfl (by simp) ?_
 simp
 have hcl:c.list?=some (xss.map fun xs=>[.sl xs]):=by rcases hc with rfl | ⟨lab,rfl⟩<;>rfl
 refine lenK_of hcl (fun hX=>?_)
 simp only[List.length_map] at hX
 have hX':xss.length≤2097152:=hX
 simp
 refine Wait.rounds (fun n e h'=>∃ i,n=xss.length - i∧i≤xss.length∧h'=h∧e.n=36∧e.get 0=.one c∧e.get 9=.one c∧e.get 10=.one (.d (.int .i64 (xss.length:Int)))∧e.get 11=.one (.d (.int .i64 (i:Int)))∧e.get 3=.one (.d (.int .i64 (catLen xss i:Int)))) xss.length
  ⟨0,rfl,by omega,rfl,by simp,by simp,by simp,by simp,by simp,by simp[catLen_zero]⟩ ?_
 rintro n e h' ⟨i,rfl,hi,rfl,hn,h0,h9,h10,h11,h3⟩
 simp[h0,h9,h10,h11,h3,hn]
 refine condV_dec (fun hlt=>?_) (fun hge=>?_)
 ·have hw1:IntKind.i64.wrap ((i:Int)+1)=(i:Int)+1:=IntWalk.i64_in _ (by omega)
  obtain⟨x,hx⟩:∃ x,xss[i]?=some x:=⟨_,List.getElem?_eq_getElem hlt⟩
  have hs2:=catLen_le xss (i+1)
  have hs3:=catLen_succ hx
  have hw2:IntKind.i64.wrap ((catLen xss i:Int)+(x.length:Int))=(catLen xss (i+1):Int):=by rw[hs3,Int.natCast_add];exact IntWalk.i64_in _ (by omega)
  have hneg:¬ ((catLen xss (i+1):Int) < 0):=by omega
  have hi0:(0:Int)≤(i:Int):=by omega
  rcases hc with rfl | ⟨lab,rfl⟩
  all_goals
   simp[h0,h9,h10,h11,h3,hn,hx,hi0]
   intro hxl
   simp[h0,h9,h10,h11,h3,hn,hw1,hw2,hneg]
   exact Back.of (n':=xss.length - (i+1)) (by omega) ⟨i+1,rfl,by omega,rfl,by simp[hn],by simp[h0],by simp[h9],by simp[h10],by simp,by simp⟩
 ·obtain rfl:i=xss.length:=by omega
  have hl':catLen xss xss.length≤2097152:=by rw[catLen_all];exact hl
  simp[h0,h3,hn]
  refine callK_heap (h_slices_Grow_Int h' (catLen xss xss.length) hl' _ (fun c1 h1 hm1 hs1 hl1=>?_))
  simp[h0,hn]
  refine lenK_of hcl (fun hX=>?_)
  simp[h0,hn]
  refine Wait.rounds (fun n e h2=>∃ (i:Nat) (c2:C),n=xss.length - i∧i≤xss.length∧MR h2 1 c2 ((xss.take i).flatten.map (·.map C.d))∧Same h' h2 []∧(∀ l ∈ labs c2,h'.ep≤l.1∧l.1 < h2.ep)∧e.n=36∧e.get 25=.one c∧e.get 26=.one (.d (.int .i64 (xss.length:Int)))∧e.get 27=.one (.d (.int .i64 (i:Int)))∧e.get 6=.one c2) xss.length ?_ ?_
  ·exact⟨0,c1,rfl,by omega,(hm1.frame (fun _ _=>rfl)),hs1,hl1,by simp[hn],by simp[h0,hn],by simp[hn],by simp[hn],by simp[hn]⟩
  clear h0 h9 h10 h11 h3 hn hi hge
  rintro n e h2 ⟨i,c2,rfl,hi,hm2,hs2,hl2,hn,h25,h26,h27,h6⟩
  simp[h25,h26,h27,h6,hn]
  refine condV_dec (fun hlt=>?_) (fun hge=>?_)
  ·have hw1:IntKind.i64.wrap ((i:Int)+1)=(i:Int)+1:=IntWalk.i64_in _ (by omega)
   obtain⟨x,hx⟩:∃ x,xss[i]?=some x:=⟨_,List.getElem?_eq_getElem hlt⟩
   have hsz1:=concat_sz hx
   have hsz2:=concat_le xss (i+1)
   have hsz3:(xss.take (i+1)).flatten.length=(xss.take i).flatten.length+x.length:=by rw[hsz1,List.length_append]
   have hi0:(0:Int)≤(i:Int):=by omega
   have hrd:RowAt h2 1 (.d (.sl x)) (x.map (·.map C.d)):=RowAt.data (hall x (List.mem_of_getElem? hx)) (by show x.length≤2097152;omega)
   rcases hc with rfl | ⟨lab,rfl⟩
   all_goals
    simp[h25,h26,h27,h6,hn,hx,hi0]
    refine app_mr ty_el30 (by kernel_rfl) (by decide) (by decide) hm2 hrd (by simp only[List.length_map];show _≤2097152;omega) (fun c3 h3 hm3 hs3 hl3=>?_)
    simp[h25,h26,h27,hn,hw1]
    refine Back.of (n':=xss.length - (i+1)) (by omega) ⟨i+1,c3,rfl,by omega,?_,hs2.trans' hs3 (fun k hk=>.inr (hl2 k hk).1),?_,by simp[hn],by simp[h25],by simp[h26],by simp,by simp⟩
    ·rw[hsz1,List.map_append];exact hm3
    ·intro k hk
     rcases hl3 k hk with h9 | h9
     ·have:=hl2 k h9
      have:=hs3.1
      omega
     ·have:=hs2.1
      omega
  ·obtain rfl:i=xss.length:=by omega
   rw[List.take_length] at hm2
   simp[h6,hn]
   exact hk _ _ hm2 hs2 hl2
def m_slices_Concat_Int (s_:List (List Int)):Option (List Int):=chkK (s_.flatten.length≤2097152) (some s_.flatten)
theorem c_slices_Concat_Int (s_:List (List Int)) (r:List Int) (hm:Is (m_slices_Concat_Int s_) r):PSpec Tryz.prog 95 [.one (.d (.sl (s_.map (encL encI))))] (.one (.d (.sl (r.map encI)))):=by
 obtain⟨hl,hm⟩:=hm.chk
 obtain rfl:=r_ret hm
 refine PSpec.of_heap ?_
 have hX:s_.map (encL encI)=(s_.map (·.map encI)).map fun xs=>[D.sl xs]:=by simp[encL]
 have hF:(s_.map (·.map encI)).flatten=s_.flatten.map encI:=by simp[List.map_flatten]
 refine h_slices_Concat_Int HS.init _ (s_.map (·.map encI)) (.inl (by rw[← hX])) (fun xs hxs x hx=>?_) (by rw[hF,List.length_map];exact hl) _ (fun c' h' hm' _ _=>?_)
 ·obtain⟨ys,_,rfl⟩:=List.mem_map.1 hxs
  obtain⟨y,_,rfl⟩:=List.mem_map.1 hx
  rfl
 ·rw[hF] at hm'
  exact hm'.frz (List.length_map _) (fun t ht=>by obtain⟨y,_,rfl⟩:=List.mem_map.1 ht;rfl) (fun i x t hx ht=>by
   rw[List.getElem?_map] at hx
   rw[ht] at hx
   simp only[Option.map_some,Option.some.injEq] at hx
   subst hx
   exact frzCs_datas)
theorem h_slices_Grow_Instance (h:HS) (n:Nat) (hn:n≤2097152) (K:V→HS→Prop)
  (hk:∀ c' h',MR h' 1 c' []→Same h h' []→(∀ l ∈ labs c',h.ep≤l.1∧l.1 < h'.ep)→K (.one c') h') :
  HSpec Tryz.prog 89 [.one .nil,.one (.d (.int .i64 (n:Int)))] h K:=by
 refine HSpec.of_vc Tryz.func89 rfl (by kernel_rfl) (n:=27) rfl rfl (by simp) ?_
 simp
 have h0:¬ ((n:Int) < 0):=by omega
 have hw:IntKind.i64.wrap ((n:Int) - 0)=(n:Int):=by rw[Int.sub_zero];exact IntWalk.i64_in _ (by omega)
 have hw0:IntKind.i64.wrap 0=0:=IntWalk.i64_in _ (by omega)
 have hw1:IntKind.i64.wrap (n:Int)=(n:Int):=IntWalk.i64_in _ (by omega)
 try simp[h0]
 refine capK_nil ty_el47 ?_
 simp[hw,hw0,hw1]
 refine condV_dec (fun hp=>?_) (fun hp=>?_)
 ·simp[hw,hw0,hw1]
  refine capK_nil ty_el47 ?_
  simp[hw,hw0,hw1]
  refine zerosK_of ty_el47 (by decide) (kk:=.i64) rfl (by kernel_rfl) (by decide) (by decide) (by omega) (by show (n:Int)≤2097152;omega) (fun cap' hcap=>?_)
  have hc0:0 < cap':=by omega
  simp at hcap
  simp[hw0,hw1,hc0]
  refine hk _ _ ⟨AllC.nil,by simp,.inr ⟨(h.ep,352),cap',List.replicate (cap' * 1) .any,by simp,by simp[rowBox],by simp[rowBox]⟩⟩ ((Same.refl.setBox (.inr (Nat.le_refl _))).next) (by simp[labs])
 ·simp
  exact hk _ _ MR.nil .refl (by simp[labs])
theorem h_slices_Concat_Instance (h:HS) (c:C) (xss:List (List (List D))) (hc:c=.d (.sl (xss.map fun xs=>[.sl xs]))∨∃ lab,c=.own lab (xss.map fun xs=>[.sl xs])) (hall:∀ xs ∈ xss,∀ x ∈ xs,x.length=1) (hl:xss.flatten.length≤2097152) (K:V→HS→Prop)
  (hk:∀ c' h',MR h' 1 c' (xss.flatten.map (·.map C.d))→Same h h' []→(∀ l ∈ labs c',h.ep≤l.1∧l.1 < h'.ep)→K (.one c') h') :
  HSpec Tryz.prog 46 [.one c] h K:=by
 refine HSpec.of_vc Tryz.func46 rfl (by kernel_rfl) (n:=36) rfl rfl (by simp) ?_
 simp
 have hcl:c.list?=some (xss.map fun xs=>[.sl xs]):=by rcases hc with rfl | ⟨lab,rfl⟩<;>rfl
 refine lenK_of hcl (fun hX=>?_)
 simp only[List.length_map] at hX
 have hX':xss.length≤2097152:=hX
 simp
 refine Wait.rounds (fun n e h'=>∃ i,n=xss.length - i∧i≤xss.length∧h'=h∧e.n=36∧e.get 0=.one c∧e.get 9=.one c∧e.get 10=.one (.d (.int .i64 (xss.length:Int)))∧e.get 11=.one (.d (.int .i64 (i:Int)))∧e.get 3=.one (.d (.int .i64 (catLen xss i:Int)))) xss.length
  ⟨0,rfl,by omega,rfl,by simp,by simp,by simp,by simp,by simp,by simp[catLen_zero]⟩ ?_
 rintro n e h' ⟨i,rfl,hi,rfl,hn,h0,h9,h10,h11,h3⟩
 simp[h0,h9,h10,h11,h3,hn]
 refine condV_dec (fun hlt=>?_) (fun hge=>?_)
 ·have hw1:IntKind.i64.wrap ((i:Int)+1)=(i:Int)+1:=IntWalk.i64_in _ (by omega)
  obtain⟨x,hx⟩:∃ x,xss[i]?=some x:=⟨_,List.getElem?_eq_getElem hlt⟩
  have hs2:=catLen_le xss (i+1)
  have hs3:=catLen_succ hx
  have hw2:IntKind.i64.wrap ((catLen xss i:Int)+(x.length:Int))=(catLen xss (i+1):Int):=by rw[hs3,Int.natCast_add];exact IntWalk.i64_in _ (by omega)
  have hneg:¬ ((catLen xss (i+1):Int) < 0):=by omega
  have hi0:(0:Int)≤(i:Int):=by omega
  rcases hc with rfl | ⟨lab,rfl⟩
  all_goals
   simp[h0,h9,h10,h11,h3,hn,hx,hi0]
   intro hxl
   simp[h0,h9,h10,h11,h3,hn,hw1,hw2,hneg]
   exact Back.of (n':=xss.length - (i+1)) (by omega) ⟨i+1,rfl,by omega,rfl,by simp[hn],by simp[h0],by simp[h9],by simp[h10],by simp,by simp⟩
 ·obtain rfl:i=xss.length:=by omega
  have hl':catLen xss xss.length≤2097152:=by rw[catLen_all];exact hl
  simp[h0,h3,hn]
  refine callK_heap (h_slices_Grow_Instance h' (catLen xss xss.length) hl' _ (fun c1 h1 hm1 hs1 hl1=>?_))
  simp[h0,hn]
  refine lenK_of hcl (fun hX=>?_)
  simp[h0,hn]
  refine Wait.rounds (fun n e h2=>∃ (i:Nat) (c2:C),n=xss.length - i∧i≤xss.length∧MR h2 1 c2 ((xss.take i).flatten.map (·.map C.d))∧Same h' h2 []∧(∀ l ∈ labs c2,h'.ep≤l.1∧l.1 < h2.ep)∧e.n=36∧e.get 25=.one c∧e.get 26=.one (.d (.int .i64 (xss.length:Int)))∧e.get 27=.one (.d (.int .i64 (i:Int)))∧e.get 6=.one c2) xss.length ?_ ?_
  ·exact⟨0,c1,rfl,by omega,(hm1.frame (fun _ _=>rfl)),hs1,hl1,by simp[hn],by simp[h0,hn],by simp[hn],by simp[hn],by simp[hn]⟩
  clear h0 h9 h10 h11 h3 hn hi hge
  rintro n e h2 ⟨i,c2,rfl,hi,hm2,hs2,hl2,hn,h25,h26,h27,h6⟩
  simp[h25,h26,h27,h6,hn]
  refine condV_dec (fun hlt=>?_) (fun hge=>?_)
  ·have hw1:IntKind.i64.wrap ((i:Int)+1)=(i:Int)+1:=IntWalk.i64_in _ (by omega)
   obtain⟨x,hx⟩:∃ x,xss[i]?=some x:=⟨_,List.getElem?_eq_getElem hlt⟩
   have hsz1:=concat_sz hx
   have hsz2:=concat_le xss (i+1)
   have hsz3:(xss.take (i+1)).flatten.length=(xss.take i).flatten.length+x.length:=by rw[hsz1,List.length_append]
   have hi0:(0:Int)≤(i:Int):=by omega
   have hrd:RowAt h2 1 (.d (.sl x)) (x.map (·.map C.d)):=RowAt.data (hall x (List.mem_of_getElem? hx)) (by show x.length≤2097152;omega)
   rcases hc with rfl | ⟨lab,rfl⟩
   all_goals
    simp[h25,h26,h27,h6,hn,hx,hi0]
    refine app_mr ty_el47 (by kernel_rfl) (by decide) (by decide) hm2 hrd (by simp only[List.length_map];show _≤2097152;omega) (fun c3 h3 hm3 hs3 hl3=>?_)
    simp[h25,h26,h27,hn,hw1]
    refine Back.of (n':=xss.length - (i+1)) (by omega) ⟨i+1,c3,rfl,by omega,?_,hs2.trans' hs3 (fun k hk=>.inr (hl2 k hk).1),?_,by simp[hn],by simp[h25],by simp[h26],by simp,by simp⟩
    ·rw[hsz1,List.map_append];exact hm3
    ·intro k hk
     rcases hl3 k hk with h9 | h9
     ·have:=hl2 k h9
      have:=hs3.1
      omega
     ·have:=hs2.1
      omega
  ·obtain rfl:i=xss.length:=by omega
   rw[List.take_length] at hm2
   simp[h6,hn]
   exact hk _ _ hm2 hs2 hl2
def m_slices_Concat_Instance (s_:List (List (List Rel))):Option (List (List Rel)):=chkK (s_.flatten.length≤2097152) (some s_.flatten)
theorem c_slices_Concat_Instance (s_:List (List (List Rel))) (r:List (List Rel)) (hm:Is (m_slices_Concat_Instance s_) r):PSpec Tryz.prog 46 [.one (.d (.sl (s_.map (encL (encL Rel.enc)))))] (.one (.d (.sl (r.map (encL Rel.enc))))):=by
 obtain⟨hl,hm⟩:=hm.chk
 obtain rfl:=r_ret hm
 refine PSpec.of_heap ?_
 have hX:s_.map (encL (encL Rel.enc))=(s_.map (·.map (encL Rel.enc))).map fun xs=>[D.sl xs]:=by simp[encL]
 have hF:(s_.map (·.map (encL Rel.enc))).flatten=s_.flatten.map (encL Rel.enc):=by simp[List.map_flatten]
 refine h_slices_Concat_Instance HS.init _ (s_.map (·.map (encL Rel.enc))) (.inl (by rw[← hX])) (fun xs hxs x hx=>?_) (by rw[hF,List.length_map];exact hl) _ (fun c' h' hm' _ _=>?_)
 ·obtain⟨ys,_,rfl⟩:=List.mem_map.1 hxs
  obtain⟨y,_,rfl⟩:=List.mem_map.1 hx
  rfl
 ·rw[hF] at hm'
  exact hm'.frz (List.length_map _) (fun t ht=>by obtain⟨y,_,rfl⟩:=List.mem_map.1 ht;rfl) (fun i x t hx ht=>by
   rw[List.getElem?_map] at hx
   rw[ht] at hx
   simp only[Option.map_some,Option.some.injEq] at hx
   subst hx
   exact frzCs_datas)
end Go.Proofs.YthgepknlibmjcaaGreat
end
section
namespace Go.Proofs.YthgepknlibmjcaaGreat
open Go.Am
def m_cmp_isNaN_Int (x:Int):Option Bool:=
 (some (x != x))
theorem c_cmp_isNaN_Int (x:Int) (r:Bool) (hm:Is (m_cmp_isNaN_Int x) r):PSpec Tryz.prog 152 [.one (.d (.int .i64 x))] (.one (.d (.bool r))):=by
 unfold m_cmp_isNaN_Int at hm
 refine PSpec.of_vc Tryz.func152 rfl (by kernel_rfl) (n:=6) rfl rfl (by simp) ?_
 try simp[*]
 obtain rfl:=r_ret hm
 exact ret0 (vs:=[_]) (by simp[*];try exact rfl) (by simp[*])
def m_cmp_Less_Int (x:Int) (y:Int):Option Bool:=
 (bindK (m_cmp_isNaN_Int x) fun v1=>(bif v1 then (bindK (m_cmp_isNaN_Int y) fun v3=>(bif !v3 then (some true) else (some (decide (x < y))))) else (some (decide (x < y)))))
theorem c_cmp_Less_Int (x:Int) (y:Int) (r:Bool) (hm:Is (m_cmp_Less_Int x y) r):PSpec Tryz.prog 138 [.one (.d (.int .i64 x)),.one (.d (.int .i64 y))] (.one (.d (.bool r))):=by
 unfold m_cmp_Less_Int at hm
 refine PSpec.of_vc Tryz.func138 rfl (by kernel_rfl) (n:=17) rfl rfl (by simp) ?_
 try simp[*]
 refine r_call (av:=[.one (.d (.int .i64 x))]) hm (fun v hv=>c_cmp_isNaN_Int _ v hv) (by simp[*]) ?_
 clear hm;intro v1 hvv1 hm
 try simp[*]
 refine r_guardT hm ?_ ?_<;>clear hm<;>intro hc2 hm
 ·try simp[*]
  refine r_call (av:=[.one (.d (.int .i64 y))]) hm (fun v hv=>c_cmp_isNaN_Int _ v hv) (by simp[*]) ?_
  clear hm;intro v3 hvv3 hm
  try simp[*]
  refine r_guardF hm ?_ ?_<;>clear hm<;>intro hc4 hm
  ·try simp[*]
   obtain rfl:=r_ret hm
   exact ret0 (vs:=[_]) (by simp[*];try exact rfl) (by simp[*])
  ·try simp[*]
   obtain rfl:=r_ret hm
   exact ret0 (vs:=[_]) (by simp[*];try exact rfl) (by simp[*])
 ·try simp[*]
  obtain rfl:=r_ret hm
  exact ret0 (vs:=[_]) (by simp[*];try exact rfl) (by simp[*])
end Go.Proofs.YthgepknlibmjcaaGreat
end
section
namespace Go.Proofs.YthgepknlibmjcaaGreat
open Go Go.Am
def icell (q:Int):List C:=[.d (.int .i64 q)]
def ltI (a b:Int):Bool:=decide (a < b)
def sortI (xs:List Int):List Int:=outerS ltI (xs.length - 1) 1 xs
theorem less_int (a b:Int):Is (m_cmp_Less_Int a b) (decide (a < b)):=by
 unfold m_cmp_Less_Int m_cmp_isNaN_Int
 simp[Is,bindK]
theorem icell_all {us:List Int}:AllC 1 (us.map icell):=by
 intro x hx
 obtain⟨y,_,rfl⟩:=List.mem_map.1 hx
 rfl
theorem icell_read {us:List Int} {k:Nat} {x:Int} {sp:List C} (h:us[k]?=some x):takeN 1 ((rowBox (us.map icell) sp).drop k)=some [.d (.int .i64 x)]:=by
 have:=row_all (sp:=sp) (k:=k) (x:=icell x) (icell_all (us:=us)) (by simp[h])
 simpa[icell] using this
theorem icell_write {us:List Int} {k:Nat} {x:Int} {sp:List C} (h:k < us.length):setCells (rowBox (us.map icell) sp) k [.d (.int .i64 x)]=rowBox ((us.set k x).map icell) sp:=by
 have:=row_setAll (sp:=sp) (v:=icell x) (icell_all (us:=us)) (by simpa using h) rfl
 rw[List.map_set]
 simpa[icell] using this
theorem icell_len {us:List Int} {sp:List C}:(rowBox (us.map icell) sp).length=us.length+sp.length:=by
 have:=rowBox_length (sp:=sp) (icell_all (us:=us))
 simpa using this
theorem h_insertionSortOrdered_Int (h:HS) (c:C) (qs:List Int) (hm:MR h 1 c (qs.map icell)) (K:V→HS→Prop)
  (hk:∀ h',MR h' 1 c ((sortI qs).map icell)→Same h h' (labs c)→K (.tup []) h') :
  HSpec Tryz.prog 132 [.one c,.one (.d (.int .i64 0)),.one (.d (.int .i64 (qs.length:Int)))] h K:=by
 refine HSpec.of_vc Tryz.func132 rfl (by kernel_rfl) (n:=49) rfl rfl (by simp) ?_
 simp
 have hlim:qs.length≤2097152:=by simpa using hm.2.1
 refine Wait.rounds (fun n e h'=>∃ (i:Nat) (ws:List Int),n=qs.length - i∧1≤i∧ws.Perm qs∧outerS ltI (qs.length - i) i ws=outerS ltI (qs.length - 1) 1 qs ∧
  e.n=49∧e.get 0=.one c∧e.get 1=.one (.d (.int .i64 0))∧e.get 2=.one (.d (.int .i64 (qs.length:Int)))∧e.get 6=.one (.d (.int .i64 (i:Int)))∧Same h h' (labs c)∧MR h' 1 c (ws.map icell)) (qs.length - 1)
  ⟨1,qs,rfl,by omega,.refl _,rfl,by simp,by simp,by simp,by simp,by simp;exact (IntWalk.i64_in _ (by omega)),Same.refl,hm⟩ ?_
 rintro n e h' ⟨i,ws,rfl,hi1,hperm,hout,hn,h0,h1,h2,h6,hs,hm'⟩
 simp[h0,h1,h2,h6,hn]
 refine condV_dec (fun hlt=>?_) (fun hge=>?_)
 ·simp[h0,h1,h2,h6,hn]
  refine Wait.rounds (fun n e h'=>∃ (j:Nat) (us:List Int),n=j∧j≤i∧us.Perm qs∧innerS ltI j us=innerS ltI i ws ∧
   e.n=49∧e.get 0=.one c∧e.get 1=.one (.d (.int .i64 0))∧e.get 2=.one (.d (.int .i64 (qs.length:Int)))∧e.get 6=.one (.d (.int .i64 (i:Int)))∧e.get 7=.one (.d (.int .i64 (j:Int)))∧Same h h' (labs c)∧MR h' 1 c (us.map icell)) i
   ⟨i,ws,rfl,by omega,hperm,rfl,by simp[hn],by simp[h0],by simp[h1],by simp[h2],by simp[h6],by simp,hs,hm'⟩ ?_
  clear h0 h1 h2 h6 hn hm' hs
  rintro j e h' ⟨_,us,rfl,hji,hpu,hin,hn,h0,h1,h2,h6,h7,hs,hm'⟩
  have hD:Same h (h'.next) (labs c):=hs.next
  have hiw:=IntWalk.i64_in ((i:Int)+1) (by omega)
  cases j with
  | zero=>
    refine Wait.cut (Plan.then_ [0,1,2,3,4,5,6,7,8,9,10,11,12,13,14] .done) follows (by kernel_rfl) (fun e1 h1'=>h1'=h'∧e1.n=49∧e1.get 0=.one c∧e1.get 1=.one (.d (.int .i64 0))∧e1.get 2=.one (.d (.int .i64 (qs.length:Int)))∧e1.get 6=.one (.d (.int .i64 (i:Int)))∧e1.get 30=.one (.d (.bool false))) ?_ ?_
    ·simp[*,Plan.then_,vcPlan,planOps,isCallAt,callKind]
     exact⟨fun _ x y=>y,CutK.of (by simp[*])⟩
    ·rintro e1 h1' ⟨rfl,hn1,h01,h11,h21,h61,h30⟩
     simp[*]
     refine Back.of (n':=qs.length - (i+1)) (by omega) ⟨i+1,us,rfl,by omega,hpu,?_,by simp[hn1],by simp[h01],by simp[h11],by simp[h21],by simp[hiw],hs,hm'⟩
     rw[← hout]
     have e1:qs.length - i=(qs.length - (i+1))+1:=by omega
     rw[e1,outerS,← hin,innerS]
  | succ j=>
    have hul:us.length=qs.length:=hpu.length_eq
    have hml:=hm'.2.1
    obtain⟨l,cap,sp,hc,hb,hcap⟩:=hm'.block (by simp;omega)
    simp only[List.length_map,hul] at hc
    subst hc
    have hx1:us[j+1]?=some us[j+1]:=List.getElem?_eq_getElem (by omega)
    have hx0:us[j]?=some us[j]:=List.getElem?_eq_getElem (by omega)
    generalize us[j+1]=t1 at hx1
    generalize us[j]=t0 at hx0
    have hr1:=icell_read (sp:=sp) hx1
    have hr0:=icell_read (sp:=sp) hx0
    have hwj:IntKind.i64.wrap (j:Int)=(j:Int):=IntWalk.i64_in _ (by omega)
    have hj1:j+1 < qs.length:=by omega
    have hj0:j < qs.length:=by omega
    have hz:(0:Int)≤(j:Int)+1:=by omega
    refine Wait.cut (Plan.then_ [0,1,2,3,4,5,6,7,8,9,10,11,12,13,14] .done) follows (by kernel_rfl) (fun e1 h1'=>Same h h1' [l]∧h1'.box l=h'.box l∧e1.n=49∧e1.get 0=.one (.mrow l 0 qs.length cap)∧e1.get 1=.one (.d (.int .i64 0))∧e1.get 2=.one (.d (.int .i64 (qs.length:Int)))∧e1.get 6=.one (.d (.int .i64 (i:Int)))∧e1.get 7=.one (.d (.int .i64 ((j+1:Nat):Int)))∧e1.get 30=.one (.d (.bool (decide (t1 < t0))))) ?_ ?_
    ·simp[h0,h1,h2,h6,h7,hn,hz,hj1,hj0,hwj,hb,hr1,hr0,Plan.then_,vcPlan,planOps,isCallAt,callKind]
     refine callK_heap (HSpec.of_lend (c_cmp_Less_Int t1 t0 _ (less_int t1 t0)) ⟨.one (.frz (.data rfl)),.one (.frz (.data rfl)),trivial⟩ rfl ?_)
     simp[h0,h1,h2,h6,h7,hn,hz,hj1,hj0,hwj,hb,hr1,hr0,Plan.then_,vcPlan,planOps,isCallAt,callKind]
     have hsn:Same h h'.next [l]:=hs.next
     exact⟨fun _ _ x=>x,CutK.of (by simp[h0,h1,h2,h6,h7,hn,hsn])⟩
    ·rintro e1 h1' ⟨hs1,hb1,hn1,h01,h11,h21,h61,h71,h30⟩
     rw[hb] at hb1
     simp[h01,h11,h21,h61,h71,h30,hn1]
     have hst1:t1 < t0→innerS ltI j ((us.set (j+1) t0).set j t1)=innerS ltI i ws:=fun hx=>by rw[← hin];simp[innerS,hx1,hx0,ltI,hx]
     have hst2:¬ t1 < t0→us=innerS ltI i ws:=fun hx=>by rw[← hin];simp[innerS,hx1,hx0,ltI,hx]
     refine condV_dec (fun hlt2=>?_) (fun hge2=>?_)
     ·simp[hn1]
      refine Wait.cut (Plan.then_ [0,1,2,3,4,5,6,7,8,9,10,11,12,13,14,15,16,17] .done) follows (by kernel_rfl) (fun e2 h2'=>Same h h2' [l]∧e2.n=49∧e2.get 0=.one (.mrow l 0 qs.length cap)∧e2.get 1=.one (.d (.int .i64 0))∧e2.get 2=.one (.d (.int .i64 (qs.length:Int)))∧e2.get 6=.one (.d (.int .i64 (i:Int)))∧e2.get 7=.one (.d (.int .i64 ((j+1:Nat):Int)))∧h2'.box l=some (rowBox (((us.set (j+1) t0).set j t1).map icell) sp)) ?_ ?_
      ·simp[h01,h11,h21,h61,h71,h30,hn1,hz,hj1,hj0,hwj,hb1,hr1,hr0,Plan.then_,vcPlan,planOps,isCallAt,callKind]
       rw[icell_write (by omega),icell_write (by simp;omega)]
       refine⟨by rw[icell_len];omega,by rw[icell_len];simp;omega,CutK.of ?_⟩
       simp[h01,h11,h21,h61,h71,hn1]
       exact (hs1.setBox (.inl (by simp))).setBox (.inl (by simp))
      ·rintro e2 h2' ⟨hs2,hn2,h02,h12,h22,h62,h72,hb2⟩
       simp[h02,h12,h22,h62,h72,hn2,hwj]
       have hpm:((us.set (j+1) t0).set j t1).Perm us:=set2_perm hx1 hx0
       have hfin:=hpm.trans hpu
       refine Back.of (n':=j) (by omega) ⟨j,_,rfl,by omega,hfin,hst1 hlt2,by simp[hn2],by simp[h02],by simp[h12],by simp[h22],by simp[h62],by simp,hs2,?_⟩
       refine⟨icell_all,by simpa using hml,.inr ⟨l,cap,sp,by simp[hul],hb2,?_⟩⟩
       rw[icell_len] at hcap ⊢
       simpa using hcap
     ·have hst3:=hst2 hge2
      simp[h01,h11,h21,h61,h71,h30,hn1]
      refine Back.of (n':=qs.length - (i+1)) (by omega) ⟨i+1,us,rfl,by omega,hpu,?_,by simp[hn1],by simp[h01],by simp[h11],by simp[h21],by simp[hiw],hs1,hm'.frame (by intro k hk;simp[labs] at hk;subst hk;rw[hb1,hb])⟩
      rw[← hout]
      have e1:qs.length - i=(qs.length - (i+1))+1:=by omega
      rw[e1,outerS,← hst3]
 ·simp[hn]
  have:qs.length - i=0:=by omega
  rw[this] at hout
  simp only[outerS] at hout
  exact hk _ (by unfold sortI;rw[← hout];exact hm') hs
theorem h_pdqsortOrdered_Int (h:HS) (c:C) (qs:List Int) (k:Int) (hq:qs.length≤12) (hm:MR h 1 c (qs.map icell)) (K:V→HS→Prop)
  (hk:∀ h',MR h' 1 c ((sortI qs).map icell)→Same h h' (labs c)→K (.tup []) h') :
  HSpec Tryz.prog 120 [.one c,.one (.d (.int .i64 0)),.one (.d (.int .i64 (qs.length:Int))),.one (.d (.int .i64 k))] h K:=by
 refine HSpec.of_vc Tryz.func120 rfl (by kernel_rfl) (n:=134) rfl rfl (by simp) ?_
 simp
 have hw:IntKind.i64.wrap ((qs.length:Int) - 0)=(qs.length:Int):=by rw[Int.sub_zero];exact IntWalk.i64_in _ (by omega)
 have hw':IntKind.i64.wrap (qs.length:Int)=(qs.length:Int):=IntWalk.i64_in _ (by omega)
 refine Wait.rounds (fun n e h'=>h'=h∧e.n=134∧e.get 0=.one c∧e.get 1=.one (.d (.int .i64 0))∧e.get 2=.one (.d (.int .i64 (qs.length:Int)))) 0
  ⟨rfl,by simp,by simp,by simp,by simp⟩ ?_
 rintro n e h' ⟨rfl,hn,h0,h1,h2⟩
 simp[h0,h1,h2,hn,hw,hw']
 refine condV_dec (fun _=>?_) (fun hge=>absurd (by omega) hge)
 simp[h0,h1,h2,hn]
 refine callK_heap (h_insertionSortOrdered_Int h' c qs hm _ (fun h1' hm' hs'=>?_))
 simp[hn]
 exact hk _ hm' hs'
theorem optV_val {o:Option V} {v:V} {f:V→Prop} (h:o=some v) (hk:f v):optV o (k:=⟨f⟩):=by
 rw[h]
 exact hk
theorem bitsLen64 (n:Nat) (hn:n≤12):∃ k,PSpec Tryz.prog 142 [.one (.d (.int .u64 (n:Int)))] (.one (.d (.int .i64 k))):=by
 have key:∀ k:Int,(match n with | 0=>0 | 1=>1 | 2 | 3=>2 | 4 | 5 | 6 | 7=>3 | _=>(4:Int))=k→PSpec Tryz.prog 142 [.one (.d (.int .u64 (n:Int)))] (.one (.d (.int .i64 k))):=by
  intro k hk
  refine PSpec.of_vc Tryz.func142 rfl (by kernel_rfl) (n:=25) rfl rfl (by simp) ?_
  have h1:¬ ((4294967296:Int)≤n):=by omega
  have h2:¬ ((65536:Int)≤n):=by omega
  have h3:¬ ((256:Int)≤n):=by omega
  simp[h1,h2,h3]
  have hw:IntKind.u8.wrap (n:Int)=n:=by
   rcases (by omega:n=0∨n=1∨n=2∨n=3∨n=4∨n=5∨n=6∨n=7∨n=8∨n=9∨n=10∨n=11∨n=12) with h | h | h | h | h | h | h | h | h | h | h | h | h<;>subst h<;>rfl
  rw[hw,if_pos (by omega)]
  rcases (by omega:n=0∨n=1∨n=2∨n=3∨n=4∨n=5∨n=6∨n=7∨n=8∨n=9∨n=10∨n=11∨n=12) with h | h | h | h | h | h | h | h | h | h | h | h | h<;>subst h<;>simp at hk<;>subst hk
  all_goals
   first
    | refine optV_val (v:=.one (.d (.int .u8 0))) (by rfl) ?_
    | refine optV_val (v:=.one (.d (.int .u8 1))) (by rfl) ?_
    | refine optV_val (v:=.one (.d (.int .u8 2))) (by rfl) ?_
    | refine optV_val (v:=.one (.d (.int .u8 3))) (by rfl) ?_
    | refine optV_val (v:=.one (.d (.int .u8 4))) (by rfl) ?_
   simp
   exact ret_d (by simp;rfl) rfl
 exact⟨_,key _ rfl⟩
theorem bitsLen (n:Nat) (hn:n≤12):∃ k,PSpec Tryz.prog 121 [.one (.d (.int .u64 (n:Int)))] (.one (.d (.int .i64 k))):=by
 obtain⟨k,hk⟩:=bitsLen64 n hn
 refine⟨k,PSpec.of_vc Tryz.func121 rfl (by kernel_rfl) (n:=8) rfl rfl (by simp) ?_⟩
 simp
 refine callK_fn hk (by simp) ?_
 simp
 exact ret_d (by simp;rfl) rfl
theorem h_slices_Sort_Int (h:HS) (c:C) (qs:List Int) (hq:qs.length≤12) (hm:MR h 1 c (qs.map icell)) (K:V→HS→Prop)
  (hk:∀ h',MR h' 1 c ((sortI qs).map icell)→Same h h' (labs c)→K (.tup []) h') :
  HSpec Tryz.prog 96 [.one c] h K:=by
 refine HSpec.of_vc Tryz.func96 rfl (by kernel_rfl) (n:=11) rfl rfl (by simp) ?_
 simp
 obtain⟨kb,hkb⟩:=bitsLen qs.length hq
 have hwu:∀ n:Int,n=(qs.length:Int)→IntKind.u64.wrap n=(qs.length:Int):=by
  rintro _ rfl
  simp[IntKind.wrap,IntKind.signed,IntKind.bits]
  omega
 have key:∀ (n:Int) (K1:V→HS→Prop),n=(qs.length:Int)→(∀ h',MR h' 1 c ((sortI qs).map icell)→Same h h' (labs c)→K1 (.tup []) h') →
   ∀ h1,h1=h.next→HSpec Tryz.prog 120 [.one c,.one (.d (.int .i64 0)),.one (.d (.int .i64 n)),.one (.d (.int .i64 kb))] h1 K1:=by
  rintro _ K1 rfl hk1 _ rfl
  refine h_pdqsortOrdered_Int h.next c qs kb hq (hm.frame fun _ _=>rfl) K1 fun h' hm' hs'=>hk1 h' hm' ?_
  exact⟨by have:=hs'.1;simp at this;omega,fun k hk hn=>hs'.2 k (by simp;omega) hn⟩
 rcases hm.2.2 with ⟨h1,rfl | rfl⟩ | ⟨l,cap,sp,rfl,_,_⟩
 ·have h2:qs.length=0:=by simpa using congrArg List.length h1
  simp
  rw[hwu 0 (by omega)]
  refine callK_heap (HSpec.of_lend hkb ⟨.one (.frz (.data rfl)),trivial⟩ rfl ?_)
  simp
  refine callK_heap (key _ _ (by omega) (fun h' hm' hs'=>?_) _ rfl)
  simp
  exact hk _ hm' hs'
 ·have h2:qs.length=0:=by simpa using congrArg List.length h1
  simp
  rw[hwu 0 (by omega)]
  refine callK_heap (HSpec.of_lend hkb ⟨.one (.frz (.data rfl)),trivial⟩ rfl ?_)
  simp
  refine callK_heap (key _ _ (by omega) (fun h' hm' hs'=>?_) _ rfl)
  simp
  exact hk _ hm' hs'
 ·simp only[List.length_map] at key hm hk ⊢
  simp
  rw[hwu _ rfl]
  refine callK_heap (HSpec.of_lend hkb ⟨.one (.frz (.data rfl)),trivial⟩ rfl ?_)
  simp
  refine callK_heap (key _ _ rfl (fun h' hm' hs'=>?_) _ rfl)
  simp
  exact hk _ hm' hs'
def dd:List Int→List Int
 | []=>[]
 | [x]=>[x]
 | x::y::r=>if x=y then dd (y::r) else x::dd (y::r)
theorem dd_snoc (a b:Int):∀ l:List Int,dd (l++[a,b])=if a=b then dd (l++[a]) else dd (l++[a])++[b]
 | []=>by
   by_cases h:a=b
   ·subst h;simp[dd]
   ·simp[dd,h]
 | [x]=>by
   have ih:=dd_snoc a b []
   simp only[List.nil_append] at ih
   simp only[List.cons_append,List.nil_append,dd]
   simp only[dd] at ih
   by_cases h:a=b<;>by_cases h2:x=a<;>simp[h,h2,ih]
 | x::y::l=>by
   have ih:=dd_snoc a b (y::l)
   simp only[List.cons_append,dd] at ih ⊢
   by_cases h:a=b<;>by_cases h2:x=y<;>simp[h,h2] at ih ⊢<;>exact ih
theorem dd_take {xs:List Int} {j:Nat} {a b:Int} (ha:xs[j]?=some a) (hb:xs[j+1]?=some b):dd (xs.take (j+2))=if a=b then dd (xs.take (j+1)) else dd (xs.take (j+1))++[b]:=by
 obtain⟨h1,h2⟩:=List.getElem?_eq_some_iff.1 ha
 obtain⟨h3,h4⟩:=List.getElem?_eq_some_iff.1 hb
 rw[List.take_succ_eq_append_getElem h3,List.take_succ_eq_append_getElem h1,h2,h4,List.append_assoc]
 exact dd_snoc a b _
theorem dd_one {xs:List Int} (h:0 < xs.length):dd (xs.take 1)=xs.take 1:=by
 match xs,h with
 | x::r,_=>rfl
theorem h_slices_Compact_Int (h:HS) (c:C) (qs:List Int) (hm:MR h 1 c (qs.map icell)) (K:V→HS→Prop)
  (hk:∀ c' h',MR h' 1 c' ((dd qs).map icell)→Same h h' (labs c)→(∀ l ∈ labs c',l ∈ labs c)→K (.one c') h') :
  HSpec Tryz.prog 97 [.one c] h K:=by
 refine HSpec.of_vc Tryz.func97 rfl (by kernel_rfl) (n:=61) rfl rfl (by simp) ?_
 simp
 rcases hm.2.2 with ⟨h1,rfl | rfl⟩ | ⟨l,cap,sp,rfl,hb,hcap⟩
 ·obtain rfl:qs=[]:=by simpa using h1
  simp
  exact hk _ _ hm .refl (fun _ h=>h)
 ·obtain rfl:qs=[]:=by simpa using h1
  simp
  exact hk _ _ hm .refl (fun _ h=>h)
 simp only[List.length_map] at hm hk hb hcap ⊢
 have hlim:qs.length≤2097152:=by simpa using hm.2.1
 have hcl:qs.length+sp.length=cap:=by rw[icell_len] at hcap;simpa using hcap
 simp
 refine condV_dec (fun hlt2=>?_) (fun hge2=>?_)
 ·simp
  have hdd:dd qs=qs:=by
   match qs,hlt2 with
   | [],_=>rfl
   | [x],_=>rfl
   | _::_::_,h=>simp at h;omega
  exact hk _ _ (by rw[hdd];exact hm) .refl (fun _ h=>h)
 simp
 refine Wait.rounds (fun n e h'=>∃ (k:Nat),n=qs.length - k∧1≤k∧k≤qs.length∧h'=h∧dd (qs.take k)=qs.take k∧e.n=61∧e.get 0=.one (.mrow l 0 qs.length cap)∧e.get 3=.one (.d (.int .i64 (k:Int)))) (qs.length - 1)
  ⟨1,rfl,by omega,by omega,rfl,dd_one (by omega),by simp,by simp,by simp⟩ ?_
 rintro n e h' ⟨k,rfl,hk1,hkl,rfl,hdk,hn,h0,h3⟩
 simp[h0,h3,hn]
 refine condV_dec (fun hlt=>?_) (fun hge=>?_)
 ·simp[h0,h3,hn]
  obtain⟨j,rfl⟩:∃ j,k=j+1:=⟨k - 1,by omega⟩
  have hx1:qs[j+1]?=some qs[j+1]:=List.getElem?_eq_getElem (by omega)
  have hx0:qs[j]?=some qs[j]:=List.getElem?_eq_getElem (by omega)
  have hdt:=dd_take hx0 hx1
  generalize qs[j+1]=t1 at hx1 hdt
  generalize qs[j]=t0 at hx0 hdt
  have hr1:=icell_read (sp:=sp) hx1
  have hr0:=icell_read (sp:=sp) hx0
  have hwj:IntKind.i64.wrap (j:Int)=(j:Int):=IntWalk.i64_in _ (by omega)
  have hj0:j < qs.length:=by omega
  have hz:(0:Int)≤(j:Int)+1:=by omega
  have hw1:=IntWalk.i64_in ((j:Int)+1+1) (by omega)
  refine Wait.cut (Plan.then_ [0,1,2,3,4,5,6,7,8,9] .done) follows (by kernel_rfl) (fun e1 h1'=>h1'=h'∧e1.n=61∧e1.get 0=.one (.mrow l 0 qs.length cap)∧e1.get 3=.one (.d (.int .i64 ((j+1:Nat):Int)))∧e1.get 25=.one (.d (.bool (t1 == t0)))) ?_ ?_
  ·simp[h0,h3,hn,hz,hj0,hlt,hwj,hb,hr1,hr0,Plan.then_,vcPlan,planOps,isCallAt,callKind]
   exact CutK.of (by simp[h0,h3,hn])
  rintro e1 h1' ⟨rfl,hn1,h01,h31,h25⟩
  simp[h01,h31,h25,hn1]
  refine condV_of (fun heq=>?_) (fun hne=>?_)
  ·obtain rfl:t1=t0:=by simpa using heq
   rw[if_pos rfl] at hdt
   have hkc:j+1 < cap:=by omega
   simp[h01,h31,hn1,hz]
   refine opt_slice ⟨by omega,by omega⟩ (fun _=>?_) (fun h=>absurd hkc (by simpa using h))
   simp[h01,h31,hn1]
   refine Wait.rounds (fun n e h2=>∃ (k2 a:Nat) (ys:List Int),n=qs.length - (j+1+k2)∧1≤k2∧j+1+k2≤qs.length∧a < j+1+k2∧ys.length=qs.length∧ys.take a=dd (qs.take (j+1+k2))∧ys.drop (j+k2)=qs.drop (j+k2) ∧
    e.n=61∧e.get 0=.one (.mrow l 0 qs.length cap)∧e.get 3=.one (.d (.int .i64 (a:Int)))∧e.get 4=.one (.mrow l (j+1) (qs.length - (j+1)) (cap - (j+1)))∧e.get 5=.one (.d (.int .i64 (k2:Int))) ∧
    Same h1' h2 [l]∧h2.box l=some (rowBox (ys.map icell) sp)) (qs.length - (j+1+1)) ?_ ?_
   ·exact⟨1,j+1,qs,rfl,by omega,by omega,by omega,rfl,by rw[hdt,hdk],rfl,by simp[hn1],by simp[h01,hn1],by simp[h31,hn1],by simp[hn1],by simp[hn1],.refl,hb⟩
   clear hn1 h01 h31 h25 hn h0 h3
   rintro n e h2 ⟨k2,a,ys,rfl,hk2,hjk,hak,hyl,hyt,hyd,hn,h0,h3,h4,h5,hs2,hb2⟩
   simp[h0,h3,h4,h5,hn]
   refine condV_dec (fun hlt3=>?_) (fun hge3=>?_)
   ·simp[h0,h3,h4,h5,hn]
    obtain⟨m,rfl⟩:∃ m,k2=m+1:=⟨k2 - 1,by omega⟩
    have hlt4:m+1 < qs.length - (j+1):=by omega
    have hlt5:m < qs.length - (j+1):=by omega
    have hx1:qs[j+(m+1)+1]?=some qs[j+(m+1)+1]:=List.getElem?_eq_getElem (by omega)
    have hx0:qs[j+(m+1)]?=some qs[j+(m+1)]:=List.getElem?_eq_getElem (by omega)
    have hdt2:=dd_take hx0 hx1
    generalize qs[j+(m+1)+1]=u1 at hx1 hdt2
    generalize qs[j+(m+1)]=u0 at hx0 hdt2
    have hy0:ys[j+1+m]?=some u0:=by
     have h1:(ys.drop (j+(m+1)))[0]?=(qs.drop (j+(m+1)))[0]?:=by rw[hyd]
     rw[List.getElem?_drop,List.getElem?_drop,Nat.add_zero,hx0] at h1
     rw[show j+1+m=j+(m+1) by omega];exact h1
    have hy1:ys[j+1+(m+1)]?=some u1:=by
     have h1:(ys.drop (j+(m+1)))[1]?=(qs.drop (j+(m+1)))[1]?:=by rw[hyd]
     rw[List.getElem?_drop,List.getElem?_drop,hx1] at h1
     rw[show j+1+(m+1)=j+(m+1)+1 by omega];exact h1
    have hr1:=icell_read (sp:=sp) hy1
    have hr0:=icell_read (sp:=sp) hy0
    have hwm:IntKind.i64.wrap (m:Int)=(m:Int):=IntWalk.i64_in _ (by omega)
    have hzm:(0:Int)≤(m:Int)+1:=by omega
    have hwm1:=IntWalk.i64_in ((m:Int)+1+1) (by omega)
    have hwa:=IntWalk.i64_in ((a:Int)+1) (by omega)
    have hdn:ys.drop (j+(m+1+1))=qs.drop (j+(m+1+1)):=by
     rw[show j+(m+1+1)=j+(m+1)+1 by omega,← List.drop_drop,hyd,List.drop_drop]
    refine Wait.cut (Plan.then_ [0,1,2,3,4,5,6,7,8,9] .done) follows (by kernel_rfl) (fun e1 h1=>h1=h2∧e1.n=61∧e1.get 0=.one (.mrow l 0 qs.length cap)∧e1.get 3=.one (.d (.int .i64 (a:Int)))∧e1.get 4=.one (.mrow l (j+1) (qs.length - (j+1)) (cap - (j+1)))∧e1.get 5=.one (.d (.int .i64 ((m+1:Nat):Int)))∧e1.get 44=.one (.d (.bool (u1 != u0)))) ?_ ?_
    ·simp[h0,h3,h4,h5,hn,hzm,hlt4,hlt5,hwm,hb2,hr1,hr0,Plan.then_,vcPlan,planOps,isCallAt,callKind]
     exact CutK.of (by simp[h0,h3,h4,h5,hn])
    clear hn h0 h3 h4 h5
    rintro e1 h1 ⟨rfl,hn,h0,h3,h4,h5,h44⟩
    simp[h0,h3,h4,h5,h44,hn]
    refine condV_of (fun hne=>?_) (fun heq=>?_)
    ·have hne':¬ u0=u1:=by intro h9;simp[h9] at hne
     rw[if_neg hne'] at hdt2
     have haq:a < qs.length:=by omega
     simp[h0,h3,h4,h5,hn,hzm,hlt4,hb2,hr1,haq]
     rw[icell_write (by omega)]
     refine⟨by rw[icell_len];omega,?_⟩
     simp[h0,h3,h4,h5,hn,hwa,hwm1]
     refine Back.of (n':=qs.length - (j+1+(m+1+1))) (by omega) ⟨m+1+1,a+1,ys.set a u1,rfl,by omega,by omega,by omega,by simpa using hyl,?_,?_,by simp[hn],by simp[h0],by simp[h3],by simp[h4],by simp,hs2.setBox (.inl (by simp)),by simp⟩
     ·rw[take_set_succ (by omega),hyt,show j+1+(m+1+1)=j+(m+1)+2 by omega,hdt2]
      congr 3
      omega
     ·rw[List.drop_set_of_lt (by omega),hdn]
    ·have heq':u0=u1:=by
      have h9:u1=u0:=by simpa using heq
      exact h9.symm
     rw[if_pos heq'] at hdt2
     simp[h0,h3,h4,h5,hn,hwm1]
     refine Back.of (n':=qs.length - (j+1+(m+1+1))) (by omega) ⟨m+1+1,a,ys,rfl,by omega,by omega,by omega,hyl,?_,hdn,by simp[hn],by simp[h0],by simp[h3],by simp[h4],by simp,hs2,hb2⟩
     rw[hyt,show j+1+(m+1+1)=j+(m+1)+2 by omega,hdt2]
     congr 2
     omega
   ·have hend:j+1+k2=qs.length:=by omega
    rw[hend,List.take_length] at hyt
    have hac:a < cap:=by omega
    have hale:a≤qs.length:=by omega
    have hyal:(ys.take a).length=a:=by simp;omega
    have hbx:rowBox (ys.map icell) sp=rowBox ((ys.take a).map icell) (((ys.drop a).map icell).flatten++sp):=by
     simp only[rowBox,← List.append_assoc,← List.flatten_append,← List.map_append,List.take_append_drop]
    have hcp:∀ vs,setCells (rowBox (ys.map icell) sp) a vs=rowBox ((dd qs).map icell) (setCells (((ys.drop a).map icell).flatten++sp) 0 vs):=fun vs=>by
     have:=row_tail (sp:=((ys.drop a).map icell).flatten++sp) (vs:=vs) (icell_all (us:=ys.take a))
     rw[List.length_map,hyal,← hbx,hyt,Nat.mul_one] at this
     exact this
    have hbl:(rowBox (ys.map icell) sp).length=cap:=by rw[icell_len];omega
    simp[h0,h3,hn]
    refine opt_slice ⟨hale,by omega⟩ (fun _=>?_) (fun h=>absurd hac h)
    simp[h0,h3,hn]
    refine clearK_row ty_el30 ty_ze3 hb2 (by decide) (by rw[hbl];omega) ?_
    have hqc:qs.length≤cap:=by omega
    simp[h0,h3,hn,hac,hqc]
    refine opt_slice (by omega) (fun _=>?_) (fun h=>absurd (by omega) h)
    simp[hn]
    rw[hcp]
    refine hk (.mrow l 0 a cap) _ ⟨icell_all,?_,.inr ⟨l,cap,setCells (((ys.drop a).map icell).flatten++sp) 0 _,?_,setBox_box.trans (if_pos rfl),?_⟩⟩ (hs2.setBox (l:=l) (.inl (by simp))) (by simp[labs])
    ·rw[← hyt];simp;omega
    ·rw[← hyt];simp;omega
    ·rw[← hcp,setCells_length (by rw[hbl];simp;omega),hbl,Nat.mul_one]
  ·have hne':¬ t0=t1:=by intro h9;simp[h9] at hne
   rw[if_neg hne'] at hdt
   simp[h01,h31,hn1,hw1]
   refine Back.of (n':=qs.length - (j+1+1)) (by omega) ⟨j+1+1,rfl,by omega,by omega,rfl,?_,by simp[hn1],by simp[h01],by simp⟩
   rw[hdt,hdk]
   obtain⟨h8,h9⟩:=List.getElem?_eq_some_iff.1 hx1
   rw[List.take_succ_eq_append_getElem h8,h9]
 ·have hke:k=qs.length:=by omega
  rw[hke,List.take_length] at hdk
  simp[h0,hn]
  exact hk _ _ (by rw[hdk];exact hm) .refl (fun _ h=>h)
def m_access_visibleColumns (t:Tbl) (r_:Rule):Option (List Int):=chkK (t.pk.length+r_.cols.length≤12) (some (dd (sortI (t.pk++r_.cols))))
theorem sortI_len (xs:List Int):(sortI xs).length=xs.length:=(outerS_perm ltI _ _ xs).length_eq
theorem dd_len:∀ xs:List Int,(dd xs).length≤xs.length
 | []=>by simp[dd]
 | [x]=>by simp[dd]
 | x::y::r=>by
   have:=dd_len (y::r)
   simp only[dd]
   split<;>simp at this ⊢<;>omega
theorem c_access_visibleColumns (t:Tbl) (r_:Rule) (r:List Int) (hm:Is (m_access_visibleColumns t r_) r):PSpec Tryz.prog 51 [.agg t.enc,.agg r_.enc] (.one (.d (.sl (r.map encI)))):=by
 obtain⟨hl,hm⟩:=hm.chk
 obtain rfl:=r_ret hm
 refine PSpec.of_heap ?_
 show HSpec _ _ [.agg (t.enc.map C.d),.agg (r_.enc.map C.d)] HS.init _
 refine HSpec.of_vc Tryz.func51 rfl (by kernel_rfl) (n:=16) rfl rfl (by simp) ?_
 simp
 have hF:[t.pk.map encI,r_.cols.map encI].flatten.map (·.map C.d)=(t.pk++r_.cols).map icell:=by
  have hi:icell=fun x=>[C.d (.int .i64 x)]:=rfl
  rw[hi]
  simp[Function.comp_def]
 refine callK_heap (h_slices_Concat_Int _ _ [t.pk.map encI,r_.cols.map encI] (.inr ⟨_,rfl⟩) (fun xs hxs x hx=>?_) (by simp;omega) _ (fun c1 h1 hm1 hs1 hl1=>?_))
 ·simp at hxs
  rcases hxs with rfl | rfl<;>(obtain⟨y,_,rfl⟩:=List.mem_map.1 hx;rfl)
 rw[hF] at hm1
 simp
 refine callK_heap (h_slices_Sort_Int _ c1 (t.pk++r_.cols) (by simp;omega) (hm1.frame fun _ _=>rfl) _ (fun h2 hm2 hs2=>?_))
 simp
 refine callK_heap (h_slices_Compact_Int _ c1 (sortI (t.pk++r_.cols)) (hm2.frame fun _ _=>rfl) _ (fun c2 h3 hm3 hs3 hl3=>?_))
 simp
 have hE:(dd (sortI (t.pk++r_.cols))).map icell=((dd (sortI (t.pk++r_.cols))).map encI).map (·.map C.d):=by
  have hi:icell=fun x=>[C.d (.int .i64 x)]:=rfl
  rw[hi]
  simp[Function.comp_def]
 rw[hE] at hm3
 exact hm3.frz (List.length_map _) (fun t ht=>by obtain⟨y,_,rfl⟩:=List.mem_map.1 ht;rfl) (fun i x t hx ht=>by
   rw[List.getElem?_map] at hx
   rw[ht] at hx
   simp only[Option.map_some,Option.some.injEq] at hx
   subst hx
   exact frzCs_datas)
end Go.Proofs.YthgepknlibmjcaaGreat
end
section
namespace Go.Proofs.YthgepknlibmjcaaGreat
open Go.Am
def m_slices_IndexFunc_Rule (s_:List Rule) (f:Rule→Option Bool):Option Int:=
 (forK (fun (i2:Nat) (x2:Rule) (s2:Unit) next_2=>(bindK (f x2) fun v3=>(bif v3 then (some (i2:Int)) else (next_2 ())))) (fun (s2:Unit)=>(some (-1))) s_ 0 ())
theorem c_slices_IndexFunc_Rule (s_:List Rule) (g:FuncId) (caps:List (List D)) (f:Rule→Option Bool) (hf:∀ xa v,Is (f xa) v→PSpec Tryz.prog g (.agg xa.enc::capsOf caps) (.one (.d (.bool v)))) (r:Int) (hm:Is (m_slices_IndexFunc_Rule s_ f) r):PSpec Tryz.prog 91 [.one (.d (.sl (s_.map Rule.enc))),.one (.fn g caps)] (.one (.d (.int .i64 r))):=by
 unfold m_slices_IndexFunc_Rule at hm
 refine PSpec.of_vc Tryz.func91 rfl (by kernel_rfl) (n:=19) rfl rfl (by simp) ?_
 try simp[*]
 intro hl1
 replace hl1:s_.length≤2097152:=by simpa using hl1
 refine Wait.for (xs:=s_) (s0:=()) (fun i2 s2 e2 h2=>e2.n=19∧e2.get 0=.one (.d (.sl (s_.map Rule.enc)))∧e2.get 1=.one (.fn g (caps.map Cap.rp))∧e2.get 7=.one (.d (.int .i64 (s_.length:Int)))∧e2.get 8=.one (.d (.int .i64 (i2:Int)))) hm (by simp[*]) ?_ ?_
 ·rintro i2 s2 e2 h2 ⟨hn2,h2_0,h2_1,h2_7,h2_8⟩ hlt2 hm
  have hw2:IntKind.i64.wrap ((i2:Int)+1)=(i2:Int)+1:=IntWalk.i64_in _ (by omega)
  try simp[*]
  refine r_callC (av:=[.agg (s_[i2]).enc]) (cs:=caps) hm (fun v hv=>hf _ v hv) (by simp[*]) (by simp[*]) ?_
  clear hm;intro v3 hvv3 hm
  try simp[*]
  refine r_cond hm ?_ ?_<;>clear hm<;>intro hc4 hm
  ·try simp[*]
   obtain rfl:=r_ret hm
   exact ret0 (vs:=[_]) (by simp[*];try exact rfl) (by simp[*])
  ·try simp[*]
   exact BackF.of () ⟨(by simp[*]),hm⟩
 ·rintro s2 e2 h2 ⟨hn2,h2_0,h2_1,h2_7,h2_8⟩ hm
  try simp[*]
  obtain rfl:=r_ret hm
  exact ret0 (vs:=[_]) (by simp[*];try exact rfl) (by simp[*])
def m_access_lookup_1 (r_:Rule) (k0:ByteArray) (k1:Int) (k2:ByteArray):Option Bool:=
 (bif strEq r_.user k0 then (bif (r_.version == k1) then (some (strEq r_.table k2)) else (some false)) else (some false))
theorem c_access_lookup_1 (r_:Rule) (k0:ByteArray) (k1:Int) (k2:ByteArray) (r:Bool) (hm:Is (m_access_lookup_1 r_ k0 k1 k2) r):PSpec Tryz.prog 92 [.agg r_.enc,.one (.rp [.str k0]),.one (.rp [.int .i64 k1]),.one (.rp [.str k2])] (.one (.d (.bool r))):=by
 unfold m_access_lookup_1 at hm
 refine PSpec.of_vc Tryz.func92 rfl (by kernel_rfl) (n:=22) rfl rfl (by simp) ?_
 try simp[*]
 refine r_guardT hm ?_ ?_<;>clear hm<;>intro hc2 hm
 ·try simp[*]
  refine r_guardT hm ?_ ?_<;>clear hm<;>intro hc3 hm
  ·try simp[*]
   obtain rfl:=r_ret hm
   exact ret0 (vs:=[_]) (by simp[*];try exact rfl) (by simp[*])
  ·try simp[*]
   obtain rfl:=r_ret hm
   exact ret0 (vs:=[_]) (by simp[*];try exact rfl) (by simp[*])
 ·try simp[*]
  obtain rfl:=r_ret hm
  exact ret0 (vs:=[_]) (by simp[*];try exact rfl) (by simp[*])
def m_access_lookup (rules:List Rule) (user:ByteArray) (v_:Int) (table:ByteArray):Option (Rule × Bool):=
 (bindK (m_slices_IndexFunc_Rule rules (fun xa_=>m_access_lookup_1 xa_ user v_ table)) fun v5=>(bif decide (v5 < 0) then (some ((Rule.mk ByteArray.empty 0 ByteArray.empty [] [] false),false)) else (getK rules v5 fun x7=>(some (x7,true)))))
theorem c_access_lookup (rules:List Rule) (user:ByteArray) (v_:Int) (table:ByteArray) (r:Rule × Bool) (hm:Is (m_access_lookup rules user v_ table) r):PSpec Tryz.prog 49 [.one (.d (.sl (rules.map Rule.enc))),.one (.d (.str user)),.one (.d (.int .i64 v_)),.one (.d (.str table))] (.tup [.agg (r.1.enc.map RC.d),.one (.d (.bool r.2))]):=by
 unfold m_access_lookup at hm
 refine PSpec.of_vc Tryz.func49 rfl (by kernel_rfl) (n:=21) rfl rfl (by simp) ?_
 try simp[*]
 refine r_call (av:=[.one (.d (.sl (rules.map Rule.enc))),.one (.fn 92 [[.str user],[.int .i64 v_],[.str table]])]) hm (fun v hv=>c_slices_IndexFunc_Rule _ 92 [[.str user],[.int .i64 v_],[.str table]] _ (fun xa_ v hv=>c_access_lookup_1 xa_ _ _ _ v hv) v hv) (by simp[*]) ?_
 clear hm;intro v5 hvv5 hm
 try simp[*]
 refine r_cond hm ?_ ?_<;>clear hm<;>intro hc6 hm
 ·try simp[*]
  obtain rfl:=r_ret hm
  exact ret0 (vs:=[_,_]) (by simp[*];try exact⟨rfl,rfl⟩) (by simp[*])
 ·try simp[*]
  replace hm:=hm.get
  obtain⟨x7,h0x7,hxx7,hm⟩:=hm
  try simp[*]
  obtain rfl:=r_ret hm
  exact ret0 (vs:=[_,_]) (by simp[*];try exact⟨rfl,rfl⟩) (by simp[*])
def m_access_validatePredicate (t:Tbl) (p:Cons):Option Int:=
 (bif !(strEq p.table t.name) then (some 23) else (bif !(strEq p.op ({ data:=#[61] })) then (bif !(strEq p.op ({ data:=#[60] })) then (bif !(strEq p.op ({ data:=#[60,61] })) then (some 22) else (bindK (m_slices_Contains_Int t.pk p.left) fun v7=>(bif !v7 then (some 9) else (bif (p.right != (-1)) then (bindK (m_slices_Contains_Int t.pk p.right) fun v10=>(bif !v10 then (some 9) else (bif (p.right == (-1)) then (bindK (m_value_Validate p.value) fun v13=>(some v13)) else (bif (!(p.value.kind == 0) || (!(p.value.int == 0) || (!(p.value.text == ByteArray.empty)))) then (some 3) else (some 0))))) else (bif (p.right == (-1)) then (bindK (m_value_Validate p.value) fun v16=>(some v16)) else (bif (!(p.value.kind == 0) || (!(p.value.int == 0) || (!(p.value.text == ByteArray.empty)))) then (some 3) else (some 0))))))) else (bindK (m_slices_Contains_Int t.pk p.left) fun v18=>(bif !v18 then (some 9) else (bif (p.right != (-1)) then (bindK (m_slices_Contains_Int t.pk p.right) fun v21=>(bif !v21 then (some 9) else (bif (p.right == (-1)) then (bindK (m_value_Validate p.value) fun v24=>(some v24)) else (bif (!(p.value.kind == 0) || (!(p.value.int == 0) || (!(p.value.text == ByteArray.empty)))) then (some 3) else (some 0))))) else (bif (p.right == (-1)) then (bindK (m_value_Validate p.value) fun v27=>(some v27)) else (bif (!(p.value.kind == 0) || (!(p.value.int == 0) || (!(p.value.text == ByteArray.empty)))) then (some 3) else (some 0))))))) else (bindK (m_slices_Contains_Int t.pk p.left) fun v29=>(bif !v29 then (some 9) else (bif (p.right != (-1)) then (bindK (m_slices_Contains_Int t.pk p.right) fun v32=>(bif !v32 then (some 9) else (bif (p.right == (-1)) then (bindK (m_value_Validate p.value) fun v35=>(some v35)) else (bif (!(p.value.kind == 0) || (!(p.value.int == 0) || (!(p.value.text == ByteArray.empty)))) then (some 3) else (some 0))))) else (bif (p.right == (-1)) then (bindK (m_value_Validate p.value) fun v38=>(some v38)) else (bif (!(p.value.kind == 0) || (!(p.value.int == 0) || (!(p.value.text == ByteArray.empty)))) then (some 3) else (some 0))))))))
theorem c_access_validatePredicate (t:Tbl) (p:Cons) (r:Int) (hm:Is (m_access_validatePredicate t p) r):PSpec Tryz.prog 104 [.agg t.enc,.agg p.enc] (.one (.d (.int .i64 r))):=by
 unfold m_access_validatePredicate at hm
 refine PSpec.of_vc Tryz.func104 rfl (by kernel_rfl) (n:=57) rfl rfl (by simp) ?_
 try simp[*]
 refine r_cond hm ?_ ?_<;>clear hm<;>intro hc3 hm
 ·try simp[*]
  obtain rfl:=r_ret hm
  exact ret0 (vs:=[_]) (by simp[*];try exact rfl) (by simp[*])
 ·try simp[*]
  refine r_guardT hm ?_ ?_<;>clear hm<;>intro hc4 hm
  ·try simp[*]
   refine r_guardT hm ?_ ?_<;>clear hm<;>intro hc5 hm
   ·try simp[*]
    refine r_cond hm ?_ ?_<;>clear hm<;>intro hc6 hm
    ·try simp[*]
     obtain rfl:=r_ret hm
     exact ret0 (vs:=[_]) (by simp[*];try exact rfl) (by simp[*])
    ·try simp[*]
     refine r_call (av:=[.one (.d (.sl (t.pk.map encI))),.one (.d (.int .i64 p.left))]) hm (fun v hv=>c_slices_Contains_Int _ _ v hv) (by simp[*]) ?_
     clear hm;intro v7 hvv7 hm
     try simp[*]
     refine r_guardF hm ?_ ?_<;>clear hm<;>intro hc8 hm
     ·try simp[*]
      obtain rfl:=r_ret hm
      exact ret0 (vs:=[_]) (by simp[*];try exact rfl) (by simp[*])
     ·try simp[*]
      refine r_guardT hm ?_ ?_<;>clear hm<;>intro hc9 hm
      ·try simp[*]
       refine r_call (av:=[.one (.d (.sl (t.pk.map encI))),.one (.d (.int .i64 p.right))]) hm (fun v hv=>c_slices_Contains_Int _ _ v hv) (by simp[*]) ?_
       clear hm;intro v10 hvv10 hm
       try simp[*]
       refine r_cond hm ?_ ?_<;>clear hm<;>intro hc11 hm
       ·try simp[*]
        obtain rfl:=r_ret hm
        exact ret0 (vs:=[_]) (by simp[*];try exact rfl) (by simp[*])
       ·try simp[*]
        refine r_cond hm ?_ ?_<;>clear hm<;>intro hc12 hm
        ·try simp[*]
         refine r_call (av:=[.agg p.value.enc]) hm (fun v hv=>c_value_Validate _ v hv) (by simp[*]) ?_
         clear hm;intro v13 hvv13 hm
         try simp[*]
         obtain rfl:=r_ret hm
         exact ret0 (vs:=[_]) (by simp[*];try exact rfl) (by simp[*])
        ·try simp[*]
         refine r_cond hm ?_ ?_<;>clear hm<;>intro hc14 hm
         ·try simp[*]
          obtain rfl:=r_ret hm
          exact ret0 (vs:=[_]) (by simp[*];try exact rfl) (by simp[*])
         ·try simp[*]
          obtain rfl:=r_ret hm
          exact ret0 (vs:=[_]) (by simp[*];try exact rfl) (by simp[*])
      ·try simp[*]
       refine r_cond hm ?_ ?_<;>clear hm<;>intro hc15 hm
       ·try simp[*]
        refine r_call (av:=[.agg p.value.enc]) hm (fun v hv=>c_value_Validate _ v hv) (by simp[*]) ?_
        clear hm;intro v16 hvv16 hm
        try simp[*]
        obtain rfl:=r_ret hm
        exact ret0 (vs:=[_]) (by simp[*];try exact rfl) (by simp[*])
       ·try simp[*]
        refine r_cond hm ?_ ?_<;>clear hm<;>intro hc17 hm
        ·try simp[*]
         obtain rfl:=r_ret hm
         exact ret0 (vs:=[_]) (by simp[*];try exact rfl) (by simp[*])
        ·try simp[*]
         obtain rfl:=r_ret hm
         exact ret0 (vs:=[_]) (by simp[*];try exact rfl) (by simp[*])
   ·try simp[*]
    refine r_call (av:=[.one (.d (.sl (t.pk.map encI))),.one (.d (.int .i64 p.left))]) hm (fun v hv=>c_slices_Contains_Int _ _ v hv) (by simp[*]) ?_
    clear hm;intro v18 hvv18 hm
    try simp[*]
    refine r_guardF hm ?_ ?_<;>clear hm<;>intro hc19 hm
    ·try simp[*]
     obtain rfl:=r_ret hm
     exact ret0 (vs:=[_]) (by simp[*];try exact rfl) (by simp[*])
    ·try simp[*]
     refine r_guardT hm ?_ ?_<;>clear hm<;>intro hc20 hm
     ·try simp[*]
      refine r_call (av:=[.one (.d (.sl (t.pk.map encI))),.one (.d (.int .i64 p.right))]) hm (fun v hv=>c_slices_Contains_Int _ _ v hv) (by simp[*]) ?_
      clear hm;intro v21 hvv21 hm
      try simp[*]
      refine r_cond hm ?_ ?_<;>clear hm<;>intro hc22 hm
      ·try simp[*]
       obtain rfl:=r_ret hm
       exact ret0 (vs:=[_]) (by simp[*];try exact rfl) (by simp[*])
      ·try simp[*]
       refine r_cond hm ?_ ?_<;>clear hm<;>intro hc23 hm
       ·try simp[*]
        refine r_call (av:=[.agg p.value.enc]) hm (fun v hv=>c_value_Validate _ v hv) (by simp[*]) ?_
        clear hm;intro v24 hvv24 hm
        try simp[*]
        obtain rfl:=r_ret hm
        exact ret0 (vs:=[_]) (by simp[*];try exact rfl) (by simp[*])
       ·try simp[*]
        refine r_cond hm ?_ ?_<;>clear hm<;>intro hc25 hm
        ·try simp[*]
         obtain rfl:=r_ret hm
         exact ret0 (vs:=[_]) (by simp[*];try exact rfl) (by simp[*])
        ·try simp[*]
         obtain rfl:=r_ret hm
         exact ret0 (vs:=[_]) (by simp[*];try exact rfl) (by simp[*])
     ·try simp[*]
      refine r_cond hm ?_ ?_<;>clear hm<;>intro hc26 hm
      ·try simp[*]
       refine r_call (av:=[.agg p.value.enc]) hm (fun v hv=>c_value_Validate _ v hv) (by simp[*]) ?_
       clear hm;intro v27 hvv27 hm
       try simp[*]
       obtain rfl:=r_ret hm
       exact ret0 (vs:=[_]) (by simp[*];try exact rfl) (by simp[*])
      ·try simp[*]
       refine r_cond hm ?_ ?_<;>clear hm<;>intro hc28 hm
       ·try simp[*]
        obtain rfl:=r_ret hm
        exact ret0 (vs:=[_]) (by simp[*];try exact rfl) (by simp[*])
       ·try simp[*]
        obtain rfl:=r_ret hm
        exact ret0 (vs:=[_]) (by simp[*];try exact rfl) (by simp[*])
  ·try simp[*]
   refine r_call (av:=[.one (.d (.sl (t.pk.map encI))),.one (.d (.int .i64 p.left))]) hm (fun v hv=>c_slices_Contains_Int _ _ v hv) (by simp[*]) ?_
   clear hm;intro v29 hvv29 hm
   try simp[*]
   refine r_guardF hm ?_ ?_<;>clear hm<;>intro hc30 hm
   ·try simp[*]
    obtain rfl:=r_ret hm
    exact ret0 (vs:=[_]) (by simp[*];try exact rfl) (by simp[*])
   ·try simp[*]
    refine r_guardT hm ?_ ?_<;>clear hm<;>intro hc31 hm
    ·try simp[*]
     refine r_call (av:=[.one (.d (.sl (t.pk.map encI))),.one (.d (.int .i64 p.right))]) hm (fun v hv=>c_slices_Contains_Int _ _ v hv) (by simp[*]) ?_
     clear hm;intro v32 hvv32 hm
     try simp[*]
     refine r_cond hm ?_ ?_<;>clear hm<;>intro hc33 hm
     ·try simp[*]
      obtain rfl:=r_ret hm
      exact ret0 (vs:=[_]) (by simp[*];try exact rfl) (by simp[*])
     ·try simp[*]
      refine r_cond hm ?_ ?_<;>clear hm<;>intro hc34 hm
      ·try simp[*]
       refine r_call (av:=[.agg p.value.enc]) hm (fun v hv=>c_value_Validate _ v hv) (by simp[*]) ?_
       clear hm;intro v35 hvv35 hm
       try simp[*]
       obtain rfl:=r_ret hm
       exact ret0 (vs:=[_]) (by simp[*];try exact rfl) (by simp[*])
      ·try simp[*]
       refine r_cond hm ?_ ?_<;>clear hm<;>intro hc36 hm
       ·try simp[*]
        obtain rfl:=r_ret hm
        exact ret0 (vs:=[_]) (by simp[*];try exact rfl) (by simp[*])
       ·try simp[*]
        obtain rfl:=r_ret hm
        exact ret0 (vs:=[_]) (by simp[*];try exact rfl) (by simp[*])
    ·try simp[*]
     refine r_cond hm ?_ ?_<;>clear hm<;>intro hc37 hm
     ·try simp[*]
      refine r_call (av:=[.agg p.value.enc]) hm (fun v hv=>c_value_Validate _ v hv) (by simp[*]) ?_
      clear hm;intro v38 hvv38 hm
      try simp[*]
      obtain rfl:=r_ret hm
      exact ret0 (vs:=[_]) (by simp[*];try exact rfl) (by simp[*])
     ·try simp[*]
      refine r_cond hm ?_ ?_<;>clear hm<;>intro hc39 hm
      ·try simp[*]
       obtain rfl:=r_ret hm
       exact ret0 (vs:=[_]) (by simp[*];try exact rfl) (by simp[*])
      ·try simp[*]
       obtain rfl:=r_ret hm
       exact ret0 (vs:=[_]) (by simp[*];try exact rfl) (by simp[*])
def m_access_validateRule (schemas:List Sch) (r_:Rule):Option Int:=
 (bindK (m_schema_ValidName r_.user) fun v2=>(bif !v2 then (some 23) else (bif decide (r_.version < 0) then (some 1) else (bif decide ((schemas.length:Int)≤r_.version) then (some 1) else (getK schemas r_.version fun x7=>(bindK (m_schema_FindTable x7 r_.table) fun v8=>(bif !v8.2 then (some 4) else (getK x7.tables v8.1 fun x10=>(forK (fun (i13:Nat) (x13:Int) (s13:Unit) next_13=>(bif decide (x13 < 0) then (some 3) else (bif decide ((x10.cols.length:Int)≤x13) then (some 3) else (bif decide (0 < i13) then (chkK (okI ((i13:Int) - 1)) (getK r_.cols ((i13:Int) - 1) fun x19=>(bif decide (x13≤x19) then (some 3) else (next_13 ())))) else (next_13 ()))))) (fun (s13:Unit)=>(bif r_.write then (bindK (m_access_visibleColumns x10 r_) fun v23=>(bif decide (v23.length < x10.cols.length) then (some 17) else (bif decide (8 < (r_.preds.length:Int)) then (some 2) else (forK (fun (i29:Nat) (x29:Cons) (s29:Unit) next_29=>(bindK (m_access_validatePredicate x10 x29) fun v31=>(bif (v31 != 0) then (some v31) else (next_29 ())))) (fun (s29:Unit)=>(some 0)) r_.preds 0 ())))) else (bif decide (8 < (r_.preds.length:Int)) then (some 2) else (forK (fun (i36:Nat) (x36:Cons) (s36:Unit) next_36=>(bindK (m_access_validatePredicate x10 x36) fun v38=>(bif (v38 != 0) then (some v38) else (next_36 ())))) (fun (s36:Unit)=>(some 0)) r_.preds 0 ())))) r_.cols 0 ())))))))))
theorem c_access_validateRule (schemas:List Sch) (r_:Rule) (r:Int) (hm:Is (m_access_validateRule schemas r_) r):PSpec Tryz.prog 55 [.one (.d (.sl (schemas.map Sch.enc))),.agg r_.enc] (.one (.d (.int .i64 r))):=by
 unfold m_access_validateRule at hm
 refine PSpec.of_vc Tryz.func55 rfl (by kernel_rfl) (n:=111) rfl rfl (by simp) ?_
 try simp[*]
 refine r_call (av:=[.one (.d (.str r_.user))]) hm (fun v hv=>c_schema_ValidName _ v hv) (by simp[*]) ?_
 clear hm;intro v2 hvv2 hm
 try simp[*]
 refine r_cond hm ?_ ?_<;>clear hm<;>intro hc3 hm
 ·try simp[*]
  obtain rfl:=r_ret hm
  exact ret0 (vs:=[_]) (by simp[*];try exact rfl) (by simp[*])
 ·try simp[*]
  refine r_guardF hm ?_ ?_<;>clear hm<;>intro hc4 hm
  ·try simp[*]
   obtain rfl:=r_ret hm
   exact ret0 (vs:=[_]) (by simp[*];try exact rfl) (by simp[*])
  ·try simp[*]
   intro hl5
   replace hl5:schemas.length≤2097152:=by simpa using hl5
   refine r_cond hm ?_ ?_<;>clear hm<;>intro hc6 hm
   ·try simp[*]
    obtain rfl:=r_ret hm
    exact ret0 (vs:=[_]) (by simp[*];try exact rfl) (by simp[*])
   ·try simp[*]
    refine Wait.of (SWP.draw (Plan.then_ [0,1,2,3,4,5,6,7,8,9,10,11,12] .done) follows (by kernel_rfl) ?_)
    try simp[*,Plan.then_,vcPlan,planOps,isCallAt,callKind]
    replace hm:=hm.get
    obtain⟨x7,h0x7,hxx7,hm⟩:=hm
    try simp[*,Plan.then_,vcPlan,planOps,isCallAt,callKind]
    refine r_call (av:=[.agg x7.enc,.one (.d (.str r_.table))]) hm (fun v hv=>c_schema_FindTable _ _ v hv) (by simp[*]) ?_
    clear hm;intro v8 hvv8 hm
    try simp[*,Plan.then_,vcPlan,planOps,isCallAt,callKind]
    try refine⟨fun (_:Lab) (_:List C) hl=>hl,?_⟩
    refine r_cond hm ?_ ?_<;>clear hm<;>intro hc9 hm
    ·try simp[*]
     obtain rfl:=r_ret hm
     exact ret0 (vs:=[_]) (by simp[*];try exact rfl) (by simp[*])
    ·try simp[*]
     replace hm:=hm.get
     obtain⟨x10,h0x10,hxx10,hm⟩:=hm
     try simp[*]
     intro hl12
     replace hl12:r_.cols.length≤2097152:=by simpa using hl12
     refine Wait.for (xs:=r_.cols) (s0:=()) (fun i13 s13 e13 h13=>e13.n=111∧e13.get 3=.one (.ptr (0,48) 0)∧e13.get 7=.one (.ptr (3,112) 0)∧e13.get 50=.one (.d (.sl (r_.cols.map encI)))∧e13.get 51=.one (.d (.int .i64 (r_.cols.length:Int)))∧e13.get 52=.one (.d (.int .i64 (i13:Int)))∧h13.box (0,48)=some [.d (.str r_.user),.d (.int .i64 r_.version),.d (.str r_.table),.d (.sl (r_.cols.map encI)),.d (.sl (r_.preds.map Cons.enc)),.d (.bool r_.write)]∧h13.box (3,112)=some [.d (.str x10.name),.d (.sl (x10.cols.map Col.enc)),.d (.sl (x10.pk.map encI))]) hm (by simp[*]) ?_ ?_
     ·rintro i13 s13 e13 h13 ⟨hn13,h13_3,h13_7,h13_50,h13_51,h13_52,hb13_b1,hb13_b11⟩ hlt13 hm
      have hw13:IntKind.i64.wrap ((i13:Int)+1)=(i13:Int)+1:=IntWalk.i64_in _ (by omega)
      try simp[*]
      refine r_guardF hm ?_ ?_<;>clear hm<;>intro hc14 hm
      ·try simp[*]
       obtain rfl:=r_ret hm
       exact ret0 (vs:=[_]) (by simp[*];try exact rfl) (by simp[*])
      ·try simp[*]
       intro hl15
       replace hl15:x10.cols.length≤2097152:=by simpa using hl15
       refine r_guardF hm ?_ ?_<;>clear hm<;>intro hc16 hm
       ·try simp[*]
        obtain rfl:=r_ret hm
        exact ret0 (vs:=[_]) (by simp[*];try exact rfl) (by simp[*])
       ·try simp[*]
        refine r_guardT hm ?_ ?_<;>clear hm<;>intro hc17 hm
        ·try simp[*]
         replace hm:=hm.chk
         obtain⟨hw18,hm⟩:=hm
         replace hw18:=wrap_ok hw18
         try simp[*]
         replace hm:=hm.get
         obtain⟨x19,h0x19,hxx19,hm⟩:=hm
         try simp at h0x19
         try simp at hxx19
         try simp[*]
         refine r_cond hm ?_ ?_<;>clear hm<;>intro hc20 hm
         ·try simp[*]
          obtain rfl:=r_ret hm
          exact ret0 (vs:=[_]) (by simp[*];try exact rfl) (by simp[*])
         ·try simp[*]
          exact BackF.of () ⟨(by simp[*]),hm⟩
        ·try simp[*]
         exact BackF.of () ⟨(by simp[*]),hm⟩
     ·rintro s13 e13 h13 ⟨hn13,h13_3,h13_7,h13_50,h13_51,h13_52,hb13_b1,hb13_b11⟩ hm
      try simp[*]
      refine Wait.of (SWP.draw (Plan.then_ [0,1,2,3,4,7,8,9,5,6,10,11] .done) follows (by kernel_rfl) ?_)
      try simp[*,Plan.then_,vcPlan,planOps,isCallAt,callKind]
      refine r_guardT hm ?_ ?_<;>clear hm<;>intro hc21 hm
      ·try simp[*,Plan.then_,vcPlan,planOps,isCallAt,callKind]
       intro hl22
       replace hl22:x10.cols.length≤2097152:=by simpa using hl22
       refine r_call (av:=[.agg x10.enc,.agg r_.enc]) hm (fun v hv=>c_access_visibleColumns _ _ v hv) (by simp[*]) ?_
       clear hm;intro v23 hvv23 hm
       try simp[*,Plan.then_,vcPlan,planOps,isCallAt,callKind]
       try refine⟨fun (_:Lab) (_:List C) hl=>hl,?_⟩
       intro hl24
       replace hl24:v23.length≤2097152:=by simpa using hl24
       refine r_cond hm ?_ ?_<;>clear hm<;>intro hc25 hm
       ·try simp[*]
        obtain rfl:=r_ret hm
        exact ret0 (vs:=[_]) (by simp[*];try exact rfl) (by simp[*])
       ·try simp[*]
        intro hl26
        replace hl26:r_.preds.length≤2097152:=by simpa using hl26
        refine r_cond hm ?_ ?_<;>clear hm<;>intro hc27 hm
        ·try simp[*]
         obtain rfl:=r_ret hm
         exact ret0 (vs:=[_]) (by simp[*];try exact rfl) (by simp[*])
        ·try simp[*]
         refine Wait.for (xs:=r_.preds) (s0:=()) (fun i29 s29 e29 h29=>e29.n=111∧e29.get 7=.one (.ptr (3,112) 0)∧e29.get 98=.one (.d (.sl (r_.preds.map Cons.enc)))∧e29.get 99=.one (.d (.int .i64 (r_.preds.length:Int)))∧e29.get 100=.one (.d (.int .i64 (i29:Int)))∧h29.box (3,112)=some [.d (.str x10.name),.d (.sl (x10.cols.map Col.enc)),.d (.sl (x10.pk.map encI))]) hm (by simp[*]) ?_ ?_
         ·rintro i29 s29 e29 h29 ⟨hn29,h29_7,h29_98,h29_99,h29_100,hb29_b11⟩ hlt29 hm
          have hw29:IntKind.i64.wrap ((i29:Int)+1)=(i29:Int)+1:=IntWalk.i64_in _ (by omega)
          try simp[*]
          refine r_call (av:=[.agg x10.enc,.agg (r_.preds[i29]).enc]) hm (fun v hv=>c_access_validatePredicate _ _ v hv) (by simp[*]) ?_
          clear hm;intro v31 hvv31 hm
          try simp[*]
          refine r_cond hm ?_ ?_<;>clear hm<;>intro hc32 hm
          ·try simp[*]
           obtain rfl:=r_ret hm
           exact ret0 (vs:=[_]) (by simp[*];try exact rfl) (by simp[*])
          ·try simp[*]
           exact BackF.of () ⟨(by simp[*]),hm⟩
         ·rintro s29 e29 h29 ⟨hn29,h29_7,h29_98,h29_99,h29_100,hb29_b11⟩ hm
          try simp[*]
          obtain rfl:=r_ret hm
          exact ret0 (vs:=[_]) (by simp[*];try exact rfl) (by simp[*])
      ·try simp[*,Plan.then_,vcPlan,planOps,isCallAt,callKind]
       try refine⟨fun (_:Lab) (_:List C) hl=>hl,?_⟩
       try simp[*,Plan.then_,vcPlan,planOps,isCallAt,callKind]
       intro hl33
       replace hl33:r_.preds.length≤2097152:=by simpa using hl33
       refine r_cond hm ?_ ?_<;>clear hm<;>intro hc34 hm
       ·try simp[*]
        obtain rfl:=r_ret hm
        exact ret0 (vs:=[_]) (by simp[*];try exact rfl) (by simp[*])
       ·try simp[*]
        refine Wait.for (xs:=r_.preds) (s0:=()) (fun i36 s36 e36 h36=>e36.n=111∧e36.get 7=.one (.ptr (3,112) 0)∧e36.get 98=.one (.d (.sl (r_.preds.map Cons.enc)))∧e36.get 99=.one (.d (.int .i64 (r_.preds.length:Int)))∧e36.get 100=.one (.d (.int .i64 (i36:Int)))∧h36.box (3,112)=some [.d (.str x10.name),.d (.sl (x10.cols.map Col.enc)),.d (.sl (x10.pk.map encI))]) hm (by simp[*]) ?_ ?_
        ·rintro i36 s36 e36 h36 ⟨hn36,h36_7,h36_98,h36_99,h36_100,hb36_b11⟩ hlt36 hm
         have hw36:IntKind.i64.wrap ((i36:Int)+1)=(i36:Int)+1:=IntWalk.i64_in _ (by omega)
         try simp[*]
         refine r_call (av:=[.agg x10.enc,.agg (r_.preds[i36]).enc]) hm (fun v hv=>c_access_validatePredicate _ _ v hv) (by simp[*]) ?_
         clear hm;intro v38 hvv38 hm
         try simp[*]
         refine r_cond hm ?_ ?_<;>clear hm<;>intro hc39 hm
         ·try simp[*]
          obtain rfl:=r_ret hm
          exact ret0 (vs:=[_]) (by simp[*];try exact rfl) (by simp[*])
         ·try simp[*]
          exact BackF.of () ⟨(by simp[*]),hm⟩
        ·rintro s36 e36 h36 ⟨hn36,h36_7,h36_98,h36_99,h36_100,hb36_b11⟩ hm
         try simp[*]
         obtain rfl:=r_ret hm
         exact ret0 (vs:=[_]) (by simp[*];try exact rfl) (by simp[*])
def m_access_Validate (g_:Gr) (rules:List Rule):Option Int:=
 (bindK (m_versions_Schemas g_) fun v2=>(bif (v2.2 != 0) then (some v2.2) else (bif decide (40 < (rules.length:Int)) then (some 2) else (forK (fun (i7:Nat) (x7:Rule) (s7:Unit) next_7=>(bindK (m_access_validateRule v2.1 x7) fun v9=>(bif (v9 != 0) then (some v9) else (chkK (0≤0∧0≤(i7:Int)∧(i7:Int)≤(rules.length:Int)) (bindK (m_access_lookup ((rules.take i7).drop 0) x7.user x7.version x7.table) fun v12=>(bif v12.2 then (some 5) else (next_7 ()))))))) (fun (s7:Unit)=>(some 0)) rules 0 ()))))
theorem c_access_Validate (g_:Gr) (rules:List Rule) (r:Int) (hm:Is (m_access_Validate g_ rules) r):PSpec Tryz.prog 18 [.agg g_.enc,.one (.d (.sl (rules.map Rule.enc)))] (.one (.d (.int .i64 r))):=by
 unfold m_access_Validate at hm
 refine PSpec.of_vc Tryz.func18 rfl (by kernel_rfl) (n:=51) rfl rfl (by simp) ?_
 try simp[*]
 refine r_call (av:=[.agg g_.enc]) hm (fun v hv=>c_versions_Schemas _ v hv) (by simp[*]) ?_
 clear hm;intro v2 hvv2 hm
 try simp[*]
 refine r_cond hm ?_ ?_<;>clear hm<;>intro hc3 hm
 ·try simp[*]
  obtain rfl:=r_ret hm
  exact ret0 (vs:=[_]) (by simp[*];try exact rfl) (by simp[*])
 ·try simp[*]
  intro hl4
  replace hl4:rules.length≤2097152:=by simpa using hl4
  refine r_cond hm ?_ ?_<;>clear hm<;>intro hc5 hm
  ·try simp[*]
   obtain rfl:=r_ret hm
   exact ret0 (vs:=[_]) (by simp[*];try exact rfl) (by simp[*])
  ·try simp[*]
   refine Wait.for (xs:=rules) (s0:=()) (fun i7 s7 e7 h7=>e7.n=51∧e7.get 1=.one (.d (.sl (rules.map Rule.enc)))∧e7.get 5=.one (.d (.sl (v2.1.map Sch.enc)))∧e7.get 23=.one (.d (.sl (rules.map Rule.enc)))∧e7.get 24=.one (.d (.int .i64 (rules.length:Int)))∧e7.get 25=.one (.d (.int .i64 (i7:Int)))) hm (by simp[*]) ?_ ?_
   ·rintro i7 s7 e7 h7 ⟨hn7,h7_1,h7_5,h7_23,h7_24,h7_25⟩ hlt7 hm
    have hw7:IntKind.i64.wrap ((i7:Int)+1)=(i7:Int)+1:=IntWalk.i64_in _ (by omega)
    try simp[*]
    refine r_call (av:=[.one (.d (.sl (v2.1.map Sch.enc))),.agg (rules[i7]).enc]) hm (fun v hv=>c_access_validateRule _ _ v hv) (by simp[*]) ?_
    clear hm;intro v9 hvv9 hm
    try simp[*]
    refine r_cond hm ?_ ?_<;>clear hm<;>intro hc10 hm
    ·try simp[*]
     obtain rfl:=r_ret hm
     exact ret0 (vs:=[_]) (by simp[*];try exact rfl) (by simp[*])
    ·try simp[*]
     refine Wait.of (SWP.draw (Plan.then_ [0,1,2,3,4,5,6,7,8] (.two 9 13 (Plan.then_ [10,11,12,13,14,15] .done) (Plan.then_ [9,10,11,12,14,15] .done))) follows (by kernel_rfl) ?_)
     try simp[*,Plan.then_,vcPlan,planOps,isCallAt,callKind]
     replace hm:=hm.chk
     obtain⟨⟨hax11,hbx11,hdx11⟩,hm⟩:=hm
     have hex11:=hbx11;try simp at hex11
     have hfx11:=hdx11;try simp at hfx11
     try simp[*,Plan.then_,vcPlan,planOps,isCallAt,callKind]
     refine⟨?_,?_⟩
     ·try simp[*,Plan.then_,vcPlan,planOps,isCallAt,callKind]
      refine r_call (av:=[.one (.d (.sl (((rules.take i7).drop 0).map Rule.enc))),.one (.d (.str (rules[i7].user))),.one (.d (.int .i64 (rules[i7].version))),.one (.d (.str (rules[i7].table)))]) hm (fun v hv=>c_access_lookup _ _ _ _ v hv) (by simp[*]) ?_
      clear hm;intro v12 hvv12 hm
      try simp[*,Plan.then_,vcPlan,planOps,isCallAt,callKind]
      try refine⟨fun (_:Lab) (_:List C) hl=>hl,?_⟩
      refine r_cond hm ?_ ?_<;>clear hm<;>intro hc14 hm
      ·try simp[*]
       obtain rfl:=r_ret hm
       exact ret0 (vs:=[_]) (by simp[*];try exact rfl) (by simp[*])
      ·try simp[*]
       exact BackF.of () ⟨(by simp[*]),hm⟩
     ·try simp[*,Plan.then_,vcPlan,planOps,isCallAt,callKind]
      refine r_call (av:=[.one (.d (.sl (((rules.take i7).drop 0).map Rule.enc))),.one (.d (.str (rules[i7].user))),.one (.d (.int .i64 (rules[i7].version))),.one (.d (.str (rules[i7].table)))]) hm (fun v hv=>c_access_lookup _ _ _ _ v hv) (by simp[*]) ?_
      clear hm;intro v1013 hvv1013 hm
      try simp[*,Plan.then_,vcPlan,planOps,isCallAt,callKind]
      try refine⟨fun (_:Lab) (_:List C) hl=>hl,?_⟩
      refine r_cond hm ?_ ?_<;>clear hm<;>intro hc1014 hm
      ·try simp[*]
       obtain rfl:=r_ret hm
       exact ret0 (vs:=[_]) (by simp[*];try exact rfl) (by simp[*])
      ·try simp[*]
       exact BackF.of () ⟨(by simp[*]),hm⟩
   ·rintro s7 e7 h7 ⟨hn7,h7_1,h7_5,h7_23,h7_24,h7_25⟩ hm
    try simp[*]
    obtain rfl:=r_ret hm
    exact ret0 (vs:=[_]) (by simp[*];try exact rfl) (by simp[*])
def m_instance_ConformsRow (t:Tbl) (row:List GV):Option Int:=
 (bif ((row.length:Int) != (t.cols.length:Int)) then (some 3) else (forK (fun (i6:Nat) (x6:GV) (s6:Unit) next_6=>(bindK (m_value_Validate x6) fun v8=>(bif (v8 != 0) then (some v8) else (bif (x6.kind == 0) then (getK t.cols (i6:Int) fun x11=>(bif !x11.nullable then (some 8) else (bif (x6.kind != 0) then (bif (x6.kind != x11.kind) then (some 7) else (next_6 ())) else (next_6 ())))) else (bif (x6.kind != 0) then (getK t.cols (i6:Int) fun x16=>(bif (x6.kind != x16.kind) then (some 7) else (next_6 ()))) else (next_6 ())))))) (fun (s6:Unit)=>(some 0)) row 0 ()))
theorem c_instance_ConformsRow (t:Tbl) (row:List GV) (r:Int) (hm:Is (m_instance_ConformsRow t row) r):PSpec Tryz.prog 61 [.agg t.enc,.one (.d (.sl (row.map GV.enc)))] (.one (.d (.int .i64 r))):=by
 unfold m_instance_ConformsRow at hm
 refine PSpec.of_vc Tryz.func61 rfl (by kernel_rfl) (n:=53) rfl rfl (by simp) ?_
 try simp[*]
 intro hl2
 replace hl2:row.length≤2097152:=by simpa using hl2
 intro hl3
 replace hl3:t.cols.length≤2097152:=by simpa using hl3
 refine r_cond hm ?_ ?_<;>clear hm<;>intro hc4 hm
 ·try simp[*]
  obtain rfl:=r_ret hm
  exact ret0 (vs:=[_]) (by simp[*];try exact rfl) (by simp[*])
 ·try simp[*]
  refine Wait.for (xs:=row) (s0:=()) (fun i6 s6 e6 h6=>e6.n=53∧e6.get 2=.one (.ptr (0,32) 0)∧e6.get 14=.one (.d (.sl (row.map GV.enc)))∧e6.get 15=.one (.d (.int .i64 (row.length:Int)))∧e6.get 16=.one (.d (.int .i64 (i6:Int)))∧h6.box (0,32)=some [.d (.str t.name),.d (.sl (t.cols.map Col.enc)),.d (.sl (t.pk.map encI))]) hm (by simp[*]) ?_ ?_
  ·rintro i6 s6 e6 h6 ⟨hn6,h6_2,h6_14,h6_15,h6_16,hb6_b1⟩ hlt6 hm
   have hw6:IntKind.i64.wrap ((i6:Int)+1)=(i6:Int)+1:=IntWalk.i64_in _ (by omega)
   try simp[*]
   refine r_call (av:=[.agg (row[i6]).enc]) hm (fun v hv=>c_value_Validate _ v hv) (by simp[*]) ?_
   clear hm;intro v8 hvv8 hm
   try simp[*]
   refine r_cond hm ?_ ?_<;>clear hm<;>intro hc9 hm
   ·try simp[*]
    obtain rfl:=r_ret hm
    exact ret0 (vs:=[_]) (by simp[*];try exact rfl) (by simp[*])
   ·try simp[*]
    refine r_guardT hm ?_ ?_<;>clear hm<;>intro hc10 hm
    ·try simp[*]
     replace hm:=hm.getN
     obtain⟨x11,hxx11,hm⟩:=hm
     try simp[*]
     refine r_cond hm ?_ ?_<;>clear hm<;>intro hc12 hm
     ·try simp[*]
      obtain rfl:=r_ret hm
      exact ret0 (vs:=[_]) (by simp[*];try exact rfl) (by simp[*])
     ·try simp[*]
      refine Wait.of (SWP.draw (Plan.then_ [0,1,2,3,4,5,6,7,8,9,10,11,12,13] .done) follows (by kernel_rfl) ?_)
      try simp[*,Plan.then_,vcPlan,planOps,isCallAt,callKind]
      refine r_guardT hm ?_ ?_<;>clear hm<;>intro hc13 hm
      ·try simp[*,Plan.then_,vcPlan,planOps,isCallAt,callKind]
       refine r_cond hm ?_ ?_<;>clear hm<;>intro hc14 hm
       ·try simp[*]
        obtain rfl:=r_ret hm
        exact ret0 (vs:=[_]) (by simp[*];try exact rfl) (by simp[*])
       ·try simp[*]
        exact BackF.of () ⟨(by simp[*]),hm⟩
      ·try simp[*,Plan.then_,vcPlan,planOps,isCallAt,callKind]
       exact BackF.of () ⟨(by simp[*]),hm⟩
    ·try simp[*]
     refine Wait.of (SWP.draw (Plan.then_ [0,1,2,3,4,5,6,7,8,9,10,11,12,13] .done) follows (by kernel_rfl) ?_)
     try simp[*,Plan.then_,vcPlan,planOps,isCallAt,callKind]
     refine r_guardT hm ?_ ?_<;>clear hm<;>intro hc15 hm
     ·try simp[*,Plan.then_,vcPlan,planOps,isCallAt,callKind]
      replace hm:=hm.getN
      obtain⟨x16,hxx16,hm⟩:=hm
      try simp[*,Plan.then_,vcPlan,planOps,isCallAt,callKind]
      refine r_cond hm ?_ ?_<;>clear hm<;>intro hc17 hm
      ·try simp[*]
       obtain rfl:=r_ret hm
       exact ret0 (vs:=[_]) (by simp[*];try exact rfl) (by simp[*])
      ·try simp[*]
       exact BackF.of () ⟨(by simp[*]),hm⟩
     ·try simp[*,Plan.then_,vcPlan,planOps,isCallAt,callKind]
      exact BackF.of () ⟨(by simp[*]),hm⟩
  ·rintro s6 e6 h6 ⟨hn6,h6_2,h6_14,h6_15,h6_16,hb6_b1⟩ hm
   try simp[*]
   obtain rfl:=r_ret hm
   exact ret0 (vs:=[_]) (by simp[*];try exact rfl) (by simp[*])
def m_value_CompareRows (a:List GV) (b:List GV):Option Int:=
 (countK (fun (i3:Nat) (s3:Unit) next_3=>(getK a (i3:Int) fun x4=>(getK b (i3:Int) fun x5=>(bindK (m_value_Compare x4 x5) fun v6=>(bif (v6 != 0) then (some v6) else (chkK (okI ((i3:Int)+1)) (next_3 ()))))))) (fun (s3:Unit)=>(bindK (m_value_compareInts (a.length:Int) (b.length:Int)) fun v11=>(some v11))) (Int.toNat (if (b.length:Int) < (a.length:Int) then (b.length:Int) else (a.length:Int))) 0 ())
theorem c_value_CompareRows (a:List GV) (b:List GV) (r:Int) (hm:Is (m_value_CompareRows a b) r):PSpec Tryz.prog 62 [.one (.d (.sl (a.map GV.enc))),.one (.d (.sl (b.map GV.enc)))] (.one (.d (.int .i64 r))):=by
 unfold m_value_CompareRows at hm
 refine PSpec.of_vc Tryz.func62 rfl (by kernel_rfl) (n:=33) rfl rfl (by simp) ?_
 try simp[*]
 intro hl1
 replace hl1:a.length≤2097152:=by simpa using hl1
 intro hl2
 replace hl2:b.length≤2097152:=by simpa using hl2
 refine Wait.count (N:=(if (b.length:Int) < (a.length:Int) then (b.length:Int) else (a.length:Int))) (s0:=()) (fun i3 s3 e3 h3=>e3.n=33∧e3.get 0=.one (.d (.sl (a.map GV.enc)))∧e3.get 1=.one (.d (.sl (b.map GV.enc)))∧e3.get 11=.one (.d (.int .i64 (if (b.length:Int) < (a.length:Int) then (b.length:Int) else (a.length:Int))))∧e3.get 12=.one (.d (.int .i64 (i3:Int)))) hm (by simp[*]) ?_ ?_
 ·rintro i3 s3 e3 h3 ⟨hn3,h3_0,h3_1,h3_11,h3_12⟩ hlt3 hm
  try simp[*]
  try (refine condV_dec (fun _=>?_) (fun hn=>(hn (by first | omega | (simp at hlt3 ⊢;omega) | (simp at hlt3 ⊢;split at hlt3<;>split<;>omega))).elim);simp[*])
  refine Wait.of (SWP.draw (Plan.then_ [0,1,2,3,4,5,6,7,8,9] .done) follows (by kernel_rfl) ?_)
  try simp[*,Plan.then_,vcPlan,planOps,isCallAt,callKind]
  replace hm:=hm.getN
  obtain⟨x4,hxx4,hm⟩:=hm
  try simp[*,Plan.then_,vcPlan,planOps,isCallAt,callKind]
  replace hm:=hm.getN
  obtain⟨x5,hxx5,hm⟩:=hm
  try simp[*,Plan.then_,vcPlan,planOps,isCallAt,callKind]
  refine r_call (av:=[.agg x4.enc,.agg x5.enc]) hm (fun v hv=>c_value_Compare _ _ v hv) (by simp[*]) ?_
  clear hm;intro v6 hvv6 hm
  try simp[*,Plan.then_,vcPlan,planOps,isCallAt,callKind]
  try refine⟨fun (_:Lab) (_:List C) hl=>hl,?_⟩
  refine r_cond hm ?_ ?_<;>clear hm<;>intro hc7 hm
  ·try simp[*]
   obtain rfl:=r_ret hm
   exact ret0 (vs:=[_]) (by simp[*];try exact rfl) (by simp[*])
  ·try simp[*]
   replace hm:=hm.chk
   obtain⟨hw8,hm⟩:=hm
   replace hw8:=wrap_ok hw8
   try simp[*]
   exact BackF.of () ⟨(by simp[*]),hm⟩
 ·rintro i3 s3 e3 h3 ⟨hn3,h3_0,h3_1,h3_11,h3_12⟩ hge3 hm
  try simp[*]
  try (refine condV_dec (fun hn=>((by first | omega | (simp at hge3 hn;omega) | (simp at hge3 hn;split at hge3<;>split at hn<;>omega)):False).elim) (fun _=>?_);simp[*])
  refine r_call (av:=[.one (.d (.int .i64 (a.length:Int))),.one (.d (.int .i64 (b.length:Int)))]) hm (fun v hv=>c_value_compareInts _ _ v hv) (by simp[*]) ?_
  clear hm;intro v11 hvv11 hm
  try simp[*]
  obtain rfl:=r_ret hm
  exact ret0 (vs:=[_]) (by simp[*];try exact rfl) (by simp[*])
def m_relation_Key (t:Tbl) (row:List GV):Option ((List GV)):=
 (forK (fun (i3:Nat) (x3:Int) (s3:(List GV)) next_3=>(bif decide (0≤x3) then (bif decide (x3 < (row.length:Int)) then (getK row x3 fun x8=>(appK2 s3 [x8] fun _=>(next_3 (s3++[x8])))) else (appK2 s3 [(GV.mk 0 0 ByteArray.empty)] fun _=>(next_3 (s3++[(GV.mk 0 0 ByteArray.empty)])))) else (appK2 s3 [(GV.mk 0 0 ByteArray.empty)] fun _=>(next_3 (s3++[(GV.mk 0 0 ByteArray.empty)]))))) (fun (s3:(List GV))=>(some s3)) t.pk 0 [])
theorem c_relation_Key (t:Tbl) (row:List GV) (r:(List GV)) (hm:Is (m_relation_Key t row) r):PSpec Tryz.prog 63 [.agg t.enc,.one (.d (.sl (row.map GV.enc)))] (.one (.fresh 0 3 (r.map GV.enc))):=by
 unfold m_relation_Key at hm
 refine PSpec.of_vc Tryz.func63 rfl (by kernel_rfl) (n:=35) rfl rfl (by simp) ?_
 try simp[*]
 intro hl2
 replace hl2:t.pk.length≤2097152:=by simpa using hl2
 refine Wait.for (xs:=t.pk) (s0:=[]) (fun i3 s3 e3 h3=>∃ c3_0:C,e3.n=35∧e3.get 1=.one (.d (.sl (row.map GV.enc)))∧e3.get 5=.one c3_0∧e3.get 10=.one (.d (.sl (t.pk.map encI)))∧e3.get 11=.one (.d (.int .i64 (t.pk.length:Int)))∧e3.get 12=.one (.d (.int .i64 (i3:Int)))∧Grows h3 3 c3_0 (s3.map GV.enc)) hm ⟨.nil,by simp (maxDischargeDepth:=20) [*]⟩ ?_ ?_
 ·rintro i3 s3 e3 h3 ⟨c3_0,hn3,h3_1,h3_5,h3_10,h3_11,h3_12,gc3_0⟩ hlt3 hm
  have hlc3_0:=gc3_0.list
  have hdc3_0:=gc3_0.toD
  have hac3_0:=gc3_0.toA
  have huc3_0:=gc3_0.useUp_arr
  have hw3:IntKind.i64.wrap ((i3:Int)+1)=(i3:Int)+1:=IntWalk.i64_in _ (by omega)
  try simp[*]
  refine r_guardT hm ?_ ?_<;>clear hm<;>intro hc5 hm
  ·try simp[*]
   intro hl6
   replace hl6:row.length≤2097152:=by simpa using hl6
   refine r_cond hm ?_ ?_<;>clear hm<;>intro hc7 hm
   ·try simp[*]
    replace hm:=hm.get
    obtain⟨x8,h0x8,hxx8,hm⟩:=hm
    try simp[*]
    refine r_app (xs:=s3) (ys:=[x8]) (enc:=GV.enc) hm ty_el79 (by first | exact Grows.nil | (simp (maxDischargeDepth:=20) [*];done) | (simp (maxDischargeDepth:=20) [*];refine⟨?_,by omega⟩;intro hq;subst hq;simp at hz2<;>omega)) (by simp[*]) (by decide) (by decide) (fun _=>rfl) ?_
    clear hm;intro hl10 hm g9
    try simp[*]
    exact BackF.of (s3++[x8]) ⟨⟨.own (h3.ep+2,512) ((s3++[x8]).map GV.enc),by simp (maxDischargeDepth:=20) [*]⟩,hm⟩
   ·try simp[*]
    refine r_app (xs:=s3) (ys:=[(GV.mk 0 0 ByteArray.empty)]) (enc:=GV.enc) hm ty_el79 (by first | exact Grows.nil | (simp (maxDischargeDepth:=20) [*];done) | (simp (maxDischargeDepth:=20) [*];refine⟨?_,by omega⟩;intro hq;subst hq;simp at hz2<;>omega)) (by simp[*]) (by decide) (by decide) (fun _=>rfl) ?_
    clear hm;intro hl12 hm g11
    try simp[*]
    exact BackF.of (s3++[(GV.mk 0 0 ByteArray.empty)]) ⟨⟨.own (h3.ep+2,512) ((s3++[(GV.mk 0 0 ByteArray.empty)]).map GV.enc),by simp (maxDischargeDepth:=20) [*]⟩,hm⟩
  ·try simp[*]
   refine r_app (xs:=s3) (ys:=[(GV.mk 0 0 ByteArray.empty)]) (enc:=GV.enc) hm ty_el79 (by first | exact Grows.nil | (simp (maxDischargeDepth:=20) [*];done) | (simp (maxDischargeDepth:=20) [*];refine⟨?_,by omega⟩;intro hq;subst hq;simp at hz2<;>omega)) (by simp[*]) (by decide) (by decide) (fun _=>rfl) ?_
   clear hm;intro hl14 hm g13
   try simp[*]
   exact BackF.of (s3++[(GV.mk 0 0 ByteArray.empty)]) ⟨⟨.own (h3.ep+2,512) ((s3++[(GV.mk 0 0 ByteArray.empty)]).map GV.enc),by simp (maxDischargeDepth:=20) [*]⟩,hm⟩
 ·rintro s3 e3 h3 ⟨c3_0,hn3,h3_1,h3_5,h3_10,h3_11,h3_12,gc3_0⟩ hm
  have hlc3_0:=gc3_0.list
  have hdc3_0:=gc3_0.toD
  have hac3_0:=gc3_0.toA
  have huc3_0:=gc3_0.useUp_arr
  try simp[*]
  obtain rfl:=r_ret hm
  exact ret_growsV (by first | (simp (maxDischargeDepth:=20) [*,GrowsV];done) | exact⟨_,by simp[*];rfl,(by first | exact Grows.nil | (simp (maxDischargeDepth:=20) [*];done) | (simp (maxDischargeDepth:=20) [*];refine⟨?_,by omega⟩;intro hq;subst hq;simp at hz2<;>omega))⟩)
def m_instance_Conforms (s_:Sch) (inst:List Rel):Option Int:=
 (bif ((inst.length:Int) != (s_.tables.length:Int)) then (some 3) else (forK (fun (i6:Nat) (x6:Rel) (s6:Unit) next_6=>(getK s_.tables (i6:Int) fun x8=>(bif !(strEq x6.table x8.name) then (some 3) else (bif decide (24 < (x6.rows.length:Int)) then (some 2) else (forK (fun (i14:Nat) (x14:List GV) (s14:Unit) next_14=>(bindK (m_instance_ConformsRow x8 x14) fun v15=>(bif (v15 != 0) then (some v15) else (bif ((i14:Int) == 0) then (next_14 ()) else (chkK (okI ((i14:Int) - 1)) (getK x6.rows ((i14:Int) - 1) fun x19=>(bindK (m_relation_Key x8 x19) fun v20=>(bindK (m_relation_Key x8 x14) fun v21=>(bindK (m_value_CompareRows v20 v21) fun v22=>(bif (v22 == 0) then (some 9) else (bif decide (0 < v22) then (some 6) else (next_14 ())))))))))))) (fun (s14:Unit)=>(next_6 ())) x6.rows 0 ()))))) (fun (s6:Unit)=>(some 0)) inst 0 ()))
theorem c_instance_Conforms (s_:Sch) (inst:List Rel) (r:Int) (hm:Is (m_instance_Conforms s_ inst) r):PSpec Tryz.prog 23 [.agg s_.enc,.one (.d (.sl (inst.map Rel.enc)))] (.one (.d (.int .i64 r))):=by
 unfold m_instance_Conforms at hm
 refine PSpec.of_vc Tryz.func23 rfl (by kernel_rfl) (n:=75) rfl rfl (by simp) ?_
 try simp[*]
 intro hl2
 replace hl2:inst.length≤2097152:=by simpa using hl2
 intro hl3
 replace hl3:s_.tables.length≤2097152:=by simpa using hl3
 refine r_cond hm ?_ ?_<;>clear hm<;>intro hc4 hm
 ·try simp[*]
  obtain rfl:=r_ret hm
  exact ret0 (vs:=[_]) (by simp[*];try exact rfl) (by simp[*])
 ·try simp[*]
  refine Wait.for (xs:=inst) (s0:=()) (fun i6 s6 e6 h6=>e6.n=75∧e6.get 2=.one (.ptr (0,32) 0)∧e6.get 18=.one (.d (.sl (inst.map Rel.enc)))∧e6.get 19=.one (.d (.int .i64 (inst.length:Int)))∧e6.get 20=.one (.d (.int .i64 (i6:Int)))∧h6.box (0,32)=some [.d (.sl (s_.tables.map Tbl.enc)),.d (.sl (s_.fks.map Fk.enc)),.d (.sl (s_.cons.map Cons.enc))]) hm (by simp[*]) ?_ ?_
  ·rintro i6 s6 e6 h6 ⟨hn6,h6_2,h6_18,h6_19,h6_20,hb6_b1⟩ hlt6 hm
   have hw6:IntKind.i64.wrap ((i6:Int)+1)=(i6:Int)+1:=IntWalk.i64_in _ (by omega)
   try simp[*]
   replace hm:=hm.getN
   obtain⟨x8,hxx8,hm⟩:=hm
   try simp[*]
   refine r_cond hm ?_ ?_<;>clear hm<;>intro hc10 hm
   ·try simp[*]
    obtain rfl:=r_ret hm
    exact ret0 (vs:=[_]) (by simp[*];try exact rfl) (by simp[*])
   ·try simp[*]
    intro hl11
    replace hl11:inst[i6].rows.length≤2097152:=by simpa using hl11
    refine r_cond hm ?_ ?_<;>clear hm<;>intro hc12 hm
    ·try simp[*]
     obtain rfl:=r_ret hm
     exact ret0 (vs:=[_]) (by simp[*];try exact rfl) (by simp[*])
    ·try simp[*]
     refine Wait.for (xs:=inst[i6].rows) (s0:=()) (fun i14 s14 e14 h14=>e14.n=75∧e14.get 2=.one (.ptr (0,32) 0)∧e14.get 6=.one (.ptr (h6.ep,96) 0)∧e14.get 7=.one (.ptr (h6.ep+1,112) 0)∧e14.get 18=.one (.d (.sl (inst.map Rel.enc)))∧e14.get 19=.one (.d (.int .i64 (inst.length:Int)))∧e14.get 20=.one (.d (.int .i64 (i6:Int)))∧e14.get 40=.one (.d (.sl (inst[i6].rows.map (encL GV.enc))))∧e14.get 41=.one (.d (.int .i64 (inst[i6].rows.length:Int)))∧e14.get 42=.one (.d (.int .i64 (i14:Int)))∧h14.box (0,32)=some [.d (.sl (s_.tables.map Tbl.enc)),.d (.sl (s_.fks.map Fk.enc)),.d (.sl (s_.cons.map Cons.enc))]∧h14.box (h6.ep,96)=some [.d (.str inst[i6].table),.d (.sl (inst[i6].rows.map (encL GV.enc)))]∧h14.box (h6.ep+1,112)=some [.d (.str x8.name),.d (.sl (x8.cols.map Col.enc)),.d (.sl (x8.pk.map encI))]) hm (by simp[*]) ?_ ?_
     ·rintro i14 s14 e14 h14 ⟨hn14,h14_2,h14_6,h14_7,h14_18,h14_19,h14_20,h14_40,h14_41,h14_42,hb14_b1,hb14_b7,hb14_b9⟩ hlt14 hm
      have hw14:IntKind.i64.wrap ((i14:Int)+1)=(i14:Int)+1:=IntWalk.i64_in _ (by omega)
      try simp[*]
      refine r_call (av:=[.agg x8.enc,.one (.d (.sl ((inst[i6].rows[i14]).map GV.enc)))]) hm (fun v hv=>c_instance_ConformsRow _ _ v hv) (by simp[*]) ?_
      clear hm;intro v15 hvv15 hm
      try simp[*]
      refine r_cond hm ?_ ?_<;>clear hm<;>intro hc16 hm
      ·try simp[*]
       obtain rfl:=r_ret hm
       exact ret0 (vs:=[_]) (by simp[*];try exact rfl) (by simp[*])
      ·try simp[*]
       refine r_cond hm ?_ ?_<;>clear hm<;>intro hc17 hm
       ·try simp[*]
        exact BackF.of () ⟨(by simp[*]),hm⟩
       ·try simp[*]
        refine Wait.of (SWP.draw (Plan.then_ [0,1,2,3,4,5,6,8,9,7,10,11,12] .done) follows (by kernel_rfl) ?_)
        try simp[*,Plan.then_,vcPlan,planOps,isCallAt,callKind]
        replace hm:=hm.chk
        obtain⟨hw18,hm⟩:=hm
        replace hw18:=wrap_ok hw18
        try simp[*,Plan.then_,vcPlan,planOps,isCallAt,callKind]
        replace hm:=hm.get
        obtain⟨x19,h0x19,hxx19,hm⟩:=hm
        try simp at h0x19
        try simp at hxx19
        try simp[*,Plan.then_,vcPlan,planOps,isCallAt,callKind]
        refine r_call (av:=[.agg x8.enc,.one (.d (.sl (x19.map GV.enc)))]) hm (fun v hv=>c_relation_Key _ _ v hv) (by simp[*]) ?_
        clear hm;intro v20 hvv20 hm
        try simp[*,Plan.then_,vcPlan,planOps,isCallAt,callKind]
        try refine⟨fun (_:Lab) (_:List C) hl=>hl,?_⟩
        refine r_call (av:=[.agg x8.enc,.one (.d (.sl ((inst[i6].rows[i14]).map GV.enc)))]) hm (fun v hv=>c_relation_Key _ _ v hv) (by simp[*]) ?_
        clear hm;intro v21 hvv21 hm
        try simp[*,Plan.then_,vcPlan,planOps,isCallAt,callKind]
        try refine⟨fun (_:Lab) (_:List C) hl=>hl,?_⟩
        refine r_call (av:=[.one (.d (.sl (v20.map GV.enc))),.one (.d (.sl (v21.map GV.enc)))]) hm (fun v hv=>c_value_CompareRows _ _ v hv) (by simp[*]) ?_
        clear hm;intro v22 hvv22 hm
        try simp[*,Plan.then_,vcPlan,planOps,isCallAt,callKind]
        try refine⟨fun (_:Lab) (_:List C) hl=>hl,?_⟩
        refine r_cond hm ?_ ?_<;>clear hm<;>intro hc23 hm
        ·try simp[*]
         obtain rfl:=r_ret hm
         exact ret0 (vs:=[_]) (by simp[*];try exact rfl) (by simp[*])
        ·try simp[*]
         refine r_cond hm ?_ ?_<;>clear hm<;>intro hc24 hm
         ·try simp[*]
          obtain rfl:=r_ret hm
          exact ret0 (vs:=[_]) (by simp[*];try exact rfl) (by simp[*])
         ·try simp[*]
          exact BackF.of () ⟨(by simp[*]),hm⟩
     ·rintro s14 e14 h14 ⟨hn14,h14_2,h14_6,h14_7,h14_18,h14_19,h14_20,h14_40,h14_41,h14_42,hb14_b1,hb14_b7,hb14_b9⟩ hm
      try simp[*]
      exact BackF.of () ⟨(by simp[*]),hm⟩
  ·rintro s6 e6 h6 ⟨hn6,h6_2,h6_18,h6_19,h6_20,hb6_b1⟩ hm
   try simp[*]
   obtain rfl:=r_ret hm
   exact ret0 (vs:=[_]) (by simp[*];try exact rfl) (by simp[*])
def m_access_satisfies (p:Cons) (row:List GV):Option Bool:=
 (bif decide (0≤p.right) then (getK row p.right fun x4=>(getK row p.left fun x5=>(bindK (m_value_Satisfies x5 p.op x4) fun v6=>(some v6.1)))) else (getK row p.left fun x7=>(bindK (m_value_Satisfies x7 p.op p.value) fun v8=>(some v8.1))))
theorem c_access_satisfies (p:Cons) (row:List GV) (r:Bool) (hm:Is (m_access_satisfies p row) r):PSpec Tryz.prog 100 [.agg p.enc,.one (.d (.sl (row.map GV.enc)))] (.one (.d (.bool r))):=by
 unfold m_access_satisfies at hm
 refine PSpec.of_vc Tryz.func100 rfl (by kernel_rfl) (n:=31) rfl rfl (by simp) ?_
 try simp[*]
 refine r_cond hm ?_ ?_<;>clear hm<;>intro hc3 hm
 ·try simp[*]
  replace hm:=hm.get
  obtain⟨x4,h0x4,hxx4,hm⟩:=hm
  try simp[*]
  refine Wait.of (SWP.draw (Plan.then_ [0,1,2,3,4,5,6,7,8,9,10,11,12,13] .done) follows (by kernel_rfl) ?_)
  try simp[*,Plan.then_,vcPlan,planOps,isCallAt,callKind]
  replace hm:=hm.get
  obtain⟨x5,h0x5,hxx5,hm⟩:=hm
  try simp[*,Plan.then_,vcPlan,planOps,isCallAt,callKind]
  refine r_call (av:=[.agg x5.enc,.one (.d (.str p.op)),.agg x4.enc]) hm (fun v hv=>c_value_Satisfies _ _ _ v hv) (by simp[*]) ?_
  clear hm;intro v6 hvv6 hm
  try simp[*,Plan.then_,vcPlan,planOps,isCallAt,callKind]
  try refine⟨fun (_:Lab) (_:List C) hl=>hl,?_⟩
  obtain rfl:=r_ret hm
  exact ret0 (vs:=[_]) (by simp[*];try exact rfl) (by simp[*])
 ·try simp[*]
  refine Wait.of (SWP.draw (Plan.then_ [0,1,2,3,4,5,6,7,8,9,10,11,12,13] .done) follows (by kernel_rfl) ?_)
  try simp[*,Plan.then_,vcPlan,planOps,isCallAt,callKind]
  replace hm:=hm.get
  obtain⟨x7,h0x7,hxx7,hm⟩:=hm
  try simp[*,Plan.then_,vcPlan,planOps,isCallAt,callKind]
  refine r_call (av:=[.agg x7.enc,.one (.d (.str p.op)),.agg p.value.enc]) hm (fun v hv=>c_value_Satisfies _ _ _ v hv) (by simp[*]) ?_
  clear hm;intro v8 hvv8 hm
  try simp[*,Plan.then_,vcPlan,planOps,isCallAt,callKind]
  try refine⟨fun (_:Lab) (_:List C) hl=>hl,?_⟩
  obtain rfl:=r_ret hm
  exact ret0 (vs:=[_]) (by simp[*];try exact rfl) (by simp[*])
def m_access_matches_1 (p:Cons) (k0:List GV):Option Bool:=
 (bindK (m_access_satisfies p k0) fun v2=>(some !v2))
theorem c_access_matches_1 (p:Cons) (k0:List GV) (r:Bool) (hm:Is (m_access_matches_1 p k0) r):PSpec Tryz.prog 99 [.agg p.enc,.one (.rp [.sl (k0.map GV.enc)])] (.one (.d (.bool r))):=by
 unfold m_access_matches_1 at hm
 refine PSpec.of_vc Tryz.func99 rfl (by kernel_rfl) (n:=8) rfl rfl (by simp) ?_
 try simp[*]
 refine r_call (av:=[.agg p.enc,.one (.d (.sl (k0.map GV.enc)))]) hm (fun v hv=>c_access_satisfies _ _ v hv) (by simp[*]) ?_
 clear hm;intro v2 hvv2 hm
 try simp[*]
 obtain rfl:=r_ret hm
 exact ret0 (vs:=[_]) (by simp[*];try exact rfl) (by simp[*])
def m_access_matches (r_:Rule) (row:List GV):Option Bool:=
 (bindK (m_slices_ContainsFunc_Constraint r_.preds (fun xa_=>m_access_matches_1 xa_ row)) fun v3=>(some !v3))
theorem c_access_matches (r_:Rule) (row:List GV) (r:Bool) (hm:Is (m_access_matches r_ row) r):PSpec Tryz.prog 52 [.agg r_.enc,.one (.d (.sl (row.map GV.enc)))] (.one (.d (.bool r))):=by
 unfold m_access_matches at hm
 refine PSpec.of_vc Tryz.func52 rfl (by kernel_rfl) (n:=10) rfl rfl (by simp) ?_
 try simp[*]
 refine r_call (av:=[.one (.d (.sl (r_.preds.map Cons.enc))),.one (.fn 99 [[.sl (row.map GV.enc)]])]) hm (fun v hv=>c_slices_ContainsFunc_Constraint _ 99 [[.sl (row.map GV.enc)]] _ (fun xa_ v hv=>c_access_matches_1 xa_ _ v hv) v hv) (by simp[*]) ?_
 clear hm;intro v3 hvv3 hm
 try simp[*]
 obtain rfl:=r_ret hm
 exact ret0 (vs:=[_]) (by simp[*];try exact rfl) (by simp[*])
def m_access_project (row:List GV) (columns:List Int):Option ((List GV)):=
 (forK (fun (i2:Nat) (x2:Int) (s2:(List GV)) next_2=>(getK row x2 fun x3=>(appK2 s2 [x3] fun _=>(next_2 (s2++[x3]))))) (fun (s2:(List GV))=>(some s2)) columns 0 [])
theorem c_access_project (row:List GV) (columns:List Int) (r:(List GV)) (hm:Is (m_access_project row columns) r):PSpec Tryz.prog 53 [.one (.d (.sl (row.map GV.enc))),.one (.d (.sl (columns.map encI)))] (.one (.d (.sl (r.map GV.enc)))):=by
 unfold m_access_project at hm
 refine PSpec.of_vc Tryz.func53 rfl (by kernel_rfl) (n:=23) rfl rfl (by simp) ?_
 try simp[*]
 intro hl1
 replace hl1:columns.length≤2097152:=by simpa using hl1
 refine Wait.for (xs:=columns) (s0:=[]) (fun i2 s2 e2 h2=>∃ c2_0:C,e2.n=23∧e2.get 0=.one (.d (.sl (row.map GV.enc)))∧e2.get 5=.one c2_0∧e2.get 8=.one (.d (.sl (columns.map encI)))∧e2.get 9=.one (.d (.int .i64 (columns.length:Int)))∧e2.get 10=.one (.d (.int .i64 (i2:Int)))∧Grows h2 3 c2_0 (s2.map GV.enc)) hm ⟨.nil,by simp (maxDischargeDepth:=20) [*]⟩ ?_ ?_
 ·rintro i2 s2 e2 h2 ⟨c2_0,hn2,h2_0,h2_5,h2_8,h2_9,h2_10,gc2_0⟩ hlt2 hm
  have hlc2_0:=gc2_0.list
  have hdc2_0:=gc2_0.toD
  have hac2_0:=gc2_0.toA
  have huc2_0:=gc2_0.useUp_arr
  have hw2:IntKind.i64.wrap ((i2:Int)+1)=(i2:Int)+1:=IntWalk.i64_in _ (by omega)
  try simp[*]
  replace hm:=hm.get
  obtain⟨x3,h0x3,hxx3,hm⟩:=hm
  try simp[*]
  refine r_app (xs:=s2) (ys:=[x3]) (enc:=GV.enc) hm ty_el79 (by first | exact Grows.nil | (simp (maxDischargeDepth:=20) [*];done) | (simp (maxDischargeDepth:=20) [*];refine⟨?_,by omega⟩;intro hq;subst hq;simp at hz2<;>omega)) (by simp[*]) (by decide) (by decide) (fun _=>rfl) ?_
  clear hm;intro hl5 hm g4
  try simp[*]
  exact BackF.of (s2++[x3]) ⟨⟨.own (h2.ep+1,320) ((s2++[x3]).map GV.enc),by simp (maxDischargeDepth:=20) [*]⟩,hm⟩
 ·rintro s2 e2 h2 ⟨c2_0,hn2,h2_0,h2_5,h2_8,h2_9,h2_10,gc2_0⟩ hm
  have hlc2_0:=gc2_0.list
  have hdc2_0:=gc2_0.toD
  have hac2_0:=gc2_0.toA
  have huc2_0:=gc2_0.useUp_arr
  try simp[*]
  obtain rfl:=r_ret hm
  exact ret0 (vs:=[_]) (by simp[*];try exact rfl) (by simp[*])
def m_access_Visible (g_:Gr) (rules:List Rule) (user:ByteArray) (v_:Int) (inst:List Rel) (table:ByteArray):Option ((List (List GV)) × (List Int) × Int):=
 (bindK (m_access_Validate g_ rules) fun v2=>(bif (v2 != 0) then (some ([],[],v2)) else (bindK (m_versions_Schema g_ v_) fun v4=>(bif (v4.2 != 0) then (some ([],[],v4.2)) else (bindK (m_instance_Conforms v4.1 inst) fun v7=>(bif (v7 != 0) then (some ([],[],v7)) else (bindK (m_access_lookup rules user v_ table) fun v9=>(bif !v9.2 then (some ([],[],17)) else (bindK (m_schema_FindTable v4.1 table) fun v12=>(getK v4.1.tables v12.1 fun x13=>(bindK (m_access_visibleColumns x13 v9.1) fun v14=>(getK inst v12.1 fun x15=>(forK (fun (i17:Nat) (x17:List GV) (s17:(List (List GV))) next_17=>(bindK (m_access_matches v9.1 x17) fun v18=>(bif v18 then (bindK (m_access_project x17 v14) fun v20=>(appK2 s17 [v20] fun _=>(next_17 (s17++[v20])))) else (next_17 s17)))) (fun (s17:(List (List GV)))=>(some (s17,v14,0))) x15.rows 0 [])))))))))))))
theorem c_access_Visible (g_:Gr) (rules:List Rule) (user:ByteArray) (v_:Int) (inst:List Rel) (table:ByteArray) (r:(List (List GV)) × (List Int) × Int) (hm:Is (m_access_Visible g_ rules user v_ inst table) r):PSpec Tryz.prog 17 [.agg g_.enc,.one (.d (.sl (rules.map Rule.enc))),.one (.d (.str user)),.one (.d (.int .i64 v_)),.one (.d (.sl (inst.map Rel.enc))),.one (.d (.str table))] (.tup [.one (.d (.sl (r.1.map (encL GV.enc)))),.one (.d (.sl (r.2.1.map encI))),.one (.d (.int .i64 r.2.2))]):=by
 unfold m_access_Visible at hm
 refine PSpec.of_vc Tryz.func17 rfl (by kernel_rfl) (n:=93) rfl rfl (by simp) ?_
 try simp[*]
 refine r_call (av:=[.agg g_.enc,.one (.d (.sl (rules.map Rule.enc)))]) hm (fun v hv=>c_access_Validate _ _ v hv) (by simp[*]) ?_
 clear hm;intro v2 hvv2 hm
 try simp[*]
 refine r_cond hm ?_ ?_<;>clear hm<;>intro hc3 hm
 ·try simp[*]
  obtain rfl:=r_ret hm
  exact ret0 (vs:=[_,_,_]) (by simp[*];try exact⟨rfl,rfl,rfl⟩) (by simp[*])
 ·try simp[*]
  refine r_call (av:=[.agg g_.enc,.one (.d (.int .i64 v_))]) hm (fun v hv=>c_versions_Schema _ _ v hv) (by simp[*]) ?_
  clear hm;intro v4 hvv4 hm
  try simp[*]
  refine r_cond hm ?_ ?_<;>clear hm<;>intro hc6 hm
  ·try simp[*]
   obtain rfl:=r_ret hm
   exact ret0 (vs:=[_,_,_]) (by simp[*];try exact⟨rfl,rfl,rfl⟩) (by simp[*])
  ·try simp[*]
   refine r_call (av:=[.agg v4.1.enc,.one (.d (.sl (inst.map Rel.enc)))]) hm (fun v hv=>c_instance_Conforms _ _ v hv) (by simp[*]) ?_
   clear hm;intro v7 hvv7 hm
   try simp[*]
   refine r_cond hm ?_ ?_<;>clear hm<;>intro hc8 hm
   ·try simp[*]
    obtain rfl:=r_ret hm
    exact ret0 (vs:=[_,_,_]) (by simp[*];try exact⟨rfl,rfl,rfl⟩) (by simp[*])
   ·try simp[*]
    refine r_call (av:=[.one (.d (.sl (rules.map Rule.enc))),.one (.d (.str user)),.one (.d (.int .i64 v_)),.one (.d (.str table))]) hm (fun v hv=>c_access_lookup _ _ _ _ v hv) (by simp[*]) ?_
    clear hm;intro v9 hvv9 hm
    try simp[*]
    refine r_cond hm ?_ ?_<;>clear hm<;>intro hc11 hm
    ·try simp[*]
     obtain rfl:=r_ret hm
     exact ret0 (vs:=[_,_,_]) (by simp[*];try exact⟨rfl,rfl,rfl⟩) (by simp[*])
    ·try simp[*]
     refine r_call (av:=[.agg v4.1.enc,.one (.d (.str table))]) hm (fun v hv=>c_schema_FindTable _ _ v hv) (by simp[*]) ?_
     clear hm;intro v12 hvv12 hm
     try simp[*]
     refine Wait.of (SWP.draw (Plan.then_ [0,1,2,3,4,5,6,7] .done) follows (by kernel_rfl) ?_)
     try simp[*,Plan.then_,vcPlan,planOps,isCallAt,callKind]
     replace hm:=hm.get
     obtain⟨x13,h0x13,hxx13,hm⟩:=hm
     try simp[*,Plan.then_,vcPlan,planOps,isCallAt,callKind]
     refine r_call (av:=[.agg x13.enc,.agg v9.1.enc]) hm (fun v hv=>c_access_visibleColumns _ _ v hv) (by simp[*]) ?_
     clear hm;intro v14 hvv14 hm
     try simp[*,Plan.then_,vcPlan,planOps,isCallAt,callKind]
     try refine⟨fun (_:Lab) (_:List C) hl=>hl,?_⟩
     replace hm:=hm.get
     obtain⟨x15,h0x15,hxx15,hm⟩:=hm
     try simp[*]
     intro hl16
     replace hl16:x15.rows.length≤2097152:=by simpa using hl16
     refine Wait.for (xs:=x15.rows) (s0:=[]) (fun i17 s17 e17 h17=>∃ c17_0:C,e17.n=93∧e17.get 19=.one (.ptr (6,304) 0)∧e17.get 23=.one (.d (.sl (v14.map encI)))∧e17.get 24=.one c17_0∧e17.get 75=.one (.d (.sl (x15.rows.map (encL GV.enc))))∧e17.get 76=.one (.d (.int .i64 (x15.rows.length:Int)))∧e17.get 77=.one (.d (.int .i64 (i17:Int)))∧h17.box (6,304)=some [.d (.str v9.1.user),.d (.int .i64 v9.1.version),.d (.str v9.1.table),.d (.sl (v9.1.cols.map encI)),.d (.sl (v9.1.preds.map Cons.enc)),.d (.bool v9.1.write)]∧Grows h17 1 c17_0 (s17.map (encL GV.enc))) hm ⟨.nil,by simp (maxDischargeDepth:=20) [*]⟩ ?_ ?_
     ·rintro i17 s17 e17 h17 ⟨c17_0,hn17,h17_19,h17_23,h17_24,h17_75,h17_76,h17_77,hb17_b10,gc17_0⟩ hlt17 hm
      have hlc17_0:=gc17_0.list
      have hdc17_0:=gc17_0.toD
      have hac17_0:=gc17_0.toA
      have huc17_0:=gc17_0.useUp_arr
      have hw17:IntKind.i64.wrap ((i17:Int)+1)=(i17:Int)+1:=IntWalk.i64_in _ (by omega)
      try simp[*]
      refine r_call (av:=[.agg v9.1.enc,.one (.d (.sl ((x15.rows[i17]).map GV.enc)))]) hm (fun v hv=>c_access_matches _ _ v hv) (by simp[*]) ?_
      clear hm;intro v18 hvv18 hm
      try simp[*]
      refine r_cond hm ?_ ?_<;>clear hm<;>intro hc19 hm
      ·try simp[*]
       refine r_call (av:=[.one (.d (.sl ((x15.rows[i17]).map GV.enc))),.one (.d (.sl (v14.map encI)))]) hm (fun v hv=>c_access_project _ _ v hv) (by simp[*]) ?_
       clear hm;intro v20 hvv20 hm
       try simp[*]
       refine r_app (xs:=s17) (ys:=[v20]) (enc:=(encL GV.enc)) hm ty_el52 (by first | exact Grows.nil | (simp (maxDischargeDepth:=20) [*];done) | (simp (maxDischargeDepth:=20) [*];refine⟨?_,by omega⟩;intro hq;subst hq;simp at hz2<;>omega)) (by simp[*]) (by decide) (by decide) (fun _=>rfl) ?_
       clear hm;intro hl22 hm g21
       try simp[*]
       exact BackF.of (s17++[v20]) ⟨⟨.own (h17.ep+3,1424) ((s17++[v20]).map (encL GV.enc)),by simp (maxDischargeDepth:=20) [*]⟩,hm⟩
      ·try simp[*]
       exact BackF.of s17 ⟨⟨c17_0,by simp (maxDischargeDepth:=20) [*]⟩,hm⟩
     ·rintro s17 e17 h17 ⟨c17_0,hn17,h17_19,h17_23,h17_24,h17_75,h17_76,h17_77,hb17_b10,gc17_0⟩ hm
      have hlc17_0:=gc17_0.list
      have hdc17_0:=gc17_0.toD
      have hac17_0:=gc17_0.toA
      have huc17_0:=gc17_0.useUp_arr
      try simp[*]
      obtain rfl:=r_ret hm
      exact ret0 (vs:=[_,_,_]) (by simp[*];try exact⟨rfl,rfl,rfl⟩) (by simp[*])
end Go.Proofs.YthgepknlibmjcaaGreat
end
section
namespace Go.Proofs.YthgepknlibmjcaaGreat
open Go Go.Am
section
variable {α:Type}
def fIdx (p:α→Bool) (xs:List α):Int:=match xs.findIdx? p with
 | some k=>(k:Int)
 | none=>-1
theorem index_at {f:α→Option Bool} {p:α→Bool}:∀ (xs:List α) (i:Nat),(∀ x ∈ xs,f x=some (p x)) →
  forK (fun (i:Nat) (x:α) (s:Unit) next=>bindK (f x) fun v=>bif v then some (i:Int) else next ()) (fun _=>some (-1)) xs i ()=some (match xs.findIdx? p with | some k=>((i+k:Nat):Int) | none=>-1)
 | [],i,_=>rfl
 | x::xs,i,h=>by
   have ih:=index_at xs (i+1) fun y hy=>h y (by simp[hy])
   rw[forK,h x (by simp),List.findIdx?_cons]
   show (bif p x then some (i:Int) else _)=_
   cases hp:p x with
   | true=>simp
   | false=>
     simp only[cond_false,ih]
     cases xs.findIdx? p with
     | none=>simp
     | some k=>
       show some (((i+1+k:Nat):Int))=some (((i+(k+1):Nat):Int))
       rw[show i+1+k=i+(k+1) by omega]
theorem index_eq {f:α→Option Bool} {p:α→Bool} {xs:List α} (h:∀ x ∈ xs,f x=some (p x)) :
  forK (fun (i:Nat) (x:α) (s:Unit) next=>bindK (f x) fun v=>bif v then some (i:Int) else next ()) (fun _=>some (-1)) xs 0 ()=some (fIdx p xs):=by
 rw[index_at xs 0 h]
 unfold fIdx
 cases xs.findIdx? p<;>simp
theorem fIdx_any (p:α→Bool):∀ xs:List α,decide (0≤fIdx p xs)=xs.any p:=by
 intro xs
 unfold fIdx
 cases h:xs.findIdx? p with
 | none=>
   have:=List.findIdx?_eq_none_iff.1 h
   have h2:xs.any p=false:=List.any_eq_false.2 fun x hx=>by simp[this x hx]
   rw[h2];rfl
 | some k=>
   obtain⟨h1,h2,_⟩:=List.findIdx?_eq_some_iff_getElem.1 h
   have h3:xs.any p=true:=List.any_eq_true.2 ⟨_,List.getElem_mem h1,h2⟩
   rw[h3];simp
theorem find_idx (p:α→Bool):∀ xs:List α,(fIdx p xs < 0∧xs.find? p=none)∨(0≤fIdx p xs∧fIdx p xs < xs.length∧∃ x,xs[(fIdx p xs).toNat]?=some x∧xs.find? p=some x):=by
 intro xs
 unfold fIdx
 cases h:xs.findIdx? p with
 | none=>
   refine .inl ⟨by simp,List.find?_eq_none.2 fun x hx=>?_⟩
   simpa using List.findIdx?_eq_none_iff.1 h x hx
 | some k=>
   obtain⟨h1,h2,h3⟩:=List.findIdx?_eq_some_iff_getElem.1 h
   refine .inr ⟨by simp,by simp;omega,xs[k],by simp[h1],?_⟩
   rw[List.find?_eq_some_iff_getElem]
   exact⟨h2,k,h1,rfl,fun j hj=>by simpa using h3 j hj⟩
end
def lkP (u:ByteArray) (v:Int) (t:ByteArray) (r:Rule):Bool:=strEq r.user u && (r.version == v && strEq r.table t)
def lk (rules:List Rule) (u:ByteArray) (v:Int) (t:ByteArray):Option Rule:=rules.find? (lkP u v t)
theorem lookup_1 (r:Rule) (u:ByteArray) (v:Int) (t:ByteArray):m_access_lookup_1 r u v t=some (lkP u v t r):=by
 unfold m_access_lookup_1 lkP
 cases strEq r.user u<;>cases (r.version == v)<;>rfl
theorem lookup_eq (rules:List Rule) (u:ByteArray) (v:Int) (t:ByteArray):m_access_lookup rules u v t=some (match lk rules u v t with | some r=>(r,true) | none=>(Rule.mk ByteArray.empty 0 ByteArray.empty [] [] false,false)):=by
 unfold m_access_lookup m_slices_IndexFunc_Rule
 rw[index_eq (p:=lkP u v t) fun x _=>lookup_1 x u v t]
 unfold lk
 rcases find_idx (lkP u v t) rules with ⟨h1,h2⟩ | ⟨h1,h2,x,h3,h4⟩
 ·simp[bindK,h1,h2]
 ·have h5:¬ (fIdx (lkP u v t) rules < 0):=by omega
  simp[bindK,h5,h4,getK,h1,h3]
def visC (T:Tbl) (r:Rule):List Int:=dd (sortI (T.pk++r.cols))
structure VP (T:Tbl) (p:Cons):Prop where
 left:p.left ∈ T.pk
 right:p.right=-1∨p.right ∈ T.pk
theorem w_validatePredicate (T:Tbl) (p:Cons):Wp (m_access_validatePredicate T p) fun e=>e=0→VP T p:=by
 have key:Wp (bindK (m_slices_Contains_Int T.pk p.left) fun v18=>(bif !v18 then (some 9) else (bif (p.right != (-1)) then (bindK (m_slices_Contains_Int T.pk p.right) fun v21=>(bif !v21 then (some 9) else (bif (p.right == (-1)) then (bindK (m_value_Validate p.value) fun v24=>(some v24)) else (bif (!(p.value.kind == 0) || (!(p.value.int == 0) || (!(p.value.text == ByteArray.empty)))) then (some 3) else (some 0))))) else (bif (p.right == (-1)) then (bindK (m_value_Validate p.value) fun v27=>(some v27)) else (bif (!(p.value.kind == 0) || (!(p.value.int == 0) || (!(p.value.text == ByteArray.empty)))) then (some 3) else (some (0:Int))))))) fun e=>e=0→VP T p:=by
  refine Wp.bind (w_Contains_Int _ _) fun b _ hb=>Wp.cond (fun _=>Wp.ret (by simp)) fun h1=>?_
  have hl:p.left ∈ T.pk:=hb.1 (by simpa using h1)
  refine Wp.cond (fun h2=>Wp.bind (w_Contains_Int _ _) fun b _ hb=>Wp.cond (fun _=>Wp.ret (by simp)) fun h3=>?_) fun h2=>?_
  ·have hr:VP T p:=⟨hl,.inr (hb.1 (by simpa using h3))⟩
   exact Wp.cond (fun _=>Wp.bind (w_value_Validate _) fun _ _ _=>Wp.ret fun _=>hr) fun _=>Wp.cond (fun _=>Wp.ret fun _=>hr) fun _=>Wp.ret fun _=>hr
  ·have hr:VP T p:=⟨hl,.inl (by simpa using h2)⟩
   exact Wp.cond (fun _=>Wp.bind (w_value_Validate _) fun _ _ _=>Wp.ret fun _=>hr) fun _=>Wp.cond (fun _=>Wp.ret fun _=>hr) fun _=>Wp.ret fun _=>hr
 unfold m_access_validatePredicate
 exact Wp.cond (fun _=>Wp.ret (by simp)) fun _=>Wp.cond (fun _=>Wp.cond (fun _=>Wp.cond (fun _=>Wp.ret (by simp)) fun _=>key) fun _=>key) fun _=>key
structure VR (Ss:List Sch) (r:Rule) (S:Sch) (k:Int) (T:Tbl):Prop where
 v0:0≤r.version
 s:Ss[r.version.toNat]?=some S
 ft:m_schema_FindTable S r.table=some (k,true)
 k0:0≤k
 t:S.tables[k.toNat]?=some T
 cols:∀ c ∈ r.cols,0≤c∧c < T.cols.length
 asc:∀ (i:Nat) (a b:Int),r.cols[i]?=some a→r.cols[i+1]?=some b→a < b
 pr:∀ p ∈ r.preds,VP T p
 wr:r.write=true→T.cols.length≤(visC T r).length
theorem asc_len {xs:List Int} {n:Nat} (h0:∀ c ∈ xs,0≤c∧c < n) (h1:∀ (i:Nat) (a b:Int),xs[i]?=some a→xs[i+1]?=some b→a < b):xs.length≤n:=by
 have:∀ (k:Nat) (v:Int),xs[k]?=some v→(k:Int)≤v:=by
  intro k
  induction k with
  | zero=>intro v hv;have:=(h0 v (List.mem_of_getElem? hv)).1;omega
  | succ k ih=>
    intro v hv
    have hn:=(List.getElem?_eq_some_iff.1 hv).1
    have e1:=ih _ (List.getElem?_eq_getElem (by omega))
    have e2:=h1 k _ v (List.getElem?_eq_getElem (by omega)) hv
    omega
 rcases Nat.eq_zero_or_pos xs.length with h | h
 ·omega
 ·have e1:=this (xs.length - 1) _ (List.getElem?_eq_getElem (by omega))
  have e2:=(h0 _ (List.getElem_mem (show xs.length - 1 < xs.length by omega))).2
  omega
theorem w_visibleColumns {T:Tbl} {r:Rule} (hT:VT T) (h0:∀ c ∈ r.cols,0≤c∧c < T.cols.length) (h1:∀ (i:Nat) (a b:Int),r.cols[i]?=some a→r.cols[i+1]?=some b→a < b):Wp (m_access_visibleColumns T r) fun c=>c=visC T r:=by
 unfold m_access_visibleColumns
 have e1:=asc_len h0 h1
 have e2:=hT.pk6
 have e3:=hT.cols6
 exact Wp.chk (by omega) (Wp.ret rfl)
theorem w_validateRule (Ss:List Sch) (hS:∀ S ∈ Ss,VS S) (r:Rule):Wp (m_access_validateRule Ss r) fun e=>e=0→∃ S k T,VR Ss r S k T:=by
 unfold m_access_validateRule
 refine Wp.bind (w_ValidName _) fun v _ _=>Wp.cond (fun _=>Wp.ret (by simp)) fun _=>Wp.cond (fun _=>Wp.ret (by simp)) fun h1=>Wp.cond (fun _=>Wp.ret (by simp)) fun h2=>?_
 have a1:0≤r.version:=by simpa using h1
 have a2:r.version < Ss.length:=by simpa using h2
 refine Wp.get a1 a2 fun S hS1 hSm=>Wp.bind (w_FindTable S r.table) fun q hq0 hq=>Wp.cond (fun _=>Wp.ret (by simp)) fun h3=>?_
 have a3:q.2=true:=by simpa using h3
 refine Wp.get hq.1 (hq.2.1 a3).1 fun T hT1 hTm=>?_
 have hVS:=hS S hSm
 have hVT:=hVS.tab T hTm
 have h6:=hVT.cols6
 obtain⟨k,kb⟩:=q
 simp only at a3 hT1 hq hq0
 subst a3
 refine Wp.for (fun i _=>(∀ (j:Nat) (c:Int),j < i→r.cols[j]?=some c→0≤c∧c < T.cols.length)∧(∀ (j:Nat) (a b:Int),j+1 < i→r.cols[j]?=some a→r.cols[j+1]?=some b→a < b)∧(∀ (j:Nat) (c:Int),j < i→r.cols[j]?=some c→(j:Int)≤c)∧i≤6) ⟨by intro j c h;omega,by intro j a b h;omega,by intro j c h;omega,by omega⟩ ?_ ?_
 ·rintro i x s next hx hm ⟨hI,hJ,hL,h6i⟩ hn
  refine Wp.cond (fun _=>Wp.ret (by simp)) fun h4=>Wp.cond (fun _=>Wp.ret (by simp)) fun h5=>?_
  have b1:0≤x:=by simpa using h4
  have b2:x < T.cols.length:=by simpa using h5
  have hil:=(List.getElem?_eq_some_iff.1 hx).1
  have fin:(∀ a:Int,0 < i→r.cols[i - 1]?=some a→a < x)→Wp (next ()) _:=fun hlt=>by
   have hL':∀ (j:Nat) (c:Int),j < i+1→r.cols[j]?=some c→(j:Int)≤c:=upto_succ (p:=fun _=>True) (by simp) hx trivial |> fun _=>by
    intro j c hj hc
    rcases Nat.lt_or_ge j i with h | h
    ·exact hL j c h hc
    ·obtain rfl:j=i:=by omega
     rw[hx] at hc
     cases hc
     rcases Nat.eq_zero_or_pos j with rfl | hp
     ·simpa using b1
     ·have e1:=hL (j - 1) _ (by omega) (List.getElem?_eq_getElem (by omega))
      have e2:=hlt _ hp (List.getElem?_eq_getElem (by omega))
      omega
   refine hn () ⟨upto_succ hI hx ⟨b1,b2⟩,?_,hL',?_⟩
   ·intro j a b hj ha hb
    rcases Nat.lt_or_ge (j+1) i with h | h
    ·exact hJ j a b h ha hb
    ·obtain rfl:i=j+1:=by omega
     rw[hx] at hb
     cases hb
     exact hlt a (by omega) (by simpa using ha)
   ·have:=hL' i x (by omega) hx
    omega
  refine Wp.cond (fun h6=>?_) fun h6=>fin fun a h9=>?_
  ·have hi:0 < i:=by simpa using h6
   refine Wp.chk ⟨by omega,by omega⟩ (Wp.get (by omega) (by omega) fun y hy _=>Wp.cond (fun _=>Wp.ret (by simp)) fun h7=>fin fun a _ ha=>?_)
   have hyx:y < x:=by simpa using h7
   rw[show ((i:Int) - 1).toNat=i - 1 by omega,ha] at hy
   cases hy
   exact hyx
  ·have:¬ (0 < i):=by simpa using h6
   omega
 rintro s ⟨hI,hJ,_,_⟩
 have hc:=upto_mem hI
 have ha:∀ (i:Nat) (a b:Int),r.cols[i]?=some a→r.cols[i+1]?=some b→a < b:=fun i a b x y=>hJ i a b (List.getElem?_eq_some_iff.1 y).1 x y
 have tail:(r.write=true→T.cols.length≤(visC T r).length)→Wp (bif decide (8 < (r.preds.length:Int)) then (some 2) else (forK (fun (i29:Nat) (x29:Cons) (s29:Unit) next_29=>(bindK (m_access_validatePredicate T x29) fun v31=>(bif (v31 != 0) then (some v31) else (next_29 ())))) (fun (s29:Unit)=>(some (0:Int))) r.preds 0 ())) fun e=>e=0→∃ S k T,VR Ss r S k T:=fun hw=>by
  refine Wp.cond (fun _=>Wp.ret (by simp)) fun _=>Wp.for (fun i _=>∀ (j:Nat) (p:Cons),j < i→r.preds[j]?=some p→VP T p) (by intro j p h;omega) ?_ ?_
  ·intro i x s next hx hm hI hn
   refine Wp.bind (w_validatePredicate T x) fun e _ he=>Wp.cond (fun h=>Wp.ret (by intro h0;simp[h0] at h)) fun h4=>hn () (upto_succ hI hx (he (by simpa using h4)))
  ·intro s hP
   exact Wp.ret fun _=>⟨S,k,T,a1,hS1,hq0,hq.1,hT1,hc,ha,upto_mem hP,hw⟩
 refine Wp.cond (fun hw=>?_) fun hw=>tail fun h=>by rw[h] at hw;cases hw
 refine Wp.bind (w_visibleColumns hVT hc ha) fun c _ hcc=>Wp.cond (fun _=>Wp.ret (by simp)) fun h7=>tail fun _=>?_
 subst hcc
 simpa using h7
structure VRs (g:Gr) (rules:List Rule) (Ss:List Sch):Prop where
 ss:m_versions_Schemas g=some (Ss,0)
 vs:∀ S ∈ Ss,VS S
 l40:rules.length≤40
 r:∀ r ∈ rules,∃ S k T,VR Ss r S k T
 uni:∀ (i:Nat) (r:Rule),rules[i]?=some r→lk (rules.take i) r.user r.version r.table=none
theorem w_access_Validate (g:Gr) (hx:∀ e ∈ g.edges,∀ x ∈ e.script,SmallX x) (rules:List Rule):Wp (m_access_Validate g rules) fun e=>e=0→∃ Ss,VRs g rules Ss:=by
 unfold m_access_Validate
 refine Wp.bind (w_versions_Schemas g hx) fun q hq0 hq=>Wp.cond (fun h=>Wp.ret fun h0=>?_) fun h1=>Wp.cond (fun _=>Wp.ret (by simp)) fun h2=>?_
 ·rw[h0] at h;cases h
 obtain⟨Ss,e⟩:=q
 obtain rfl:e=0:=by simpa using h1
 obtain⟨_,_,_,hV⟩:=hq rfl
 have a2:rules.length≤40:=by simp at h2;omega
 refine Wp.for (fun i _=>(∀ (j:Nat) (r:Rule),j < i→rules[j]?=some r→∃ S k T,VR Ss r S k T)∧∀ (j:Nat) (r:Rule),j < i→rules[j]?=some r→lk (rules.take j) r.user r.version r.table=none) ⟨by intro j p h;omega,by intro j p h;omega⟩ ?_ ?_
 ·rintro i x s next hx1 hm ⟨hI,hJ⟩ hn
  have hil:=(List.getElem?_eq_some_iff.1 hx1).1
  refine Wp.bind (w_validateRule Ss hV x) fun e _ he=>Wp.cond (fun h=>Wp.ret (by intro h0;simp[h0] at h)) fun h4=>Wp.chk ⟨by omega,by omega,by omega⟩ ?_
  rw[lookup_eq,List.drop_zero]
  have hv:=he (by simpa using h4)
  cases hl:lk (rules.take i) x.user x.version x.table with
  | some y=>exact⟨5,rfl,by simp⟩
  | none=>
    refine hn () ⟨upto_succ hI hx1 hv,fun j r hj hr=>?_⟩
    rcases Nat.lt_or_ge j i with h | h
    ·exact hJ j r h hr
    ·obtain rfl:j=i:=by omega
     rw[hx1] at hr
     cases hr
     exact hl
 ·rintro s ⟨hI,hJ⟩
  exact Wp.ret fun _=>⟨Ss,hq0,hV,a2,upto_mem hI,fun i r hr=>hJ i r (List.getElem?_eq_some_iff.1 hr).1 hr⟩
theorem w_versions_Schema (g:Gr) (hx:∀ e ∈ g.edges,∀ x ∈ e.script,SmallX x) (v:Int):Wp (m_versions_Schema g v) fun q=>q.2=0→∃ Ss,m_versions_Schemas g=some (Ss,0)∧(∀ S ∈ Ss,VS S)∧0≤v∧Ss[v.toNat]?=some q.1:=by
 unfold m_versions_Schema
 refine Wp.bind (w_versions_Schemas g hx) fun q hq0 hq=>Wp.cond (fun h=>Wp.ret fun h0=>?_) fun h1=>Wp.cond (fun _=>Wp.ret (by simp)) fun h2=>Wp.cond (fun _=>Wp.ret (by simp)) fun h3=>?_
 ·simp only at h0;rw[h0] at h;cases h
 obtain⟨Ss,e⟩:=q
 obtain rfl:e=0:=by simpa using h1
 obtain⟨_,_,_,hV⟩:=hq rfl
 have a2:0≤v:=by simpa using h2
 have a3:v < Ss.length:=by simpa using h3
 exact Wp.get a2 a3 fun S hS _=>Wp.ret fun _=>⟨Ss,hq0,hV,a2,hS⟩
end Go.Proofs.YthgepknlibmjcaaGreat
end
section
namespace Go.Proofs.YthgepknlibmjcaaGreat
open Go Go.Am
def cmpI (a b:Int):Int:=if a < b then -1 else if b < a then 1 else 0
theorem compareInts_eq (a b:Int):m_value_compareInts a b=some (cmpI a b):=by
 unfold m_value_compareInts cmpI
 by_cases h1:a < b
 ·simp[h1]
 ·by_cases h2:b < a<;>simp[h1,h2]
def cmpV (a b:GV):Int:=if cmpI a.kind b.kind≠0 then cmpI a.kind b.kind else if cmpI a.int b.int≠0 then cmpI a.int b.int else cmpS a.text b.text
theorem compare_eq (a b:GV):m_value_Compare a b=some (cmpV a b):=by
 unfold m_value_Compare m_strings_Compare cmpV
 rw[compareInts_eq,compareInts_eq]
 simp only[bindK]
 by_cases h1:cmpI a.kind b.kind=0
 ·by_cases h2:cmpI a.int b.int=0
  ·simp[h1,h2]
  ·have h3:(cmpI a.int b.int != 0)=true:=by simpa using h2
   simp[h1,h2,h3]
 ·have h3:(cmpI a.kind b.kind != 0)=true:=by simpa using h1
  simp[h1,h3]
def cmpR:List GV→List GV→Int
 | [],[]=>0
 | [],_::_=>-1
 | _::_,[]=>1
 | x::xs,y::ys=>if cmpV x y≠0 then cmpV x y else cmpR xs ys
theorem w_CompareRows (a b:List GV) (ha:a.length≤2097152):Wp (m_value_CompareRows a b) fun c=>c=cmpR a b:=by
 unfold m_value_CompareRows
 have hmin:(Int.toNat (if (b.length:Int) < (a.length:Int) then (b.length:Int) else (a.length:Int)))=min a.length b.length:=by
  split<;>omega
 rw[hmin]
 refine Wp.count (fun i _=>cmpR a b=cmpR (a.drop i) (b.drop i)) (by simp) ?_ ?_
 ·intro i s next hi hI hn
  have hia:i < a.length:=by omega
  have hib:i < b.length:=by omega
  refine Wp.getN (List.getElem?_eq_getElem hia) (Wp.getN (List.getElem?_eq_getElem hib) ?_)
  rw[List.drop_eq_getElem_cons hia,List.drop_eq_getElem_cons hib,cmpR] at hI
  rw[compare_eq]
  refine Wp.bind (R:=fun v=>v=cmpV a[i] b[i]) ⟨_,rfl,rfl⟩ fun v _ hv=>?_
  subst hv
  refine Wp.cond (fun h=>Wp.ret ?_) fun h=>Wp.chk ⟨by omega,by omega⟩ (hn () ?_)
  ·have h':cmpV a[i] b[i]≠0:=by simpa using h
   rw[hI,if_pos h']
  ·have h':cmpV a[i] b[i]=0:=by simpa using h
   rw[hI,if_neg (by simp[h'])]
 ·intro s hI
  rw[compareInts_eq]
  refine Wp.bind (R:=fun v=>v=cmpI a.length b.length) ⟨_,rfl,rfl⟩ fun v _ hv=>Wp.ret ?_
  subst hv
  rw[hI]
  unfold cmpI
  rcases Nat.lt_trichotomy a.length b.length with h | h | h
  ·have e1:a.drop (min a.length b.length)=[]:=List.drop_eq_nil_of_le (by omega)
   rw[e1,List.drop_eq_getElem_cons (show min a.length b.length < b.length by omega)]
   simp[cmpR,h]
  ·have e1:a.drop (min a.length b.length)=[]:=List.drop_eq_nil_of_le (by omega)
   have e2:b.drop (min a.length b.length)=[]:=List.drop_eq_nil_of_le (by omega)
   rw[e1,e2]
   simp[cmpR,h]
  ·have e2:b.drop (min a.length b.length)=[]:=List.drop_eq_nil_of_le (by omega)
   rw[e2,List.drop_eq_getElem_cons (show min a.length b.length < a.length by omega)]
   have h3:¬ (a.length < b.length):=by omega
   simp[cmpR,h,h3]
def gvZ:GV:=⟨0,0,ByteArray.empty⟩
def cellF (row:List GV) (c:Int):GV:=if 0≤c then (row[c.toNat]?).getD gvZ else gvZ
def keyF (T:Tbl) (row:List GV):List GV:=T.pk.map (cellF row)
theorem take_snoc {α β:Type} {xs:List α} {i:Nat} {x:α} {f:α→β} (h:xs[i]?=some x):(xs.take (i+1)).map f=(xs.take i).map f++[f x]:=by
 obtain⟨h1,h2⟩:=List.getElem?_eq_some_iff.1 h
 rw[List.take_succ_eq_append_getElem h1,h2]
 simp
theorem w_Key (T:Tbl) (row:List GV) (hl:T.pk.length≤2097152):Wp (m_relation_Key T row) fun k=>k=keyF T row:=by
 have hL:=LIM_eq
 unfold m_relation_Key
 refine Wp.for (fun i (s:List GV)=>s=(T.pk.take i).map (cellF row)) (by simp) ?_ (fun s hs=>Wp.ret (by rw[hs,List.take_length];rfl))
 intro i x s next hx hm hI hn
 have hi:=(List.getElem?_eq_some_iff.1 hx).1
 have hsl:s.length≤i:=by rw[hI];simp;omega
 refine Wp.cond (fun h1=>Wp.cond (fun h2=>?_) fun h2=>?_) fun h1=>?_
 ·have a1:0≤x:=by simpa using h1
  have a2:x < row.length:=by simpa using h2
  refine Wp.get a1 a2 fun y hy _=>Wp.app (by simp;omega) (hn _ ?_)
  rw[take_snoc hx,hI]
  simp[cellF,a1,hy]
 ·have a1:0≤x:=by simpa using h1
  have a2:¬ (x < row.length):=by simpa using h2
  refine Wp.app (by simp;omega) (hn _ ?_)
  rw[take_snoc hx,hI]
  have:row[x.toNat]?=none:=List.getElem?_eq_none (by omega)
  simp[cellF,a1,this,gvZ]
 ·have a1:¬ (0≤x):=by simpa using h1
  refine Wp.app (by simp;omega) (hn _ ?_)
  rw[take_snoc hx,hI]
  simp[cellF,a1,gvZ]
structure CR (T:Tbl) (row:List GV):Prop where
 len:row.length=T.cols.length
 cell:∀ (i:Nat) (x:GV) (c:Col),row[i]?=some x→T.cols[i]?=some c→m_value_Validate x=some 0∧(x.kind=0→c.nullable=true)∧(x.kind≠0→x.kind=c.kind)
theorem upto2_succ {α β:Type} {xs:List α} {ys:List β} {p:α→β→Prop} {i:Nat} {x:α} {y:β} (h:∀ (j:Nat) (a:α) (b:β),j < i→xs[j]?=some a→ys[j]?=some b→p a b) (hx:xs[i]?=some x) (hy:ys[i]?=some y) (hp:p x y) :
  ∀ (j:Nat) (a:α) (b:β),j < i+1→xs[j]?=some a→ys[j]?=some b→p a b:=by
 intro j a b hj ha hb
 rcases Nat.lt_or_ge j i with h1 | h1
 ·exact h j a b h1 ha hb
 ·obtain rfl:j=i:=by omega
  rw[hx] at ha
  rw[hy] at hb
  cases ha
  cases hb
  exact hp
theorem w_ConformsRow (T:Tbl) (row:List GV):Wp (m_instance_ConformsRow T row) fun e=>e=0→CR T row:=by
 unfold m_instance_ConformsRow
 refine Wp.cond (fun _=>Wp.ret (by simp)) fun h1=>?_
 have hl:row.length=T.cols.length:=by simp at h1;omega
 refine Wp.for (fun i _=>∀ (j:Nat) (x:GV) (c:Col),j < i→row[j]?=some x→T.cols[j]?=some c→m_value_Validate x=some 0∧(x.kind=0→c.nullable=true)∧(x.kind≠0→x.kind=c.kind)) (by intro j x c h;omega) ?_ fun s hI=>Wp.ret fun _=>⟨hl,fun i x c hx hc=>hI i x c (List.getElem?_eq_some_iff.1 hx).1 hx hc⟩
 intro i x s next hx hm hI hn
 have hi:=(List.getElem?_eq_some_iff.1 hx).1
 have hic:i < T.cols.length:=by omega
 have hcx:T.cols[i]?=some T.cols[i]:=List.getElem?_eq_getElem hic
 generalize T.cols[i]=c at hcx
 refine Wp.bind (w_value_Validate x) fun v hv _=>Wp.cond (fun h=>Wp.ret (by intro h0;simp[h0] at h)) fun h2=>?_
 obtain rfl:v=0:=by simpa using h2
 refine Wp.cond (fun h3=>?_) fun h3=>?_
 ·have a3:x.kind=0:=by simpa using h3
  refine Wp.getN hcx (Wp.cond (fun _=>Wp.ret (by simp)) fun h4=>Wp.cond (fun h5=>?_) fun _=>hn () (upto2_succ hI hx hcx ⟨hv,fun _=>by simpa using h4,fun h=>absurd a3 h⟩))
  simp[a3] at h5
 ·have a3:x.kind≠0:=by simpa using h3
  refine Wp.cond (fun _=>Wp.getN hcx (Wp.cond (fun _=>Wp.ret (by simp)) fun h4=>hn () (upto2_succ hI hx hcx ⟨hv,fun h=>absurd h a3,fun _=>by simpa using h4⟩))) fun h5=>?_
  simp[a3] at h5
def Asc (T:Tbl) (rows:List (List GV)):Prop:=∀ (i:Nat) (a b:List GV),rows[i]?=some a→rows[i+1]?=some b→cmpR (keyF T a) (keyF T b) < 0
structure CF (S:Sch) (inst:List Rel):Prop where
 len:inst.length=S.tables.length
 name:∀ (i:Nat) (x:Rel) (T:Tbl),inst[i]?=some x→S.tables[i]?=some T→strEq x.table T.name=true
 l24:∀ x ∈ inst,x.rows.length≤24
 row:∀ (i:Nat) (x:Rel) (T:Tbl),inst[i]?=some x→S.tables[i]?=some T→∀ row ∈ x.rows,CR T row
 asc:∀ (i:Nat) (x:Rel) (T:Tbl),inst[i]?=some x→S.tables[i]?=some T→Asc T x.rows
theorem w_Conforms (S:Sch) (hS:∀ T ∈ S.tables,T.pk.length≤6) (inst:List Rel):Wp (m_instance_Conforms S inst) fun e=>e=0→CF S inst:=by
 unfold m_instance_Conforms
 refine Wp.cond (fun _=>Wp.ret (by simp)) fun h1=>?_
 have hl:inst.length=S.tables.length:=by simp at h1;omega
 refine Wp.for (fun i _=>∀ (j:Nat) (x:Rel) (T:Tbl),j < i→inst[j]?=some x→S.tables[j]?=some T→strEq x.table T.name=true∧x.rows.length≤24∧(∀ row ∈ x.rows,CR T row)∧Asc T x.rows) (by intro j x c h;omega) ?_ ?_
 ·intro i x s next hx hm hI hn
  have hi:=(List.getElem?_eq_some_iff.1 hx).1
  have hic:i < S.tables.length:=by omega
  have hcx:S.tables[i]?=some S.tables[i]:=List.getElem?_eq_getElem hic
  have hpk:=hS _ (List.getElem_mem hic)
  generalize S.tables[i]=T at hcx hpk
  refine Wp.getN hcx (Wp.cond (fun _=>Wp.ret (by simp)) fun h2=>Wp.cond (fun _=>Wp.ret (by simp)) fun h3=>?_)
  have a3:x.rows.length≤24:=by simp at h3;omega
  refine Wp.for (fun i _=>(∀ (j:Nat) (row:List GV),j < i→x.rows[j]?=some row→CR T row)∧∀ (j:Nat) (a b:List GV),j+1 < i→x.rows[j]?=some a→x.rows[j+1]?=some b→cmpR (keyF T a) (keyF T b) < 0) ⟨by intro j r h;omega,by intro j a b h;omega⟩ ?_ ?_
  ·rintro k row s next2 hr hrm ⟨hJ,hK⟩ hn2
   have hk:=(List.getElem?_eq_some_iff.1 hr).1
   refine Wp.bind (w_ConformsRow T row) fun e _ he=>Wp.cond (fun h=>Wp.ret (by intro h0;simp[h0] at h)) fun h4=>?_
   have hcr:=he (by simpa using h4)
   refine Wp.cond (fun h5=>hn2 () ⟨upto_succ hJ hr hcr,?_⟩) fun h5=>Wp.chk ⟨by omega,by omega⟩ ?_
   ·have hk0:k=0:=by simp at h5;omega
    intro j a b hj;omega
   ·have hk0:k≠0:=by simp at h5;omega
    have hk1:k - 1 < x.rows.length:=by omega
    have hr0:x.rows[k - 1]?=some x.rows[k - 1]:=List.getElem?_eq_getElem hk1
    rw[show (k:Int) - 1=((k - 1:Nat):Int) by omega]
    generalize x.rows[k - 1]=row0 at hr0
    refine Wp.getN hr0 (Wp.bind (w_Key T row0 (by omega)) fun k0 _ h0=>Wp.bind (w_Key T row (by omega)) fun k1 _ h1=>?_)
    subst h0 h1
    refine Wp.bind (w_CompareRows _ _ (by simp[keyF];omega)) fun c _ hc=>Wp.cond (fun _=>Wp.ret (by simp)) fun h6=>Wp.cond (fun _=>Wp.ret (by simp)) fun h7=>hn2 () ⟨upto_succ hJ hr hcr,?_⟩
    have a6:c≠0:=by simpa using h6
    have a7:¬ (0 < c):=by simpa using h7
    intro j a b hj ha hb
    rcases Nat.lt_or_ge (j+1) k with h | h
    ·exact hK j a b h ha hb
    ·obtain rfl:k=j+1:=by omega
     rw[hr] at hb
     rw[show j+1 - 1=j by omega,ha] at hr0
     cases hb
     cases hr0
     rw[← hc]
     omega
  ·rintro s ⟨hJ,hK⟩
   exact hn () (upto2_succ hI hx hcx ⟨by simpa using h2,a3,upto_mem hJ,fun i a b ha hb=>hK i a b (List.getElem?_eq_some_iff.1 hb).1 ha hb⟩)
 ·intro s hI
  refine Wp.ret fun _=>⟨hl,fun i x T hx hT=>(hI i x T (List.getElem?_eq_some_iff.1 hx).1 hx hT).1,fun x hx=>?_,fun i x T hx hT=>(hI i x T (List.getElem?_eq_some_iff.1 hx).1 hx hT).2.2.1,fun i x T hx hT=>(hI i x T (List.getElem?_eq_some_iff.1 hx).1 hx hT).2.2.2⟩
  obtain⟨i,hi,rfl⟩:=List.getElem_of_mem hx
  exact (hI i _ _ hi (List.getElem?_eq_getElem hi) (List.getElem?_eq_getElem (by omega))).2.1
def satP (p:Cons) (row:List GV):Bool:=match m_access_satisfies p row with
 | some b=>b
 | none=>false
def mtch (r:Rule) (row:List GV):Bool:=!(r.preds.any fun p=>!(satP p row))
theorem sat_eq {T:Tbl} {p:Cons} {row:List GV} (hT:∀ v ∈ T.pk,0≤v∧v < T.cols.length) (hp:VP T p) (hl:row.length=T.cols.length):m_access_satisfies p row=some (satP p row):=by
 have:Wp (m_access_satisfies p row) fun _=>True:=by
  unfold m_access_satisfies
  have h1:=hT _ hp.left
  refine Wp.cond (fun h=>?_) fun _=>Wp.get h1.1 (by omega) fun _ _ _=>Wp.bind (w_Satisfies _ _ _) fun _ _ _=>Wp.ret trivial
  have h0:0≤p.right:=by simpa using h
  rcases hp.right with h2 | h2
  ·omega
  ·have h3:=hT _ h2
   exact Wp.get h3.1 (by omega) fun _ _ _=>Wp.get h1.1 (by omega) fun _ _ _=>Wp.bind (w_Satisfies _ _ _) fun _ _ _=>Wp.ret trivial
 obtain⟨b,hb,_⟩:=this
 unfold satP
 rw[hb]
theorem matches_eq {T:Tbl} {r:Rule} {row:List GV} (hT:∀ v ∈ T.pk,0≤v∧v < T.cols.length) (hp:∀ p ∈ r.preds,VP T p) (hl:row.length=T.cols.length):m_access_matches r row=some (mtch r row):=by
 unfold m_access_matches m_slices_ContainsFunc_Constraint m_slices_IndexFunc_Constraint
 rw[index_eq (p:=fun p=>!(satP p row)) fun p hpm=>?_]
 ·simp only[bindK]
  rw[fIdx_any]
  rfl
 ·unfold m_access_matches_1
  rw[sat_eq hT (hp p hpm) hl]
  rfl
def projF (cols:List Int) (row:List GV):List GV:=cols.map (cellF row)
theorem w_project (row:List GV) (cols:List Int) (hl:cols.length≤2097152) (hc:∀ c ∈ cols,0≤c∧c < row.length):Wp (m_access_project row cols) fun r=>r=projF cols row:=by
 have hL:=LIM_eq
 unfold m_access_project
 refine Wp.for (fun i (s:List GV)=>s=(cols.take i).map (cellF row)) (by simp) ?_ (fun s hs=>Wp.ret (by rw[hs,List.take_length];rfl))
 intro i x s next hx hm hI hn
 have hi:=(List.getElem?_eq_some_iff.1 hx).1
 have hsl:s.length≤i:=by rw[hI];simp;omega
 have h1:=hc x hm
 refine Wp.get h1.1 h1.2 fun y hy _=>Wp.app (by simp;omega) (hn _ ?_)
 rw[take_snoc hx,hI]
 simp[cellF,h1.1,hy]
end Go.Proofs.YthgepknlibmjcaaGreat
end
section
namespace Go.Proofs.YthgepknlibmjcaaGreat
open Go.Am
def m_stemref1_EqualRow (a:List GV) (b:List GV):Option Bool:=
 (bif ((a.length:Int) != (b.length:Int)) then (some false) else (forK (fun (i5:Nat) (x5:GV) (s5:Unit) next_5=>(getK b (i5:Int) fun x6=>(bif (!(x5.kind == x6.kind) || (!(x5.int == x6.int) || (!(x5.text == x6.text)))) then (some false) else (next_5 ())))) (fun (s5:Unit)=>(some true)) a 0 ()))
theorem c_stemref1_EqualRow (a:List GV) (b:List GV) (r:Bool) (hm:Is (m_stemref1_EqualRow a b) r):PSpec Tryz.prog 56 [.one (.d (.sl (a.map GV.enc))),.one (.d (.sl (b.map GV.enc)))] (.one (.d (.bool r))):=by
 unfold m_stemref1_EqualRow at hm
 refine PSpec.of_vc Tryz.func56 rfl (by kernel_rfl) (n:=26) rfl rfl (by simp) ?_
 try simp[*]
 intro hl1
 replace hl1:a.length≤2097152:=by simpa using hl1
 intro hl2
 replace hl2:b.length≤2097152:=by simpa using hl2
 refine r_cond hm ?_ ?_<;>clear hm<;>intro hc3 hm
 ·try simp[*]
  obtain rfl:=r_ret hm
  exact ret0 (vs:=[_]) (by simp[*];try exact rfl) (by simp[*])
 ·try simp[*]
  refine Wait.for (xs:=a) (s0:=()) (fun i5 s5 e5 h5=>e5.n=26∧e5.get 0=.one (.d (.sl (a.map GV.enc)))∧e5.get 1=.one (.d (.sl (b.map GV.enc)))∧e5.get 12=.one (.d (.int .i64 (a.length:Int)))∧e5.get 13=.one (.d (.int .i64 (i5:Int)))) hm (by simp[*]) ?_ ?_
  ·rintro i5 s5 e5 h5 ⟨hn5,h5_0,h5_1,h5_12,h5_13⟩ hlt5 hm
   have hw5:IntKind.i64.wrap ((i5:Int)+1)=(i5:Int)+1:=IntWalk.i64_in _ (by omega)
   try simp[*]
   refine Wait.of (SWP.draw (Plan.then_ [0,1,2,3,4,5,6,7,8] .done) follows (by kernel_rfl) ?_)
   try simp[*,Plan.then_,vcPlan,planOps,isCallAt,callKind]
   replace hm:=hm.getN
   obtain⟨x6,hxx6,hm⟩:=hm
   try simp[*,Plan.then_,vcPlan,planOps,isCallAt,callKind]
   refine r_cond hm ?_ ?_<;>clear hm<;>intro hc7 hm
   ·try simp[*]
    obtain rfl:=r_ret hm
    exact ret0 (vs:=[_]) (by simp[*];try exact rfl) (by simp[*])
   ·try simp[*]
    exact BackF.of () ⟨(by simp[*]),hm⟩
  ·rintro s5 e5 h5 ⟨hn5,h5_0,h5_1,h5_12,h5_13⟩ hm
   try simp[*]
   obtain rfl:=r_ret hm
   exact ret0 (vs:=[_]) (by simp[*];try exact rfl) (by simp[*])
def m_stemref1_EqualRows (a:List (List GV)) (b:List (List GV)):Option Bool:=
 (bif ((a.length:Int) != (b.length:Int)) then (some false) else (forK (fun (i5:Nat) (x5:List GV) (s5:Unit) next_5=>(getK b (i5:Int) fun x6=>(bindK (m_stemref1_EqualRow x5 x6) fun v7=>(bif !v7 then (some false) else (next_5 ()))))) (fun (s5:Unit)=>(some true)) a 0 ()))
theorem c_stemref1_EqualRows (a:List (List GV)) (b:List (List GV)) (r:Bool) (hm:Is (m_stemref1_EqualRows a b) r):PSpec Tryz.prog 19 [.one (.d (.sl (a.map (encL GV.enc)))),.one (.d (.sl (b.map (encL GV.enc))))] (.one (.d (.bool r))):=by
 unfold m_stemref1_EqualRows at hm
 refine PSpec.of_vc Tryz.func19 rfl (by kernel_rfl) (n:=27) rfl rfl (by simp) ?_
 try simp[*]
 intro hl1
 replace hl1:a.length≤2097152:=by simpa using hl1
 intro hl2
 replace hl2:b.length≤2097152:=by simpa using hl2
 refine r_cond hm ?_ ?_<;>clear hm<;>intro hc3 hm
 ·try simp[*]
  obtain rfl:=r_ret hm
  exact ret0 (vs:=[_]) (by simp[*];try exact rfl) (by simp[*])
 ·try simp[*]
  refine Wait.for (xs:=a) (s0:=()) (fun i5 s5 e5 h5=>e5.n=27∧e5.get 0=.one (.d (.sl (a.map (encL GV.enc))))∧e5.get 1=.one (.d (.sl (b.map (encL GV.enc))))∧e5.get 12=.one (.d (.int .i64 (a.length:Int)))∧e5.get 13=.one (.d (.int .i64 (i5:Int)))) hm (by simp[*]) ?_ ?_
  ·rintro i5 s5 e5 h5 ⟨hn5,h5_0,h5_1,h5_12,h5_13⟩ hlt5 hm
   have hw5:IntKind.i64.wrap ((i5:Int)+1)=(i5:Int)+1:=IntWalk.i64_in _ (by omega)
   try simp[*]
   refine Wait.of (SWP.draw (Plan.then_ [0,1,2,3,4,5,6,7,8,9] .done) follows (by kernel_rfl) ?_)
   try simp[*,Plan.then_,vcPlan,planOps,isCallAt,callKind]
   replace hm:=hm.getN
   obtain⟨x6,hxx6,hm⟩:=hm
   try simp[*,Plan.then_,vcPlan,planOps,isCallAt,callKind]
   refine r_call (av:=[.one (.d (.sl ((a[i5]).map GV.enc))),.one (.d (.sl (x6.map GV.enc)))]) hm (fun v hv=>c_stemref1_EqualRow _ _ v hv) (by simp[*]) ?_
   clear hm;intro v7 hvv7 hm
   try simp[*,Plan.then_,vcPlan,planOps,isCallAt,callKind]
   try refine⟨fun (_:Lab) (_:List C) hl=>hl,?_⟩
   refine r_cond hm ?_ ?_<;>clear hm<;>intro hc8 hm
   ·try simp[*]
    obtain rfl:=r_ret hm
    exact ret0 (vs:=[_]) (by simp[*];try exact rfl) (by simp[*])
   ·try simp[*]
    exact BackF.of () ⟨(by simp[*]),hm⟩
  ·rintro s5 e5 h5 ⟨hn5,h5_0,h5_1,h5_12,h5_13⟩ hm
   try simp[*]
   obtain rfl:=r_ret hm
   exact ret0 (vs:=[_]) (by simp[*];try exact rfl) (by simp[*])
def m_stemref1_Int (n:Int):Option GV:=
 (some (GV.mk 1 n ByteArray.empty))
theorem c_stemref1_Int (n:Int) (r:GV) (hm:Is (m_stemref1_Int n) r):PSpec Tryz.prog 44 [.one (.d (.int .i64 n))] (.agg (r.enc.map RC.d)):=by
 unfold m_stemref1_Int at hm
 refine PSpec.of_vc Tryz.func44 rfl (by kernel_rfl) (n:=5) rfl rfl (by simp) ?_
 try simp[*]
 obtain rfl:=r_ret hm
 exact ret0 (vs:=[_]) (by simp[*];try exact rfl) (by simp[*])
def m_stemref1_SampleGraph:Option Gr:=
 (bindK (m_stemref1_Int 5) fun v2=>(some (Gr.mk (Sch.mk [(Tbl.mk ({ data:=#[116] }) [(Col.mk ({ data:=#[105,100] }) 1 false),(Col.mk ({ data:=#[110] }) 1 false)] [0])] [] []) [(Edg.mk 0 [(Stp.mk 1 ({ data:=#[116] }) ByteArray.empty ({ data:=#[120] }) ByteArray.empty 1 [] ByteArray.empty v2 (Tbl.mk ByteArray.empty [] []) (Cons.mk ByteArray.empty 0 ByteArray.empty 0 (GV.mk 0 0 ByteArray.empty)) (Fk.mk ByteArray.empty [] ByteArray.empty))])])))
theorem c_stemref1_SampleGraph  (r:Gr) (hm:Is (m_stemref1_SampleGraph) r):PSpec Tryz.prog 41 [] (.agg (r.enc.map RC.d)):=by
 unfold m_stemref1_SampleGraph at hm
 refine PSpec.of_vc Tryz.func41 rfl (by kernel_rfl) (n:=16) rfl rfl (by simp) ?_
 try simp[*]
 refine r_call (av:=[.one (.d (.int .i64 5))]) hm (fun v hv=>c_stemref1_Int _ v hv) (by simp[*]) ?_
 clear hm;intro v2 hvv2 hm
 try simp[*]
 obtain rfl:=r_ret hm
 exact ret0 (vs:=[_]) (by simp[*];try exact rfl) (by simp[*])
def m_stemref1_Ints (l:List Int):Option ((List GV)):=
 (forK (fun (i2:Nat) (x2:Int) (s2:(List GV)) next_2=>(bindK (m_stemref1_Int x2) fun v3=>(appK2 s2 [v3] fun _=>(next_2 (s2++[v3]))))) (fun (s2:(List GV))=>(some s2)) l 0 [])
theorem c_stemref1_Ints (l:List Int) (r:(List GV)) (hm:Is (m_stemref1_Ints l) r):PSpec Tryz.prog 45 [.one (.d (.sl (l.map encI)))] (.one (.d (.sl (r.map GV.enc)))):=by
 unfold m_stemref1_Ints at hm
 refine PSpec.of_vc Tryz.func45 rfl (by kernel_rfl) (n:=19) rfl rfl (by simp) ?_
 try simp[*]
 intro hl1
 replace hl1:l.length≤2097152:=by simpa using hl1
 refine Wait.for (xs:=l) (s0:=[]) (fun i2 s2 e2 h2=>∃ c2_0:C,e2.n=19∧e2.get 3=.one c2_0∧e2.get 6=.one (.d (.sl (l.map encI)))∧e2.get 7=.one (.d (.int .i64 (l.length:Int)))∧e2.get 8=.one (.d (.int .i64 (i2:Int)))∧Grows h2 3 c2_0 (s2.map GV.enc)) hm ⟨.nil,by simp (maxDischargeDepth:=20) [*]⟩ ?_ ?_
 ·rintro i2 s2 e2 h2 ⟨c2_0,hn2,h2_3,h2_6,h2_7,h2_8,gc2_0⟩ hlt2 hm
  have hlc2_0:=gc2_0.list
  have hdc2_0:=gc2_0.toD
  have hac2_0:=gc2_0.toA
  have huc2_0:=gc2_0.useUp_arr
  have hw2:IntKind.i64.wrap ((i2:Int)+1)=(i2:Int)+1:=IntWalk.i64_in _ (by omega)
  try simp[*]
  refine r_call (av:=[.one (.d (.int .i64 (l[i2])))]) hm (fun v hv=>c_stemref1_Int _ v hv) (by simp[*]) ?_
  clear hm;intro v3 hvv3 hm
  try simp[*]
  refine r_app (xs:=s2) (ys:=[v3]) (enc:=GV.enc) hm ty_el79 (by first | exact Grows.nil | (simp (maxDischargeDepth:=20) [*];done) | (simp (maxDischargeDepth:=20) [*];refine⟨?_,by omega⟩;intro hq;subst hq;simp at hz2<;>omega)) (by simp[*]) (by decide) (by decide) (fun _=>rfl) ?_
  clear hm;intro hl5 hm g4
  try simp[*]
  exact BackF.of (s2++[v3]) ⟨⟨.own (h2.ep+2,256) ((s2++[v3]).map GV.enc),by simp (maxDischargeDepth:=20) [*]⟩,hm⟩
 ·rintro s2 e2 h2 ⟨c2_0,hn2,h2_3,h2_6,h2_7,h2_8,gc2_0⟩ hm
  have hlc2_0:=gc2_0.list
  have hdc2_0:=gc2_0.toD
  have hac2_0:=gc2_0.toA
  have huc2_0:=gc2_0.useUp_arr
  try simp[*]
  obtain rfl:=r_ret hm
  exact ret0 (vs:=[_]) (by simp[*];try exact rfl) (by simp[*])
def m_stemkeep1_accessWorks:Option Bool:=
 (bindK (m_stemref1_SampleGraph) fun v1=>(bindK (m_stemref1_Int 10) fun v3=>(bindK (m_stemref1_Ints [1,2,5]) fun v4=>(bindK (m_stemref1_Ints [10,2,5]) fun v5=>(bindK (m_access_Visible v1 [(Rule.mk ({ data:=#[97,110,110] }) 1 ({ data:=#[116] }) [1] [(Cons.mk ({ data:=#[116] }) 0 ({ data:=#[60] }) (-1) v3)] false)] ({ data:=#[97,110,110] }) 1 [(Rel.mk ({ data:=#[116] }) [v4,v5])] ({ data:=#[116] })) fun v6=>(bif (v6.2.2 == 0) then (bindK (m_stemref1_Ints [1,2]) fun v8=>(bindK (m_stemref1_EqualRows v6.1 [v8]) fun v9=>(bif v9 then (bindK (m_slices_Equal_Int v6.2.1 [0,1]) fun v11=>(some v11)) else (some false)))) else (some false)))))))
theorem c_stemkeep1_accessWorks  (r:Bool) (hm:Is (m_stemkeep1_accessWorks) r):PSpec Tryz.prog 14 [] (.one (.d (.bool r))):=by
 unfold m_stemkeep1_accessWorks at hm
 refine PSpec.of_vc Tryz.func14 rfl (by kernel_rfl) (n:=43) rfl rfl (by simp) ?_
 try simp[*]
 refine r_call (av:=[]) hm (fun v hv=>c_stemref1_SampleGraph  v hv) (by simp[*]) ?_
 clear hm;intro v1 hvv1 hm
 try simp[*]
 refine r_call (av:=[.one (.d (.int .i64 10))]) hm (fun v hv=>c_stemref1_Int _ v hv) (by simp[*]) ?_
 clear hm;intro v3 hvv3 hm
 try simp[*]
 refine r_call (av:=[.one (.d (.sl ([1,2,5].map encI)))]) hm (fun v hv=>c_stemref1_Ints _ v hv) (by simp[*]) ?_
 clear hm;intro v4 hvv4 hm
 try simp[*]
 refine r_call (av:=[.one (.d (.sl ([10,2,5].map encI)))]) hm (fun v hv=>c_stemref1_Ints _ v hv) (by simp[*]) ?_
 clear hm;intro v5 hvv5 hm
 try simp[*]
 refine r_call (av:=[.agg v1.enc,.one (.d (.sl ([(Rule.mk ({ data:=#[97,110,110] }) 1 ({ data:=#[116] }) [1] [(Cons.mk ({ data:=#[116] }) 0 ({ data:=#[60] }) (-1) v3)] false)].map Rule.enc))),.one (.d (.str ({ data:=#[97,110,110] }))),.one (.d (.int .i64 1)),.one (.d (.sl ([(Rel.mk ({ data:=#[116] }) [v4,v5])].map Rel.enc))),.one (.d (.str ({ data:=#[116] })))]) hm (fun v hv=>c_access_Visible _ _ _ _ _ _ v hv) (by simp[*]) ?_
 clear hm;intro v6 hvv6 hm
 try simp[*]
 refine r_guardT hm ?_ ?_<;>clear hm<;>intro hc7 hm
 ·try simp[*]
  refine r_call (av:=[.one (.d (.sl ([1,2].map encI)))]) hm (fun v hv=>c_stemref1_Ints _ v hv) (by simp[*]) ?_
  clear hm;intro v8 hvv8 hm
  try simp[*]
  refine r_call (av:=[.one (.d (.sl (v6.1.map (encL GV.enc)))),.one (.d (.sl ([v8].map (encL GV.enc))))]) hm (fun v hv=>c_stemref1_EqualRows _ _ v hv) (by simp[*]) ?_
  clear hm;intro v9 hvv9 hm
  try simp[*]
  refine r_guardT hm ?_ ?_<;>clear hm<;>intro hc10 hm
  ·try simp[*]
   refine r_call (av:=[.one (.d (.sl (v6.2.1.map encI))),.one (.d (.sl ([0,1].map encI)))]) hm (fun v hv=>c_slices_Equal_Int _ _ v hv) (by simp[*]) ?_
   clear hm;intro v11 hvv11 hm
   try simp[*]
   obtain rfl:=r_ret hm
   exact ret0 (vs:=[_]) (by simp[*];try exact rfl) (by simp[*])
  ·try simp[*]
   obtain rfl:=r_ret hm
   exact ret0 (vs:=[_]) (by simp[*];try exact rfl) (by simp[*])
 ·try simp[*]
  obtain rfl:=r_ret hm
  exact ret0 (vs:=[_]) (by simp[*];try exact rfl) (by simp[*])
def m_slices_IndexFunc_Relation (s_:List Rel) (f:Rel→Option Bool):Option Int:=
 (forK (fun (i2:Nat) (x2:Rel) (s2:Unit) next_2=>(bindK (f x2) fun v3=>(bif v3 then (some (i2:Int)) else (next_2 ())))) (fun (s2:Unit)=>(some (-1))) s_ 0 ())
theorem c_slices_IndexFunc_Relation (s_:List Rel) (g:FuncId) (caps:List (List D)) (f:Rel→Option Bool) (hf:∀ xa v,Is (f xa) v→PSpec Tryz.prog g (.agg xa.enc::capsOf caps) (.one (.d (.bool v)))) (r:Int) (hm:Is (m_slices_IndexFunc_Relation s_ f) r):PSpec Tryz.prog 90 [.one (.d (.sl (s_.map Rel.enc))),.one (.fn g caps)] (.one (.d (.int .i64 r))):=by
 unfold m_slices_IndexFunc_Relation at hm
 refine PSpec.of_vc Tryz.func90 rfl (by kernel_rfl) (n:=19) rfl rfl (by simp) ?_
 try simp[*]
 intro hl1
 replace hl1:s_.length≤2097152:=by simpa using hl1
 refine Wait.for (xs:=s_) (s0:=()) (fun i2 s2 e2 h2=>e2.n=19∧e2.get 0=.one (.d (.sl (s_.map Rel.enc)))∧e2.get 1=.one (.fn g (caps.map Cap.rp))∧e2.get 7=.one (.d (.int .i64 (s_.length:Int)))∧e2.get 8=.one (.d (.int .i64 (i2:Int)))) hm (by simp[*]) ?_ ?_
 ·rintro i2 s2 e2 h2 ⟨hn2,h2_0,h2_1,h2_7,h2_8⟩ hlt2 hm
  have hw2:IntKind.i64.wrap ((i2:Int)+1)=(i2:Int)+1:=IntWalk.i64_in _ (by omega)
  try simp[*]
  refine r_callC (av:=[.agg (s_[i2]).enc]) (cs:=caps) hm (fun v hv=>hf _ v hv) (by simp[*]) (by simp[*]) ?_
  clear hm;intro v3 hvv3 hm
  try simp[*]
  refine r_cond hm ?_ ?_<;>clear hm<;>intro hc4 hm
  ·try simp[*]
   obtain rfl:=r_ret hm
   exact ret0 (vs:=[_]) (by simp[*];try exact rfl) (by simp[*])
  ·try simp[*]
   exact BackF.of () ⟨(by simp[*]),hm⟩
 ·rintro s2 e2 h2 ⟨hn2,h2_0,h2_1,h2_7,h2_8⟩ hm
  try simp[*]
  obtain rfl:=r_ret hm
  exact ret0 (vs:=[_]) (by simp[*];try exact rfl) (by simp[*])
def m_slices_ContainsFunc_Relation (s_:List Rel) (f:Rel→Option Bool):Option Bool:=
 (bindK (m_slices_IndexFunc_Relation s_ f) fun v1=>(some (decide (0≤v1))))
theorem c_slices_ContainsFunc_Relation (s_:List Rel) (g:FuncId) (caps:List (List D)) (f:Rel→Option Bool) (hf:∀ xa v,Is (f xa) v→PSpec Tryz.prog g (.agg xa.enc::capsOf caps) (.one (.d (.bool v)))) (r:Bool) (hm:Is (m_slices_ContainsFunc_Relation s_ f) r):PSpec Tryz.prog 47 [.one (.d (.sl (s_.map Rel.enc))),.one (.fn g caps)] (.one (.d (.bool r))):=by
 unfold m_slices_ContainsFunc_Relation at hm
 refine PSpec.of_vc Tryz.func47 rfl (by kernel_rfl) (n:=9) rfl rfl (by simp) ?_
 try simp[*]
 refine r_call (av:=[.one (.d (.sl (s_.map Rel.enc))),.one (.fn g caps)]) hm (fun v hv=>c_slices_IndexFunc_Relation _ g caps _ hf v hv) (by simp[*]) ?_
 clear hm;intro v1 hvv1 hm
 try simp[*]
 obtain rfl:=r_ret hm
 exact ret0 (vs:=[_]) (by simp[*];try exact rfl) (by simp[*])
def m_stemkeep1_bounded_1 (r_:Rel):Option Bool:=
 (some (decide (40 < (r_.rows.length:Int))))
theorem c_stemkeep1_bounded_1 (r_:Rel) (r:Bool) (hm:Is (m_stemkeep1_bounded_1 r_) r):PSpec Tryz.prog 48 [.agg r_.enc] (.one (.d (.bool r))):=by
 unfold m_stemkeep1_bounded_1 at hm
 refine PSpec.of_vc Tryz.func48 rfl (by kernel_rfl) (n:=7) rfl rfl (by simp) ?_
 try simp[*]
 intro hl2
 replace hl2:r_.rows.length≤2097152:=by simpa using hl2
 obtain rfl:=r_ret hm
 exact ret0 (vs:=[_]) (by simp[*];try exact rfl) (by simp[*])
def m_stemkeep1_bounded (g_:Gr) (db:Db) (changes:List Chg):Option Bool:=
 (bif decide (8 < (g_.edges.length:Int)) then (some false) else (bif decide (9 < (db.insts.length:Int)) then (some false) else (bif decide (9 < (db.comps.length:Int)) then (some false) else (bif decide (50 < (changes.length:Int)) then (some false) else (bindK (m_slices_Concat_Instance db.comps) fun v11=>(bindK (m_slices_Concat_Instance [v11,db.insts]) fun v12=>(forK (fun (i14:Nat) (x14:List Rel) (s14:Unit) next_14=>(bif decide (20 < (x14.length:Int)) then (some false) else (bindK (m_slices_ContainsFunc_Relation x14 (fun xa_=>m_stemkeep1_bounded_1 xa_)) fun v17=>(bif v17 then (some false) else (next_14 ()))))) (fun (s14:Unit)=>(some true)) v12 0 ())))))))
theorem c_stemkeep1_bounded (g_:Gr) (db:Db) (changes:List Chg) (r:Bool) (hm:Is (m_stemkeep1_bounded g_ db changes) r):PSpec Tryz.prog 15 [.agg g_.enc,.agg db.enc,.one (.d (.sl (changes.map Chg.enc)))] (.one (.d (.bool r))):=by
 unfold m_stemkeep1_bounded at hm
 refine PSpec.of_vc Tryz.func15 rfl (by kernel_rfl) (n:=50) rfl rfl (by simp) ?_
 try simp[*]
 intro hl3
 replace hl3:g_.edges.length≤2097152:=by simpa using hl3
 refine r_guardF hm ?_ ?_<;>clear hm<;>intro hc4 hm
 ·try simp[*]
  obtain rfl:=r_ret hm
  exact ret0 (vs:=[_]) (by simp[*];try exact rfl) (by simp[*])
 ·try simp[*]
  intro hl5
  replace hl5:db.insts.length≤2097152:=by simpa using hl5
  refine r_guardF hm ?_ ?_<;>clear hm<;>intro hc6 hm
  ·try simp[*]
   obtain rfl:=r_ret hm
   exact ret0 (vs:=[_]) (by simp[*];try exact rfl) (by simp[*])
  ·try simp[*]
   intro hl7
   replace hl7:db.comps.length≤2097152:=by simpa using hl7
   refine r_guardF hm ?_ ?_<;>clear hm<;>intro hc8 hm
   ·try simp[*]
    obtain rfl:=r_ret hm
    exact ret0 (vs:=[_]) (by simp[*];try exact rfl) (by simp[*])
   ·try simp[*]
    intro hl9
    replace hl9:changes.length≤2097152:=by simpa using hl9
    refine r_cond hm ?_ ?_<;>clear hm<;>intro hc10 hm
    ·try simp[*]
     obtain rfl:=r_ret hm
     exact ret0 (vs:=[_]) (by simp[*];try exact rfl) (by simp[*])
    ·try simp[*]
     refine Wait.of (SWP.draw (Plan.then_ [0,1,3,4,8,2,5,6,7] .done) follows (by kernel_rfl) ?_)
     try simp[*,Plan.then_,vcPlan,planOps,isCallAt,callKind]
     refine r_call (av:=[.one (.d (.sl (db.comps.map (encL (encL Rel.enc)))))]) hm (fun v hv=>c_slices_Concat_Instance _ v hv) (by simp[*]) ?_
     clear hm;intro v11 hvv11 hm
     try simp[*,Plan.then_,vcPlan,planOps,isCallAt,callKind]
     try refine⟨fun (_:Lab) (_:List C) hl=>hl,?_⟩
     refine r_call (av:=[.one (.d (.sl ([v11,db.insts].map (encL (encL Rel.enc)))))]) hm (fun v hv=>c_slices_Concat_Instance _ v hv) (by simp[*]) ?_
     clear hm;intro v12 hvv12 hm
     try simp[*,Plan.then_,vcPlan,planOps,isCallAt,callKind]
     try refine⟨fun (_:Lab) (_:List C) hl=>hl,?_⟩
     intro hl13
     replace hl13:v12.length≤2097152:=by simpa using hl13
     refine Wait.for (xs:=v12) (s0:=()) (fun i14 s14 e14 h14=>e14.n=50∧e14.get 36=.one (.d (.sl (v12.map (encL Rel.enc))))∧e14.get 37=.one (.d (.int .i64 (v12.length:Int)))∧e14.get 38=.one (.d (.int .i64 (i14:Int)))) hm (by simp[*]) ?_ ?_
     ·rintro i14 s14 e14 h14 ⟨hn14,h14_36,h14_37,h14_38⟩ hlt14 hm
      have hw14:IntKind.i64.wrap ((i14:Int)+1)=(i14:Int)+1:=IntWalk.i64_in _ (by omega)
      try simp[*]
      intro hl15
      replace hl15:v12[i14].length≤2097152:=by simpa using hl15
      refine r_guardF hm ?_ ?_<;>clear hm<;>intro hc16 hm
      ·try simp[*]
       obtain rfl:=r_ret hm
       exact ret0 (vs:=[_]) (by simp[*];try exact rfl) (by simp[*])
      ·try simp[*]
       refine r_call (av:=[.one (.d (.sl ((v12[i14]).map Rel.enc))),.one (.fn 48 [])]) hm (fun v hv=>c_slices_ContainsFunc_Relation _ 48 [] _ (fun xa_ v hv=>c_stemkeep1_bounded_1 xa_ v hv) v hv) (by simp[*]) ?_
       clear hm;intro v17 hvv17 hm
       try simp[*]
       refine r_cond hm ?_ ?_<;>clear hm<;>intro hc18 hm
       ·try simp[*]
        obtain rfl:=r_ret hm
        exact ret0 (vs:=[_]) (by simp[*];try exact rfl) (by simp[*])
       ·try simp[*]
        exact BackF.of () ⟨(by simp[*]),hm⟩
     ·rintro s14 e14 h14 ⟨hn14,h14_36,h14_37,h14_38⟩ hm
      try simp[*]
      obtain rfl:=r_ret hm
      exact ret0 (vs:=[_]) (by simp[*];try exact rfl) (by simp[*])
end Go.Proofs.YthgepknlibmjcaaGreat
end
section
namespace Go.Proofs.YthgepknlibmjcaaGreat
open Go Go.Am
theorem innerS_sorted:∀ (j i:Nat) (ws:List Int),i < ws.length→j≤i→(∀ (a b:Nat) (x y:Int),a < b→b≤i→b≠j→ws[a]?=some x→ws[b]?=some y→x≤y) →
  ∀ (a b:Nat) (x y:Int),a < b→b≤i→(innerS ltI j ws)[a]?=some x→(innerS ltI j ws)[b]?=some y→x≤y
 | 0,i,ws,hi,hj,h=>fun a b x y hab hb hx hy=>h a b x y hab hb (by omega) hx hy
 | j+1,i,ws,hi,hj,h=>by
   unfold innerS
   have e1:ws[j+1]?=some ws[j+1]:=List.getElem?_eq_getElem (by omega)
   have e0:ws[j]?=some ws[j]:=List.getElem?_eq_getElem (by omega)
   generalize ws[j+1]=x1 at e1
   generalize ws[j]=x0 at e0
   rw[e1,e0]
   simp only
   by_cases hlt:ltI x1 x0=true
   ·rw[if_pos hlt]
    have hlt':x1 < x0:=by simpa[ltI] using hlt
    refine innerS_sorted j i _ (by simpa using hi) (by omega) ?_
    have g:∀ (k:Nat) (z:Int),((ws.set (j+1) x0).set j x1)[k]?=some z→(k=j∧z=x1)∨(k=j+1∧z=x0)∨(k≠j∧k≠j+1∧ws[k]?=some z):=by
     intro k z hk
     rcases Nat.decEq k j with h1 | h1
     ·rw[List.getElem?_set_ne (fun h=>h1 h.symm)] at hk
      rcases Nat.decEq k (j+1) with h2 | h2
      ·rw[List.getElem?_set_ne (fun h=>h2 h.symm)] at hk
       exact .inr (.inr ⟨h1,h2,hk⟩)
      ·subst h2
       rw[List.getElem?_set_self (by omega)] at hk
       cases hk
       exact .inr (.inl ⟨rfl,rfl⟩)
     ·subst h1
      rw[List.getElem?_set_self (by simp;omega)] at hk
      cases hk
      exact .inl ⟨rfl,rfl⟩
    intro a b x y hab hb hbj hx hy
    rcases g b y hy with ⟨rfl,rfl⟩ | ⟨rfl,rfl⟩ | ⟨hb1,hb2,hy'⟩
    ·exact absurd rfl hbj
    ·rcases g a x hx with ⟨rfl,rfl⟩ | ⟨rfl,rfl⟩ | ⟨ha1,ha2,hx'⟩
     ·omega
     ·omega
     ·exact h a j x _ (by omega) (by omega) (by omega) hx' e0
    ·rcases g a x hx with ⟨rfl,rfl⟩ | ⟨rfl,rfl⟩ | ⟨ha1,ha2,hx'⟩
     ·exact h (a+1) b _ y (by omega) hb hb2 e1 hy'
     ·exact h j b _ y (by omega) hb hb2 e0 hy'
     ·exact h a b x y hab hb hb2 hx' hy'
   ·rw[if_neg hlt]
    have hge:x0≤x1:=by
     have:¬ (x1 < x0):=by simpa[ltI] using hlt
     omega
    intro a b x y hab hb hx hy
    rcases Nat.decEq b (j+1) with hbj | hbj
    ·exact h a b x y hab hb hbj hx hy
    ·subst hbj
     rw[e1] at hy
     cases hy
     rcases Nat.decEq a j with h1 | h1
     ·have:=h a j x x0 (by omega) (by omega) (by omega) hx e0
      omega
     ·subst h1
      rw[e0] at hx
      cases hx
      exact hge
theorem innerS_far (lt:Int→Int→Bool):∀ (j:Nat) (ws:List Int) (k:Nat),j < k→(innerS lt j ws)[k]?=ws[k]?
 | 0,ws,k,h=>rfl
 | j+1,ws,k,h=>by
   unfold innerS
   split
   ·split
    ·rw[innerS_far lt j _ k (by omega),List.getElem?_set_ne (by omega),List.getElem?_set_ne (by omega)]
    ·rfl
   ·rfl
theorem outerS_sorted:∀ (n i:Nat) (ws:List Int),i+n=ws.length→(∀ (a b:Nat) (x y:Int),a < b→b < i→ws[a]?=some x→ws[b]?=some y→x≤y) →
  ∀ (a b:Nat) (x y:Int),a < b→(outerS ltI n i ws)[a]?=some x→(outerS ltI n i ws)[b]?=some y→x≤y
 | 0,i,ws,hn,h=>fun a b x y hab hx hy=>h a b x y hab (by have:=(List.getElem?_eq_some_iff.1 hy).1;simp only[outerS] at this;omega) hx hy
 | n+1,i,ws,hn,h=>by
   rw[outerS]
   have hl:(innerS ltI i ws).length=ws.length:=(innerS_perm ltI i ws).length_eq
   refine outerS_sorted n (i+1) _ (by rw[hl];omega) ?_
   intro a b x y hab hb hx hy
   exact innerS_sorted i i ws (by omega) (Nat.le_refl _) (fun a b x y hab hb hbi hx hy=>h a b x y hab (by omega) hx hy) a b x y hab (by omega) hx hy
theorem sortI_sorted (xs:List Int):(sortI xs).Pairwise (·≤·):=by
 rw[List.pairwise_iff_getElem]
 intro a b ha hb hab
 rcases Nat.eq_zero_or_pos xs.length with h0 | h0
 ·rw[sortI_len] at ha;omega
 ·exact outerS_sorted (xs.length - 1) 1 xs (by omega) (fun a b x y hab hb hx hy=>by omega) a b _ _ hab (List.getElem?_eq_getElem ha) (List.getElem?_eq_getElem hb)
theorem sortI_mem (xs:List Int) (v:Int):v ∈ sortI xs↔v ∈ xs:=(outerS_perm ltI _ _ xs).mem_iff
theorem dd_mem:∀ (xs:List Int) (v:Int),v ∈ dd xs↔v ∈ xs
 | [],v=>Iff.rfl
 | [x],v=>Iff.rfl
 | x::y::r,v=>by
   have ih:=dd_mem (y::r) v
   simp only[dd]
   split
   ·rename_i h
    subst h
    rw[ih]
    simp
   ·rw[List.mem_cons,ih]
    exact List.mem_cons.symm
theorem dd_asc:∀ (xs:List Int),xs.Pairwise (·≤·)→(dd xs).Pairwise (· < ·)
 | [],_=>List.Pairwise.nil
 | [x],_=>by simp[dd]
 | x::y::r,h=>by
   have h1:=List.pairwise_cons.1 h
   have ih:=dd_asc (y::r) h1.2
   simp only[dd]
   split
   ·exact ih
   ·rename_i hne
    refine List.pairwise_cons.2 ⟨fun z hz=>?_,ih⟩
    rw[dd_mem] at hz
    have h2:=h1.1 y (by simp)
    have h3:y≤z:=by
     rcases List.mem_cons.1 hz with rfl | hz
     ·omega
     ·exact (List.pairwise_cons.1 h1.2).1 z hz
    omega
theorem visC_mem (T:Tbl) (r:Rule) (v:Int):v ∈ visC T r↔v ∈ T.pk∨v ∈ r.cols:=by
 unfold visC
 rw[dd_mem,sortI_mem,List.mem_append]
theorem visC_asc (T:Tbl) (r:Rule):(visC T r).Pairwise (· < ·):=dd_asc _ (sortI_sorted _)
theorem visC_in {T:Tbl} {r:Rule} (hT:VT T) (hc:∀ c ∈ r.cols,0≤c∧c < T.cols.length):∀ c ∈ visC T r,0≤c∧c < T.cols.length:=fun c h=>by
 rcases (visC_mem T r c).1 h with h | h
 ·exact hT.pk c h
 ·exact hc c h
theorem visC_len {T:Tbl} {r:Rule} (hT:VT T) (hc:∀ c ∈ r.cols,0≤c∧c < T.cols.length):(visC T r).length≤T.cols.length:=by
 refine asc_len (visC_in hT hc) fun i a b ha hb=>?_
 obtain⟨h1,rfl⟩:=List.getElem?_eq_some_iff.1 ha
 obtain⟨h2,rfl⟩:=List.getElem?_eq_some_iff.1 hb
 exact List.pairwise_iff_getElem.1 (visC_asc T r) i (i+1) h1 h2 (by omega)
structure Vis (g:Gr) (rules:List Rule) (user:ByteArray) (v:Int) (inst:List Rel) (table:ByteArray) (Ss:List Sch) (S:Sch) (r:Rule) (k:Int) (T:Tbl) (x:Rel):Prop where
 rs:VRs g rules Ss
 v0:0≤v
 s:Ss[v.toNat]?=some S
 cf:CF S inst
 l:lk rules user v table=some r
 vr:VR Ss r S k T
 x:inst[k.toNat]?=some x
 hv:m_access_Validate g rules=some 0
 hs:m_versions_Schema g v=some (S,0)
 hc:m_instance_Conforms S inst=some 0
theorem find_strEq {S:Sch} {a b:ByteArray} (h:strEq a b=true):m_schema_FindTable S a=m_schema_FindTable S b:=by
 have hab:a.toList=b.toList:=by simpa[strEq] using h
 have key:∀ (f f':Tbl→Option Bool),(∀ t,f t=f' t)→f=f':=fun f f' h=>funext h
 unfold m_schema_FindTable m_slices_IndexFunc_Table
 rw[key (fun xa_=>m_schema_FindTable_1 xa_ a) (fun xa_=>m_schema_FindTable_1 xa_ b) fun t=>by simp[m_schema_FindTable_1,strEq,hab]]
theorem w_Visible2 (g:Gr) (hx:∀ e ∈ g.edges,∀ x ∈ e.script,SmallX x) (rules:List Rule) (user:ByteArray) (v:Int) (inst:List Rel) (table:ByteArray) :
  Wp (m_access_Visible g rules user v inst table) fun q=>(q.2.2=0→∃ Ss S r k T x,Vis g rules user v inst table Ss S r k T x∧q.2.1=visC T r∧q.1=(x.rows.filter (mtch r)).map (projF (visC T r))) ∧
   ∀ S r,m_access_Validate g rules=some 0→m_versions_Schema g v=some (S,0)→m_instance_Conforms S inst=some 0→lk rules user v table=some r→q.2.2=0:=by
 have hL:=LIM_eq
 unfold m_access_Visible
 refine Wp.bind (w_access_Validate g hx rules) fun e he1 he=>Wp.cond (fun h=>Wp.ret (And.intro (by intro h0;simp only at h0;rw[h0] at h;cases h) (fun _ _ h9 _ _ _=>by rw[he1] at h9;cases h9;rfl))) fun h1=>?_
 obtain rfl:e=0:=by simpa using h1
 obtain⟨Ss,hR⟩:=he rfl
 refine Wp.bind (w_versions_Schema g hx v) fun q hq1 hq=>Wp.cond (fun h=>Wp.ret (And.intro (by intro h0;simp only at h0;rw[h0] at h;cases h) (fun _ _ _ h9 _ _=>by rw[hq1] at h9;cases h9;rfl))) fun h2=>?_
 obtain⟨S,e⟩:=q
 obtain rfl:e=0:=by simpa using h2
 obtain⟨Ss',hss,_,hv0,hSv⟩:=hq rfl
 have:=hR.ss
 rw[this] at hss
 cases hss
 have hSm:=List.mem_of_getElem? hSv
 have hVS:=hR.vs _ hSm
 refine Wp.bind (w_Conforms S (fun T hT=>(hVS.tab T hT).pk6) inst) fun e he1' he=>Wp.cond (fun h=>Wp.ret (And.intro (by intro h0;simp only at h0;rw[h0] at h;cases h) (fun _ _ _ h8 h9 _=>by rw[hq1] at h8;cases h8;rw[he1'] at h9;cases h9;rfl))) fun h3=>?_
 obtain rfl:e=0:=by simpa using h3
 have hCF:=he rfl
 rw[lookup_eq]
 cases hl:lk rules user v table with
 | none=>exact⟨_,rfl,by simp,fun _ _ _ _ _ h9=>by cases h9⟩
 | some r=>
   have hrm:r ∈ rules:=List.mem_of_find?_eq_some hl
   have hrp:lkP user v table r=true:=List.find?_some hl
   obtain⟨S',k,T,hVR⟩:=hR.r r hrm
   simp only[lkP,Bool.and_eq_true,beq_iff_eq] at hrp
   obtain⟨hu,hrv,hrt⟩:=hrp
   have hS':=hVR.s
   rw[hrv,hSv] at hS'
   cases hS'
   have hft:m_schema_FindTable S table=some (k,true):=by rw[← find_strEq hrt];exact hVR.ft
   show Wp (bindK (m_schema_FindTable S table) _) _
   rw[hft]
   have hTm:=List.mem_of_getElem? hVR.t
   have hVT:=hVS.tab T hTm
   have hkl:=(List.getElem?_eq_some_iff.1 hVR.t).1
   have hkl2:k.toNat < inst.length:=by rw[hCF.len];exact hkl
   have hk0:=hVR.k0
   have hkk:k=((k.toNat:Nat):Int):=by omega
   obtain⟨x,hx⟩:∃ x,inst[k.toNat]?=some x:=⟨_,List.getElem?_eq_getElem hkl2⟩
   show Wp (getK S.tables k _) _
   rw[hkk]
   refine Wp.getN hVR.t (Wp.bind (w_visibleColumns hVT hVR.cols hVR.asc) fun c _ hc=>Wp.getN hx ?_)
   subst hc
   have hrow:=hCF.row _ _ _ hx hVR.t
   have h24:=hCF.l24 x (List.mem_of_getElem? hx)
   have hvl:=visC_len hVT hVR.cols
   have h6:=hVT.cols6
   refine Wp.for (fun i (s:List (List GV))=>s=((x.rows.take i).filter (mtch r)).map (projF (visC T r))) (by simp) ?_ ?_
   ·intro i row s next hi hm hI hn
    have hil:=(List.getElem?_eq_some_iff.1 hi).1
    have hcr:=hrow row hm
    rw[matches_eq hVT.pk hVR.pr hcr.len]
    have htk:x.rows.take (i+1)=x.rows.take i++[row]:=by
     obtain⟨h8,h9⟩:=List.getElem?_eq_some_iff.1 hi
     rw[List.take_succ_eq_append_getElem h8,h9]
    have hsl:s.length≤24:=by
     rw[hI,List.length_map]
     refine Nat.le_trans (List.length_filter_le _ _) ?_
     simp;omega
    show Wp (bif mtch r row then _ else _) _
    refine Wp.cond (fun hb=>Wp.bind (w_project row (visC T r) (by omega) fun c hc=>by have:=visC_in hVT hVR.cols c hc;have:=hcr.len;omega) fun p _ hp=>Wp.app (by simp;omega) (hn _ ?_)) fun hb=>hn _ ?_
    ·rw[htk,List.filter_append,List.map_append,← hI,hp]
     simp[hb]
    ·rw[htk,List.filter_append,List.map_append,← hI]
     simp[hb]
   ·intro s hs
    rw[List.take_length] at hs
    exact Wp.ret ⟨fun _=>⟨Ss,S,r,k,T,x,⟨hR,hv0,hSv,hCF,hl,hVR,hx,he1,hq1,he1'⟩,rfl,hs⟩,fun _ _ _ _ _ _=>rfl⟩
theorem w_Visible (g:Gr) (hx:∀ e ∈ g.edges,∀ x ∈ e.script,SmallX x) (rules:List Rule) (user:ByteArray) (v:Int) (inst:List Rel) (table:ByteArray) :
  Wp (m_access_Visible g rules user v inst table) fun q=>q.2.2=0→∃ Ss S r k T x,Vis g rules user v inst table Ss S r k T x∧q.2.1=visC T r∧q.1=(x.rows.filter (mtch r)).map (projF (visC T r)):=
 (w_Visible2 g hx rules user v inst table).mono fun _ _ h=>h.1
set_option maxRecDepth 100000 in
theorem accessWorks:m_stemkeep1_accessWorks=some true:=by decide +kernel
theorem w_bounded (g:Gr) (inst:List Rel) (changes:List Chg) (hl:inst.length≤2097152):Wp (m_stemkeep1_bounded g ⟨[inst],[]⟩ changes) fun _=>True:=by
 unfold m_stemkeep1_bounded m_slices_Concat_Instance
 refine Wp.cond (fun _=>Wp.ret trivial) fun _=>Wp.cond (fun _=>Wp.ret trivial) fun _=>Wp.cond (fun _=>Wp.ret trivial) fun _=>Wp.cond (fun _=>Wp.ret trivial) fun _=>?_
 refine Wp.bind (R:=fun v=>v=[]) (Wp.chk (by simp) (Wp.ret rfl)) fun v _ hv=>?_
 subst hv
 refine Wp.bind (R:=fun v=>v=[inst]) (Wp.chk (by simp) (Wp.ret rfl)) fun v _ hv=>?_
 refine Wp.for (fun _ _=>True) trivial ?_ fun _ _=>Wp.ret trivial
 intro i x s next _ _ _ hn
 refine Wp.cond (fun _=>Wp.ret trivial) fun _=>Wp.bind (R:=fun _=>True) ?_ fun _ _ _=>Wp.cond (fun _=>Wp.ret trivial) fun _=>hn () trivial
 unfold m_slices_ContainsFunc_Relation m_slices_IndexFunc_Relation
 refine Wp.bind (R:=fun _=>True) ⟨_,index_eq (p:=fun r=>decide (40 < (r.rows.length:Int))) fun x _=>rfl,trivial⟩ fun _ _ _=>Wp.ret trivial
theorem ba_refl (b:ByteArray):(b == b)=true:=by
 cases b with
 | mk d=>
   first
    | exact beq_self_eq_true _
    | (show (d == d)=true;exact beq_self_eq_true d)
theorem w_EqualRow (a:List GV):Wp (m_stemref1_EqualRow a a) fun b=>b=true:=by
 unfold m_stemref1_EqualRow
 refine Wp.cond (fun h=>by simp at h) fun _=>Wp.for (fun _ _=>True) trivial ?_ fun _ _=>Wp.ret rfl
 intro i x s next hx _ _ hn
 exact Wp.getN hx (Wp.cond (fun h=>by simp[ba_refl] at h) fun _=>hn () trivial)
theorem w_EqualRows (a:List (List GV)):Wp (m_stemref1_EqualRows a a) fun b=>b=true:=by
 unfold m_stemref1_EqualRows
 refine Wp.cond (fun h=>by simp at h) fun _=>Wp.for (fun _ _=>True) trivial ?_ fun _ _=>Wp.ret rfl
 intro i x s next hx _ _ hn
 refine Wp.getN hx (Wp.bind (w_EqualRow x) fun b _ hb=>Wp.cond (fun h=>by simp[hb] at h) fun _=>hn () trivial)
theorem w_EqualInt (a:List Int):Wp (m_slices_Equal_Int a a) fun b=>b=true:=by
 unfold m_slices_Equal_Int
 refine Wp.cond (fun h=>by simp at h) fun _=>Wp.for (fun _ _=>True) trivial ?_ fun _ _=>Wp.ret rfl
 intro i x s next hx _ _ hn
 exact Wp.getN hx (Wp.cond (fun h=>by simp at h) fun _=>hn () trivial)
theorem ba_eq {a b:ByteArray} (h:(a == b)=true):a=b:=by
 cases a with
 | mk d=>cases b with
   | mk e=>
     have h':(d == e)=true:=h
     rw[eq_of_beq h']
theorem any_list {α:Type} {xs:List α} {f:α→Option Bool} {P:α→Prop} (hf:∀ x ∈ xs,Wp (f x) fun b=>b=true↔P x):Wp (forK (fun (i:Nat) (x:α) (s:Unit) next=>bindK (f x) fun v=>bif v then some (i:Int) else next ()) (fun _=>some (-1)) xs 0 ()) fun k=>(0≤k∧∃ x ∈ xs,P x)∨(k < 0∧∀ x ∈ xs,¬ P x):=by
 refine Wp.mono (Wp.index fun x hx=>(hf x hx).mono fun _ _ _=>trivial) fun k _ hk=>?_
 rcases hk with ⟨rfl,h⟩ | ⟨i,x,rfl,hx,h⟩
 ·refine .inr ⟨by omega,fun x hx hp=>?_⟩
  obtain⟨b,hb,hbp⟩:=hf x hx
  rw[h x hx] at hb
  cases hb
  exact absurd (hbp.2 hp) (by simp)
 ·obtain⟨b,hb,hbp⟩:=hf x (List.mem_of_getElem? hx)
  rw[h] at hb
  cases hb
  exact .inl ⟨by omega,x,List.mem_of_getElem? hx,hbp.1 rfl⟩
end Go.Proofs.YthgepknlibmjcaaGreat
end
section
namespace Go.Proofs.YthgepknlibmjcaaGreat
open Go.Am
def m_view_restrict (t:Tbl) (columns:List Int):Option Tbl:=
 (forK (fun (i5:Nat) (x5:Int) (s5:(List Col) × (List Int)) next_5=>(getK t.cols x5 fun x6=>(appK2 s5.1 [x6] fun _=>(bindK (m_slices_Contains_Int t.pk x5) fun v9=>(bif v9 then (appK2 s5.2 [(i5:Int)] fun _=>(next_5 ((s5.1++[x6]),(s5.2++[(i5:Int)])))) else (next_5 ((s5.1++[x6]),s5.2))))))) (fun (s5:(List Col) × (List Int))=>(some (Tbl.mk t.name s5.1 s5.2))) columns 0 ([],[]))
theorem c_view_restrict (t:Tbl) (columns:List Int) (r:Tbl) (hm:Is (m_view_restrict t columns) r):PSpec Tryz.prog 60 [.agg t.enc,.one (.d (.sl (columns.map encI)))] (.agg (r.enc.map RC.d)):=by
 unfold m_view_restrict at hm
 refine PSpec.of_vc Tryz.func60 rfl (by kernel_rfl) (n:=40) rfl rfl (by simp) ?_
 try simp[*]
 intro hl4
 replace hl4:columns.length≤2097152:=by simpa using hl4
 refine Wait.for (xs:=columns) (s0:=([],[])) (fun i5 s5 e5 h5=>∃ c5_0 c5_1:C,(e5.n=40∧e5.get 2=.one (.ptr (0,32) 0)∧e5.get 4=.one (.ptr (1,64) 0)∧e5.get 5=.one (.ptr (2,80) 0)∧e5.get 11=.one (.d (.sl (columns.map encI)))∧e5.get 12=.one (.d (.int .i64 (columns.length:Int)))∧e5.get 13=.one (.d (.int .i64 (i5:Int)))∧h5.box (0,32)=some [.d (.str t.name),.d (.sl (t.cols.map Col.enc)),.d (.sl (t.pk.map encI))]∧h5.box (1,64)=some [.d (.str ByteArray.empty),.nil,.nil]∧h5.box (2,80)=some [.d (.str t.name),c5_0,c5_1]∧Grows h5 3 c5_0 (s5.1.map Col.enc)∧Grows h5 1 c5_1 (s5.2.map encI))∧Apart c5_0 c5_1) hm ⟨.nil,.nil,by simp (maxDischargeDepth:=20) [*],(by simp)⟩ ?_ ?_
 ·rintro i5 s5 e5 h5 ⟨c5_0,c5_1,⟨hn5,h5_2,h5_4,h5_5,h5_11,h5_12,h5_13,hb5_b1,hb5_b2,hb5_b3,gc5_0,gc5_1⟩,apc5_0_c5_1⟩ hlt5 hm
  have hlc5_0:=gc5_0.list
  have hdc5_0:=gc5_0.toD
  have hac5_0:=gc5_0.toA
  have huc5_0:=gc5_0.useUp_arr
  have hlc5_1:=gc5_1.list
  have hdc5_1:=gc5_1.toD
  have hac5_1:=gc5_1.toA
  have huc5_1:=gc5_1.useUp_arr
  have hw5:IntKind.i64.wrap ((i5:Int)+1)=(i5:Int)+1:=IntWalk.i64_in _ (by omega)
  try simp[*]
  refine Wait.of (SWP.draw (Plan.then_ [0,1,2,3,4,5,6,7,8,9,10] .done) follows (by kernel_rfl) ?_)
  try simp[*,Plan.then_,vcPlan,planOps,isCallAt,callKind]
  replace hm:=hm.get
  obtain⟨x6,h0x6,hxx6,hm⟩:=hm
  try simp[*,Plan.then_,vcPlan,planOps,isCallAt,callKind]
  refine r_app (xs:=s5.1) (ys:=[x6]) (enc:=Col.enc) hm ty_el73 (by first | exact Grows.nil | (simp (maxDischargeDepth:=20) [*];done) | (simp (maxDischargeDepth:=20) [*];refine⟨?_,by omega⟩;intro hq;subst hq;simp at hz2<;>omega)) (by simp[*]) (by decide) (by decide) (fun _=>rfl) ?_
  clear hm;intro hl8 hm g7
  try simp[*,Plan.then_,vcPlan,planOps,isCallAt,callKind]
  refine r_call (av:=[.one (.d (.sl (t.pk.map encI))),.one (.d (.int .i64 (columns[i5])))]) hm (fun v hv=>c_slices_Contains_Int _ _ v hv) (by simp[*]) ?_
  clear hm;intro v9 hvv9 hm
  try simp[*]
  refine r_cond hm ?_ ?_<;>clear hm<;>intro hc10 hm
  ·try simp[*]
   refine r_app (xs:=s5.2) (ys:=[(i5:Int)]) (enc:=encI) hm ty_el30 (by first | exact Grows.nil | (simp (maxDischargeDepth:=20) [*];done) | (simp (maxDischargeDepth:=20) [*];refine⟨?_,by omega⟩;intro hq;subst hq;simp at hz2<;>omega)) (by simp[*]) (by decide) (by decide) (fun _=>rfl) ?_
   clear hm;intro hl12 hm g11
   try simp[*]
   exact BackF.of ((s5.1++[x6]),(s5.2++[(i5:Int)])) ⟨⟨.own (h5.ep+1,416) ((s5.1++[x6]).map Col.enc),.own (h5.ep+4,576) ((s5.2++[(i5:Int)]).map encI),by simp (maxDischargeDepth:=20) [*],(by simp)⟩,hm⟩
  ·try simp[*]
   exact BackF.of ((s5.1++[x6]),s5.2) ⟨⟨.own (h5.ep+1,416) ((s5.1++[x6]).map Col.enc),c5_1,by simp (maxDischargeDepth:=20) [*],(by first | (simp[*];done) | exact gc5_1.apart (by simp))⟩,hm⟩
 ·rintro s5 e5 h5 ⟨c5_0,c5_1,⟨hn5,h5_2,h5_4,h5_5,h5_11,h5_12,h5_13,hb5_b1,hb5_b2,hb5_b3,gc5_0,gc5_1⟩,apc5_0_c5_1⟩ hm
  have hlc5_0:=gc5_0.list
  have hdc5_0:=gc5_0.toD
  have hac5_0:=gc5_0.toA
  have huc5_0:=gc5_0.useUp_arr
  have hlc5_1:=gc5_1.list
  have hdc5_1:=gc5_1.toD
  have hac5_1:=gc5_1.toA
  have huc5_1:=gc5_1.useUp_arr
  try simp[*]
  obtain rfl:=r_ret hm
  exact ret0 (vs:=[_]) (by simp[*];try exact rfl) (by simp[*])
end Go.Proofs.YthgepknlibmjcaaGreat
end
