/- joined by a program out of 30 texts -/
import Derived.Test.YthiojhcimecdgaaGreatDoorL2
set_option linter.unusedVariables false
set_option linter.unusedSimpArgs false
set_option maxRecDepth 20000
namespace Go.Proofs.YthiojhcimecdgaaGreatDoor
section
open Go.Am
def Z1g (s_:Sch) (c:Cons):Option Int:=
 (bindK (Z05 s_ c.table) fun v3=>(bif !v3.2 then (some 4) else (getK s_.tables v3.1 fun x5=>(bindK (Z1l (GV.mk 0 0 ByteArray.empty) c.op (GV.mk 0 0 ByteArray.empty)) fun v6=>(bif decide (c.left < 0) then (some 3) else (bif decide ((x5.cols.length:Int)≤c.left) then (some 3) else (bif (v6.2 != 0) then (some 3) else (bif decide (c.right < (-1)) then (some 3) else (bif decide ((x5.cols.length:Int)≤c.right) then (some 3) else (bif decide (0≤c.right) then (bif (!(c.value.kind == 0) || (!(c.value.int == 0) || (!(c.value.text == ByteArray.empty)))) then (some 3) else (getK x5.cols c.left fun x16=>(getK x5.cols c.right fun x17=>(bif (x16.kind != x17.kind) then (some 7) else (some 0))))) else (getK x5.cols c.left fun x19=>(bif (c.value.kind != x19.kind) then (some 7) else (bindK (Z0h c.value) fun v21=>(some v21))))))))))))))
instance c_schema_validateConstraint (s_:Sch) (c:Cons):Con (Z1g s_ c) Tryz.prog 90 [.agg s_.enc,.agg c.enc] (fun r=>.one (.d (.int .i64 r))):=by
 unfold Z1g;have p1:PH [9] (Plan.then_ [0,1,2,3,4,5,6,7,8,9,10,11,12] .done):=.intro;have p2:PH [12] (Plan.then_ [0,1,2,3,4,5,6,7,8,9] .done):=.intro;exact go 99 Tryz.func90 rfl (by kernel_rfl) rfl rfl (by simp)
def Z14 (s_:List Cons) (v_:Cons):Option Int:=
 (forK (fun (i3:Nat) (x3:Cons) (s3:Unit) next_3=>(bif (v_.table == x3.table && (v_.left == x3.left && (v_.op == x3.op && (v_.right == x3.right && (v_.value.kind == x3.value.kind && (v_.value.int == x3.value.int && (v_.value.text == x3.value.text))))))) then (some (i3:Int)) else (next_3 ()))) (fun (s3:Unit)=>(some (-1))) s_ 0 ())
instance c_slices_Index_Constraint (s_:List Cons) (v_:Cons):Con (Z14 s_ v_) Tryz.prog 132 [.one (.d (.sl (s_.map Cons.enc))),.agg v_.enc] (fun r=>.one (.d (.int .i64 r))):=by
 unfold Z14;have l1:LH (σ:=Unit) 8 [0,3,7] []:=.intro;have p1:PH [4] (Plan.then_ [0,1,2,3,4,5] .done):=.intro;exact go 19 Tryz.func132 rfl (by kernel_rfl) rfl rfl (by simp)
def Z1a (s_:List Cons) (v_:Cons):Option Bool:=
 (bindK (Z14 s_ v_) fun v2=>(some (decide (0≤v2))))
instance c_slices_Contains_Constraint (s_:List Cons) (v_:Cons):Con (Z1a s_ v_) Tryz.prog 91 [.one (.d (.sl (s_.map Cons.enc))),.agg v_.enc] (fun r=>.one (.d (.bool r))):=by
 unfold Z1a;exact go 9 Tryz.func91 rfl (by kernel_rfl) rfl rfl (by simp)
def Z0i (s_:Sch):Option Int:=
 (bif decide (6 < (s_.tables.length:Int)) then (some 2) else (bif decide (8 < (s_.fks.length:Int)) then (some 2) else (bif decide (8 < (s_.cons.length:Int)) then (some 2) else (forK (fun (i9:Nat) (x9:Tbl) (s9:Unit) next_9=>(bindK (Z2g x9) fun v11=>(bif (v11 != 0) then (some v11) else (bif decide (0 < i9) then (chkK (okI ((i9:Int) - 1)) (getK s_.tables ((i9:Int) - 1) fun x15=>(bif (Zbk x9.name x15.name || strEq x9.name x15.name) then (some 6) else (next_9 ())))) else (next_9 ()))))) (fun (s9:Unit)=>(forK (fun (i18:Nat) (x18:Fk) (s18:Unit) next_18=>(bindK (Z0s s_ x18) fun v20=>(bif (v20 != 0) then (some v20) else (chkK (0≤0∧0≤(i18:Int)∧(i18:Int)≤(s_.fks.length:Int)) (bindK (Z07 ((s_.fks.take i18).drop 0) (fun xa_=>Z3g xa_ x18)) fun v23=>(bif v23 then (some 5) else (next_18 ()))))))) (fun (s18:Unit)=>(forK (fun (i26:Nat) (x26:Cons) (s26:Unit) next_26=>(bindK (Z1g s_ x26) fun v28=>(bif (v28 != 0) then (some v28) else (chkK (0≤0∧0≤(i26:Int)∧(i26:Int)≤(s_.cons.length:Int)) (bindK (Z1a ((s_.cons.take i26).drop 0) x26) fun v31=>(bif v31 then (some 5) else (next_26 ()))))))) (fun (s26:Unit)=>(some 0)) s_.cons 0 ())) s_.fks 0 ())) s_.tables 0 ()))))
instance c_schema_Validate (s_:Sch):Con (Z0i s_) Tryz.prog 66 [.agg s_.enc] (fun r=>.one (.d (.int .i64 r))):=by
 unfold Z0i;have l1:LH (σ:=Unit) 31 [1,29,30] []:=.intro;have l2:LH (σ:=Unit) 59 [1,57,58] []:=.intro;have l3:LH (σ:=Unit) 80 [1,78,79] []:=.intro;have p1:PH [9] (Plan.then_ [0,1,2,3,4,5,6,7,8,9,10,11,12,13] .done):=.intro;have p2:PH [27] (Plan.then_ [0,1,2,3,4,5] .done):=.intro;exact go 98 Tryz.func66 rfl (by kernel_rfl) rfl rfl (by simp)
end
section
open Go Go.Am
theorem Z7d (t:Tbl) (nm:ByteArray):Wp (Z08 t nm) fun v=>0≤v.1∧(v.2=true→v.1 < t.cols.length)∧(v.2=false→v.1=0):=by
 unfold Z08;refine Wp.bind (Wp.index fun x _=>Wp.ret trivial) fun k _ hk=>Wp.ret ?_
 have:=hk.lt
 refine⟨?_,fun h=>?_,fun h=>?_⟩<;>simp at *<;>first | omega | (split<;>omega)
theorem Z3d (S:Sch) (nm:ByteArray):Wp (Z05 S nm) fun v=>0≤v.1∧(v.2=true→v.1 < S.tables.length∧∃ T,S.tables[v.1.toNat]?=some T∧strEq T.name nm=true)∧(v.2=false→∀ T ∈ S.tables,strEq T.name nm=false):=by
 unfold Z05;refine Wp.bind (Wp.index fun x _=>Wp.ret trivial) fun k _ hk=>Wp.ret ?_;have hl:=hk.lt;rcases hk with ⟨rfl,h⟩ | ⟨i,x,rfl,hx,h⟩
 ·refine⟨by simp,fun h=>by simp at h,fun _ T hT=>?_⟩
  have:=h T hT
  simpa[Z2b] using this
 ·have h1:¬ ((i:Int) < 0):=by omega
  refine⟨by simp[h1],fun _=>⟨by simp[h1];omega,x,by simp[h1,hx],?_⟩,fun h=>by simp at h⟩;simpa[Z2b] using h
structure VT (T:Tbl):Prop where
 cols0:0 < T.cols.length
 cols6:T.cols.length≤6
 pk0:0 < T.pk.length
 pk:∀ v ∈ T.pk,0≤v∧v < T.cols.length
 asc:∀ (i:Nat) (a b:Int),T.pk[i]?=some a→T.pk[i+1]?=some b→a < b
 name:Z4d T.name=true
theorem Zcz (s:ByteArray):Wp (Z3o s) fun b=>b=Z4d s:=Wp.ret rfl
theorem Zcy (T:Tbl):Wp (Z2g T) fun e=>e=0→VT T:=by
 unfold Z2g;refine Wp.bind (Zcz _) fun v _ hv=>Wp.cond (fun _=>Wp.ret (by simp)) fun hv1=>?_;refine Wp.cond (fun _=>Wp.ret (by simp)) fun h1=>Wp.cond (fun _=>Wp.ret (by simp)) fun h2=>?_;have hc0:0 < T.cols.length:=by simp at h1;exact List.length_pos_iff.2 h1
 have hc6:T.cols.length≤6:=by simp at h2;omega
 refine Wp.for (fun _ _=>True) trivial ?_ ?_
 ·intro i x s next hx hm _ hn;refine Wp.bind (Zcz _) fun v _ _=>Wp.cond (fun _=>Wp.ret (by simp)) fun _=>?_;refine Wp.bind (Z7d _ _) fun v _ _=>Wp.cond (fun _=>Wp.ret (by simp)) fun _=>Wp.cond (fun _=>Wp.ret (by simp)) fun _=>Wp.cond (fun _=>Wp.ret (by simp)) fun _=>hn () trivial
 ·intro s _;refine Wp.for (fun i _=>(∀ (j:Nat) (v:Int),j < i→T.pk[j]?=some v→0≤v∧v < T.cols.length)∧(∀ (j:Nat) (a b:Int),j+1 < i→T.pk[j]?=some a→T.pk[j+1]?=some b→a < b)∧∀ (j:Nat) (v:Int),j < i→T.pk[j]?=some v→(j:Int)≤v) ⟨by intro j v h;omega,by intro j a b h;omega,by intro j v h;omega⟩ ?_ ?_
  ·rintro i x s next hx hm ⟨hI,hJ,hK⟩ hn;refine Wp.cond (fun _=>Wp.ret (by simp)) fun h3=>Wp.cond (fun _=>Wp.ret (by simp)) fun h4=>?_;have h0:0≤x:=by simpa using h3
   have h5:x < T.cols.length:=by simpa using h4
   have hI':∀ (j:Nat) (v:Int),j < i+1→T.pk[j]?=some v→0≤v∧v < T.cols.length:=by
    intro j v hj hv;rcases Nat.lt_or_ge j i with h | h
    ·exact hI j v h hv
    ·obtain rfl:j=i:=by omega
     rw[hx] at hv;cases hv;exact⟨h0,h5⟩
   have hil:=(List.getElem?_eq_some_iff.1 hx).1;refine Wp.get h0 h5 fun c _ _=>Wp.cond (fun _=>Wp.ret (by simp)) fun _=>Wp.cond (fun h6=>?_) fun h6=>hn () ⟨hI',?_,?_⟩
   ·have hi:0 < i:=by simpa using h6
    have hil1:i - 1 < T.pk.length:=by omega
    have hb1:=hI (i - 1) _ (by omega) (List.getElem?_eq_getElem hil1);have hb2:=hK (i - 1) _ (by omega) (List.getElem?_eq_getElem hil1);refine Wp.chk ⟨by omega,by have:=hc6;omega⟩ ?_;refine Wp.get (by omega) (by omega) fun y hy _=>Wp.cond (fun _=>Wp.ret (by simp)) fun h7=>?_;have hyx:y < x:=by simpa using h7
    have hy1:T.pk[i - 1]?=some y:=by rw[← hy];congr 1;omega
    refine hn () ⟨hI',?_,?_⟩
    ·intro j a b hj ha hb;rcases Nat.lt_or_ge (j+1) i with h | h
     ·exact hJ j a b h ha hb
     ·obtain rfl:i=j+1:=by omega
      rw[hx] at hb;cases hb;rw[show j+1 - 1=j by omega,ha] at hy1;cases hy1;exact hyx
    ·intro j v hj hv;rcases Nat.lt_or_ge j i with h | h
     ·exact hK j v h hv
     ·obtain rfl:j=i:=by omega
      rw[hx] at hv;cases hv
      have:=hK (j - 1) y (by omega) hy1
      omega
   ·intro j a b hj
    have:i=0:=by simpa using h6
    omega
   ·intro j v hj hv;have hi0:i=0:=by simpa using h6
    obtain rfl:j=0:=by omega
    subst hi0;rw[hx] at hv;cases hv;omega
  ·rintro s ⟨hI,hJ,_⟩;refine Wp.cond (fun _=>Wp.ret (by simp)) fun h3=>Wp.ret fun _=>?_;have hp:0 < T.pk.length:=by simp at h3;exact List.length_pos_iff.2 h3
   refine⟨hc0,hc6,hp,fun v hv=>?_,fun i a b ha hb=>hJ i a b (List.getElem?_eq_some_iff.1 hb).1 ha hb,by rw[← hv];simpa using hv1⟩;obtain⟨j,hj,rfl⟩:=List.getElem_of_mem hv;exact hI j _ hj (List.getElem?_eq_getElem hj)
theorem Z70 (a b:List Int):Wp (Z19 a b) fun r=>r=true→a=b:=by
 unfold Z19;refine Wp.cond (fun _=>Wp.ret (by simp)) fun h=>?_;have hl:a.length=b.length:=by simp at h;omega
 refine Wp.for (fun i _=>∀ j,j < i→a[j]?=b[j]?) (by intro j h;omega) ?_ ?_
 ·intro i x s next hx hm hI hn;have hi:=(List.getElem?_eq_some_iff.1 hx).1;refine Wp.get (by omega) (by omega) fun y hy _=>Wp.cond (fun _=>Wp.ret (by simp)) fun h2=>hn () fun j hj=>?_;rcases Nat.lt_or_ge j i with h3 | h3
  ·exact hI j h3
  ·obtain rfl:j=i:=by omega
   rw[hx,show (some x:Option Int)=some y by simp at h2;rw[h2],← hy]
   congr 1
 ·intro s hI;refine Wp.ret fun _=>List.ext_getElem? fun j=>?_;rcases Nat.lt_or_ge j a.length with h3 | h3
  ·exact hI j h3
  ·rw[List.getElem?_eq_none h3,List.getElem?_eq_none (by omega)]
theorem Z4q (a b:Fk):Wp (Z09 a b) fun _=>True:=by
 unfold Z09;exact Wp.cond (fun _=>Wp.bind (Z70 _ _) fun _ _ _=>Wp.cond (fun _=>Wp.ret trivial) fun _=>Wp.ret trivial) fun _=>Wp.ret trivial
theorem Z41 (xs:List Fk) (f:Fk→Option Bool) (hf:∀ x ∈ xs,Wp (f x) fun _=>True):Wp (Z07 xs f) fun _=>True:=by
 unfold Z07 Z0e;exact Wp.bind (Wp.index hf) fun _ _ _=>Wp.ret trivial
theorem Zkz (a b:GV):Wp (Z1v a b) fun _=>True:=by
 unfold Z1v Z1e Z3a
 repeat' first | exact Wp.ret trivial | refine Wp.bind (R:=fun _=>True) ?_ fun _ _ _=>?_ | refine Wp.cond (fun _=>?_) fun _=>?_
theorem Zd0 (a:GV) (op:ByteArray) (b:GV):Wp (Z1l a op b) fun _=>True:=by
 unfold Z1l
 repeat' first | exact Wp.ret trivial | refine Wp.bind (Zkz _ _) fun _ _ _=>?_ | refine Wp.cond (fun _=>?_) fun _=>?_
theorem Z4c (a:GV):Wp (Z0h a) fun _=>True:=by
 unfold Z0h
 repeat' first | exact Wp.ret trivial | refine Wp.cond (fun _=>?_) fun _=>?_
def VF (f:Fk):Prop:=f.cols.length≤6∧∀ v ∈ f.cols,0≤v∧v < 6
def VO (c:Cons):Prop:=(0≤c.left∧c.left < 6)∧-1≤c.right∧c.right < 6
theorem VT.pk6 {T:Tbl} (h:VT T):T.pk.length≤6:=by
 have:∀ (n:Nat) (v:Int),T.pk[n]?=some v→(n:Int)≤v:=by
  intro n
  induction n with
  | zero=>intro v hv;have:=(h.pk v (List.mem_of_getElem? hv)).1;omega
  | succ n ih=>
    intro v hv;have hn:=(List.getElem?_eq_some_iff.1 hv).1;have h1:=ih _ (List.getElem?_eq_getElem (by omega));have h2:=h.asc n _ v (List.getElem?_eq_getElem (by omega)) hv;omega
 have hp:=h.pk0;have h1:=this (T.pk.length - 1) _ (List.getElem?_eq_getElem (by omega));have h2:=(h.pk _ (List.getElem_mem (show T.pk.length - 1 < T.pk.length by omega))).2;have h3:=h.cols6;omega
theorem Z9n (S:Sch) (hT:∀ T ∈ S.tables,VT T) (f:Fk):Wp (Z0s S f) fun e=>e=0→VF f:=by
 unfold Z0s;refine Wp.bind (Z3d S f.table) fun v _ hv=>Wp.bind (Z3d S f.ref) fun w _ hw=>Wp.cond (fun _=>Wp.ret (by simp)) fun h1=>Wp.cond (fun _=>Wp.ret (by simp)) fun h2=>?_;have h1':v.2=true:=by simpa using h1
 have h2':w.2=true:=by simpa using h2
 refine Wp.get hv.1 (hv.2.1 h1').1 fun T hTx hTm=>Wp.get hw.1 (hw.2.1 h2').1 fun R hRx hRm=>Wp.cond (fun _=>Wp.ret (by simp)) fun h3=>?_;have VTT:=hT T hTm;have VTR:=hT R hRm;have hl:f.cols.length=R.pk.length:=by simp at h3;omega
 refine Wp.for (fun i _=>∀ (j:Nat) (v:Int),j < i→f.cols[j]?=some v→0≤v∧v < 6) (by intro j v h;omega) ?_ ?_
 ·intro i x s next hx hm hI hn;have hi:=(List.getElem?_eq_some_iff.1 hx).1;refine Wp.cond (fun _=>Wp.ret (by simp)) fun h4=>Wp.cond (fun _=>Wp.ret (by simp)) fun h5=>?_;have hx0:0≤x:=by simpa using h4
  have hx1:x < T.cols.length:=by simpa using h5
  refine Wp.get hx0 hx1 fun a _ _=>Wp.get (by omega) (by omega) fun p _ hp=>Wp.get (VTR.pk p hp).1 (VTR.pk p hp).2 fun b _ _=>Wp.cond (fun _=>Wp.ret (by simp)) fun _=>hn () fun j v hj hv'=>?_;rcases Nat.lt_or_ge j i with h6 | h6
  ·exact hI j v h6 hv'
  ·obtain rfl:j=i:=by omega
   rw[hx] at hv';cases hv'
   have:=VTT.cols6
   omega
 ·intro s hI;refine Wp.ret fun _=>⟨by rw[hl];exact VTR.pk6,fun v hv'=>?_⟩;obtain⟨j,hj,rfl⟩:=List.getElem_of_mem hv';exact hI j _ hj (List.getElem?_eq_getElem hj)
theorem Z9o (S:Sch) (hT:∀ T ∈ S.tables,VT T) (c:Cons):Wp (Z1g S c) fun e=>e=0→VO c:=by
 unfold Z1g;refine Wp.bind (Z3d S c.table) fun v _ hv=>Wp.cond (fun _=>Wp.ret (by simp)) fun h1=>?_;have h1':v.2=true:=by simpa using h1
 refine Wp.get hv.1 (hv.2.1 h1').1 fun T hTx hTm=>Wp.bind (Zd0 _ _ _) fun q _ _=>?_;have VTT:=hT T hTm;have h6:=VTT.cols6;refine Wp.cond (fun _=>Wp.ret (by simp)) fun h2=>Wp.cond (fun _=>Wp.ret (by simp)) fun h3=>Wp.cond (fun _=>Wp.ret (by simp)) fun _=>Wp.cond (fun _=>Wp.ret (by simp)) fun h4=>Wp.cond (fun _=>Wp.ret (by simp)) fun h5=>?_;have a2:0≤c.left:=by simpa using h2
 have a3:c.left < T.cols.length:=by simpa using h3
 have a4:-1≤c.right:=by simpa using h4
 have a5:c.right < T.cols.length:=by simpa using h5
 have hv0:VO c:=⟨⟨a2,by omega⟩,a4,by omega⟩;refine Wp.cond (fun h7=>?_) fun _=>?_
 ·have a7:0≤c.right:=by simpa using h7
  exact Wp.cond (fun _=>Wp.ret (by simp)) fun _=>Wp.get a2 a3 fun _ _ _=>Wp.get a7 a5 fun _ _ _=>Wp.cond (fun _=>Wp.ret (by simp)) fun _=>Wp.ret fun _=>hv0
 ·exact Wp.get a2 a3 fun _ _ _=>Wp.cond (fun _=>Wp.ret (by simp)) fun _=>Wp.bind (Z4c _) fun _ _ _=>Wp.ret fun _=>hv0
theorem Zd3 (xs:List Cons) (c:Cons):Wp (Z1a xs c) fun _=>True:=by
 unfold Z1a Z14;refine Wp.bind (R:=fun _=>True) (Wp.for (fun _ _=>True) trivial (fun i x s next _ _ _ hn=>Wp.cond (fun _=>Wp.ret trivial) fun _=>hn () trivial) fun _ _=>Wp.ret trivial) fun _ _ _=>Wp.ret trivial
structure VS0 (S:Sch):Prop where
 t6:S.tables.length≤6
 f8:S.fks.length≤8
 o8:S.cons.length≤8
 tab:∀ T ∈ S.tables,VT T
 fk:∀ f ∈ S.fks,VF f
 con:∀ c ∈ S.cons,VO c
theorem Z6t {α:Type} {xs:List α} {p:α→Prop} (h:∀ (j:Nat) (x:α),j < xs.length→xs[j]?=some x→p x):∀ x ∈ xs,p x:=by
 intro x hx;obtain⟨j,hj,rfl⟩:=List.getElem_of_mem hx;exact h j _ hj (List.getElem?_eq_getElem hj)
theorem Z4e {α:Type} {xs:List α} {p:α→Prop} {i:Nat} {x:α} (h:∀ (j:Nat) (y:α),j < i→xs[j]?=some y→p y) (hx:xs[i]?=some x) (hp:p x):∀ (j:Nat) (y:α),j < i+1→xs[j]?=some y→p y:=by
 intro j y hj hy;rcases Nat.lt_or_ge j i with h1 | h1
 ·exact h j y h1 hy
 ·obtain rfl:j=i:=by omega
  rw[hx] at hy;cases hy;exact hp
theorem Zao (S:Sch):Wp (Z0i S) fun e=>e=0→VS0 S:=by
 unfold Z0i;refine Wp.cond (fun _=>Wp.ret (by simp)) fun h1=>Wp.cond (fun _=>Wp.ret (by simp)) fun h2=>Wp.cond (fun _=>Wp.ret (by simp)) fun h3=>?_;have a1:S.tables.length≤6:=by simp at h1;omega
 have a2:S.fks.length≤8:=by simp at h2;omega
 have a3:S.cons.length≤8:=by simp at h3;omega
 refine Wp.for (fun i _=>∀ (j:Nat) (T:Tbl),j < i→S.tables[j]?=some T→VT T) (by intro j T h;omega) ?_ ?_
 ·intro i T s next hx hm hI hn;have hi:=(List.getElem?_eq_some_iff.1 hx).1;refine Wp.bind (Zcy T) fun e _ he=>Wp.cond (fun h=>Wp.ret (by intro h0;simp[h0] at h)) fun h4=>?_;have hT:VT T:=he (by simpa using h4);refine Wp.cond (fun h5=>?_) fun _=>hn () (Z4e hI hx hT);have h5':0 < i:=by simpa using h5
  exact Wp.chk ⟨by omega,by omega⟩ (Wp.get (by omega) (by omega) fun _ _ _=>Wp.cond (fun _=>Wp.ret (by simp)) fun _=>hn () (Z4e hI hx hT))
 intro s hI;have hT:=Z6t hI;refine Wp.for (fun i _=>∀ (j:Nat) (f:Fk),j < i→S.fks[j]?=some f→VF f) (by intro j T h;omega) ?_ ?_
 ·intro i f s next hx hm hI hn;have hi:=(List.getElem?_eq_some_iff.1 hx).1;refine Wp.bind (Z9n S hT f) fun e _ he=>Wp.cond (fun h=>Wp.ret (by intro h0;simp[h0] at h)) fun h4=>?_;refine Wp.chk ⟨by omega,by omega,by omega⟩ (Wp.bind (Z41 _ _ fun x _=>?_) fun _ _ _=>Wp.cond (fun _=>Wp.ret (by simp)) fun _=>hn () (Z4e hI hx (he (by simpa using h4))));unfold Z3g;exact Wp.bind (Z4q _ _) fun _ _ _=>Wp.ret trivial
 intro s hF;refine Wp.for (fun i _=>∀ (j:Nat) (f:Cons),j < i→S.cons[j]?=some f→VO f) (by intro j T h;omega) ?_ ?_
 ·intro i f s next hx hm hI hn;have hi:=(List.getElem?_eq_some_iff.1 hx).1;refine Wp.bind (Z9o S hT f) fun e _ he=>Wp.cond (fun h=>Wp.ret (by intro h0;simp[h0] at h)) fun h4=>?_;exact Wp.chk ⟨by omega,by omega,by omega⟩ (Wp.bind (Zd3 _ _) fun _ _ _=>Wp.cond (fun _=>Wp.ret (by simp)) fun _=>hn () (Z4e hI hx (he (by simpa using h4))))
 intro s hO;exact Wp.ret fun _=>⟨a1,a2,a3,hT,Z6t hF,Z6t hO⟩
structure VS (S:Sch):Prop extends VS0 S where
 ok:Z0i S=some 0
theorem Z4z (S:Sch):Wp (Z0i S) fun e=>e=0→VS S:=
 (Zao S).mono fun r hr h h0=>{ h h0 with ok:=by rw[hr,h0] }
end
end Go.Proofs.YthiojhcimecdgaaGreatDoor
namespace Go.Am
section
open Go
def rowBox (xs:List (List C)) (sp:List C):List C:=xs.flatten++sp
def AllC (n:Nat) (xs:List (List C)):Prop:=∀ x ∈ xs,x.length=n
theorem AllC.nil {n:Nat}:AllC n []:=by simp[AllC]
theorem AllC.cons {n:Nat} {x:List C} {xs:List (List C)}:AllC n (x::xs)↔x.length=n∧AllC n xs:=by simp[AllC]
theorem AllC.append {n:Nat} {xs ys:List (List C)}:AllC n (xs++ys)↔AllC n xs∧AllC n ys:=by
 simp only[AllC,List.mem_append];exact⟨fun h=>⟨fun y hy=>h y (.inl hy),fun y hy=>h y (.inr hy)⟩,fun h y hy=>hy.elim (h.1 y) (h.2 y)⟩
theorem AllC.take {n k:Nat} {xs:List (List C)} (h:AllC n xs):AllC n (xs.take k):=fun x hx=>h x (List.mem_of_mem_take hx)
theorem AllC.drop {n k:Nat} {xs:List (List C)} (h:AllC n xs):AllC n (xs.drop k):=fun x hx=>h x (List.mem_of_mem_drop hx)
theorem AllC.set {n k:Nat} {xs:List (List C)} {x:List C} (h:AllC n xs) (hx:x.length=n):AllC n (xs.set k x):=fun y hy=>by
 rcases List.mem_or_eq_of_mem_set hy with h1 | rfl
 ·exact h y h1
 ·exact hx
theorem AllC.get {n k:Nat} {xs:List (List C)} {x:List C} (h:AllC n xs) (hx:xs[k]?=some x):x.length=n:=h x (List.mem_of_getElem? hx)
theorem AllC.flatten {n:Nat}:∀ {xs:List (List C)},AllC n xs→xs.flatten.length=xs.length * n
 | [],_=>by simp
 | x::xs,h=>by
   obtain⟨h1,h2⟩:=AllC.cons.1 h;simp[AllC.flatten h2,h1,Nat.add_mul];omega
theorem Z04 {n:Nat} {xs:List (List C)} {sp:List C} (h:AllC n xs):(rowBox xs sp).length=xs.length * n+sp.length:=by simp[rowBox,h.flatten]
theorem Z5p {n:Nat}:∀ {k:Nat} {xs:List (List C)} {sp:List C},AllC n xs→k≤xs.length→(rowBox xs sp).drop (k * n)=rowBox (xs.drop k) sp
 | 0,xs,sp,_,_=>by simp
 | k+1,[],sp,_,hk=>by simp at hk
 | k+1,x::xs,sp,h,hk=>by
   obtain⟨h1,h2⟩:=AllC.cons.1 h;have e:(k+1) * n=x.length+k * n:=by rw[h1,Nat.add_mul];omega
   rw[e];simp only[rowBox,List.flatten_cons,List.append_assoc,List.drop_append_of_le_length,List.drop_succ_cons];rw[← List.drop_drop,List.drop_left];exact Z5p (xs:=xs) (sp:=sp) h2 (by simpa using hk)
theorem Z6e {n:Nat}:∀ {k:Nat} {xs:List (List C)} {sp:List C},AllC n xs→k≤xs.length→(rowBox xs sp).take (k * n)=(xs.take k).flatten
 | 0,xs,sp,_,_=>by simp
 | k+1,[],sp,_,hk=>by simp at hk
 | k+1,x::xs,sp,h,hk=>by
   obtain⟨h1,h2⟩:=AllC.cons.1 h;have e:(k+1) * n=x.length+k * n:=by rw[h1,Nat.add_mul];omega
   rw[e];simp only[rowBox,List.flatten_cons,List.append_assoc,List.take_succ_cons];rw[List.take_length_add_append]
   congr 1
   exact Z6e (xs:=xs) (sp:=sp) h2 (by simpa using hk)
theorem Zcq {n k f:Nat} {xs:List (List C)} {sp x:List C} (h:AllC n xs) (hx:xs[k]?=some x) (hf:f≤n):(rowBox xs sp).drop (k * n+f)=x.drop f++rowBox (xs.drop (k+1)) sp:=by
 have hk:=(List.getElem?_eq_some_iff.1 hx).1;have hxl:=h.get hx;rw[← List.drop_drop,Z5p h (by omega),List.drop_eq_getElem_cons hk]
 have:xs[k]=x:=(List.getElem?_eq_some_iff.1 hx).2
 rw[this];simp only[rowBox,List.flatten_cons,List.append_assoc];rw[List.drop_append_of_le_length (by omega)]
theorem Z5i {n k f m:Nat} {xs:List (List C)} {sp x:List C} (h:AllC n xs) (hx:xs[k]?=some x) (hf:f+m≤n):takeN m ((rowBox xs sp).drop (k * n+f))=takeN m (x.drop f):=by
 have hxl:=h.get hx;rw[Zcq h hx (by omega)];have h1:m≤(x.drop f).length:=by simp;omega
 simp only[takeN,h1,if_true,List.length_append];rw[if_pos (by omega),List.take_append_of_le_length h1]
theorem Za9 {n k:Nat} {xs:List (List C)} {sp x:List C} (h:AllC n xs) (hx:xs[k]?=some x):takeN n ((rowBox xs sp).drop (k * n))=some x:=by
 have h1:=Z5i (sp:=sp) (f:=0) (m:=n) h hx (by omega);simp only[Nat.add_zero,List.drop_zero] at h1;rw[h1,← h.get hx];simp[takeN]
theorem Z84 {α:Type} {xs:List α} {a:Nat} {x:α} (h:a < xs.length):(xs.set a x).take (a+1)=xs.take a++[x]:=by
 rw[List.take_succ_eq_append_getElem (by simpa using h),List.getElem_set_self,List.take_set_of_le (Nat.le_refl a)]
theorem Z6m {n k:Nat} {xs:List (List C)} {sp:List C} (h:AllC n xs) (hk:k < xs.length):k * n+n≤(rowBox xs sp).length:=by
 rw[Z04 h]
 have:(k+1) * n≤xs.length * n:=Nat.mul_le_mul_right n (by omega)
 rw[Nat.add_mul] at this;omega
theorem Z71 {n k f:Nat} {xs:List (List C)} {sp x vs:List C} (h:AllC n xs) (hx:xs[k]?=some x) (hf:f+vs.length≤n):Z03 (rowBox xs sp) (k * n+f) vs=rowBox (xs.set k (Z03 x f vs)) sp:=by
 have hk:=(List.getElem?_eq_some_iff.1 hx).1;have hxl:=h.get hx;have e1:(rowBox xs sp).take (k * n+f)=(xs.take k).flatten++x.take f:=by
  rw[List.take_add,Z6e h (by omega),Z5p h (by omega),List.drop_eq_getElem_cons hk]
  have:xs[k]=x:=(List.getElem?_eq_some_iff.1 hx).2
  rw[this];simp only[rowBox,List.flatten_cons,List.append_assoc];rw[List.take_append_of_le_length (by omega)]
 have e2:(rowBox xs sp).drop (k * n+f+vs.length)=x.drop (f+vs.length)++rowBox (xs.drop (k+1)) sp:=by
  rw[Nat.add_assoc,Zcq h hx (by omega)]
 have e3:xs.set k (Z03 x f vs)=xs.take k++Z03 x f vs::xs.drop (k+1):=List.set_eq_take_append_cons_drop.trans (by rw[if_pos hk]);rw[Z03,e1,e2,e3];simp[rowBox,Z03]
def MR (h:HS) (n:Nat) (c:C) (xs:List (List C)):Prop:=
 AllC n xs∧xs.length≤LIM∧((xs=[]∧(c=.nil∨c=.z))∨∃ l cap sp,c=.mrow l 0 xs.length cap∧h.box l=some (rowBox xs sp)∧(rowBox xs sp).length=cap * n)
def labs:C→List Lab
 | .mrow l _ _ _=>[l]
 | _=>[]
theorem MR.frame {h h':HS} {n:Nat} {c:C} {xs:List (List C)} (m:MR h n c xs) (hb:∀ l ∈ labs c,h'.box l=h.box l):MR h' n c xs:=by
 refine⟨m.1,m.2.1,?_⟩;rcases m.2.2 with h1 | ⟨l,cap,sp,h1,h2,h3⟩
 ·exact .inl h1
 ·exact .inr ⟨l,cap,sp,h1,by rw[hb l (by simp[h1,labs])];exact h2,h3⟩
theorem MR.nil {h:HS} {n:Nat}:MR h n .nil []:=⟨AllC.nil,by simp,.inl ⟨rfl,.inl rfl⟩⟩
theorem MR.z {h:HS} {n:Nat}:MR h n .z []:=⟨AllC.nil,by simp,.inl ⟨rfl,.inr rfl⟩⟩
theorem MR.block {h:HS} {n:Nat} {c:C} {xs:List (List C)} (m:MR h n c xs) (h0:0 < xs.length):∃ l cap sp,c=.mrow l 0 xs.length cap∧h.box l=some (rowBox xs sp)∧(rowBox xs sp).length=cap * n:=by
 rcases m.2.2 with h1 | h1
 ·rw[h1.1] at h0;simp at h0
 ·exact h1
theorem Z4g {n off k:Nat} {h:HS} {l:Lab} {xs:List (List C)} {sp:List C} {cap:Nat} (h0:AllC n xs) (hb:h.box l=some (rowBox xs sp)) (hk:off+k≤xs.length):Z0k h n (.mrow l (off * n) k cap)=some (((xs.drop off).take k).flatten):=by
 simp only[Z0k,hb];rw[Z5p h0 (by omega)];have h1:=Z6e (n:=n) (k:=k) (xs:=xs.drop off) (sp:=sp) h0.drop (by simp;omega);have h2:k * n≤(rowBox (xs.drop off) sp).length:=by
  rw[Z04 h0.drop]
  have:k * n≤(xs.drop off).length * n:=Nat.mul_le_mul_right n (by simp;omega)
  omega
 simp only[takeN,h2,if_true,h1]
theorem Zbm {n i:Nat} {xs ys:List (List C)} {sp:List C} (h0:AllC n xs) (h1:AllC n ys) (hi:i≤xs.length):Z03 (rowBox xs sp) (i * n) ys.flatten=rowBox (xs.take i++ys) ((rowBox xs sp).drop ((i+ys.length) * n)):=by
 rw[Z03,Z6e h0 hi,h1.flatten,← Nat.add_mul];simp[rowBox]
theorem Z47 {n:Nat} {xs:List (List C)} {sp vs:List C} (h0:AllC n xs):Z03 (rowBox xs sp) (xs.length * n) vs=rowBox xs (Z03 sp 0 vs):=by
 have e1:(rowBox xs sp).take (xs.length * n)=xs.flatten:=by rw[Z6e h0 (Nat.le_refl _)];simp
 have e2:(rowBox xs sp).drop (xs.length * n+vs.length)=sp.drop vs.length:=by
  rw[← List.drop_drop,Z5p h0 (Nat.le_refl _)];simp[rowBox]
 rw[Z03,e1,e2];simp[rowBox,Z03]
theorem Z06 {cs vs:List C} {o:Nat} (h:o+vs.length≤cs.length):(Z03 cs o vs).length=cs.length:=by
 simp[Z03];omega
theorem Z2l {P:Program} {ty el:TypeId} {n by_:Nat} {l:Lab} {off k cap:Nat} {h:HS} {cs z:List C} {f:V→HS→Prop} (hel:elT P ty=some (el,n,by_)) (hz:zeT P el=some z) (hb:h.box l=some cs) (h0:0 < n) (hle:off+k * n≤cs.length)
  (hk:f .top (h.setBox l (Z03 cs off (List.replicate k z).flatten))):clearK P ty (.mrow l off k cap) h (K:=⟨f⟩):=by
 unfold clearK Z8q;simp only[hel,hz,hb];exact⟨⟨h0,hle⟩,hk⟩
def Same (h h':HS) (ls:List Lab):Prop:=h.ep≤h'.ep∧∀ k:Lab,k.1 < h.ep→k ∉ ls→h'.box k=h.box k
theorem Same.refl {h:HS} {ls:List Lab}:Same h h ls:=⟨Nat.le_refl _,fun _ _ _=>rfl⟩
theorem Same.trans {h h1 h2:HS} {ls:List Lab} (a:Same h h1 ls) (b:Same h1 h2 ls):Same h h2 ls:=⟨Nat.le_trans a.1 b.1,fun k hk hn=>(b.2 k (by have:=a.1;omega) hn).trans (a.2 k hk hn)⟩
theorem Same.next {h h':HS} {ls:List Lab} (a:Same h h' ls):Same h h'.next ls:=⟨by have:=a.1;simp;omega,fun k hk hn=>a.2 k hk hn⟩
theorem Same.setArr {h h':HS} {ls:List Lab} {l:Lab} {x:Option (Nat × Nat)} (a:Same h h' ls):Same h (h'.setArr l x) ls:=⟨by simpa using a.1,fun k hk hn=>a.2 k hk hn⟩
theorem Same.setBox {h h':HS} {ls:List Lab} {l:Lab} {cs:List C} (a:Same h h' ls) (hl:l ∈ ls∨h.ep≤l.1):Same h (h'.setBox l cs) ls:=⟨by simpa using a.1,fun k hk hn=>by
 have:k≠l:=by
  rintro rfl;rcases hl with hl | hl
  ·exact hn hl
  ·omega
 simp[this,a.2 k hk hn]⟩
def keep (p:List D→Bool):List (List C)→List (List D)→List (List C)
 | x::xs,t::ts=>if p t then keep p xs ts else x::keep p xs ts
 | _,_=>[]
theorem AllC.keep {n:Nat} {p:List D→Bool}:∀ {xs:List (List C)} {ts:List (List D)},AllC n xs→AllC n (keep p xs ts)
 | [],_,_=>by simp[Go.Am.keep,AllC]
 | _::_,[],_=>by simp[Go.Am.keep,AllC]
 | x::xs,t::ts,h=>by
   obtain⟨h1,h2⟩:=AllC.cons.1 h;unfold Go.Am.keep;split
   ·exact AllC.keep h2
   ·exact AllC.cons.2 ⟨h1,AllC.keep h2⟩
theorem Z76 {p:List D→Bool}:∀ {j:Nat} {xs:List (List C)} {ts:List (List D)} {x:List C} {t:List D},xs[j]?=some x→ts[j]?=some t →
  keep p (xs.take (j+1)) (ts.take (j+1))=if p t then keep p (xs.take j) (ts.take j) else keep p (xs.take j) (ts.take j)++[x]
 | 0,x::xs,t::ts,_,_,hx,ht=>by
   simp at hx ht;subst hx ht;simp[keep]
 | j+1,x::xs,t::ts,y,u,hx,ht=>by
   have ih:=Z76 (p:=p) (j:=j) (xs:=xs) (ts:=ts) (x:=y) (t:=u) (by simpa using hx) (by simpa using ht);simp only[List.take_succ_cons,keep] at ih ⊢;rw[ih]
   split<;>split<;>rfl
 | _,[],_,_,_,hx,_=>by simp at hx
 | _,_::_,[],_,_,_,ht=>by simp at ht
theorem Zfg {p:List D→Bool}:∀ {xs:List (List C)} {ts:List (List D)},(keep p xs ts).length≤xs.length
 | [],_=>by simp[keep]
 | _::_,[]=>by simp[keep]
 | x::xs,t::ts=>by
   unfold keep
   have:=Zfg (p:=p) (xs:=xs) (ts:=ts)
   split<;>simp<;>omega
theorem Z89 {p:List D→Bool}:∀ {xs:List (List C)} {ts:List (List D)},xs.length=ts.length→(∀ t ∈ ts,p t=false)→keep p xs ts=xs
 | [],_,_,_=>by simp[keep]
 | _::_,[],h,_=>by simp at h
 | x::xs,t::ts,h,hp=>by
   unfold keep;rw[hp t (by simp),Z89 (by simpa using h) (fun u hu=>hp u (by simp[hu]))];simp
theorem MR.frz {h:HS} {n:Nat} {c:C} {xs:List (List C)} {ts:List (List D)} (m:MR h n c xs) (hl:xs.length=ts.length) (ht:∀ t ∈ ts,t.length=n) (hf:∀ (i:Nat) (x:List C) (t:List D),xs[i]?=some x→ts[i]?=some t→FrzCs h x t):Frz h c (.sl ts):=by
 rcases m.2.2 with ⟨h1,h2⟩ | ⟨l,cap,sp,rfl,hb,hcap⟩
 ·subst h1
  have:ts=[]:=List.eq_nil_of_length_eq_zero (by simpa using hl.symm)
  subst this;rcases h2 with rfl | rfl
  ·exact .data rfl
  ·exact .data rfl
 ·rw[hl];refine Frz.mrow (es:=n) (f:=fun i j=>((xs[i]?).getD [])[j]?.getD .nil) hb (by rw[← hl];exact m.2.1) ht (fun i t hi j d hd=>?_) (fun i t hi j d hd=>?_)
  ·have hlt:i < xs.length:=by rw[hl];exact (List.getElem?_eq_some_iff.1 hi).1
   have hx:xs[i]?=some xs[i]:=List.getElem?_eq_getElem hlt;have hj:j < n:=by rw[← ht t (List.mem_of_getElem? hi)];exact (List.getElem?_eq_some_iff.1 hd).1
   have hxl:=m.1.get hx
   have:=Zcq (sp:=sp) m.1 hx (f:=j) (by omega)
   have h2:((rowBox xs sp).drop (i * n+j))[0]?=xs[i][j]?:=by
    rw[this,List.getElem?_append_left (by simp;omega)];simp
   simp only[List.getElem?_drop,Nat.add_zero] at h2;rw[Nat.zero_add,h2,hx];simp[List.getElem?_eq_getElem (show j < xs[i].length by omega)]
  ·have hlt:i < xs.length:=by rw[hl];exact (List.getElem?_eq_some_iff.1 hi).1
   have hx:xs[i]?=some xs[i]:=List.getElem?_eq_getElem hlt;obtain⟨_,hg⟩:=(hf i _ _ hx hi).get;obtain⟨c,hc,hfc⟩:=hg j d hd;simp only[hx,Option.getD_some,hc];exact hfc
@[simp] theorem envV_n {n:Nat} {vs:List V}:(envV n vs).n=n:=rfl
@[simp] theorem Ztp {n k:Nat} {vs:List V}:(envV n vs).get k=(vs[k]?).getD .undef:=rfl
@[simp] theorem Zt7 {P:Program} {k:Nat} {K:V→HS→Prop} {e:Env} {h:HS}:retH P [.tmp k] K .ret e h=K (e.get k) h:=rfl
@[simp] theorem Zsc {P:Program} {k:Nat} {K:V→HS→Prop} {e:Env} {h:HS}:retH P [.tmp k] K .normal e h=K (e.get k) h:=rfl
@[simp] theorem Zrm {P:Program} {K:V→HS→Prop} {e:Env} {h:HS}:retH P [] K .normal e h=K (.tup []) h:=by simp[retH,resVs]
theorem Z1u {a b:Prop} [Decidable a] [Decidable b] {c d:C} {f:V→Prop} (ha:a) (h1:b→f (.one c)) (h2:¬ b→f (.one d)):optV (Option.map V.one (if a then (if b then some c else some d) else none)) (k:=⟨f⟩):=by
 rw[if_pos ha]
 by_cases hb:b
 ·rw[if_pos hb];exact h1 hb
 ·rw[if_neg hb];exact h2 hb
def RowAt (h:HS) (n:Nat) (c:C) (xs:List (List C)):Prop:=Z0k h n c=some xs.flatten∧cLen c=some xs.length∧AllC n xs∧xs.length≤LIM
theorem MR.rd {h:HS} {n:Nat} {c:C} {xs:List (List C)} (m:MR h n c xs):RowAt h n c xs:=by
 refine⟨?_,?_,m.1,m.2.1⟩
 ·rcases m.2.2 with ⟨h1,rfl | rfl⟩ | ⟨l,cap,sp,rfl,hb,hcap⟩
  ·subst h1;simp[Z0k,C.list?]
  ·subst h1;simp[Z0k,C.list?]
  ·have:=Z4g (n:=n) (off:=0) (k:=xs.length) (cap:=cap) m.1 hb (by simp)
   simpa using this
 ·rcases m.2.2 with ⟨h1,rfl | rfl⟩ | ⟨l,cap,sp,rfl,hb,hcap⟩
  ·subst h1;simp[cLen,C.list?]
  ·subst h1;simp[cLen,C.list?]
  ·simp[cLen]
theorem RowAt.data {h:HS} {n:Nat} {ts:List (List D)} (ht:∀ t ∈ ts,t.length=n) (hl:ts.length≤LIM):RowAt h n (.d (.sl ts)) (ts.map (·.map C.d)):=by
 refine⟨?_,by simp[cLen,C.list?],?_,by simpa using hl⟩
 ·show (if ∀ x ∈ ts,x.length=n then some (ts.flatten.map C.d) else none)=_;rw[if_pos ht,List.map_flatten]
 ·intro x hx;simp at hx;obtain⟨t,h1,rfl⟩:=hx;simpa using ht t h1
theorem Zbq {P:Program} {ty:TypeId} {z:TypeId × Nat × Nat} {h:HS} {n:Nat} {c:C} {xs:List (List C)} {f:V→Prop} (hel:elT P ty=some z) (hr:RowAt h n c xs) (h1:xs=[]→f (dbool true)) (h2:f (dbool false)):nilK P .eql ty c (K:=⟨f⟩):=by
 have hlen:=hr.2.1;have key:∀ ys,c.list?=some ys→cLen c=some ys.length→nilK P .eql ty c (K:=⟨f⟩):=fun ys hy hc=>by
  refine Z8z hel rfl hy (fun b hb=>?_);cases b with
  | false=>exact h2
  | true=>
    have:ys=[]:=Classical.byContradiction fun h=>by simpa using hb h
    subst this;rw[hc] at hlen;exact h1 (List.eq_nil_of_length_eq_zero (by simpa using hlen.symm))
 match c,hlen with
 | .d (.sl ys),_=>exact key ys rfl rfl
 | .own _ ys,_=>exact key ys rfl rfl
 | .nil,_=>exact key [] rfl rfl
 | .z,_=>exact key [] rfl rfl
 | .mrow _ _ _ _,_=>exact Zmf hel rfl h2
theorem Zp2 {h:HS} {n:Nat}:appHdr h n .z=some (0,0,[],none):=rfl
theorem Zc6 {P:Program} {ty el:TypeId} {n by_ d:Nat} {h:HS} {x:C} {xs:List (List C)} {K:V→HS→Prop} (hel:elT P ty=some (el,n,by_)) (hz:(zeT P el).isSome=true) (h0:0 < n) (hb:by_≤4096) (hr:RowAt h n x xs)
  (hk:∀ c' h',MR h' n c' xs→Same h h' []→(∀ l ∈ labs c',h.ep≤l.1∧l.1 < h'.ep)→K (.one c') h'):appK P ty .z x d h (K:=⟨K⟩):=by
 obtain⟨hc,hl,ha,hm⟩:=hr;refine Z58 hel Zp2 hc hl hz h0 hb (by simpa using hm) ha.flatten (by simp) (fun h1=>?_) (fun h1 h2=>by omega) (fun h1 h2 cap' hcap=>?_)
 ·have:xs=[]:=List.eq_nil_of_length_eq_zero h1
  subst this;exact hk _ _ MR.z .refl (by simp[labs])
 ·refine hk _ _ ⟨ha,hm,.inr ⟨(h.ep,16 * d),cap',List.replicate ((cap' - xs.length) * n) .any,by simp,by simp[rowBox],?_⟩⟩ ((Same.refl.setBox (.inr (Nat.le_refl _))).next) (by simp[labs]);rw[Z04 ha,List.length_replicate,← Nat.add_mul]
  congr 1
  omega
inductive Sh where
 | d
 | r (es:List Sh)
inductive Ow (h:HS):List Sh→List C→List D→List Lab→Prop where
 | nil:Ow h [] [] [] []
 | data {c:C} {x:D} {ss:List Sh} {cs:List C} {ds:List D} {ls:List Lab} (hx:c.toD=some x) (hr:Ow h ss cs ds ls):Ow h (.d::ss) (c::cs) (x::ds) ls
 | emp {es:List Sh} {c:C} {ss:List Sh} {cs:List C} {ds:List D} {ls:List Lab} (hx:c.toD=some (.sl [])) (hr:Ow h ss cs ds ls):Ow h (.r es::ss) (c::cs) (.sl []::ds) ls
 | row {es:List Sh} {c:C} {qs:List (List C × List D × List Lab)} {ss:List Sh} {cs:List C} {ds:List D} {ls:List Lab} (hm:MR h es.length c (qs.map (·.1))) (hq:∀ q ∈ qs,Ow h es q.1 q.2.1 q.2.2)
   (hr:Ow h ss cs ds ls):Ow h (.r es::ss) (c::cs) (.sl (qs.map (·.2.1))::ds) (labs c++qs.flatMap (·.2.2)++ls)
theorem Ow.len {h:HS} {ss:List Sh} {cs:List C} {ds:List D} {ls:List Lab} (o:Ow h ss cs ds ls):cs.length=ss.length∧ds.length=ss.length:=by
 induction o with
 | nil=>simp
 | data hx hr ih=>simp[ih]
 | emp hx hr ih=>simp[ih]
 | row hm hq hr ihq ih=>simp[ih]
theorem Ow.frame {h h':HS} {ss:List Sh} {cs:List C} {ds:List D} {ls:List Lab} (o:Ow h ss cs ds ls) (hb:∀ l ∈ ls,h'.box l=h.box l):Ow h' ss cs ds ls:=by
 induction o with
 | nil=>exact .nil
 | data hx hr ih=>exact .data hx (ih hb)
 | emp hx hr ih=>exact .emp hx (ih hb)
 | @row es c qs ss cs ds ls hm hq hr ihq ih=>
   refine .row (hm.frame fun l hl=>hb l (by simp[hl])) (fun q hqm=>ihq q hqm fun l hl=>hb l ?_) (ih fun l hl=>hb l (by simp[hl]));simp only[List.mem_append,List.mem_flatMap];exact .inl (.inr ⟨q,hqm,hl⟩)
theorem Ow.frz {h:HS} {ss:List Sh} {cs:List C} {ds:List D} {ls:List Lab} (o:Ow h ss cs ds ls):FrzCs h cs ds:=by
 induction o with
 | nil=>trivial
 | data hx hr ih=>exact⟨.data hx,ih⟩
 | emp hx hr ih=>exact⟨.data hx,ih⟩
 | @row es c qs ss cs ds ls hm hq hr ihq ih=>
   refine⟨hm.frz (by simp) (fun t ht=>?_) (fun i x t hx ht=>?_),ih⟩
   ·obtain⟨q,hqm,rfl⟩:=List.mem_map.1 ht;exact (hq q hqm).len.2
   ·rw[List.getElem?_map] at hx ht;cases hqi:qs[i]? with
    | none=>rw[hqi] at hx;simp at hx
    | some q=>
      rw[hqi] at hx ht;simp only[Option.map_some,Option.some.injEq] at hx ht;subst hx ht;exact ihq q (List.mem_of_getElem? hqi)
theorem Ow.inv_nil {h:HS} {cs:List C} {ds:List D} {ls:List Lab} (o:Ow h [] cs ds ls):cs=[]∧ds=[]∧ls=[]:=by
 cases o;exact⟨rfl,rfl,rfl⟩
theorem Ow.inv_d {h:HS} {ss:List Sh} {cs:List C} {ds:List D} {ls:List Lab} (o:Ow h (.d::ss) cs ds ls):∃ c x cs' ds',cs=c::cs'∧ds=x::ds'∧c.toD=some x∧Ow h ss cs' ds' ls:=by
 cases o with
 | data hx hr=>exact⟨_,_,_,_,rfl,rfl,hx,hr⟩
theorem Ow.inv_r {h:HS} {es ss:List Sh} {cs:List C} {ds:List D} {ls:List Lab} (o:Ow h (.r es::ss) cs ds ls):(∃ (c:C) (cs':List C) (ds':List D),cs=c::cs'∧ds=.sl []::ds'∧c.toD=some (.sl [])∧Ow h ss cs' ds' ls) ∨
  ∃ (c:C) (qs:List (List C × List D × List Lab)) (cs':List C) (ds':List D) (ls':List Lab),cs=c::cs'∧ds=.sl (qs.map (·.2.1))::ds'∧ls=labs c++qs.flatMap (·.2.2)++ls' ∧
  MR h es.length c (qs.map (·.1))∧(∀ q ∈ qs,Ow h es q.1 q.2.1 q.2.2)∧Ow h ss cs' ds' ls':=by
 cases o with
 | emp hx hr=>exact .inl ⟨_,_,_,rfl,rfl,hx,hr⟩
 | row hm hq hr=>exact .inr ⟨_,_,_,_,_,rfl,rfl,rfl,hm,hq,hr⟩
def OwB (h:HS) (l:Lab) (ss:List Sh) (ds:List D) (ls:List Lab):Prop:=∃ cs,h.box l=some cs∧Ow h ss cs ds ls∧(l::ls).Nodup∧∀ k ∈ l::ls,k.1 < h.ep
theorem OwB.frame {h h':HS} {l:Lab} {ss:List Sh} {ds:List D} {ls lx:List Lab} (o:OwB h l ss ds ls) (hs:Same h h' lx) (hd:∀ k ∈ l::ls,k ∉ lx):OwB h' l ss ds ls:=by
 obtain⟨cs,hb,ho,hn,hl⟩:=o;have hk:∀ k ∈ l::ls,h'.box k=h.box k:=fun k hk=>hs.2 k (hl k hk) (hd k hk);exact⟨cs,by rw[hk l (by simp)];exact hb,ho.frame fun k hk'=>hk k (by simp[hk']),hn,fun k hk'=>Nat.lt_of_lt_of_le (hl k hk') hs.1⟩
theorem Same.mono {h h':HS} {ls ls':List Lab} (s:Same h h' ls) (hl:∀ k ∈ ls,k ∈ ls'):Same h h' ls':=⟨s.1,fun k hk hn=>s.2 k hk fun hm=>hn (hl k hm)⟩
theorem Same.drop {h h':HS} {ls ls':List Lab} (s:Same h h' ls) (hl:∀ k ∈ ls,k ∈ ls'∨h.ep≤k.1):Same h h' ls':=⟨s.1,fun k hk hn=>s.2 k hk fun hm=>(hl k hm).elim hn fun he=>absurd hk (by omega)⟩
theorem Same.trans' {h h1 h2:HS} {ls ls1:List Lab} (a:Same h h1 ls) (b:Same h1 h2 ls1) (hl:∀ k ∈ ls1,k ∈ ls∨h.ep≤k.1):Same h h2 ls:=
 ⟨Nat.le_trans a.1 b.1,fun k hk hn=>(b.2 k (by have:=a.1;omega) fun hm=>(hl k hm).elim hn fun he=>absurd hk (by omega)).trans (a.2 k hk hn)⟩
theorem Ow.datas {h:HS}:∀ {ds:List D},Ow h (ds.map fun _=>Sh.d) (ds.map C.d) ds []
 | []=>.nil
 | _::_=>.data rfl Ow.datas
def Good (h:HS):Prop:=∀ l cs,h.box l=some cs→l.1 < h.ep
theorem HSpec.good {P:Program} {h:HS} {f:FuncId} {fn:Func} {c:Code} {vs:List V} {K:V→HS→Prop} (hf:P.funcs[f]?=some fn) (hb:fn.body=some c) (hnm:(fn.name == "runtime.NumGoroutine")=false) (hg:Good h→HSpec P f vs h K):HSpec P f vs h K:=
 ⟨⟨fn,hf,hnm,by rw[hb];rfl⟩,fun Γ μ w vals hI hR=>(hg fun l cs hl=>by
  obtain⟨b,n,T,conc,h1,_⟩:=hI.box l cs hl;exact hI.lt l (by rw[h1];simp)).2 Γ μ w vals hI hR⟩
theorem Same.boxLe {h h':HS} (s:Same h h' []) (g:Good h):BoxLe h h':=fun l cs hl=>by rw[s.2 l (g l cs hl) (by simp),hl]
theorem Zm0 {a b:Nat} {xs u v:List C} (h1:takeN a xs=some u) (h2:takeN b (xs.drop a)=some v):takeN (a+b) xs=some (u++v):=by
 unfold takeN at *;split at h1
 ·split at h2
  ·rename_i h3 h4;simp only[List.length_drop] at h4;rw[if_pos (by omega),List.take_add];simp only[Option.some.injEq] at h1 h2;rw[h1,h2]
  ·cases h2
 ·cases h1
theorem Zo4 {cs l:List C} (h:∀ i,i < l.length→cs[i]?=l[i]?):takeN l.length cs=some l:=by
 have hl:l.length≤cs.length:=by
  by_cases h0:l.length=0
  ·omega
  ·have:=h (l.length - 1) (by omega)
   rw[List.getElem?_eq_getElem (show l.length - 1 < l.length by omega)] at this
   have:=(List.getElem?_eq_some_iff.1 this).1
   omega
 unfold takeN;rw[if_pos hl]
 congr 1
 refine List.ext_getElem? fun i=>?_
 by_cases hi:i < l.length
 ·rw[List.getElem?_take_of_lt hi,h i hi]
 ·rw[List.getElem?_eq_none (by simp;omega),List.getElem?_eq_none (by omega)]
theorem Zet {n:Nat} {cs:List C}:∀ {ts:List (List D)} {off:Nat},(∀ t ∈ ts,t.length=n)→(∀ (i:Nat) x,ts[i]?=some x→∀ (j:Nat) d,x[j]?=some d→cs[off+(i * n+j)]?=some (.d d)) →
  takeN (ts.length * n) (cs.drop off)=some (ts.map (·.map C.d)).flatten∨(ts.length * n=0∧ts.flatten=[])
 | [],off,_,_=>.inr (by simp)
 | t::ts,off,ht,hc=>by
   have h0:=ht t (by simp);refine .inl ?_;have h1:takeN n (cs.drop off)=some (t.map C.d):=by
    have:=Zo4 (cs:=cs.drop off) (l:=t.map C.d) (fun i hi=>by
     simp only[List.length_map] at hi
     have:=hc 0 t (by simp) i t[i] (List.getElem?_eq_getElem hi)
     rw[List.getElem?_drop,List.getElem?_map,List.getElem?_eq_getElem hi];simpa using this)
    rw[List.length_map,h0] at this;exact this
   have ih:=Zet (cs:=cs) (ts:=ts) (off:=off+n) (fun x hx=>ht x (by simp[hx])) (fun i x hx j d hd=>by
    have:=hc (i+1) x (by simpa using hx) j d hd
    rw[show off+n+(i * n+j)=off+((i+1) * n+j) by rw[Nat.add_mul];omega];exact this)
   have h2:takeN (ts.length * n) ((cs.drop off).drop n)=some (ts.map (·.map C.d)).flatten:=by
    rw[List.drop_drop];rcases ih with h | ⟨h,h'⟩
    ·exact h
    ·rw[h]
     have:(ts.map (·.map C.d)).flatten=[]:=by rw[← List.map_flatten,h'];rfl
     rw[this];simp[takeN]
   have:=Zm0 h1 h2
   rw[show (t::ts).length * n=n+ts.length * n by simp[Nat.add_mul];omega];simpa using this
theorem Frz.flat {h:HS} {c:C} {x:D} (f:Frz h c x) (hx:x.flat=true):c=.d x:=by
 cases f with
 | data h1=>
   cases c<;>simp[C.toD] at h1
   ·rw[h1]
   all_goals (subst h1;simp[D.flat] at hx)
 | mrow=>simp[D.flat] at hx
theorem Frz.rowAt {h:HS} {c:C} {ts:List (List D)} {n:Nat} (f:Frz h c (.sl ts)) (ht:∀ t ∈ ts,t.length=n∧∀ d ∈ t,d.flat=true) (hl:ts.length≤LIM):RowAt h n c (ts.map (·.map C.d)):=by
 have hall:AllC n (ts.map (·.map C.d)):=by
  intro x hx;obtain⟨t,h1,rfl⟩:=List.mem_map.1 hx;simpa using (ht t h1).1
 have key:∀ c,c.list?=some ts→RowAt h n c (ts.map (·.map C.d)):=by
  intro c hc;have h1:∀ x ∈ ts,x.length=n:=fun x hx=>(ht x hx).1;have h2:ts.flatten.map C.d=(ts.map (·.map C.d)).flatten:=List.map_flatten;cases c<;>simp[C.list?] at hc
  all_goals exact⟨by simp only[Z0k,C.list?,hc];first | (rw[if_pos h1,h2]) | (subst hc;simp),by simp[cLen,C.list?,hc],hall,by simpa using hl⟩
 cases f with
 | data h1=>
   refine key c ?_;cases c<;>simp[C.toD] at h1
   ·subst h1;rfl
   ·subst h1;rfl
   ·subst h1;rfl
   ·subst h1;rfl
 | @mrow l off cap es xs cs g hb hl hes hc hf=>
   refine⟨?_,by simp[cLen],hall,by simpa using hl⟩;simp only[Z0k,hb];have h1:∀ t ∈ ts,t.length=n:=fun t h=>(ht t h).1
   have:=Zet (n:=n) (cs:=cs) (ts:=ts) (off:=off) h1 (fun i x hx j d hd=>by
    have hxm:=List.mem_of_getElem? hx;have e:es=n:=(hes x hxm).symm.trans (h1 x hxm);have h3:=hc i x hx j d hd;rw[e] at h3;rw[h3,(hf i x hx j d hd).flat ((ht x hxm).2 d (List.mem_of_getElem? hd))])
   rcases this with h | ⟨h,h'⟩
   ·exact h
   ·rw[h]
    have:(ts.map (·.map C.d)).flatten=[]:=by rw[← List.map_flatten,h'];rfl
    rw[this];simp[takeN]
end
end Go.Am
namespace Go.Proofs.YthiojhcimecdgaaGreatDoor
section
open Go Go.Am
theorem Z2y (h:HS) (c:C) (xs:List (List C)) (hr:RowAt h 1 c xs) (K:V→HS→Prop)
  (hk:∀ c' h',MR h' 1 c' xs→Same h h' []→(∀ l ∈ labs c',h.ep≤l.1∧l.1 < h'.ep)→BoxLe h h'→K (.one c') h') :
  HSpec Tryz.prog 94 [.one c] h K:=by
 refine HSpec.good Tryz.func94 rfl (by kernel_rfl) fun hg=>?_;refine HSpec.of_vc Tryz.func94 rfl (by kernel_rfl) (n:=8) rfl rfl (by simp) ?_;simp;refine Zbq Za5 hr (fun h1=>?_) ?_
 ·subst h1;simp;exact hk _ _ MR.nil .refl (by simp[labs]) (BoxLe.refl h)
 ·simp;refine Z9j (by simp) ?_;simp;refine Zc6 Za5 (by kernel_rfl) (by decide) (by decide) hr (fun c' h' hm hs hl=>?_);simp;exact hk _ _ hm hs hl (hs.boxLe hg)
theorem Z92 (h:HS) (c:C) (xs:List (List C)) (hr:RowAt h 3 c xs) (K:V→HS→Prop)
  (hk:∀ c' h',MR h' 3 c' xs→Same h h' []→(∀ l ∈ labs c',h.ep≤l.1∧l.1 < h'.ep)→BoxLe h h'→K (.one c') h') :
  HSpec Tryz.prog 133 [.one c] h K:=by
 refine HSpec.good Tryz.func133 rfl (by kernel_rfl) fun hg=>?_;refine HSpec.of_vc Tryz.func133 rfl (by kernel_rfl) (n:=8) rfl rfl (by simp) ?_;simp;refine Zbq Z8r hr (fun h1=>?_) ?_
 ·subst h1;simp;exact hk _ _ MR.nil .refl (by simp[labs]) (BoxLe.refl h)
 ·simp;refine Z9j (by simp) ?_;simp;refine Zc6 Z8r (by kernel_rfl) (by decide) (by decide) hr (fun c' h' hm hs hl=>?_);simp;exact hk _ _ hm hs hl (hs.boxLe hg)
theorem Z7l (h:HS) (c:C) (xs:List (List C)) (hr:RowAt h 7 c xs) (K:V→HS→Prop)
  (hk:∀ c' h',MR h' 7 c' xs→Same h h' []→(∀ l ∈ labs c',h.ep≤l.1∧l.1 < h'.ep)→BoxLe h h'→K (.one c') h') :
  HSpec Tryz.prog 92 [.one c] h K:=by
 refine HSpec.good Tryz.func92 rfl (by kernel_rfl) fun hg=>?_;refine HSpec.of_vc Tryz.func92 rfl (by kernel_rfl) (n:=8) rfl rfl (by simp) ?_;simp;refine Zbq Z6l hr (fun h1=>?_) ?_
 ·subst h1;simp;exact hk _ _ MR.nil .refl (by simp[labs]) (BoxLe.refl h)
 ·simp;refine Z9j (by simp) ?_;simp;refine Zc6 Z6l (by kernel_rfl) (by decide) (by decide) hr (fun c' h' hm hs hl=>?_);simp;exact hk _ _ hm hs hl (hs.boxLe hg)
theorem Z6i (h:HS) (c:C) (xs:List (List C)) (ts:List (List D)) (g:FuncId) (caps:List Cap) (dss:List (List D)) (p:List D→Bool) (i0:Int) (hm:MR h 7 c xs) (hlab:∀ k ∈ labs c,k.1 < h.ep) (hl:xs.length=ts.length)
  (ht:∀ t ∈ ts,t.length=7) (hf:∀ h',Same h h' (labs c)→∀ (i:Nat) (x:List C) (t:List D),xs[i]?=some x→ts[i]?=some t→FrzCs h' x t)
  (hcv:∀ h',Same h h' (labs c)→LendVs h' (caps.map capV) (capsOf dss)) (hcf:LendC h (.fn g caps) (.fn g dss))
  (hp:∀ t ∈ ts,PSpec Tryz.prog g (.agg t::capsOf dss) (.one (.d (.bool (p t)))))
  (hidx:PSpec Tryz.prog 232 [.one (.d (.sl ts)),.one (.fn g dss)] (.one (.d (.int .i64 i0)))) (hi0:i0=match ts.findIdx? p with | some i=>(i:Int) | none=>-1) (K:V→HS→Prop)
  (hk:∀ c' h',MR h' 7 c' (keep p xs ts)→Same h h' (labs c)→labs c'=labs c→K (.one c') h') :
  HSpec Tryz.prog 212 [.one c,.one (.fn g caps)] h K:=by
 refine HSpec.of_vc Tryz.func212 rfl (by kernel_rfl) (n:=42) rfl rfl (by simp) ?_;simp;refine Z01 (HSpec.of_lend hidx ⟨.one (.frz (hm.frz hl ht (hf h .refl))),.one hcf,trivial⟩ rfl ?_);simp;refine Z6a (fun he=>?_) (fun hne=>?_)
 ·simp;have hall:∀ t ∈ ts,p t=false:=by
   intro t htm;cases hfi:ts.findIdx? p with
   | none=>simpa using List.findIdx?_eq_none_iff.1 hfi t htm
   | some i=>rw[hi0,hfi] at he;simp at he
  exact hk _ _ (by rw[Z89 hl hall];exact hm.frame fun _ _=>rfl) (Same.refl.next) rfl
 ·obtain⟨i,hfi,rfl⟩:∃ i,ts.findIdx? p=some i∧i0=(i:Int):=by
   cases hfi:ts.findIdx? p with
   | none=>rw[hi0,hfi] at hne;simp at hne
   | some i=>rw[hfi] at hi0;exact⟨i,rfl,hi0⟩
  obtain⟨hit,hpi,hbef⟩:=List.findIdx?_eq_some_iff_getElem.1 hfi;obtain⟨l,cap,sp,rfl,hb,hcap⟩:=hm.block (by omega);have hlim:xs.length≤2097152:=hm.2.1;have hall:=hm.1;have hlen:xs.length≤cap:=by
   have h1:=Z04 (sp:=sp) hall;omega
  have hw0:IntKind.i64.wrap ((i:Int)+1)=(i:Int)+1:=IntWalk.i64_in _ (by omega);have hk0:keep p (xs.take (i+1)) (ts.take (i+1))=xs.take i:=by
   rw[Z76 (x:=xs[i]'(by omega)) (t:=ts[i]) (List.getElem?_eq_getElem _) (List.getElem?_eq_getElem _),if_pos hpi];refine Z89 (by simp;omega) (fun t htm=>?_);obtain⟨j,hj,rfl⟩:=List.getElem_of_mem htm;simp only[List.length_take] at hj;rw[List.getElem_take];simpa using hbef j (by omega)
  simp[hw0];refine Wait.rounds (fun n e h'=>∃ (a j:Nat) (ys:List (List C)),n=xs.length - j∧a < j∧j≤xs.length∧ys.length=xs.length∧AllC 7 ys∧ys.take a=keep p (xs.take j) (ts.take j)∧ys.drop j=xs.drop j ∧
   e.n=42∧e.get 0=.one (.mrow l 0 xs.length cap)∧e.get 1=.one (.fn g caps)∧e.get 5=.one (.d (.int .i64 (a:Int)))∧e.get 6=.one (.d (.int .i64 (j:Int)))∧Same h h' [l]∧∃ sp',h'.box l=some (rowBox ys sp')∧(rowBox ys sp').length=cap * 7) (xs.length - (i+1))
   ⟨i,i+1,xs,rfl,by omega,by omega,rfl,hall,by rw[hk0],rfl,by simp,by simp,by simp,by simp,by simp,Same.refl.next,sp,hb,hcap⟩ ?_
  rintro n e h' ⟨a,j,ys,rfl,haj,hj,hyl,hya,hyk,hyd,hn,h0,h1,h5,h6,hs,sp',hb',hl'⟩;simp[h0,h1,h5,h6,hn];refine Z13 (fun hlt=>?_) (fun hge=>?_)
  ·have hwj:IntKind.i64.wrap ((j:Int)+1)=(j:Int)+1:=IntWalk.i64_in _ (by omega);have hwa:IntKind.i64.wrap ((a:Int)+1)=(a:Int)+1:=IntWalk.i64_in _ (by omega);have hjt:j < ts.length:=by omega
   obtain⟨u0,u1,u2,u3,u4,u5,u6,hxj⟩:∃ u0 u1 u2 u3 u4 u5 u6,xs[j]?=some [u0,u1,u2,u3,u4,u5,u6]:=by
    have h1:xs[j]?=some xs[j]:=List.getElem?_eq_getElem hlt;have h2:=hall.get h1
    match hx:xs[j],h2 with
    | [u0,u1,u2,u3,u4,u5,u6],_=>exact⟨u0,u1,u2,u3,u4,u5,u6,by rw[h1,hx]⟩
   obtain⟨tj,htj⟩:∃ t,ts[j]?=some t:=⟨_,List.getElem?_eq_getElem hjt⟩;have hyj:ys[j]?=some [u0,u1,u2,u3,u4,u5,u6]:=by
    have h1:(ys.drop j)[0]?=(xs.drop j)[0]?:=by rw[hyd]
    simpa[hxj] using h1
   have hrd:=Za9 (sp:=sp') hya hyj;have hkt:=Z76 (p:=p) hxj htj;have hne':l≠(h'.ep,112):=by
    have h1:=hlab l (by simp[labs]);have h2:=hs.1;rintro rfl;simp at h1;omega
   simp[h0,h1,h5,h6,hn,hlt,hb',hrd];have hs2:Same h ((h'.setBox (h'.ep,112) [C.d (D.str ByteArray.empty),C.d (D.int IntKind.i64 0),C.d (D.str ByteArray.empty),C.d (D.int IntKind.i64 0),C.d (D.int IntKind.i64 0),C.d (D.int IntKind.i64 0),C.d (D.str ByteArray.empty)]).next.setBox (h'.ep,112) [u0,u1,u2,u3,u4,u5,u6]) [l]:=(Same.setBox (Same.setBox hs (.inr hs.1)).next (.inr hs.1));refine Z01 (HSpec.of_lend (hp tj (List.mem_of_getElem? htj)) ⟨.agg (hf _ hs2 j _ _ hxj htj),hcv _ hs2⟩ rfl ?_);simp[h0,h1,h5,h6,hn];cases hpt:p tj with
   | true=>
     rw[hpt,if_pos rfl] at hkt;simp[h0,h1,h5,h6,hn,hwj];refine Back.of (n':=xs.length - (j+1)) (by omega) ⟨a,j+1,ys,rfl,by omega,by omega,hyl,hya,by rw[hkt,hyk],by rw[← List.drop_drop,hyd,List.drop_drop],by simp[hn],by simp[h0],by simp[h1],by simp[h5],by simp,hs2.next,sp',by simp[hne',hb'],hl'⟩
   | false=>
     rw[hpt] at hkt;simp only[Bool.false_eq_true,if_false] at hkt;have haj2:a < xs.length:=by omega
     have hst:=Z71 (sp:=sp') (k:=a) (f:=0) (vs:=[u0,u1,u2,u3,u4,u5,u6]) (x:=ys[a]'(by omega)) hya (List.getElem?_eq_getElem _) (by simp);have hlen2:=Z6m (sp:=sp') (k:=a) hya (by omega);have hxa:(ys[a]'(by omega)).length=7:=hya.get (List.getElem?_eq_getElem _);have hsc:Z03 (ys[a]'(by omega)) 0 [u0,u1,u2,u3,u4,u5,u6]=[u0,u1,u2,u3,u4,u5,u6]:=by
      match hx:ys[a]'(by omega),hxa with
      | [w0,w1,w2,w3,w4,w5,w6],_=>simp
     rw[hsc] at hst;simp only[Nat.add_zero] at hst;simp[h0,h1,h5,h6,hn,hwj,haj2,hne',hb',hwa];refine⟨hlen2,?_⟩;refine Back.of (n':=xs.length - (j+1)) (by omega) ⟨a+1,j+1,ys.set a [u0,u1,u2,u3,u4,u5,u6],rfl,by omega,by omega,by simpa using hyl,hya.set rfl,?_,?_,by simp[hn],by simp[h0],by simp[h1],by simp,by simp,(hs2.next).setBox (.inl (by simp)),sp',by simp[hst],?_⟩
     ·rw[hkt,← hyk,Z84 (by omega)]
     ·rw[List.drop_set_of_lt (by omega),← List.drop_drop,hyd,List.drop_drop]
     ·rw[Z04 (hya.set rfl),List.length_set,← Z04 (sp:=sp') hya,hl']
  ·obtain rfl:j=xs.length:=by omega
   have hyk2:ys.take a=keep p xs ts:=by
    rw[hyk,List.take_of_length_le (Nat.le_refl _),List.take_of_length_le (by omega)]
   have hac:a < cap:=by omega
   have hale:a≤xs.length:=by omega
   have hyal:(ys.take a).length=a:=by simp;omega
   have hbx:rowBox ys sp'=rowBox (ys.take a) ((ys.drop a).flatten++sp'):=by
    simp only[rowBox,← List.append_assoc,← List.flatten_append,List.take_append_drop]
   have hzl:∀ k:Nat,(List.replicate k [C.d (D.str ByteArray.empty),C.d (D.int IntKind.i64 0),C.d (D.str ByteArray.empty),C.d (D.int IntKind.i64 0),C.d (D.int IntKind.i64 0),C.d (D.int IntKind.i64 0),C.d (D.str ByteArray.empty)]).flatten.length=k * 7:=fun k=>by simp[List.length_flatten]
   have hcp:∀ vs,Z03 (rowBox ys sp') (a * 7) vs=rowBox (keep p xs ts) (Z03 ((ys.drop a).flatten++sp') 0 vs):=fun vs=>by
    have:=Z47 (sp:=(ys.drop a).flatten++sp') (vs:=vs) (hya.take (k:=a))
    rw[hyal,← hbx,hyk2] at this;exact this
   try simp only[Nat.mul_one] at hcp
   simp[h0,h1,h5,h6,hn];refine Z1u ⟨hale,hlen⟩ (fun _=>?_) (fun h=>absurd hac h);simp[h0,h1,h5,h6,hn];refine Z2l Z6l Zav hb' (by decide) (by rw[hl'];omega) ?_;simp[h0,h1,h5,h6,hn,hlen,hac];refine Z1u (by omega) (fun _=>?_) (fun h=>absurd (by omega) h);simp[hn];rw[hcp];have hln:∀ vs:List C,a * 7+vs.length≤cap * 7→(rowBox (keep p xs ts) (Z03 ((ys.drop a).flatten++sp') 0 vs)).length=cap * 7:=fun vs hvs=>by
    rw[← hcp]
    try simp only[Nat.mul_one] at hvs ⊢
    rw[Z06 (by omega),hl']
   refine hk (.mrow l 0 a cap) _ ⟨hall.keep,?_,.inr ⟨l,cap,Z03 ((ys.drop a).flatten++sp') 0 _,?_,Z5z.trans (if_pos rfl),?_⟩⟩ (hs.setBox (l:=l) (.inl (by simp))) rfl
   ·have:=Zfg (p:=p) (xs:=xs) (ts:=ts);have:=hm.2.1;omega
   ·rw[← hyk2,hyal]
   ·refine hln _ ?_
    first | (rw[hzl];omega) | (simp only[List.length_replicate];omega)
theorem Z6h (h:HS) (c:C) (xs:List (List C)) (ts:List (List D)) (g:FuncId) (caps:List Cap) (dss:List (List D)) (p:List D→Bool) (i0:Int) (hm:MR h 3 c xs) (hlab:∀ k ∈ labs c,k.1 < h.ep) (hl:xs.length=ts.length)
  (ht:∀ t ∈ ts,t.length=3) (hf:∀ h',Same h h' (labs c)→∀ (i:Nat) (x:List C) (t:List D),xs[i]?=some x→ts[i]?=some t→FrzCs h' x t)
  (hcv:∀ h',Same h h' (labs c)→LendVs h' (caps.map capV) (capsOf dss)) (hcf:LendC h (.fn g caps) (.fn g dss))
  (hp:∀ t ∈ ts,PSpec Tryz.prog g (.agg t::capsOf dss) (.one (.d (.bool (p t)))))
  (hidx:PSpec Tryz.prog 128 [.one (.d (.sl ts)),.one (.fn g dss)] (.one (.d (.int .i64 i0)))) (hi0:i0=match ts.findIdx? p with | some i=>(i:Int) | none=>-1) (K:V→HS→Prop)
  (hk:∀ c' h',MR h' 3 c' (keep p xs ts)→Same h h' (labs c)→labs c'=labs c→K (.one c') h') :
  HSpec Tryz.prog 210 [.one c,.one (.fn g caps)] h K:=by
 refine HSpec.of_vc Tryz.func210 rfl (by kernel_rfl) (n:=42) rfl rfl (by simp) ?_;simp;refine Z01 (HSpec.of_lend hidx ⟨.one (.frz (hm.frz hl ht (hf h .refl))),.one hcf,trivial⟩ rfl ?_);simp;refine Z6a (fun he=>?_) (fun hne=>?_)
 ·simp;have hall:∀ t ∈ ts,p t=false:=by
   intro t htm;cases hfi:ts.findIdx? p with
   | none=>simpa using List.findIdx?_eq_none_iff.1 hfi t htm
   | some i=>rw[hi0,hfi] at he;simp at he
  exact hk _ _ (by rw[Z89 hl hall];exact hm.frame fun _ _=>rfl) (Same.refl.next) rfl
 ·obtain⟨i,hfi,rfl⟩:∃ i,ts.findIdx? p=some i∧i0=(i:Int):=by
   cases hfi:ts.findIdx? p with
   | none=>rw[hi0,hfi] at hne;simp at hne
   | some i=>rw[hfi] at hi0;exact⟨i,rfl,hi0⟩
  obtain⟨hit,hpi,hbef⟩:=List.findIdx?_eq_some_iff_getElem.1 hfi;obtain⟨l,cap,sp,rfl,hb,hcap⟩:=hm.block (by omega);have hlim:xs.length≤2097152:=hm.2.1;have hall:=hm.1;have hlen:xs.length≤cap:=by
   have h1:=Z04 (sp:=sp) hall;omega
  have hw0:IntKind.i64.wrap ((i:Int)+1)=(i:Int)+1:=IntWalk.i64_in _ (by omega);have hk0:keep p (xs.take (i+1)) (ts.take (i+1))=xs.take i:=by
   rw[Z76 (x:=xs[i]'(by omega)) (t:=ts[i]) (List.getElem?_eq_getElem _) (List.getElem?_eq_getElem _),if_pos hpi];refine Z89 (by simp;omega) (fun t htm=>?_);obtain⟨j,hj,rfl⟩:=List.getElem_of_mem htm;simp only[List.length_take] at hj;rw[List.getElem_take];simpa using hbef j (by omega)
  simp[hw0];refine Wait.rounds (fun n e h'=>∃ (a j:Nat) (ys:List (List C)),n=xs.length - j∧a < j∧j≤xs.length∧ys.length=xs.length∧AllC 3 ys∧ys.take a=keep p (xs.take j) (ts.take j)∧ys.drop j=xs.drop j ∧
   e.n=42∧e.get 0=.one (.mrow l 0 xs.length cap)∧e.get 1=.one (.fn g caps)∧e.get 5=.one (.d (.int .i64 (a:Int)))∧e.get 6=.one (.d (.int .i64 (j:Int)))∧Same h h' [l]∧∃ sp',h'.box l=some (rowBox ys sp')∧(rowBox ys sp').length=cap * 3) (xs.length - (i+1))
   ⟨i,i+1,xs,rfl,by omega,by omega,rfl,hall,by rw[hk0],rfl,by simp,by simp,by simp,by simp,by simp,Same.refl.next,sp,hb,hcap⟩ ?_
  rintro n e h' ⟨a,j,ys,rfl,haj,hj,hyl,hya,hyk,hyd,hn,h0,h1,h5,h6,hs,sp',hb',hl'⟩;simp[h0,h1,h5,h6,hn];refine Z13 (fun hlt=>?_) (fun hge=>?_)
  ·have hwj:IntKind.i64.wrap ((j:Int)+1)=(j:Int)+1:=IntWalk.i64_in _ (by omega);have hwa:IntKind.i64.wrap ((a:Int)+1)=(a:Int)+1:=IntWalk.i64_in _ (by omega);have hjt:j < ts.length:=by omega
   obtain⟨u0,u1,u2,hxj⟩:∃ u0 u1 u2,xs[j]?=some [u0,u1,u2]:=by
    have h1:xs[j]?=some xs[j]:=List.getElem?_eq_getElem hlt;have h2:=hall.get h1
    match hx:xs[j],h2 with
    | [u0,u1,u2],_=>exact⟨u0,u1,u2,by rw[h1,hx]⟩
   obtain⟨tj,htj⟩:∃ t,ts[j]?=some t:=⟨_,List.getElem?_eq_getElem hjt⟩;have hyj:ys[j]?=some [u0,u1,u2]:=by
    have h1:(ys.drop j)[0]?=(xs.drop j)[0]?:=by rw[hyd]
    simpa[hxj] using h1
   have hrd:=Za9 (sp:=sp') hya hyj;have hkt:=Z76 (p:=p) hxj htj;have hne':l≠(h'.ep,112):=by
    have h1:=hlab l (by simp[labs]);have h2:=hs.1;rintro rfl;simp at h1;omega
   simp[h0,h1,h5,h6,hn,hlt,hb',hrd];have hs2:Same h ((h'.setBox (h'.ep,112) [C.d (D.str ByteArray.empty),C.nil,C.d (D.str ByteArray.empty)]).next.setBox (h'.ep,112) [u0,u1,u2]) [l]:=(Same.setBox (Same.setBox hs (.inr hs.1)).next (.inr hs.1));refine Z01 (HSpec.of_lend (hp tj (List.mem_of_getElem? htj)) ⟨.agg (hf _ hs2 j _ _ hxj htj),hcv _ hs2⟩ rfl ?_);simp[h0,h1,h5,h6,hn];cases hpt:p tj with
   | true=>
     rw[hpt,if_pos rfl] at hkt;simp[h0,h1,h5,h6,hn,hwj];refine Back.of (n':=xs.length - (j+1)) (by omega) ⟨a,j+1,ys,rfl,by omega,by omega,hyl,hya,by rw[hkt,hyk],by rw[← List.drop_drop,hyd,List.drop_drop],by simp[hn],by simp[h0],by simp[h1],by simp[h5],by simp,hs2.next,sp',by simp[hne',hb'],hl'⟩
   | false=>
     rw[hpt] at hkt;simp only[Bool.false_eq_true,if_false] at hkt;have haj2:a < xs.length:=by omega
     have hst:=Z71 (sp:=sp') (k:=a) (f:=0) (vs:=[u0,u1,u2]) (x:=ys[a]'(by omega)) hya (List.getElem?_eq_getElem _) (by simp);have hlen2:=Z6m (sp:=sp') (k:=a) hya (by omega);have hxa:(ys[a]'(by omega)).length=3:=hya.get (List.getElem?_eq_getElem _);have hsc:Z03 (ys[a]'(by omega)) 0 [u0,u1,u2]=[u0,u1,u2]:=by
      match hx:ys[a]'(by omega),hxa with
      | [w0,w1,w2],_=>simp
     rw[hsc] at hst;simp only[Nat.add_zero] at hst;simp[h0,h1,h5,h6,hn,hwj,haj2,hne',hb',hwa];refine⟨hlen2,?_⟩;refine Back.of (n':=xs.length - (j+1)) (by omega) ⟨a+1,j+1,ys.set a [u0,u1,u2],rfl,by omega,by omega,by simpa using hyl,hya.set rfl,?_,?_,by simp[hn],by simp[h0],by simp[h1],by simp,by simp,(hs2.next).setBox (.inl (by simp)),sp',by simp[hst],?_⟩
     ·rw[hkt,← hyk,Z84 (by omega)]
     ·rw[List.drop_set_of_lt (by omega),← List.drop_drop,hyd,List.drop_drop]
     ·rw[Z04 (hya.set rfl),List.length_set,← Z04 (sp:=sp') hya,hl']
  ·obtain rfl:j=xs.length:=by omega
   have hyk2:ys.take a=keep p xs ts:=by
    rw[hyk,List.take_of_length_le (Nat.le_refl _),List.take_of_length_le (by omega)]
   have hac:a < cap:=by omega
   have hale:a≤xs.length:=by omega
   have hyal:(ys.take a).length=a:=by simp;omega
   have hbx:rowBox ys sp'=rowBox (ys.take a) ((ys.drop a).flatten++sp'):=by
    simp only[rowBox,← List.append_assoc,← List.flatten_append,List.take_append_drop]
   have hzl:∀ k:Nat,(List.replicate k [C.d (D.str ByteArray.empty),C.nil,C.d (D.str ByteArray.empty)]).flatten.length=k * 3:=fun k=>by simp[List.length_flatten]
   have hcp:∀ vs,Z03 (rowBox ys sp') (a * 3) vs=rowBox (keep p xs ts) (Z03 ((ys.drop a).flatten++sp') 0 vs):=fun vs=>by
    have:=Z47 (sp:=(ys.drop a).flatten++sp') (vs:=vs) (hya.take (k:=a))
    rw[hyal,← hbx,hyk2] at this;exact this
   try simp only[Nat.mul_one] at hcp
   simp[h0,h1,h5,h6,hn];refine Z1u ⟨hale,hlen⟩ (fun _=>?_) (fun h=>absurd hac h);simp[h0,h1,h5,h6,hn];refine Z2l Z82 Zau hb' (by decide) (by rw[hl'];omega) ?_;simp[h0,h1,h5,h6,hn,hlen,hac];refine Z1u (by omega) (fun _=>?_) (fun h=>absurd (by omega) h);simp[hn];rw[hcp];have hln:∀ vs:List C,a * 3+vs.length≤cap * 3→(rowBox (keep p xs ts) (Z03 ((ys.drop a).flatten++sp') 0 vs)).length=cap * 3:=fun vs hvs=>by
    rw[← hcp]
    try simp only[Nat.mul_one] at hvs ⊢
    rw[Z06 (by omega),hl']
   refine hk (.mrow l 0 a cap) _ ⟨hall.keep,?_,.inr ⟨l,cap,Z03 ((ys.drop a).flatten++sp') 0 _,?_,Z5z.trans (if_pos rfl),?_⟩⟩ (hs.setBox (l:=l) (.inl (by simp))) rfl
   ·have:=Zfg (p:=p) (xs:=xs) (ts:=ts);have:=hm.2.1;omega
   ·rw[← hyk2,hyal]
   ·refine hln _ ?_
    first | (rw[hzl];omega) | (simp only[List.length_replicate];omega)
theorem Z7k (h:HS) (c:C) (xs:List (List C)) (ts:List (List D)) (g:FuncId) (caps:List Cap) (dss:List (List D)) (p:List D→Bool) (i0:Int) (hm:MR h 3 c xs) (hlab:∀ k ∈ labs c,k.1 < h.ep) (hl:xs.length=ts.length)
  (ht:∀ t ∈ ts,t.length=3) (hf:∀ h',Same h h' (labs c)→∀ (i:Nat) (x:List C) (t:List D),xs[i]?=some x→ts[i]?=some t→FrzCs h' x t)
  (hcv:∀ h',Same h h' (labs c)→LendVs h' (caps.map capV) (capsOf dss)) (hcf:LendC h (.fn g caps) (.fn g dss))
  (hp:∀ t ∈ ts,PSpec Tryz.prog g (.agg t::capsOf dss) (.one (.d (.bool (p t)))))
  (hidx:PSpec Tryz.prog 46 [.one (.d (.sl ts)),.one (.fn g dss)] (.one (.d (.int .i64 i0)))) (hi0:i0=match ts.findIdx? p with | some i=>(i:Int) | none=>-1) (K:V→HS→Prop)
  (hk:∀ c' h',MR h' 3 c' (keep p xs ts)→Same h h' (labs c)→labs c'=labs c→K (.one c') h') :
  HSpec Tryz.prog 208 [.one c,.one (.fn g caps)] h K:=by
 refine HSpec.of_vc Tryz.func208 rfl (by kernel_rfl) (n:=42) rfl rfl (by simp) ?_;simp;refine Z01 (HSpec.of_lend hidx ⟨.one (.frz (hm.frz hl ht (hf h .refl))),.one hcf,trivial⟩ rfl ?_);simp;refine Z6a (fun he=>?_) (fun hne=>?_)
 ·simp;have hall:∀ t ∈ ts,p t=false:=by
   intro t htm;cases hfi:ts.findIdx? p with
   | none=>simpa using List.findIdx?_eq_none_iff.1 hfi t htm
   | some i=>rw[hi0,hfi] at he;simp at he
  exact hk _ _ (by rw[Z89 hl hall];exact hm.frame fun _ _=>rfl) (Same.refl.next) rfl
 ·obtain⟨i,hfi,rfl⟩:∃ i,ts.findIdx? p=some i∧i0=(i:Int):=by
   cases hfi:ts.findIdx? p with
   | none=>rw[hi0,hfi] at hne;simp at hne
   | some i=>rw[hfi] at hi0;exact⟨i,rfl,hi0⟩
  obtain⟨hit,hpi,hbef⟩:=List.findIdx?_eq_some_iff_getElem.1 hfi;obtain⟨l,cap,sp,rfl,hb,hcap⟩:=hm.block (by omega);have hlim:xs.length≤2097152:=hm.2.1;have hall:=hm.1;have hlen:xs.length≤cap:=by
   have h1:=Z04 (sp:=sp) hall;omega
  have hw0:IntKind.i64.wrap ((i:Int)+1)=(i:Int)+1:=IntWalk.i64_in _ (by omega);have hk0:keep p (xs.take (i+1)) (ts.take (i+1))=xs.take i:=by
   rw[Z76 (x:=xs[i]'(by omega)) (t:=ts[i]) (List.getElem?_eq_getElem _) (List.getElem?_eq_getElem _),if_pos hpi];refine Z89 (by simp;omega) (fun t htm=>?_);obtain⟨j,hj,rfl⟩:=List.getElem_of_mem htm;simp only[List.length_take] at hj;rw[List.getElem_take];simpa using hbef j (by omega)
  simp[hw0];refine Wait.rounds (fun n e h'=>∃ (a j:Nat) (ys:List (List C)),n=xs.length - j∧a < j∧j≤xs.length∧ys.length=xs.length∧AllC 3 ys∧ys.take a=keep p (xs.take j) (ts.take j)∧ys.drop j=xs.drop j ∧
   e.n=42∧e.get 0=.one (.mrow l 0 xs.length cap)∧e.get 1=.one (.fn g caps)∧e.get 5=.one (.d (.int .i64 (a:Int)))∧e.get 6=.one (.d (.int .i64 (j:Int)))∧Same h h' [l]∧∃ sp',h'.box l=some (rowBox ys sp')∧(rowBox ys sp').length=cap * 3) (xs.length - (i+1))
   ⟨i,i+1,xs,rfl,by omega,by omega,rfl,hall,by rw[hk0],rfl,by simp,by simp,by simp,by simp,by simp,Same.refl.next,sp,hb,hcap⟩ ?_
  rintro n e h' ⟨a,j,ys,rfl,haj,hj,hyl,hya,hyk,hyd,hn,h0,h1,h5,h6,hs,sp',hb',hl'⟩;simp[h0,h1,h5,h6,hn];refine Z13 (fun hlt=>?_) (fun hge=>?_)
  ·have hwj:IntKind.i64.wrap ((j:Int)+1)=(j:Int)+1:=IntWalk.i64_in _ (by omega);have hwa:IntKind.i64.wrap ((a:Int)+1)=(a:Int)+1:=IntWalk.i64_in _ (by omega);have hjt:j < ts.length:=by omega
   obtain⟨u0,u1,u2,hxj⟩:∃ u0 u1 u2,xs[j]?=some [u0,u1,u2]:=by
    have h1:xs[j]?=some xs[j]:=List.getElem?_eq_getElem hlt;have h2:=hall.get h1
    match hx:xs[j],h2 with
    | [u0,u1,u2],_=>exact⟨u0,u1,u2,by rw[h1,hx]⟩
   obtain⟨tj,htj⟩:∃ t,ts[j]?=some t:=⟨_,List.getElem?_eq_getElem hjt⟩;have hyj:ys[j]?=some [u0,u1,u2]:=by
    have h1:(ys.drop j)[0]?=(xs.drop j)[0]?:=by rw[hyd]
    simpa[hxj] using h1
   have hrd:=Za9 (sp:=sp') hya hyj;have hkt:=Z76 (p:=p) hxj htj;have hne':l≠(h'.ep,112):=by
    have h1:=hlab l (by simp[labs]);have h2:=hs.1;rintro rfl;simp at h1;omega
   simp[h0,h1,h5,h6,hn,hlt,hb',hrd];have hs2:Same h ((h'.setBox (h'.ep,112) [C.d (D.str ByteArray.empty),C.nil,C.nil]).next.setBox (h'.ep,112) [u0,u1,u2]) [l]:=(Same.setBox (Same.setBox hs (.inr hs.1)).next (.inr hs.1));refine Z01 (HSpec.of_lend (hp tj (List.mem_of_getElem? htj)) ⟨.agg (hf _ hs2 j _ _ hxj htj),hcv _ hs2⟩ rfl ?_);simp[h0,h1,h5,h6,hn];cases hpt:p tj with
   | true=>
     rw[hpt,if_pos rfl] at hkt;simp[h0,h1,h5,h6,hn,hwj];refine Back.of (n':=xs.length - (j+1)) (by omega) ⟨a,j+1,ys,rfl,by omega,by omega,hyl,hya,by rw[hkt,hyk],by rw[← List.drop_drop,hyd,List.drop_drop],by simp[hn],by simp[h0],by simp[h1],by simp[h5],by simp,hs2.next,sp',by simp[hne',hb'],hl'⟩
   | false=>
     rw[hpt] at hkt;simp only[Bool.false_eq_true,if_false] at hkt;have haj2:a < xs.length:=by omega
     have hst:=Z71 (sp:=sp') (k:=a) (f:=0) (vs:=[u0,u1,u2]) (x:=ys[a]'(by omega)) hya (List.getElem?_eq_getElem _) (by simp);have hlen2:=Z6m (sp:=sp') (k:=a) hya (by omega);have hxa:(ys[a]'(by omega)).length=3:=hya.get (List.getElem?_eq_getElem _);have hsc:Z03 (ys[a]'(by omega)) 0 [u0,u1,u2]=[u0,u1,u2]:=by
      match hx:ys[a]'(by omega),hxa with
      | [w0,w1,w2],_=>simp
     rw[hsc] at hst;simp only[Nat.add_zero] at hst;simp[h0,h1,h5,h6,hn,hwj,haj2,hne',hb',hwa];refine⟨hlen2,?_⟩;refine Back.of (n':=xs.length - (j+1)) (by omega) ⟨a+1,j+1,ys.set a [u0,u1,u2],rfl,by omega,by omega,by simpa using hyl,hya.set rfl,?_,?_,by simp[hn],by simp[h0],by simp[h1],by simp,by simp,(hs2.next).setBox (.inl (by simp)),sp',by simp[hst],?_⟩
     ·rw[hkt,← hyk,Z84 (by omega)]
     ·rw[List.drop_set_of_lt (by omega),← List.drop_drop,hyd,List.drop_drop]
     ·rw[Z04 (hya.set rfl),List.length_set,← Z04 (sp:=sp') hya,hl']
  ·obtain rfl:j=xs.length:=by omega
   have hyk2:ys.take a=keep p xs ts:=by
    rw[hyk,List.take_of_length_le (Nat.le_refl _),List.take_of_length_le (by omega)]
   have hac:a < cap:=by omega
   have hale:a≤xs.length:=by omega
   have hyal:(ys.take a).length=a:=by simp;omega
   have hbx:rowBox ys sp'=rowBox (ys.take a) ((ys.drop a).flatten++sp'):=by
    simp only[rowBox,← List.append_assoc,← List.flatten_append,List.take_append_drop]
   have hzl:∀ k:Nat,(List.replicate k [C.d (D.str ByteArray.empty),C.nil,C.nil]).flatten.length=k * 3:=fun k=>by simp[List.length_flatten]
   have hcp:∀ vs,Z03 (rowBox ys sp') (a * 3) vs=rowBox (keep p xs ts) (Z03 ((ys.drop a).flatten++sp') 0 vs):=fun vs=>by
    have:=Z47 (sp:=(ys.drop a).flatten++sp') (vs:=vs) (hya.take (k:=a))
    rw[hyal,← hbx,hyk2] at this;exact this
   try simp only[Nat.mul_one] at hcp
   simp[h0,h1,h5,h6,hn];refine Z1u ⟨hale,hlen⟩ (fun _=>?_) (fun h=>absurd hac h);simp[h0,h1,h5,h6,hn];refine Z2l Z83 Zd6 hb' (by decide) (by rw[hl'];omega) ?_;simp[h0,h1,h5,h6,hn,hlen,hac];refine Z1u (by omega) (fun _=>?_) (fun h=>absurd (by omega) h);simp[hn];rw[hcp];have hln:∀ vs:List C,a * 3+vs.length≤cap * 3→(rowBox (keep p xs ts) (Z03 ((ys.drop a).flatten++sp') 0 vs)).length=cap * 3:=fun vs hvs=>by
    rw[← hcp]
    try simp only[Nat.mul_one] at hvs ⊢
    rw[Z06 (by omega),hl']
   refine hk (.mrow l 0 a cap) _ ⟨hall.keep,?_,.inr ⟨l,cap,Z03 ((ys.drop a).flatten++sp') 0 _,?_,Z5z.trans (if_pos rfl),?_⟩⟩ (hs.setBox (l:=l) (.inl (by simp))) rfl
   ·have:=Zfg (p:=p) (xs:=xs) (ts:=ts);have:=hm.2.1;omega
   ·rw[← hyk2,hyal]
   ·refine hln _ ?_
    first | (rw[hzl];omega) | (simp only[List.length_replicate];omega)
theorem Z79 (h:HS) (c:C) (xs:List (List C)) (i j:Nat) (hm:MR h 7 c xs) (hij:i≤j) (hj:j≤xs.length) (K:V→HS→Prop)
  (hk:∀ c' h',MR h' 7 c' (xs.take i++xs.drop j)→(∀ l,l ∉ labs c→h'.box l=h.box l)→h'.ep=h.ep→h'.arr=h.arr→labs c'=labs c→K (.one c') h') :
  HSpec Tryz.prog 175 [.one c,.one (.d (.int .i64 i)),.one (.d (.int .i64 j))] h K:=by
 obtain⟨hall,hlim,h1 | ⟨l,cap,sp,rfl,hb,hcap⟩⟩:=hm
 ·obtain⟨rfl,hc⟩:=h1;obtain rfl:j=0:=by simpa using hj
  obtain rfl:i=0:=by omega
  rcases hc with rfl | rfl
  ·refine HSpec.of_vc Tryz.func175 rfl (by kernel_rfl) (n:=33) rfl rfl (by simp) ?_;simp;exact hk _ _ (by simpa using MR.nil) (fun _ _=>rfl) rfl rfl rfl
  ·refine HSpec.of_vc Tryz.func175 rfl (by kernel_rfl) (n:=33) rfl rfl (by simp) ?_;simp;exact hk _ _ (by simpa using MR.z) (fun _ _=>rfl) rfl rfl rfl
 ·have hlen:xs.length≤cap:=by
   have h1:=Z04 (sp:=sp) hall;omega
  have hi:i≤xs.length:=by omega
  refine HSpec.of_vc Tryz.func175 rfl (by kernel_rfl) (n:=33) rfl rfl (by simp) ?_;simp;refine Z1u ⟨⟨hij,hj⟩,hlen⟩ (fun _=>?_) (fun _=>?_)
  all_goals
   simp;refine Z6a (fun he=>?_) (fun hne=>?_)
   ·simp;have hij':i=j:=by simp at he;omega
    subst hij';refine hk _ _ ⟨?_,?_,.inr ⟨l,cap,sp,?_,?_,?_⟩⟩ (fun _ _=>rfl) rfl rfl rfl<;>simp[*]
   ·simp;have hlt:i < j:=by
     have:(i:Int)≠j:=by simpa using hne
     omega
    have hjc:j≤cap:=by omega
    have hic:i≤cap:=by omega
    have hc0:0 < cap:=by omega
    refine Wait.of (SWP.draw (Plan.then_ [0,1,2,3,4,5,6,7] .done) follows (by kernel_rfl) ?_);simp[Plan.then_,vcPlan,Z02,Z00,callKind,hjc,hic,hlen,hj,hc0];have fin:∀ (sp1:List C) (h1:HS),(rowBox (xs.take i++xs.drop j) sp1).length=cap * 7→h1.box l=some (rowBox (xs.take i++xs.drop j) sp1)→(∀ k,k≠l→h1.box k=h.box k)→h1.ep=h.ep→h1.arr=h.arr →
      K (.one (.mrow l 0 (i+(xs.length - j)) cap)) h1:=fun sp1 h1 e1 e2 e3 e4 e5=>
     hk _ _ ⟨AllC.append.2 ⟨hall.take,hall.drop⟩,by simp at hlim ⊢;omega,.inr ⟨l,cap,sp1,by simp;omega,e2,e1⟩⟩ (fun k hkl=>e3 k (by simpa[labs] using hkl)) e4 e5 rfl
    have happ:appHdr h 7 (.mrow l 0 i cap)=some (i,cap,(xs.take i).flatten,some (l,0)):=by
     have:=Z4g (off:=0) (k:=i) (cap:=cap) hall hb (by omega)
     simp only[Nat.zero_mul,List.drop_zero] at this;simp only[appHdr,this]
    have hmul:∀ a b:Nat,a≤b→a * 7≤b * 7:=fun a b h=>by omega
    have hxt:(xs.drop j).take (xs.length - j)=xs.drop j:=List.take_of_length_le (by simp);generalize hm:i+(xs.length - j)=m at *;have hm2:m≤xs.length:=by omega
    have hm3:m < xs.length:=by omega
    have hm4:m < cap:=by omega
    have hyl:(xs.take i++xs.drop j).length=m:=by simp;omega
    have hya:AllC 7 (xs.take i++xs.drop j):=AllC.append.2 ⟨hall.take,hall.drop⟩;have hzl:∀ k:Nat,(List.replicate k [C.d (D.str ByteArray.empty),C.d (D.int IntKind.i64 0),C.d (D.str ByteArray.empty),C.d (D.int IntKind.i64 0),C.d (D.int IntKind.i64 0),C.d (D.int IntKind.i64 0),C.d (D.str ByteArray.empty)]).flatten.length=k * 7:=fun k=>by simp[List.length_flatten]
    by_cases hjc2:j < cap
    ·simp[hjc2];refine Z58 Z6l happ (by have:=Z4g (off:=j) (k:=xs.length - j) (cap:=cap - j) hall hb (by omega);rw[hxt] at this;first | exact this | simpa using this) (m:=xs.length - j) rfl (by simp) (by decide) (by decide) (by simp at hlim ⊢;omega) ?_ ?_ (fun h0=>?_) (fun h0 hle=>?_) (fun h0 hgt=>?_)
     ·rw[hall.drop.flatten];simp
     ·rw[hall.take.flatten];simp;omega
     ·have hj2:xs.drop j=[]:=List.drop_eq_nil_of_le (by omega);obtain rfl:i=m:=by omega
      have hb2:∃ sp1,h.box l=some (rowBox (xs.take i++xs.drop j) sp1)∧(rowBox (xs.take i++xs.drop j) sp1).length=cap * 7:=by
       refine⟨(xs.drop i).flatten++sp,?_,?_⟩
       ·rw[hb,hj2];simp[rowBox,← List.append_assoc,← List.flatten_append]
       ·rw[← hcap,hj2];simp[rowBox,← List.append_assoc,← List.flatten_append]
      obtain⟨sp1,hb2,hl2⟩:=hb2;simp[hjc2,hlen,hm2,hm3,hm4];refine Z2l Z6l Zav hb2 (by decide) (by rw[hl2];omega) ?_;simp;have e2:∀ vs,Z03 (rowBox (xs.take i++xs.drop j) sp1) (i * 7) vs=rowBox (xs.take i++xs.drop j) (Z03 sp1 0 vs):=fun vs=>by have:=Z47 (sp:=sp1) (vs:=vs) hya;rw[hyl] at this;exact this
      try simp only[Nat.mul_one] at e2
      rw[e2];refine fin _ _ ?_ (by simp;rfl) (fun k hk=>by simp[hk]) (by simp) (by simp[HS.setBox]);rw[Z04 hya,Z06 (by rw[Z04 hya,hyl] at hl2;first | (rw[hzl];omega) | (simp only[List.length_replicate];omega)),← Z04 (sp:=sp1) hya,hl2]
     ·rintro l' off he';simp only[Option.some.injEq,Prod.mk.injEq] at he';obtain⟨rfl,rfl⟩:=he';refine⟨_,hb,by rw[hcap];omega,?_⟩;rw[Nat.zero_add,Zbm hall hall.drop hi,hm];have hl2:(rowBox (xs.take i++xs.drop j) (List.drop ((i+(xs.drop j).length) * 7) (rowBox xs sp))).length=cap * 7:=by
       rw[Z04 hya,hyl,List.length_drop,hcap,List.length_drop];omega
      generalize List.drop ((i+(xs.drop j).length) * 7) (rowBox xs sp)=sp1 at *;simp[hjc2,hlen,hm2,hm3,hm4];refine Z2l Z6l Zav (by simp;rfl) (by decide) (by rw[hl2];omega) ?_;simp;have e2:∀ vs,Z03 (rowBox (xs.take i++xs.drop j) sp1) (m * 7) vs=rowBox (xs.take i++xs.drop j) (Z03 sp1 0 vs):=fun vs=>by have:=Z47 (sp:=sp1) (vs:=vs) hya;rw[hyl] at this;exact this
      try simp only[Nat.mul_one] at e2
      rw[e2];refine fin _ _ ?_ (by simp;rfl) (fun k hk=>by simp[hk]) (by simp) (by simp[HS.setBox]);rw[Z04 hya,Z06 (by rw[Z04 hya,hyl] at hl2;first | (rw[hzl];omega) | (simp only[List.length_replicate];omega)),← Z04 (sp:=sp1) hya,hl2]
     ·omega
    ·simp[hjc2];have hj2:xs.drop j=[]:=List.drop_eq_nil_of_le (by omega);refine Z58 Z6l happ (new:=[]) (m:=0) (by simp[Z0k]) rfl (by simp) (by decide) (by decide) (by simp at hlim ⊢;omega) rfl ?_ (fun h0=>?_) (fun h0=>absurd h0 (by omega)) (fun h0=>absurd h0 (by omega))
     ·rw[hall.take.flatten];simp;omega
     ·obtain rfl:i=m:=by omega
      have hb2:∃ sp1,h.box l=some (rowBox (xs.take i++xs.drop j) sp1)∧(rowBox (xs.take i++xs.drop j) sp1).length=cap * 7:=by
       refine⟨(xs.drop i).flatten++sp,?_,?_⟩
       ·rw[hb,hj2];simp[rowBox,← List.append_assoc,← List.flatten_append]
       ·rw[← hcap,hj2];simp[rowBox,← List.append_assoc,← List.flatten_append]
      obtain⟨sp1,hb2,hl2⟩:=hb2;simp[hjc2,hlen,hm2,hm3,hm4];refine Z2l Z6l Zav hb2 (by decide) (by rw[hl2];omega) ?_;simp;have e2:∀ vs,Z03 (rowBox (xs.take i++xs.drop j) sp1) (i * 7) vs=rowBox (xs.take i++xs.drop j) (Z03 sp1 0 vs):=fun vs=>by have:=Z47 (sp:=sp1) (vs:=vs) hya;rw[hyl] at this;exact this
      try simp only[Nat.mul_one] at e2
      rw[e2];refine fin _ _ ?_ (by simp;rfl) (fun k hk=>by simp[hk]) (by simp) (by simp[HS.setBox]);rw[Z04 hya,Z06 (by rw[Z04 hya,hyl] at hl2;first | (rw[hzl];omega) | (simp only[List.length_replicate];omega)),← Z04 (sp:=sp1) hya,hl2]
theorem Z59 (h:HS) (c:C) (xs:List (List C)) (i j:Nat) (hm:MR h 3 c xs) (hij:i≤j) (hj:j≤xs.length) (K:V→HS→Prop)
  (hk:∀ c' h',MR h' 3 c' (xs.take i++xs.drop j)→(∀ l,l ∉ labs c→h'.box l=h.box l)→h'.ep=h.ep→h'.arr=h.arr→labs c'=labs c→K (.one c') h') :
  HSpec Tryz.prog 177 [.one c,.one (.d (.int .i64 i)),.one (.d (.int .i64 j))] h K:=by
 obtain⟨hall,hlim,h1 | ⟨l,cap,sp,rfl,hb,hcap⟩⟩:=hm
 ·obtain⟨rfl,hc⟩:=h1;obtain rfl:j=0:=by simpa using hj
  obtain rfl:i=0:=by omega
  rcases hc with rfl | rfl
  ·refine HSpec.of_vc Tryz.func177 rfl (by kernel_rfl) (n:=33) rfl rfl (by simp) ?_;simp;exact hk _ _ (by simpa using MR.nil) (fun _ _=>rfl) rfl rfl rfl
  ·refine HSpec.of_vc Tryz.func177 rfl (by kernel_rfl) (n:=33) rfl rfl (by simp) ?_;simp;exact hk _ _ (by simpa using MR.z) (fun _ _=>rfl) rfl rfl rfl
 ·have hlen:xs.length≤cap:=by
   have h1:=Z04 (sp:=sp) hall;omega
  have hi:i≤xs.length:=by omega
  refine HSpec.of_vc Tryz.func177 rfl (by kernel_rfl) (n:=33) rfl rfl (by simp) ?_;simp;refine Z1u ⟨⟨hij,hj⟩,hlen⟩ (fun _=>?_) (fun _=>?_)
  all_goals
   simp;refine Z6a (fun he=>?_) (fun hne=>?_)
   ·simp;have hij':i=j:=by simp at he;omega
    subst hij';refine hk _ _ ⟨?_,?_,.inr ⟨l,cap,sp,?_,?_,?_⟩⟩ (fun _ _=>rfl) rfl rfl rfl<;>simp[*]
   ·simp;have hlt:i < j:=by
     have:(i:Int)≠j:=by simpa using hne
     omega
    have hjc:j≤cap:=by omega
    have hic:i≤cap:=by omega
    have hc0:0 < cap:=by omega
    refine Wait.of (SWP.draw (Plan.then_ [0,1,2,3,4,5,6,7] .done) follows (by kernel_rfl) ?_);simp[Plan.then_,vcPlan,Z02,Z00,callKind,hjc,hic,hlen,hj,hc0];have fin:∀ (sp1:List C) (h1:HS),(rowBox (xs.take i++xs.drop j) sp1).length=cap * 3→h1.box l=some (rowBox (xs.take i++xs.drop j) sp1)→(∀ k,k≠l→h1.box k=h.box k)→h1.ep=h.ep→h1.arr=h.arr →
      K (.one (.mrow l 0 (i+(xs.length - j)) cap)) h1:=fun sp1 h1 e1 e2 e3 e4 e5=>
     hk _ _ ⟨AllC.append.2 ⟨hall.take,hall.drop⟩,by simp at hlim ⊢;omega,.inr ⟨l,cap,sp1,by simp;omega,e2,e1⟩⟩ (fun k hkl=>e3 k (by simpa[labs] using hkl)) e4 e5 rfl
    have happ:appHdr h 3 (.mrow l 0 i cap)=some (i,cap,(xs.take i).flatten,some (l,0)):=by
     have:=Z4g (off:=0) (k:=i) (cap:=cap) hall hb (by omega)
     simp only[Nat.zero_mul,List.drop_zero] at this;simp only[appHdr,this]
    have hmul:∀ a b:Nat,a≤b→a * 3≤b * 3:=fun a b h=>by omega
    have hxt:(xs.drop j).take (xs.length - j)=xs.drop j:=List.take_of_length_le (by simp);generalize hm:i+(xs.length - j)=m at *;have hm2:m≤xs.length:=by omega
    have hm3:m < xs.length:=by omega
    have hm4:m < cap:=by omega
    have hyl:(xs.take i++xs.drop j).length=m:=by simp;omega
    have hya:AllC 3 (xs.take i++xs.drop j):=AllC.append.2 ⟨hall.take,hall.drop⟩;have hzl:∀ k:Nat,(List.replicate k [C.d (D.str ByteArray.empty),C.nil,C.d (D.str ByteArray.empty)]).flatten.length=k * 3:=fun k=>by simp[List.length_flatten]
    by_cases hjc2:j < cap
    ·simp[hjc2];refine Z58 Z82 happ (by have:=Z4g (off:=j) (k:=xs.length - j) (cap:=cap - j) hall hb (by omega);rw[hxt] at this;first | exact this | simpa using this) (m:=xs.length - j) rfl (by simp) (by decide) (by decide) (by simp at hlim ⊢;omega) ?_ ?_ (fun h0=>?_) (fun h0 hle=>?_) (fun h0 hgt=>?_)
     ·rw[hall.drop.flatten];simp
     ·rw[hall.take.flatten];simp;omega
     ·have hj2:xs.drop j=[]:=List.drop_eq_nil_of_le (by omega);obtain rfl:i=m:=by omega
      have hb2:∃ sp1,h.box l=some (rowBox (xs.take i++xs.drop j) sp1)∧(rowBox (xs.take i++xs.drop j) sp1).length=cap * 3:=by
       refine⟨(xs.drop i).flatten++sp,?_,?_⟩
       ·rw[hb,hj2];simp[rowBox,← List.append_assoc,← List.flatten_append]
       ·rw[← hcap,hj2];simp[rowBox,← List.append_assoc,← List.flatten_append]
      obtain⟨sp1,hb2,hl2⟩:=hb2;simp[hjc2,hlen,hm2,hm3,hm4];refine Z2l Z82 Zau hb2 (by decide) (by rw[hl2];omega) ?_;simp;have e2:∀ vs,Z03 (rowBox (xs.take i++xs.drop j) sp1) (i * 3) vs=rowBox (xs.take i++xs.drop j) (Z03 sp1 0 vs):=fun vs=>by have:=Z47 (sp:=sp1) (vs:=vs) hya;rw[hyl] at this;exact this
      try simp only[Nat.mul_one] at e2
      rw[e2];refine fin _ _ ?_ (by simp;rfl) (fun k hk=>by simp[hk]) (by simp) (by simp[HS.setBox]);rw[Z04 hya,Z06 (by rw[Z04 hya,hyl] at hl2;first | (rw[hzl];omega) | (simp only[List.length_replicate];omega)),← Z04 (sp:=sp1) hya,hl2]
     ·rintro l' off he';simp only[Option.some.injEq,Prod.mk.injEq] at he';obtain⟨rfl,rfl⟩:=he';refine⟨_,hb,by rw[hcap];omega,?_⟩;rw[Nat.zero_add,Zbm hall hall.drop hi,hm];have hl2:(rowBox (xs.take i++xs.drop j) (List.drop ((i+(xs.drop j).length) * 3) (rowBox xs sp))).length=cap * 3:=by
       rw[Z04 hya,hyl,List.length_drop,hcap,List.length_drop];omega
      generalize List.drop ((i+(xs.drop j).length) * 3) (rowBox xs sp)=sp1 at *;simp[hjc2,hlen,hm2,hm3,hm4];refine Z2l Z82 Zau (by simp;rfl) (by decide) (by rw[hl2];omega) ?_;simp;have e2:∀ vs,Z03 (rowBox (xs.take i++xs.drop j) sp1) (m * 3) vs=rowBox (xs.take i++xs.drop j) (Z03 sp1 0 vs):=fun vs=>by have:=Z47 (sp:=sp1) (vs:=vs) hya;rw[hyl] at this;exact this
      try simp only[Nat.mul_one] at e2
      rw[e2];refine fin _ _ ?_ (by simp;rfl) (fun k hk=>by simp[hk]) (by simp) (by simp[HS.setBox]);rw[Z04 hya,Z06 (by rw[Z04 hya,hyl] at hl2;first | (rw[hzl];omega) | (simp only[List.length_replicate];omega)),← Z04 (sp:=sp1) hya,hl2]
     ·omega
    ·simp[hjc2];have hj2:xs.drop j=[]:=List.drop_eq_nil_of_le (by omega);refine Z58 Z82 happ (new:=[]) (m:=0) (by simp[Z0k]) rfl (by simp) (by decide) (by decide) (by simp at hlim ⊢;omega) rfl ?_ (fun h0=>?_) (fun h0=>absurd h0 (by omega)) (fun h0=>absurd h0 (by omega))
     ·rw[hall.take.flatten];simp;omega
     ·obtain rfl:i=m:=by omega
      have hb2:∃ sp1,h.box l=some (rowBox (xs.take i++xs.drop j) sp1)∧(rowBox (xs.take i++xs.drop j) sp1).length=cap * 3:=by
       refine⟨(xs.drop i).flatten++sp,?_,?_⟩
       ·rw[hb,hj2];simp[rowBox,← List.append_assoc,← List.flatten_append]
       ·rw[← hcap,hj2];simp[rowBox,← List.append_assoc,← List.flatten_append]
      obtain⟨sp1,hb2,hl2⟩:=hb2;simp[hjc2,hlen,hm2,hm3,hm4];refine Z2l Z82 Zau hb2 (by decide) (by rw[hl2];omega) ?_;simp;have e2:∀ vs,Z03 (rowBox (xs.take i++xs.drop j) sp1) (i * 3) vs=rowBox (xs.take i++xs.drop j) (Z03 sp1 0 vs):=fun vs=>by have:=Z47 (sp:=sp1) (vs:=vs) hya;rw[hyl] at this;exact this
      try simp only[Nat.mul_one] at e2
      rw[e2];refine fin _ _ ?_ (by simp;rfl) (fun k hk=>by simp[hk]) (by simp) (by simp[HS.setBox]);rw[Z04 hya,Z06 (by rw[Z04 hya,hyl] at hl2;first | (rw[hzl];omega) | (simp only[List.length_replicate];omega)),← Z04 (sp:=sp1) hya,hl2]
theorem Z6g (h:HS) (c:C) (xs:List (List C)) (i j:Nat) (hm:MR h 3 c xs) (hij:i≤j) (hj:j≤xs.length) (K:V→HS→Prop)
  (hk:∀ c' h',MR h' 3 c' (xs.take i++xs.drop j)→(∀ l,l ∉ labs c→h'.box l=h.box l)→h'.ep=h.ep→h'.arr=h.arr→labs c'=labs c→K (.one c') h') :
  HSpec Tryz.prog 179 [.one c,.one (.d (.int .i64 i)),.one (.d (.int .i64 j))] h K:=by
 obtain⟨hall,hlim,h1 | ⟨l,cap,sp,rfl,hb,hcap⟩⟩:=hm
 ·obtain⟨rfl,hc⟩:=h1;obtain rfl:j=0:=by simpa using hj
  obtain rfl:i=0:=by omega
  rcases hc with rfl | rfl
  ·refine HSpec.of_vc Tryz.func179 rfl (by kernel_rfl) (n:=33) rfl rfl (by simp) ?_;simp;exact hk _ _ (by simpa using MR.nil) (fun _ _=>rfl) rfl rfl rfl
  ·refine HSpec.of_vc Tryz.func179 rfl (by kernel_rfl) (n:=33) rfl rfl (by simp) ?_;simp;exact hk _ _ (by simpa using MR.z) (fun _ _=>rfl) rfl rfl rfl
 ·have hlen:xs.length≤cap:=by
   have h1:=Z04 (sp:=sp) hall;omega
  have hi:i≤xs.length:=by omega
  refine HSpec.of_vc Tryz.func179 rfl (by kernel_rfl) (n:=33) rfl rfl (by simp) ?_;simp;refine Z1u ⟨⟨hij,hj⟩,hlen⟩ (fun _=>?_) (fun _=>?_)
  all_goals
   simp;refine Z6a (fun he=>?_) (fun hne=>?_)
   ·simp;have hij':i=j:=by simp at he;omega
    subst hij';refine hk _ _ ⟨?_,?_,.inr ⟨l,cap,sp,?_,?_,?_⟩⟩ (fun _ _=>rfl) rfl rfl rfl<;>simp[*]
   ·simp;have hlt:i < j:=by
     have:(i:Int)≠j:=by simpa using hne
     omega
    have hjc:j≤cap:=by omega
    have hic:i≤cap:=by omega
    have hc0:0 < cap:=by omega
    refine Wait.of (SWP.draw (Plan.then_ [0,1,2,3,4,5,6,7] .done) follows (by kernel_rfl) ?_);simp[Plan.then_,vcPlan,Z02,Z00,callKind,hjc,hic,hlen,hj,hc0];have fin:∀ (sp1:List C) (h1:HS),(rowBox (xs.take i++xs.drop j) sp1).length=cap * 3→h1.box l=some (rowBox (xs.take i++xs.drop j) sp1)→(∀ k,k≠l→h1.box k=h.box k)→h1.ep=h.ep→h1.arr=h.arr →
      K (.one (.mrow l 0 (i+(xs.length - j)) cap)) h1:=fun sp1 h1 e1 e2 e3 e4 e5=>
     hk _ _ ⟨AllC.append.2 ⟨hall.take,hall.drop⟩,by simp at hlim ⊢;omega,.inr ⟨l,cap,sp1,by simp;omega,e2,e1⟩⟩ (fun k hkl=>e3 k (by simpa[labs] using hkl)) e4 e5 rfl
    have happ:appHdr h 3 (.mrow l 0 i cap)=some (i,cap,(xs.take i).flatten,some (l,0)):=by
     have:=Z4g (off:=0) (k:=i) (cap:=cap) hall hb (by omega)
     simp only[Nat.zero_mul,List.drop_zero] at this;simp only[appHdr,this]
    have hmul:∀ a b:Nat,a≤b→a * 3≤b * 3:=fun a b h=>by omega
    have hxt:(xs.drop j).take (xs.length - j)=xs.drop j:=List.take_of_length_le (by simp);generalize hm:i+(xs.length - j)=m at *;have hm2:m≤xs.length:=by omega
    have hm3:m < xs.length:=by omega
    have hm4:m < cap:=by omega
    have hyl:(xs.take i++xs.drop j).length=m:=by simp;omega
    have hya:AllC 3 (xs.take i++xs.drop j):=AllC.append.2 ⟨hall.take,hall.drop⟩;have hzl:∀ k:Nat,(List.replicate k [C.d (D.str ByteArray.empty),C.nil,C.nil]).flatten.length=k * 3:=fun k=>by simp[List.length_flatten]
    by_cases hjc2:j < cap
    ·simp[hjc2];refine Z58 Z83 happ (by have:=Z4g (off:=j) (k:=xs.length - j) (cap:=cap - j) hall hb (by omega);rw[hxt] at this;first | exact this | simpa using this) (m:=xs.length - j) rfl (by simp) (by decide) (by decide) (by simp at hlim ⊢;omega) ?_ ?_ (fun h0=>?_) (fun h0 hle=>?_) (fun h0 hgt=>?_)
     ·rw[hall.drop.flatten];simp
     ·rw[hall.take.flatten];simp;omega
     ·have hj2:xs.drop j=[]:=List.drop_eq_nil_of_le (by omega);obtain rfl:i=m:=by omega
      have hb2:∃ sp1,h.box l=some (rowBox (xs.take i++xs.drop j) sp1)∧(rowBox (xs.take i++xs.drop j) sp1).length=cap * 3:=by
       refine⟨(xs.drop i).flatten++sp,?_,?_⟩
       ·rw[hb,hj2];simp[rowBox,← List.append_assoc,← List.flatten_append]
       ·rw[← hcap,hj2];simp[rowBox,← List.append_assoc,← List.flatten_append]
      obtain⟨sp1,hb2,hl2⟩:=hb2;simp[hjc2,hlen,hm2,hm3,hm4];refine Z2l Z83 Zd6 hb2 (by decide) (by rw[hl2];omega) ?_;simp;have e2:∀ vs,Z03 (rowBox (xs.take i++xs.drop j) sp1) (i * 3) vs=rowBox (xs.take i++xs.drop j) (Z03 sp1 0 vs):=fun vs=>by have:=Z47 (sp:=sp1) (vs:=vs) hya;rw[hyl] at this;exact this
      try simp only[Nat.mul_one] at e2
      rw[e2];refine fin _ _ ?_ (by simp;rfl) (fun k hk=>by simp[hk]) (by simp) (by simp[HS.setBox]);rw[Z04 hya,Z06 (by rw[Z04 hya,hyl] at hl2;first | (rw[hzl];omega) | (simp only[List.length_replicate];omega)),← Z04 (sp:=sp1) hya,hl2]
     ·rintro l' off he';simp only[Option.some.injEq,Prod.mk.injEq] at he';obtain⟨rfl,rfl⟩:=he';refine⟨_,hb,by rw[hcap];omega,?_⟩;rw[Nat.zero_add,Zbm hall hall.drop hi,hm];have hl2:(rowBox (xs.take i++xs.drop j) (List.drop ((i+(xs.drop j).length) * 3) (rowBox xs sp))).length=cap * 3:=by
       rw[Z04 hya,hyl,List.length_drop,hcap,List.length_drop];omega
      generalize List.drop ((i+(xs.drop j).length) * 3) (rowBox xs sp)=sp1 at *;simp[hjc2,hlen,hm2,hm3,hm4];refine Z2l Z83 Zd6 (by simp;rfl) (by decide) (by rw[hl2];omega) ?_;simp;have e2:∀ vs,Z03 (rowBox (xs.take i++xs.drop j) sp1) (m * 3) vs=rowBox (xs.take i++xs.drop j) (Z03 sp1 0 vs):=fun vs=>by have:=Z47 (sp:=sp1) (vs:=vs) hya;rw[hyl] at this;exact this
      try simp only[Nat.mul_one] at e2
      rw[e2];refine fin _ _ ?_ (by simp;rfl) (fun k hk=>by simp[hk]) (by simp) (by simp[HS.setBox]);rw[Z04 hya,Z06 (by rw[Z04 hya,hyl] at hl2;first | (rw[hzl];omega) | (simp only[List.length_replicate];omega)),← Z04 (sp:=sp1) hya,hl2]
     ·omega
    ·simp[hjc2];have hj2:xs.drop j=[]:=List.drop_eq_nil_of_le (by omega);refine Z58 Z83 happ (new:=[]) (m:=0) (by simp[Z0k]) rfl (by simp) (by decide) (by decide) (by simp at hlim ⊢;omega) rfl ?_ (fun h0=>?_) (fun h0=>absurd h0 (by omega)) (fun h0=>absurd h0 (by omega))
     ·rw[hall.take.flatten];simp;omega
     ·obtain rfl:i=m:=by omega
      have hb2:∃ sp1,h.box l=some (rowBox (xs.take i++xs.drop j) sp1)∧(rowBox (xs.take i++xs.drop j) sp1).length=cap * 3:=by
       refine⟨(xs.drop i).flatten++sp,?_,?_⟩
       ·rw[hb,hj2];simp[rowBox,← List.append_assoc,← List.flatten_append]
       ·rw[← hcap,hj2];simp[rowBox,← List.append_assoc,← List.flatten_append]
      obtain⟨sp1,hb2,hl2⟩:=hb2;simp[hjc2,hlen,hm2,hm3,hm4];refine Z2l Z83 Zd6 hb2 (by decide) (by rw[hl2];omega) ?_;simp;have e2:∀ vs,Z03 (rowBox (xs.take i++xs.drop j) sp1) (i * 3) vs=rowBox (xs.take i++xs.drop j) (Z03 sp1 0 vs):=fun vs=>by have:=Z47 (sp:=sp1) (vs:=vs) hya;rw[hyl] at this;exact this
      try simp only[Nat.mul_one] at e2
      rw[e2];refine fin _ _ ?_ (by simp;rfl) (fun k hk=>by simp[hk]) (by simp) (by simp[HS.setBox]);rw[Z04 hya,Z06 (by rw[Z04 hya,hyl] at hl2;first | (rw[hzl];omega) | (simp only[List.length_replicate];omega)),← Z04 (sp:=sp1) hya,hl2]
def innerS {α:Type} (lt:α→α→Bool):Nat→List α→List α
 | 0,ws=>ws
 | j+1,ws=>match ws[j+1]?,ws[j]? with
   | some x,some y=>if lt x y then innerS lt j ((ws.set (j+1) y).set j x) else ws
   | _,_=>ws
def outerS {α:Type} (lt:α→α→Bool):Nat→Nat→List α→List α
 | 0,_,ws=>ws
 | k+1,i,ws=>outerS lt k (i+1) (innerS lt i ws)
theorem Zda {α:Type}:∀ {us:List α} {j:Nat} {x y:α},us[j+1]?=some x→us[j]?=some y→((us.set (j+1) y).set j x).Perm us
 | [],_,_,_,h,_=>by simp at h
 | [_],j,_,_,h,_=>by simp at h
 | a::b::us,0,x,y,h,h2=>by
   simp at h h2;subst h h2;simp[List.set];exact .swap _ _ _
 | a::us,j+1,x,y,h,h2=>by
   simp only[List.set_cons_succ];exact .cons _ (Zda (by simpa using h) (by simpa using h2))
theorem Zdk {α:Type} (lt:α→α→Bool):∀ (j:Nat) (ws:List α),(innerS lt j ws).Perm ws
 | 0,ws=>.refl _
 | j+1,ws=>by
   unfold innerS;split
   ·rename_i x y hx hy;split
    ·refine (Zdk lt j _).trans ?_;exact Zda hx hy
    ·exact .refl _
   ·exact .refl _
theorem Zel {n k:Nat} {xs:List (List C)} {sp v:List C} (h:AllC n xs) (hk:k < xs.length) (hv:v.length=n):Z03 (rowBox xs sp) (k * n) v=rowBox (xs.set k v) sp:=by
 have h1:=Z71 (sp:=sp) (f:=0) (vs:=v) h (List.getElem?_eq_getElem hk) (by omega);have h2:=h.get (List.getElem?_eq_getElem hk);have h3:Z03 xs[k] 0 v=v:=by
  rw[Z03];simp[h2,hv]
 rw[h3] at h1;simpa using h1
def cmpLt (cmp:List D→List D→Int) (x y:List C × List D):Bool:=decide (cmp x.2 y.2 < 0)
theorem Z94 (h:HS) (c:C) (qs:List (List C × List D)) (g:FuncId) (caps:List Cap) (dss:List (List D)) (cmp:List D→List D→Int) (hm:MR h 3 c (qs.map (·.1))) (hlab:∀ k ∈ labs c,k.1 < h.ep)
  (hf:∀ h',Same h h' (labs c)→∀ q ∈ qs,FrzCs h' q.1 q.2) (hcv:∀ h',Same h h' (labs c)→LendVs h' (caps.map capV) (capsOf dss))
  (hp:∀ q ∈ qs,∀ q' ∈ qs,PSpec Tryz.prog g (.agg q.2::.agg q'.2::capsOf dss) (.one (.d (.int .i64 (cmp q.2 q'.2))))) (K:V→HS→Prop)
  (hk:∀ h',MR h' 3 c ((outerS (cmpLt cmp) (qs.length - 1) 1 qs).map (·.1))→Same h h' (labs c)→K (.tup []) h') :
  HSpec Tryz.prog 252 [.one c,.one (.d (.int .i64 0)),.one (.d (.int .i64 (qs.length:Int))),.one (.fn g caps)] h K:=by
 refine HSpec.of_vc Tryz.func252 rfl (by kernel_rfl) (n:=53) rfl rfl (by simp) ?_;simp;have hlim:qs.length≤2097152:=by simpa using hm.2.1
 refine Wait.rounds (fun n e h'=>∃ (i:Nat) (ws:List (List C × List D)),n=qs.length - i∧1≤i∧ws.Perm qs∧outerS (cmpLt cmp) (qs.length - i) i ws=outerS (cmpLt cmp) (qs.length - 1) 1 qs ∧
  e.n=53∧e.get 0=.one c∧e.get 1=.one (.d (.int .i64 0))∧e.get 2=.one (.d (.int .i64 (qs.length:Int)))∧e.get 3=.one (.fn g caps)∧e.get 8=.one (.d (.int .i64 (i:Int)))∧Same h h' (labs c)∧MR h' 3 c (ws.map (·.1))) (qs.length - 1)
  ⟨1,qs,rfl,by omega,.refl _,rfl,by simp,by simp,by simp,by simp,by simp,by simp;exact (IntWalk.i64_in _ (by omega)),Same.refl,hm⟩ ?_
 rintro n e h' ⟨i,ws,rfl,hi1,hperm,hout,hn,h0,h1,h2,h3,h8,hs,hm'⟩;simp[h0,h1,h2,h3,h8,hn];refine Z13 (fun hlt=>?_) (fun hge=>?_)
 ·simp[h0,h1,h2,h3,h8,hn];refine Wait.rounds (fun n e h'=>∃ (j:Nat) (us:List (List C × List D)),n=j∧j≤i∧us.Perm qs∧innerS (cmpLt cmp) j us=innerS (cmpLt cmp) i ws ∧
   e.n=53∧e.get 0=.one c∧e.get 1=.one (.d (.int .i64 0))∧e.get 2=.one (.d (.int .i64 (qs.length:Int)))∧e.get 3=.one (.fn g caps)∧e.get 8=.one (.d (.int .i64 (i:Int)))∧e.get 9=.one (.d (.int .i64 (j:Int)))∧Same h h' (labs c)∧MR h' 3 c (us.map (·.1))) i
   ⟨i,ws,rfl,by omega,hperm,rfl,by simp[hn],by simp[h0],by simp[h1],by simp[h2],by simp[h3],by simp[h8],by simp,hs,hm'⟩ ?_
  clear h0 h1 h2 h3 h8 hn hm' hs;rintro j e h' ⟨_,us,rfl,hji,hpu,hin,hn,h0,h1,h2,h3,h8,h9,hs,hm'⟩;have hD:Same h (h'.next) (labs c):=hs.next;cases j with
  | zero=>
    refine Wait.cut (Plan.then_ [0,1,2,3,4,5,6,7,8,9,10,11,12,13,14,15,16] .done) follows (by kernel_rfl) (fun e1 h1'=>h1'=h'∧e1.n=53∧e1.get 0=.one c∧e1.get 1=.one (.d (.int .i64 0))∧e1.get 2=.one (.d (.int .i64 (qs.length:Int)))∧e1.get 3=.one (.fn g caps)∧e1.get 8=.one (.d (.int .i64 (i:Int)))∧e1.get 34=.one (.d (.bool false))) ?_ ?_
    ·simp[*,Plan.then_,vcPlan,Z02,Z00,callKind];exact⟨fun _ x y=>y,CutK.of (by simp[*])⟩
    ·rintro e1 h1' ⟨rfl,hn1,h01,h11,h21,h31,h81,h34⟩;simp[*];refine Back.of (n':=qs.length - (i+1)) (by omega) ⟨i+1,us,rfl,by omega,hpu,?_,by simp[hn1],by simp[h01],by simp[h11],by simp[h21],by simp[h31],?_,hs,hm'⟩
     ·rw[← hout];have e1:qs.length - i=(qs.length - (i+1))+1:=by omega
      rw[e1,outerS,← hin,innerS]
     ·have:=IntWalk.i64_in ((i:Int)+1) (by omega)
      simp[this]
  | succ j=>
    have hul:us.length=qs.length:=hpu.length_eq;have hml:=hm'.2.1;have hall:=hm'.1;obtain⟨l,cap,sp,hc,hb,hcap⟩:=hm'.block (by simp;omega);simp only[List.length_map,hul] at hc;subst hc;have hx1:us[j+1]?=some us[j+1]:=List.getElem?_eq_getElem (by omega);have hx0:us[j]?=some us[j]:=List.getElem?_eq_getElem (by omega);generalize us[j+1]=q1 at hx1;generalize us[j]=q0 at hx0;have hq1:q1 ∈ qs:=hpu.mem_iff.1 (List.mem_of_getElem? hx1);have hq0:q0 ∈ qs:=hpu.mem_iff.1 (List.mem_of_getElem? hx0);obtain⟨k1,t1⟩:=q1;obtain⟨k0,t0⟩:=q0;have hy1:(us.map (·.1))[j+1]?=some k1:=by simp[hx1]
    have hy0:(us.map (·.1))[j]?=some k0:=by simp[hx0]
    have hl1:=hall.get hy1;have hl0:=hall.get hy0;have hr1:=Za9 (sp:=sp) hall hy1;have hr0:=Za9 (sp:=sp) hall hy0;have hwj:IntKind.i64.wrap (j:Int)=(j:Int):=IntWalk.i64_in _ (by omega);have hj1:j+1 < qs.length:=by omega
    have hj0:j < qs.length:=by omega
    have hz:(0:Int)≤(j:Int)+1:=by omega
    refine Wait.cut (Plan.then_ [0,1,2,3,4,5,6,7,8,9,10,11,12,13,14,15,16] .done) follows (by kernel_rfl) (fun e1 h1'=>Same h h1' [l]∧h1'.box l=h'.box l∧e1.n=53∧e1.get 0=.one (.mrow l 0 qs.length cap)∧e1.get 1=.one (.d (.int .i64 0))∧e1.get 2=.one (.d (.int .i64 (qs.length:Int)))∧e1.get 3=.one (.fn g caps)∧e1.get 8=.one (.d (.int .i64 (i:Int)))∧e1.get 9=.one (.d (.int .i64 ((j+1:Nat):Int)))∧e1.get 34=.one (.d (.bool (decide (cmp t1 t0 < 0))))) ?_ ?_
    ·simp[h0,h1,h2,h3,h8,h9,hn,hz,hj1,hj0,hwj,hb,hr1,hr0,Plan.then_,vcPlan,Z02,Z00,callKind];refine Z01 (HSpec.of_lend (hp _ hq1 _ hq0) ⟨.agg (hf _ hs _ hq1),.agg (hf _ hs _ hq0),hcv _ hs⟩ rfl ?_);simp[h0,h1,h2,h3,h8,h9,hn,hz,hj1,hj0,hwj,hb,hr1,hr0,Plan.then_,vcPlan,Z02,Z00,callKind];have hsn:Same h h'.next [l]:=hs.next;exact⟨fun _ _ x=>x,CutK.of (by simp[h0,h1,h2,h3,h8,h9,hn,hsn])⟩
    ·rintro e1 h1' ⟨hs1,hb1,hn1,h01,h11,h21,h31,h81,h91,h34⟩;rw[hb] at hb1;simp[h01,h11,h21,h31,h81,h91,h34,hn1];have hst1:cmp t1 t0 < 0→innerS (cmpLt cmp) j ((us.set (j+1) (k0,t0)).set j (k1,t1))=innerS (cmpLt cmp) i ws:=fun hx=>by rw[← hin];simp[innerS,hx1,hx0,cmpLt,hx]
     have hst2:¬ cmp t1 t0 < 0→us=innerS (cmpLt cmp) i ws:=fun hx=>by rw[← hin];simp[innerS,hx1,hx0,cmpLt,hx]
     refine Z13 (fun hlt2=>?_) (fun hge2=>?_)
     ·simp[hn1];refine Wait.cut (Plan.then_ [0,1,2,3,4,5,6,7,8,9,10,11,12,13,14,15,16,17] .done) follows (by kernel_rfl) (fun e2 h2'=>Same h h2' [l]∧e2.n=53∧e2.get 0=.one (.mrow l 0 qs.length cap)∧e2.get 1=.one (.d (.int .i64 0))∧e2.get 2=.one (.d (.int .i64 (qs.length:Int)))∧e2.get 3=.one (.fn g caps)∧e2.get 8=.one (.d (.int .i64 (i:Int)))∧e2.get 9=.one (.d (.int .i64 ((j+1:Nat):Int)))∧h2'.box l=some (rowBox (((us.set (j+1) (k0,t0)).set j (k1,t1)).map (·.1)) sp)) ?_ ?_
      ·simp[h01,h11,h21,h31,h81,h91,h34,hn1,hz,hj1,hj0,hwj,hb1,hr1,hr0,Plan.then_,vcPlan,Z02,Z00,callKind];rw[Zel hall (by simp;omega) hl0,Zel (hall.set hl0) (by simp;omega) hl1];refine⟨⟨hl0,Z6m hall (by simp;omega)⟩,⟨hl1,Z6m (hall.set hl0) (by simp;omega)⟩,CutK.of ?_⟩;simp[h01,h11,h21,h31,h81,h91,hn1];exact (hs1.setBox (.inl (by simp))).setBox (.inl (by simp))
      ·rintro e2 h2' ⟨hs2,hn2,h02,h12,h22,h32,h82,h92,hb2⟩;simp[h02,h12,h22,h32,h82,h92,hn2,hwj];have hpm:((us.set (j+1) (k0,t0)).set j (k1,t1)).Perm us:=Zda hx1 hx0;have hfin:=hpm.trans hpu;refine Back.of (n':=j) (by omega) ⟨j,_,rfl,by omega,hfin,hst1 hlt2,by simp[hn2],by simp[h02],by simp[h12],by simp[h22],by simp[h32],by simp[h82],by simp,hs2,?_⟩;have e1:((us.set (j+1) (k0,t0)).set j (k1,t1)).map (·.1)=((us.map (·.1)).set (j+1) k0).set j k1:=by simp[List.map_set]
       refine⟨by rw[e1];exact (hall.set hl0).set hl1,by simpa using hml,.inr ⟨l,cap,sp,by simp[hul],hb2,?_⟩⟩;rw[e1,Z04 ((hall.set hl0).set hl1),List.length_set,List.length_set,← Z04 (sp:=sp) hall,hcap]
     ·have hst3:=hst2 hge2;simp[h01,h11,h21,h31,h81,h91,h34,hn1];refine Back.of (n':=qs.length - (i+1)) (by omega) ⟨i+1,us,rfl,by omega,hpu,?_,by simp[hn1],by simp[h01],by simp[h11],by simp[h21],by simp[h31],?_,hs1,hm'.frame (by intro k hk;simp[labs] at hk;subst hk;rw[hb1,hb])⟩
      ·rw[← hout];have e1:qs.length - i=(qs.length - (i+1))+1:=by omega
       rw[e1,outerS,← hst3]
      ·have:=IntWalk.i64_in ((i:Int)+1) (by omega)
       simp[this]
 ·simp[hn]
  have:qs.length - i=0:=by omega
  rw[this] at hout;simp only[outerS] at hout;exact hk _ (by rw[← hout];exact hm') hs
def sortS (cmp:List D→List D→Int) (qs:List (List C × List D)):List (List C × List D):=outerS (cmpLt cmp) (qs.length - 1) 1 qs
theorem Z91 (h:HS) (c:C) (qs:List (List C × List D)) (g:FuncId) (caps:List Cap) (dss:List (List D)) (cmp:List D→List D→Int) (hm:MR h 3 c (qs.map (·.1))) (hlab:∀ k ∈ labs c,k.1 < h.ep) (hq:qs.length < 20)
  (hf:∀ h',Same h h' (labs c)→∀ q ∈ qs,FrzCs h' q.1 q.2) (hcv:∀ h',Same h h' (labs c)→LendVs h' (caps.map capV) (capsOf dss))
  (hp:∀ q ∈ qs,∀ q' ∈ qs,PSpec Tryz.prog g (.agg q.2::.agg q'.2::capsOf dss) (.one (.d (.int .i64 (cmp q.2 q'.2))))) (K:V→HS→Prop)
  (hk:∀ h',MR h' 3 c ((sortS cmp qs).map (·.1))→Same h h' (labs c)→K (.tup []) h') :
  HSpec Tryz.prog 231 [.one c,.one (.d (.int .i64 (qs.length:Int))),.one (.fn g caps)] h K:=by
 refine HSpec.of_vc Tryz.func231 rfl (by kernel_rfl) (n:=63) rfl rfl (by simp) ?_;simp;refine Wait.rounds (fun n e h'=>h'=h∧e.n=63∧e.get 0=.one c∧e.get 1=.one (.d (.int .i64 (qs.length:Int)))∧e.get 2=.one (.fn g caps)∧e.get 6=.one (.d (.int .i64 20))∧e.get 7=.one (.d (.int .i64 0))∧e.get 8=.one (.d (.int .i64 20))) 0
  ⟨rfl,by simp,by simp,by simp,by simp,by simp,by simp,by simp⟩ ?_
 rintro n e h' ⟨rfl,hn,h0,h1,h2,h6,h7,h8⟩;simp[h0,h1,h2,h6,h7,h8,hn];refine Z13 (fun hlt=>absurd hlt (by omega)) (fun hge=>?_);simp[h0,h1,h2,h6,h7,h8,hn];refine Z01 (Z94 h' c qs g caps dss cmp hm hlab hf hcv hp _ (fun h1' hm' hs'=>?_));simp[h0,h1,h2,h6,h7,h8,hn];refine Wait.rounds (fun n e h2'=>h2'=h1'∧e.n=63∧e.get 1=.one (.d (.int .i64 (qs.length:Int)))∧e.get 6=.one (.d (.int .i64 20))) 0
  ⟨rfl,by simp[hn],by simp[h1],by simp[h6]⟩ ?_
 clear hn h0 h1 h2 h6 h7 h8;rintro n e h2' ⟨rfl,hn,h1,h6⟩;simp[h1,h6,hn];refine Z13 (fun hlt=>absurd hlt (by omega)) (fun hge=>?_);simp[h1,h6,hn];exact hk _ hm' hs'
theorem Z8n (h:HS) (c:C) (qs:List (List C × List D)) (g:FuncId) (caps:List Cap) (dss:List (List D)) (cmp:List D→List D→Int) (hm:MR h 3 c (qs.map (·.1))) (hlab:∀ k ∈ labs c,k.1 < h.ep) (hq:qs.length < 20)
  (hf:∀ h',Same h h' (labs c)→∀ q ∈ qs,FrzCs h' q.1 q.2) (hcv:∀ h',Same h h' (labs c)→LendVs h' (caps.map capV) (capsOf dss))
  (hp:∀ q ∈ qs,∀ q' ∈ qs,PSpec Tryz.prog g (.agg q.2::.agg q'.2::capsOf dss) (.one (.d (.int .i64 (cmp q.2 q'.2))))) (K:V→HS→Prop)
  (hk:∀ h',MR h' 3 c ((sortS cmp qs).map (·.1))→Same h h' (labs c)→K (.tup []) h') :
  HSpec Tryz.prog 203 [.one c,.one (.fn g caps)] h K:=by
 refine HSpec.of_vc Tryz.func203 rfl (by kernel_rfl) (n:=9) rfl rfl (by simp) ?_;simp;have key:∀ (n:Int) (K1:V→HS→Prop),n=(qs.length:Int)→(∀ h',MR h' 3 c ((sortS cmp qs).map (·.1))→Same h h' (labs c)→K1 (.tup []) h')→HSpec Tryz.prog 231 [.one c,.one (.d (.int .i64 n)),.one (.fn g caps)] h K1:=
  fun n K1 hn hk1=>by subst hn;exact Z91 h c qs g caps dss cmp hm hlab hq hf hcv hp K1 hk1
 rcases hm.2.2 with ⟨h1,rfl | rfl⟩ | ⟨l,cap,sp,rfl,_,_⟩
 ·have h2:qs.length=0:=by simpa using congrArg List.length h1
  simp;refine Z01 (key _ _ (by omega) (fun h' hm' hs'=>?_));simp;exact hk _ hm' hs'
 ·have h2:qs.length=0:=by simpa using congrArg List.length h1
  simp;refine Z01 (key _ _ (by omega) (fun h' hm' hs'=>?_));simp;exact hk _ hm' hs'
 ·simp only[List.length_map] at key hm hk ⊢;simp;refine Z01 (key _ _ rfl (fun h' hm' hs'=>?_));simp;exact hk _ hm' hs'
def TblSh:List Sh:=[.d,.r [.d,.d,.d],.r [.d]]
def FkSh:List Sh:=[.d,.r [.d],.d]
theorem Ow.rowD {h:HS} {n:Nat} {c:C} {ts:List (List D)} {es ss:List Sh} {cs:List C} {ds:List D} {ls:List Lab} (hm:MR h n c (ts.map (·.map C.d))) (hes:es=List.replicate n .d) (ht:∀ t ∈ ts,t.length=n) (hr:Ow h ss cs ds ls):Ow h (.r es::ss) (c::cs) (.sl ts::ds) (labs c++ls):=by
 subst hes
 have:=Ow.row (es:=List.replicate n .d) (c:=c) (qs:=ts.map fun t=>(t.map C.d,t,[])) (by simpa[Function.comp_def] using hm) (fun q hq=>by
  obtain⟨t,h1,rfl⟩:=List.mem_map.1 hq
  have:=Ow.datas (h:=h) (ds:=t)
  simp only[List.map_const',ht t h1] at this;exact this) hr
 have e:∀ us:List (List D),us.flatMap (fun _=>([]:List Lab))=[]:=fun us=>by induction us<;>simp_all
 simpa[Function.comp_def,List.flatMap_map,e] using this
theorem Z1r {c:C}:(labs c).Nodup:=by cases c<;>simp[labs]
def NewOw (h:HS) (sh:List Sh) (ds:List D) (K:V→HS→Prop):Prop:=∀ cs' h' ls',Ow h' sh cs' ds ls'→ls'.Nodup→(∀ k ∈ ls',h.ep≤k.1∧k.1 < h'.ep)→Same h h' []→BoxLe h h'→K (.agg cs') h'
theorem Z5o (h:HS) (cs:List C) (T:Tbl) (hf:∀ h',Same h h' []→FrzCs h' cs T.enc) (hl:T.cols.length≤LIM∧T.pk.length≤LIM) (K:V→HS→Prop)
  (hk:NewOw h TblSh T.enc K) :
  HSpec Tryz.prog 93 [.agg cs] h K:=by
 refine HSpec.good Tryz.func93 rfl (by kernel_rfl) fun hg=>?_;refine HSpec.of_vc Tryz.func93 rfl (by kernel_rfl) (n:=12) rfl rfl (by simp) ?_;have hf0:=hf h .refl
 match cs,hf0 with
 | [c0,c1,c2],hf0=>
 obtain rfl:=hf0.1.flat rfl;simp;refine Wait.cut (Plan.then_ [0,1,2,3,5,6,4,7,8,9] .done) follows (by kernel_rfl) (fun e h'=>∃ cs' ls',e.n=12∧e.get 2=.one (.ptr (h.ep+1,32) 0)∧h'.box (h.ep+1,32)=some cs'∧Ow h' TblSh cs' T.enc ls'∧ls'.Nodup∧(∀ k ∈ ls',h.ep≤k.1∧k.1 < h'.ep)∧Same h h' []) ?_ ?_
 ·simp[Plan.then_,vcPlan,Z02,Z00,callKind];have hs1:Same h ((h.setBox (h.ep,16) [.d (.str T.name),c1,c2]).next.setBox (h.ep+1,32) [C.d (D.str ByteArray.empty),C.nil,C.nil]).next []:=((Same.refl.setBox (.inr (by simp))).next.setBox (.inr (by simp))).next;have hr1:=(hf _ hs1).2.1.rowAt (n:=3) (by simp[D.flat]) (by simpa using hl.1);refine Z01 (Z92 _ _ _ hr1 _ (fun cc h1 hm1 hs2 hl1 hb1=>?_));simp;refine⟨hb1,?_⟩;have hs3:=hs1.trans hs2;have hr2:=(hf _ hs3).2.2.1.rowAt (n:=1) (by simp[D.flat]) (by simpa using hl.2);refine Z01 (Z2y _ _ _ hr2 _ (fun pc h2 hm2 hs4 hl2 hb2=>?_));have hb0:h1.box (h.ep+1,32)=some [C.d (D.str ByteArray.empty),C.nil,C.nil]:=hb1 _ _ (by simp);have hb3:=hb2 _ _ hb0;simp[hb3];refine⟨hb2,CutK.of ?_⟩;simp at hl1;have hc1:∀ k ∈ labs cc,(h2.setBox (h.ep+1,32) [C.d (D.str T.name),cc,pc]).box k=h1.box k:=fun k hk'=>by
   have h3:=hl1 k.1 k.2 hk';have h4:k≠(h.ep+1,32):=by rintro rfl;simp at h3;omega
   simp[h4,hs4.2 k h3.2 (by simp)]
  have hc2:∀ k ∈ labs pc,(h2.setBox (h.ep+1,32) [C.d (D.str T.name),cc,pc]).box k=h2.box k:=fun k hk'=>by
   have h3:=hl2 k hk';have h5:=hs2.1;simp at h5;have h4:k≠(h.ep+1,32):=by rintro rfl;simp at h3;omega
   simp[h4]
  have ho:=Ow.data (h:=h2.setBox (h.ep+1,32) [C.d (D.str T.name),cc,pc]) (c:=.d (.str T.name)) rfl (Ow.rowD (es:=[.d,.d,.d]) (hm1.frame hc1) rfl (by simp) (Ow.rowD (es:=[.d]) (hm2.frame hc2) rfl (by simp) .nil));refine⟨_,_,by simp,by simp,by simp,ho,?_,?_,(hs3.trans hs4).setBox (.inr (by simp))⟩
  ·rw[List.append_nil,List.nodup_append];refine⟨Z1r,Z1r,fun x hx y hy=>?_⟩;rintro rfl;have h3:=hl1 x.1 x.2 hx;have h4:=hl2 x hy;omega
  ·have h5:=hs2.1;have h6:=hs4.1;simp at h5;intro k hk';rw[List.append_nil,List.mem_append] at hk';rcases hk' with hk' | hk'
   ·have:=hl1 k.1 k.2 hk'
    simp;omega
   ·have:=hl2 k hk'
    simp;omega
 ·rintro e h' ⟨cs',ls',hn,h2,hb,ho,hd,hlt,hs⟩;obtain⟨a,b,d,rfl⟩:∃ a b d,cs'=[a,b,d]:=by
   have:=ho.len.1
   match cs',this with
   | [a,b,d],_=>exact⟨a,b,d,rfl⟩
  simp[hn,h2,hb,retH,resVs,resV];exact hk _ _ _ ho hd hlt hs (hs.boxLe hg)
abbrev Q:=List C × List D × List Lab
def plabs (c:C) (qs:List Q):List Lab:=labs c++qs.flatMap (·.2.2)
structure Part (h:HS) (sh:List Sh) (c:C) (qs:List Q) (ds:List (List D)):Prop where
 mr:MR h sh.length c (qs.map (·.1))
 ds:qs.map (·.2.1)=ds
 ow:∀ q ∈ qs,Ow h sh q.1 q.2.1 q.2.2
theorem Part.frame {h h':HS} {sh:List Sh} {c:C} {qs:List Q} {ds:List (List D)} (p:Part h sh c qs ds) (hb:∀ k ∈ plabs c qs,h'.box k=h.box k):Part h' sh c qs ds:=
 ⟨p.mr.frame fun l hl=>hb l (by simp[plabs,hl]),p.ds,fun q hq=>(p.ow q hq).frame fun l hl=>hb l (by
  simp only[plabs,List.mem_append,List.mem_flatMap];exact .inr ⟨q,hq,hl⟩)⟩
theorem Part.frz {h:HS} {sh:List Sh} {c:C} {qs:List Q} {ds:List (List D)} (p:Part h sh c qs ds):Frz h c (.sl ds):=by
 obtain⟨hm,rfl,ho⟩:=p;exact (Ow.row (es:=sh) hm ho .nil).frz.1
def ConSh:List Sh:=[.d,.d,.d,.d,.d,.d,.d]
structure SchC (h:HS) (l:Lab) (S:Sch) (tc fc oc:C) (qt qf qo:List Q):Prop where
 box:h.box l=some [tc,fc,oc]
 t:Part h TblSh tc qt (S.tables.map Tbl.enc)
 f:Part h FkSh fc qf (S.fks.map Fk.enc)
 o:Part h ConSh oc qo (S.cons.map Cons.enc)
 nd:(l::(plabs tc qt++(plabs fc qf++plabs oc qo))).Nodup
 lt:∀ k ∈ l::(plabs tc qt++(plabs fc qf++plabs oc qo)),k.1 < h.ep
def OwS (h:HS) (l:Lab) (S:Sch) (ls:List Lab):Prop:=∃ tc fc oc qt qf qo,ls=plabs tc qt++(plabs fc qf++plabs oc qo)∧SchC h l S tc fc oc qt qf qo
theorem Zde {ep:Nat} {A X X' B:List Lab} (h:(A++(X++B)).Nodup) (hx:X'.Nodup) (hn:∀ k ∈ X',k ∈ X∨ep≤k.1) (hl:∀ k ∈ A++(X++B),k.1 < ep):(A++(X'++B)).Nodup:=by
 simp only[List.nodup_append,List.mem_append] at h hl ⊢;obtain⟨hA,⟨hX,hB,hXB⟩,hd⟩:=h;refine⟨hA,⟨hx,hB,fun a ha b hb=>?_⟩,fun a ha b hb=>?_⟩
 ·rintro rfl;rcases hn a ha with h1 | h1
  ·exact hXB a h1 a hb rfl
  ·have:=hl a (.inr (.inr hb));omega
 ·rintro rfl;rcases hb with hb | hb
  ·rcases hn a hb with h1 | h1
   ·exact hd a ha a (.inl h1) rfl
   ·have:=hl a (.inl ha);omega
  ·exact hd a ha a (.inr hb) rfl
theorem SchC.ne {h:HS} {l:Lab} {S:Sch} {tc fc oc:C} {qt qf qo:List Q} (s:SchC h l S tc fc oc qt qf qo):l ∉ plabs tc qt∧l ∉ plabs fc qf∧l ∉ plabs oc qo∧(∀ k ∈ plabs tc qt,k ∉ plabs fc qf∧k ∉ plabs oc qo)∧(∀ k ∈ plabs fc qf,k ∉ plabs oc qo):=by
 have:=s.nd
 simp only[List.nodup_cons,List.nodup_append,List.mem_append,not_or] at this;obtain⟨⟨h1,h2,h3⟩,_,⟨_,_,h4⟩,h5⟩:=this;exact⟨h1,h2,h3,fun k hk=>⟨fun h6=>h5 k hk k (.inl h6) rfl,fun h6=>h5 k hk k (.inr h6) rfl⟩,fun k hk h6=>h4 k hk k h6 rfl⟩
theorem SchC.setO {h h':HS} {l:Lab} {S:Sch} {tc fc oc oc':C} {qt qf qo qo':List Q} {os:List Cons} (s:SchC h l S tc fc oc qt qf qo) (hb:h'.box l=some [tc,fc,oc']) (hp:Part h' ConSh oc' qo' (os.map Cons.enc)) (hs:Same h h' (l::plabs oc qo))
  (hnd:(plabs oc' qo').Nodup) (hn:∀ k ∈ plabs oc' qo',k ∈ plabs oc qo∨(h.ep≤k.1∧k.1 < h'.ep)):SchC h' l { S with cons:=os } tc fc oc' qt qf qo':=by
 obtain⟨n1,n2,n3,n4,n5⟩:=s.ne;have hlt:=s.lt;simp only[List.mem_cons,List.mem_append] at hlt;refine⟨hb,s.t.frame fun k hk=>hs.2 k (hlt k (.inr (.inl hk))) ?_,s.f.frame fun k hk=>hs.2 k (hlt k (.inr (.inr (.inl hk)))) ?_,hp,?_,?_⟩
 ·simp only[List.mem_cons,not_or];exact⟨fun he=>n1 (he ▸ hk),(n4 k hk).2⟩
 ·simp only[List.mem_cons,not_or];exact⟨fun he=>n2 (he ▸ hk),n5 k hk⟩
 ·have:=Zde (ep:=h.ep) (A:=l::(plabs tc qt++plabs fc qf)) (X:=plabs oc qo) (X':=plabs oc' qo') (B:=[]) (by simpa using s.nd) hnd (fun k hk=>(hn k hk).imp_right And.left) (fun k hk=>s.lt k (by simpa using hk))
  simpa using this
 ·intro k hk
  have:=hs.1
  simp only[List.mem_cons,List.mem_append] at hk;rcases hk with hk | hk | hk | hk
  ·have:=hlt k (.inl hk);omega
  ·have:=hlt k (.inr (.inl hk));omega
  ·have:=hlt k (.inr (.inr (.inl hk)));omega
  ·rcases hn k hk with h1 | h1
   ·have:=hlt k (.inr (.inr (.inr h1)));omega
   ·exact h1.2
theorem SchC.setF {h h':HS} {l:Lab} {S:Sch} {tc fc fc' oc:C} {qt qf qf' qo:List Q} {fs:List Fk} (s:SchC h l S tc fc oc qt qf qo) (hb:h'.box l=some [tc,fc',oc]) (hp:Part h' FkSh fc' qf' (fs.map Fk.enc)) (hs:Same h h' (l::plabs fc qf))
  (hnd:(plabs fc' qf').Nodup) (hn:∀ k ∈ plabs fc' qf',k ∈ plabs fc qf∨(h.ep≤k.1∧k.1 < h'.ep)):SchC h' l { S with fks:=fs } tc fc' oc qt qf' qo:=by
 obtain⟨n1,n2,n3,n4,n5⟩:=s.ne;have hlt:=s.lt;simp only[List.mem_cons,List.mem_append] at hlt;refine⟨hb,s.t.frame fun k hk=>hs.2 k (hlt k (.inr (.inl hk))) ?_,hp,s.o.frame fun k hk=>hs.2 k (hlt k (.inr (.inr (.inr hk)))) ?_,?_,?_⟩
 ·simp only[List.mem_cons,not_or];exact⟨fun he=>n1 (he ▸ hk),(n4 k hk).1⟩
 ·simp only[List.mem_cons,not_or];exact⟨fun he=>n3 (he ▸ hk),fun h6=>n5 k h6 hk⟩
 ·have:=Zde (ep:=h.ep) (A:=l::plabs tc qt) (X:=plabs fc qf) (X':=plabs fc' qf') (B:=plabs oc qo) (by simpa using s.nd) hnd (fun k hk=>(hn k hk).imp_right And.left) (fun k hk=>s.lt k (by simpa using hk))
  simpa using this
 ·intro k hk
  have:=hs.1
  simp only[List.mem_cons,List.mem_append] at hk;rcases hk with hk | hk | hk | hk
  ·have:=hlt k (.inl hk);omega
  ·have:=hlt k (.inr (.inl hk));omega
  ·rcases hn k hk with h1 | h1
   ·have:=hlt k (.inr (.inr (.inl h1)));omega
   ·exact h1.2
  ·have:=hlt k (.inr (.inr (.inr hk)));omega
theorem SchC.setT {h h':HS} {l:Lab} {S:Sch} {tc tc' fc oc:C} {qt qt' qf qo:List Q} {ts:List Tbl} (s:SchC h l S tc fc oc qt qf qo) (hb:h'.box l=some [tc',fc,oc]) (hp:Part h' TblSh tc' qt' (ts.map Tbl.enc)) (hs:Same h h' (l::plabs tc qt))
  (hnd:(plabs tc' qt').Nodup) (hn:∀ k ∈ plabs tc' qt',k ∈ plabs tc qt∨(h.ep≤k.1∧k.1 < h'.ep)):SchC h' l { S with tables:=ts } tc' fc oc qt' qf qo:=by
 obtain⟨n1,n2,n3,n4,n5⟩:=s.ne;have hlt:=s.lt;simp only[List.mem_cons,List.mem_append] at hlt;refine⟨hb,hp,s.f.frame fun k hk=>hs.2 k (hlt k (.inr (.inr (.inl hk)))) ?_,s.o.frame fun k hk=>hs.2 k (hlt k (.inr (.inr (.inr hk)))) ?_,?_,?_⟩
 ·simp only[List.mem_cons,not_or];exact⟨fun he=>n2 (he ▸ hk),fun h6=>(n4 k h6).1 hk⟩
 ·simp only[List.mem_cons,not_or];exact⟨fun he=>n3 (he ▸ hk),fun h6=>(n4 k h6).2 hk⟩
 ·have:=Zde (ep:=h.ep) (A:=[l]) (X:=plabs tc qt) (X':=plabs tc' qt') (B:=plabs fc qf++plabs oc qo) (by simpa using s.nd) hnd (fun k hk=>(hn k hk).imp_right And.left) (fun k hk=>s.lt k (by simpa using hk))
  simpa using this
 ·intro k hk
  have:=hs.1
  simp only[List.mem_cons,List.mem_append] at hk;rcases hk with hk | hk | hk | hk
  ·have:=hlt k (.inl hk);omega
  ·rcases hn k hk with h1 | h1
   ·have:=hlt k (.inr (.inl h1));omega
   ·exact h1.2
  ·have:=hlt k (.inr (.inr (.inl hk)));omega
  ·have:=hlt k (.inr (.inr (.inr hk)));omega
def KeepS (h:HS) (l:Lab) (ls:List Lab) (S':Sch) (v:V) (K:V→HS→Prop):Prop:=∀ h' ls',OwS h' l S' ls'→Same h h' (l::ls)→(∀ k ∈ ls',k ∈ ls∨h.ep≤k.1)→K v h'
theorem Zhr {α β:Type} {f:α→List β} {xs ys:List α} (h:xs.Sublist ys):(xs.flatMap f).Sublist (ys.flatMap f):=by
 induction h with
 | slnil=>exact .slnil
 | cons a _ ih=>rw[List.flatMap_cons];exact ih.trans (List.sublist_append_right _ _)
 | cons_cons a _ ih=>rw[List.flatMap_cons,List.flatMap_cons];exact (List.Sublist.refl _).append ih
theorem Z8x {c c':C} {qs qs':List Q} (h:qs'.Sublist qs) (hc:labs c'=labs c):(plabs c' qs').Sublist (plabs c qs):=by
 unfold plabs;rw[hc];exact (List.Sublist.refl _).append (Zhr h)
theorem Part.sub {h h2:HS} {sh:List Sh} {c c':C} {qs qs':List Q} {ds:List (List D)} (p:Part h sh c qs ds) (hq:∀ q ∈ qs',q ∈ qs) (hm:MR h2 sh.length c' (qs'.map (·.1))) (hnd:(plabs c qs).Nodup) (hb:∀ k,k ∉ labs c→(∃ q ∈ qs,k ∈ q.2.2)→h2.box k=h.box k):Part h2 sh c' qs' (qs'.map (·.2.1)):=by
 refine⟨hm,rfl,fun q hqm=>(p.ow q (hq q hqm)).frame fun k hk=>hb k (fun hk2=>?_) ⟨q,hq q hqm,hk⟩⟩;simp only[plabs,List.nodup_append] at hnd;exact hnd.2.2 k hk2 k (List.mem_flatMap.2 ⟨q,hq q hqm,hk⟩) rfl
theorem SchC.nds {h:HS} {l:Lab} {S:Sch} {tc fc oc:C} {qt qf qo:List Q} (s:SchC h l S tc fc oc qt qf qo):(plabs tc qt).Nodup∧(plabs fc qf).Nodup∧(plabs oc qo).Nodup:=by
 have:=s.nd
 simp only[List.nodup_cons,List.nodup_append] at this;exact⟨this.2.1,this.2.2.1.1,this.2.2.1.2.1⟩
theorem Zfr {α:Type} {qs:List α} {i j:Nat} (h:i≤j):(qs.take i++qs.drop j).Sublist qs:=by
 have h1:(qs.drop j).Sublist (qs.drop i):=by
  have:qs.drop j=(qs.drop i).drop (j - i):=by rw[List.drop_drop];congr 1;omega
  rw[this];exact List.drop_sublist _ _
 have h2:=(List.Sublist.refl (qs.take i)).append h1
 rwa [List.take_append_drop] at h2
theorem SchC.frame {h h':HS} {l:Lab} {S:Sch} {tc fc oc:C} {qt qf qo:List Q} (s:SchC h l S tc fc oc qt qf qo) (hs:Same h h' []):SchC h' l S tc fc oc qt qf qo:=by
 have hb:∀ k ∈ l::(plabs tc qt++(plabs fc qf++plabs oc qo)),h'.box k=h.box k:=fun k hk=>hs.2 k (s.lt k hk) (by simp);simp only[List.mem_cons,List.mem_append] at hb;exact⟨by rw[hb l (.inl rfl),s.box],s.t.frame fun k hk=>hb k (.inr (.inl hk)),s.f.frame fun k hk=>hb k (.inr (.inr (.inl hk))),s.o.frame fun k hk=>hb k (.inr (.inr (.inr hk))),s.nd,fun k hk=>Nat.lt_of_lt_of_le (s.lt k hk) hs.1⟩
theorem FrzCs.datas {h:HS}:∀ {ds:List D},FrzCs h (ds.map C.d) ds
 | []=>trivial
 | _::_=>⟨.data rfl,FrzCs.datas⟩
end
end Go.Proofs.YthiojhcimecdgaaGreatDoor
section
namespace Go.Proofs.YthiojhcimecdgaaGreatDoor
open Go Go.Am
theorem le_s {n m:Nat} (h:n≤m):n≤m+1:=Nat.le_succ_of_le h
theorem ne_new {l:Lab} {n:Nat} (hl:l.1 < n):∀ m b,n≤m→(l=(m,b))=False:=fun m b h=>eq_false fun he=>by rw[he] at hl;simp at hl;omega
theorem Z6n {l:Lab} {n:Nat} (hl:l.1 < n):∀ m b,n≤m→((m,b)=l)=False:=fun m b h=>eq_false fun he=>by rw[← he] at hl;simp at hl;omega
theorem Zcp {α:Type} {xs:List α} {i:Nat} {x:α} (h:xs[i]?=some x):xs.set i x=xs:=by
 obtain⟨hi,rfl⟩:=List.getElem?_eq_some_iff.1 h;exact List.set_getElem_self hi
theorem Z72 {c:C} {qs:List Q} {i:Nat} {q q':Q} (hi:qs[i]?=some q) (hl:q'.2.2=q.2.2):plabs c (qs.set i q')=plabs c qs:=by
 unfold plabs
 congr 1
 have:(qs.set i q').map (·.2.2)=qs.map (·.2.2):=by
  rw[List.map_set,hl];exact Zcp (by rw[List.getElem?_map,hi];rfl)
 rw[List.flatMap_def,List.flatMap_def,this]
theorem Z73 {c:C} {qs:List Q} {i j:Nat} {q q2:Q} {k:Lab} (hnd:(plabs c qs).Nodup) (hi:qs[i]?=some q) (hj:qs[j]?=some q2) (hne:j≠i) (hk:k ∈ q2.2.2):k ∉ labs c∧k ∉ q.2.2:=by
 simp only[plabs,List.nodup_append] at hnd;refine⟨fun h=>hnd.2.2 k h k (List.mem_flatMap.2 ⟨q2,List.mem_of_getElem? hj,hk⟩) rfl,fun h=>?_⟩;have h1:=(List.pairwise_flatMap.1 hnd.2.1).2;rw[List.pairwise_iff_getElem] at h1;obtain⟨li,ei⟩:=List.getElem?_eq_some_iff.1 hi;obtain⟨lj,ej⟩:=List.getElem?_eq_some_iff.1 hj;rcases Nat.lt_or_gt_of_ne hne with hlt | hlt
 ·exact h1 j i lj li hlt k (by rw[ej];exact hk) k (by rw[ei];exact h) rfl
 ·exact h1 i j li lj hlt k (by rw[ei];exact h) k (by rw[ej];exact hk) rfl
theorem Z4j {c:C} {qs:List Q} {i:Nat} {q:Q} {k:Lab} (hnd:(plabs c qs).Nodup) (hi:qs[i]?=some q) (hk:k ∈ q.2.2):k ∉ labs c:=by
 simp only[plabs,List.nodup_append] at hnd;exact fun h=>hnd.2.2 k h k (List.mem_flatMap.2 ⟨q,List.mem_of_getElem? hi,hk⟩) rfl
theorem Z3m {c:C} {qs:List Q} {i:Nat} {q:Q} {k:Lab} (hi:qs[i]?=some q) (hk:k ∈ q.2.2):k ∈ plabs c qs:=by
 simp only[plabs,List.mem_append,List.mem_flatMap];exact .inr ⟨q,List.mem_of_getElem? hi,hk⟩
theorem Zf8 {c:C} {qs:List Q} {i:Nat} {q:Q} (hnd:(plabs c qs).Nodup) (hi:qs[i]?=some q):q.2.2.Nodup:=by
 simp only[plabs,List.nodup_append] at hnd;exact (List.pairwise_flatMap.1 hnd.2.1).1 q (List.mem_of_getElem? hi)
theorem Part.upd {h h':HS} {sh:List Sh} {c:C} {qs:List Q} {ds:List (List D)} {i:Nat} {q q':Q} (P:Part h sh c qs ds) (hi:qs[i]?=some q) (hm:MR h' sh.length c ((qs.map (·.1)).set i q'.1)) (ho:Ow h' sh q'.1 q'.2.1 q'.2.2)
  (hb:∀ j q2,j≠i→qs[j]?=some q2→∀ k ∈ q2.2.2,h'.box k=h.box k):Part h' sh c (qs.set i q') (ds.set i q'.2.1):=by
 refine⟨by rw[List.map_set];exact hm,by rw[List.map_set,P.ds],fun q2 hq=>?_⟩;obtain⟨j,hj⟩:=List.getElem?_of_mem hq
 by_cases hji:j=i
 ·subst hji;have hlt:j < qs.length:=(List.getElem?_eq_some_iff.1 hi).1;rw[List.getElem?_set_self hlt] at hj;cases hj;exact ho
 ·rw[List.getElem?_set_ne (fun h=>hji h.symm)] at hj;exact (P.ow q2 (List.mem_of_getElem? hj)).frame fun k hk=>hb j q2 hji hj k hk
theorem Part.at {h:HS} {sh:List Sh} {c:C} {qs:List Q} {ds:List (List D)} (P:Part h sh c qs ds) {i:Nat} {d:List D} (hi:ds[i]?=some d) :
  ∃ q lr cap sp,qs[i]?=some q∧q.2.1=d∧Ow h sh q.1 d q.2.2∧c=.mrow lr 0 ds.length cap∧h.box lr=some (rowBox (qs.map (·.1)) sp)∧(rowBox (qs.map (·.1)) sp).length=cap * sh.length∧AllC sh.length (qs.map (·.1))∧(qs.map (·.1))[i]?=some q.1:=by
 have hd:=P.ds;subst hd;rw[List.getElem?_map] at hi;cases hq:qs[i]? with
 | none=>rw[hq] at hi;simp at hi
 | some q=>
   rw[hq] at hi;simp only[Option.map_some,Option.some.injEq] at hi;have hlt:i < qs.length:=(List.getElem?_eq_some_iff.1 hq).1;obtain⟨lr,cap,sp,h1,h2,h3⟩:=P.mr.block (by simp;omega);refine⟨q,lr,cap,sp,rfl,hi,hi ▸ P.ow q (List.mem_of_getElem? hq),by simpa using h1,h2,h3,P.mr.1,by rw[List.getElem?_map,hq];rfl⟩
theorem Part.wr {h:HS} {sh:List Sh} {c:C} {qs:List Q} {ds:List (List D)} {i f n cap:Nat} {q:Q} {lr:Lab} {sp vs:List C} {d':List D} (P:Part h sh c qs ds) (hnd:(plabs c qs).Nodup) (hi:qs[i]?=some q) (hc:c=.mrow lr 0 n cap) (hB:h.box lr=some (rowBox (qs.map (·.1)) sp))
  (hlen:(rowBox (qs.map (·.1)) sp).length=cap * sh.length) (hf:f+vs.length≤sh.length) (ho:Ow h sh (Z03 q.1 f vs) d' q.2.2) :
  Part (h.setBox lr (Z03 (rowBox (qs.map (·.1)) sp) (i * sh.length+f) vs)) sh c (qs.set i (Z03 q.1 f vs,d',q.2.2)) (ds.set i d'):=by
 have hx:(qs.map (·.1))[i]?=some q.1:=by rw[List.getElem?_map,hi];rfl
 have hlr:labs c=[lr]:=by rw[hc];rfl
 have hself:∀ k ∈ q.2.2,k≠lr:=fun k hk he=>Z4j hnd hi hk (by rw[hlr,he];simp);refine P.upd (q':=(Z03 q.1 f vs,d',q.2.2)) hi ?_ (ho.frame fun k hk=>by simp[hself k hk]) (fun j q2 hne hj k hk=>?_)
 ·have hset:=Z71 (sp:=sp) (vs:=vs) P.mr.1 hx hf;have hq1:=P.mr.1.get hx;refine⟨P.mr.1.set (by rw[Z06 (by omega)];exact hq1),by simpa using P.mr.2.1,.inr ⟨lr,cap,sp,?_,by simp[hset],?_⟩⟩
  ·rcases P.mr.2.2 with ⟨h1,h2⟩ | ⟨l2,cap2,sp2,h1,_⟩
   ·rw[h1] at hx;simp at hx
   ·rw[hc] at h1 ⊢;simp at h1;simp[h1]
  ·rw[← hset,Z06 ?_,hlen]
   have:=Z6m (sp:=sp) P.mr.1 (List.getElem?_eq_some_iff.1 hx).1
   omega
 ·have:=(Z73 hnd hi hj hne hk).1
  rw[hlr] at this;have h2:k≠lr:=fun he=>this (by simp[he]);simp[h2]
end Go.Proofs.YthiojhcimecdgaaGreatDoor
namespace Go.Am
open Go Go.Proofs.YthiojhcimecdgaaGreatDoor
theorem Ow.flat {h:HS} {ss:List Sh} {cs:List C} {ds:List D} {ls:List Lab} (o:Ow h ss cs ds ls):∀ {n:Nat},ss=List.replicate n .d→(∀ d ∈ ds,d.flat=true)→cs=ds.map C.d∧ls=[]:=by
 induction o with
 | nil=>intro n _ _;exact⟨rfl,rfl⟩
 | @data c x ss cs ds ls hx hr ih=>
   intro n he hf;cases n with
   | zero=>simp at he
   | succ n=>
     simp[List.replicate_succ] at he;obtain⟨h1,h2⟩:=ih he (fun d hd=>hf d (by simp[hd]));have h3:=(Frz.data (h:=h) hx).flat (hf x (by simp));exact⟨by rw[h1,h3];rfl,h2⟩
 | @emp es c ss cs ds ls hx hr ih=>
   intro n he hf;cases n<;>simp[List.replicate_succ] at he
 | @row es c qs ss cs ds ls hm hq hr ihq ih=>
   intro n he hf;cases n<;>simp[List.replicate_succ] at he
end Go.Am
namespace Go.Proofs.YthiojhcimecdgaaGreatDoor
open Go Go.Am
end Go.Proofs.YthiojhcimecdgaaGreatDoor
namespace Go.Am
open Go Go.Proofs.YthiojhcimecdgaaGreatDoor
theorem Ow.inv_part {h:HS} {es ss:List Sh} {cs:List C} {ts:List (List D)} {ds:List D} {ls:List Lab} (o:Ow h (.r es::ss) cs (.sl ts::ds) ls):ts=[]∨∃ (c:C) (qs:List Q) (cs':List C) (ls':List Lab),cs=c::cs'∧ls=plabs c qs++ls'∧Part h es c qs ts∧Ow h ss cs' ds ls':=by
 rcases o.inv_r with ⟨c,cs',ds',rfl,h2,_⟩ | ⟨c,qs,cs',ds',ls',rfl,h2,rfl,hm,hq,hr⟩
 ·simp at h2;exact .inl h2.1
 ·simp at h2;obtain⟨h2,h3⟩:=h2;refine .inr ⟨c,qs,cs',ls',rfl,rfl,⟨hm,h2.symm,hq⟩,?_⟩;rw[h3];exact hr
end Go.Am
namespace Go.Proofs.YthiojhcimecdgaaGreatDoor
open Go Go.Am
end Go.Proofs.YthiojhcimecdgaaGreatDoor
namespace Go.Am
open Go Go.Proofs.YthiojhcimecdgaaGreatDoor
theorem Ow.mk_part {h:HS} {es ss:List Sh} {c:C} {qs:List Q} {cs:List C} {ts:List (List D)} {ds:List D} {ls:List Lab} (P:Part h es c qs ts) (o:Ow h ss cs ds ls):Ow h (.r es::ss) (c::cs) (.sl ts::ds) (plabs c qs++ls):=by
 obtain⟨hm,rfl,hq⟩:=P;exact .row hm hq o
end Go.Am
namespace Go.Proofs.YthiojhcimecdgaaGreatDoor
open Go Go.Am
def Sc (h:HS) (l:Lab) (S:Sch) (tc fc oc:C) (ta fa oa:List Lab):Prop:=∃ qt qf qo,ta=plabs tc qt∧fa=plabs fc qf∧oa=plabs oc qo∧SchC h l S tc fc oc qt qf qo
section
variable {h h':HS} {l:Lab} {S:Sch} {tc fc oc:C} {ta fa oa:List Lab}
theorem Sc.box (s:Sc h l S tc fc oc ta fa oa):h.box l=some [tc,fc,oc]:=by
 obtain⟨_,_,_,_,_,_,s⟩:=s;exact s.box
theorem Sc.frame (s:Sc h l S tc fc oc ta fa oa) (hs:Same h h' []):Sc h' l S tc fc oc ta fa oa:=by
 obtain⟨qt,qf,qo,h1,h2,h3,s⟩:=s;exact⟨qt,qf,qo,h1,h2,h3,s.frame hs⟩
theorem Sc.ows (s:Sc h l S tc fc oc ta fa oa):OwS h l S (ta++(fa++oa)):=by
 obtain⟨qt,qf,qo,rfl,rfl,rfl,s⟩:=s;exact⟨tc,fc,oc,qt,qf,qo,rfl,s⟩
theorem OwS.sc {ls:List Lab} (o:OwS h l S ls):∃ tc fc oc ta fa oa,ls=ta++(fa++oa)∧Sc h l S tc fc oc ta fa oa:=by
 obtain⟨tc,fc,oc,qt,qf,qo,h1,s⟩:=o;exact⟨tc,fc,oc,_,_,_,h1,qt,qf,qo,rfl,rfl,rfl,s⟩
theorem Sc.lt (s:Sc h l S tc fc oc ta fa oa):∀ k ∈ l::(ta++(fa++oa)),k.1 < h.ep:=by
 obtain⟨qt,qf,qo,rfl,rfl,rfl,s⟩:=s;exact s.lt
theorem Sc.nd (s:Sc h l S tc fc oc ta fa oa):(l::(ta++(fa++oa))).Nodup:=by
 obtain⟨qt,qf,qo,rfl,rfl,rfl,s⟩:=s;exact s.nd
theorem Sc.tfrz (s:Sc h l S tc fc oc ta fa oa):Frz h tc (.sl (S.tables.map Tbl.enc)):=by
 obtain⟨qt,qf,qo,rfl,rfl,rfl,s⟩:=s;exact s.t.frz
theorem Sc.ffrz (s:Sc h l S tc fc oc ta fa oa):Frz h fc (.sl (S.fks.map Fk.enc)):=by
 obtain⟨qt,qf,qo,rfl,rfl,rfl,s⟩:=s;exact s.f.frz
theorem Sc.ofrz (s:Sc h l S tc fc oc ta fa oa):Frz h oc (.sl (S.cons.map Cons.enc)):=by
 obtain⟨qt,qf,qo,rfl,rfl,rfl,s⟩:=s;exact s.o.frz
theorem Sc.frz (s:Sc h l S tc fc oc ta fa oa):FrzCs h [tc,fc,oc] S.enc:=⟨s.tfrz,s.ffrz,s.ofrz,trivial⟩
end
end Go.Proofs.YthiojhcimecdgaaGreatDoor
namespace Go.Am
open Go Go.Proofs.YthiojhcimecdgaaGreatDoor
theorem MR.len {h:HS} {n:Nat} {c:C} {xs:List (List C)} (m:MR h n c xs):cLen c=some xs.length:=m.rd.2.1
end Go.Am
namespace Go.Proofs.YthiojhcimecdgaaGreatDoor
open Go Go.Am
theorem Sc.len {h:HS} {l:Lab} {S:Sch} {tc fc oc:C} {ta fa oa:List Lab} (s:Sc h l S tc fc oc ta fa oa):(cLen tc=some S.tables.length∧S.tables.length≤LIM)∧(cLen fc=some S.fks.length∧S.fks.length≤LIM)∧cLen oc=some S.cons.length∧S.cons.length≤LIM:=by
 obtain⟨qt,qf,qo,rfl,rfl,rfl,s⟩:=s;have e1:qt.length=S.tables.length:=by have:=congrArg List.length s.t.ds;simpa using this
 have e2:qf.length=S.fks.length:=by have:=congrArg List.length s.f.ds;simpa using this
 have e3:qo.length=S.cons.length:=by have:=congrArg List.length s.o.ds;simpa using this
 have h1:=s.t.mr.rd;have h2:=s.f.mr.rd;have h3:=s.o.mr.rd;refine⟨⟨?_,?_⟩,⟨?_,?_⟩,?_,?_⟩
 ·rw[h1.2.1];simp[e1]
 ·rw[← e1];simpa using h1.2.2.2
 ·rw[h2.2.1];simp[e2]
 ·rw[← e2];simpa using h2.2.2.2
 ·rw[h3.2.1];simp[e3]
 ·rw[← e3];simpa using h3.2.2.2
theorem Z1h {c:C} {n:Nat} {f:Nat→Prop} (hc:cLen c=some n) (hk:f n):lenK c (k:=⟨f⟩):=by
 unfold lenK;cases c<;>simp[cLen,C.list?] at hc<;>first | (subst hc;exact hk) | skip
 ·rename_i x;cases x<;>simp at hc;subst hc;exact fun _=>hk
 ·subst hc;exact fun _=>hk
 ·subst hc;exact fun _=>hk
 ·subst hc;exact fun _=>hk
theorem Zj2:FkSh.length=3:=rfl
theorem Ze2:TblSh.length=3:=rfl
theorem SchC.wrF {h h':HS} {l:Lab} {S:Sch} {tc fc oc:C} {qt qf qf' qo:List Q} {fs:List Fk} (s:SchC h l S tc fc oc qt qf qo) (hp:Part h' FkSh fc qf' (fs.map Fk.enc)) (hs:Same h h' (plabs fc qf)) (hl:plabs fc qf'=plabs fc qf):SchC h' l { S with fks:=fs } tc fc oc qt qf' qo:=
 s.setF (by rw[hs.2 l (s.lt l (by simp)) s.ne.2.1];exact s.box) hp (hs.mono fun k hk=>by simp[hk]) (by rw[hl];exact s.nds.2.1) (fun k hk=>.inl (hl ▸ hk))
theorem SchC.wrO {h h':HS} {l:Lab} {S:Sch} {tc fc oc:C} {qt qf qo qo':List Q} {os:List Cons} (s:SchC h l S tc fc oc qt qf qo) (hp:Part h' ConSh oc qo' (os.map Cons.enc)) (hs:Same h h' (plabs oc qo)) (hl:plabs oc qo'=plabs oc qo):SchC h' l { S with cons:=os } tc fc oc qt qf qo':=
 s.setO (by rw[hs.2 l (s.lt l (by simp)) s.ne.2.2.1];exact s.box) hp (hs.mono fun k hk=>by simp[hk]) (by rw[hl];exact s.nds.2.2) (fun k hk=>.inl (hl ▸ hk))
end Go.Proofs.YthiojhcimecdgaaGreatDoor
namespace Go.Am
open Go Go.Proofs.YthiojhcimecdgaaGreatDoor
theorem Same.set1 {h:HS} {l:Lab} {cs:List C} {ls:List Lab} (hl:l ∈ ls):Same h (h.setBox l cs) ls:=Same.refl.setBox (.inl hl)
end Go.Am
namespace Go.Proofs.YthiojhcimecdgaaGreatDoor
open Go Go.Am
structure Elem (h:HS) (lr:Lab) (i n:Nat) (x:List C) (B:List C):Prop where
 box:h.box lr=some B
 rd:∀ g m,g+m≤n→takeN m (B.drop (i * n+g))=takeN m (x.drop g)
 rd0:∀ m,m≤n→takeN m (B.drop (i * n))=takeN m x
 le:i * n+n≤B.length
theorem Part.elem {h:HS} {sh:List Sh} {c:C} {qs:List Q} {ds:List (List D)} (P:Part h sh c qs ds) {i:Nat} {d:List D} (hi:ds[i]?=some d) :
  ∃ q lr cap sp,qs[i]?=some q∧q.2.1=d∧Ow h sh q.1 d q.2.2∧c=.mrow lr 0 ds.length cap∧(rowBox (qs.map (·.1)) sp).length=cap * sh.length∧Elem h lr i sh.length q.1 (rowBox (qs.map (·.1)) sp):=by
 obtain⟨q,lr,cap,sp,h1,h2,h3,h4,h5,h6,h7,h8⟩:=P.at hi;refine⟨q,lr,cap,sp,h1,h2,h3,h4,h6,h5,fun g m hg=>Z5i h7 h8 hg,fun m hm=>?_,Z6m h7 (List.getElem?_eq_some_iff.1 h8).1⟩
 have:=Z5i (sp:=sp) (f:=0) (m:=m) h7 h8 (by omega)
 simpa using this
end Go.Proofs.YthiojhcimecdgaaGreatDoor
end
namespace Go.Proofs.YthiojhcimecdgaaGreatDoor
section
open Go Go.Am
theorem Z60 {α β:Type} {f:α→β} {xs:List α} {i:Nat} {x:α} (h:xs[i]?=some x):(xs.map f)[i]?=some (f x):=by rw[List.getElem?_map,h];rfl
theorem Z87 {α β:Type} {f:α→β} {xs:List α} {i:Nat} {x:α}:(xs.set i x).map f=(xs.map f).set i (f x):=List.map_set
theorem Part.elemD {h:HS} {n:Nat} {sh:List Sh} {c:C} {qs:List Q} {ds:List (List D)} (P:Part h sh c qs ds) (hsh:sh=List.replicate n .d) {i:Nat} {d:List D} (hi:ds[i]?=some d) (hf:∀ x ∈ d,x.flat=true) :
  ∃ lr cap B,c=.mrow lr 0 ds.length cap∧Elem h lr i n (d.map C.d) B∧qs[i]?=some (d.map C.d,d,[]) ∧
    (∀ g vs d',(plabs c qs).Nodup→g+vs.length≤n→Z03 (d.map C.d) g vs=d'.map C.d→d'.length=n→∃ qs',plabs c qs'=plabs c qs∧Part (h.setBox lr (Z03 B (i * n+g) vs)) sh c qs' (ds.set i d')):=by
 obtain⟨q,lr,cap,sp,h1,h2,h3,h4,h5,h6⟩:=P.elem hi;have hn:sh.length=n:=by rw[hsh];simp
 obtain⟨e1,e2⟩:=h3.flat hsh hf;have eq:q=(d.map C.d,d,[]):=by rw[← e1,← e2,← h2]
 subst eq;rw[hn] at h5 h6;refine⟨lr,cap,_,h4,h6,h1,fun g vs d' hnd hg hs hd=>?_⟩;refine⟨qs.set i (Z03 (d.map C.d) g vs,d',[]),Z72 h1 rfl,?_⟩
 have:=P.wr (f:=g) (vs:=vs) (d':=d') hnd h1 h4 h6.box (by rw[h5,hn]) (by rw[hn];exact hg) (by
  rw[hs,hsh]
  have:=Ow.datas (h:=h) (ds:=d')
  simp only[List.map_const',hd] at this;exact this)
 rw[hn] at this;exact this
theorem Cons.flat (c:Cons):∀ x ∈ c.enc,x.flat=true:=by simp[D.flat]
theorem Col.flat (c:Col):∀ x ∈ c.enc,x.flat=true:=by simp[D.flat]
theorem Zdt (c:Int):∀ x ∈ encI c,x.flat=true:=by simp[D.flat]
theorem Sc.con {h:HS} {l:Lab} {S:Sch} {tc fc oc:C} {ta fa oa:List Lab} (s:Sc h l S tc fc oc ta fa oa) {i:Nat} {c:Cons} (hi:S.cons[i]?=some c) :
  ∃ lo cap B,oc=.mrow lo 0 S.cons.length cap∧lo ∈ oa∧Elem h lo i 7 (c.enc.map C.d) B ∧
    ∀ g vs c',g+vs.length≤7→Z03 (c.enc.map C.d) g vs=c'.enc.map C.d→Sc (h.setBox lo (Z03 B (i * 7+g) vs)) l { S with cons:=S.cons.set i c' } tc fc oc ta fa oa:=by
 obtain⟨qt,qf,qo,rfl,rfl,rfl,s⟩:=s;obtain⟨lo,cap,B,h1,h2,h3,h4⟩:=s.o.elemD (n:=7) rfl (Z60 hi) c.flat;have hm:lo ∈ plabs oc qo:=by rw[h1];simp[plabs,labs]
 refine⟨lo,cap,B,by simpa using h1,hm,h2,fun g vs c' hg hs=>?_⟩;obtain⟨qo',h5,h6⟩:=h4 g vs c'.enc s.nds.2.2 hg hs rfl;refine⟨qt,qf,qo',rfl,rfl,h5.symm,s.wrO (by rw[Z87];exact h6) (Same.set1 hm) h5⟩
theorem Sc.fk {h:HS} {l:Lab} {S:Sch} {tc fc oc:C} {ta fa oa:List Lab} (s:Sc h l S tc fc oc ta fa oa) {i:Nat} {f:Fk} (hi:S.fks[i]?=some f) :
  ∃ lf cap B c1,fc=.mrow lf 0 S.fks.length cap∧lf ∈ fa∧Elem h lf i 3 [.d (.str f.table),c1,.d (.str f.ref)] B∧(∀ h',Same h h' []→Frz h' c1 (.sl (f.cols.map encI)))∧(cLen c1=some f.cols.length∧f.cols.length≤LIM) ∧
    (∀ g vs f',f'.cols=f.cols→g+vs.length≤3→Z03 [.d (.str f.table),c1,.d (.str f.ref)] g vs=[.d (.str f'.table),c1,.d (.str f'.ref)]→Sc (h.setBox lf (Z03 B (i * 3+g) vs)) l { S with fks:=S.fks.set i f' } tc fc oc ta fa oa) ∧
    (∀ k v,f.cols[k]?=some v→∃ l2 cap2 B2,c1=.mrow l2 0 f.cols.length cap2∧l2 ∈ fa∧l2≠lf∧Elem h l2 k 1 [.d (.int .i64 v)] B2 ∧
     ∀ v',Sc (h.setBox l2 (Z03 B2 (k * 1) [.d (.int .i64 v')])) l { S with fks:=S.fks.set i { f with cols:=f.cols.set k v' } } tc fc oc ta fa oa):=by
 obtain⟨qt,qf,qo,rfl,rfl,rfl,s⟩:=s;have hnd:=s.nds.2.1;have hlt:∀ k ∈ plabs fc qf,k.1 < h.ep:=fun k hk=>s.lt k (by simp[hk]);obtain⟨q,lf,cap,sp,h1,h2,h3,h4,h5,h6⟩:=s.f.elem (Z60 (f:=Fk.enc) hi);have hm:lf ∈ plabs fc qf:=by rw[h4];simp[plabs,labs]
 rw[Zj2] at h5 h6;obtain⟨qc,qd,ql⟩:=q;simp only at h2 h3 h6;subst h2;obtain⟨c0,x0,cs,ds,rfl,e1,e2,h7⟩:=h3.inv_d;simp only[Fk.enc,List.cons.injEq] at e1;obtain⟨rfl,rfl⟩:=e1;obtain rfl:=(Frz.data (h:=h) e2).flat rfl;have hfz:∀ h',Same h h' []→FrzCs h' cs [.sl (f.cols.map encI),.str f.ref]:=fun h' hs=>(h7.frame fun k hk=>hs.2 k (hlt k (Z3m h1 hk)) (by simp)).frz;have key:∃ c1,cs=[c1,.d (.str f.ref)]∧(cLen c1=some f.cols.length∧f.cols.length≤LIM):=by
  rcases h7.inv_r with ⟨c1,cs',ds',rfl,e3,e4,h8⟩ | ⟨c1,qs1,cs',ds',ls',rfl,e3,_,hm1,_,h8⟩
  ·simp only[List.cons.injEq] at e3;obtain⟨e3,rfl⟩:=e3;obtain⟨c2,x2,cs2,ds2,rfl,e5,e6,h9⟩:=h8.inv_d;simp only[List.cons.injEq] at e5;obtain⟨rfl,rfl⟩:=e5;obtain rfl:=(Frz.data (h:=h) e6).flat rfl;obtain⟨rfl,_,_⟩:=h9.inv_nil;simp at e3;refine⟨c1,rfl,?_,by simp[e3]⟩;cases c1<;>simp[C.toD] at e4<;>subst_vars<;>simp[cLen,C.list?,e3]
  ·simp only[List.cons.injEq] at e3;obtain⟨e3,rfl⟩:=e3;obtain⟨c2,x2,cs2,ds2,rfl,e5,e6,h9⟩:=h8.inv_d;simp only[List.cons.injEq] at e5;obtain⟨rfl,rfl⟩:=e5;obtain rfl:=(Frz.data (h:=h) e6).flat rfl;obtain⟨rfl,_,_⟩:=h9.inv_nil;simp at e3;have e4:=congrArg List.length e3;simp at e4;exact⟨c1,rfl,by rw[MR.len hm1];simp[e4],by rw[e4];simpa using hm1.2.1⟩
 obtain⟨c1,rfl,hcl⟩:=key;refine⟨lf,cap,_,c1,by simpa using h4,hm,h6,fun h' hs=>(hfz h' hs).1,hcl,fun g vs f' hc hg hset=>?_,fun k v hk=>?_⟩
 ·refine⟨qt,qf.set i ([.d (.str f'.table),c1,.d (.str f'.ref)],f'.enc,ql),qo,rfl,(Z72 (q':=(_,f'.enc,ql)) h1 rfl).symm,rfl,s.wrF ?_ (Same.set1 hm) (Z72 (q':=(_,f'.enc,ql)) h1 rfl)⟩
  have:=s.f.wr (f:=g) (vs:=vs) (d':=f'.enc) hnd h1 h4 h6.box h5 hg (by
   rw[hset];refine .data (x:=.str f'.table) rfl ?_;rcases h7.inv_r with ⟨c1,cs',ds',e0,e3,e4,h8⟩ | ⟨c1,qs1,cs',ds',ls',e0,e3,rfl,hm1,hq1,h8⟩
   ·simp at e3 e0;obtain⟨e3,rfl⟩:=e3;obtain⟨rfl,rfl⟩:=e0;obtain⟨c2,x2,cs2,ds2,e4',e5,e6,h9⟩:=h8.inv_d;simp only[List.cons.injEq] at e5 e4';obtain⟨rfl,rfl⟩:=e5;obtain⟨rfl,rfl⟩:=e4';rw[hc,e3];exact .emp e4 (.data (x:=.str f'.ref) rfl h9)
   ·simp at e3 e0;obtain⟨e3,rfl⟩:=e3;obtain⟨rfl,rfl⟩:=e0;obtain⟨c2,x2,cs2,ds2,e4',e5,e6,h9⟩:=h8.inv_d;simp only[List.cons.injEq] at e5 e4';obtain⟨rfl,rfl⟩:=e5;obtain⟨rfl,rfl⟩:=e4';rw[hc,show f.cols.map encI=qs1.map (fun q=>q.2.1) by simpa using e3];exact .row hm1 hq1 (.data (x:=.str f'.ref) rfl h9))
  rw[hset,Zj2] at this;rw[Z87];exact this
 ·rcases h7.inv_part with e | ⟨c1',qs1,cs',ls',e0,rfl,P1,h8⟩
  ·have:f.cols=[]:=by simpa using e
   rw[this] at hk;simp at hk
  ·simp only[List.cons.injEq] at e0;obtain⟨rfl,rfl⟩:=e0;obtain⟨l2,cap2,B2,k1,k2,k3,k4⟩:=P1.elemD (n:=1) rfl (Z60 (f:=encI) hk) (Zdt v);have hl2:l2 ∈ plabs c1 qs1:=by rw[k1];simp[plabs,labs]
   have hl2q:l2 ∈ plabs fc qf:=Z3m h1 (by simp[hl2]);have hne:l2≠lf:=fun he=>Z4j hnd h1 (k:=l2) (by simp[hl2]) (by rw[he,h4];simp[labs]);have hndq:=Zf8 hnd h1;simp only at hndq;refine⟨l2,cap2,B2,by simpa using k1,hl2q,hne,k2,fun v'=>?_⟩;obtain⟨qs1',k5,k6⟩:=k4 0 [.d (.int .i64 v')] [.int .i64 v'] ((List.nodup_append.1 hndq).1) (by simp) (by simp) (by simp);refine⟨qt,qf.set i ([.d (.str f.table),c1,.d (.str f.ref)],({ f with cols:=f.cols.set k v' }:Fk).enc,plabs c1 qs1++ls'),qo,rfl,(Z72 (q':=(_,({ f with cols:=f.cols.set k v' }:Fk).enc,plabs c1 qs1++ls')) h1 rfl).symm,rfl,s.wrF ?_ (Same.set1 hl2q) (Z72 (q':=(_,({ f with cols:=f.cols.set k v' }:Fk).enc,plabs c1 qs1++ls')) h1 rfl)⟩;rw[Z87];refine s.f.upd (q':=(_,_,_)) h1 ?_ ?_ ?_
   ·have:(qf.map (·.1)).set i [.d (.str f.table),c1,.d (.str f.ref)]=qf.map (·.1):=Zcp (Z60 (f:=fun q:Q=>q.1) h1)
    rw[this];refine s.f.mr.frame fun k hk=>?_
    have:k≠l2:=fun he=>Z4j hnd h1 (k:=l2) (by simp[hl2]) (he ▸ hk)
    simp[this]
   ·refine .data rfl ?_;rw[← k5];simp only[Nat.add_zero] at k6;refine Ow.mk_part (ts:=(f.cols.set k v').map encI) (by rw[Z87];exact k6) (h8.frame fun k hk=>?_)
    have:k≠l2:=fun he=>(List.nodup_append.1 hndq).2.2 l2 hl2 k hk he.symm
    simp[this]
   ·intro j q2 hj hq2 k hk
    have:=(Z73 hnd h1 hq2 hj hk).2
    have:k≠l2:=fun he=>this (by simp[he,hl2])
    simp[this]
end
end Go.Proofs.YthiojhcimecdgaaGreatDoor
section
namespace Go.Proofs.YthiojhcimecdgaaGreatDoor
open Go Go.Am
end Go.Proofs.YthiojhcimecdgaaGreatDoor
namespace Go.Am
open Go Go.Proofs.YthiojhcimecdgaaGreatDoor
theorem Ow.split {h:HS} {s:Sh} {ss:List Sh} {cs:List C} {x:D} {ds:List D} {ls:List Lab} (o:Ow h (s::ss) cs (x::ds) ls):∃ c cs' l1 l2,cs=c::cs'∧ls=l1++l2∧Ow h [s] [c] [x] l1∧Ow h ss cs' ds l2:=by
 cases o with
 | data hx hr=>exact⟨_,_,[],_,rfl,rfl,.data hx .nil,hr⟩
 | emp hx hr=>exact⟨_,_,[],_,rfl,rfl,.emp hx .nil,hr⟩
 | row hm hq hr=>exact⟨_,_,_,_,rfl,rfl,by simpa using Ow.row hm hq .nil,hr⟩
end Go.Am
namespace Go.Proofs.YthiojhcimecdgaaGreatDoor
open Go Go.Am
end Go.Proofs.YthiojhcimecdgaaGreatDoor
namespace Go.Am
open Go Go.Proofs.YthiojhcimecdgaaGreatDoor
theorem Ow.join {h:HS} {s:Sh} {ss:List Sh} {c:C} {cs:List C} {x:D} {ds:List D} {l1 l2:List Lab} (o:Ow h [s] [c] [x] l1) (o2:Ow h ss cs ds l2):Ow h (s::ss) (c::cs) (x::ds) (l1++l2):=by
 cases o with
 | data hx hr=>obtain⟨_,_,rfl⟩:=hr.inv_nil;exact .data hx o2
 | emp hx hr=>obtain⟨_,_,rfl⟩:=hr.inv_nil;exact .emp hx o2
 | row hm hq hr=>
   obtain⟨_,_,rfl⟩:=hr.inv_nil
   have:=Ow.row hm hq o2
   simpa using this
end Go.Am
namespace Go.Proofs.YthiojhcimecdgaaGreatDoor
open Go Go.Am
end Go.Proofs.YthiojhcimecdgaaGreatDoor
namespace Go.Am
open Go Go.Proofs.YthiojhcimecdgaaGreatDoor
theorem Ow.nlen {h:HS} {es:List Sh} {c:C} {ts:List (List D)} {ls:List Lab} (o:Ow h [.r es] [c] [.sl ts] ls):cLen c=some ts.length∧ts.length≤LIM:=by
 rcases o.inv_r with ⟨c1,cs',ds',e1,e3,e4,h8⟩ | ⟨c1,qs1,cs',ds',ls',e1,e3,_,hm1,_,h8⟩
 ·simp at e1 e3;obtain⟨rfl,rfl⟩:=e1;refine⟨?_,by simp[e3]⟩;cases c<;>simp[C.toD] at e4<;>subst_vars<;>simp[cLen,C.list?,e3]
 ·simp at e1 e3;obtain⟨rfl,rfl⟩:=e1;have e4:=congrArg List.length e3.1;simp at e4;exact⟨by rw[MR.len hm1];simp[e4],by rw[e4];simpa using hm1.2.1⟩
end Go.Am
namespace Go.Proofs.YthiojhcimecdgaaGreatDoor
open Go Go.Am
end Go.Proofs.YthiojhcimecdgaaGreatDoor
namespace Go.Am
open Go Go.Proofs.YthiojhcimecdgaaGreatDoor
theorem Ow.npart {h:HS} {es:List Sh} {c:C} {ts:List (List D)} {ls:List Lab} (o:Ow h [.r es] [c] [.sl ts] ls) (h0:ts≠[]):∃ qs,ls=plabs c qs∧Part h es c qs ts:=by
 rcases o.inv_part with e | ⟨c1,qs1,cs',ls',e0,rfl,P1,h8⟩
 ·exact absurd e h0
 ·simp at e0;obtain⟨rfl,rfl⟩:=e0;obtain⟨_,_,rfl⟩:=h8.inv_nil;exact⟨qs1,by simp,P1⟩
end Go.Am
namespace Go.Proofs.YthiojhcimecdgaaGreatDoor
open Go Go.Am
end Go.Proofs.YthiojhcimecdgaaGreatDoor
namespace Go.Am
open Go Go.Proofs.YthiojhcimecdgaaGreatDoor
theorem Ow.of_part {h:HS} {es:List Sh} {c:C} {qs:List Q} {ts:List (List D)} (P:Part h es c qs ts):Ow h [.r es] [c] [.sl ts] (plabs c qs):=by
 simpa using Ow.mk_part P (.nil)
end Go.Am
namespace Go.Proofs.YthiojhcimecdgaaGreatDoor
open Go Go.Am
end Go.Proofs.YthiojhcimecdgaaGreatDoor
namespace Go.Am
open Go Go.Proofs.YthiojhcimecdgaaGreatDoor
theorem Ow.nlabs {h:HS} {es:List Sh} {c:C} {ts:List (List D)} {ls:List Lab} (o:Ow h [.r es] [c] [.sl ts] ls):∀ k ∈ labs c,k ∈ ls:=by
 rcases o.inv_r with ⟨c1,cs',ds',e1,e3,e4,h8⟩ | ⟨c1,qs1,cs',ds',ls',e1,e3,rfl,hm1,_,h8⟩
 ·simp at e1;obtain⟨rfl,rfl⟩:=e1;cases c<;>simp[C.toD] at e4<;>simp[labs]
 ·simp at e1;obtain⟨rfl,rfl⟩:=e1;intro k hk;simp[hk]
end Go.Am
namespace Go.Proofs.YthiojhcimecdgaaGreatDoor
open Go Go.Am
end Go.Proofs.YthiojhcimecdgaaGreatDoor
namespace Go.Am
open Go Go.Proofs.YthiojhcimecdgaaGreatDoor
theorem Ow.nfrz {h:HS} {es:List Sh} {c:C} {ts:List (List D)} {ls:List Lab} (o:Ow h [.r es] [c] [.sl ts] ls):Frz h c (.sl ts):=o.frz.1
end Go.Am
namespace Go.Proofs.YthiojhcimecdgaaGreatDoor
open Go Go.Am
end Go.Proofs.YthiojhcimecdgaaGreatDoor
namespace Go.Am
open Go Go.Proofs.YthiojhcimecdgaaGreatDoor
theorem Ow.nrow {h:HS} {n:Nat} {es:List Sh} {c:C} {ts:List (List D)} (hm:MR h n c (ts.map (·.map C.d))) (hes:es=List.replicate n .d) (ht:∀ t ∈ ts,t.length=n):Ow h [.r es] [c] [.sl ts] (labs c):=by
 simpa using Ow.rowD hm hes ht .nil
end Go.Am
namespace Go.Proofs.YthiojhcimecdgaaGreatDoor
open Go Go.Am
theorem Zbp {A X X' B:List Lab} (h:(A++(X++B)).Nodup) (hx:X'.Nodup) (hn:∀ k ∈ X',k ∈ X∨k ∉ A++(X++B)):(A++(X'++B)).Nodup:=by
 simp only[List.nodup_append,List.mem_append,not_or] at h hn ⊢;obtain⟨hA,⟨hX,hB,hXB⟩,hd⟩:=h;refine⟨hA,⟨hx,hB,fun a ha b hb=>?_⟩,fun a ha b hb=>?_⟩
 ·rintro rfl;rcases hn a ha with h1 | h1
  ·exact hXB a h1 a hb rfl
  ·exact h1.2.2 hb
 ·rintro rfl;rcases hb with hb | hb
  ·rcases hn a hb with h1 | h1
   ·exact hd a ha a (.inl h1) rfl
   ·exact h1.1 ha
  ·exact hd a ha a (.inr hb) rfl
theorem SchC.setT2 {h h':HS} {l:Lab} {S:Sch} {tc tc' fc oc:C} {qt qt' qf qo:List Q} {ts:List Tbl} (s:SchC h l S tc fc oc qt qf qo) (hb:h'.box l=some [tc',fc,oc]) (hp:Part h' TblSh tc' qt' (ts.map Tbl.enc)) (hs:Same h h' (l::plabs tc qt))
  (hnd:(plabs tc' qt').Nodup) (hn:∀ k ∈ plabs tc' qt',k ∈ plabs tc qt∨(k ∉ l::(plabs tc qt++(plabs fc qf++plabs oc qo))∧k.1 < h'.ep)):SchC h' l { S with tables:=ts } tc' fc oc qt' qf qo:=by
 obtain⟨n1,n2,n3,n4,n5⟩:=s.ne;have hlt:=s.lt;simp only[List.mem_cons,List.mem_append] at hlt;refine⟨hb,hp,s.f.frame fun k hk=>hs.2 k (hlt k (.inr (.inr (.inl hk)))) ?_,s.o.frame fun k hk=>hs.2 k (hlt k (.inr (.inr (.inr hk)))) ?_,?_,?_⟩
 ·simp only[List.mem_cons,not_or];exact⟨fun he=>n2 (he ▸ hk),fun h6=>(n4 k h6).1 hk⟩
 ·simp only[List.mem_cons,not_or];exact⟨fun he=>n3 (he ▸ hk),fun h6=>(n4 k h6).2 hk⟩
 ·have:=Zbp (A:=[l]) (X:=plabs tc qt) (X':=plabs tc' qt') (B:=plabs fc qf++plabs oc qo) (by simpa using s.nd) hnd (fun k hk=>(hn k hk).imp_right fun h=>by simpa using h.1)
  simpa using this
 ·intro k hk
  have:=hs.1
  simp only[List.mem_cons,List.mem_append] at hk;rcases hk with hk | hk | hk | hk
  ·have:=hlt k (.inl hk);omega
  ·rcases hn k hk with h1 | h1
   ·have:=hlt k (.inr (.inl h1));omega
   ·exact h1.2
  ·have:=hlt k (.inr (.inr (.inl hk)));omega
  ·have:=hlt k (.inr (.inr (.inr hk)));omega
theorem SchC.setF2 {h h':HS} {l:Lab} {S:Sch} {tc fc fc' oc:C} {qt qf qf' qo:List Q} {fs:List Fk} (s:SchC h l S tc fc oc qt qf qo) (hb:h'.box l=some [tc,fc',oc]) (hp:Part h' FkSh fc' qf' (fs.map Fk.enc)) (hs:Same h h' (l::plabs fc qf))
  (hnd:(plabs fc' qf').Nodup) (hn:∀ k ∈ plabs fc' qf',k ∈ plabs fc qf∨(k ∉ l::(plabs tc qt++(plabs fc qf++plabs oc qo))∧k.1 < h'.ep)):SchC h' l { S with fks:=fs } tc fc' oc qt qf' qo:=by
 obtain⟨n1,n2,n3,n4,n5⟩:=s.ne;have hlt:=s.lt;simp only[List.mem_cons,List.mem_append] at hlt;refine⟨hb,s.t.frame fun k hk=>hs.2 k (hlt k (.inr (.inl hk))) ?_,hp,s.o.frame fun k hk=>hs.2 k (hlt k (.inr (.inr (.inr hk)))) ?_,?_,?_⟩
 ·simp only[List.mem_cons,not_or];exact⟨fun he=>n1 (he ▸ hk),(n4 k hk).1⟩
 ·simp only[List.mem_cons,not_or];exact⟨fun he=>n3 (he ▸ hk),fun h6=>n5 k h6 hk⟩
 ·have:=Zbp (A:=l::plabs tc qt) (X:=plabs fc qf) (X':=plabs fc' qf') (B:=plabs oc qo) (by simpa using s.nd) hnd (fun k hk=>(hn k hk).imp_right fun h=>by simpa using h.1)
  simpa using this
 ·intro k hk
  have:=hs.1
  simp only[List.mem_cons,List.mem_append] at hk;rcases hk with hk | hk | hk | hk
  ·have:=hlt k (.inl hk);omega
  ·have:=hlt k (.inr (.inl hk));omega
  ·rcases hn k hk with h1 | h1
   ·have:=hlt k (.inr (.inr (.inl h1)));omega
   ·exact h1.2
  ·have:=hlt k (.inr (.inr (.inr hk)));omega
theorem Zqp {α:Type} {xs:List α} {i:Nat} {x:α} (h:xs[i]?=some x) (y:α):xs=xs.take i++x::xs.drop (i+1)∧xs.set i y=xs.take i++y::xs.drop (i+1):=by
 obtain⟨hi,rfl⟩:=List.getElem?_eq_some_iff.1 h;exact⟨by rw[← List.drop_eq_getElem_cons hi,List.take_append_drop],by rw[List.set_eq_take_append_cons_drop,if_pos hi]⟩
theorem Zg9 {c:C} {xs:List Q} {i:Nat} {x:Q} (h:xs[i]?=some x) (y:Q):plabs c xs=(labs c++(xs.take i).flatMap (·.2.2))++(x.2.2++(xs.drop (i+1)).flatMap (·.2.2))∧plabs c (xs.set i y)=(labs c++(xs.take i).flatMap (·.2.2))++(y.2.2++(xs.drop (i+1)).flatMap (·.2.2)):=by
 obtain⟨h1,h2⟩:=Zqp h y;refine⟨?_,?_⟩
 ·have:=congrArg (fun zs:List Q=>labs c++zs.flatMap (·.2.2)) h1
  simpa[plabs] using this
 ·rw[plabs,h2];simp
theorem Zg8 {c:C} {qs:List Q} {i:Nat} {q q':Q} (hnd:(plabs c qs).Nodup) (hi:qs[i]?=some q) (hq:q'.2.2.Nodup) (hn:∀ k ∈ q'.2.2,k ∈ q.2.2∨k ∉ plabs c qs):(plabs c (qs.set i q')).Nodup:=by
 obtain⟨h1,h2⟩:=Zg9 (c:=c) hi q';rw[h1] at hnd hn;rw[h2];exact Zbp hnd hq hn
theorem Z8y {c:C} {qs:List Q} {i:Nat} {q q':Q} (hi:qs[i]?=some q) {k:Lab} (hk:k ∈ plabs c (qs.set i q')):k ∈ plabs c qs∨k ∈ q'.2.2:=by
 obtain⟨h1,h2⟩:=Zg9 (c:=c) hi q';rw[h2] at hk;rw[h1];simp only[List.mem_append] at hk ⊢;rcases hk with (h | h) | h | h
 ·exact .inl (.inl (.inl h))
 ·exact .inl (.inl (.inr h))
 ·exact .inr h
 ·exact .inl (.inr (.inr h))
theorem SchC.updT {h h':HS} {l:Lab} {S:Sch} {tc fc oc:C} {qt qf qo:List Q} {i:Nat} {q:Q} {T':Tbl} {cs':List C} {lq':List Lab} (s:SchC h l S tc fc oc qt qf qo) (hi:qt[i]?=some q) (hm:MR h' 3 tc ((qt.map (·.1)).set i cs')) (ho:Ow h' TblSh cs' T'.enc lq')
  (hs:Same h h' (labs tc++q.2.2)) (hq:lq'.Nodup) (hn:∀ k ∈ lq',k ∈ q.2.2∨(k ∉ l::(plabs tc qt++(plabs fc qf++plabs oc qo))∧k.1 < h'.ep)):SchC h' l { S with tables:=S.tables.set i T' } tc fc oc (qt.set i (cs',T'.enc,lq')) qf qo:=by
 have hnd:=s.nds.1;have hlt:∀ k ∈ plabs tc qt,k.1 < h.ep:=fun k hk=>s.lt k (by simp[hk]);have hsub:∀ k ∈ labs tc++q.2.2,k ∈ plabs tc qt:=fun k hk=>by
  rcases List.mem_append.1 hk with h1 | h1
  ·simp[plabs,h1]
  ·exact Z3m hi h1
 have hl:h'.box l=h.box l:=hs.2 l (s.lt l (by simp)) fun hk=>s.ne.1 (hsub l hk);refine s.setT2 (by rw[hl];exact s.box) ?_ (hs.mono fun k hk=>by simp[hsub k hk]) (Zg8 hnd hi hq fun k hk=>(hn k hk).imp_right fun h2 h3=>h2.1 (by simp[h3])) (fun k hk=>?_)
 ·rw[Z87];refine s.t.upd (q':=(cs',T'.enc,lq')) hi hm ho (fun j q2 hj hq2 k hk=>?_);have h1:=Z73 hnd hi hq2 hj hk;refine hs.2 k (hlt k (Z3m hq2 hk)) fun h2=>?_;rcases List.mem_append.1 h2 with h2 | h2
  ·exact h1.1 h2
  ·exact h1.2 h2
 ·rcases Z8y hi hk with h1 | h1
  ·exact .inl h1
  ·rcases hn k h1 with h2 | h2
   ·exact .inl (Z3m hi h2)
   ·exact .inr h2
theorem Elem.set {h:HS} {lr:Lab} {i n:Nat} {x B:List C} (e:Elem h lr i n x B) {g:Nat} {vs:List C} (hx:x.length=n) (hg:g+vs.length≤n):Elem (h.setBox lr (Z03 B (i * n+g) vs)) lr i n (Z03 x g vs) (Z03 B (i * n+g) vs):=by
 have hle:=e.le;have h0:=e.rd0 n (Nat.le_refl _);have ht:takeN n x=some x:=by simp[takeN,hx,List.take_of_length_le]
 rw[ht] at h0;obtain⟨h1,h2⟩:=Z7u h0;have hB:B=B.take (i * n)++(x++B.drop (i * n+n)):=by
  have e3:=List.take_append_drop n (B.drop (i * n));rw[← h2,List.drop_drop] at e3;rw[e3,List.take_append_drop]
 have hA:(B.take (i * n)).length=i * n:=by simp;omega
 have key:Z03 B (i * n+g) vs=B.take (i * n)++(Z03 x g vs++B.drop (i * n+n)):=by
  rw[show Z03 B (i * n+g) vs=Z03 (B.take (i * n)++(x++B.drop (i * n+n))) (i * n+g) vs from congrArg (fun z=>Z03 z (i * n+g) vs) hB];generalize B.take (i * n)=A at hA ⊢;generalize B.drop (i * n+n)=Z;rw[← hA];simp only[Z03];rw[List.take_length_add_append,Nat.add_assoc,List.drop_length_add_append,List.take_append_of_le_length (by omega),List.drop_append_of_le_length (by omega)];simp
 have hsl:(Z03 x g vs).length=n:=by rw[Z06 (by omega)];exact hx
 have rd:∀ g' m,g'+m≤n→takeN m ((Z03 B (i * n+g) vs).drop (i * n+g'))=takeN m ((Z03 x g vs).drop g'):=fun g' m hm=>by
  rw[key];generalize B.take (i * n)=A at hA ⊢;rw[← hA,List.drop_length_add_append,List.drop_append_of_le_length (by omega)];simp only[takeN]
  have:m≤((Z03 x g vs).drop g').length:=by simp;omega
  rw[if_pos (by simp at this ⊢;omega),if_pos this,List.take_append_of_le_length this]
 refine⟨by simp,rd,fun m hm=>?_,?_⟩
 ·have:=rd 0 m (by omega)
  simpa using this
 ·rw[Z06 (by omega)];exact hle
theorem Elem.uniq {h:HS} {lr:Lab} {i n:Nat} {x y B B':List C} (e:Elem h lr i n x B) (e':Elem h lr i n y B') (hx:x.length=n) (hy:y.length=n):x=y∧B=B':=by
 have h1:=e.box;rw[e'.box] at h1;cases h1;have h2:=e.rd0 n (Nat.le_refl _);rw[e'.rd0 n (Nat.le_refl _)] at h2;have tx:takeN n x=some x:=by simp[takeN,hx,List.take_of_length_le]
 have ty:takeN n y=some y:=by simp[takeN,hy,List.take_of_length_le]
 rw[tx,ty] at h2;exact⟨(Option.some.inj h2).symm,rfl⟩
theorem Elem.frame {h h':HS} {lr:Lab} {i n:Nat} {x B:List C} (e:Elem h lr i n x B) (hb:h'.box lr=h.box lr):Elem h' lr i n x B:=⟨by rw[hb];exact e.box,e.rd,e.rd0,e.le⟩
structure TblV (h:HS) (l:Lab) (S:Sch) (tc fc oc:C) (ta fa oa:List Lab) (i:Nat) (T:Tbl) (lt:Lab) (c1 c2:C) (B:List C):Prop where
 el:Elem h lt i 3 [.d (.str T.name),c1,c2] B
 hd:∃ cap,tc=.mrow lt 0 S.tables.length cap
 tm:lt ∈ ta
 f1:∀ h',Same h h' []→Frz h' c1 (.sl (T.cols.map Col.enc))
 f2:∀ h',Same h h' []→Frz h' c2 (.sl (T.pk.map encI))
 n1:cLen c1=some T.cols.length∧T.cols.length≤LIM
 n2:cLen c2=some T.pk.length∧T.pk.length≤LIM
 l1:∀ k ∈ labs c1,k ∈ ta∧k≠lt
 l2:∀ k ∈ labs c2,k ∈ ta∧k≠lt
 l12:∀ k ∈ labs c1,k ∉ labs c2
 m1:T.cols≠[]→MR h 3 c1 (T.cols.map fun c=>c.enc.map C.d)
 m2:T.pk≠[]→MR h 1 c2 (T.pk.map fun c=>(encI c).map C.d)
 e1:∀ (k:Nat) (c:Col),T.cols[k]?=some c→∃ l2 cap2 B2,c1=.mrow l2 0 T.cols.length cap2∧Elem h l2 k 3 (c.enc.map C.d) B2 ∧
  ∀ (g:Nat) (vs:List C) (c':Col),g+vs.length≤3→Z03 (c.enc.map C.d) g vs=c'.enc.map C.d→Sc (h.setBox l2 (Z03 B2 (k * 3+g) vs)) l { S with tables:=S.tables.set i { T with cols:=T.cols.set k c' } } tc fc oc ta fa oa
 e2:∀ (k:Nat) (v:Int),T.pk[k]?=some v→∃ l2 cap2 B2,c2=.mrow l2 0 T.pk.length cap2∧Elem h l2 k 1 [.d (.int .i64 v)] B2 ∧
  ∀ v',Sc (h.setBox l2 (Z03 B2 (k * 1) [.d (.int .i64 v')])) l { S with tables:=S.tables.set i { T with pk:=T.pk.set k v' } } tc fc oc ta fa oa
 s1:∀ (h':HS) (c1':C) (cols':List Col),MR h' 3 c1' (cols'.map fun c=>c.enc.map C.d)→Same h h' (labs c1)→(∀ k ∈ labs c1',k ∈ labs c1∨(k ∉ l::(ta++(fa++oa))∧k.1 < h'.ep)) →
  ∃ ta',Sc (h'.setBox lt (Z03 B (i * 3+1) [c1'])) l { S with tables:=S.tables.set i { T with cols:=cols' } } tc fc oc ta' fa oa∧∀ k ∈ ta',k ∈ ta∨k ∈ labs c1'
 s2:∀ (h':HS) (c2':C) (pk':List Int),MR h' 1 c2' (pk'.map fun c=>(encI c).map C.d)→Same h h' (labs c2)→(∀ k ∈ labs c2',k ∈ labs c2∨(k ∉ l::(ta++(fa++oa))∧k.1 < h'.ep)) →
  ∃ ta',Sc (h'.setBox lt (Z03 B (i * 3+2) [c2'])) l { S with tables:=S.tables.set i { T with pk:=pk' } } tc fc oc ta' fa oa∧∀ k ∈ ta',k ∈ ta∨k ∈ labs c2'
theorem Z55 {α:Type} {f:α→List D} {xs:List α}:(xs.map fun c=>(f c).map C.d)=(xs.map f).map (·.map C.d):=by simp
theorem Part.data {h:HS} {n:Nat} {sh:List Sh} {c:C} {qs:List Q} {ds:List (List D)} (P:Part h sh c qs ds) (hsh:sh=List.replicate n .d) (hf:∀ d ∈ ds,∀ x ∈ d,x.flat=true):MR h n c (ds.map (·.map C.d))∧plabs c qs=labs c:=by
 have hd:=P.ds;subst hd;have key:∀ q ∈ qs,q.1=q.2.1.map C.d∧q.2.2=[]:=fun q hq=>(P.ow q hq).flat hsh (hf q.2.1 (List.mem_map.2 ⟨q,hq,rfl⟩));have e:qs.map (·.1)=(qs.map (·.2.1)).map (·.map C.d):=by
  rw[List.map_map];exact List.map_congr_left fun q hq=>(key q hq).1
 have hn:sh.length=n:=by rw[hsh];simp
 refine⟨by rw[← e,← hn];exact P.mr,?_⟩
 have:qs.flatMap (·.2.2)=[]:=by
  rw[List.flatMap_eq_nil_iff];exact fun q hq=>(key q hq).2
 rw[plabs,this,List.append_nil]
set_option maxHeartbeats 1000000 in
theorem Sc.tbl {h:HS} {l:Lab} {S:Sch} {tc fc oc:C} {ta fa oa:List Lab} (s:Sc h l S tc fc oc ta fa oa) {i:Nat} {T:Tbl} (hi:S.tables[i]?=some T):∃ lt c1 c2 B,TblV h l S tc fc oc ta fa oa i T lt c1 c2 B:=by
 obtain⟨qt,qf,qo,rfl,rfl,rfl,s⟩:=s;have hnd:=s.nds.1;have hlt:∀ k ∈ plabs tc qt,k.1 < h.ep:=fun k hk=>s.lt k (by simp[hk]);obtain⟨q,lt,cap,sp,h1,h2,h3,h4,h5,h6⟩:=s.t.elem (Z60 (f:=Tbl.enc) hi);have hm:lt ∈ plabs tc qt:=by rw[h4];simp[plabs,labs]
 rw[Ze2] at h5 h6;obtain⟨qc,qd,ql⟩:=q;simp only at h2 h3 h6;subst h2;obtain⟨c0,x0,cs,ds,rfl,e1,e2,h7⟩:=h3.inv_d;simp only[Tbl.enc,List.cons.injEq] at e1;obtain⟨rfl,rfl⟩:=e1;obtain rfl:=(Frz.data (h:=h) e2).flat rfl;obtain⟨c1,cs1,lc,lr,rfl,rfl,o1,h8⟩:=h7.split;obtain⟨c2,cs2,lp,lz,rfl,rfl,o2,h9⟩:=h8.split;obtain⟨rfl,_,rfl⟩:=h9.inv_nil;have hndq:=Zf8 hnd h1;simp only[List.append_nil,List.nodup_append] at hndq;obtain⟨nd1,nd2,nd12⟩:=hndq;have hself:∀ k,k ∈ lc∨k ∈ lp→k ∈ plabs tc qt∧k≠lt:=fun k hk=>⟨Z3m h1 (by simpa using hk),fun he=>Z4j hnd h1 (k:=k) (by simpa using hk) (by rw[he,h4];simp[labs])⟩;have hset0:(qt.map (·.1)).set i [C.d (.str T.name),c1,c2]=qt.map (·.1):=Zcp (Z60 (f:=fun q:Q=>q.1) h1);have f1':∀ h',(∀ k ∈ lc,h'.box k=h.box k)→Ow h' [.r [.d,.d,.d]] [c1] [.sl (T.cols.map Col.enc)] lc:=fun h' hb=>o1.frame hb;have f2':∀ h',(∀ k ∈ lp,h'.box k=h.box k)→Ow h' [.r [.d]] [c2] [.sl (T.pk.map encI)] lp:=fun h' hb=>o2.frame hb;have mk:∀ {h':HS} {c1' c2':C} {T':Tbl} {a b:List Lab},T'.name=T.name→Ow h' [.r [.d,.d,.d]] [c1'] [.sl (T'.cols.map Col.enc)] a→Ow h' [.r [.d]] [c2'] [.sl (T'.pk.map encI)] b→Ow h' TblSh [.d (.str T.name),c1',c2'] T'.enc (a++b):=fun hn x y=>by
  have:=Ow.data (c:=.d (.str T.name)) (x:=.str T.name) rfl (x.join (y.join .nil))
  rw[List.append_nil] at this;rw[Tbl.enc,hn];exact this
 have nw:∀ {l2:Lab} {B2:List C},l2 ∈ lc∨l2 ∈ lp→Same h (h.setBox l2 B2) (labs tc++(lc++(lp++[]))):=fun hl=>Same.set1 (by simpa using .inr hl);have mrk:∀ {h':HS},(∀ k,h'.box lt=h.box lt)→MR h' 3 tc ((qt.map (·.1)).set i [C.d (.str T.name),c1,c2]):=fun hb=>by
  rw[hset0];exact s.t.mr.frame fun k hk=>by
   rw[h4] at hk;simp[labs] at hk;rw[hk];exact hb lt
 have p1:T.cols≠[]→∃ qs1,lc=plabs c1 qs1∧Part h [.d,.d,.d] c1 qs1 (T.cols.map Col.enc):=fun h0=>o1.npart (by simpa using h0);have p2:T.pk≠[]→∃ qs2,lp=plabs c2 qs2∧Part h [.d] c2 qs2 (T.pk.map encI):=fun h0=>o2.npart (by simpa using h0);have n1:=o1.nlen;have n2:=o2.nlen;refine⟨lt,c1,c2,_,h6,⟨cap,by simpa using h4⟩,hm,fun h' hs=>(f1' h' fun k hk=>hs.2 k (hlt k (hself k (.inl hk)).1) (by simp)).nfrz,fun h' hs=>(f2' h' fun k hk=>hs.2 k (hlt k (hself k (.inr hk)).1) (by simp)).nfrz,by simpa using n1,by simpa using n2,
  fun k hk=>⟨(hself k (.inl (o1.nlabs k hk))).1,(hself k (.inl (o1.nlabs k hk))).2⟩,fun k hk=>⟨(hself k (.inr (o2.nlabs k hk))).1,(hself k (.inr (o2.nlabs k hk))).2⟩,fun k hk hk2=>nd12 k (o1.nlabs k hk) k (o2.nlabs k hk2) rfl,fun h0=>?_,fun h0=>?_,fun k c hk=>?_,fun k v hk=>?_,fun h' c1' cols' hm1 hs1 hl1=>?_,fun h' c2' pk' hm2 hs2 hl2=>?_⟩
 ·obtain⟨qs1,_,P1⟩:=p1 h0;rw[Z55];exact (P1.data (n:=3) rfl (by simp[D.flat])).1
 ·obtain⟨qs2,_,P2⟩:=p2 h0;rw[Z55];exact (P2.data (n:=1) rfl (by simp[D.flat])).1
 ·obtain⟨qs1,rfl,P1⟩:=p1 (fun h0=>by rw[h0] at hk;simp at hk);obtain⟨l2,cap2,B2,k1,k2,k3,k4⟩:=P1.elemD (n:=3) rfl (Z60 (f:=Col.enc) hk) c.flat;have hl2:l2 ∈ plabs c1 qs1:=by rw[k1];simp[plabs,labs]
  refine⟨l2,cap2,B2,by simpa using k1,k2,fun g vs c' hg hset=>?_⟩;obtain⟨qs1',k5,k6⟩:=k4 g vs c'.enc nd1 hg hset rfl;have ho:=mk (h':=h.setBox l2 (Z03 B2 (k * 3+g) vs)) (T':={ T with cols:=T.cols.set k c' }) rfl (by rw[Z87];exact k5 ▸ Ow.of_part k6) (f2' _ fun k' hk'=>by
   have:k'≠l2:=fun he=>nd12 l2 hl2 k' hk' he.symm
   simp[this])
  have:=s.updT h1 (mrk fun _=>by have:=(hself l2 (.inl hl2)).2;simp[this.symm]) ho (nw (.inl hl2)) (by rw[List.nodup_append];exact⟨nd1,nd2,nd12⟩) (fun k hk=>.inl (by simpa using hk))
  exact⟨_,qf,qo,(Z72 h1 (by simp)).symm,rfl,rfl,this⟩
 ·obtain⟨qs1,rfl,P1⟩:=p2 (fun h0=>by rw[h0] at hk;simp at hk);obtain⟨l2,cap2,B2,k1,k2,k3,k4⟩:=P1.elemD (n:=1) rfl (Z60 (f:=encI) hk) (Zdt v);have hl2:l2 ∈ plabs c2 qs1:=by rw[k1];simp[plabs,labs]
  refine⟨l2,cap2,B2,by simpa using k1,k2,fun v'=>?_⟩;obtain⟨qs1',k5,k6⟩:=k4 0 [.d (.int .i64 v')] [.int .i64 v'] nd2 (by simp) (by simp) (by simp);simp only[Nat.add_zero] at k6;have ho:=mk (h':=h.setBox l2 (Z03 B2 (k * 1) [.d (.int .i64 v')])) (T':={ T with pk:=T.pk.set k v' }) rfl (f1' _ fun k' hk'=>by
   have:k'≠l2:=fun he=>nd12 k' hk' l2 hl2 he
   simp[this]) (by rw[Z87];exact k5 ▸ Ow.of_part k6)
  have:=s.updT h1 (mrk fun _=>by have:=(hself l2 (.inr hl2)).2;simp[this.symm]) ho (nw (.inr hl2)) (by rw[List.nodup_append];exact⟨nd1,nd2,nd12⟩) (fun k hk=>.inl (by simpa using hk))
  exact⟨_,qf,qo,(Z72 h1 (by simp)).symm,rfl,rfl,this⟩
 ·have hlt2:h'.box lt=h.box lt:=hs1.2 lt (hlt lt hm) fun hk=>(hself lt (.inl (o1.nlabs lt hk))).2 rfl;have hn1:∀ k ∈ labs c1',k≠lt∧k ∉ lp∧(k ∈ lc∨(k ∉ l::(plabs tc qt++(plabs fc qf++plabs oc qo))∧k.1 < h'.ep)):=fun k hk=>by
   rcases hl1 k hk with h2 | h2
   ·have:=o1.nlabs k h2
    exact⟨(hself k (.inl this)).2,fun h3=>nd12 k this k h3 rfl,.inl this⟩
   ·exact⟨fun he=>h2.1 (by simp[he,hm]),fun h3=>h2.1 (by simp[(hself k (.inr h3)).1]),.inr h2⟩
  have ho:=mk (h':=h'.setBox lt (Z03 (rowBox (qt.map (·.1)) sp) (i * 3+1) [c1'])) (c2':=c2) (T':={ T with cols:=cols' }) rfl (Ow.nrow (n:=3) (by
    rw[← Z55];exact hm1.frame fun k hk=>by simp[(hn1 k hk).1]) rfl (by simp)) (f2' _ fun k' hk'=>by
   have h2:=hself k' (.inr hk')
   have:h'.box k'=h.box k':=hs1.2 k' (hlt k' h2.1) fun h3=>nd12 k' (o1.nlabs k' h3) k' hk' rfl
   simp[h2.2,this])
  have hset:=Z71 (sp:=sp) (vs:=[c1']) (f:=1) s.t.mr.1 (Z60 (f:=fun q:Q=>q.1) h1) (by simp[TblSh]);simp only[Ze2] at hset
  have:=s.updT (T':={ T with cols:=cols' }) h1 (h':=h'.setBox lt (Z03 (rowBox (qt.map (·.1)) sp) (i * 3+1) [c1'])) (cs':=[.d (.str T.name),c1',c2]) (lq':=labs c1'++lp) ?_ ho ?_ ?_ ?_
  ·refine⟨_,⟨_,qf,qo,rfl,rfl,rfl,this⟩,fun k hk=>?_⟩;rcases Z8y h1 hk with h2 | h2
   ·exact .inl h2
   ·simp only[List.mem_append] at h2;rcases h2 with h2 | h2
    ·exact .inr h2
    ·exact .inl (hself k (.inr h2)).1
  ·refine⟨s.t.mr.1.set (by simp[TblSh]),by simpa using s.t.mr.2.1,.inr ⟨lt,cap,sp,?_,by simp[hset],?_⟩⟩
   ·have e3:qt.length=S.tables.length:=by have:=congrArg List.length s.t.ds;simpa using this
    rw[h4];simp[e3]
   ·have e4:rowBox ((qt.map (·.1)).set i [.d (.str T.name),c1',c2]) sp=Z03 (rowBox (qt.map (·.1)) sp) (i * 3+1) [c1']:=by rw[hset];simp
    rw[e4,Z06 (by have:=h6.le;simp;omega)];exact h5
  ·exact (hs1.mono fun k hk=>by simp[o1.nlabs k hk]).setBox (.inl (by rw[h4];simp[labs]))
  ·rw[List.nodup_append];exact⟨Z1r,nd2,fun a ha b hb he=>(hn1 a ha).2.1 (he ▸ hb)⟩
  ·intro k hk;rcases List.mem_append.1 hk with h2 | h2
   ·exact (hn1 k h2).2.2.imp (fun h3=>by simp[h3]) id
   ·exact .inl (by simp[h2])
 ·have hlt2:h'.box lt=h.box lt:=hs2.2 lt (hlt lt hm) fun hk=>(hself lt (.inr (o2.nlabs lt hk))).2 rfl;have hn1:∀ k ∈ labs c2',k≠lt∧k ∉ lc∧(k ∈ lp∨(k ∉ l::(plabs tc qt++(plabs fc qf++plabs oc qo))∧k.1 < h'.ep)):=fun k hk=>by
   rcases hl2 k hk with h2 | h2
   ·have:=o2.nlabs k h2
    exact⟨(hself k (.inr this)).2,fun h3=>nd12 k h3 k this rfl,.inl this⟩
   ·exact⟨fun he=>h2.1 (by simp[he,hm]),fun h3=>h2.1 (by simp[(hself k (.inl h3)).1]),.inr h2⟩
  have ho:=mk (h':=h'.setBox lt (Z03 (rowBox (qt.map (·.1)) sp) (i * 3+2) [c2'])) (c1':=c1) (T':={ T with pk:=pk' }) rfl (f1' _ fun k' hk'=>by
   have h2:=hself k' (.inl hk')
   have:h'.box k'=h.box k':=hs2.2 k' (hlt k' h2.1) fun h3=>nd12 k' hk' k' (o2.nlabs k' h3) rfl
   simp[h2.2,this]) (Ow.nrow (n:=1) (by
    rw[← Z55];exact hm2.frame fun k hk=>by simp[(hn1 k hk).1]) rfl (by simp))
  have hset:=Z71 (sp:=sp) (vs:=[c2']) (f:=2) s.t.mr.1 (Z60 (f:=fun q:Q=>q.1) h1) (by simp[TblSh]);simp only[Ze2] at hset
  have:=s.updT (T':={ T with pk:=pk' }) h1 (h':=h'.setBox lt (Z03 (rowBox (qt.map (·.1)) sp) (i * 3+2) [c2'])) (cs':=[.d (.str T.name),c1,c2']) (lq':=lc++labs c2') ?_ ho ?_ ?_ ?_
  ·refine⟨_,⟨_,qf,qo,rfl,rfl,rfl,this⟩,fun k hk=>?_⟩;rcases Z8y h1 hk with h2 | h2
   ·exact .inl h2
   ·simp only[List.mem_append] at h2;rcases h2 with h2 | h2
    ·exact .inl (hself k (.inl h2)).1
    ·exact .inr h2
  ·refine⟨s.t.mr.1.set (by simp[TblSh]),by simpa using s.t.mr.2.1,.inr ⟨lt,cap,sp,?_,by simp[hset],?_⟩⟩
   ·have e3:qt.length=S.tables.length:=by have:=congrArg List.length s.t.ds;simpa using this
    rw[h4];simp[e3]
   ·have e4:rowBox ((qt.map (·.1)).set i [.d (.str T.name),c1,c2']) sp=Z03 (rowBox (qt.map (·.1)) sp) (i * 3+2) [c2']:=by rw[hset];simp
    rw[e4,Z06 (by have:=h6.le;simp;omega)];exact h5
  ·exact (hs2.mono fun k hk=>by simp[o2.nlabs k hk]).setBox (.inl (by rw[h4];simp[labs]))
  ·rw[List.nodup_append];exact⟨nd1,Z1r,fun a ha b hb he=>(hn1 b hb).2.1 (he ▸ ha)⟩
  ·intro k hk;rcases List.mem_append.1 hk with h2 | h2
   ·exact .inl (by simp[h2])
   ·exact (hn1 k h2).2.2.imp (fun h3=>by simp[h3]) id
theorem Sc.tblK {h:HS} {l:Lab} {S:Sch} {fc oc:C} {ta fa oa:List Lab} {lr:Lab} {n cap i:Nat} {B:List C} {T:Tbl} (s:Sc h l S (.mrow lr 0 n cap) fc oc ta fa oa) (hb:h.box lr=some B) (hi:S.tables[i]?=some T):∃ c1 c2,TblV h l S (.mrow lr 0 n cap) fc oc ta fa oa i T lr c1 c2 B:=by
 obtain⟨lt,c1,c2,B2,v⟩:=s.tbl hi;obtain⟨cap2,e⟩:=v.hd;simp at e;obtain⟨rfl,-,-⟩:=e;have e2:=v.el.box;rw[hb] at e2;cases e2;exact⟨c1,c2,v⟩
end Go.Proofs.YthiojhcimecdgaaGreatDoor
end
section
namespace Go.Am
open Go
theorem AllC.app {n:Nat} {xs ys:List (List C)} (h1:AllC n xs) (h2:AllC n ys):AllC n (xs++ys):=AllC.append.2 ⟨h1,h2⟩
theorem app_mr {P:Program} {ty el:TypeId} {n by_ d:Nat} {h:HS} {c x:C} {xs ys:List (List C)} {K:V→HS→Prop} (hel:elT P ty=some (el,n,by_)) (hz:(zeT P el).isSome=true) (h0:0 < n) (hb:by_≤4096) (hm:MR h n c xs) (hr:RowAt h n x ys) (hl:xs.length+ys.length≤LIM)
  (hk:∀ c' h',MR h' n c' (xs++ys)→Same h h' (labs c)→(∀ k ∈ labs c',k ∈ labs c∨(h.ep≤k.1∧k.1 < h'.ep))→K (.one c') h'):appK P ty c x d h (K:=⟨K⟩):=by
 obtain⟨hc,hln,ha,_⟩:=hr;have hal:=hm.1;have key:∀ cap',(xs++ys).length≤cap'→∀ h',h'.box (h.ep,16 * d)=some (rowBox (xs++ys) (List.replicate ((cap' - (xs++ys).length) * n) .any))→MR h' n (.mrow (h.ep,16 * d) 0 (xs++ys).length cap') (xs++ys):=fun cap' hcap h' hbx=>by
  refine⟨hal.app ha,by simpa using hl,.inr ⟨_,cap',_,rfl,hbx,?_⟩⟩;rw[Z04 (hal.app ha),List.length_replicate,← Nat.add_mul]
  congr 1
  omega
 rcases hm.2.2 with ⟨rfl,hcz⟩ | ⟨l,cap,sp,rfl,hbx,hcap⟩
 ·have hh:appHdr h n c=some (0,0,[],none):=by rcases hcz with rfl | rfl<;>rfl
  refine Z58 hel hh hc hln hz h0 hb (by simpa using hl) ha.flatten (by simp) (fun h1=>?_) (fun h1 h2=>by omega) (fun h1 h2 cap' hcap=>?_)
  ·have:ys=[]:=List.eq_nil_of_length_eq_zero h1
   subst this;exact hk _ _ (by simpa using hm) .refl (fun k hk=>.inl hk)
  ·simp only[Nat.zero_add] at hcap ⊢;refine hk _ _ (key cap' (by simpa using hcap) _ ?_) ((Same.refl.setBox (.inr (Nat.le_refl _))).next) (by simp[labs]);simp[rowBox]
 ·have hrc:=Z4g (n:=n) (off:=0) (k:=xs.length) (cap:=cap) hal hbx (by simp);have hh:appHdr h n (.mrow l 0 xs.length cap)=some (xs.length,cap,xs.flatten,some (l,0)):=by
   simp only[Nat.zero_mul,List.drop_zero,List.take_length] at hrc;show (match Z0k h n (.mrow l 0 xs.length cap) with | some cs=>_ | none=>_)=_;rw[hrc]
  refine Z58 hel hh hc hln hz h0 hb hl ha.flatten hal.flatten (fun h1=>?_) (fun h1 h2 l' off he=>?_) (fun h1 h2 cap' hcap'=>?_)
  ·have:ys=[]:=List.eq_nil_of_length_eq_zero h1
   subst this;exact hk _ _ (by simpa using hm) .refl (fun k hk=>.inl hk)
  ·simp only[Option.some.injEq,Prod.mk.injEq] at he;obtain⟨rfl,rfl⟩:=he;have hle:(xs.length+ys.length) * n≤cap * n:=Nat.mul_le_mul_right n h2;refine⟨_,hbx,by rw[hcap];omega,?_⟩;have hput:=Zbm (sp:=sp) (i:=xs.length) hal ha (Nat.le_refl _);rw[List.take_length] at hput;rw[Nat.zero_add,hput];refine hk _ _ ⟨hal.app ha,by simpa using hl,.inr ⟨l,cap,(rowBox xs sp).drop ((xs.length+ys.length) * n),by simp,by simp,?_⟩⟩ (Same.refl.setBox (.inl (by simp[labs]))) (fun k hk=>.inl hk);rw[Z04 (hal.app ha),List.length_drop,hcap,List.length_append];omega
  ·have hk2:=key cap' (by simpa using hcap') (((h.setBox (h.ep,16 * d) (xs.flatten++ys.flatten++List.replicate ((cap' - (xs.length+ys.length)) * n) .any)).next)) (by simp[rowBox]);rw[List.length_append] at hk2;refine hk _ _ hk2 ((Same.refl.setBox (.inr (Nat.le_refl _))).next) (by simp[labs])
theorem Zhy {P:Program} {ty el:TypeId} {n by_ d:Nat} {h:HS} {c x:C} {xs ys:List (List C)} {K:V→HS→Prop} (hel:elT P ty=some (el,n,by_)) (hz:(zeT P el).isSome=true) (h0:0 < n) (hb:by_≤4096) (hm:MR h n c xs) (hr:RowAt h n x ys) (hl:xs.length+ys.length≤LIM)
  (hk:∀ c' h',MR h' n c' (xs++ys)→((Same h h' (labs c)∧labs c'=labs c)∨(Same h h' []∧∀ k ∈ labs c',h.ep≤k.1∧k.1 < h'.ep))→K (.one c') h'):appK P ty c x d h (K:=⟨K⟩):=by
 obtain⟨hc,hln,ha,_⟩:=hr;have hal:=hm.1;have key:∀ cap',(xs++ys).length≤cap'→∀ h',h'.box (h.ep,16 * d)=some (rowBox (xs++ys) (List.replicate ((cap' - (xs++ys).length) * n) .any))→MR h' n (.mrow (h.ep,16 * d) 0 (xs++ys).length cap') (xs++ys):=fun cap' hcap h' hbx=>by
  refine⟨hal.app ha,by simpa using hl,.inr ⟨_,cap',_,rfl,hbx,?_⟩⟩;rw[Z04 (hal.app ha),List.length_replicate,← Nat.add_mul]
  congr 1
  omega
 rcases hm.2.2 with ⟨rfl,hcz⟩ | ⟨l,cap,sp,rfl,hbx,hcap⟩
 ·have hh:appHdr h n c=some (0,0,[],none):=by rcases hcz with rfl | rfl<;>rfl
  refine Z58 hel hh hc hln hz h0 hb (by simpa using hl) ha.flatten (by simp) (fun h1=>?_) (fun h1 h2=>by omega) (fun h1 h2 cap' hcap=>?_)
  ·have:ys=[]:=List.eq_nil_of_length_eq_zero h1
   subst this;exact hk _ _ (by simpa using hm) (.inl ⟨.refl,rfl⟩)
  ·simp only[Nat.zero_add] at hcap ⊢;refine hk _ _ (key cap' (by simpa using hcap) _ ?_) (.inr ⟨(Same.refl.setBox (.inr (Nat.le_refl _))).next,by simp[labs]⟩);simp[rowBox]
 ·have hrc:=Z4g (n:=n) (off:=0) (k:=xs.length) (cap:=cap) hal hbx (by simp);have hh:appHdr h n (.mrow l 0 xs.length cap)=some (xs.length,cap,xs.flatten,some (l,0)):=by
   simp only[Nat.zero_mul,List.drop_zero,List.take_length] at hrc;show (match Z0k h n (.mrow l 0 xs.length cap) with | some cs=>_ | none=>_)=_;rw[hrc]
  refine Z58 hel hh hc hln hz h0 hb hl ha.flatten hal.flatten (fun h1=>?_) (fun h1 h2 l' off he=>?_) (fun h1 h2 cap' hcap'=>?_)
  ·have:ys=[]:=List.eq_nil_of_length_eq_zero h1
   subst this;exact hk _ _ (by simpa using hm) (.inl ⟨.refl,rfl⟩)
  ·simp only[Option.some.injEq,Prod.mk.injEq] at he;obtain⟨rfl,rfl⟩:=he;have hle:(xs.length+ys.length) * n≤cap * n:=Nat.mul_le_mul_right n h2;refine⟨_,hbx,by rw[hcap];omega,?_⟩;have hput:=Zbm (sp:=sp) (i:=xs.length) hal ha (Nat.le_refl _);rw[List.take_length] at hput;rw[Nat.zero_add,hput];refine hk _ _ ⟨hal.app ha,by simpa using hl,.inr ⟨l,cap,(rowBox xs sp).drop ((xs.length+ys.length) * n),by simp,by simp,?_⟩⟩ (.inl ⟨Same.refl.setBox (.inl (by simp[labs])),rfl⟩);rw[Z04 (hal.app ha),List.length_drop,hcap,List.length_append];omega
  ·have hk2:=key cap' (by simpa using hcap') (((h.setBox (h.ep,16 * d) (xs.flatten++ys.flatten++List.replicate ((cap' - (xs.length+ys.length)) * n) .any)).next)) (by simp[rowBox]);rw[List.length_append] at hk2;refine hk _ _ hk2 (.inr ⟨(Same.refl.setBox (.inr (Nat.le_refl _))).next,by simp[labs]⟩)
end Go.Am
namespace Go.Proofs.YthiojhcimecdgaaGreatDoor
open Go Go.Am
theorem Zdd {α:Type} (lt:α→α→Bool):∀ (k i:Nat) (ws:List α),(outerS lt k i ws).Perm ws
 | 0,_,ws=>.refl _
 | k+1,i,ws=>(Zdd lt k (i+1) _).trans (Zdk lt i ws)
theorem Zeq {α β:Type} {lt:α→α→Bool} {lt':β→β→Bool} {f:α→β} (hl:∀ x y,lt' (f x) (f y)=lt x y):∀ (j:Nat) (ws:List α),innerS lt' j (ws.map f)=(innerS lt j ws).map f
 | 0,ws=>rfl
 | j+1,ws=>by
   unfold innerS;rw[List.getElem?_map,List.getElem?_map];cases h1:ws[j+1]? with
   | none=>rfl
   | some x=>
     cases h2:ws[j]? with
     | none=>rfl
     | some y=>
       simp only[Option.map_some,hl];cases lt x y with
       | false=>rfl
       | true=>
         simp only[if_true];rw[← Zeq hl j,List.map_set,List.map_set]
theorem Z9g {α β:Type} {lt:α→α→Bool} {lt':β→β→Bool} {f:α→β} (hl:∀ x y,lt' (f x) (f y)=lt x y):∀ (k i:Nat) (ws:List α),outerS lt' k i (ws.map f)=(outerS lt k i ws).map f
 | 0,_,ws=>rfl
 | k+1,i,ws=>by
   simp only[outerS];rw[Zeq hl,Z9g hl k]
end Go.Proofs.YthiojhcimecdgaaGreatDoor
end
section
namespace Go.Proofs.YthiojhcimecdgaaGreatDoor
open Go Go.Am
theorem Part.add {h h':HS} {sh:List Sh} {c c':C} {qs:List Q} {ds:List (List D)} {x:List C} {d:List D} {lx:List Lab} (P:Part h sh c qs ds) (hnd:(plabs c qs).Nodup) (hlt:∀ k ∈ plabs c qs,k.1 < h.ep) (hm:MR h' sh.length c' (qs.map (·.1)++[x])) (hs:Same h h' (labs c)) (ho:Ow h' sh x d lx) :
  Part h' sh c' (qs++[(x,d,lx)]) (ds++[d]):=by
 have hd:=P.ds;subst hd;refine⟨by simpa using hm,by simp,fun q hq=>?_⟩;rcases List.mem_append.1 hq with hq | hq
 ·refine (P.ow q hq).frame fun k hk=>?_;obtain⟨i,hi⟩:=List.getElem?_of_mem hq;exact hs.2 k (hlt k (Z3m hi hk)) (Z4j hnd hi hk)
 ·simp at hq;subst hq;exact ho
theorem Zb1 {c c':C} {qs:List Q} {x:List C} {d:List D} {lx:List Lab} {ep:Nat} (hnd:(plabs c qs).Nodup) (hlt:∀ k ∈ plabs c qs,k.1 < ep) (hc:∀ k ∈ labs c',k ∈ labs c∨ep≤k.1) (hx:lx.Nodup) (hx2:∀ k ∈ lx,k ∉ plabs c qs∧k ∉ labs c'):(plabs c' (qs++[(x,d,lx)])).Nodup:=by
 simp only[plabs,List.flatMap_append,List.flatMap_cons,List.flatMap_nil,List.append_nil,List.nodup_append,List.mem_append] at hnd hlt hx2 ⊢;refine⟨Z1r,⟨hnd.2.1,hx,fun a ha b hb he=>(hx2 b hb).1 (.inr (he ▸ ha))⟩,fun a ha b hb he=>?_⟩;subst he;rcases hb with hb | hb
 ·rcases hc a ha with h1 | h1
  ·exact hnd.2.2 a h1 a hb rfl
  ·have:=hlt a (.inr hb);omega
 ·exact (hx2 a hb).2 ha
theorem Z2m {c':C} {qs:List Q} {x:List C} {d:List D} {lx:List Lab} {k:Lab} (hk:k ∈ plabs c' (qs++[(x,d,lx)])):k ∈ labs c'∨k ∈ qs.flatMap (·.2.2)∨k ∈ lx:=by
 simpa[plabs] using hk
def Adds (h:HS) (n:Nat) (c:C) (len:Nat) (sh:List Sh) (own:List Lab) (R:HS→C→List D→List Lab→Prop):Prop:=∃ xs,MR h n c xs∧xs.length=len ∧
 ∀ (h':HS) (c':C) (x:List C) (d:List D) (lx:List Lab),MR h' n c' (xs++[x])→Same h h' (labs c)→(∀ k ∈ labs c',k ∈ labs c∨(h.ep≤k.1∧k.1 < h'.ep))→Ow h' sh x d lx→lx.Nodup→(∀ k ∈ lx,k.1 < h'.ep∧k ∉ own∧k ∉ labs c')→R h' c' d lx
theorem Sc.addT {h:HS} {l:Lab} {S:Sch} {tc fc oc:C} {ta fa oa:List Lab} (s:Sc h l S tc fc oc ta fa oa):Adds h 3 tc S.tables.length TblSh (l::(ta++(fa++oa))) fun h' c' d lx=>∀ T,d=Tbl.enc T →
  ∃ ta',Sc (h'.setBox l [c',fc,oc]) l { S with tables:=S.tables++[T] } c' fc oc ta' fa oa∧∀ k ∈ ta',k ∈ ta∨k ∈ lx∨h.ep≤k.1:=by
 obtain⟨qt,qf,qo,rfl,rfl,rfl,s⟩:=s;have hlen:qt.length=S.tables.length:=by have:=congrArg List.length s.t.ds;simpa using this
 have hlt:∀ k ∈ plabs tc qt,k.1 < h.ep:=fun k hk=>s.lt k (by simp[hk]);refine⟨qt.map (fun q:Q=>q.1),s.t.mr,by simpa using hlen,fun h' c' x d lx hm hs hl ho hx hx2 T hd=>?_⟩;subst hd;have hp:=s.t.add s.nds.1 hlt hm hs ho;have hnl:∀ k ∈ plabs c' (qt++[(x,T.enc,lx)]),k≠l:=fun k hk he=>by
  subst he;rcases Z2m hk with h1 | h1 | h1
  ·rcases hl k h1 with h2 | h2
   ·exact s.ne.1 (by simp[plabs,h2])
   ·have:=s.lt k (by simp);omega
  ·exact s.ne.1 (by simp[plabs];right;simpa using h1)
  ·exact (hx2 k h1).2.1 (by simp)
 refine⟨_,⟨_,qf,qo,rfl,rfl,rfl,s.setT2 (by simp) (qt':=qt++[(x,T.enc,lx)]) (by simpa using hp.frame fun k hk=>by simp[hnl k hk]) ((hs.mono fun k hk=>by simp[plabs,hk]).setBox (.inl (by simp))) (Zb1 s.nds.1 hlt (fun k hk=>(hl k hk).imp_right And.left) hx fun k hk=>⟨fun h2=>(hx2 k hk).2.1 (by simp[h2]),(hx2 k hk).2.2⟩) fun k hk=>?_⟩,fun k hk=>?_⟩
 ·rcases Z2m hk with h1 | h1 | h1
  ·rcases hl k h1 with h2 | h2
   ·exact .inl (by simp[plabs,h2])
   ·exact .inr ⟨fun h3=>by have:=s.lt k h3;omega,by simpa using h2.2⟩
  ·exact .inl (by simp[plabs];right;simpa using h1)
  ·exact .inr ⟨(hx2 k h1).2.1,by simpa using (hx2 k h1).1⟩
 ·rcases Z2m hk with h1 | h1 | h1
  ·rcases hl k h1 with h2 | h2
   ·exact .inl (by simp[plabs,h2])
   ·exact .inr (.inr h2.1)
  ·exact .inl (by simp[plabs];right;simpa using h1)
  ·exact .inr (.inl h1)
theorem Sc.addF {h:HS} {l:Lab} {S:Sch} {tc fc oc:C} {ta fa oa:List Lab} (s:Sc h l S tc fc oc ta fa oa):Adds h 3 fc S.fks.length FkSh (l::(ta++(fa++oa))) fun h' c' d lx=>∀ T,d=Fk.enc T →
  ∃ fa',Sc (h'.setBox l [tc,c',oc]) l { S with fks:=S.fks++[T] } tc c' oc ta fa' oa∧∀ k ∈ fa',k ∈ fa∨k ∈ lx∨h.ep≤k.1:=by
 obtain⟨qt,qf,qo,rfl,rfl,rfl,s⟩:=s;have hlen:qf.length=S.fks.length:=by have:=congrArg List.length s.f.ds;simpa using this
 have hlt:∀ k ∈ plabs fc qf,k.1 < h.ep:=fun k hk=>s.lt k (by simp[hk]);refine⟨qf.map (fun q:Q=>q.1),s.f.mr,by simpa using hlen,fun h' c' x d lx hm hs hl ho hx hx2 T hd=>?_⟩;subst hd;have hp:=s.f.add s.nds.2.1 hlt hm hs ho;have hnl:∀ k ∈ plabs c' (qf++[(x,T.enc,lx)]),k≠l:=fun k hk he=>by
  subst he;rcases Z2m hk with h1 | h1 | h1
  ·rcases hl k h1 with h2 | h2
   ·exact s.ne.2.1 (by simp[plabs,h2])
   ·have:=s.lt k (by simp);omega
  ·exact s.ne.2.1 (by simp[plabs];right;simpa using h1)
  ·exact (hx2 k h1).2.1 (by simp)
 refine⟨_,⟨qt,_,qo,rfl,rfl,rfl,s.setF2 (by simp) (qf':=qf++[(x,T.enc,lx)]) (by simpa using hp.frame fun k hk=>by simp[hnl k hk]) ((hs.mono fun k hk=>by simp[plabs,hk]).setBox (.inl (by simp))) (Zb1 s.nds.2.1 hlt (fun k hk=>(hl k hk).imp_right And.left) hx fun k hk=>⟨fun h2=>(hx2 k hk).2.1 (by simp[h2]),(hx2 k hk).2.2⟩) fun k hk=>?_⟩,fun k hk=>?_⟩
 ·rcases Z2m hk with h1 | h1 | h1
  ·rcases hl k h1 with h2 | h2
   ·exact .inl (by simp[plabs,h2])
   ·exact .inr ⟨fun h3=>by have:=s.lt k h3;omega,by simpa using h2.2⟩
  ·exact .inl (by simp[plabs];right;simpa using h1)
  ·exact .inr ⟨(hx2 k h1).2.1,by simpa using (hx2 k h1).1⟩
 ·rcases Z2m hk with h1 | h1 | h1
  ·rcases hl k h1 with h2 | h2
   ·exact .inl (by simp[plabs,h2])
   ·exact .inr (.inr h2.1)
  ·exact .inl (by simp[plabs];right;simpa using h1)
  ·exact .inr (.inl h1)
theorem Sc.addO {h:HS} {l:Lab} {S:Sch} {tc fc oc:C} {ta fa oa:List Lab} (s:Sc h l S tc fc oc ta fa oa):∃ xs,MR h 7 oc xs∧xs.length=S.cons.length ∧
  ∀ (h':HS) (c':C) (T:Cons),MR h' 7 c' (xs++[T.enc.map C.d])→Same h h' (labs oc)→(∀ k ∈ labs c',k ∈ labs oc∨(h.ep≤k.1∧k.1 < h'.ep)) →
  ∃ oa',Sc (h'.setBox l [tc,fc,c']) l { S with cons:=S.cons++[T] } tc fc c' ta fa oa'∧∀ k ∈ oa',k ∈ oa∨h.ep≤k.1:=by
 obtain⟨qt,qf,qo,rfl,rfl,rfl,s⟩:=s;have hlen:qo.length=S.cons.length:=by have:=congrArg List.length s.o.ds;simpa using this
 have hlt:∀ k ∈ plabs oc qo,k.1 < h.ep:=fun k hk=>s.lt k (by simp[hk]);refine⟨qo.map (fun q:Q=>q.1),s.o.mr,by simpa using hlen,fun h' c' T hm hs hl=>?_⟩;have ho:Ow h' ConSh (T.enc.map C.d) T.enc []:=Ow.datas (ds:=T.enc);have hp:=s.o.add s.nds.2.2 hlt hm hs ho;have hnl:∀ k ∈ plabs c' (qo++[(T.enc.map C.d,T.enc,[])]),k≠l:=fun k hk he=>by
  subst he;rcases Z2m hk with h1 | h1 | h1
  ·rcases hl k h1 with h2 | h2
   ·exact s.ne.2.2.1 (by simp[plabs,h2])
   ·have:=s.lt k (by simp);omega
  ·exact s.ne.2.2.1 (by simp[plabs];right;simpa using h1)
  ·simp at h1
 refine⟨_,⟨qt,qf,_,rfl,rfl,rfl,s.setO (by simp) (qo':=qo++[(T.enc.map C.d,T.enc,[])]) (by simpa using hp.frame fun k hk=>by simp[hnl k hk]) ((hs.mono fun k hk=>by simp[plabs,hk]).setBox (.inl (by simp))) (Zb1 s.nds.2.2 hlt (fun k hk=>(hl k hk).imp_right And.left) List.nodup_nil (by simp)) fun k hk=>?_⟩,fun k hk=>?_⟩
 ·rcases Z2m hk with h1 | h1 | h1
  ·rcases hl k h1 with h2 | h2
   ·exact .inl (by simp[plabs,h2])
   ·exact .inr ⟨h2.1,by simpa using h2.2⟩
  ·exact .inl (by simp[plabs];right;simpa using h1)
  ·simp at h1
 ·rcases Z2m hk with h1 | h1 | h1
  ·rcases hl k h1 with h2 | h2
   ·exact .inl (by simp[plabs,h2])
   ·exact .inr h2.1
  ·exact .inl (by simp[plabs];right;simpa using h1)
  ·simp at h1
end Go.Proofs.YthiojhcimecdgaaGreatDoor
namespace Go.Am
open Go Go.Proofs.YthiojhcimecdgaaGreatDoor
theorem Ow.ofD {h:HS} {ss:List Sh} {cs:List C} {ds:List D} {ls:List Lab} (o:Ow h ss cs ds ls):∀ {xs:List D},toDs cs=some xs→xs=ds∧∀ h',Ow h' ss (ds.map C.d) ds []:=by
 induction o with
 | nil=>intro xs hx;simp at hx;exact⟨hx,fun _=>.nil⟩
 | @data c x ss cs ds ls hx hr ih=>
   intro xs h1;simp only[toDs,hx] at h1;cases h2:toDs cs with
   | none=>rw[h2] at h1;cases h1
   | some ys=>
     rw[h2] at h1;simp at h1;obtain⟨h3,h4⟩:=ih h2;subst h1 h3;exact⟨rfl,fun h'=>.data rfl (h4 h')⟩
 | @emp es c ss cs ds ls hx hr ih=>
   intro xs h1;simp only[toDs,hx] at h1;cases h2:toDs cs with
   | none=>rw[h2] at h1;cases h1
   | some ys=>
     rw[h2] at h1;simp at h1;obtain⟨h3,h4⟩:=ih h2;subst h1 h3;exact⟨rfl,fun h'=>.emp rfl (h4 h')⟩
 | @row es c qs ss cs ds ls hm hq hr ihq ih=>
   intro xs h1;have h0:c.toD=some (.sl [])∧qs=[]∨c.toD=none:=by
    rcases hm.2.2 with ⟨h2,rfl | rfl⟩ | ⟨l,cap,sp,rfl,_,_⟩
    ·exact .inl ⟨rfl,by simpa using h2⟩
    ·exact .inl ⟨rfl,by simpa using h2⟩
    ·exact .inr rfl
   rcases h0 with ⟨h0,rfl⟩ | h0
   ·simp only[toDs,h0] at h1;cases h2:toDs cs with
    | none=>rw[h2] at h1;cases h1
    | some ys=>
      rw[h2] at h1;simp at h1;obtain⟨h3,h4⟩:=ih h2;subst h1 h3;exact⟨rfl,fun h'=>.emp rfl (h4 h')⟩
   ·simp[toDs,h0] at h1
end Go.Am
namespace Go.Proofs.YthiojhcimecdgaaGreatDoor
open Go Go.Am
theorem bld_ow {x:List C} {f:List (List D)→Prop} {g:List C→Prop} {a:Option (List (List D))} {b:Option (List C)} (ha:a=(toDs x).map fun d=>[d]) (hb:b=some x) (h1:∀ d,toDs x=some d→f [d]) (h2:toDs x=none→g x):bldV a b (k:=⟨f⟩) (q:=⟨g⟩):=by
 subst ha hb;cases hx:toDs x with
 | none=>exact h2 hx
 | some d=>exact h1 d hx
end Go.Proofs.YthiojhcimecdgaaGreatDoor
namespace Go.Am
open Go Go.Proofs.YthiojhcimecdgaaGreatDoor
theorem RowAt.own1 {h:HS} {n:Nat} {l:Lab} {d:List D} (hd:d.length=n):RowAt h n (.own l [d]) [d.map C.d]:=by
 refine⟨by simp[Z0k,C.list?,hd],by simp[cLen,C.list?],by simp[AllC,hd],by simp⟩
end Go.Am
namespace Go.Proofs.YthiojhcimecdgaaGreatDoor
open Go Go.Am
end Go.Proofs.YthiojhcimecdgaaGreatDoor
namespace Go.Am
open Go Go.Proofs.YthiojhcimecdgaaGreatDoor
theorem RowAt.new1 {h:HS} {n:Nat} {l:Lab} {x:List C} (hx:x.length=n) (hb:h.box l=some x):RowAt h n (.mrow l 0 1 1) [x]:=by
 have:MR h n (.mrow l 0 1 1) [x]:=⟨by simp[AllC,hx],by simp,.inr ⟨l,1,[],rfl,by simpa[rowBox] using hb,by simp[rowBox,hx]⟩⟩
 exact this.rd
end Go.Am
namespace Go.Proofs.YthiojhcimecdgaaGreatDoor
open Go Go.Am
theorem Sc.hlabs {h:HS} {l:Lab} {S:Sch} {tc fc oc:C} {ta fa oa:List Lab} (s:Sc h l S tc fc oc ta fa oa):(∀ k ∈ labs tc,k ∈ ta)∧(∀ k ∈ labs fc,k ∈ fa)∧(∀ k ∈ labs oc,k ∈ oa):=by
 obtain⟨qt,qf,qo,rfl,rfl,rfl,s⟩:=s;exact⟨fun k hk=>by simp[plabs,hk],fun k hk=>by simp[plabs,hk],fun k hk=>by simp[plabs,hk]⟩
theorem Sc.nl {h:HS} {l:Lab} {S:Sch} {tc fc oc:C} {ta fa oa:List Lab} (s:Sc h l S tc fc oc ta fa oa):l ∉ ta∧l ∉ fa∧l ∉ oa:=by
 obtain⟨qt,qf,qo,rfl,rfl,rfl,s⟩:=s;exact⟨s.ne.1,s.ne.2.1,s.ne.2.2.1⟩
theorem Sc.keep {h h':HS} {l:Lab} {S:Sch} {tc fc oc:C} {ta fa oa ls:List Lab} (s:Sc h l S tc fc oc ta fa oa) (hs:Same h h' ls) (hl:∀ k ∈ ls,k ∈ ta∨k ∈ fa∨k ∈ oa):h'.box l=some [tc,fc,oc]:=by
 rw[hs.2 l (s.lt l (by simp)) fun hk=>?_]
 ·exact s.box
 ·have:=s.nl
  rcases hl l hk with h1 | h1 | h1
  ·exact this.1 h1
  ·exact this.2.1 h1
  ·exact this.2.2 h1
theorem Sc.frame2 {h h':HS} {l:Lab} {S:Sch} {tc fc oc:C} {ta fa oa lz:List Lab} (s:Sc h l S tc fc oc ta fa oa) (hs:Same h h' lz) (hd:∀ k ∈ lz,k ∉ l::(ta++(fa++oa))):Sc h' l S tc fc oc ta fa oa:=by
 obtain⟨qt,qf,qo,rfl,rfl,rfl,s⟩:=s;have hb:∀ k ∈ l::(plabs tc qt++(plabs fc qf++plabs oc qo)),h'.box k=h.box k:=fun k hk=>hs.2 k (s.lt k hk) fun h1=>hd k h1 hk;have hb1:=hb;simp only[List.mem_cons,List.mem_append] at hb;exact⟨qt,qf,qo,rfl,rfl,rfl,by rw[hb l (.inl rfl),s.box],s.t.frame fun k hk=>hb k (.inr (.inl hk)),s.f.frame fun k hk=>hb k (.inr (.inr (.inl hk))),s.o.frame fun k hk=>hb k (.inr (.inr (.inr hk))),s.nd,fun k hk=>Nat.lt_of_lt_of_le (s.lt k hk) hs.1⟩
theorem Sc.fkK {h:HS} {l:Lab} {S:Sch} {tc oc:C} {ta fa oa:List Lab} {lf:Lab} {n cap i:Nat} {B:List C} {f:Fk} (s:Sc h l S tc (.mrow lf 0 n cap) oc ta fa oa) (hb:h.box lf=some B) (hi:S.fks[i]?=some f) :
  lf ∈ fa∧l≠lf∧∃ c1,Elem h lf i 3 [.d (.str f.table),c1,.d (.str f.ref)] B∧(∀ h',Same h h' []→Frz h' c1 (.sl (f.cols.map encI)))∧(cLen c1=some f.cols.length∧f.cols.length≤LIM) ∧
   (∀ nm,Sc (h.setBox lf (Z03 B (i * 3) [.d (.str nm)])) l { S with fks:=S.fks.set i ⟨nm,f.cols,f.ref⟩ } tc (.mrow lf 0 n cap) oc ta fa oa) ∧
   (∀ nm,Sc (h.setBox lf (Z03 B (i * 3+2) [.d (.str nm)])) l { S with fks:=S.fks.set i ⟨f.table,f.cols,nm⟩ } tc (.mrow lf 0 n cap) oc ta fa oa):=by
 obtain⟨lf2,cap2,B2,c1,e,h1,h2,h3,h4,h5,h6⟩:=s.fk hi;simp at e;obtain⟨rfl,-,rfl⟩:=e;have e2:=h2.box;rw[hb] at e2;cases e2;refine⟨h1,fun he=>s.nl.2.1 (he ▸ h1),c1,h2,h3,h4,fun nm=>?_,fun nm=>?_⟩
 ·have:=h5 0 [.d (.str nm)] ⟨nm,f.cols,f.ref⟩ rfl (by simp) (by simp)
  simpa using this
 ·exact h5 2 [.d (.str nm)] ⟨f.table,f.cols,nm⟩ rfl (by simp) (by simp)
theorem Sc.fkH {h:HS} {l:Lab} {S:Sch} {tc fc oc:C} {ta fa oa:List Lab} {i:Nat} {f:Fk} (s:Sc h l S tc fc oc ta fa oa) (hi:S.fks[i]?=some f):∃ lf cap B,fc=.mrow lf 0 S.fks.length cap∧h.box lf=some B∧i * 3+3≤B.length:=by
 obtain⟨lf2,cap2,B2,c1,e,h1,h2,h3,h4,h5,h6⟩:=s.fk hi;exact⟨lf2,cap2,B2,e,h2.box,h2.le⟩
theorem Sc.conH {h:HS} {l:Lab} {S:Sch} {tc fc oc:C} {ta fa oa:List Lab} {i:Nat} {f:Cons} (s:Sc h l S tc fc oc ta fa oa) (hi:S.cons[i]?=some f):∃ lf cap B,oc=.mrow lf 0 S.cons.length cap∧h.box lf=some B∧i * 7+7≤B.length:=by
 obtain⟨lf2,cap2,B2,e,h1,h2,h3⟩:=s.con hi;exact⟨lf2,cap2,B2,e,h2.box,h2.le⟩
theorem Sc.conK {h:HS} {l:Lab} {S:Sch} {tc fc:C} {ta fa oa:List Lab} {lf:Lab} {n cap i:Nat} {B:List C} {f:Cons} (s:Sc h l S tc fc (.mrow lf 0 n cap) ta fa oa) (hb:h.box lf=some B) (hi:S.cons[i]?=some f) :
  lf ∈ oa∧l≠lf∧Elem h lf i 7 (f.enc.map C.d) B ∧
   (∀ nm,Sc (h.setBox lf (Z03 B (i * 7) [.d (.str nm)])) l { S with cons:=S.cons.set i { f with table:=nm } } tc fc (.mrow lf 0 n cap) ta fa oa) ∧
   (∀ nm,Sc (h.setBox lf (Z03 B (i * 7+1) [.d (.int .i64 nm)])) l { S with cons:=S.cons.set i { f with left:=nm } } tc fc (.mrow lf 0 n cap) ta fa oa) ∧
   (∀ nm,Sc (h.setBox lf (Z03 B (i * 7+3) [.d (.int .i64 nm)])) l { S with cons:=S.cons.set i { f with right:=nm } } tc fc (.mrow lf 0 n cap) ta fa oa):=by
 obtain⟨lf2,cap2,B2,e,h1,h2,h3⟩:=s.con hi;simp at e;obtain⟨rfl,-,rfl⟩:=e;have e2:=h2.box;rw[hb] at e2;cases e2;refine⟨h1,fun he=>s.nl.2.2 (he ▸ h1),h2,fun nm=>?_,fun nm=>?_,fun nm=>?_⟩
 ·have:=h3 0 [.d (.str nm)] { f with table:=nm } (by simp) (by simp)
  simpa using this
 ·exact h3 1 [.d (.int .i64 nm)] { f with left:=nm } (by simp) (by simp)
 ·exact h3 3 [.d (.int .i64 nm)] { f with right:=nm } (by simp) (by simp)
end Go.Proofs.YthiojhcimecdgaaGreatDoor
end
namespace Go.Proofs.YthiojhcimecdgaaGreatDoor
section
open Go Go.Am
theorem Sc.fkN {h:HS} {l:Lab} {S:Sch} {tc oc c1:C} {ta fa oa:List Lab} {lf:Lab} {n cap i k:Nat} {B:List C} {f:Fk} {v:Int} (s:Sc h l S tc (.mrow lf 0 n cap) oc ta fa oa) (hb:h.box lf=some B) (hi:S.fks[i]?=some f) (hk:f.cols[k]?=some v) (hc:takeN 1 (B.drop (i * 3+1))=some [c1]) :
  ∃ l2 cap2 B2,c1=.mrow l2 0 f.cols.length cap2∧l2 ∈ fa∧l2≠lf∧l≠l2∧h.box l2=some B2∧takeN 1 (B2.drop k)=some [.d (.int .i64 v)]∧k+1≤B2.length ∧
    ∀ v',Sc (h.setBox l2 (Z03 B2 k [.d (.int .i64 v')])) l { S with fks:=S.fks.set i ⟨f.table,f.cols.set k v',f.ref⟩ } tc (.mrow lf 0 n cap) oc ta fa oa:=by
 obtain⟨lf2,cap2,B2,c2,e,h1,h2,h3,h4,h5,h6⟩:=s.fk hi;simp at e;obtain⟨rfl,-,rfl⟩:=e;have e2:=h2.box;rw[hb] at e2;cases e2;have e3:=h2.rd 1 1 (by omega);rw[hc] at e3;simp at e3;subst e3;obtain⟨l2,cap2,B2,k1,k2,k3,k4,k5⟩:=h6 k v hk;have e4:=k4.rd0 1 (by omega);have e5:=k4.le;simp at e4 e5;refine⟨l2,cap2,B2,k1,k2,k3,fun he=>s.nl.2.1 (he ▸ k2),k4.box,e4,e5,fun v'=>?_⟩;simpa using k5 v'
def Zil (table:ByteArray) (mr:Int→Option Int) {ρ:Type} (i:Nat) (S:Sch) (next:Sch→Option ρ):Option ρ:=
 getK S.fks (i:Int) fun f=>bif strEq f.table table then
  countK (fun k (S:Sch) next=>getK S.fks (i:Int) fun f=>getK f.cols (k:Int) fun v=>bindK (mr v) fun v'=>next { S with fks:=S.fks.set i ⟨f.table,f.cols.set k v',f.ref⟩ }) next f.cols.length 0 S
 else next S
def Zik (table:ByteArray) (mr:Int→Option Int) {ρ:Type} (i:Nat) (S:Sch) (next:Sch→Option ρ):Option ρ:=
 getK S.cons (i:Int) fun c=>bif !(strEq c.table table) then next S else
  bindK (mr c.left) fun v=>bif decide (0≤c.right) then bindK (mr c.right) fun w=>next { S with cons:=S.cons.set i { c with left:=v,right:=w } } else next { S with cons:=S.cons.set i { c with left:=v } }
def Z0v (S:Sch) (table:ByteArray) (mr:Int→Option Int):Option Sch:=
 countK (Zil table mr) (fun S=>countK (Zik table mr) (fun S=>some S) S.cons.length 0 S) S.fks.length 0 S
theorem Z5r (h:HS) (l:Lab) (tc fc oc:C) (ta fa oa:List Lab) (S S':Sch) (table:ByteArray) (g:FuncId) (caps:List Cap) (dss:List (List D)) (mr:Int→Option Int) (hm:Is (Z0v S table mr) S') (s:Sc h l S tc fc oc ta fa oa)
  (hcv:∀ h',Same h h' (fa++oa)→LendVs h' (caps.map capV) (capsOf dss)) (hp:∀ x v,Is (mr x) v→PSpec Tryz.prog g (.one (.d (.int .i64 x))::capsOf dss) (.one (.d (.int .i64 v)))) (K:V→HS→Prop)
  (hk:∀ h',Sc h' l S' tc fc oc ta fa oa→Same h h' (fa++oa)→K (.tup []) h') :
  HSpec Tryz.prog 187 [.one (.ptr l 0),.one (.d (.str table)),.one (.fn g caps)] h K:=by
 have hb:=s.box;refine HSpec.of_vc Tryz.func187 rfl (by kernel_rfl) (n:=89) rfl rfl (by simp) ?_;simp[hb];refine Z1h s.len.2.1.1 ?_;simp;refine Wait.count (N:=(S.fks.length:Int)) (s0:=S) (fun i S1 e h1=>e.n=89∧e.get 0=.one (.ptr l 0)∧e.get 1=.one (.d (.str table))∧e.get 2=.one (.fn g caps)∧e.get 15=.one fc∧e.get 16=.one (.d (.int .i64 (S.fks.length:Int)))∧e.get 17=.one (.d (.int .i64 (i:Int)))∧S1.fks.length=S.fks.length∧Sc h1 l S1 tc fc oc ta fa oa∧Same h h1 (fa++oa)) (by simpa[Z0v] using hm) ⟨by simp,by simp,by simp,by simp,by simp,by simp,by simp,rfl,s,.refl⟩ ?_ ?_
 ·rintro i S1 e h1 ⟨hn,h0,h1',h2,h15,h16,h17,hl1,s1,hs1⟩ hlt hm;replace hm:=Is.getN hm;obtain⟨f,hf,hm⟩:=hm;have hlt1:i < S.fks.length:=by omega
  have hlt2:i < S1.fks.length:=by omega
  have hfl:=s1.len.2.1.2;simp only[lim_eq] at hfl;have hw:IntKind.i64.wrap ((i:Int)+1)=(i:Int)+1:=IntWalk.i64_in _ (by omega);obtain⟨lf,cf,Bf,rfl,bx,hle⟩:=s1.fkH hf;obtain⟨hlf,hllf,c1,el,-,hcl,-,-⟩:=s1.fkK bx hf;have r0:=el.rd0 3 (by omega);have r1:=el.rd 1 1 (by omega);simp at r0 r1;have hs2:Same h1 ((h1.setBox (h1.ep,112) [C.d (D.str ByteArray.empty),C.nil,C.d (D.str ByteArray.empty)]).next.setBox (h1.ep,112) [.d (.str f.table),c1,.d (.str f.ref)]) []:=((Same.refl.setBox (.inr (Nat.le_refl _))).next).setBox (.inr (Nat.le_refl _));have s2:=s1.frame hs2;have hne:=ne_new (s1.lt lf (by simp[hlf]));cases hb1:strEq f.table table with
  | false=>
    simp only[hb1,cond_false] at hm;simp[hn,h0,h1',h2,h15,h16,h17,hlt1,hlt2,bx,r0,hb1,hw];exact BackF.of S1 ⟨⟨by simp[hn],by simp[h0],by simp[h1'],by simp[h2],by simp[h15],by simp[h16],by simp,hl1,s2,hs1.trans (hs2.mono (by simp))⟩,hm⟩
  | true=>
    simp only[hb1,cond_true] at hm;simp[hn,h0,h1',h2,h15,h16,h17,hlt1,hlt2,bx,r0,hb1,hw];refine Z1h hcl.1 ?_;simp[hn];have bx2:((h1.setBox (h1.ep,112) [C.d (D.str ByteArray.empty),C.nil,C.d (D.str ByteArray.empty)]).next.setBox (h1.ep,112) [.d (.str f.table),c1,.d (.str f.ref)]).box lf=some Bf:=by
     simp[hne,bx]
    refine Wait.count (N:=(f.cols.length:Int)) (s0:=S1) (fun k S2 e h2=>e.n=89∧e.get 0=.one (.ptr l 0)∧e.get 1=.one (.d (.str table))∧e.get 2=.one (.fn g caps)∧e.get 15=.one (.mrow lf 0 S1.fks.length cf)∧e.get 16=.one (.d (.int .i64 (S.fks.length:Int)))∧e.get 17=.one (.d (.int .i64 (i:Int)))∧e.get 6=.one (.d (.int .i64 (i:Int)))∧e.get 27=.one c1∧e.get 28=.one (.d (.int .i64 (f.cols.length:Int)))∧e.get 29=.one (.d (.int .i64 (k:Int))) ∧
      S2.fks.length=S.fks.length∧(∃ f2,S2.fks[i]?=some f2∧f2.cols.length=f.cols.length)∧h2.box lf=some Bf∧Sc h2 l S2 tc (.mrow lf 0 S1.fks.length cf) oc ta fa oa∧Same h h2 (fa++oa)) (by simpa using hm) ⟨by simp[hn],by simp[h0],by simp[h1'],by simp[h2],by simp[h15],by simp[h16],by simp[h17],by simp[h17],by simp,by simp,by simp,hl1,⟨f,hf,rfl⟩,bx2,s2,hs1.trans (hs2.mono (by simp))⟩ ?_ ?_
    ·rintro k S2 e h3 ⟨hn,h0,h1',h2,h15,h16,h17,h6,h27,h28,h29,hl2,⟨f2,hf2,hfl2⟩,bx3,s3,hs3⟩ hltk hm;replace hm:=hm.getN;obtain⟨f3,hf3,hm⟩:=hm;rw[hf2] at hf3;cases hf3;replace hm:=hm.getN;obtain⟨v,hv,hm⟩:=hm;replace hm:=hm.bind;obtain⟨v',hv',hm⟩:=hm;have hltk1:k < f.cols.length:=by omega
     have hltk2:k < f2.cols.length:=by omega
     have hcl1:=hcl.2;simp only[lim_eq] at hcl1;have hwk:IntKind.i64.wrap ((k:Int)+1)=(k:Int)+1:=IntWalk.i64_in _ (by omega);obtain⟨l2,cap2,B2,rfl,hl2m,hl2f,hll2,bx4,r4,hle4,w4⟩:=s3.fkN bx3 hf2 hv r1;have hb3:=s3.box;simp[hn,h0,h1',h2,h15,h16,h17,h6,h27,h28,h29,hltk1,hltk2,bx4,r4];refine Wait.cut (Plan.then_ [0,4,8,9,10,1,2,3,5,6,7,11,12,13] .done) follows (by kernel_rfl) (fun e h2=>e.n=89∧e.get 0=.one (.ptr l 0)∧e.get 1=.one (.d (.str table))∧e.get 2=.one (.fn g caps)∧e.get 15=.one (.mrow lf 0 S1.fks.length cf)∧e.get 16=.one (.d (.int .i64 (S.fks.length:Int)))∧e.get 17=.one (.d (.int .i64 (i:Int)))∧e.get 6=.one (.d (.int .i64 (i:Int)))∧e.get 27=.one (.mrow l2 0 f2.cols.length cap2)∧e.get 28=.one (.d (.int .i64 (f.cols.length:Int)))∧e.get 29=.one (.d (.int .i64 (k:Int))) ∧
      h2.box lf=some Bf∧Sc h2 l { S2 with fks:=S2.fks.set i ⟨f2.table,f2.cols.set k v',f2.ref⟩ } tc (.mrow lf 0 S1.fks.length cf) oc ta fa oa∧Same h h2 (fa++oa)) ?_ ?_
     ·simp[hb3,hn,h0,h1',h2,h15,h16,h17,h6,h27,h28,h29,hltk1,hltk2,hlt2,bx3,bx4,r1,r4,Plan.then_,vcPlan,Z02,Z00,callKind];refine Z01 (HSpec.of_lend (hp v v' hv') ⟨.one (.frz (.data rfl)),hcv h3 hs3⟩ rfl ?_);simp[hn,hltk2,bx4];refine⟨fun _ _ x=>x,by omega,CutK.of ⟨by simp[hn],by simp[h0],by simp[h1'],by simp[h2],by simp[h15],by simp[h16],by simp[h17],by simp[h6],by simp[h27],by simp[h28],by simp[h29],?_,?_,?_⟩⟩
      ·simp[hl2f.symm,bx3]
      ·have:=(s3.frame (Same.refl.next:Same h3 h3.next [])).fkN (by simpa using bx3) hf2 hv r1
       obtain⟨l2',cap2',B2',e1,k2,k3,k4,k5,k6,k7,k8⟩:=this;simp at e1;obtain⟨rfl,rfl⟩:=e1;simp only[Zfc,bx4] at k5;cases k5;exact k8 v'
      ·exact (hs3.next).setBox (.inl (by simp[hl2m]))
     ·rintro e h4 ⟨hn,h0,h1',h2,h15,h16,h17,h6,h27,h28,h29,bx5,s5,hs5⟩;simp[hn,h29,hwk];have hi2:i < S2.fks.length:=by omega
      exact BackF.of _ ⟨⟨by simp[hn],by simp[h0],by simp[h1'],by simp[h2],by simp[h15],by simp[h16],by simp[h17],by simp[h6],by simp[h27],by simp[h28],by simp,by simpa using hl2,⟨⟨f2.table,f2.cols.set k v',f2.ref⟩,by simp[hi2],by simpa using hfl2⟩,bx5,s5,hs5⟩,hm⟩
    ·rintro k S2 e h3 ⟨hn,h0,h1',h2,h15,h16,h17,h6,h27,h28,h29,hl2,⟨f2,hf2,hfl2⟩,bx3,s3,hs3⟩ hge hm;have hge1:¬ k < f.cols.length:=by omega
     simp[hn,h17,h28,h29,hge1,hw];exact BackF.of S2 ⟨⟨by simp[hn],by simp[h0],by simp[h1'],by simp[h2],by simp[h15],by simp[h16],by simp,hl2,s3,hs3⟩,hm⟩
 ·rintro i S1 e h1 ⟨hn,h0,h1',h2,h15,h16,h17,hl1,s1,hs1⟩ hge hm;have hge1:¬ i < S.fks.length:=by omega
  have hb1:=s1.box;simp[hn,h0,h16,h17,hge1,hb1];refine Z1h s1.len.2.2.1 ?_;simp[hn];refine Wait.count (N:=(S1.cons.length:Int)) (s0:=S1) (fun i S2 e h2=>e.n=89∧e.get 0=.one (.ptr l 0)∧e.get 1=.one (.d (.str table))∧e.get 2=.one (.fn g caps)∧e.get 52=.one oc∧e.get 53=.one (.d (.int .i64 (S1.cons.length:Int)))∧e.get 54=.one (.d (.int .i64 (i:Int)))∧S2.cons.length=S1.cons.length∧Sc h2 l S2 tc fc oc ta fa oa∧Same h h2 (fa++oa)) (by simpa using hm) ⟨by simp[hn],by simp[h0],by simp[h1'],by simp[h2],by simp,by simp,by simp,rfl,s1,hs1⟩ ?_ ?_
  ·rintro i S2 e h3 ⟨hn,h0,h1',h2,h52,h53,h54,hl2,s2,hs2⟩ hlt hm;replace hm:=Is.getN hm;obtain⟨c,hc,hm⟩:=hm;have hlt1:i < S1.cons.length:=by omega
   have hlt2:i < S2.cons.length:=by omega
   have hfl:=s2.len.2.2.2;simp only[lim_eq] at hfl;have hw:IntKind.i64.wrap ((i:Int)+1)=(i:Int)+1:=IntWalk.i64_in _ (by omega);obtain⟨lo,co,Bo,rfl,bx,hle⟩:=s2.conH hc;obtain⟨hlo,hllo,el,-,w1,w3⟩:=s2.conK bx hc;have r0:=el.rd0 7 (by omega);simp at r0;have hz:Same h3 ((h3.setBox (h3.ep,176) [C.d (D.str ByteArray.empty),C.d (D.int IntKind.i64 0),C.d (D.str ByteArray.empty),C.d (D.int IntKind.i64 0),C.d (D.int IntKind.i64 0),C.d (D.int IntKind.i64 0),C.d (D.str ByteArray.empty)]).next.setBox (h3.ep,176) (c.enc.map C.d)) []:=((Same.refl.setBox (.inr (Nat.le_refl _))).next).setBox (.inr (Nat.le_refl _));have s4:=s2.frame hz;simp only[Cons.enc,List.map_cons,List.map_nil] at hz s4;have hne:=ne_new (s2.lt lo (by simp[hlo]));cases hb1:strEq c.table table with
   | false=>
     simp only[hb1,Bool.not_false,cond_true] at hm;simp[hn,h0,h1',h2,h52,h53,h54,hlt1,hlt2,bx,r0,hb1,hw];exact BackF.of S2 ⟨⟨by simp[hn],by simp[h0],by simp[h1'],by simp[h2],by simp[h52],by simp[h53],by simp,hl2,s4,hs2.trans (hz.mono (by simp))⟩,hm⟩
   | true=>
     simp only[hb1,Bool.not_true,cond_false] at hm;replace hm:=hm.bind;obtain⟨v,hv,hm⟩:=hm;simp[hn,h0,h1',h2,h52,h53,h54,hlt1,hlt2,bx,r0,hb1,hw];have hb4:=s4.box;have hy:Same h ((h3.setBox (h3.ep,176) [C.d (D.str ByteArray.empty),C.d (D.int IntKind.i64 0),C.d (D.str ByteArray.empty),C.d (D.int IntKind.i64 0),C.d (D.int IntKind.i64 0),C.d (D.int IntKind.i64 0),C.d (D.str ByteArray.empty)]).next.setBox (h3.ep,176) [C.d (D.str c.table),C.d (D.int IntKind.i64 c.left),C.d (D.str c.op),C.d (D.int IntKind.i64 c.right),C.d (D.int IntKind.i64 c.value.kind),C.d (D.int IntKind.i64 c.value.int),C.d (D.str c.value.text)]) (fa++oa):=hs2.trans (hz.mono (by simp));have hep0:h.ep≤h3.ep:=hs2.1;generalize hX:(h3.setBox (h3.ep,176) [C.d (D.str ByteArray.empty),C.d (D.int IntKind.i64 0),C.d (D.str ByteArray.empty),C.d (D.int IntKind.i64 0),C.d (D.int IntKind.i64 0),C.d (D.int IntKind.i64 0),C.d (D.str ByteArray.empty)]).next.setBox (h3.ep,176) [C.d (D.str c.table),C.d (D.int IntKind.i64 c.left),C.d (D.str c.op),C.d (D.int IntKind.i64 c.right),C.d (D.int IntKind.i64 c.value.kind),C.d (D.int IntKind.i64 c.value.int),C.d (D.str c.value.text)]=HX at s4 hb4 hy ⊢;have bx11:HX.box (h3.ep,176)=some [C.d (D.str c.table),C.d (D.int IntKind.i64 c.left),C.d (D.str c.op),C.d (D.int IntKind.i64 c.right),C.d (D.int IntKind.i64 c.value.kind),C.d (D.int IntKind.i64 c.value.int),C.d (D.str c.value.text)]:=by rw[← hX];simp
     have bx4:HX.box lo=some Bo:=by rw[← hX];simp[hne,bx]
     refine Wait.cut (Plan.then_ [0,4,5,6,7,1,2,3,8,9,10,11] .done) follows (by kernel_rfl) (fun e h2=>e.n=89∧e.get 0=.one (.ptr l 0)∧e.get 1=.one (.d (.str table))∧e.get 2=.one (.fn g caps)∧e.get 52=.one (.mrow lo 0 S2.cons.length co)∧e.get 53=.one (.d (.int .i64 (S1.cons.length:Int)))∧e.get 54=.one (.d (.int .i64 (i:Int)))∧e.get 10=.one (.d (.int .i64 (i:Int)))∧e.get 11=.one (.ptr (h3.ep,176) 0) ∧
      h2.box (h3.ep,176)=some [C.d (D.str c.table),C.d (D.int IntKind.i64 c.left),C.d (D.str c.op),C.d (D.int IntKind.i64 c.right),C.d (D.int IntKind.i64 c.value.kind),C.d (D.int IntKind.i64 c.value.int),C.d (D.str c.value.text)]∧h2.box lo=some (Z03 Bo (i * 7+1) [.d (.int .i64 v)]) ∧
      Sc h2 l { S2 with cons:=S2.cons.set i { c with left:=v } } tc fc (.mrow lo 0 S2.cons.length co) ta fa oa∧Same h h2 (fa++oa)) ?_ ?_
     ·simp[hn,h0,h1',h2,h52,h53,h54,hlt1,hlt2,hb4,bx11,Plan.then_,vcPlan,Z02,Z00,callKind];refine Z01 (HSpec.of_lend (hp _ v hv) ⟨.one (.frz (.data rfl)),hcv _ hy⟩ rfl ?_);simp[hn,hlt2,bx4];refine⟨fun _ _ x=>x,by omega,CutK.of ⟨by simp[hn],by simp[h0],by simp[h1'],by simp[h2],by simp[h52],by simp[h53],by simp[h54],by simp,by simp,?_,by simp,?_,hy.next.setBox (.inl (by simp[hlo]))⟩⟩
      ·have:=hne h3.ep 176 (Nat.le_refl _)
       have h9:¬ (h3.ep,176)=lo:=fun he=>by rw[he] at this;simp at this
       simp[h9,bx11]
      ·exact ((s4.frame (Same.refl.next:Same HX HX.next [])).conK (by simpa using bx4) hc).2.2.2.2.1 v
     ·rintro e h4 ⟨hn,h0,h1',h2,h52,h53,h54,h10,h11,bx12,bx13,s5,hs5⟩;have hci:({ S2 with cons:=S2.cons.set i { c with left:=v } }:Sch).cons[i]?=some { c with left:=v }:=by simp[hlt2]
      cases hr:decide (0≤c.right) with
      | false=>
        simp only[hr,cond_false] at hm;simp at hr;have hr2:¬ 0≤c.right:=by omega
        simp[hn,h0,h1',h2,h52,h53,h54,h10,h11,bx12,hr2,hw];exact BackF.of _ ⟨⟨by simp[hn],by simp[h0],by simp[h1'],by simp[h2],by simp[h52],by simp[h53],by simp,by simpa using hl2,s5,hs5⟩,hm⟩
      | true=>
        simp only[hr,cond_true] at hm;simp at hr;replace hm:=hm.bind;obtain⟨w,hwv,hm⟩:=hm;have hb5:=s5.box;simp[hn,h0,h1',h2,h52,h53,h54,h10,h11,bx12,hr];refine Wait.cut (Plan.then_ [0,4,5,6,7,1,2,3,8,9,10,11] .done) follows (by kernel_rfl) (fun e h2=>e.n=89∧e.get 0=.one (.ptr l 0)∧e.get 1=.one (.d (.str table))∧e.get 2=.one (.fn g caps)∧e.get 52=.one (.mrow lo 0 S2.cons.length co)∧e.get 53=.one (.d (.int .i64 (S1.cons.length:Int)))∧e.get 54=.one (.d (.int .i64 (i:Int))) ∧
         Sc h2 l { S2 with cons:=S2.cons.set i { c with left:=v,right:=w } } tc fc (.mrow lo 0 S2.cons.length co) ta fa oa∧Same h h2 (fa++oa)) ?_ ?_
        ·simp[hn,h0,h1',h2,h52,h53,h54,h10,h11,hlt1,hlt2,hb5,bx12,Plan.then_,vcPlan,Z02,Z00,callKind];refine Z01 (HSpec.of_lend (hp _ w hwv) ⟨.one (.frz (.data rfl)),hcv _ hs5⟩ rfl ?_);have hle5:(Z03 Bo (i * 7+1) [C.d (D.int IntKind.i64 v)]).length=Bo.length:=Z06 (by simp<;>omega);simp[hn,hlt2,bx13,hle5];refine⟨fun _ _ x=>x,by omega,CutK.of ⟨by simp[hn],by simp[h0],by simp[h1'],by simp[h2],by simp[h52],by simp[h53],by simp[h54],?_,hs5.next.setBox (.inl (by simp[hlo]))⟩⟩
         have:=((s5.frame (Same.refl.next:Same h4 h4.next [])).conK (by simpa using bx13) hci).2.2.2.2.2 w
         simpa using this
        ·rintro e h4 ⟨hn,h0,h1',h2,h52,h53,h54,s5,hs5⟩;simp[hn,h54,hw];exact BackF.of _ ⟨⟨by simp[hn],by simp[h0],by simp[h1'],by simp[h2],by simp[h52],by simp[h53],by simp,by simpa using hl2,s5,hs5⟩,hm⟩
  ·rintro i S2 e h3 ⟨hn,h0,h1',h2,h52,h53,h54,hl2,s2,hs2⟩ hge hm;have hge1:¬ i < S1.cons.length:=by omega
   obtain rfl:=r_ret hm;simp[hn,h53,h54,hge1];exact hk _ s2 hs2
end
section
open Go.Am
def Z0u (column:Int) (k0:List Int):Option Int:=
 (forK (fun (i2:Nat) (x2:Int) (s2:Int) next_2=>(bif decide (x2 < column) then (chkK (okI (s2+1)) (next_2 (s2+1))) else (next_2 s2))) (fun (s2:Int)=>(chkK (okI (column - s2)) (some (column - s2)))) k0 0 0)
instance c_evolution_removeColumns_1 (column:Int) (k0:List Int):Con (Z0u column k0) Tryz.prog 205 [.one (.d (.int .i64 column)),.one (.rp [.sl (k0.map encI)])] (fun r=>.one (.d (.int .i64 r))):=by
 unfold Z0u;have l1:LH (σ:=Int) 9 [0,7,8] [.d 4 (fun s=>.int .i64 s)]:=.intro;exact go 22 Tryz.func205 rfl (by kernel_rfl) rfl rfl (by simp)
def Z2u (s_:List Int) (v_:Int):Option Int:=
 (forK (fun (i2:Nat) (x2:Int) (s2:Unit) next_2=>(bif (v_ == x2) then (some (i2:Int)) else (next_2 ()))) (fun (s2:Unit)=>(some (-1))) s_ 0 ())
instance c_slices_Index_Int (s_:List Int) (v_:Int):Con (Z2u s_ v_) Tryz.prog 169 [.one (.d (.sl (s_.map encI))),.one (.d (.int .i64 v_))] (fun r=>.one (.d (.int .i64 r))):=by
 unfold Z2u;have l1:LH (σ:=Unit) 8 [0,1,7] []:=.intro;exact go 19 Tryz.func169 rfl (by kernel_rfl) rfl rfl (by simp)
def Z0w (s_:List Int) (v_:Int):Option Bool:=
 (bindK (Z2u s_ v_) fun v1=>(some (decide (0≤v1))))
instance c_slices_Contains_Int (s_:List Int) (v_:Int):Con (Z0w s_ v_) Tryz.prog 139 [.one (.d (.sl (s_.map encI))),.one (.d (.int .i64 v_))] (fun r=>.one (.d (.bool r))):=by
 unfold Z0w;exact go 9 Tryz.func139 rfl (by kernel_rfl) rfl rfl (by simp)
end
section
open Go Go.Am
def Zgf (removed:List Int) {ρ:Type} (k:Nat) (c:Col) (acc:List Col) (next:List Col→Option ρ):Option ρ:=
 bindK (Z0w removed (k:Int)) fun b=>bif !b then next (acc++[c]) else next acc
def Zge (i:Nat) (removed:List Int) {ρ:Type} (k:Nat) (S:Sch) (next:Sch→Option ρ):Option ρ:=
 getK S.tables (i:Int) fun T=>getK T.pk (k:Int) fun v=>bindK (Z0u v removed) fun v'=>next { S with tables:=S.tables.set i { T with pk:=T.pk.set k v' } }
def Z16 (S:Sch) (i:Nat) (removed:List Int):Option Sch:=
 getK S.tables (i:Int) fun T=>forK (Zgf removed) (fun cols=>countK (Zge i removed) (fun S=>getK S.tables (i:Int) fun T=>bindK (Z0v { S with tables:=S.tables.set i { T with cols:=cols } } T.name fun c=>Z0u c removed) some) T.pk.length 0 S) T.cols 0 []
theorem Z3y (h:HS) (l:Lab) (tc fc oc rc:C) (ta fa oa:List Lab) (S S':Sch) (i:Nat) (removed:List Int) (hm:Is (Z16 S i removed) S') (s:Sc h l S tc fc oc ta fa oa) (hf:∀ h',Same h h' (ta++(fa++oa))→Frz h' rc (.sl (removed.map encI))) (K:V→HS→Prop)
  (hk:∀ h' ta',Sc h' l S' tc fc oc ta' fa oa→Same h h' (ta++(fa++oa))→(∀ k ∈ ta',k ∈ ta∨h.ep≤k.1)→K (.tup []) h') :
  HSpec Tryz.prog 185 [.one (.ptr l 0),.one (.d (.int .i64 (i:Int))),.one rc] h K:=by
 have hb:=s.box;replace hm:=Is.getN hm;obtain⟨T,hi,hm⟩:=hm;obtain⟨lt,c1,c2,B,tv⟩:=s.tbl hi;obtain⟨cap,rfl⟩:=tv.hd;have hlt:i < S.tables.length:=(List.getElem?_eq_some_iff.1 hi).1;have bx:=tv.el.box;have r0:=tv.el.rd0 1 (by omega);have r1:=tv.el.rd 1 1 (by omega);have r2:=tv.el.rd 2 1 (by omega);simp at r0 r1 r2;have hne:=ne_new (s.lt l (by simp));have hnt:=ne_new (s.lt lt (by simp[tv.tm]));refine HSpec.of_vc Tryz.func185 rfl (by kernel_rfl) (n:=70) rfl rfl (by simp) ?_;simp[hb,hlt,bx,r1,hne,hnt];refine Z1h tv.n1.1 ?_;simp;have hs0:Same h ((h.setBox (h.ep,80) [rc]).next) []:=(Same.refl.setBox (.inr (Nat.le_refl _))).next;refine Wait.for (xs:=T.cols) (s0:=[]) (fun k acc e h1=>∃ ch,e.n=70∧e.get 0=.one (.ptr l 0)∧e.get 5=.one (.ptr (h.ep,80) 0)∧e.get 6=.one (.ptr lt (i * 3))∧e.get 7=.one (.fn 205 [.lab (h.ep,80)])∧e.get 8=.one ch∧e.get 23=.one c1∧e.get 24=.one (.d (.int .i64 (T.cols.length:Int)))∧e.get 25=.one (.d (.int .i64 (k:Int))) ∧
  acc.length≤k∧h1.box (h.ep,80)=some [rc]∧MR h1 3 ch (acc.map fun c=>c.enc.map C.d)∧(∀ k ∈ labs ch,h.ep < k.1∧k.1 < h1.ep)∧Same h h1 []∧h.ep < h1.ep) hm ⟨.nil,by simp,by simp,by simp,by simp,by simp,by simp,by simp,by simp,by simp,by simp,by simp,MR.nil,by simp[labs],hs0,by simp⟩ ?_ ?_
 ·rintro k acc e h1 ⟨ch,hn,h0,h5,h6,h7,h8,h23,h24,h25,hal,hb5,mh,lh,hs1,hep1⟩ hltk hm;replace hm:=Is.bind hm;obtain⟨b,hb',hm⟩:=hm;have hfl:=tv.n1.2;simp only[lim_eq] at hfl;have hw:IntKind.i64.wrap ((k:Int)+1)=(k:Int)+1:=IntWalk.i64_in _ (by omega);have s1:=s.frame hs1;have bx1:h1.box lt=some B:=by rw[hs1.2 lt (s.lt lt (by simp[tv.tm])) (by simp)];exact bx
  obtain⟨c1',c2',tv1⟩:=s1.tblK bx1 hi;obtain rfl:c1'=c1:=by
   have:=tv1.el.rd 1 1 (by omega)
   simp[r1] at this;exact this.symm
  obtain⟨l2,cap2,B2,rfl,el2,-⟩:=tv1.e1 k _ (List.getElem?_eq_getElem hltk);have bx2:=el2.box;have q0:=el2.rd0 3 (by omega);simp at q0;simp[hn,h0,h5,h6,h7,h8,h23,h24,h25,hltk,bx2,q0,hb5,hw];have hz:Same h1 ((h1.setBox (h1.ep,160) [C.d (D.str ByteArray.empty),C.d (D.int IntKind.i64 0),C.d (D.bool false)]).next.setBox (h1.ep,160) [C.d (D.str T.cols[k].name),C.d (D.int IntKind.i64 T.cols[k].kind),C.d (D.bool T.cols[k].nullable)]) []:=((Same.refl.setBox (.inr (Nat.le_refl _))).next).setBox (.inr (Nat.le_refl _));have hy:=hs1.trans hz;generalize hX:(h1.setBox (h1.ep,160) [C.d (D.str ByteArray.empty),C.d (D.int IntKind.i64 0),C.d (D.bool false)]).next.setBox (h1.ep,160) [C.d (D.str T.cols[k].name),C.d (D.int IntKind.i64 T.cols[k].kind),C.d (D.bool T.cols[k].nullable)]=HX at hz hy ⊢;have bx10:HX.box (h1.ep,160)=some [C.d (D.str T.cols[k].name),C.d (D.int IntKind.i64 T.cols[k].kind),C.d (D.bool T.cols[k].nullable)]:=by rw[← hX];simp
  have hb5':HX.box (h.ep,80)=some [rc]:=by rw[hz.2 _ (by simpa using hep1) (by simp)];exact hb5
  have mh':MR HX 3 ch (acc.map fun c=>c.enc.map C.d):=mh.frame fun k hk=>hz.2 k (lh k hk).2 (by simp);have hepx:h1.ep+1=HX.ep:=by rw[← hX];simp
  refine Z01 (HSpec.of_lend (c_slices_Contains_Int removed k b hb') ⟨.one (.frz (hf _ (hy.mono (by simp)))),.one (.frz (.data rfl)),trivial⟩ rfl ?_);cases b with
  | true=>
    simp only[Bool.not_true,cond_false] at hm;simp[hn,h0,h5,h6,h7,h8,h23,h24,h25,hw];exact BackF.of acc ⟨⟨ch,by simp[hn],by simp[h0],by simp[h5],by simp[h6],by simp[h7],by simp[h8],by simp[h23],by simp[h24],by simp,by omega,by simpa using hb5',mh'.frame (by simp),fun k hk=>⟨(lh k hk).1,by have:=(lh k hk).2;simp<;>omega⟩,hy.next,by simp<;>omega⟩,hm⟩
  | false=>
    simp only[Bool.not_false,cond_true] at hm;simp[hn,h0,h5,h6,h7,h8,h23,h24,h25,hw,bx10];refine app_mr (by simp;exact⟨rfl,rfl⟩) (by simp) (by simp) (by simp) (mh'.frame (by simp)) (RowAt.own1 (by simp)) (by simp<;>omega) (fun c' h' hm' hs3 hl3=>?_);have hs4:Same h h' []:=(hy.next.setArr.next).trans' hs3 (fun k hk=>.inr (Nat.le_of_lt (lh k hk).1));have hep2:=hs3.1;simp at hep2;simp[hn,h25,hw];refine BackF.of _ ⟨⟨c',by simp[hn],by simp[h0],by simp[h5],by simp[h6],by simp[h7],by simp,by simp[h23],by simp[h24],by simp,by simp<;>omega,?_,by simpa using hm',fun k hk=>?_,hs4,by omega⟩,hm⟩
    ·rw[hs3.2 _ (by simp<;>omega) (fun h2=>by have:=(lh _ h2).1;simp at this)];simpa using hb5'
    ·rcases hl3 k hk with h2 | h2
     ·have:=lh k h2;exact⟨this.1,by omega⟩
     ·simp at h2;exact⟨by omega,h2.2⟩
 ·rintro cols e h1 ⟨ch,hn,h0,h5,h6,h7,h8,h23,h24,h25,hal,hb5,mh,lh,hs1,hep1⟩ hm;have s1:=s.frame hs1;have bx1:h1.box lt=some B:=by rw[hs1.2 lt (s.lt lt (by simp[tv.tm])) (by simp)];exact bx
  simp[hn,h6,h24,h25,bx1,r2];refine Z1h tv.n2.1 ?_;simp[hn];refine Wait.count (N:=(T.pk.length:Int)) (s0:=S) (fun k S2 e h2=>e.n=70∧e.get 0=.one (.ptr l 0)∧e.get 5=.one (.ptr (h.ep,80) 0)∧e.get 6=.one (.ptr lt (i * 3))∧e.get 7=.one (.fn 205 [.lab (h.ep,80)])∧e.get 8=.one ch∧e.get 42=.one c2∧e.get 43=.one (.d (.int .i64 (T.pk.length:Int)))∧e.get 44=.one (.d (.int .i64 (k:Int))) ∧
   h2.box (h.ep,80)=some [rc]∧MR h2 3 ch (cols.map fun c=>c.enc.map C.d)∧(∀ k ∈ labs ch,h.ep < k.1∧k.1 < h2.ep)∧h2.box lt=some B∧(∃ T2,S2.tables[i]?=some T2∧T2.pk.length=T.pk.length)∧Sc h2 l S2 (.mrow lt 0 S.tables.length cap) fc oc ta fa oa∧Same h h2 ta∧h.ep < h2.ep) (by simpa using hm) ⟨by simp[hn],by simp[h0],by simp[h5],by simp[h6],by simp[h7],by simp[h8],by simp,by simp,by simp,hb5,mh,lh,bx1,⟨T,hi,rfl⟩,s1,hs1.mono (by simp),hep1⟩ ?_ ?_
  ·rintro k S2 e h3 ⟨hn,h0,h5,h6,h7,h8,h42,h43,h44,hb5,mh,lh,bx3,⟨T2,hi2,hpl⟩,s3,hs3,hep3⟩ hltk hm;replace hm:=Is.getN hm;obtain⟨T2',hi2',hm⟩:=hm;rw[hi2] at hi2';cases hi2';replace hm:=hm.getN;obtain⟨v,hv,hm⟩:=hm;replace hm:=hm.bind;obtain⟨v',hv',hm⟩:=hm;have hltk1:k < T.pk.length:=by omega
   have hltk2:k < T2.pk.length:=by omega
   have hfl:=tv.n2.2;simp only[lim_eq] at hfl;have hw:IntKind.i64.wrap ((k:Int)+1)=(k:Int)+1:=IntWalk.i64_in _ (by omega);obtain⟨c1',c2',tv3⟩:=s3.tblK bx3 hi2;obtain rfl:c2'=c2:=by
    have:=tv3.el.rd 2 1 (by omega)
    simp[r2] at this;exact this.symm
   obtain⟨l2,cap2,B2,rfl,el2,w2⟩:=tv3.e2 k v hv;have bx4:=el2.box;have q0:=el2.rd0 1 (by omega);have q1:=el2.le;simp at q0 q1;have hl2:=tv3.l2 l2 (by simp[labs]);have hlt2:=s.lt l2 (by simp[hl2.1]);simp[hn,h0,h5,h6,h7,h8,h42,h43,h44,hltk1,hltk2,bx4,q0,hw];refine Wait.cut (Plan.then_ [0,4,5,6,1,2,3,7,8,9] .done) follows (by kernel_rfl) (fun e h2=>e.n=70∧e.get 0=.one (.ptr l 0)∧e.get 5=.one (.ptr (h.ep,80) 0)∧e.get 6=.one (.ptr lt (i * 3))∧e.get 7=.one (.fn 205 [.lab (h.ep,80)])∧e.get 8=.one ch∧e.get 42=.one (.mrow l2 0 T2.pk.length cap2)∧e.get 43=.one (.d (.int .i64 (T.pk.length:Int)))∧e.get 44=.one (.d (.int .i64 (k:Int))) ∧
    h2.box (h.ep,80)=some [rc]∧MR h2 3 ch (cols.map fun c=>c.enc.map C.d)∧(∀ k ∈ labs ch,h.ep < k.1∧k.1 < h2.ep)∧h2.box lt=some B∧Sc h2 l { S2 with tables:=S2.tables.set i { T2 with pk:=T2.pk.set k v' } } (.mrow lt 0 S.tables.length cap) fc oc ta fa oa∧Same h h2 ta∧h.ep < h2.ep) ?_ ?_
   ·simp[hn,h0,h5,h6,h7,h8,h42,h43,h44,hltk1,hltk2,bx3,bx4,r2,q0,Plan.then_,vcPlan,Z02,Z00,callKind];refine Z01 (HSpec.of_lend (c_evolution_removeColumns_1 v removed v' hv') ⟨.one (.frz (.data rfl)),.one (.ptr hb5 ⟨hf h3 (hs3.mono (fun k hk=>by simp[hk])),trivial⟩),trivial⟩ rfl ?_);simp[hn,hltk2,bx4];refine⟨fun _ _ x=>x,by omega,CutK.of ⟨by simp[hn],by simp[h0],by simp[h5],by simp[h6],by simp[h7],by simp[h8],by simp[h42],by simp[h43],by simp[h44],?_,?_,fun k hk=>⟨(lh k hk).1,by have:=(lh k hk).2;simp<;>omega⟩,?_,?_,hs3.next.setBox (.inl hl2.1),by simp<;>omega⟩⟩
    ·have:¬ (h.ep,80)=l2:=fun he=>by rw[← he] at hlt2;simp at hlt2
     simp[this,hb5]
    ·refine mh.frame fun k hk=>?_
     have:k≠l2:=fun he=>by have:=(lh k hk).1;rw[he] at this;omega
     simp[this]
    ·simp[hl2.2.symm,bx3]
    ·obtain⟨c1'',c2'',tv4⟩:=(s3.frame (Same.refl.next:Same h3 h3.next [])).tblK (by simpa using bx3) hi2;obtain rfl:c2''=.mrow l2 0 T2.pk.length cap2:=by
      have:=tv4.el.rd 2 1 (by omega)
      simp[r2] at this;exact this.symm
     obtain⟨l2',cap2',B2',e1,el4,w4⟩:=tv4.e2 k v hv;simp at e1;obtain⟨rfl,rfl⟩:=e1
     have:=el4.box
     simp only[Zfc,bx4] at this;cases this;simpa using w4 v'
   ·rintro e h4 ⟨hn,h0,h5,h6,h7,h8,h42,h43,h44,hb5,mh,lh,bx4,s4,hs4,hep4⟩;have hi3:i < S2.tables.length:=(List.getElem?_eq_some_iff.1 hi2).1;simp[hn,h44,hw];exact BackF.of _ ⟨⟨by simp[hn],by simp[h0],by simp[h5],by simp[h6],by simp[h7],by simp[h8],by simp[h42],by simp[h43],by simp,hb5,mh,lh,bx4,⟨{ T2 with pk:=T2.pk.set k v' },by simp[hi3],by simpa using hpl⟩,s4,hs4,hep4⟩,hm⟩
  ·rintro k S2 e h3 ⟨hn,h0,h5,h6,h7,h8,h42,h43,h44,hb5,mh,lh,bx3,⟨T2,hi2,hpl⟩,s3,hs3,hep3⟩ hge hm;have hge1:¬ k < T.pk.length:=by omega
   replace hm:=Is.getN hm;obtain⟨T2',hi2',hm⟩:=hm;rw[hi2] at hi2';cases hi2';replace hm:=hm.bind;obtain⟨S4,hm4,hm⟩:=hm;obtain rfl:=r_ret hm;obtain⟨c1',c2',tv3⟩:=s3.tblK bx3 hi2;obtain⟨ta',s4,hta⟩:=tv3.s1 h3 ch cols mh .refl fun k hk=>.inr ⟨fun h2=>by have:=s.lt k h2;have:=(lh k hk).1;omega,(lh k hk).2⟩;have hle:=tv3.el.le;have el5:=tv3.el.set (g:=1) (vs:=[ch]) (by simp) (by simp);have q0:=el5.rd0 1 (by omega);simp at q0;simp[hn,h0,h6,h7,h8,h43,h44,hge1,bx3];refine⟨by omega,?_⟩;simp[hn,h0,h7,h8,q0];have hs5:Same h (h3.setBox lt (Z03 B (i * 3+1) [ch])) ta:=hs3.setBox (.inl tv.tm);have hlt80:∀ k ∈ ta++(fa++oa),k≠(h.ep,80):=fun k hk he=>by have:=s.lt k (by simp at hk ⊢;exact .inr hk);rw[he] at this;simp at this
   refine Z01 (Z5r _ l (.mrow lt 0 S.tables.length cap) fc oc ta' fa oa _ S4 T2.name 205 [.lab (h.ep,80)] [[.sl (removed.map encI)]] _ hm4 s4 (fun h' hs'=>?_) (fun x v hv=>c_evolution_removeColumns_1 x removed v hv) _ (fun h' s5 hs'=>?_))
   ·have hs6:Same h h' (ta++(fa++oa)):=(hs5.mono fun k hk=>by simp[hk]).trans (hs'.mono fun k hk=>List.mem_append_right _ hk);refine⟨.one (.ptr (cs:=[rc]) ?_ ⟨hf h' hs6,trivial⟩),trivial⟩;rw[hs'.2 _ (by simpa using hep3) fun h2=>hlt80 _ (List.mem_append_right _ h2) rfl]
    have:¬ (h.ep,80)=lt:=fun he=>hlt80 lt (by simp[tv.tm]) he.symm
    simp[this,hb5]
   ·simp[hn];refine hk h' ta' s5 ((hs5.mono fun k hk=>by simp[hk]).trans (hs'.mono fun k hk=>List.mem_append_right _ hk)) fun k hk=>?_;rcases hta k hk with h2 | h2
    ·exact .inl h2
    ·exact .inr (Nat.le_of_lt (lh k h2).1)
end
section
open Go.Am
def Z1c (v_:GV) (c:Col):Option Int:=
 (bindK (Z0h v_) fun v3=>(bif (v3 != 0) then (some v3) else (bif (v_.kind == 0) then (bif !c.nullable then (some 8) else (bif (v_.kind != 0) then (bif (v_.kind != c.kind) then (some 7) else (some 0)) else (some 0))) else (bif (v_.kind != 0) then (bif (v_.kind != c.kind) then (some 7) else (some 0)) else (some 0)))))
instance c_evolution_checkDefault (v_:GV) (c:Col):Con (Z1c v_ c) Tryz.prog 195 [.agg v_.enc,.agg c.enc] (fun r=>.one (.d (.int .i64 r))):=by
 unfold Z1c;exact go 29 Tryz.func195 rfl (by kernel_rfl) rfl rfl (by simp)
end
end Go.Proofs.YthiojhcimecdgaaGreatDoor
section
namespace Go.Proofs.YthiojhcimecdgaaGreatDoor
open Go Go.Am
def StpSh:List Sh:=[.d,.d,.d,.d,.d,.d,.r [.d],.d,.d,.d,.d,.d,.r [.d,.d,.d],.r [.d],.d,.d,.d,.d,.d,.d,.d,.d,.r [.d],.d]
def stpC (x:Stp) (x6 x12 x13 x22:C):List C:=[.d (.int .i64 x.kind),.d (.str x.table),.d (.str x.other),.d (.str x.column),.d (.str x.newName),.d (.int .i64 x.type),x6,.d (.str x.op),
 .d (.int .i64 x.value.kind),.d (.int .i64 x.value.int),.d (.str x.value.text),.d (.str x.newTable.name),x12,x13,
 .d (.str x.cons.table),.d (.int .i64 x.cons.left),.d (.str x.cons.op),.d (.int .i64 x.cons.right),.d (.int .i64 x.cons.value.kind),.d (.int .i64 x.cons.value.int),.d (.str x.cons.value.text),
 .d (.str x.fk.table),x22,.d (.str x.fk.ref)]
end Go.Proofs.YthiojhcimecdgaaGreatDoor
namespace Go.Am
open Go Go.Proofs.YthiojhcimecdgaaGreatDoor
theorem Ow.dcons {h:HS} {ss:List Sh} {c:C} {cs:List C} {x:D} {ds:List D} {ls:List Lab} (o:Ow h (.d::ss) cs (x::ds) ls) (hx:x.flat=true):∃ cs',cs=.d x::cs'∧Ow h ss cs' ds ls:=by
 obtain⟨c,y,cs',ds',rfl,e,e2,o'⟩:=o.inv_d;simp at e;obtain⟨rfl,rfl⟩:=e;obtain rfl:=(Frz.data (h:=h) e2).flat hx;exact⟨cs',rfl,o'⟩
end Go.Am
namespace Go.Proofs.YthiojhcimecdgaaGreatDoor
open Go Go.Am
end Go.Proofs.YthiojhcimecdgaaGreatDoor
namespace Go.Am
open Go Go.Proofs.YthiojhcimecdgaaGreatDoor
theorem Ow.stp {h:HS} {xs:List C} {x:Stp} {ls:List Lab} (o:Ow h StpSh xs x.enc ls):∃ x6 x12 x13 x22 a b c d,xs=stpC x x6 x12 x13 x22∧ls=a++(b++(c++d))∧Ow h [.r [.d]] [x6] [.sl (x.cols.map encI)] a∧Ow h [.r [.d,.d,.d]] [x12] [.sl (x.newTable.cols.map Col.enc)] b∧Ow h [.r [.d]] [x13] [.sl (x.newTable.pk.map encI)] c∧Ow h [.r [.d]] [x22] [.sl (x.fk.cols.map encI)] d:=by
 simp only[StpSh,Stp.enc] at o;obtain⟨_,rfl,o_0⟩:=o.dcons (c:=.nil) rfl;obtain⟨_,rfl,o_1⟩:=o_0.dcons (c:=.nil) rfl;obtain⟨_,rfl,o_2⟩:=o_1.dcons (c:=.nil) rfl;obtain⟨_,rfl,o_3⟩:=o_2.dcons (c:=.nil) rfl;obtain⟨_,rfl,o_4⟩:=o_3.dcons (c:=.nil) rfl;obtain⟨_,rfl,o_5⟩:=o_4.dcons (c:=.nil) rfl;obtain⟨x6,_,a,_,rfl,rfl,o6,o_6⟩:=o_5.split;obtain⟨_,rfl,o_7⟩:=o_6.dcons (c:=.nil) rfl;obtain⟨_,rfl,o_8⟩:=o_7.dcons (c:=.nil) rfl;obtain⟨_,rfl,o_9⟩:=o_8.dcons (c:=.nil) rfl;obtain⟨_,rfl,o_10⟩:=o_9.dcons (c:=.nil) rfl;obtain⟨_,rfl,o_11⟩:=o_10.dcons (c:=.nil) rfl;obtain⟨x12,_,b,_,rfl,rfl,o12,o_12⟩:=o_11.split;obtain⟨x13,_,c,_,rfl,rfl,o13,o_13⟩:=o_12.split;obtain⟨_,rfl,o_14⟩:=o_13.dcons (c:=.nil) rfl;obtain⟨_,rfl,o_15⟩:=o_14.dcons (c:=.nil) rfl;obtain⟨_,rfl,o_16⟩:=o_15.dcons (c:=.nil) rfl;obtain⟨_,rfl,o_17⟩:=o_16.dcons (c:=.nil) rfl;obtain⟨_,rfl,o_18⟩:=o_17.dcons (c:=.nil) rfl;obtain⟨_,rfl,o_19⟩:=o_18.dcons (c:=.nil) rfl;obtain⟨_,rfl,o_20⟩:=o_19.dcons (c:=.nil) rfl;obtain⟨_,rfl,o_21⟩:=o_20.dcons (c:=.nil) rfl;obtain⟨x22,_,d,_,rfl,rfl,o22,o_22⟩:=o_21.split;obtain⟨_,rfl,o_23⟩:=o_22.dcons (c:=.nil) rfl;obtain⟨rfl,_,rfl⟩:=o_23.inv_nil;exact⟨x6,x12,x13,x22,a,b,c,d,rfl,by simp,o6,o12,o13,o22⟩
end Go.Am
namespace Go.Proofs.YthiojhcimecdgaaGreatDoor
open Go Go.Am
end Go.Proofs.YthiojhcimecdgaaGreatDoor
namespace Go.Am
open Go Go.Proofs.YthiojhcimecdgaaGreatDoor
theorem Ow.mkStp {h:HS} {x:Stp} {x6 x12 x13 x22:C} {a b c d:List Lab} (o6:Ow h [.r [.d]] [x6] [.sl (x.cols.map encI)] a) (o12:Ow h [.r [.d,.d,.d]] [x12] [.sl (x.newTable.cols.map Col.enc)] b) (o13:Ow h [.r [.d]] [x13] [.sl (x.newTable.pk.map encI)] c) (o22:Ow h [.r [.d]] [x22] [.sl (x.fk.cols.map encI)] d):Ow h StpSh (stpC x x6 x12 x13 x22) x.enc (a++(b++(c++d))):=by
 have e:=o22.join (Ow.data (c:=.d (.str x.fk.ref)) (x:=.str x.fk.ref) rfl .nil);have e2:=o13.join (.data (c:=.d (.str x.cons.table)) rfl (.data (c:=.d (.int .i64 x.cons.left)) rfl (.data (c:=.d (.str x.cons.op)) rfl (.data (c:=.d (.int .i64 x.cons.right)) rfl (.data (c:=.d (.int .i64 x.cons.value.kind)) rfl (.data (c:=.d (.int .i64 x.cons.value.int)) rfl (.data (c:=.d (.str x.cons.value.text)) rfl (.data (c:=.d (.str x.fk.table)) rfl e))))))));have e3:=o6.join (.data (c:=.d (.str x.op)) rfl (.data (c:=.d (.int .i64 x.value.kind)) rfl (.data (c:=.d (.int .i64 x.value.int)) rfl (.data (c:=.d (.str x.value.text)) rfl (.data (c:=.d (.str x.newTable.name)) rfl (o12.join e2))))));have e4:=Ow.data (c:=.d (.int .i64 x.kind)) rfl (.data (c:=.d (.str x.table)) rfl (.data (c:=.d (.str x.other)) rfl (.data (c:=.d (.str x.column)) rfl (.data (c:=.d (.str x.newName)) rfl (.data (c:=.d (.int .i64 x.type)) rfl e3)))));simp only[List.append_nil] at e4;exact e4
end Go.Am
namespace Go.Proofs.YthiojhcimecdgaaGreatDoor
open Go Go.Am
end Go.Proofs.YthiojhcimecdgaaGreatDoor
namespace Go.Am
open Go Go.Proofs.YthiojhcimecdgaaGreatDoor
theorem Ow.nelem {h:HS} {x:C} {vs:List Int} {ls:List Lab} (o:Ow h [.r [.d]] [x] [.sl (vs.map encI)] ls) {k:Nat} {v:Int} (hk:vs[k]?=some v):∃ l2 cap B,x=.mrow l2 0 vs.length cap∧l2 ∈ ls∧h.box l2=some B∧takeN 1 (B.drop k)=some [.d (.int .i64 v)]:=by
 obtain⟨qs,rfl,P⟩:=o.npart (fun h0=>by have:vs=[]:=by simpa using h0
                                       rw[this] at hk;simp at hk)
 obtain⟨l2,cap,B,k1,k2,k3,k4⟩:=P.elemD (n:=1) rfl (Z60 (f:=encI) hk) (Zdt v)
 have:=k2.rd0 1 (by omega)
 simp at this;exact⟨l2,cap,B,by simpa using k1,by rw[k1];simp[plabs,labs],k2.box,this⟩
end Go.Am
namespace Go.Proofs.YthiojhcimecdgaaGreatDoor
open Go Go.Am
def Z3t (S:Sch) (i:Nat) (step:Stp):Option (Sch × Int):=
 bindK (Z1c step.value ⟨step.column,step.type,step.value.kind == 0⟩) fun e=>bif e != 0 then some (S,e) else
 getK S.tables (i:Int) fun T=>chkK (0 < T.cols.length∧T.cols.length < LIM) (some ({ S with tables:=S.tables.set i { T with cols:=T.cols++[⟨step.column,step.type,step.value.kind == 0⟩] } },0))
theorem Zdi {ta ta' fa oa lx:List Lab} {n:Nat} (h:∀ k ∈ ta',k ∈ ta∨n≤k.1):∀ k ∈ ta'++(fa++oa),k ∈ ta++(fa++oa)∨n≤k.1:=fun k hk=>by
 simp only[List.mem_append] at hk ⊢;rcases hk with hk | hk | hk
 ·exact (h k hk).imp_left .inl
 ·exact .inl (.inr (.inl hk))
 ·exact .inl (.inr (.inr hk))
theorem Z96 (h:HS) (l:Lab) (tc fc oc x6 x12 x13 x22:C) (ta fa oa:List Lab) (S S':Sch) (i:Nat) (step:Stp) (r:Int) (hm:Is (Z3t S i step) (S',r)) (s:Sc h l S tc fc oc ta fa oa) (K:V→HS→Prop)
  (hk:KeepS h l (ta++(fa++oa)) S' (.one (.d (.int .i64 r))) K) :
  HSpec Tryz.prog 166 [.one (.ptr l 0),.one (.d (.int .i64 (i:Int))),.agg (stpC step x6 x12 x13 x22)] h K:=by
 replace hm:=hm.bind;obtain⟨ev,hev,hm⟩:=hm;refine HSpec.of_vc Tryz.func166 rfl (by kernel_rfl) (n:=43) rfl rfl (by simp) ?_;simp[stpC];have hs0:Same h (((h.setBox (h.ep,80) (stpC step x6 x12 x13 x22)).next.setBox (h.ep+1,112) [C.d (D.str ByteArray.empty),C.d (D.int IntKind.i64 0),C.d (D.bool false)]).next.setBox (h.ep+1,112) [C.d (D.str step.column),C.d (D.int IntKind.i64 step.type),C.d (D.bool (step.value.kind == 0))]) []:=(((Same.refl.setBox (.inr (Nat.le_refl _))).next.setBox (.inr (by simp))).next.setBox (.inr (by simp)));simp only[stpC] at hs0;generalize hX:(((h.setBox (h.ep,80) _).next.setBox (h.ep+1,112) _).next.setBox (h.ep+1,112) _)=HX at hs0 ⊢;have bx7:HX.box (h.ep+1,112)=some [C.d (D.str step.column),C.d (D.int IntKind.i64 step.type),C.d (D.bool (step.value.kind == 0))]:=by rw[← hX];simp
 refine Z01 (HSpec.of_lend (c_evolution_checkDefault step.value ⟨step.column,step.type,step.value.kind == 0⟩ ev hev) ⟨.agg (FrzCs.datas (ds:=step.value.enc)),.agg (FrzCs.datas (ds:=(⟨step.column,step.type,step.value.kind == 0⟩:Col).enc)),trivial⟩ rfl ?_);cases hev0:ev != 0 with
 | true=>
   rw[hev0] at hm;have e1:=r_ret hm;simp only[Prod.mk.injEq] at e1;obtain⟨rfl,rfl⟩:=e1;have hev1:¬ ev=0:=by simpa using hev0
   simp[hev0,hev1];exact hk _ _ (s.frame hs0.next).ows (hs0.next.mono (by simp)) (fun k hk=>.inl hk)
 | false=>
   simp only[hev0,cond_false] at hm;have hev1:ev=0:=by simpa using hev0
   replace hm:=hm.getN;obtain⟨T,hi,hm⟩:=hm;replace hm:=hm.chk;obtain⟨⟨hc0,hc1⟩,hm⟩:=hm;have e1:=r_ret hm;simp only[Prod.mk.injEq] at e1;obtain⟨rfl,rfl⟩:=e1;simp[hev0,hev1];have s1:=s.frame hs0;have hb1:=s1.box;have hlt:i < S.tables.length:=(List.getElem?_eq_some_iff.1 hi).1;obtain⟨lt,c1,c2,B,tv⟩:=s1.tbl hi;obtain⟨cap,rfl⟩:=tv.hd;have bx:=tv.el.box;have r1:=tv.el.rd 1 1 (by omega);have hle:=tv.el.le;simp at r1;have hne:=ne_new (s1.lt l (by simp));have hnt:=ne_new (s1.lt lt (by simp[tv.tm]));refine Wait.cut (Plan.then_ [0,1,2,4,5,6,7,8,9,10,11,12,13] (.two 3 14 (Plan.then_ [14,15,16,17,18] .done) (Plan.then_ [] (.two 3 15 (Plan.then_ [15,16,17,18] .done) (Plan.then_ [3,16,17,18] .done))))) follows (by kernel_rfl) (fun e h'=>e.n=43∧∃ ta',Sc h' l { S with tables:=S.tables.set i { T with cols:=T.cols++[⟨step.column,step.type,step.value.kind == 0⟩] } } (.mrow lt 0 S.tables.length cap) fc oc ta' fa oa∧Same h h' ta∧∀ k ∈ ta',k ∈ ta∨h.ep≤k.1) ?_ ?_
   ·simp[hb1,bx7,hlt,bx,r1,hne,hnt,Plan.then_,vcPlan,Z02,Z00,callKind];have hs2:Same HX (((HX.next).setArr (HX.ep+1,16 * 39) (some (1,3))).next) []:=(Same.refl.next).setArr.next;simp only[Nat.reduceMul] at hs2;obtain⟨c1',c2',tv2⟩:=(s1.frame hs2).tblK (by simpa using bx) hi;obtain rfl:c1'=c1:=by
     have:=tv2.el.rd 1 1 (by omega)
     simp[r1] at this;exact this.symm
    have hc2:T.cols.length < 2097152:=hc1;refine⟨?_,?_,?_⟩
    all_goals
     refine app_mr (by simp;exact⟨rfl,rfl⟩) (by simp) (by simp) (by simp) (tv2.m1 (by intro h0;simp[h0] at hc0)) (RowAt.own1 (by simp)) (by simp<;>omega) (fun c' h' hm' hs3 hl3=>?_);have hbl:h'.box lt=some B:=by
      rw[hs3.2 lt ((s1.frame hs2).lt lt (by simp[tv.tm])) fun h2=>(tv2.l1 lt h2).2 rfl];simpa using bx
     have hbs:h'.box l=some [.mrow lt 0 S.tables.length cap,fc,oc]:=(s1.frame hs2).keep hs3 fun k hk=>.inl (tv2.l1 k hk).1;have hep:=hs3.1;simp at hep;obtain⟨ta',s4,hta⟩:=tv2.s1 h' c' (T.cols++[⟨step.column,step.type,step.value.kind == 0⟩]) (by simpa using hm') hs3 (fun k hk=>(hl3 k hk).imp_right fun h2=>⟨fun h3=>by have:=(s1.frame hs2).lt k h3;omega,h2.2⟩);simp[hlt,hbl,hbs];refine⟨by omega,CutK.of ⟨by simp,ta',s4,?_,fun k hk=>?_⟩⟩
     ·exact ((hs0.trans hs2).mono (by simp) |>.trans (hs3.mono fun k hk=>(tv2.l1 k hk).1)).setBox (.inl tv.tm)
     ·rcases hta k hk with h2 | h2
      ·exact .inl h2
      ·rcases hl3 k h2 with h3 | h3
       ·exact .inl (tv2.l1 k h3).1
       ·refine .inr ?_;have h4:=h3.1;have h5:=hs0.1;simp at h4;omega
   ·rintro e h1 ⟨hn,ta',s4,hs4,hta⟩;simp[hn];exact hk _ _ s4.ows (hs4.mono fun k hk=>by simp[hk]) (Zdi (lx:=[]) hta)
end Go.Proofs.YthiojhcimecdgaaGreatDoor
end
namespace Go.Proofs.YthiojhcimecdgaaGreatDoor
section
open Go.Am
def Z1y (fk:Fk) (k0:Tbl) (k1:Int):Option Bool:=
 (bif strEq fk.table k0.name then (bindK (Z0w fk.cols k1) fun v3=>(some v3)) else (some false))
instance c_evolution_checkUnused_1 (fk:Fk) (k0:Tbl) (k1:Int):Con (Z1y fk k0 k1) Tryz.prog 214 [.agg fk.enc,.one (.rp [.str k0.name,.sl (k0.cols.map Col.enc),.sl (k0.pk.map encI)]),.one (.rp [.int .i64 k1])] (fun r=>.one (.d (.bool r))):=by
 unfold Z1y;exact go 16 Tryz.func214 rfl (by kernel_rfl) rfl rfl (by simp)
instance f_evolution_checkUnused_1 (k0:Tbl) (k1:Int):ConF (fun x=>Z1y x k0 k1) Tryz.prog (fun x=>.agg x.enc) (fun r=>.one (.d (.bool r))) 214 [[.str k0.name,.sl (k0.cols.map Col.enc),.sl (k0.pk.map encI)],[.int .i64 k1]]:=⟨fun x=>(c_evolution_checkUnused_1 x k0 k1)⟩
def Z10 (s_:List Cons) (f:Cons→Option Bool):Option Int:=
 (forK (fun (i2:Nat) (x2:Cons) (s2:Unit) next_2=>(bindK (f x2) fun v3=>(bif v3 then (some (i2:Int)) else (next_2 ())))) (fun (s2:Unit)=>(some (-1))) s_ 0 ())
instance i_slices_IndexFunc_Constraint (s_:List Cons) (f:Cons→Option Bool) {g:FuncId} {caps:List (List D)} [ConF f Tryz.prog (fun x=>.agg x.enc) (fun v=>.one (.d (.bool v))) g caps]:Con (Z10 s_ f) Tryz.prog 232 [.one (.d (.sl (s_.map Cons.enc))),.one (.fn g caps)] (fun r=>.one (.d (.int .i64 r))):=by
 unfold Z10;have l1:LH (σ:=Unit) 8 [0,1,7] []:=.intro;exact go 19 Tryz.func232 rfl (by kernel_rfl) rfl rfl (by simp)
theorem Z6q (s_:List Cons) (g:FuncId) (caps:List (List D)) (f:Cons→Option Bool) (hf:∀ xa v,Is (f xa) v→PSpec Tryz.prog g (.agg xa.enc::capsOf caps) (.one (.d (.bool v)))) (r:Int) (hm:Is (Z10 s_ f) r):PSpec Tryz.prog 232 [.one (.d (.sl (s_.map Cons.enc))),.one (.fn g caps)] (.one (.d (.int .i64 r))):=
 haveI:ConF f Tryz.prog (fun x=>.agg x.enc) (fun v=>.one (.d (.bool v))) g caps:=⟨hf⟩
 (i_slices_IndexFunc_Constraint s_ f).h r hm
def Z1d (s_:List Cons) (f:Cons→Option Bool):Option Bool:=
 (bindK (Z10 s_ f) fun v1=>(some (decide (0≤v1))))
instance i_slices_ContainsFunc_Constraint (s_:List Cons) (f:Cons→Option Bool) {g:FuncId} {caps:List (List D)} [ConF f Tryz.prog (fun x=>.agg x.enc) (fun v=>.one (.d (.bool v))) g caps]:Con (Z1d s_ f) Tryz.prog 215 [.one (.d (.sl (s_.map Cons.enc))),.one (.fn g caps)] (fun r=>.one (.d (.bool r))):=by
 unfold Z1d;exact go 9 Tryz.func215 rfl (by kernel_rfl) rfl rfl (by simp)
def Z1x (c:Cons) (k0:Tbl) (k1:Int):Option Bool:=
 (bif strEq c.table k0.name then (bif (c.left == k1) then (some true) else (some (c.right == k1))) else (some false))
instance c_evolution_checkUnused_2 (c:Cons) (k0:Tbl) (k1:Int):Con (Z1x c k0 k1) Tryz.prog 216 [.agg c.enc,.one (.rp [.str k0.name,.sl (k0.cols.map Col.enc),.sl (k0.pk.map encI)]),.one (.rp [.int .i64 k1])] (fun r=>.one (.d (.bool r))):=by
 unfold Z1x;exact go 22 Tryz.func216 rfl (by kernel_rfl) rfl rfl (by simp)
instance f_evolution_checkUnused_2 (k0:Tbl) (k1:Int):ConF (fun x=>Z1x x k0 k1) Tryz.prog (fun x=>.agg x.enc) (fun r=>.one (.d (.bool r))) 216 [[.str k0.name,.sl (k0.cols.map Col.enc),.sl (k0.pk.map encI)],[.int .i64 k1]]:=⟨fun x=>(c_evolution_checkUnused_2 x k0 k1)⟩
def Z1n (s_:Sch) (t:Tbl) (column:Int):Option Int:=
 (bindK (Z0w t.pk column) fun v4=>(bif v4 then (some 9) else (bindK (Z07 s_.fks (fun xa_=>Z1y xa_ t column)) fun v6=>(bif v6 then (some 10) else (bindK (Z1d s_.cons (fun xa_=>Z1x xa_ t column)) fun v8=>(bif v8 then (some 11) else (some 0)))))))
instance c_evolution_checkUnused (s_:Sch) (t:Tbl) (column:Int):Con (Z1n s_ t column) Tryz.prog 194 [.agg s_.enc,.agg t.enc,.one (.d (.int .i64 column))] (fun r=>.one (.d (.int .i64 r))):=by
 unfold Z1n;exact go 19 Tryz.func194 rfl (by kernel_rfl) rfl rfl (by simp)
end
end Go.Proofs.YthiojhcimecdgaaGreatDoor
