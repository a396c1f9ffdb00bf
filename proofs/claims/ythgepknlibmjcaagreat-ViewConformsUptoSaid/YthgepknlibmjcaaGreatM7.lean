/-
  Part 7 of the proof: joined by a program out of 19 texts.
-/
import Derived.Test.YthgepknlibmjcaaGreatK6
import Derived.Test.YthgepknlibmjcaaGreatRows
import Derived.WalkKit
import Derived.ProofKit
import Derived.OpenShut
import Derived.JoinedCond
import Derived.Carry
set_option linter.unusedVariables false
set_option linter.unusedSimpArgs false
set_option maxRecDepth 20000
section
namespace Go.Proofs.YthgepknlibmjcaaGreat
open Go Go.Am
def cmpI (a b:Int):Int:=if a < b then -1 else if b < a then 1 else 0
theorem compareInts_eq (a b:Int):m_value_compareInts a b = some (cmpI a b):=by
 unfold m_value_compareInts cmpI
 by_cases h1:a < b
 ·simp [h1]
 ·by_cases h2:b < a <;> simp [h1,h2]
def cmpV (a b:GV):Int:=if cmpI a.kind b.kind ≠ 0 then cmpI a.kind b.kind else if cmpI a.int b.int ≠ 0 then cmpI a.int b.int else cmpS a.text b.text
theorem compare_eq (a b:GV):m_value_Compare a b = some (cmpV a b):=by
 unfold m_value_Compare m_strings_Compare cmpV
 rw [compareInts_eq,compareInts_eq]
 simp only [bindK]
 by_cases h1:cmpI a.kind b.kind = 0
 ·by_cases h2:cmpI a.int b.int = 0
  ·simp [h1,h2]
  ·have h3:(cmpI a.int b.int != 0) = true:=by simpa using h2
   simp [h1,h2,h3]
 ·have h3:(cmpI a.kind b.kind != 0) = true:=by simpa using h1
  simp [h1,h3]
def cmpR:List GV→List GV→Int
 | [],[]=>0
 | [],_ :: _=>-1
 | _ :: _,[]=>1
 | x :: xs,y :: ys=>if cmpV x y ≠ 0 then cmpV x y else cmpR xs ys
theorem w_CompareRows (a b:List GV) (ha:a.length ≤ 2097152):Wp (m_value_CompareRows a b) fun c=>c = cmpR a b:=by
 unfold m_value_CompareRows
 have hmin:(Int.toNat (if (b.length:Int) < (a.length:Int) then (b.length:Int) else (a.length:Int))) = min a.length b.length:=by
  split <;> omega
 rw [hmin]
 refine Wp.count (fun i _=>cmpR a b = cmpR (a.drop i) (b.drop i)) (by simp) ?_ ?_
 ·intro i s next hi hI hn
  have hia:i < a.length:=by omega
  have hib:i < b.length:=by omega
  refine Wp.getN (List.getElem?_eq_getElem hia) (Wp.getN (List.getElem?_eq_getElem hib) ?_)
  rw [List.drop_eq_getElem_cons hia,List.drop_eq_getElem_cons hib,cmpR] at hI
  rw [compare_eq]
  refine Wp.bind (R:=fun v=>v = cmpV a[i] b[i]) ⟨_,rfl,rfl⟩ fun v _ hv=>?_
  subst hv
  refine Wp.cond (fun h=>Wp.ret ?_) fun h=>Wp.chk ⟨by omega,by omega⟩ (hn () ?_)
  ·have h':cmpV a[i] b[i] ≠ 0:=by simpa using h
   rw [hI,if_pos h']
  ·have h':cmpV a[i] b[i] = 0:=by simpa using h
   rw [hI,if_neg (by simp [h'])]
 ·intro s hI
  rw [compareInts_eq]
  refine Wp.bind (R:=fun v=>v = cmpI a.length b.length) ⟨_,rfl,rfl⟩ fun v _ hv=>Wp.ret ?_
  subst hv
  rw [hI]
  unfold cmpI
  rcases Nat.lt_trichotomy a.length b.length with h | h | h
  ·have e1:a.drop (min a.length b.length) = []:=List.drop_eq_nil_of_le (by omega)
   rw [e1,List.drop_eq_getElem_cons (show min a.length b.length < b.length by omega)]
   simp [cmpR,h]
  ·have e1:a.drop (min a.length b.length) = []:=List.drop_eq_nil_of_le (by omega)
   have e2:b.drop (min a.length b.length) = []:=List.drop_eq_nil_of_le (by omega)
   rw [e1,e2]
   simp [cmpR,h]
  ·have e2:b.drop (min a.length b.length) = []:=List.drop_eq_nil_of_le (by omega)
   rw [e2,List.drop_eq_getElem_cons (show min a.length b.length < a.length by omega)]
   have h3:¬ (a.length < b.length):=by omega
   simp [cmpR,h,h3]
def gvZ:GV:=⟨0,0,ByteArray.empty⟩
def cellF (row:List GV) (c:Int):GV:=if 0 ≤ c then (row[c.toNat]?).getD gvZ else gvZ
def keyF (T:Tbl) (row:List GV):List GV:=T.pk.map (cellF row)
theorem take_snoc {α β:Type} {xs:List α} {i:Nat} {x:α} {f:α→β} (h:xs[i]? = some x):(xs.take (i + 1)).map f = (xs.take i).map f ++ [f x]:=by
 obtain ⟨h1,h2⟩:=List.getElem?_eq_some_iff.1 h
 rw [List.take_succ_eq_append_getElem h1,h2]
 simp
theorem w_Key (T:Tbl) (row:List GV) (hl:T.pk.length ≤ 2097152):Wp (m_relation_Key T row) fun k=>k = keyF T row:=by
 have hL:=LIM_eq
 unfold m_relation_Key
 refine Wp.for (fun i (s:List GV)=>s = (T.pk.take i).map (cellF row)) (by simp) ?_ (fun s hs=>Wp.ret (by rw [hs,List.take_length];rfl))
 intro i x s next hx hm hI hn
 have hi:=(List.getElem?_eq_some_iff.1 hx).1
 have hsl:s.length ≤ i:=by rw [hI];simp;omega
 refine Wp.cond (fun h1=>Wp.cond (fun h2=>?_) fun h2=>?_) fun h1=>?_
 ·have a1:0 ≤ x:=by simpa using h1
  have a2:x < row.length:=by simpa using h2
  refine Wp.get a1 a2 fun y hy _=>Wp.app (by simp;omega) (hn _ ?_)
  rw [take_snoc hx,hI]
  simp [cellF,a1,hy]
 ·have a1:0 ≤ x:=by simpa using h1
  have a2:¬ (x < row.length):=by simpa using h2
  refine Wp.app (by simp;omega) (hn _ ?_)
  rw [take_snoc hx,hI]
  have:row[x.toNat]? = none:=List.getElem?_eq_none (by omega)
  simp [cellF,a1,this,gvZ]
 ·have a1:¬ (0 ≤ x):=by simpa using h1
  refine Wp.app (by simp;omega) (hn _ ?_)
  rw [take_snoc hx,hI]
  simp [cellF,a1,gvZ]
structure CR (T:Tbl) (row:List GV):Prop where
 len:row.length = T.cols.length
 cell:∀ (i:Nat) (x:GV) (c:Col),row[i]? = some x→T.cols[i]? = some c→m_value_Validate x = some 0∧(x.kind = 0→c.nullable = true)∧(x.kind ≠ 0→x.kind = c.kind)
theorem upto2_succ {α β:Type} {xs:List α} {ys:List β} {p:α→β→Prop} {i:Nat} {x:α} {y:β} (h:∀ (j:Nat) (a:α) (b:β),j < i→xs[j]? = some a→ys[j]? = some b→p a b) (hx:xs[i]? = some x) (hy:ys[i]? = some y) (hp:p x y) :
  ∀ (j:Nat) (a:α) (b:β),j < i + 1→xs[j]? = some a→ys[j]? = some b→p a b:=by
 intro j a b hj ha hb
 rcases Nat.lt_or_ge j i with h1 | h1
 ·exact h j a b h1 ha hb
 ·obtain rfl:j = i:=by omega
  rw [hx] at ha
  rw [hy] at hb
  cases ha
  cases hb
  exact hp
theorem w_ConformsRow (T:Tbl) (row:List GV):Wp (m_instance_ConformsRow T row) fun e=>e = 0→CR T row:=by
 unfold m_instance_ConformsRow
 refine Wp.cond (fun _=>Wp.ret (by simp)) fun h1=>?_
 have hl:row.length = T.cols.length:=by simp at h1;omega
 refine Wp.for (fun i _=>∀ (j:Nat) (x:GV) (c:Col),j < i→row[j]? = some x→T.cols[j]? = some c→m_value_Validate x = some 0∧(x.kind = 0→c.nullable = true)∧(x.kind ≠ 0→x.kind = c.kind)) (by intro j x c h;omega) ?_ fun s hI=>Wp.ret fun _=>⟨hl,fun i x c hx hc=>hI i x c (List.getElem?_eq_some_iff.1 hx).1 hx hc⟩
 intro i x s next hx hm hI hn
 have hi:=(List.getElem?_eq_some_iff.1 hx).1
 have hic:i < T.cols.length:=by omega
 have hcx:T.cols[i]? = some T.cols[i]:=List.getElem?_eq_getElem hic
 generalize T.cols[i] = c at hcx
 refine Wp.bind (w_value_Validate x) fun v hv _=>Wp.cond (fun h=>Wp.ret (by intro h0;simp [h0] at h)) fun h2=>?_
 obtain rfl:v = 0:=by simpa using h2
 refine Wp.cond (fun h3=>?_) fun h3=>?_
 ·have a3:x.kind = 0:=by simpa using h3
  refine Wp.getN hcx (Wp.cond (fun _=>Wp.ret (by simp)) fun h4=>Wp.cond (fun h5=>?_) fun _=>hn () (upto2_succ hI hx hcx ⟨hv,fun _=>by simpa using h4,fun h=>absurd a3 h⟩))
  simp [a3] at h5
 ·have a3:x.kind ≠ 0:=by simpa using h3
  refine Wp.cond (fun _=>Wp.getN hcx (Wp.cond (fun _=>Wp.ret (by simp)) fun h4=>hn () (upto2_succ hI hx hcx ⟨hv,fun h=>absurd h a3,fun _=>by simpa using h4⟩))) fun h5=>?_
  simp [a3] at h5
def Asc (T:Tbl) (rows:List (List GV)):Prop:=∀ (i:Nat) (a b:List GV),rows[i]? = some a→rows[i + 1]? = some b→cmpR (keyF T a) (keyF T b) < 0
structure CF (S:Sch) (inst:List Rel):Prop where
 len:inst.length = S.tables.length
 name:∀ (i:Nat) (x:Rel) (T:Tbl),inst[i]? = some x→S.tables[i]? = some T→strEq x.table T.name = true
 l24:∀ x ∈ inst,x.rows.length ≤ 24
 row:∀ (i:Nat) (x:Rel) (T:Tbl),inst[i]? = some x→S.tables[i]? = some T→∀ row ∈ x.rows,CR T row
 asc:∀ (i:Nat) (x:Rel) (T:Tbl),inst[i]? = some x→S.tables[i]? = some T→Asc T x.rows
theorem w_Conforms (S:Sch) (hS:∀ T ∈ S.tables,T.pk.length ≤ 6) (inst:List Rel):Wp (m_instance_Conforms S inst) fun e=>e = 0→CF S inst:=by
 unfold m_instance_Conforms
 refine Wp.cond (fun _=>Wp.ret (by simp)) fun h1=>?_
 have hl:inst.length = S.tables.length:=by simp at h1;omega
 refine Wp.for (fun i _=>∀ (j:Nat) (x:Rel) (T:Tbl),j < i→inst[j]? = some x→S.tables[j]? = some T→strEq x.table T.name = true∧x.rows.length ≤ 24∧(∀ row ∈ x.rows,CR T row)∧Asc T x.rows) (by intro j x c h;omega) ?_ ?_
 ·intro i x s next hx hm hI hn
  have hi:=(List.getElem?_eq_some_iff.1 hx).1
  have hic:i < S.tables.length:=by omega
  have hcx:S.tables[i]? = some S.tables[i]:=List.getElem?_eq_getElem hic
  have hpk:=hS _ (List.getElem_mem hic)
  generalize S.tables[i] = T at hcx hpk
  refine Wp.getN hcx (Wp.cond (fun _=>Wp.ret (by simp)) fun h2=>Wp.cond (fun _=>Wp.ret (by simp)) fun h3=>?_)
  have a3:x.rows.length ≤ 24:=by simp at h3;omega
  refine Wp.for (fun i _=>(∀ (j:Nat) (row:List GV),j < i→x.rows[j]? = some row→CR T row)∧∀ (j:Nat) (a b:List GV),j + 1 < i→x.rows[j]? = some a→x.rows[j + 1]? = some b→cmpR (keyF T a) (keyF T b) < 0) ⟨by intro j r h;omega,by intro j a b h;omega⟩ ?_ ?_
  ·rintro k row s next2 hr hrm ⟨hJ,hK⟩ hn2
   have hk:=(List.getElem?_eq_some_iff.1 hr).1
   refine Wp.bind (w_ConformsRow T row) fun e _ he=>Wp.cond (fun h=>Wp.ret (by intro h0;simp [h0] at h)) fun h4=>?_
   have hcr:=he (by simpa using h4)
   refine Wp.cond (fun h5=>hn2 () ⟨upto_succ hJ hr hcr,?_⟩) fun h5=>Wp.chk ⟨by omega,by omega⟩ ?_
   ·have hk0:k = 0:=by simp at h5;omega
    intro j a b hj;omega
   ·have hk0:k ≠ 0:=by simp at h5;omega
    have hk1:k - 1 < x.rows.length:=by omega
    have hr0:x.rows[k - 1]? = some x.rows[k - 1]:=List.getElem?_eq_getElem hk1
    rw [show (k:Int) - 1 = ((k - 1:Nat):Int) by omega]
    generalize x.rows[k - 1] = row0 at hr0
    refine Wp.getN hr0 (Wp.bind (w_Key T row0 (by omega)) fun k0 _ h0=>Wp.bind (w_Key T row (by omega)) fun k1 _ h1=>?_)
    subst h0 h1
    refine Wp.bind (w_CompareRows _ _ (by simp [keyF];omega)) fun c _ hc=>Wp.cond (fun _=>Wp.ret (by simp)) fun h6=>Wp.cond (fun _=>Wp.ret (by simp)) fun h7=>hn2 () ⟨upto_succ hJ hr hcr,?_⟩
    have a6:c ≠ 0:=by simpa using h6
    have a7:¬ (0 < c):=by simpa using h7
    intro j a b hj ha hb
    rcases Nat.lt_or_ge (j + 1) k with h | h
    ·exact hK j a b h ha hb
    ·obtain rfl:k = j + 1:=by omega
     rw [hr] at hb
     rw [show j + 1 - 1 = j by omega,ha] at hr0
     cases hb
     cases hr0
     rw [← hc]
     omega
  ·rintro s ⟨hJ,hK⟩
   exact hn () (upto2_succ hI hx hcx ⟨by simpa using h2,a3,upto_mem hJ,fun i a b ha hb=>hK i a b (List.getElem?_eq_some_iff.1 hb).1 ha hb⟩)
 ·intro s hI
  refine Wp.ret fun _=>⟨hl,fun i x T hx hT=>(hI i x T (List.getElem?_eq_some_iff.1 hx).1 hx hT).1,fun x hx=>?_,fun i x T hx hT=>(hI i x T (List.getElem?_eq_some_iff.1 hx).1 hx hT).2.2.1,fun i x T hx hT=>(hI i x T (List.getElem?_eq_some_iff.1 hx).1 hx hT).2.2.2⟩
  obtain ⟨i,hi,rfl⟩:=List.getElem_of_mem hx
  exact (hI i _ _ hi (List.getElem?_eq_getElem hi) (List.getElem?_eq_getElem (by omega))).2.1
def satP (p:Cons) (row:List GV):Bool:=match m_access_satisfies p row with
 | some b=>b
 | none=>false
def mtch (r:Rule) (row:List GV):Bool:=!(r.preds.any fun p=>!(satP p row))
theorem sat_eq {T:Tbl} {p:Cons} {row:List GV} (hT:∀ v ∈ T.pk,0 ≤ v∧v < T.cols.length) (hp:VP T p) (hl:row.length = T.cols.length):m_access_satisfies p row = some (satP p row):=by
 have:Wp (m_access_satisfies p row) fun _=>True:=by
  unfold m_access_satisfies
  have h1:=hT _ hp.left
  refine Wp.cond (fun h=>?_) fun _=>Wp.get h1.1 (by omega) fun _ _ _=>Wp.bind (w_Satisfies _ _ _) fun _ _ _=>Wp.ret trivial
  have h0:0 ≤ p.right:=by simpa using h
  rcases hp.right with h2 | h2
  ·omega
  ·have h3:=hT _ h2
   exact Wp.get h3.1 (by omega) fun _ _ _=>Wp.get h1.1 (by omega) fun _ _ _=>Wp.bind (w_Satisfies _ _ _) fun _ _ _=>Wp.ret trivial
 obtain ⟨b,hb,_⟩:=this
 unfold satP
 rw [hb]
theorem matches_eq {T:Tbl} {r:Rule} {row:List GV} (hT:∀ v ∈ T.pk,0 ≤ v∧v < T.cols.length) (hp:∀ p ∈ r.preds,VP T p) (hl:row.length = T.cols.length):m_access_matches r row = some (mtch r row):=by
 unfold m_access_matches m_slices_ContainsFunc_Constraint m_slices_IndexFunc_Constraint
 rw [index_eq (p:=fun p=>!(satP p row)) fun p hpm=>?_]
 ·simp only [bindK]
  rw [fIdx_any]
  rfl
 ·unfold m_access_matches_1
  rw [sat_eq hT (hp p hpm) hl]
  rfl
def projF (cols:List Int) (row:List GV):List GV:=cols.map (cellF row)
theorem w_project (row:List GV) (cols:List Int) (hl:cols.length ≤ 2097152) (hc:∀ c ∈ cols,0 ≤ c∧c < row.length):Wp (m_access_project row cols) fun r=>r = projF cols row:=by
 have hL:=LIM_eq
 unfold m_access_project
 refine Wp.for (fun i (s:List GV)=>s = (cols.take i).map (cellF row)) (by simp) ?_ (fun s hs=>Wp.ret (by rw [hs,List.take_length];rfl))
 intro i x s next hx hm hI hn
 have hi:=(List.getElem?_eq_some_iff.1 hx).1
 have hsl:s.length ≤ i:=by rw [hI];simp;omega
 have h1:=hc x hm
 refine Wp.get h1.1 h1.2 fun y hy _=>Wp.app (by simp;omega) (hn _ ?_)
 rw [take_snoc hx,hI]
 simp [cellF,h1.1,hy]
end Go.Proofs.YthgepknlibmjcaaGreat
end
section
namespace Go.Proofs.YthgepknlibmjcaaGreat
open Go.Am
def m_stemref1_EqualRow (a:List GV) (b:List GV):Option Bool:=
 (bif ((a.length:Int) != (b.length:Int)) then (some false) else (forK (fun (i5:Nat) (x5:GV) (s5:Unit) next_5=>(getK b (i5:Int) fun x6=>(bif (!(x5.kind == x6.kind) || (!(x5.int == x6.int) || (!(x5.text == x6.text)))) then (some false) else (next_5 ())))) (fun (s5:Unit)=>(some true)) a 0 ()))
theorem c_stemref1_EqualRow (a:List GV) (b:List GV) (r:Bool) (hm:Is (m_stemref1_EqualRow a b) r):PSpec Tryz.prog 56 [.one (.d (.sl (a.map GV.enc))),.one (.d (.sl (b.map GV.enc)))] (.one (.d (.bool r))):=by
 unfold m_stemref1_EqualRow at hm
 refine PSpec.of_vc Tryz.func56 rfl (by kernel_rfl) (n:=26) rfl rfl (by simp) ?_
 try simp [*]
 intro hl1
 replace hl1:a.length ≤ 2097152:=by simpa using hl1
 intro hl2
 replace hl2:b.length ≤ 2097152:=by simpa using hl2
 refine r_cond hm ?_ ?_ <;> clear hm <;> intro hc3 hm
 ·try simp [*]
  obtain rfl:=r_ret hm
  exact ret0 (vs:=[_]) (by simp [*];try exact rfl) (by simp [*])
 ·try simp [*]
  refine Wait.for (xs:=a) (s0:=()) (fun i5 s5 e5 h5=>e5.n = 26∧e5.get 0 = .one (.d (.sl (a.map GV.enc)))∧e5.get 1 = .one (.d (.sl (b.map GV.enc)))∧e5.get 12 = .one (.d (.int .i64 (a.length:Int)))∧e5.get 13 = .one (.d (.int .i64 (i5:Int)))) hm (by simp [*]) ?_ ?_
  ·rintro i5 s5 e5 h5 ⟨hn5,h5_0,h5_1,h5_12,h5_13⟩ hlt5 hm
   have hw5:IntKind.i64.wrap ((i5:Int) + 1) = (i5:Int) + 1:=IntWalk.i64_in _ (by omega)
   try simp [*]
   refine Wait.of (SWP.draw (Plan.then_ [0,1,2,3,4,5,6,7,8] .done) follows (by kernel_rfl) ?_)
   try simp [*,Plan.then_,vcPlan,planOps,isCallAt,callKind]
   replace hm:=hm.getN
   obtain ⟨x6,hxx6,hm⟩:=hm
   try simp [*,Plan.then_,vcPlan,planOps,isCallAt,callKind]
   refine r_cond hm ?_ ?_ <;> clear hm <;> intro hc7 hm
   ·try simp [*]
    obtain rfl:=r_ret hm
    exact ret0 (vs:=[_]) (by simp [*];try exact rfl) (by simp [*])
   ·try simp [*]
    exact BackF.of () ⟨(by simp [*]),hm⟩
  ·rintro s5 e5 h5 ⟨hn5,h5_0,h5_1,h5_12,h5_13⟩ hm
   try simp [*]
   obtain rfl:=r_ret hm
   exact ret0 (vs:=[_]) (by simp [*];try exact rfl) (by simp [*])
def m_stemref1_EqualRows (a:List (List GV)) (b:List (List GV)):Option Bool:=
 (bif ((a.length:Int) != (b.length:Int)) then (some false) else (forK (fun (i5:Nat) (x5:List GV) (s5:Unit) next_5=>(getK b (i5:Int) fun x6=>(bindK (m_stemref1_EqualRow x5 x6) fun v7=>(bif !v7 then (some false) else (next_5 ()))))) (fun (s5:Unit)=>(some true)) a 0 ()))
theorem c_stemref1_EqualRows (a:List (List GV)) (b:List (List GV)) (r:Bool) (hm:Is (m_stemref1_EqualRows a b) r):PSpec Tryz.prog 19 [.one (.d (.sl (a.map (encL GV.enc)))),.one (.d (.sl (b.map (encL GV.enc))))] (.one (.d (.bool r))):=by
 unfold m_stemref1_EqualRows at hm
 refine PSpec.of_vc Tryz.func19 rfl (by kernel_rfl) (n:=27) rfl rfl (by simp) ?_
 try simp [*]
 intro hl1
 replace hl1:a.length ≤ 2097152:=by simpa using hl1
 intro hl2
 replace hl2:b.length ≤ 2097152:=by simpa using hl2
 refine r_cond hm ?_ ?_ <;> clear hm <;> intro hc3 hm
 ·try simp [*]
  obtain rfl:=r_ret hm
  exact ret0 (vs:=[_]) (by simp [*];try exact rfl) (by simp [*])
 ·try simp [*]
  refine Wait.for (xs:=a) (s0:=()) (fun i5 s5 e5 h5=>e5.n = 27∧e5.get 0 = .one (.d (.sl (a.map (encL GV.enc))))∧e5.get 1 = .one (.d (.sl (b.map (encL GV.enc))))∧e5.get 12 = .one (.d (.int .i64 (a.length:Int)))∧e5.get 13 = .one (.d (.int .i64 (i5:Int)))) hm (by simp [*]) ?_ ?_
  ·rintro i5 s5 e5 h5 ⟨hn5,h5_0,h5_1,h5_12,h5_13⟩ hlt5 hm
   have hw5:IntKind.i64.wrap ((i5:Int) + 1) = (i5:Int) + 1:=IntWalk.i64_in _ (by omega)
   try simp [*]
   refine Wait.of (SWP.draw (Plan.then_ [0,1,2,3,4,5,6,7,8,9] .done) follows (by kernel_rfl) ?_)
   try simp [*,Plan.then_,vcPlan,planOps,isCallAt,callKind]
   replace hm:=hm.getN
   obtain ⟨x6,hxx6,hm⟩:=hm
   try simp [*,Plan.then_,vcPlan,planOps,isCallAt,callKind]
   refine r_call (av:=[.one (.d (.sl ((a[i5]).map GV.enc))),.one (.d (.sl (x6.map GV.enc)))]) hm (fun v hv=>c_stemref1_EqualRow _ _ v hv) (by simp [*]) ?_
   clear hm;intro v7 hvv7 hm
   try simp [*,Plan.then_,vcPlan,planOps,isCallAt,callKind]
   try refine ⟨fun (_:Lab) (_:List C) hl=>hl,?_⟩
   refine r_cond hm ?_ ?_ <;> clear hm <;> intro hc8 hm
   ·try simp [*]
    obtain rfl:=r_ret hm
    exact ret0 (vs:=[_]) (by simp [*];try exact rfl) (by simp [*])
   ·try simp [*]
    exact BackF.of () ⟨(by simp [*]),hm⟩
  ·rintro s5 e5 h5 ⟨hn5,h5_0,h5_1,h5_12,h5_13⟩ hm
   try simp [*]
   obtain rfl:=r_ret hm
   exact ret0 (vs:=[_]) (by simp [*];try exact rfl) (by simp [*])
def m_stemref1_Int (n:Int):Option GV:=
 (some (GV.mk 1 n ByteArray.empty))
theorem c_stemref1_Int (n:Int) (r:GV) (hm:Is (m_stemref1_Int n) r):PSpec Tryz.prog 44 [.one (.d (.int .i64 n))] (.agg (r.enc.map RC.d)):=by
 unfold m_stemref1_Int at hm
 refine PSpec.of_vc Tryz.func44 rfl (by kernel_rfl) (n:=5) rfl rfl (by simp) ?_
 try simp [*]
 obtain rfl:=r_ret hm
 exact ret0 (vs:=[_]) (by simp [*];try exact rfl) (by simp [*])
def m_stemref1_SampleGraph:Option Gr:=
 (bindK (m_stemref1_Int 5) fun v2=>(some (Gr.mk (Sch.mk [(Tbl.mk ({ data:=#[116] }) [(Col.mk ({ data:=#[105,100] }) 1 false),(Col.mk ({ data:=#[110] }) 1 false)] [0])] [] []) [(Edg.mk 0 [(Stp.mk 1 ({ data:=#[116] }) ByteArray.empty ({ data:=#[120] }) ByteArray.empty 1 [] ByteArray.empty v2 (Tbl.mk ByteArray.empty [] []) (Cons.mk ByteArray.empty 0 ByteArray.empty 0 (GV.mk 0 0 ByteArray.empty)) (Fk.mk ByteArray.empty [] ByteArray.empty))])])))
theorem c_stemref1_SampleGraph  (r:Gr) (hm:Is (m_stemref1_SampleGraph) r):PSpec Tryz.prog 41 [] (.agg (r.enc.map RC.d)):=by
 unfold m_stemref1_SampleGraph at hm
 refine PSpec.of_vc Tryz.func41 rfl (by kernel_rfl) (n:=16) rfl rfl (by simp) ?_
 try simp [*]
 refine r_call (av:=[.one (.d (.int .i64 5))]) hm (fun v hv=>c_stemref1_Int _ v hv) (by simp [*]) ?_
 clear hm;intro v2 hvv2 hm
 try simp [*]
 obtain rfl:=r_ret hm
 exact ret0 (vs:=[_]) (by simp [*];try exact rfl) (by simp [*])
def m_stemref1_Ints (l:List Int):Option ((List GV)):=
 (forK (fun (i2:Nat) (x2:Int) (s2:(List GV)) next_2=>(bindK (m_stemref1_Int x2) fun v3=>(appK2 s2 [v3] fun _=>(next_2 (s2 ++ [v3]))))) (fun (s2:(List GV))=>(some s2)) l 0 [])
theorem c_stemref1_Ints (l:List Int) (r:(List GV)) (hm:Is (m_stemref1_Ints l) r):PSpec Tryz.prog 45 [.one (.d (.sl (l.map encI)))] (.one (.d (.sl (r.map GV.enc)))):=by
 unfold m_stemref1_Ints at hm
 refine PSpec.of_vc Tryz.func45 rfl (by kernel_rfl) (n:=19) rfl rfl (by simp) ?_
 try simp [*]
 intro hl1
 replace hl1:l.length ≤ 2097152:=by simpa using hl1
 refine Wait.for (xs:=l) (s0:=[]) (fun i2 s2 e2 h2=>∃ c2_0:C,e2.n = 19∧e2.get 3 = .one c2_0∧e2.get 6 = .one (.d (.sl (l.map encI)))∧e2.get 7 = .one (.d (.int .i64 (l.length:Int)))∧e2.get 8 = .one (.d (.int .i64 (i2:Int)))∧Grows h2 3 c2_0 (s2.map GV.enc)) hm ⟨.nil,by simp (maxDischargeDepth:=20) [*]⟩ ?_ ?_
 ·rintro i2 s2 e2 h2 ⟨c2_0,hn2,h2_3,h2_6,h2_7,h2_8,gc2_0⟩ hlt2 hm
  have hlc2_0:=gc2_0.list
  have hdc2_0:=gc2_0.toD
  have hac2_0:=gc2_0.toA
  have huc2_0:=gc2_0.useUp_arr
  have hw2:IntKind.i64.wrap ((i2:Int) + 1) = (i2:Int) + 1:=IntWalk.i64_in _ (by omega)
  try simp [*]
  refine r_call (av:=[.one (.d (.int .i64 (l[i2])))]) hm (fun v hv=>c_stemref1_Int _ v hv) (by simp [*]) ?_
  clear hm;intro v3 hvv3 hm
  try simp [*]
  refine r_app (xs:=s2) (ys:=[v3]) (enc:=GV.enc) hm ty_el79 (by first | exact Grows.nil | (simp (maxDischargeDepth:=20) [*];done) | (simp (maxDischargeDepth:=20) [*];refine ⟨?_,by omega⟩;intro hq;subst hq;simp at hz2 <;> omega)) (by simp [*]) (by decide) (by decide) (fun _=>rfl) ?_
  clear hm;intro hl5 hm g4
  try simp [*]
  exact BackF.of (s2 ++ [v3]) ⟨⟨.own (h2.ep + 2,256) ((s2 ++ [v3]).map GV.enc),by simp (maxDischargeDepth:=20) [*]⟩,hm⟩
 ·rintro s2 e2 h2 ⟨c2_0,hn2,h2_3,h2_6,h2_7,h2_8,gc2_0⟩ hm
  have hlc2_0:=gc2_0.list
  have hdc2_0:=gc2_0.toD
  have hac2_0:=gc2_0.toA
  have huc2_0:=gc2_0.useUp_arr
  try simp [*]
  obtain rfl:=r_ret hm
  exact ret0 (vs:=[_]) (by simp [*];try exact rfl) (by simp [*])
def m_stemkeep1_accessWorks:Option Bool:=
 (bindK (m_stemref1_SampleGraph) fun v1=>(bindK (m_stemref1_Int 10) fun v3=>(bindK (m_stemref1_Ints [1,2,5]) fun v4=>(bindK (m_stemref1_Ints [10,2,5]) fun v5=>(bindK (m_access_Visible v1 [(Rule.mk ({ data:=#[97,110,110] }) 1 ({ data:=#[116] }) [1] [(Cons.mk ({ data:=#[116] }) 0 ({ data:=#[60] }) (-1) v3)] false)] ({ data:=#[97,110,110] }) 1 [(Rel.mk ({ data:=#[116] }) [v4,v5])] ({ data:=#[116] })) fun v6=>(bif (v6.2.2 == 0) then (bindK (m_stemref1_Ints [1,2]) fun v8=>(bindK (m_stemref1_EqualRows v6.1 [v8]) fun v9=>(bif v9 then (bindK (m_slices_Equal_Int v6.2.1 [0,1]) fun v11=>(some v11)) else (some false)))) else (some false)))))))
theorem c_stemkeep1_accessWorks  (r:Bool) (hm:Is (m_stemkeep1_accessWorks) r):PSpec Tryz.prog 14 [] (.one (.d (.bool r))):=by
 unfold m_stemkeep1_accessWorks at hm
 refine PSpec.of_vc Tryz.func14 rfl (by kernel_rfl) (n:=43) rfl rfl (by simp) ?_
 try simp [*]
 refine r_call (av:=[]) hm (fun v hv=>c_stemref1_SampleGraph  v hv) (by simp [*]) ?_
 clear hm;intro v1 hvv1 hm
 try simp [*]
 refine r_call (av:=[.one (.d (.int .i64 10))]) hm (fun v hv=>c_stemref1_Int _ v hv) (by simp [*]) ?_
 clear hm;intro v3 hvv3 hm
 try simp [*]
 refine r_call (av:=[.one (.d (.sl ([1,2,5].map encI)))]) hm (fun v hv=>c_stemref1_Ints _ v hv) (by simp [*]) ?_
 clear hm;intro v4 hvv4 hm
 try simp [*]
 refine r_call (av:=[.one (.d (.sl ([10,2,5].map encI)))]) hm (fun v hv=>c_stemref1_Ints _ v hv) (by simp [*]) ?_
 clear hm;intro v5 hvv5 hm
 try simp [*]
 refine r_call (av:=[.agg v1.enc,.one (.d (.sl ([(Rule.mk ({ data:=#[97,110,110] }) 1 ({ data:=#[116] }) [1] [(Cons.mk ({ data:=#[116] }) 0 ({ data:=#[60] }) (-1) v3)] false)].map Rule.enc))),.one (.d (.str ({ data:=#[97,110,110] }))),.one (.d (.int .i64 1)),.one (.d (.sl ([(Rel.mk ({ data:=#[116] }) [v4,v5])].map Rel.enc))),.one (.d (.str ({ data:=#[116] })))]) hm (fun v hv=>c_access_Visible _ _ _ _ _ _ v hv) (by simp [*]) ?_
 clear hm;intro v6 hvv6 hm
 try simp [*]
 refine r_guardT hm ?_ ?_ <;> clear hm <;> intro hc7 hm
 ·try simp [*]
  refine r_call (av:=[.one (.d (.sl ([1,2].map encI)))]) hm (fun v hv=>c_stemref1_Ints _ v hv) (by simp [*]) ?_
  clear hm;intro v8 hvv8 hm
  try simp [*]
  refine r_call (av:=[.one (.d (.sl (v6.1.map (encL GV.enc)))),.one (.d (.sl ([v8].map (encL GV.enc))))]) hm (fun v hv=>c_stemref1_EqualRows _ _ v hv) (by simp [*]) ?_
  clear hm;intro v9 hvv9 hm
  try simp [*]
  refine r_guardT hm ?_ ?_ <;> clear hm <;> intro hc10 hm
  ·try simp [*]
   refine r_call (av:=[.one (.d (.sl (v6.2.1.map encI))),.one (.d (.sl ([0,1].map encI)))]) hm (fun v hv=>c_slices_Equal_Int _ _ v hv) (by simp [*]) ?_
   clear hm;intro v11 hvv11 hm
   try simp [*]
   obtain rfl:=r_ret hm
   exact ret0 (vs:=[_]) (by simp [*];try exact rfl) (by simp [*])
  ·try simp [*]
   obtain rfl:=r_ret hm
   exact ret0 (vs:=[_]) (by simp [*];try exact rfl) (by simp [*])
 ·try simp [*]
  obtain rfl:=r_ret hm
  exact ret0 (vs:=[_]) (by simp [*];try exact rfl) (by simp [*])
def m_slices_IndexFunc_Relation (s_:List Rel) (f:Rel→Option Bool):Option Int:=
 (forK (fun (i2:Nat) (x2:Rel) (s2:Unit) next_2=>(bindK (f x2) fun v3=>(bif v3 then (some (i2:Int)) else (next_2 ())))) (fun (s2:Unit)=>(some (-1))) s_ 0 ())
theorem c_slices_IndexFunc_Relation (s_:List Rel) (g:FuncId) (caps:List (List D)) (f:Rel→Option Bool) (hf:∀ xa v,Is (f xa) v→PSpec Tryz.prog g (.agg xa.enc :: capsOf caps) (.one (.d (.bool v)))) (r:Int) (hm:Is (m_slices_IndexFunc_Relation s_ f) r):PSpec Tryz.prog 90 [.one (.d (.sl (s_.map Rel.enc))),.one (.fn g caps)] (.one (.d (.int .i64 r))):=by
 unfold m_slices_IndexFunc_Relation at hm
 refine PSpec.of_vc Tryz.func90 rfl (by kernel_rfl) (n:=19) rfl rfl (by simp) ?_
 try simp [*]
 intro hl1
 replace hl1:s_.length ≤ 2097152:=by simpa using hl1
 refine Wait.for (xs:=s_) (s0:=()) (fun i2 s2 e2 h2=>e2.n = 19∧e2.get 0 = .one (.d (.sl (s_.map Rel.enc)))∧e2.get 1 = .one (.fn g (caps.map Cap.rp))∧e2.get 7 = .one (.d (.int .i64 (s_.length:Int)))∧e2.get 8 = .one (.d (.int .i64 (i2:Int)))) hm (by simp [*]) ?_ ?_
 ·rintro i2 s2 e2 h2 ⟨hn2,h2_0,h2_1,h2_7,h2_8⟩ hlt2 hm
  have hw2:IntKind.i64.wrap ((i2:Int) + 1) = (i2:Int) + 1:=IntWalk.i64_in _ (by omega)
  try simp [*]
  refine r_callC (av:=[.agg (s_[i2]).enc]) (cs:=caps) hm (fun v hv=>hf _ v hv) (by simp [*]) (by simp [*]) ?_
  clear hm;intro v3 hvv3 hm
  try simp [*]
  refine r_cond hm ?_ ?_ <;> clear hm <;> intro hc4 hm
  ·try simp [*]
   obtain rfl:=r_ret hm
   exact ret0 (vs:=[_]) (by simp [*];try exact rfl) (by simp [*])
  ·try simp [*]
   exact BackF.of () ⟨(by simp [*]),hm⟩
 ·rintro s2 e2 h2 ⟨hn2,h2_0,h2_1,h2_7,h2_8⟩ hm
  try simp [*]
  obtain rfl:=r_ret hm
  exact ret0 (vs:=[_]) (by simp [*];try exact rfl) (by simp [*])
def m_slices_ContainsFunc_Relation (s_:List Rel) (f:Rel→Option Bool):Option Bool:=
 (bindK (m_slices_IndexFunc_Relation s_ f) fun v1=>(some (decide (0 ≤ v1))))
theorem c_slices_ContainsFunc_Relation (s_:List Rel) (g:FuncId) (caps:List (List D)) (f:Rel→Option Bool) (hf:∀ xa v,Is (f xa) v→PSpec Tryz.prog g (.agg xa.enc :: capsOf caps) (.one (.d (.bool v)))) (r:Bool) (hm:Is (m_slices_ContainsFunc_Relation s_ f) r):PSpec Tryz.prog 47 [.one (.d (.sl (s_.map Rel.enc))),.one (.fn g caps)] (.one (.d (.bool r))):=by
 unfold m_slices_ContainsFunc_Relation at hm
 refine PSpec.of_vc Tryz.func47 rfl (by kernel_rfl) (n:=9) rfl rfl (by simp) ?_
 try simp [*]
 refine r_call (av:=[.one (.d (.sl (s_.map Rel.enc))),.one (.fn g caps)]) hm (fun v hv=>c_slices_IndexFunc_Relation _ g caps _ hf v hv) (by simp [*]) ?_
 clear hm;intro v1 hvv1 hm
 try simp [*]
 obtain rfl:=r_ret hm
 exact ret0 (vs:=[_]) (by simp [*];try exact rfl) (by simp [*])
def m_stemkeep1_bounded_1 (r_:Rel):Option Bool:=
 (some (decide (40 < (r_.rows.length:Int))))
theorem c_stemkeep1_bounded_1 (r_:Rel) (r:Bool) (hm:Is (m_stemkeep1_bounded_1 r_) r):PSpec Tryz.prog 48 [.agg r_.enc] (.one (.d (.bool r))):=by
 unfold m_stemkeep1_bounded_1 at hm
 refine PSpec.of_vc Tryz.func48 rfl (by kernel_rfl) (n:=7) rfl rfl (by simp) ?_
 try simp [*]
 intro hl2
 replace hl2:r_.rows.length ≤ 2097152:=by simpa using hl2
 obtain rfl:=r_ret hm
 exact ret0 (vs:=[_]) (by simp [*];try exact rfl) (by simp [*])
def m_stemkeep1_bounded (g_:Gr) (db:Db) (changes:List Chg):Option Bool:=
 (bif decide (8 < (g_.edges.length:Int)) then (some false) else (bif decide (9 < (db.insts.length:Int)) then (some false) else (bif decide (9 < (db.comps.length:Int)) then (some false) else (bif decide (50 < (changes.length:Int)) then (some false) else (bindK (m_slices_Concat_Instance db.comps) fun v11=>(bindK (m_slices_Concat_Instance [v11,db.insts]) fun v12=>(forK (fun (i14:Nat) (x14:List Rel) (s14:Unit) next_14=>(bif decide (20 < (x14.length:Int)) then (some false) else (bindK (m_slices_ContainsFunc_Relation x14 (fun xa_=>m_stemkeep1_bounded_1 xa_)) fun v17=>(bif v17 then (some false) else (next_14 ()))))) (fun (s14:Unit)=>(some true)) v12 0 ())))))))
theorem c_stemkeep1_bounded (g_:Gr) (db:Db) (changes:List Chg) (r:Bool) (hm:Is (m_stemkeep1_bounded g_ db changes) r):PSpec Tryz.prog 15 [.agg g_.enc,.agg db.enc,.one (.d (.sl (changes.map Chg.enc)))] (.one (.d (.bool r))):=by
 unfold m_stemkeep1_bounded at hm
 refine PSpec.of_vc Tryz.func15 rfl (by kernel_rfl) (n:=50) rfl rfl (by simp) ?_
 try simp [*]
 intro hl3
 replace hl3:g_.edges.length ≤ 2097152:=by simpa using hl3
 refine r_guardF hm ?_ ?_ <;> clear hm <;> intro hc4 hm
 ·try simp [*]
  obtain rfl:=r_ret hm
  exact ret0 (vs:=[_]) (by simp [*];try exact rfl) (by simp [*])
 ·try simp [*]
  intro hl5
  replace hl5:db.insts.length ≤ 2097152:=by simpa using hl5
  refine r_guardF hm ?_ ?_ <;> clear hm <;> intro hc6 hm
  ·try simp [*]
   obtain rfl:=r_ret hm
   exact ret0 (vs:=[_]) (by simp [*];try exact rfl) (by simp [*])
  ·try simp [*]
   intro hl7
   replace hl7:db.comps.length ≤ 2097152:=by simpa using hl7
   refine r_guardF hm ?_ ?_ <;> clear hm <;> intro hc8 hm
   ·try simp [*]
    obtain rfl:=r_ret hm
    exact ret0 (vs:=[_]) (by simp [*];try exact rfl) (by simp [*])
   ·try simp [*]
    intro hl9
    replace hl9:changes.length ≤ 2097152:=by simpa using hl9
    refine r_cond hm ?_ ?_ <;> clear hm <;> intro hc10 hm
    ·try simp [*]
     obtain rfl:=r_ret hm
     exact ret0 (vs:=[_]) (by simp [*];try exact rfl) (by simp [*])
    ·try simp [*]
     refine Wait.of (SWP.draw (Plan.then_ [0,1,3,4,8,2,5,6,7] .done) follows (by kernel_rfl) ?_)
     try simp [*,Plan.then_,vcPlan,planOps,isCallAt,callKind]
     refine r_call (av:=[.one (.d (.sl (db.comps.map (encL (encL Rel.enc)))))]) hm (fun v hv=>c_slices_Concat_Instance _ v hv) (by simp [*]) ?_
     clear hm;intro v11 hvv11 hm
     try simp [*,Plan.then_,vcPlan,planOps,isCallAt,callKind]
     try refine ⟨fun (_:Lab) (_:List C) hl=>hl,?_⟩
     refine r_call (av:=[.one (.d (.sl ([v11,db.insts].map (encL (encL Rel.enc)))))]) hm (fun v hv=>c_slices_Concat_Instance _ v hv) (by simp [*]) ?_
     clear hm;intro v12 hvv12 hm
     try simp [*,Plan.then_,vcPlan,planOps,isCallAt,callKind]
     try refine ⟨fun (_:Lab) (_:List C) hl=>hl,?_⟩
     intro hl13
     replace hl13:v12.length ≤ 2097152:=by simpa using hl13
     refine Wait.for (xs:=v12) (s0:=()) (fun i14 s14 e14 h14=>e14.n = 50∧e14.get 36 = .one (.d (.sl (v12.map (encL Rel.enc))))∧e14.get 37 = .one (.d (.int .i64 (v12.length:Int)))∧e14.get 38 = .one (.d (.int .i64 (i14:Int)))) hm (by simp [*]) ?_ ?_
     ·rintro i14 s14 e14 h14 ⟨hn14,h14_36,h14_37,h14_38⟩ hlt14 hm
      have hw14:IntKind.i64.wrap ((i14:Int) + 1) = (i14:Int) + 1:=IntWalk.i64_in _ (by omega)
      try simp [*]
      intro hl15
      replace hl15:v12[i14].length ≤ 2097152:=by simpa using hl15
      refine r_guardF hm ?_ ?_ <;> clear hm <;> intro hc16 hm
      ·try simp [*]
       obtain rfl:=r_ret hm
       exact ret0 (vs:=[_]) (by simp [*];try exact rfl) (by simp [*])
      ·try simp [*]
       refine r_call (av:=[.one (.d (.sl ((v12[i14]).map Rel.enc))),.one (.fn 48 [])]) hm (fun v hv=>c_slices_ContainsFunc_Relation _ 48 [] _ (fun xa_ v hv=>c_stemkeep1_bounded_1 xa_ v hv) v hv) (by simp [*]) ?_
       clear hm;intro v17 hvv17 hm
       try simp [*]
       refine r_cond hm ?_ ?_ <;> clear hm <;> intro hc18 hm
       ·try simp [*]
        obtain rfl:=r_ret hm
        exact ret0 (vs:=[_]) (by simp [*];try exact rfl) (by simp [*])
       ·try simp [*]
        exact BackF.of () ⟨(by simp [*]),hm⟩
     ·rintro s14 e14 h14 ⟨hn14,h14_36,h14_37,h14_38⟩ hm
      try simp [*]
      obtain rfl:=r_ret hm
      exact ret0 (vs:=[_]) (by simp [*];try exact rfl) (by simp [*])
end Go.Proofs.YthgepknlibmjcaaGreat
end
section
namespace Go.Proofs.YthgepknlibmjcaaGreat
open Go Go.Am
theorem innerS_sorted:∀ (j i:Nat) (ws:List Int),i < ws.length→j ≤ i→(∀ (a b:Nat) (x y:Int),a < b→b ≤ i→b ≠ j→ws[a]? = some x→ws[b]? = some y→x ≤ y) →
  ∀ (a b:Nat) (x y:Int),a < b→b ≤ i→(innerS ltI j ws)[a]? = some x→(innerS ltI j ws)[b]? = some y→x ≤ y
 | 0,i,ws,hi,hj,h=>fun a b x y hab hb hx hy=>h a b x y hab hb (by omega) hx hy
 | j + 1,i,ws,hi,hj,h=>by
   unfold innerS
   have e1:ws[j + 1]? = some ws[j + 1]:=List.getElem?_eq_getElem (by omega)
   have e0:ws[j]? = some ws[j]:=List.getElem?_eq_getElem (by omega)
   generalize ws[j + 1] = x1 at e1
   generalize ws[j] = x0 at e0
   rw [e1,e0]
   simp only
   by_cases hlt:ltI x1 x0 = true
   ·rw [if_pos hlt]
    have hlt':x1 < x0:=by simpa [ltI] using hlt
    refine innerS_sorted j i _ (by simpa using hi) (by omega) ?_
    have g:∀ (k:Nat) (z:Int),((ws.set (j + 1) x0).set j x1)[k]? = some z→(k = j∧z = x1)∨(k = j + 1∧z = x0)∨(k ≠ j∧k ≠ j + 1∧ws[k]? = some z):=by
     intro k z hk
     rcases Nat.decEq k j with h1 | h1
     ·rw [List.getElem?_set_ne (fun h=>h1 h.symm)] at hk
      rcases Nat.decEq k (j + 1) with h2 | h2
      ·rw [List.getElem?_set_ne (fun h=>h2 h.symm)] at hk
       exact .inr (.inr ⟨h1,h2,hk⟩)
      ·subst h2
       rw [List.getElem?_set_self (by omega)] at hk
       cases hk
       exact .inr (.inl ⟨rfl,rfl⟩)
     ·subst h1
      rw [List.getElem?_set_self (by simp;omega)] at hk
      cases hk
      exact .inl ⟨rfl,rfl⟩
    intro a b x y hab hb hbj hx hy
    rcases g b y hy with ⟨rfl,rfl⟩ | ⟨rfl,rfl⟩ | ⟨hb1,hb2,hy'⟩
    ·exact absurd rfl hbj
    ·rcases g a x hx with ⟨rfl,rfl⟩ | ⟨rfl,rfl⟩ | ⟨ha1,ha2,hx'⟩
     ·omega
     ·omega
     ·exact h a j x _ (by omega) (by omega) (by omega) hx' e0
    ·rcases g a x hx with ⟨rfl,rfl⟩ | ⟨rfl,rfl⟩ | ⟨ha1,ha2,hx'⟩
     ·exact h (a + 1) b _ y (by omega) hb hb2 e1 hy'
     ·exact h j b _ y (by omega) hb hb2 e0 hy'
     ·exact h a b x y hab hb hb2 hx' hy'
   ·rw [if_neg hlt]
    have hge:x0 ≤ x1:=by
     have:¬ (x1 < x0):=by simpa [ltI] using hlt
     omega
    intro a b x y hab hb hx hy
    rcases Nat.decEq b (j + 1) with hbj | hbj
    ·exact h a b x y hab hb hbj hx hy
    ·subst hbj
     rw [e1] at hy
     cases hy
     rcases Nat.decEq a j with h1 | h1
     ·have:=h a j x x0 (by omega) (by omega) (by omega) hx e0
      omega
     ·subst h1
      rw [e0] at hx
      cases hx
      exact hge
theorem innerS_far (lt:Int→Int→Bool):∀ (j:Nat) (ws:List Int) (k:Nat),j < k→(innerS lt j ws)[k]? = ws[k]?
 | 0,ws,k,h=>rfl
 | j + 1,ws,k,h=>by
   unfold innerS
   split
   ·split
    ·rw [innerS_far lt j _ k (by omega),List.getElem?_set_ne (by omega),List.getElem?_set_ne (by omega)]
    ·rfl
   ·rfl
theorem outerS_sorted:∀ (n i:Nat) (ws:List Int),i + n = ws.length→(∀ (a b:Nat) (x y:Int),a < b→b < i→ws[a]? = some x→ws[b]? = some y→x ≤ y) →
  ∀ (a b:Nat) (x y:Int),a < b→(outerS ltI n i ws)[a]? = some x→(outerS ltI n i ws)[b]? = some y→x ≤ y
 | 0,i,ws,hn,h=>fun a b x y hab hx hy=>h a b x y hab (by have:=(List.getElem?_eq_some_iff.1 hy).1;simp only [outerS] at this;omega) hx hy
 | n + 1,i,ws,hn,h=>by
   rw [outerS]
   have hl:(innerS ltI i ws).length = ws.length:=(innerS_perm ltI i ws).length_eq
   refine outerS_sorted n (i + 1) _ (by rw [hl];omega) ?_
   intro a b x y hab hb hx hy
   exact innerS_sorted i i ws (by omega) (Nat.le_refl _) (fun a b x y hab hb hbi hx hy=>h a b x y hab (by omega) hx hy) a b x y hab (by omega) hx hy
theorem sortI_sorted (xs:List Int):(sortI xs).Pairwise (· ≤ ·):=by
 rw [List.pairwise_iff_getElem]
 intro a b ha hb hab
 rcases Nat.eq_zero_or_pos xs.length with h0 | h0
 ·rw [sortI_len] at ha;omega
 ·exact outerS_sorted (xs.length - 1) 1 xs (by omega) (fun a b x y hab hb hx hy=>by omega) a b _ _ hab (List.getElem?_eq_getElem ha) (List.getElem?_eq_getElem hb)
theorem sortI_mem (xs:List Int) (v:Int):v ∈ sortI xs ↔ v ∈ xs:=(outerS_perm ltI _ _ xs).mem_iff
theorem dd_mem:∀ (xs:List Int) (v:Int),v ∈ dd xs ↔ v ∈ xs
 | [],v=>Iff.rfl
 | [x],v=>Iff.rfl
 | x :: y :: r,v=>by
   have ih:=dd_mem (y :: r) v
   simp only [dd]
   split
   ·rename_i h
    subst h
    rw [ih]
    simp
   ·rw [List.mem_cons,ih]
    exact List.mem_cons.symm
theorem dd_asc:∀ (xs:List Int),xs.Pairwise (· ≤ ·)→(dd xs).Pairwise (· < ·)
 | [],_=>List.Pairwise.nil
 | [x],_=>by simp [dd]
 | x :: y :: r,h=>by
   have h1:=List.pairwise_cons.1 h
   have ih:=dd_asc (y :: r) h1.2
   simp only [dd]
   split
   ·exact ih
   ·rename_i hne
    refine List.pairwise_cons.2 ⟨fun z hz=>?_,ih⟩
    rw [dd_mem] at hz
    have h2:=h1.1 y (by simp)
    have h3:y ≤ z:=by
     rcases List.mem_cons.1 hz with rfl | hz
     ·omega
     ·exact (List.pairwise_cons.1 h1.2).1 z hz
    omega
theorem visC_mem (T:Tbl) (r:Rule) (v:Int):v ∈ visC T r ↔ v ∈ T.pk∨v ∈ r.cols:=by
 unfold visC
 rw [dd_mem,sortI_mem,List.mem_append]
theorem visC_asc (T:Tbl) (r:Rule):(visC T r).Pairwise (· < ·):=dd_asc _ (sortI_sorted _)
theorem visC_in {T:Tbl} {r:Rule} (hT:VT T) (hc:∀ c ∈ r.cols,0 ≤ c∧c < T.cols.length):∀ c ∈ visC T r,0 ≤ c∧c < T.cols.length:=fun c h=>by
 rcases (visC_mem T r c).1 h with h | h
 ·exact hT.pk c h
 ·exact hc c h
theorem visC_len {T:Tbl} {r:Rule} (hT:VT T) (hc:∀ c ∈ r.cols,0 ≤ c∧c < T.cols.length):(visC T r).length ≤ T.cols.length:=by
 refine asc_len (visC_in hT hc) fun i a b ha hb=>?_
 obtain ⟨h1,rfl⟩:=List.getElem?_eq_some_iff.1 ha
 obtain ⟨h2,rfl⟩:=List.getElem?_eq_some_iff.1 hb
 exact List.pairwise_iff_getElem.1 (visC_asc T r) i (i + 1) h1 h2 (by omega)
structure Vis (g:Gr) (rules:List Rule) (user:ByteArray) (v:Int) (inst:List Rel) (table:ByteArray) (Ss:List Sch) (S:Sch) (r:Rule) (k:Int) (T:Tbl) (x:Rel):Prop where
 rs:VRs g rules Ss
 v0:0 ≤ v
 s:Ss[v.toNat]? = some S
 cf:CF S inst
 l:lk rules user v table = some r
 vr:VR Ss r S k T
 x:inst[k.toNat]? = some x
 hv:m_access_Validate g rules = some 0
 hs:m_versions_Schema g v = some (S,0)
 hc:m_instance_Conforms S inst = some 0
theorem find_strEq {S:Sch} {a b:ByteArray} (h:strEq a b = true):m_schema_FindTable S a = m_schema_FindTable S b:=by
 have hab:a.toList = b.toList:=by simpa [strEq] using h
 have key:∀ (f f':Tbl→Option Bool),(∀ t,f t = f' t)→f = f':=fun f f' h=>funext h
 unfold m_schema_FindTable m_slices_IndexFunc_Table
 rw [key (fun xa_=>m_schema_FindTable_1 xa_ a) (fun xa_=>m_schema_FindTable_1 xa_ b) fun t=>by simp [m_schema_FindTable_1,strEq,hab]]
theorem w_Visible2 (g:Gr) (hx:∀ e ∈ g.edges,∀ x ∈ e.script,SmallX x) (rules:List Rule) (user:ByteArray) (v:Int) (inst:List Rel) (table:ByteArray) :
  Wp (m_access_Visible g rules user v inst table) fun q=>(q.2.2 = 0→∃ Ss S r k T x,Vis g rules user v inst table Ss S r k T x∧q.2.1 = visC T r∧q.1 = (x.rows.filter (mtch r)).map (projF (visC T r))) ∧
   ∀ S r,m_access_Validate g rules = some 0→m_versions_Schema g v = some (S,0)→m_instance_Conforms S inst = some 0→lk rules user v table = some r→q.2.2 = 0:=by
 have hL:=LIM_eq
 unfold m_access_Visible
 refine Wp.bind (w_access_Validate g hx rules) fun e he1 he=>Wp.cond (fun h=>Wp.ret (And.intro (by intro h0;simp only at h0;rw [h0] at h;cases h) (fun _ _ h9 _ _ _=>by rw [he1] at h9;cases h9;rfl))) fun h1=>?_
 obtain rfl:e = 0:=by simpa using h1
 obtain ⟨Ss,hR⟩:=he rfl
 refine Wp.bind (w_versions_Schema g hx v) fun q hq1 hq=>Wp.cond (fun h=>Wp.ret (And.intro (by intro h0;simp only at h0;rw [h0] at h;cases h) (fun _ _ _ h9 _ _=>by rw [hq1] at h9;cases h9;rfl))) fun h2=>?_
 obtain ⟨S,e⟩:=q
 obtain rfl:e = 0:=by simpa using h2
 obtain ⟨Ss',hss,_,hv0,hSv⟩:=hq rfl
 have:=hR.ss
 rw [this] at hss
 cases hss
 have hSm:=List.mem_of_getElem? hSv
 have hVS:=hR.vs _ hSm
 refine Wp.bind (w_Conforms S (fun T hT=>(hVS.tab T hT).pk6) inst) fun e he1' he=>Wp.cond (fun h=>Wp.ret (And.intro (by intro h0;simp only at h0;rw [h0] at h;cases h) (fun _ _ _ h8 h9 _=>by rw [hq1] at h8;cases h8;rw [he1'] at h9;cases h9;rfl))) fun h3=>?_
 obtain rfl:e = 0:=by simpa using h3
 have hCF:=he rfl
 rw [lookup_eq]
 cases hl:lk rules user v table with
 | none=>exact ⟨_,rfl,by simp,fun _ _ _ _ _ h9=>by cases h9⟩
 | some r=>
   have hrm:r ∈ rules:=List.mem_of_find?_eq_some hl
   have hrp:lkP user v table r = true:=List.find?_some hl
   obtain ⟨S',k,T,hVR⟩:=hR.r r hrm
   simp only [lkP,Bool.and_eq_true,beq_iff_eq] at hrp
   obtain ⟨hu,hrv,hrt⟩:=hrp
   have hS':=hVR.s
   rw [hrv,hSv] at hS'
   cases hS'
   have hft:m_schema_FindTable S table = some (k,true):=by rw [← find_strEq hrt];exact hVR.ft
   show Wp (bindK (m_schema_FindTable S table) _) _
   rw [hft]
   have hTm:=List.mem_of_getElem? hVR.t
   have hVT:=hVS.tab T hTm
   have hkl:=(List.getElem?_eq_some_iff.1 hVR.t).1
   have hkl2:k.toNat < inst.length:=by rw [hCF.len];exact hkl
   have hk0:=hVR.k0
   have hkk:k = ((k.toNat:Nat):Int):=by omega
   obtain ⟨x,hx⟩:∃ x,inst[k.toNat]? = some x:=⟨_,List.getElem?_eq_getElem hkl2⟩
   show Wp (getK S.tables k _) _
   rw [hkk]
   refine Wp.getN hVR.t (Wp.bind (w_visibleColumns hVT hVR.cols hVR.asc) fun c _ hc=>Wp.getN hx ?_)
   subst hc
   have hrow:=hCF.row _ _ _ hx hVR.t
   have h24:=hCF.l24 x (List.mem_of_getElem? hx)
   have hvl:=visC_len hVT hVR.cols
   have h6:=hVT.cols6
   refine Wp.for (fun i (s:List (List GV))=>s = ((x.rows.take i).filter (mtch r)).map (projF (visC T r))) (by simp) ?_ ?_
   ·intro i row s next hi hm hI hn
    have hil:=(List.getElem?_eq_some_iff.1 hi).1
    have hcr:=hrow row hm
    rw [matches_eq hVT.pk hVR.pr hcr.len]
    have htk:x.rows.take (i + 1) = x.rows.take i ++ [row]:=by
     obtain ⟨h8,h9⟩:=List.getElem?_eq_some_iff.1 hi
     rw [List.take_succ_eq_append_getElem h8,h9]
    have hsl:s.length ≤ 24:=by
     rw [hI,List.length_map]
     refine Nat.le_trans (List.length_filter_le _ _) ?_
     simp;omega
    show Wp (bif mtch r row then _ else _) _
    refine Wp.cond (fun hb=>Wp.bind (w_project row (visC T r) (by omega) fun c hc=>by have:=visC_in hVT hVR.cols c hc;have:=hcr.len;omega) fun p _ hp=>Wp.app (by simp;omega) (hn _ ?_)) fun hb=>hn _ ?_
    ·rw [htk,List.filter_append,List.map_append,← hI,hp]
     simp [hb]
    ·rw [htk,List.filter_append,List.map_append,← hI]
     simp [hb]
   ·intro s hs
    rw [List.take_length] at hs
    exact Wp.ret ⟨fun _=>⟨Ss,S,r,k,T,x,⟨hR,hv0,hSv,hCF,hl,hVR,hx,he1,hq1,he1'⟩,rfl,hs⟩,fun _ _ _ _ _ _=>rfl⟩
theorem w_Visible (g:Gr) (hx:∀ e ∈ g.edges,∀ x ∈ e.script,SmallX x) (rules:List Rule) (user:ByteArray) (v:Int) (inst:List Rel) (table:ByteArray) :
  Wp (m_access_Visible g rules user v inst table) fun q=>q.2.2 = 0→∃ Ss S r k T x,Vis g rules user v inst table Ss S r k T x∧q.2.1 = visC T r∧q.1 = (x.rows.filter (mtch r)).map (projF (visC T r)):=
 (w_Visible2 g hx rules user v inst table).mono fun _ _ h=>h.1
set_option maxRecDepth 100000 in
theorem accessWorks:m_stemkeep1_accessWorks = some true:=by decide +kernel
theorem w_bounded (g:Gr) (inst:List Rel) (changes:List Chg) (hl:inst.length ≤ 2097152):Wp (m_stemkeep1_bounded g ⟨[inst],[]⟩ changes) fun _=>True:=by
 unfold m_stemkeep1_bounded m_slices_Concat_Instance
 refine Wp.cond (fun _=>Wp.ret trivial) fun _=>Wp.cond (fun _=>Wp.ret trivial) fun _=>Wp.cond (fun _=>Wp.ret trivial) fun _=>Wp.cond (fun _=>Wp.ret trivial) fun _=>?_
 refine Wp.bind (R:=fun v=>v = []) (Wp.chk (by simp) (Wp.ret rfl)) fun v _ hv=>?_
 subst hv
 refine Wp.bind (R:=fun v=>v = [inst]) (Wp.chk (by simp) (Wp.ret rfl)) fun v _ hv=>?_
 refine Wp.for (fun _ _=>True) trivial ?_ fun _ _=>Wp.ret trivial
 intro i x s next _ _ _ hn
 refine Wp.cond (fun _=>Wp.ret trivial) fun _=>Wp.bind (R:=fun _=>True) ?_ fun _ _ _=>Wp.cond (fun _=>Wp.ret trivial) fun _=>hn () trivial
 unfold m_slices_ContainsFunc_Relation m_slices_IndexFunc_Relation
 refine Wp.bind (R:=fun _=>True) ⟨_,index_eq (p:=fun r=>decide (40 < (r.rows.length:Int))) fun x _=>rfl,trivial⟩ fun _ _ _=>Wp.ret trivial
theorem ba_refl (b:ByteArray):(b == b) = true:=by
 cases b with
 | mk d=>
   first
    | exact beq_self_eq_true _
    | (show (d == d) = true;exact beq_self_eq_true d)
theorem w_EqualRow (a:List GV):Wp (m_stemref1_EqualRow a a) fun b=>b = true:=by
 unfold m_stemref1_EqualRow
 refine Wp.cond (fun h=>by simp at h) fun _=>Wp.for (fun _ _=>True) trivial ?_ fun _ _=>Wp.ret rfl
 intro i x s next hx _ _ hn
 exact Wp.getN hx (Wp.cond (fun h=>by simp [ba_refl] at h) fun _=>hn () trivial)
theorem w_EqualRows (a:List (List GV)):Wp (m_stemref1_EqualRows a a) fun b=>b = true:=by
 unfold m_stemref1_EqualRows
 refine Wp.cond (fun h=>by simp at h) fun _=>Wp.for (fun _ _=>True) trivial ?_ fun _ _=>Wp.ret rfl
 intro i x s next hx _ _ hn
 refine Wp.getN hx (Wp.bind (w_EqualRow x) fun b _ hb=>Wp.cond (fun h=>by simp [hb] at h) fun _=>hn () trivial)
theorem w_EqualInt (a:List Int):Wp (m_slices_Equal_Int a a) fun b=>b = true:=by
 unfold m_slices_Equal_Int
 refine Wp.cond (fun h=>by simp at h) fun _=>Wp.for (fun _ _=>True) trivial ?_ fun _ _=>Wp.ret rfl
 intro i x s next hx _ _ hn
 exact Wp.getN hx (Wp.cond (fun h=>by simp at h) fun _=>hn () trivial)
end Go.Proofs.YthgepknlibmjcaaGreat
end
section
namespace Go.Proofs.YthgepknlibmjcaaGreat
open Go.Am
def m_view_restrict (t:Tbl) (columns:List Int):Option Tbl:=
 (forK (fun (i5:Nat) (x5:Int) (s5:(List Col) × (List Int)) next_5=>(getK t.cols x5 fun x6=>(appK2 s5.1 [x6] fun _=>(bindK (m_slices_Contains_Int t.pk x5) fun v9=>(bif v9 then (appK2 s5.2 [(i5:Int)] fun _=>(next_5 ((s5.1 ++ [x6]),(s5.2 ++ [(i5:Int)])))) else (next_5 ((s5.1 ++ [x6]),s5.2))))))) (fun (s5:(List Col) × (List Int))=>(some (Tbl.mk t.name s5.1 s5.2))) columns 0 ([],[]))
theorem c_view_restrict (t:Tbl) (columns:List Int) (r:Tbl) (hm:Is (m_view_restrict t columns) r):PSpec Tryz.prog 60 [.agg t.enc,.one (.d (.sl (columns.map encI)))] (.agg (r.enc.map RC.d)):=by
 unfold m_view_restrict at hm
 refine PSpec.of_vc Tryz.func60 rfl (by kernel_rfl) (n:=40) rfl rfl (by simp) ?_
 try simp [*]
 intro hl4
 replace hl4:columns.length ≤ 2097152:=by simpa using hl4
 refine Wait.for (xs:=columns) (s0:=([],[])) (fun i5 s5 e5 h5=>∃ c5_0 c5_1:C,(e5.n = 40∧e5.get 2 = .one (.ptr (0,32) 0)∧e5.get 4 = .one (.ptr (1,64) 0)∧e5.get 5 = .one (.ptr (2,80) 0)∧e5.get 11 = .one (.d (.sl (columns.map encI)))∧e5.get 12 = .one (.d (.int .i64 (columns.length:Int)))∧e5.get 13 = .one (.d (.int .i64 (i5:Int)))∧h5.box (0,32) = some [.d (.str t.name),.d (.sl (t.cols.map Col.enc)),.d (.sl (t.pk.map encI))]∧h5.box (1,64) = some [.d (.str ByteArray.empty),.nil,.nil]∧h5.box (2,80) = some [.d (.str t.name),c5_0,c5_1]∧Grows h5 3 c5_0 (s5.1.map Col.enc)∧Grows h5 1 c5_1 (s5.2.map encI))∧Apart c5_0 c5_1) hm ⟨.nil,.nil,by simp (maxDischargeDepth:=20) [*],(by simp)⟩ ?_ ?_
 ·rintro i5 s5 e5 h5 ⟨c5_0,c5_1,⟨hn5,h5_2,h5_4,h5_5,h5_11,h5_12,h5_13,hb5_b1,hb5_b2,hb5_b3,gc5_0,gc5_1⟩,apc5_0_c5_1⟩ hlt5 hm
  have hlc5_0:=gc5_0.list
  have hdc5_0:=gc5_0.toD
  have hac5_0:=gc5_0.toA
  have huc5_0:=gc5_0.useUp_arr
  have hlc5_1:=gc5_1.list
  have hdc5_1:=gc5_1.toD
  have hac5_1:=gc5_1.toA
  have huc5_1:=gc5_1.useUp_arr
  have hw5:IntKind.i64.wrap ((i5:Int) + 1) = (i5:Int) + 1:=IntWalk.i64_in _ (by omega)
  try simp [*]
  refine Wait.of (SWP.draw (Plan.then_ [0,1,2,3,4,5,6,7,8,9,10] .done) follows (by kernel_rfl) ?_)
  try simp [*,Plan.then_,vcPlan,planOps,isCallAt,callKind]
  replace hm:=hm.get
  obtain ⟨x6,h0x6,hxx6,hm⟩:=hm
  try simp [*,Plan.then_,vcPlan,planOps,isCallAt,callKind]
  refine r_app (xs:=s5.1) (ys:=[x6]) (enc:=Col.enc) hm ty_el73 (by first | exact Grows.nil | (simp (maxDischargeDepth:=20) [*];done) | (simp (maxDischargeDepth:=20) [*];refine ⟨?_,by omega⟩;intro hq;subst hq;simp at hz2 <;> omega)) (by simp [*]) (by decide) (by decide) (fun _=>rfl) ?_
  clear hm;intro hl8 hm g7
  try simp [*,Plan.then_,vcPlan,planOps,isCallAt,callKind]
  refine r_call (av:=[.one (.d (.sl (t.pk.map encI))),.one (.d (.int .i64 (columns[i5])))]) hm (fun v hv=>c_slices_Contains_Int _ _ v hv) (by simp [*]) ?_
  clear hm;intro v9 hvv9 hm
  try simp [*]
  refine r_cond hm ?_ ?_ <;> clear hm <;> intro hc10 hm
  ·try simp [*]
   refine r_app (xs:=s5.2) (ys:=[(i5:Int)]) (enc:=encI) hm ty_el30 (by first | exact Grows.nil | (simp (maxDischargeDepth:=20) [*];done) | (simp (maxDischargeDepth:=20) [*];refine ⟨?_,by omega⟩;intro hq;subst hq;simp at hz2 <;> omega)) (by simp [*]) (by decide) (by decide) (fun _=>rfl) ?_
   clear hm;intro hl12 hm g11
   try simp [*]
   exact BackF.of ((s5.1 ++ [x6]),(s5.2 ++ [(i5:Int)])) ⟨⟨.own (h5.ep + 1,416) ((s5.1 ++ [x6]).map Col.enc),.own (h5.ep + 4,576) ((s5.2 ++ [(i5:Int)]).map encI),by simp (maxDischargeDepth:=20) [*],(by simp)⟩,hm⟩
  ·try simp [*]
   exact BackF.of ((s5.1 ++ [x6]),s5.2) ⟨⟨.own (h5.ep + 1,416) ((s5.1 ++ [x6]).map Col.enc),c5_1,by simp (maxDischargeDepth:=20) [*],(by first | (simp [*];done) | exact gc5_1.apart (by simp))⟩,hm⟩
 ·rintro s5 e5 h5 ⟨c5_0,c5_1,⟨hn5,h5_2,h5_4,h5_5,h5_11,h5_12,h5_13,hb5_b1,hb5_b2,hb5_b3,gc5_0,gc5_1⟩,apc5_0_c5_1⟩ hm
  have hlc5_0:=gc5_0.list
  have hdc5_0:=gc5_0.toD
  have hac5_0:=gc5_0.toA
  have huc5_0:=gc5_0.useUp_arr
  have hlc5_1:=gc5_1.list
  have hdc5_1:=gc5_1.toD
  have hac5_1:=gc5_1.toA
  have huc5_1:=gc5_1.useUp_arr
  try simp [*]
  obtain rfl:=r_ret hm
  exact ret0 (vs:=[_]) (by simp [*];try exact rfl) (by simp [*])
def m_view_Project (g_:Gr) (rules:List Rule) (user:ByteArray) (v_:Int) (inst:List Rel):Option (Sch × (List Rel) × Int):=
 (bindK (m_access_Validate g_ rules) fun v3=>(bif (v3 != 0) then (some ((Sch.mk [] [] []),[],v3)) else (bindK (m_versions_Schema g_ v_) fun v5=>(bif (v5.2 != 0) then (some ((Sch.mk [] [] []),[],v5.2)) else (forK (fun (i10:Nat) (x10:Tbl) (s10:(List Rel) × (List Tbl)) next_10=>(bindK (m_access_Visible g_ rules user v_ inst x10.name) fun v12=>(bif (v12.2.2 == 17) then (next_10 (s10.1,s10.2)) else (bif (v12.2.2 != 0) then (some ((Sch.mk [] [] []),[],v12.2.2)) else (bindK (m_view_restrict x10 v12.2.1) fun v15=>(appK2 s10.2 [v15] fun _=>(appK2 s10.1 [(Rel.mk x10.name v12.1)] fun _=>(next_10 ((s10.1 ++ [(Rel.mk x10.name v12.1)]),(s10.2 ++ [v15])))))))))) (fun (s10:(List Rel) × (List Tbl))=>(some ((Sch.mk s10.2 [] []),s10.1,0))) v5.1.tables 0 ([],[]))))))
theorem c_view_Project (g_:Gr) (rules:List Rule) (user:ByteArray) (v_:Int) (inst:List Rel) (r:Sch × (List Rel) × Int) (hm:Is (m_view_Project g_ rules user v_ inst) r):PSpec Tryz.prog 22 [.agg g_.enc,.one (.d (.sl (rules.map Rule.enc))),.one (.d (.str user)),.one (.d (.int .i64 v_)),.one (.d (.sl (inst.map Rel.enc)))] (.tup [.agg (r.1.enc.map RC.d),.one (.d (.sl (r.2.1.map Rel.enc))),.one (.d (.int .i64 r.2.2))]):=by
 unfold m_view_Project at hm
 refine PSpec.of_vc Tryz.func22 rfl (by kernel_rfl) (n:=85) rfl rfl (by simp) ?_
 try simp [*]
 refine r_call (av:=[.agg g_.enc,.one (.d (.sl (rules.map Rule.enc)))]) hm (fun v hv=>c_access_Validate _ _ v hv) (by simp [*]) ?_
 clear hm;intro v3 hvv3 hm
 try simp [*]
 refine r_cond hm ?_ ?_ <;> clear hm <;> intro hc4 hm
 ·try simp [*]
  obtain rfl:=r_ret hm
  exact ret0 (vs:=[_,_,_]) (by simp [*];try exact ⟨rfl,rfl,rfl⟩) (by simp [*])
 ·try simp [*]
  refine r_call (av:=[.agg g_.enc,.one (.d (.int .i64 v_))]) hm (fun v hv=>c_versions_Schema _ _ v hv) (by simp [*]) ?_
  clear hm;intro v5 hvv5 hm
  try simp [*]
  refine r_cond hm ?_ ?_ <;> clear hm <;> intro hc7 hm
  ·try simp [*]
   obtain rfl:=r_ret hm
   exact ret0 (vs:=[_,_,_]) (by simp [*];try exact ⟨rfl,rfl,rfl⟩) (by simp [*])
  ·try simp [*]
   intro hl9
   replace hl9:v5.1.tables.length ≤ 2097152:=by simpa using hl9
   refine Wait.for (xs:=v5.1.tables) (s0:=([],[])) (fun i10 s10 e10 h10=>∃ c10_0 c10_1:C,(e10.n = 85∧e10.get 1 = .one (.d (.sl (rules.map Rule.enc)))∧e10.get 2 = .one (.d (.str user))∧e10.get 3 = .one (.d (.int .i64 v_))∧e10.get 4 = .one (.d (.sl (inst.map Rel.enc)))∧e10.get 5 = .one (.ptr (0,80) 0)∧e10.get 10 = .one (.ptr (1,160) 0)∧e10.get 16 = .one (.ptr (5,256) 0)∧e10.get 17 = .one c10_0∧e10.get 41 = .one (.d (.sl (v5.1.tables.map Tbl.enc)))∧e10.get 42 = .one (.d (.int .i64 (v5.1.tables.length:Int)))∧e10.get 43 = .one (.d (.int .i64 (i10:Int)))∧h10.box (0,80) = some [.d (.sl (g_.base.tables.map Tbl.enc)),.d (.sl (g_.base.fks.map Fk.enc)),.d (.sl (g_.base.cons.map Cons.enc)),.d (.sl (g_.edges.map Edg.enc))]∧h10.box (1,160) = some [.nil,.nil,.nil]∧h10.box (5,256) = some [c10_1,.nil,.nil]∧Grows h10 2 c10_0 (s10.1.map Rel.enc)∧Grows h10 3 c10_1 (s10.2.map Tbl.enc))∧Apart c10_0 c10_1) hm ⟨.nil,.nil,by simp (maxDischargeDepth:=20) [*],(by simp)⟩ ?_ ?_
   ·rintro i10 s10 e10 h10 ⟨c10_0,c10_1,⟨hn10,h10_1,h10_2,h10_3,h10_4,h10_5,h10_10,h10_16,h10_17,h10_41,h10_42,h10_43,hb10_b1,hb10_b2,hb10_b8,gc10_0,gc10_1⟩,apc10_0_c10_1⟩ hlt10 hm
    have hlc10_0:=gc10_0.list
    have hdc10_0:=gc10_0.toD
    have hac10_0:=gc10_0.toA
    have huc10_0:=gc10_0.useUp_arr
    have hlc10_1:=gc10_1.list
    have hdc10_1:=gc10_1.toD
    have hac10_1:=gc10_1.toA
    have huc10_1:=gc10_1.useUp_arr
    have hw10:IntKind.i64.wrap ((i10:Int) + 1) = (i10:Int) + 1:=IntWalk.i64_in _ (by omega)
    try simp [*]
    refine r_call (av:=[.agg g_.enc,.one (.d (.sl (rules.map Rule.enc))),.one (.d (.str user)),.one (.d (.int .i64 v_)),.one (.d (.sl (inst.map Rel.enc))),.one (.d (.str (v5.1.tables[i10].name)))]) hm (fun v hv=>c_access_Visible _ _ _ _ _ _ v hv) (by simp [*]) ?_
    clear hm;intro v12 hvv12 hm
    try simp [*]
    refine r_cond hm ?_ ?_ <;> clear hm <;> intro hc13 hm
    ·try simp [*]
     exact BackF.of (s10.1,s10.2) ⟨⟨c10_0,c10_1,by simp (maxDischargeDepth:=20) [*],(by first | assumption | exact Apart.symm (by assumption))⟩,hm⟩
    ·try simp [*]
     refine r_cond hm ?_ ?_ <;> clear hm <;> intro hc14 hm
     ·try simp [*]
      obtain rfl:=r_ret hm
      exact ret0 (vs:=[_,_,_]) (by simp [*];try exact ⟨rfl,rfl,rfl⟩) (by simp [*])
     ·try simp [*]
      refine Wait.of (SWP.draw (Plan.then_ [0,1,2,3,4,5,6,7,8] .done) follows (by kernel_rfl) ?_)
      try simp [*,Plan.then_,vcPlan,planOps,isCallAt,callKind]
      refine r_call (av:=[.agg (v5.1.tables[i10]).enc,.one (.d (.sl (v12.2.1.map encI)))]) hm (fun v hv=>c_view_restrict _ _ v hv) (by simp [*]) ?_
      clear hm;intro v15 hvv15 hm
      try simp [*,Plan.then_,vcPlan,planOps,isCallAt,callKind]
      try refine ⟨fun (_:Lab) (_:List C) hl=>hl,?_⟩
      refine r_app (xs:=s10.2) (ys:=[v15]) (enc:=Tbl.enc) hm ty_el22 (by first | exact Grows.nil | (simp (maxDischargeDepth:=20) [*];done) | (simp (maxDischargeDepth:=20) [*];refine ⟨?_,by omega⟩;intro hq;subst hq;simp at hz2 <;> omega)) (by simp [*]) (by decide) (by decide) (fun _=>rfl) ?_
      clear hm;intro hl17 hm g16
      try simp [*,Plan.then_,vcPlan,planOps,isCallAt,callKind]
      refine r_app (xs:=s10.1) (ys:=[(Rel.mk v5.1.tables[i10].name v12.1)]) (enc:=Rel.enc) hm ty_el45 (by first | exact Grows.nil | (simp (maxDischargeDepth:=20) [*];done) | (simp (maxDischargeDepth:=20) [*];refine ⟨?_,by omega⟩;intro hq;subst hq;simp at hz2 <;> omega)) (by simp [*]) (by decide) (by decide) (fun _=>rfl) ?_
      clear hm;intro hl19 hm g18
      try simp [*]
      exact BackF.of ((s10.1 ++ [(Rel.mk v5.1.tables[i10].name v12.1)]),(s10.2 ++ [v15])) ⟨⟨.own (h10.ep + 6,1296) ((s10.1 ++ [(Rel.mk v5.1.tables[i10].name v12.1)]).map Rel.enc),.own (h10.ep + 4,1168) ((s10.2 ++ [v15]).map Tbl.enc),by simp (maxDischargeDepth:=20) [*],(by simp)⟩,hm⟩
   ·rintro s10 e10 h10 ⟨c10_0,c10_1,⟨hn10,h10_1,h10_2,h10_3,h10_4,h10_5,h10_10,h10_16,h10_17,h10_41,h10_42,h10_43,hb10_b1,hb10_b2,hb10_b8,gc10_0,gc10_1⟩,apc10_0_c10_1⟩ hm
    have hlc10_0:=gc10_0.list
    have hdc10_0:=gc10_0.toD
    have hac10_0:=gc10_0.toA
    have huc10_0:=gc10_0.useUp_arr
    have hlc10_1:=gc10_1.list
    have hdc10_1:=gc10_1.toD
    have hac10_1:=gc10_1.toA
    have huc10_1:=gc10_1.useUp_arr
    try simp [*]
    obtain rfl:=r_ret hm
    exact ret0 (vs:=[_,_,_]) (by simp [*];try exact ⟨rfl,rfl,rfl⟩) (by simp [*])
end Go.Proofs.YthgepknlibmjcaaGreat
end
section
namespace Go.Proofs.YthgepknlibmjcaaGreat
open Go Go.Am
def colZ:Col:=⟨ByteArray.empty,0,false⟩
def colF (T:Tbl) (c:Int):Col:=(T.cols[c.toNat]?).getD colZ
def pkI (T:Tbl) (cols:List Int) (n:Nat):List Int:=((List.range n).filter fun i=>decide ((cols[i]?).getD (-1) ∈ T.pk)).map fun (i:Nat)=>(i:Int)
def restrF (T:Tbl) (cols:List Int):Tbl:=⟨T.name,cols.map (colF T),pkI T cols cols.length⟩
theorem pkI_succ {T:Tbl} {cols:List Int} {i:Nat} {x:Int} (h:cols[i]? = some x):pkI T cols (i + 1) = if x ∈ T.pk then pkI T cols i ++ [(i:Int)] else pkI T cols i:=by
 unfold pkI
 rw [List.range_succ,List.filter_append,List.map_append]
 by_cases hx:x ∈ T.pk <;> simp [h,hx]
theorem pkI_len (T:Tbl) (cols:List Int) (n:Nat):(pkI T cols n).length ≤ n:=by
 unfold pkI
 rw [List.length_map]
 exact Nat.le_trans (List.length_filter_le _ _) (by simp)
theorem w_restrict (T:Tbl) (cols:List Int) (hl:cols.length ≤ 1048576) (hc:∀ c ∈ cols,0 ≤ c∧c < T.cols.length):Wp (m_view_restrict T cols) fun t=>t = restrF T cols:=by
 have hL:=LIM_eq
 unfold m_view_restrict
 refine Wp.for (fun i (s:List Col × List Int)=>s = ((cols.take i).map (colF T),pkI T cols i)) (by simp [pkI]) ?_ (fun s hs=>Wp.ret (by rw [hs,List.take_length];rfl))
 intro i x s next hx hm hI hn
 have hi:=(List.getElem?_eq_some_iff.1 hx).1
 have h1:=hc x hm
 have hp:=pkI_len T cols i
 refine Wp.get h1.1 h1.2 fun y hy _=>?_
 subst hI
 have hy':colF T x = y:=by simp [colF,hy]
 refine Wp.app (by simp;omega) (Wp.bind (w_Contains_Int _ _) fun b _ hb=>Wp.cond (fun h=>Wp.app (by simp;omega) (hn _ ?_)) fun h=>hn _ ?_)
 ·have hxp:x ∈ T.pk:=hb.1 h
  rw [take_snoc hx,pkI_succ hx,if_pos hxp,hy']
 ·have hxp:x ∉ T.pk:=fun h9=>by have:=hb.2 h9;rw [h] at this;cases this
  rw [take_snoc hx,pkI_succ hx,if_neg hxp,hy']
abbrev Shown:=Tbl × List (List GV) × List Int
structure Proj (g:Gr) (rules:List Rule) (user:ByteArray) (v:Int) (inst:List Rel) (S:Sch) (L:List Shown):Prop where
 hs:m_versions_Schema g v = some (S,0)
 hv:m_access_Validate g rules = some 0
 sub:(L.map (·.1)).Sublist S.tables
 vis:∀ p ∈ L,m_access_Visible g rules user v inst p.1.name = some (p.2.1,p.2.2,0)
def NamesU (S:Sch):Prop:=∀ (i j:Nat) (a b:Tbl),S.tables[i]? = some a→S.tables[j]? = some b→strEq a.name b.name = true→i = j
theorem w_schema_ok (S:Sch):Wp (m_schema_Validate S) fun e=>e = 0→(∀ T ∈ S.tables,m_schema_ValidateTable T = some 0)∧∀ (i:Nat) (a b:Tbl),S.tables[i]? = some a→S.tables[i + 1]? = some b→strLess b.name a.name = false∧strEq b.name a.name = false:=by
 unfold m_schema_Validate
 refine Wp.cond (fun _=>Wp.ret (by simp)) fun h1=>Wp.cond (fun _=>Wp.ret (by simp)) fun h2=>Wp.cond (fun _=>Wp.ret (by simp)) fun h3=>?_
 have a1:S.tables.length ≤ 6:=by simp at h1;omega
 have a2:S.fks.length ≤ 8:=by simp at h2;omega
 have a3:S.cons.length ≤ 8:=by simp at h3;omega
 refine Wp.for (fun i _=>(∀ (j:Nat) (T:Tbl),j < i→S.tables[j]? = some T→VT T∧m_schema_ValidateTable T = some 0)∧∀ (j:Nat) (a b:Tbl),j + 1 < i→S.tables[j]? = some a→S.tables[j + 1]? = some b→strLess b.name a.name = false∧strEq b.name a.name = false) ⟨by intro j T h;omega,by intro j a b h;omega⟩ ?_ ?_
 ·rintro i T s next hx hm ⟨hI,hJ⟩ hn
  have hi:=(List.getElem?_eq_some_iff.1 hx).1
  refine Wp.bind (w_ValidateTable T) fun e he0 he=>Wp.cond (fun h=>Wp.ret (by intro h0;simp [h0] at h)) fun h4=>?_
  obtain rfl:e = 0:=by simpa using h4
  have hI':=upto_succ hI hx ⟨he rfl,he0⟩
  refine Wp.cond (fun h5=>?_) fun h5=>hn () ⟨hI',fun j a b hj=>?_⟩
  ·have h5':0 < i:=by simpa using h5
   refine Wp.chk ⟨by omega,by omega⟩ (Wp.get (by omega) (by omega) fun y hy _=>Wp.cond (fun _=>Wp.ret (by simp)) fun h6=>hn () ⟨hI',fun j a b hj ha hb=>?_⟩)
   rcases Nat.lt_or_ge (j + 1) i with h | h
   ·exact hJ j a b h ha hb
   ·obtain rfl:i = j + 1:=by omega
    rw [hx] at hb
    rw [show (((j + 1:Nat):Int) - 1).toNat = j by omega,ha] at hy
    cases hb
    cases hy
    simpa using h6
  ·have:¬ (0 < i):=by simpa using h5
   omega
 rintro s ⟨hI,hJ⟩
 have hT:=upto_mem hI
 refine Wp.for (fun _ _=>True) trivial ?_ ?_
 ·intro i f s next hx hm _ hn
  have hi:=(List.getElem?_eq_some_iff.1 hx).1
  refine Wp.bind (w_validateForeignKey S (fun T h=>(hT T h).1) f) fun e _ he=>Wp.cond (fun h=>Wp.ret (by intro h0;simp [h0] at h)) fun h4=>?_
  refine Wp.chk ⟨by omega,by omega,by omega⟩ (Wp.bind (w_ContainsFunc_Fk _ _ fun x _=>?_) fun _ _ _=>Wp.cond (fun _=>Wp.ret (by simp)) fun _=>hn () trivial)
  unfold m_schema_Validate_1
  exact Wp.bind (w_EqualForeignKeys _ _) fun _ _ _=>Wp.ret trivial
 intro s _
 refine Wp.for (fun _ _=>True) trivial ?_ ?_
 ·intro i f s next hx hm _ hn
  have hi:=(List.getElem?_eq_some_iff.1 hx).1
  refine Wp.bind (w_validateConstraint S (fun T h=>(hT T h).1) f) fun e _ he=>Wp.cond (fun h=>Wp.ret (by intro h0;simp [h0] at h)) fun h4=>?_
  exact Wp.chk ⟨by omega,by omega,by omega⟩ (Wp.bind (w_Contains_Cons _ _) fun _ _ _=>Wp.cond (fun _=>Wp.ret (by simp)) fun _=>hn () trivial)
 intro s _
 exact Wp.ret fun _=>⟨fun T h=>(hT T h).2,fun i a b ha hb=>hJ i a b (List.getElem?_eq_some_iff.1 hb).1 ha hb⟩
theorem less_trans:∀ {a b c:List UInt8},Op.bytesLess a b = true→Op.bytesLess b c = true→Op.bytesLess a c = true:=by
 intro a
 induction a with
 | nil=>
   intro b c h1 h2
   cases c with
   | nil=>cases b <;> simp [Op.bytesLess] at h1 h2
   | cons z c=>simp [Op.bytesLess]
 | cons x a ih=>
   intro b c h1 h2
   cases b with
   | nil=>simp [Op.bytesLess] at h1
   | cons y b=>
     cases c with
     | nil=>simp [Op.bytesLess] at h2
     | cons z c=>
       simp only [Op.bytesLess,Bool.or_eq_true,Bool.and_eq_true,decide_eq_true_eq,beq_iff_eq] at h1 h2 ⊢
       rcases h1 with h1 | ⟨rfl,h1⟩ <;> rcases h2 with h2 | ⟨rfl,h2⟩
       ·exact .inl (UInt8.lt_trans h1 h2)
       ·exact .inl h1
       ·exact .inl h2
       ·exact .inr ⟨rfl,ih h1 h2⟩
theorem less_irrefl:∀ a:List UInt8,Op.bytesLess a a = false
 | []=>rfl
 | x :: a=>by simp [Op.bytesLess,less_irrefl a]
theorem less_total:∀ {a b:List UInt8},Op.bytesLess a b = false→a ≠ b→Op.bytesLess b a = true:=by
 intro a
 induction a with
 | nil=>
   intro b h1 h2
   cases b with
   | nil=>exact absurd rfl h2
   | cons y b=>simp [Op.bytesLess] at h1
 | cons x a ih=>
   intro b h1 h2
   cases b with
   | nil=>rfl
   | cons y b=>
     simp only [Op.bytesLess,Bool.or_eq_false_iff,Bool.and_eq_false_iff,decide_eq_false_iff_not,beq_eq_false_iff_ne] at h1
     simp only [Op.bytesLess,Bool.or_eq_true,Bool.and_eq_true,decide_eq_true_eq,beq_iff_eq]
     by_cases hxy:x = y
     ·subst hxy
      exact .inr ⟨rfl,ih (h1.2.resolve_left (fun h=>h rfl)) (fun h=>h2 (by rw [h]))⟩
     ·refine .inl ?_
      have h3:¬ (x.toNat < y.toNat):=fun h=>h1.1 (UInt8.lt_iff_toNat_lt.2 h)
      have h4:x.toNat ≠ y.toNat:=fun h=>hxy (UInt8.toNat_inj.1 h)
      exact UInt8.lt_iff_toNat_lt.2 (by omega)
theorem strEq_iff {a b:ByteArray}:strEq a b = true ↔ a.toList = b.toList:=by simp [strEq]
def NamesA (ts:List Tbl):Prop:=ts.Pairwise fun a b=>strLess a.name b.name = true
theorem names_of {ts:List Tbl} (h:∀ (i:Nat) (a b:Tbl),ts[i]? = some a→ts[i + 1]? = some b→strLess b.name a.name = false∧strEq b.name a.name = false):NamesA ts:=by
 have key:∀ (n i:Nat) (a b:Tbl),ts[i]? = some a→ts[i + 1 + n]? = some b→strLess a.name b.name = true:=by
  intro n
  induction n with
  | zero=>
    intro i a b ha hb
    obtain ⟨h1,h2⟩:=h i a b ha hb
    refine less_total h1 fun h3=>?_
    rw [strEq_iff.2 h3] at h2
    cases h2
  | succ n ih=>
    intro i a b ha hb
    have hl:=(List.getElem?_eq_some_iff.1 hb).1
    have hc:ts[i + 1 + n]? = some ts[i + 1 + n]:=List.getElem?_eq_getElem (by omega)
    refine less_trans (ih i a _ ha hc) ?_
    obtain ⟨h1,h2⟩:=h (i + 1 + n) _ b hc hb
    refine less_total h1 fun h3=>?_
    rw [strEq_iff.2 h3] at h2
    cases h2
 refine List.pairwise_iff_getElem.2 fun i j hi hj hij=>?_
 refine key (j - (i + 1)) i _ _ (List.getElem?_eq_getElem hi) ?_
 rw [show i + 1 + (j - (i + 1)) = j by omega]
 exact List.getElem?_eq_getElem hj
theorem NamesA.uniq {S:Sch} (h:NamesA S.tables):NamesU S:=by
 intro i j a b ha hb he
 obtain ⟨hi,rfl⟩:=List.getElem?_eq_some_iff.1 ha
 obtain ⟨hj,rfl⟩:=List.getElem?_eq_some_iff.1 hb
 have e:=strEq_iff.1 he
 rcases Nat.lt_trichotomy i j with h1 | h1 | h1
 ·have h2:Op.bytesLess _ _ = true:=List.pairwise_iff_getElem.1 h i j hi hj h1
  rw [e,less_irrefl] at h2
  cases h2
 ·exact h1
 ·have h2:Op.bytesLess _ _ = true:=List.pairwise_iff_getElem.1 h j i hj hi h1
  rw [← e,less_irrefl] at h2
  cases h2
theorem VS.ord {S:Sch} (h:VS S):NamesA S.tables∧∀ T ∈ S.tables,m_schema_ValidateTable T = some 0:=by
 obtain ⟨e,he,hp⟩:=w_schema_ok S
 rw [h.ok] at he
 cases he
 exact ⟨names_of (hp rfl).2,(hp rfl).1⟩
theorem vis_tab {g:Gr} {rules:List Rule} {user:ByteArray} {v:Int} {inst:List Rel} {Ss:List Sch} {S:Sch} {r:Rule} {k:Int} {T T':Tbl} {x:Rel} {i:Nat} {nm:ByteArray}
  (h:Vis g rules user v inst nm Ss S r k T' x) (hn:strEq T.name nm = true) (hT:S.tables[i]? = some T):k.toNat = i∧T' = T:=by
 have hU:=((h.rs.vs S (List.mem_of_getElem? h.s)).ord.1).uniq
 obtain ⟨q,hq,hp⟩:=w_FindTable S r.table
 rw [h.vr.ft] at hq
 cases hq
 obtain ⟨_,T2,h2,h3⟩:=hp.2.1 rfl
 rw [h.vr.t] at h2
 cases h2
 have hl:lkP user v nm r = true:=List.find?_some h.l
 simp only [lkP,Bool.and_eq_true,beq_iff_eq] at hl
 have e:strEq T'.name T.name = true:=by
  have e1:=strEq_iff.1 h3
  have e2:=strEq_iff.1 hl.2.2
  have e3:=strEq_iff.1 hn
  exact strEq_iff.2 (by rw [e1,e2,e3])
 have hki:=hU _ _ _ _ h.vr.t hT e
 refine ⟨hki,?_⟩
 have h4:=h.vr.t
 rw [hki,hT] at h4
 cases h4
 rfl
theorem w_Project (g:Gr) (hx:∀ e ∈ g.edges,∀ x ∈ e.script,SmallX x) (rules:List Rule) (user:ByteArray) (v:Int) (inst:List Rel) :
  Wp (m_view_Project g rules user v inst) fun q=>q.2.2 = 0→∃ S L,Proj g rules user v inst S L∧VS S∧q.1 = ⟨L.map (fun p=>restrF p.1 p.2.2),[],[]⟩∧q.2.1 = L.map (fun p=>⟨p.1.name,p.2.1⟩):=by
 have hL:=LIM_eq
 unfold m_view_Project
 refine Wp.bind (w_access_Validate g hx rules) fun e he1 he=>Wp.cond (fun h=>Wp.ret (by intro h0;simp only at h0;rw [h0] at h;cases h)) fun h1=>?_
 obtain rfl:e = 0:=by simpa using h1
 obtain ⟨Ss,hR⟩:=he rfl
 refine Wp.bind (w_versions_Schema g hx v) fun q hq1 hq=>Wp.cond (fun h=>Wp.ret (by intro h0;simp only at h0;rw [h0] at h;cases h)) fun h2=>?_
 obtain ⟨S,e⟩:=q
 obtain rfl:e = 0:=by simpa using h2
 obtain ⟨Ss',hss,hV,hv0,hSv⟩:=hq rfl
 have hVS:=hV S (List.mem_of_getElem? hSv)
 have h6:=hVS.t6
 refine Wp.for (fun i (s:List Rel × List Tbl)=>∃ L:List Shown,(L.map (·.1)).Sublist (S.tables.take i)∧(∀ p ∈ L,m_access_Visible g rules user v inst p.1.name = some (p.2.1,p.2.2,0))∧s = (L.map (fun p=>⟨p.1.name,p.2.1⟩),L.map (fun p=>restrF p.1 p.2.2))) ⟨[],by simp,by simp,rfl⟩ ?_ ?_
 ·rintro i T s next hT hm ⟨L,hsub,hvis,rfl⟩ hn
  have hi:=(List.getElem?_eq_some_iff.1 hT).1
  have htk:S.tables.take (i + 1) = S.tables.take i ++ [T]:=by
   obtain ⟨h8,h9⟩:=List.getElem?_eq_some_iff.1 hT
   rw [List.take_succ_eq_append_getElem h8,h9]
  have hLl:L.length ≤ i:=by
   have:=hsub.length_le
   simp at this
   omega
  have hL6:L.length ≤ 6:=by
   have:i < S.tables.length:=hi
   omega
  refine Wp.bind (w_Visible g hx rules user v inst T.name) fun q hq1 hq=>Wp.cond (fun _=>hn _ ⟨L,by rw [htk];exact hsub.trans (List.sublist_append_left _ _),hvis,rfl⟩) fun _=>Wp.cond (fun h=>Wp.ret (by intro h0;simp only at h0;rw [h0] at h;cases h)) fun h3=>?_
  obtain ⟨rows,cols,e⟩:=q
  obtain rfl:e = 0:=by simpa using h3
  obtain ⟨Ss2,S2,r,k,T2,x,hVis,hc,hr⟩:=hq rfl
  have hS2:S2 = S:=by
   have:=hVis.hs
   rw [show m_versions_Schema g v = some (S,0) from by assumption] at this
   cases this
   rfl
  subst hS2
  obtain ⟨_,hTT⟩:=vis_tab hVis (strEq_iff.2 rfl) hT
  subst hTT
  have hVT:=hVS.tab _ hm
  have hcl:=visC_len hVT hVis.vr.cols
  have h6c:=hVT.cols6
  simp only at hc hr
  refine Wp.bind (w_restrict _ cols (by rw [hc];omega) (by rw [hc];exact visC_in hVT hVis.vr.cols)) fun t _ ht=>Wp.app (by simp;omega) (Wp.app (by simp;omega) (hn _ ⟨L ++ [(T2,rows,cols)],?_,?_,?_⟩))
  ·rw [htk,List.map_append]
   exact hsub.append (List.Sublist.refl _)
  ·intro p hp
   rcases List.mem_append.1 hp with h | h
   ·exact hvis p h
   ·rw [List.mem_singleton.1 h]
    exact hq1
  ·rw [ht]
   simp
 ·rintro s ⟨L,hsub,hvis,rfl⟩
  rw [List.take_length] at hsub
  exact Wp.ret fun _=>⟨S,L,⟨hq1,he1,hsub,hvis⟩,hVS,rfl,rfl⟩
theorem cmpI_lt {a b:Int}:cmpI a b < 0 ↔ a < b:=by
 unfold cmpI
 split
 ·simp [*]
 ·split <;> simp [*]
theorem cmpI_zero {a b:Int}:cmpI a b = 0 ↔ a = b:=by
 unfold cmpI
 split
 ·simp;omega
 ·split
  ·simp;omega
  ·simp;omega
theorem cb_zero:∀ {a b:List UInt8},Lib.compareBytes a b = 0→a = b:=by
 intro a
 induction a with
 | nil=>intro b h;cases b with
   | nil=>rfl
   | cons y b=>simp [Lib.compareBytes] at h
 | cons x a ih=>
   intro b h
   cases b with
   | nil=>simp [Lib.compareBytes] at h
   | cons y b=>
     simp only [Lib.compareBytes] at h
     split at h
     ·simp at h
     ·split at h
      ·simp at h
      ·rename_i h1 h2
       have h3:¬ (x.toNat < y.toNat):=fun h=>h1 (UInt8.lt_iff_toNat_lt.2 h)
       have h4:¬ (y.toNat < x.toNat):=fun h=>h2 (UInt8.lt_iff_toNat_lt.2 h)
       have:x = y:=UInt8.toNat_inj.1 (by omega)
       rw [this,ih h]
theorem cb_refl:∀ a:List UInt8,Lib.compareBytes a a = 0
 | []=>rfl
 | x :: a=>by
   have:¬ (x < x):=fun h=>Nat.lt_irrefl _ (UInt8.lt_iff_toNat_lt.1 h)
   simp [Lib.compareBytes,this,cb_refl a]
theorem cb_trans:∀ {a b c:List UInt8},Lib.compareBytes a b < 0→Lib.compareBytes b c < 0→Lib.compareBytes a c < 0:=by
 intro a
 induction a with
 | nil=>
   intro b c h1 h2
   cases c with
   | nil=>cases b <;> simp [Lib.compareBytes] at h1 h2
   | cons z c=>simp [Lib.compareBytes]
 | cons x a ih=>
   intro b c h1 h2
   cases b with
   | nil=>simp [Lib.compareBytes] at h1
   | cons y b=>
     cases c with
     | nil=>simp [Lib.compareBytes] at h2
     | cons z c=>
       simp only [Lib.compareBytes,UInt8.lt_iff_toNat_lt] at h1 h2 ⊢
       split at h1
       ·split at h2
        ·rw [if_pos (by omega)];decide
        ·split at h2
         ·simp at h2
         ·rw [if_pos (by omega)];decide
       ·split at h1
        ·simp at h1
        ·split at h2
         ·rw [if_pos (by omega)];decide
         ·split at h2
          ·simp at h2
          ·rw [if_neg (by omega),if_neg (by omega)]
           exact ih h1 h2
theorem cmpV_lt {a b:GV}:cmpV a b < 0 ↔ a.kind < b.kind∨(a.kind = b.kind∧(a.int < b.int∨(a.int = b.int∧cmpS a.text b.text < 0))):=by
 unfold cmpV
 by_cases h1:cmpI a.kind b.kind = 0
 ·have e1:=cmpI_zero.1 h1
  by_cases h2:cmpI a.int b.int = 0
  ·have e2:=cmpI_zero.1 h2
   simp [e1,e2,cmpI]
  ·have e2:a.int ≠ b.int:=fun h=>h2 (cmpI_zero.2 h)
   rw [if_neg (by simp [h1]),if_pos h2,cmpI_lt]
   simp [e1,e2]
 ·have e1:a.kind ≠ b.kind:=fun h=>h1 (cmpI_zero.2 h)
  rw [if_pos h1,cmpI_lt]
  simp [e1]
theorem cmpV_zero {a b:GV} (h:cmpV a b = 0):a = b:=by
 unfold cmpV at h
 by_cases h1:cmpI a.kind b.kind = 0
 ·by_cases h2:cmpI a.int b.int = 0
  ·rw [if_neg (by simp [h1]),if_neg (by simp [h2])] at h
   have e3:=cb_zero h
   obtain ⟨k,n,t⟩:=a
   obtain ⟨k',n',t'⟩:=b
   have e1:=cmpI_zero.1 h1
   have e2:=cmpI_zero.1 h2
   simp only at e1 e2 e3
   subst e1 e2
   have:t = t':=by
    cases t with
    | mk d=>cases t' with
      | mk d'=>
        have:=Array.toList_inj.1 e3
        rw [show d = d' from this]
   rw [this]
  ·rw [if_neg (by simp [h1]),if_pos h2] at h
   exact absurd h h2
 ·rw [if_pos h1] at h
  exact absurd h h1
theorem cmpV_trans {a b c:GV} (h1:cmpV a b < 0) (h2:cmpV b c < 0):cmpV a c < 0:=by
 rw [cmpV_lt] at h1 h2 ⊢
 rcases h1 with h1 | ⟨e1,h1⟩
 ·rcases h2 with h2 | ⟨e2,_⟩
  ·exact .inl (by omega)
  ·exact .inl (by omega)
 ·rcases h2 with h2 | ⟨e2,h2⟩
  ·exact .inl (by omega)
  ·refine .inr ⟨by omega,?_⟩
   rcases h1 with h1 | ⟨f1,h1⟩
   ·rcases h2 with h2 | ⟨f2,_⟩
    ·exact .inl (by omega)
    ·exact .inl (by omega)
   ·rcases h2 with h2 | ⟨f2,h2⟩
    ·exact .inl (by omega)
    ·exact .inr ⟨by omega,cb_trans h1 h2⟩
theorem cmpR_trans:∀ {a b c:List GV},cmpR a b < 0→cmpR b c < 0→cmpR a c < 0:=by
 intro a
 induction a with
 | nil=>
   intro b c h1 h2
   cases c with
   | nil=>cases b <;> simp [cmpR] at h1 h2
   | cons z c=>simp [cmpR]
 | cons x a ih=>
   intro b c h1 h2
   cases b with
   | nil=>simp [cmpR] at h1
   | cons y b=>
     cases c with
     | nil=>simp [cmpR] at h2
     | cons z c=>
       simp only [cmpR] at h1 h2 ⊢
       by_cases e1:cmpV x y = 0
       ·have:=cmpV_zero e1
        subst this
        rw [if_neg (by simp [e1])] at h1
        by_cases e2:cmpV x z = 0
        ·rw [if_neg (by simp [e2])] at h2 ⊢
         exact ih h1 h2
        ·rw [if_pos e2] at h2 ⊢
         exact h2
       ·rw [if_pos e1] at h1
        by_cases e2:cmpV y z = 0
        ·have:=cmpV_zero e2
         subst this
         rw [if_pos e1]
         exact h1
        ·rw [if_pos e2] at h2
         have:=cmpV_trans h1 h2
         rw [if_pos (by omega)]
         exact this
def AscP (T:Tbl) (rows:List (List GV)):Prop:=rows.Pairwise fun a b=>cmpR (keyF T a) (keyF T b) < 0
theorem Asc.pw {T:Tbl} {rows:List (List GV)} (h:Asc T rows):AscP T rows:=by
 have key:∀ (n i:Nat) (a b:List GV),rows[i]? = some a→rows[i + 1 + n]? = some b→cmpR (keyF T a) (keyF T b) < 0:=by
  intro n
  induction n with
  | zero=>intro i a b ha hb;exact h i a b ha hb
  | succ n ih=>
    intro i a b ha hb
    have hl:=(List.getElem?_eq_some_iff.1 hb).1
    have hc:rows[i + 1 + n]? = some rows[i + 1 + n]:=List.getElem?_eq_getElem (by omega)
    exact cmpR_trans (ih i a _ ha hc) (h (i + 1 + n) _ b hc hb)
 refine List.pairwise_iff_getElem.2 fun i j hi hj hij=>?_
 refine key (j - (i + 1)) i _ _ (List.getElem?_eq_getElem hi) ?_
 rw [show i + 1 + (j - (i + 1)) = j by omega]
 exact List.getElem?_eq_getElem hj
theorem AscP.asc {T:Tbl} {rows:List (List GV)} (h:AscP T rows):Asc T rows:=by
 intro i a b ha hb
 obtain ⟨h1,rfl⟩:=List.getElem?_eq_some_iff.1 ha
 obtain ⟨h2,rfl⟩:=List.getElem?_eq_some_iff.1 hb
 exact List.pairwise_iff_getElem.1 h i (i + 1) h1 h2 (by omega)
theorem Wp.eq {α:Type} {m:Option α} {v:α} (h:Wp m fun r=>r = v):m = some v:=by
 obtain ⟨r,h1,rfl⟩:=h
 exact h1
theorem conformsRow_of {T:Tbl} {row:List GV} (h:CR T row):m_instance_ConformsRow T row = some 0:=by
 refine Wp.eq ?_
 unfold m_instance_ConformsRow
 have hl:=h.len
 refine Wp.cond (fun h1=>by simp [hl] at h1) fun _=>Wp.for (fun _ _=>True) trivial ?_ fun _ _=>Wp.ret rfl
 intro i x s next hx hm _ hn
 have hi:=(List.getElem?_eq_some_iff.1 hx).1
 have hic:i < T.cols.length:=by omega
 have hcx:T.cols[i]? = some T.cols[i]:=List.getElem?_eq_getElem hic
 obtain ⟨h1,h2,h3⟩:=h.cell i x _ hx hcx
 generalize T.cols[i] = c at hcx h2 h3
 rw [h1]
 refine Wp.bind (R:=fun v=>v = 0) ⟨_,rfl,rfl⟩ fun v _ hv=>?_
 subst hv
 refine Wp.cond (fun h=>by simp at h) fun _=>Wp.cond (fun h4=>?_) fun h4=>?_
 ·have a4:x.kind = 0:=by simpa using h4
  refine Wp.getN hcx (Wp.cond (fun h5=>?_) fun _=>Wp.cond (fun h5=>?_) fun _=>hn () trivial)
  ·rw [h2 a4] at h5;cases h5
  ·simp [a4] at h5
 ·have a4:x.kind ≠ 0:=by simpa using h4
  refine Wp.cond (fun _=>Wp.getN hcx (Wp.cond (fun h5=>?_) fun _=>hn () trivial)) fun _=>hn () trivial
  simp [h3 a4] at h5
theorem conforms_of {S:Sch} {inst:List Rel} (hS:∀ T ∈ S.tables,T.pk.length ≤ 6) (h:CF S inst):m_instance_Conforms S inst = some 0:=by
 refine Wp.eq ?_
 unfold m_instance_Conforms
 have hl:=h.len
 refine Wp.cond (fun h1=>by simp [hl] at h1) fun _=>Wp.for (fun _ _=>True) trivial ?_ fun _ _=>Wp.ret rfl
 intro i x s next hx hm _ hn
 have hi:=(List.getElem?_eq_some_iff.1 hx).1
 have hic:i < S.tables.length:=by omega
 have hcx:S.tables[i]? = some S.tables[i]:=List.getElem?_eq_getElem hic
 have hpk:=hS _ (List.getElem_mem hic)
 have h24:=h.l24 x hm
 generalize S.tables[i] = T at hcx hpk
 have hr:=h.row i x T hx hcx
 have ha:=h.asc i x T hx hcx
 refine Wp.getN hcx (Wp.cond (fun h1=>by rw [h.name i x T hx hcx] at h1;cases h1) fun _=>Wp.cond (fun h1=>?_) fun _=>?_)
 ·have:24 < x.rows.length:=by simp at h1;omega
  omega
 refine Wp.for (fun _ _=>True) trivial ?_ fun _ _=>hn () trivial
 intro k row s next2 hrow hrm _ hn2
 have hk:=(List.getElem?_eq_some_iff.1 hrow).1
 rw [conformsRow_of (hr row hrm)]
 refine Wp.bind (R:=fun v=>v = 0) ⟨_,rfl,rfl⟩ fun v _ hv=>?_
 subst hv
 refine Wp.cond (fun h=>by simp at h) fun _=>Wp.cond (fun _=>hn2 () trivial) fun h5=>Wp.chk ⟨by omega,by omega⟩ ?_
 have hk0:k ≠ 0:=by simp at h5;omega
 have hk1:k - 1 < x.rows.length:=by omega
 have hr0:x.rows[k - 1]? = some x.rows[k - 1]:=List.getElem?_eq_getElem hk1
 rw [show (k:Int) - 1 = ((k - 1:Nat):Int) by omega]
 generalize x.rows[k - 1] = row0 at hr0
 have hlt:=ha (k - 1) row0 row hr0 (by rw [show k - 1 + 1 = k by omega];exact hrow)
 refine Wp.getN hr0 (Wp.bind (w_Key T row0 (by omega)) fun k0 _ h0=>Wp.bind (w_Key T row (by omega)) fun k1 _ h1=>?_)
 subst h0 h1
 refine Wp.bind (w_CompareRows _ _ (by simp [keyF];omega)) fun c _ hc=>?_
 subst hc
 refine Wp.cond (fun h=>?_) fun _=>Wp.cond (fun h=>?_) fun _=>hn2 () trivial
 ·have:cmpR (keyF T row0) (keyF T row) = 0:=by simpa using h
  omega
 ·have:0 < cmpR (keyF T row0) (keyF T row):=by simpa using h
  omega
structure CT (T:Tbl):Prop where
 nm:∀ c ∈ T.cols,validName c.name = true
 kd:∀ c ∈ T.cols,1 ≤ c.kind∧c.kind ≤ 3
 un:∀ (i j:Nat) (a b:Col),j < i→T.cols[i]? = some a→T.cols[j]? = some b→strEq b.name a.name = false
 nn:∀ p ∈ T.pk,∀ c,T.cols[p.toNat]? = some c→c.nullable = false
theorem findColumn_eq (T:Tbl) (nm:ByteArray):m_schema_FindColumn T nm = some ((if fIdx (fun c=>strEq c.name nm) T.cols < 0 then 0 else fIdx (fun c=>strEq c.name nm) T.cols),decide (0 ≤ fIdx (fun c=>strEq c.name nm) T.cols)):=by
 unfold m_schema_FindColumn m_slices_IndexFunc_Column
 rw [index_eq (f:=fun xa_=>m_schema_FindColumn_1 xa_ nm) (p:=fun c=>strEq c.name nm) fun x _=>rfl]
 rfl
theorem fIdx_ge {α:Type} {p:α→Bool} {xs:List α} {i:Nat} {x:α} (hx:xs[i]? = some x) (hp:p x = true):(i:Int) ≤ fIdx p xs ↔ ∀ (j:Nat) (y:α),j < i→xs[j]? = some y→p y = false:=by
 unfold fIdx
 obtain ⟨hi,rfl⟩:=List.getElem?_eq_some_iff.1 hx
 cases h:xs.findIdx? p with
 | none=>
   have:=List.findIdx?_eq_none_iff.1 h _ (List.getElem_mem hi)
   rw [hp] at this
   cases this
 | some k=>
   obtain ⟨h1,h2,h3⟩:=List.findIdx?_eq_some_iff_getElem.1 h
   constructor
   ·intro hik j y hj hy
    obtain ⟨h4,rfl⟩:=List.getElem?_eq_some_iff.1 hy
    simpa using h3 j (by simp at hik;omega)
   ·intro hall
    rcases Nat.lt_or_ge k i with h5 | h5
    ·have:=hall k _ h5 (List.getElem?_eq_getElem h1)
     rw [h2] at this
     cases this
    ·simp;omega
theorem upto_succI {α:Type} {xs:List α} {p:Nat→α→Prop} {i:Nat} {x:α} (h:∀ (j:Nat) (y:α),j < i→xs[j]? = some y→p j y) (hx:xs[i]? = some x) (hp:p i x):∀ (j:Nat) (y:α),j < i + 1→xs[j]? = some y→p j y:=by
 intro j y hj hy
 rcases Nat.lt_or_ge j i with h1 | h1
 ·exact h j y h1 hy
 ·obtain rfl:j = i:=by omega
  rw [hx] at hy
  cases hy
  exact hp
theorem w_table_ct (T:Tbl):Wp (m_schema_ValidateTable T) fun e=>e = 0→CT T:=by
 unfold m_schema_ValidateTable
 refine Wp.bind (w_ValidName _) fun v _ hv=>Wp.cond (fun _=>Wp.ret (by simp)) fun hv1=>?_
 refine Wp.cond (fun _=>Wp.ret (by simp)) fun h1=>Wp.cond (fun _=>Wp.ret (by simp)) fun h2=>?_
 have hc6:T.cols.length ≤ 6:=by simp at h2;omega
 refine Wp.for (fun i _=>(∀ (j:Nat) (c:Col),j < i→T.cols[j]? = some c→validName c.name = true∧1 ≤ c.kind∧c.kind ≤ 3)∧∀ (k j:Nat) (a b:Col),k < i→j < k→T.cols[k]? = some a→T.cols[j]? = some b→strEq b.name a.name = false) ⟨by intro j c h;omega,by intro k j a b h;omega⟩ ?_ ?_
 ·rintro i x s next hx hm ⟨hI,hJ⟩ hn
  refine Wp.bind (w_ValidName _) fun v _ hvn=>Wp.cond (fun _=>Wp.ret (by simp)) fun h3=>?_
  rw [findColumn_eq]
  refine Wp.cond (fun _=>Wp.ret (by simp)) fun h4=>Wp.cond (fun _=>Wp.ret (by simp)) fun h5=>Wp.cond (fun _=>Wp.ret (by simp)) fun h6=>hn () ⟨upto_succ hI hx ⟨?_,?_,?_⟩,?_⟩
  ·rw [← hvn];simpa using h3
  ·simp at h5;omega
  ·simp at h6;omega
  ·intro k j a b hk hj ha hb
   rcases Nat.lt_or_ge k i with h | h
   ·exact hJ k j a b h hj ha hb
   ·obtain rfl:k = i:=by omega
    rw [hx] at ha
    cases ha
    have hself:strEq x.name x.name = true:=strEq_iff.2 rfl
    have h7:=(fIdx_ge (p:=fun c=>strEq c.name x.name) hx hself).1 (by
     have h8:¬ ((if fIdx (fun c=>strEq c.name x.name) T.cols < 0 then 0 else fIdx (fun c=>strEq c.name x.name) T.cols) < (k:Int)):=by simpa using h4
     split at h8
     ·omega
     ·omega)
    exact h7 j b hj hb
 ·rintro s ⟨hI,hJ⟩
  have hC:=upto_mem hI
  refine Wp.for (fun i _=>(∀ (j:Nat) (p:Int),j < i→T.pk[j]? = some p→∀ c,T.cols[p.toNat]? = some c→c.nullable = false)∧∀ (j:Nat) (p:Int),j < i→T.pk[j]? = some p→(j:Int) ≤ p∧p < T.cols.length) ⟨by intro j p h;omega,by intro j p h;omega⟩ ?_ ?_
  ·rintro i x s next hx hm ⟨hN,hK⟩ hn
   refine Wp.cond (fun _=>Wp.ret (by simp)) fun h3=>Wp.cond (fun _=>Wp.ret (by simp)) fun h4=>?_
   have h0:0 ≤ x:=by simpa using h3
   have h5:x < T.cols.length:=by simpa using h4
   have hil:=(List.getElem?_eq_some_iff.1 hx).1
   refine Wp.get h0 h5 fun c hcx _=>Wp.cond (fun _=>Wp.ret (by simp)) fun hnl=>?_
   have hN':=upto_succ (p:=fun p=>∀ c,T.cols[p.toNat]? = some c→c.nullable = false) hN hx (fun c' hc'=>by rw [hcx] at hc';cases hc';exact hnl)
   refine Wp.cond (fun h6=>?_) fun h6=>hn () ⟨hN',upto_succI (p:=fun j p=>(j:Int) ≤ p∧p < T.cols.length) hK hx ⟨?_,h5⟩⟩
   ·have hi:0 < i:=by simpa using h6
    have hil1:i - 1 < T.pk.length:=by omega
    have hk1:=hK (i - 1) _ (by omega) (List.getElem?_eq_getElem hil1)
    refine Wp.chk ⟨by omega,by have:=hc6;omega⟩ (Wp.get (by omega) (by omega) fun y hy _=>Wp.cond (fun _=>Wp.ret (by simp)) fun h7=>hn () ⟨hN',upto_succI (p:=fun j p=>(j:Int) ≤ p∧p < T.cols.length) hK hx ⟨?_,h5⟩⟩)
    have hyx:y < x:=by simpa using h7
    rw [show ((i:Int) - 1).toNat = i - 1 by omega,List.getElem?_eq_getElem hil1] at hy
    cases hy
    omega
   ·have:i = 0:=by simpa using h6
    omega
  ·rintro s ⟨hN,_⟩
   refine Wp.cond (fun _=>Wp.ret (by simp)) fun _=>Wp.ret fun _=>⟨fun c hc=>(hC c hc).1,fun c hc=>(hC c hc).2,fun i j a b hj ha hb=>hJ i j a b (List.getElem?_eq_some_iff.1 ha).1 hj ha hb,upto_mem hN⟩
theorem validateTable_of {T:Tbl} (hn:validName T.name = true) (h0:0 < T.cols.length) (h6:T.cols.length ≤ 6) (hc:CT T) (hp0:0 < T.pk.length) (hp:∀ v ∈ T.pk,0 ≤ v∧v < T.cols.length) (ha:∀ (i:Nat) (a b:Int),T.pk[i]? = some a→T.pk[i + 1]? = some b→a < b):m_schema_ValidateTable T = some 0:=by
 refine Wp.eq ?_
 unfold m_schema_ValidateTable
 refine Wp.bind (w_ValidName _) fun v _ hv=>?_
 subst hv
 refine Wp.cond (fun h=>by rw [hn] at h;cases h) fun _=>Wp.cond (fun h=>?_) fun _=>Wp.cond (fun h=>?_) fun _=>?_
 ·have:T.cols = []:=by simpa using h
  rw [this] at h0
  cases h0
 ·simp at h;omega
 refine Wp.for (fun _ _=>True) trivial ?_ ?_
 ·intro i x s next hx hm _ hn
  have hself:strEq x.name x.name = true:=strEq_iff.2 rfl
  have h7:=(fIdx_ge (p:=fun c=>strEq c.name x.name) hx hself).2 fun j y hj hy=>hc.un i j x y hj hx hy
  refine Wp.bind (w_ValidName _) fun v _ hvn=>?_
  subst hvn
  rw [findColumn_eq]
  refine Wp.cond (fun h=>by rw [hc.nm x hm] at h;cases h) fun _=>?_
  have hkd:=hc.kd x hm
  refine Wp.cond (fun h=>?_) fun _=>Wp.cond (fun h=>?_) fun _=>Wp.cond (fun h=>?_) fun _=>hn () trivial
  ·have h8:(if fIdx (fun c=>strEq c.name x.name) T.cols < 0 then 0 else fIdx (fun c=>strEq c.name x.name) T.cols) < (i:Int):=by simpa using h
   split at h8 <;> omega
  ·simp at h;omega
  ·simp at h;omega
 ·intro s _
  refine Wp.for (fun _ _=>True) trivial ?_ ?_
  ·intro i x s next hx hm _ hn
   have hil:=(List.getElem?_eq_some_iff.1 hx).1
   have h1:=hp x hm
   refine Wp.cond (fun h=>by simp at h;omega) fun _=>Wp.cond (fun h=>by simp at h;omega) fun _=>Wp.get h1.1 h1.2 fun c hcx _=>Wp.cond (fun h=>by rw [hc.nn x hm c hcx] at h;cases h) fun _=>Wp.cond (fun h=>?_) fun _=>hn () trivial
   have hi:0 < i:=by simpa using h
   have hpl:T.pk.length ≤ T.cols.length:=asc_len hp ha
   refine Wp.chk ⟨by omega,by omega⟩ (Wp.get (by omega) (by omega) fun y hy _=>Wp.cond (fun h=>?_) fun _=>hn () trivial)
   rw [show ((i:Int) - 1).toNat = i - 1 by omega] at hy
   have:=ha (i - 1) y x hy (by rw [show i - 1 + 1 = i by omega];exact hx)
   simp at h;omega
  ·intro s _
   refine Wp.cond (fun h=>?_) fun _=>Wp.ret rfl
   have:T.pk = []:=by simpa using h
   rw [this] at hp0
   cases hp0
end Go.Proofs.YthgepknlibmjcaaGreat
end
section
namespace Go.Proofs.YthgepknlibmjcaaGreat
open Go.Am
def m_stemkeep1_ViewConforms (g_:Gr) (rules:List Rule) (user:ByteArray) (v_:Int) (inst:List Rel):Option Bool:=
 (bindK (m_stemkeep1_accessWorks) fun v2=>(bif !v2 then (bindK (m_stemkeep1_accessWorks) fun v4=>(some v4)) else (bindK (m_stemkeep1_bounded g_ (Db.mk [inst] []) []) fun v5=>(bif !v5 then (bindK (m_stemkeep1_accessWorks) fun v7=>(some v7)) else (bindK (m_view_Project g_ rules user v_ inst) fun v8=>(bif (v8.2.2 != 0) then (some true) else (bindK (m_instance_Conforms v8.1 v8.2.1) fun v11=>(bif (v11 == 0) then (bindK (m_schema_Validate v8.1) fun v13=>(some (v13 == 0))) else (some false)))))))))
theorem c_stemkeep1_ViewConforms (g_:Gr) (rules:List Rule) (user:ByteArray) (v_:Int) (inst:List Rel) (r:Bool) (hm:Is (m_stemkeep1_ViewConforms g_ rules user v_ inst) r):PSpec Tryz.prog 6 [.agg g_.enc,.one (.d (.sl (rules.map Rule.enc))),.one (.d (.str user)),.one (.d (.int .i64 v_)),.one (.d (.sl (inst.map Rel.enc)))] (.one (.d (.bool r))):=by
 unfold m_stemkeep1_ViewConforms at hm
 refine PSpec.of_vc Tryz.func6 rfl (by kernel_rfl) (n:=48) rfl rfl (by simp) ?_
 try simp [*]
 refine r_call (av:=[]) hm (fun v hv=>c_stemkeep1_accessWorks  v hv) (by simp [*]) ?_
 clear hm;intro v2 hvv2 hm
 try simp [*]
 refine r_guardF hm ?_ ?_ <;> clear hm <;> intro hc3 hm
 ·try simp [*]
  refine r_call (av:=[]) hm (fun v hv=>c_stemkeep1_accessWorks  v hv) (by simp [*]) ?_
  clear hm;intro v4 hvv4 hm
  try simp [*]
  obtain rfl:=r_ret hm
  exact ret0 (vs:=[_]) (by simp [*];try exact rfl) (by simp [*])
 ·try simp [*]
  refine r_call (av:=[.agg g_.enc,.agg (Db.mk [inst] []).enc,.one (.d (.sl ([].map Chg.enc)))]) hm (fun v hv=>c_stemkeep1_bounded _ _ _ v hv) (by simp [*]) ?_
  clear hm;intro v5 hvv5 hm
  try simp [*]
  refine r_cond hm ?_ ?_ <;> clear hm <;> intro hc6 hm
  ·try simp [*]
   refine r_call (av:=[]) hm (fun v hv=>c_stemkeep1_accessWorks  v hv) (by simp [*]) ?_
   clear hm;intro v7 hvv7 hm
   try simp [*]
   obtain rfl:=r_ret hm
   exact ret0 (vs:=[_]) (by simp [*];try exact rfl) (by simp [*])
  ·try simp [*]
   refine r_call (av:=[.agg g_.enc,.one (.d (.sl (rules.map Rule.enc))),.one (.d (.str user)),.one (.d (.int .i64 v_)),.one (.d (.sl (inst.map Rel.enc)))]) hm (fun v hv=>c_view_Project _ _ _ _ _ v hv) (by simp [*]) ?_
   clear hm;intro v8 hvv8 hm
   try simp [*]
   refine r_guardF hm ?_ ?_ <;> clear hm <;> intro hc10 hm
   ·try simp [*]
    obtain rfl:=r_ret hm
    exact ret0 (vs:=[_]) (by simp [*];try exact rfl) (by simp [*])
   ·try simp [*]
    refine r_call (av:=[.agg v8.1.enc,.one (.d (.sl (v8.2.1.map Rel.enc)))]) hm (fun v hv=>c_instance_Conforms _ _ v hv) (by simp [*]) ?_
    clear hm;intro v11 hvv11 hm
    try simp [*]
    refine r_guardT hm ?_ ?_ <;> clear hm <;> intro hc12 hm
    ·try simp [*]
     refine r_call (av:=[.agg v8.1.enc]) hm (fun v hv=>c_schema_Validate _ v hv) (by simp [*]) ?_
     clear hm;intro v13 hvv13 hm
     try simp [*]
     obtain rfl:=r_ret hm
     exact ret0 (vs:=[_]) (by simp [*];try exact rfl) (by simp [*])
    ·try simp [*]
     obtain rfl:=r_ret hm
     exact ret0 (vs:=[_]) (by simp [*];try exact rfl) (by simp [*])
end Go.Proofs.YthgepknlibmjcaaGreat
end
section
namespace Go.Proofs.YthgepknlibmjcaaGreat
open Go Go.Am
theorem asc_ext:∀ {xs ys:List Int},xs.Pairwise (· < ·)→ys.Pairwise (· < ·)→(∀ v,v ∈ xs ↔ v ∈ ys)→xs = ys
 | [],[],_,_,_=>rfl
 | [],y :: ys,_,_,h=>by have:=(h y).2 (by simp);simp at this
 | x :: xs,[],_,_,h=>by have:=(h x).1 (by simp);simp at this
 | x :: xs,y :: ys,hx,hy,h=>by
   obtain ⟨h1,h2⟩:=List.pairwise_cons.1 hx
   obtain ⟨h3,h4⟩:=List.pairwise_cons.1 hy
   have e:x = y:=by
    rcases List.mem_cons.1 ((h x).1 (by simp)) with h5 | h5
    ·exact h5
    ·rcases List.mem_cons.1 ((h y).2 (by simp)) with h6 | h6
     ·exact h6.symm
     ·have:=h1 y h6
      have:=h3 x h5
      omega
   subst e
   rw [asc_ext h2 h4 fun v=>?_]
   have h5:=h v
   simp only [List.mem_cons] at h5
   constructor
   ·intro hv
    rcases h5.1 (.inr hv) with rfl | h6
    ·have:=h1 v hv;omega
    ·exact h6
   ·intro hv
    rcases h5.2 (.inr hv) with rfl | h6
    ·have:=h3 v hv;omega
    ·exact h6
theorem asc_pw {xs:List Int} (h:∀ (i:Nat) (a b:Int),xs[i]? = some a→xs[i + 1]? = some b→a < b):xs.Pairwise (· < ·):=by
 have key:∀ (n i:Nat) (a b:Int),xs[i]? = some a→xs[i + 1 + n]? = some b→a < b:=by
  intro n
  induction n with
  | zero=>intro i a b ha hb;exact h i a b ha hb
  | succ n ih=>
    intro i a b ha hb
    have hl:=(List.getElem?_eq_some_iff.1 hb).1
    have hc:xs[i + 1 + n]? = some xs[i + 1 + n]:=List.getElem?_eq_getElem (by omega)
    have e1:=ih i a _ ha hc
    have e2:=h (i + 1 + n) _ b hc hb
    omega
 refine List.pairwise_iff_getElem.2 fun i j hi hj hij=>?_
 refine key (j - (i + 1)) i _ _ (List.getElem?_eq_getElem hi) ?_
 rw [show i + 1 + (j - (i + 1)) = j by omega]
 exact List.getElem?_eq_getElem hj
theorem pw_asc {xs:List Int} (h:xs.Pairwise (· < ·)):∀ (i:Nat) (a b:Int),xs[i]? = some a→xs[i + 1]? = some b→a < b:=by
 intro i a b ha hb
 obtain ⟨h1,rfl⟩:=List.getElem?_eq_some_iff.1 ha
 obtain ⟨h2,rfl⟩:=List.getElem?_eq_some_iff.1 hb
 exact List.pairwise_iff_getElem.1 h i (i + 1) h1 h2 (by omega)
theorem visC_filter {T:Tbl} {r:Rule} (hT:VT T):(visC T r).filter (fun c=>decide (c ∈ T.pk)) = T.pk:=by
 refine asc_ext ((visC_asc T r).filter _) (asc_pw hT.asc) fun v=>?_
 rw [List.mem_filter,visC_mem]
 simp only [decide_eq_true_eq]
 exact ⟨fun h=>h.2,fun h=>⟨.inl h,h⟩⟩
theorem pkI_map {T:Tbl} {cols:List Int} {row:List GV}:∀ (n:Nat),n ≤ cols.length→(pkI T cols n).map (cellF (projF cols row)) = ((cols.take n).filter (fun c=>decide (c ∈ T.pk))).map (cellF row)
 | 0,_=>by simp [pkI]
 | n + 1,hn=>by
   have hx:cols[n]? = some cols[n]:=List.getElem?_eq_getElem (by omega)
   generalize cols[n] = c at hx
   have ht:cols.take (n + 1) = cols.take n ++ [c]:=by
    obtain ⟨h8,h9⟩:=List.getElem?_eq_some_iff.1 hx
    rw [List.take_succ_eq_append_getElem h8,h9]
   rw [pkI_succ hx,ht,List.filter_append,List.map_append,← pkI_map n (by omega)]
   have hc:cellF (projF cols row) (n:Int) = cellF row c:=by
    have:(projF cols row)[n]? = some (cellF row c):=by
     unfold projF
     rw [List.getElem?_map,hx]
     rfl
    show (if 0 ≤ (n:Int) then ((projF cols row)[(n:Int).toNat]?).getD gvZ else gvZ) = _
    rw [if_pos (by omega),show (n:Int).toNat = n by omega,this]
    rfl
   by_cases hp:c ∈ T.pk <;> simp [hp,hc]
theorem key_restr {T:Tbl} {r:Rule} (hT:VT T) (row:List GV):keyF (restrF T (visC T r)) (projF (visC T r) row) = keyF T row:=by
 show (pkI T (visC T r) (visC T r).length).map _ = _
 rw [pkI_map _ (Nat.le_refl _),List.take_length,visC_filter hT]
 rfl
theorem colF_get {T:Tbl} {c:Int} (h:0 ≤ c∧c < T.cols.length):T.cols[c.toNat]? = some (colF T c):=by
 have hl:c.toNat < T.cols.length:=by omega
 unfold colF
 rw [List.getElem?_eq_getElem hl]
 rfl
theorem cellF_get {row:List GV} {c:Int} (h:0 ≤ c∧c < row.length):row[c.toNat]? = some (cellF row c):=by
 have hl:c.toNat < row.length:=by omega
 unfold cellF
 rw [if_pos h.1,List.getElem?_eq_getElem hl]
 rfl
theorem pkI_mem {T:Tbl} {cols:List Int} {n:Nat} {p:Int} (h:p ∈ pkI T cols n):∃ i:Nat,p = i∧i < n∧(cols[i]?).getD (-1) ∈ T.pk:=by
 unfold pkI at h
 obtain ⟨i,hi,rfl⟩:=List.mem_map.1 h
 obtain ⟨h1,h2⟩:=List.mem_filter.1 hi
 exact ⟨i,rfl,by simpa using h1,by simpa using h2⟩
theorem restr_ct {T:Tbl} {cols:List Int} (hc:CT T) (ha:cols.Pairwise (· < ·)) (hin:∀ c ∈ cols,0 ≤ c∧c < T.cols.length):CT (restrF T cols):=by
 have hm:∀ c ∈ (restrF T cols).cols,c ∈ T.cols:=fun c h=>by
  obtain ⟨v,hv,rfl⟩:=List.mem_map.1 h
  exact List.mem_of_getElem? (colF_get (hin v hv))
 refine ⟨fun c h=>hc.nm c (hm c h),fun c h=>hc.kd c (hm c h),fun i j a b hj hi1 hj1=>?_,fun p hp c hcx=>?_⟩
 ·simp only [restrF,List.getElem?_map] at hi1 hj1
  cases hci:cols[i]? with
  | none=>rw [hci] at hi1;cases hi1
  | some u=>
    cases hcj:cols[j]? with
    | none=>rw [hcj] at hj1;cases hj1
    | some w=>
      rw [hci] at hi1
      rw [hcj] at hj1
      cases hi1
      cases hj1
      obtain ⟨h1,rfl⟩:=List.getElem?_eq_some_iff.1 hci
      obtain ⟨h2,rfl⟩:=List.getElem?_eq_some_iff.1 hcj
      have h3:=List.pairwise_iff_getElem.1 ha j i h2 h1 hj
      have h4:=hin _ (List.getElem_mem h1)
      have h5:=hin _ (List.getElem_mem h2)
      exact hc.un _ _ _ _ (by omega) (colF_get h4) (colF_get h5)
 ·obtain ⟨i,rfl,hi,hpk⟩:=pkI_mem hp
  have hx:cols[i]? = some cols[i]:=List.getElem?_eq_getElem hi
  rw [hx] at hpk
  simp only [restrF,List.getElem?_map,show (i:Int).toNat = i by omega,hx] at hcx
  cases hcx
  exact hc.nn _ hpk _ (colF_get (hin _ (List.getElem_mem hi)))
theorem restr_pk {T:Tbl} {cols:List Int} (hsub:∀ c ∈ T.pk,c ∈ cols) (h0:0 < T.pk.length):0 < (restrF T cols).pk.length∧(∀ v ∈ (restrF T cols).pk,0 ≤ v∧v < (restrF T cols).cols.length)∧(restrF T cols).pk.Pairwise (· < ·):=by
 refine ⟨?_,fun v hv=>?_,?_⟩
 ·have hx:=hsub _ (List.getElem_mem h0)
  obtain ⟨i,hi,he⟩:=List.getElem_of_mem hx
  have:(i:Int) ∈ (restrF T cols).pk:=by
   refine List.mem_map.2 ⟨i,List.mem_filter.2 ⟨by simpa using hi,?_⟩,rfl⟩
   rw [List.getElem?_eq_getElem hi]
   simp [he]
  exact List.length_pos_of_mem this
 ·obtain ⟨i,rfl,hi,_⟩:=pkI_mem hv
  simp only [restrF,List.length_map]
  omega
 ·show (pkI T cols cols.length).Pairwise (· < ·)
  unfold pkI
  refine List.Pairwise.map _ (R:=(· < ·)) (fun a b h=>by omega) ?_
  exact List.Pairwise.filter _ List.pairwise_lt_range
theorem restr_valid {T:Tbl} {r:Rule} (hT:VT T) (hc:CT T) (hcols:∀ c ∈ r.cols,0 ≤ c∧c < T.cols.length):m_schema_ValidateTable (restrF T (visC T r)) = some 0:=by
 have hin:=visC_in hT hcols
 obtain ⟨p0,p1,p2⟩:=restr_pk (T:=T) (cols:=visC T r) (fun c h=>(visC_mem T r c).2 (.inl h)) hT.pk0
 have hl:=visC_len hT hcols
 have h6:=hT.cols6
 have hpos:0 < (visC T r).length:=by
  have:=(visC_mem T r _).2 (.inl (List.getElem_mem hT.pk0))
  exact List.length_pos_of_mem this
 exact validateTable_of hT.name (by simpa [restrF] using hpos) (by simp [restrF];omega) (restr_ct hc (visC_asc T r) hin) p0 p1 (pw_asc p2)
theorem proj_cr {T:Tbl} {cols:List Int} {row:List GV} (h:CR T row) (hin:∀ c ∈ cols,0 ≤ c∧c < T.cols.length):CR (restrF T cols) (projF cols row):=by
 refine ⟨by simp [restrF,projF],fun i x c hx hcx=>?_⟩
 simp only [restrF,projF,List.getElem?_map] at hx hcx
 cases hci:cols[i]? with
 | none=>rw [hci] at hx;cases hx
 | some u=>
   rw [hci] at hx hcx
   cases hx
   cases hcx
   have h1:=hin u (List.mem_of_getElem? hci)
   have hl:=h.len
   exact h.cell u.toNat _ _ (cellF_get ⟨h1.1,by omega⟩) (colF_get h1)
structure Sh4 (S:Sch) (T:Tbl) (rows:List (List GV)) (cols:List Int) (r:Rule) (x:Rel):Prop where
 vt:VT T
 ct:CT T
 rc:∀ c ∈ r.cols,0 ≤ c∧c < T.cols.length
 c:cols = visC T r
 r:rows = (x.rows.filter (mtch r)).map (projF (visC T r))
 cr:∀ row ∈ x.rows,CR T row
 asc:Asc T x.rows
 l24:x.rows.length ≤ 24
theorem Proj.sh {g:Gr} (hx:∀ e ∈ g.edges,∀ x ∈ e.script,SmallX x) {rules:List Rule} {user:ByteArray} {v:Int} {inst:List Rel} {S:Sch} {L:List Shown} (h:Proj g rules user v inst S L) (hV:VS S):∀ p ∈ L,∃ r x,Sh4 S p.1 p.2.1 p.2.2 r x:=by
 intro p hp
 have hvis:=h.vis p hp
 obtain ⟨q,hq,hq2⟩:=w_Visible g hx rules user v inst p.1.name
 rw [hvis] at hq
 cases hq
 obtain ⟨Ss,S',r,k,T2,x,hVis,hc,hr⟩:=hq2 rfl
 have e:S' = S:=by
  have:=hVis.hs
  rw [h.hs] at this
  cases this
  rfl
 subst e
 have hm:p.1 ∈ S'.tables:=h.sub.subset (List.mem_map_of_mem hp)
 obtain ⟨i,hi,he⟩:=List.getElem_of_mem hm
 have hT:S'.tables[i]? = some p.1:=by rw [List.getElem?_eq_getElem hi,he]
 obtain ⟨hk,e2⟩:=vis_tab hVis (strEq_iff.2 rfl) hT
 subst e2
 have hct:CT p.1:=by
  obtain ⟨e,he,hp⟩:=w_table_ct p.1
  rw [hV.ord.2 _ hm] at he
  cases he
  exact hp rfl
 exact ⟨r,x,hV.tab _ hm,hct,hVis.vr.cols,hc,hr,hVis.cf.row _ _ _ hVis.x hVis.vr.t,hVis.cf.asc _ _ _ hVis.x hVis.vr.t,hVis.cf.l24 x (List.mem_of_getElem? hVis.x)⟩
theorem proj_asc {T:Tbl} {r:Rule} {rows:List (List GV)} (hT:VT T) (h:Asc T rows):Asc (restrF T (visC T r)) ((rows.filter (mtch r)).map (projF (visC T r))):=by
 refine AscP.asc ?_
 unfold AscP
 refine List.Pairwise.map _ (R:=fun a b=>cmpR (keyF T a) (keyF T b) < 0) (fun a b hab=>?_) (h.pw.filter _)
 rw [key_restr hT,key_restr hT]
 exact hab
theorem law4 (g:Gr) (hx:∀ e ∈ g.edges,∀ x ∈ e.script,SmallX x) (rules:List Rule) (user:ByteArray) (v:Int) (inst:List Rel) (hi:inst.length ≤ 1048576) :
  m_stemkeep1_ViewConforms g rules user v inst = some true:=by
 have hL:=LIM_eq
 have hw:Wp m_stemkeep1_accessWorks fun b=>b = true:=⟨true,accessWorks,rfl⟩
 refine Wp.eq ?_
 unfold m_stemkeep1_ViewConforms
 refine Wp.bind hw fun b _ hb=>?_
 subst hb
 refine Wp.cond (fun h=>by cases h) fun _=>Wp.bind (w_bounded g inst [] (by omega)) fun b _ _=>Wp.cond (fun _=>Wp.bind hw fun b _ hb=>Wp.ret hb) fun _=>Wp.bind (w_Project g hx rules user v inst) fun p _ hp=>Wp.cond (fun _=>Wp.ret rfl) fun h2=>?_
 obtain ⟨S,L,hP,hVS,ht,hin⟩:=hp (by simpa using h2)
 have hsh:=hP.sh hx hVS
 have hLl:L.length ≤ 6:=by
  have:=hP.sub.length_le
  simp at this
  have:=hVS.t6
  omega
 have hpk:∀ T ∈ (⟨L.map (fun p=>restrF p.1 p.2.2),[],[]⟩:Sch).tables,T.pk.length ≤ 6:=by
  intro T hT
  obtain ⟨q,hq,rfl⟩:=List.mem_map.1 hT
  obtain ⟨r,x,hs⟩:=hsh q hq
  have h1:=pkI_len q.1 q.2.2 q.2.2.length
  have h3:=visC_len hs.vt hs.rc
  have h4:=hs.vt.cols6
  rw [← hs.c] at h3
  show (pkI q.1 q.2.2 q.2.2.length).length ≤ 6
  omega
 have hCF:CF ⟨L.map (fun p=>restrF p.1 p.2.2),[],[]⟩ (L.map (fun p=>⟨p.1.name,p.2.1⟩)):=by
  have get:∀ (i:Nat) (x:Rel) (T:Tbl),(L.map (fun p=>(⟨p.1.name,p.2.1⟩:Rel)))[i]? = some x→(L.map (fun p=>restrF p.1 p.2.2))[i]? = some T→∃ q ∈ L,x = ⟨q.1.name,q.2.1⟩∧T = restrF q.1 q.2.2:=by
   intro i x T h1 h2
   rw [List.getElem?_map] at h1 h2
   cases hl:L[i]? with
   | none=>rw [hl] at h1;cases h1
   | some q=>
     rw [hl] at h1 h2
     cases h1
     cases h2
     exact ⟨q,List.mem_of_getElem? hl,rfl,rfl⟩
  refine ⟨by simp,fun i x T h1 h2=>?_,fun x hxm=>?_,fun i x T h1 h2 row hrow=>?_,fun i x T h1 h2=>?_⟩
  ·obtain ⟨q,_,rfl,rfl⟩:=get i x T h1 h2
   exact strEq_iff.2 rfl
  ·obtain ⟨q,hq,rfl⟩:=List.mem_map.1 hxm
   obtain ⟨r,x,hs⟩:=hsh q hq
   simp only
   rw [hs.r,List.length_map]
   exact Nat.le_trans (List.length_filter_le _ _) hs.l24
  ·obtain ⟨q,hq,rfl,rfl⟩:=get i x T h1 h2
   obtain ⟨r,x,hs⟩:=hsh q hq
   simp only at hrow
   rw [hs.r] at hrow
   obtain ⟨row0,h0,rfl⟩:=List.mem_map.1 hrow
   rw [hs.c]
   exact proj_cr (hs.cr row0 (List.mem_filter.1 h0).1) (visC_in hs.vt hs.rc)
  ·obtain ⟨q,hq,rfl,rfl⟩:=get i x T h1 h2
   obtain ⟨r,x,hs⟩:=hsh q hq
   simp only
   rw [hs.r,hs.c]
   exact proj_asc hs.vt hs.asc
 have hconf:=conforms_of hpk hCF
 rw [ht,hin,hconf]
 refine Wp.bind (R:=fun e=>e = 0) ⟨_,rfl,rfl⟩ fun e _ he=>?_
 subst he
 refine Wp.cond (fun _=>?_) fun h=>by simp at h
 refine Wp.bind (R:=fun e=>e = 0) ?_ fun e _ he=>Wp.ret (by rw [he];rfl)
 unfold m_schema_Validate
 refine Wp.cond (fun h=>?_) fun _=>Wp.cond (fun h=>by simp at h) fun _=>Wp.cond (fun h=>by simp at h) fun _=>?_
 ·simp at h;omega
 refine Wp.for (fun _ _=>True) trivial ?_ fun s _=>Wp.for (fun _ _=>True) trivial (fun i x s next h=>by simp at h) fun s _=>Wp.for (fun _ _=>True) trivial (fun i x s next h=>by simp at h) fun s _=>Wp.ret rfl
 intro i T' s next hT' hm _ hn
 have hi6:=(List.getElem?_eq_some_iff.1 hT').1
 obtain ⟨q,hq,rfl⟩:=List.mem_map.1 hm
 obtain ⟨r,x,hs⟩:=hsh q hq
 have hval:=restr_valid hs.vt hs.ct hs.rc
 rw [← hs.c] at hval
 rw [hval]
 refine Wp.bind (R:=fun e=>e = 0) ⟨_,rfl,rfl⟩ fun e _ he=>?_
 subst he
 refine Wp.cond (fun h=>by simp at h) fun _=>Wp.cond (fun h=>?_) fun _=>hn () trivial
 have hi0:0 < i:=by simpa using h
 simp only [List.length_map] at hi6
 refine Wp.chk ⟨by omega,by omega⟩ (Wp.get (by omega) (by simp only [List.length_map];omega) fun y hy _=>Wp.cond (fun h=>?_) fun _=>hn () trivial)
 exfalso
 rw [show ((i:Int) - 1).toNat = i - 1 by omega] at hy
 simp only [List.getElem?_map] at hy hT'
 have hA:NamesA (L.map (·.1)):=hVS.ord.1.sublist hP.sub
 have hq0:L[i - 1]? = some L[i - 1]:=List.getElem?_eq_getElem (by omega)
 have hq1:L[i]? = some L[i]:=List.getElem?_eq_getElem (by omega)
 rw [hq0] at hy
 rw [hq1] at hT'
 simp only [Option.map_some,Option.some.injEq] at hy hT'
 have h9:=List.pairwise_iff_getElem.1 hA (i - 1) i (by simp;omega) (by simp;omega) (by omega)
 simp only [List.getElem_map] at h9
 have hn1:(restrF q.1 q.2.2).name = (L[i]).1.name:=by rw [← hT'];rfl
 have hn0:y.name = (L[i - 1]).1.name:=by rw [← hy];rfl
 rw [hn1,hn0] at h
 simp only [Bool.or_eq_true] at h
 rcases h with h | h
 ·have h10:=less_trans h9 h
  rw [less_irrefl] at h10
  cases h10
 ·have e:=strEq_iff.1 h
  have h10:Op.bytesLess _ _ = true:=h9
  rw [e,less_irrefl] at h10
  cases h10
end Go.Proofs.YthgepknlibmjcaaGreat
end
section
namespace Go.Proofs.YthgepknlibmjcaaGreat.viewConforms
open Go Go.Am Go.ChangeShapes Go.WideShapes Go.ChangeAt Go.RowKit
theorem own:ownKnob Tryz.prog.godebug = none:=by kernel_rfl
theorem laid:laidOutB Tryz.prog = true:=by kernel_rfl
def plain:List TypeId:=[29,26,22,75,9,73,156,3,4,30,23,131,24,103,100,27,39,37,158,41,43,45,106,52,79]
theorem plain_ok:plainB Tryz.prog plain = true:=by kernel_rfl
theorem small {g:Gr} (h:bd29 1048576 g):∀ e ∈ g.edges,∀ x ∈ e.script,SmallX x:=by
 intro e he x hx
 have h1:=(h.2.2 e he).2.2 x hx
 obtain ⟨_,_,_,_,_,_,hc,_,_,ht,_,hf⟩:=h1
 exact ⟨hc.1,ht.2.1.1,ht.2.2.1,hf.2.1.1⟩
set_option maxRecDepth 100000 in
theorem contract (H:Type) (enc:TypeId × Value→H) (W:World) (base:Nat) (args:Array Value) (ds gs:List (DataW H)) (before:List MemPlace)
  (hval:∀ (j:Nat) t v,Tryz.f6.params[j]? = some t→args[j]? = some v→Value.okWide Tryz.prog W .any base t v)
  (hW:DataW.Whole enc Tryz.prog Tryz.f6.params.toList Rows.viewConformsSpec.vars false W args.toList ds gs before) (hk:Rows.uptoSmall H (ds ++ gs) = true) :
  Calls Tryz.prog 6 args W fun e W'=>∃ v,e = .returned v∧Rows.viewConformsSpec.post enc Tryz.prog Tryz.f6 false true false false W args v W':=by
 have hW':=hW
 have hlt:=hW.lt
 obtain ⟨p,q,hA0,hV,rfl,hfz,hnd⟩:=hW
 have hA:DataW.TrodAll enc Tryz.prog W 0 (fun _=>true) true Tryz.f6.params.toList args.toList ds p:=hA0
 rw [Tryz.params6] at hA hval
 obtain ⟨v0,vs0,d0,ds0,p0,q0,hargs,rfl,rfl,h0,r0⟩:=trodAll_cons hA
 obtain ⟨v1,vs1,d1,ds1,p1,q1,rfl,rfl,rfl,h1,r1⟩:=trodAll_cons r0
 obtain ⟨v2,vs2,d2,ds2,p2,q2,rfl,rfl,rfl,h2,r2⟩:=trodAll_cons r1
 obtain ⟨v3,vs3,d3,ds3,p3,q3,rfl,rfl,rfl,h3,r3⟩:=trodAll_cons r2
 obtain ⟨v4,vs4,d4,ds4,p4,q4,rfl,rfl,rfl,h4,r4⟩:=trodAll_cons r3
 obtain ⟨rfl,rfl,rfl⟩:=trodAll_nil r4
 obtain rfl:args = #[v0,v1,v2,v3,v4]:=by cases args;simp_all
 obtain ⟨rfl,rfl⟩:=trodVars_none hV
 have hb:=of_decide_eq_true hk
 simp only [List.append_nil,Rows.uptoBulkAll] at hb
 obtain ⟨cs0,rfl,_⟩:=okWide_struct Tryz.underlying29 (hval 0 29 v0 rfl rfl)
 obtain ⟨a1,len1,cap1,rfl⟩:=okWide_slice Tryz.underlying41 (hval 1 41 v1 rfl rfl)
 obtain ⟨s2,rfl⟩:=okWide_string Tryz.underlying9 (hval 2 9 v2 rfl rfl)
 obtain ⟨i3,rfl⟩:=okWide_int Tryz.underlying3 (hval 3 3 v3 rfl rfl)
 obtain ⟨a4,len4,cap4,rfl⟩:=okWide_slice Tryz.underlying45 (hval 4 45 v4 rfl rfl)
 have h0k:=h0
 have h1k:=h1
 have h2k:=h2
 have h3k:=h3
 have h4k:=h4
 obtain ⟨n0,hn0⟩:=h0
 obtain ⟨n1,hn1⟩:=h1
 obtain ⟨n2,hn2⟩:=h2
 obtain ⟨n3,hn3⟩:=h3
 obtain ⟨n4,hn4⟩:=h4
 obtain ⟨e0,hr0,ht0⟩:=rep_read (B:=1048576) plain_ok (by decide) n0 29 _ _ (by decide) hn0 (by simp only;omega)
 obtain ⟨e1,hr1,ht1⟩:=rep_read (B:=1048576) plain_ok (by decide) n1 41 _ _ (by decide) hn1 (by simp only;omega)
 obtain ⟨e2,hr2,ht2⟩:=rep_read (B:=1048576) plain_ok (by decide) n2 9 _ _ (by decide) hn2 (by simp only;omega)
 obtain ⟨e3,hr3,ht3⟩:=rep_read (B:=1048576) plain_ok (by decide) n3 3 _ _ (by decide) hn3 (by simp only;omega)
 obtain ⟨e4,hr4,ht4⟩:=rep_read (B:=1048576) plain_ok (by decide) n4 45 _ _ (by decide) hn4 (by simp only;omega)
 obtain ⟨x0,rfl,y0⟩:=dec29 ht0
 obtain ⟨x1,rfl,y1⟩:=dec41 ht1
 obtain ⟨x2,rfl,y2⟩:=dec9 ht2
 obtain ⟨x3,rfl,y3⟩:=dec3 ht3
 obtain ⟨x4,rfl,y4⟩:=dec45 ht4
 have hS:=c_stemkeep1_ViewConforms x0 x1 x2 x3 x4 true (law4 x0 (small y0) x1 x2 x3 x4 y4.1)
 refine (hS.2 W (cellsOf W) (fun _ _=>none) #[.agg cs0,.slice a1 len1 cap1,.string s2,.int .i64 i3,.slice a4 len4 cap4] (fun _ _ _ h=>h) (fun _ _ _ h=>by cases h) ?_).mono fun e W' hpost=>?_
 ·refine ⟨rfl,fun i a hi=>?_⟩
  match i with
  | 0=>
    cases hi
    refine ⟨.agg cs0,rfl,cs0,rfl,by simpa [Value.cells] using hr0.1,fun j x hj=>?_⟩
    obtain ⟨u,hu1,hu2⟩:=hr0.2 j x hj
    exact ⟨u,by simpa [Value.cells] using hu1,hu2⟩
  | 1=>
    cases hi
    obtain ⟨u,hu1,hu2⟩:=hr1.2 0 _ rfl
    refine ⟨.slice a1 len1 cap1,rfl,?_⟩
    have:u = .slice a1 len1 cap1:=by simpa [Value.cells] using hu1.symm
    rw [← this]
    exact hu2
  | 2=>
    cases hi
    obtain ⟨u,hu1,hu2⟩:=hr2.2 0 _ rfl
    refine ⟨.string s2,rfl,?_⟩
    have:u = .string s2:=by simpa [Value.cells] using hu1.symm
    rw [← this]
    exact hu2
  | 3=>
    cases hi
    obtain ⟨u,hu1,hu2⟩:=hr3.2 0 _ rfl
    refine ⟨.int .i64 i3,rfl,?_⟩
    have:u = .int .i64 i3:=by simpa [Value.cells] using hu1.symm
    rw [← this]
    exact hu2
  | 4=>
    cases hi
    obtain ⟨u,hu1,hu2⟩:=hr4.2 0 _ rfl
    refine ⟨.slice a4 len4 cap4,rfl,?_⟩
    have:u = .slice a4 len4 cap4:=by simpa [Value.cells] using hu1.symm
    rw [← this]
    exact hu2
  | i + 5=>simp at hi
 obtain ⟨v,m',blk,rfl,_,_,_,hbel,hrv,_⟩:=hpost
 have hv:v = .bool true:=by cases hrv;rfl
 subst hv
 refine ⟨_,rfl,[d0,d1,d2,d3,d4],[],p0 ++ (p1 ++ (p2 ++ (p3 ++ (p4 ++ [])))) ++ [],[],p0 ++ (p1 ++ (p2 ++ (p3 ++ (p4 ++ [])))),[],hW',trodAll_mk1 (shut_bool Tryz.underlying4 true),?_,rfl,hbel.frame _,fun h=>by cases h⟩
 have hl0:∀ x ∈ p0,x.block < W.heap.size:=fun x hx=>hlt x (by simp [hx])
 have hl1:∀ x ∈ p1,x.block < W.heap.size:=fun x hx=>hlt x (by simp [hx])
 have hl2:∀ x ∈ p2,x.block < W.heap.size:=fun x hx=>hlt x (by simp [hx])
 have hl3:∀ x ∈ p3,x.block < W.heap.size:=fun x hx=>hlt x (by simp [hx])
 have hl4:∀ x ∈ p4,x.block < W.heap.size:=fun x hx=>hlt x (by simp [hx])
 exact trodAll_cons_mk (Below.trod laid (by kernel_rfl) (of_decide_eq_true (by kernel_rfl)) h0k hbel hl0) (trodAll_cons_mk (Below.trod laid (by kernel_rfl) (of_decide_eq_true (by kernel_rfl)) h1k hbel hl1) (trodAll_cons_mk (Below.trod laid (by kernel_rfl) (of_decide_eq_true (by kernel_rfl)) h2k hbel hl2) (trodAll_cons_mk (Below.trod laid (by kernel_rfl) (of_decide_eq_true (by kernel_rfl)) h3k hbel hl3) (trodAll_cons_mk (Below.trod laid (by kernel_rfl) (of_decide_eq_true (by kernel_rfl)) h4k hbel hl4) trodAll_mk0))))
set_option maxRecDepth 100000 in
theorem lifted (os:Os) (started:os.Started) (H:Type) (enc:TypeId × Value→H) (F:Stop.Interp) :
  ReturnsInHanded {} Tryz.checked os 6 .any ((Rows.OpenSpec.upto Rows.viewConformsSpec).pre6 enc Tryz.prog Tryz.f6 Rows.viewConformsUptoRow.domain false) (((Rows.OpenSpec.upto Rows.viewConformsSpec).at F).post enc Tryz.prog Tryz.f6 false true false false):=by
 refine returnsInHanded_of_cond (C:=Tryz.checked) (s:=Rows.OpenSpec.upto Rows.viewConformsSpec) (k:=Rows.uptoSmall) rfl own started (by kernel_rfl) Tryz.func6
  (OpenSpec.witness (enc:=enc) (C:=Tryz.checked) (s:=Rows.OpenSpec.upto Rows.viewConformsSpec) (k:=Rows.uptoSmall) rfl false ⟨#[],#[.agg #[.slice none 0 0,.slice none 0 0,.slice none 0 0,.slice none 0 0],.slice none 0 0,.string ByteArray.empty,.int .i64 0,.slice none 0 0],[]⟩ 8 (by kernel_rfl) (by kernel_rfl) (by kernel_rfl)
   (x:=([.agg [.agg [.nil,.nil,.nil],.nil],.nil,.lit (.string []),.lit (.int .i64 0),.nil],[],[])) (by kernel_rfl) rfl (by kernel_rfl)) ?_
 intro W base args ds gs before hval hW _ hk _
 exact contract H enc W base args ds gs before hval hW hk
theorem over:Rows.viewConformsUptoRow.holds Tryz.pinned (Rows.OpenSpec.upto Rows.viewConformsSpec):=
 OpenClaim.holds_of_cond 6 Tryz.f6 rfl rfl rfl rfl rfl rfl rfl ⟨rfl,rfl,rfl,rfl,rfl⟩ rfl rfl rfl rfl rfl (by kernel_rfl) Tryz.func6 (by kernel_rfl)
  (of_decide_eq_true (by kernel_rfl)) (by unfold Func.isWrapper;first | (rw [if_pos (by decide +kernel)];kernel_rfl) | (rw [if_neg (by decide +kernel)];exact ⟨rfl,rfl⟩))
  (fun os started H enc _ F=>lifted os started H enc F)
theorem proved:Rows.ViewConformsUptoSaid:=over
end Go.Proofs.YthgepknlibmjcaaGreat.viewConforms
end
