/- joined by a program out of 14 texts -/
import Derived.Test.YthiojhcimecdgaaGreatDoorJ1
import Derived.Orders
import Derived.IntWalk
import Derived.Laws.StructEq
import Derived.Test.YthiojhcimecdgaaGreatDoorProg
import Derived.KernelRfl
import Derived.Lib.Bytealg
import Derived.Test.YthiojhcimecdgaaGreatDoorCards
import Derived.LaidLaws
import Derived.MakeChecks
import Derived.Shelf.Vars
import Derived.Lib.LaidTab
set_option linter.unusedVariables false
set_option linter.unusedSimpArgs false
set_option maxRecDepth 20000
section
namespace Go.Am
open Go
open Go.RowKit (Below)
def resV (P:Program) (e:Env) (h:HS):ResultVar→Option V
 | .tmp t=>some (e.get t)
 | .cell t T=>match ldT P T with
   | some (a,n)=>match e.get t with
     | .one c=>match readAt h c n with
       | some l=>mkV a l
       | none=>none
     | _=>none
   | none=>none
def resVs (P:Program) (e:Env) (h:HS):List ResultVar→Option (List V)
 | []=>some []
 | r::rs=>match resV P e h r,resVs P e h rs with
   | some v,some vs=>some (v::vs)
   | _,_=>none
def RetC (h:HS) (ren:Nat→Option Lab) (c:C):RC→Prop
 | .d x=>c.toD=some x
 | .fresh j es xs=>match ren j with
   | some l=>c=.own l xs∧h.arr l=some (xs.length,es)
   | none=>c=.nil∧xs=[]
def RetCs (h:HS) (ren:Nat→Option Lab):List C→List RC→Prop
 | [],[]=>True
 | c::cs,r::rs=>RetC h ren c r∧RetCs h ren cs rs
 | _,_=>False
def RetV1 (h:HS) (ren:Nat→Option Lab) (v:V):RV→Prop
 | .one r=>match v with
   | .one c=>RetC h ren c r
   | _=>False
 | .agg rs=>match v with
   | .agg cs=>RetCs h ren cs rs
   | _=>False
 | .tup _=>False
def RetVs (h:HS) (ren:Nat→Option Lab):List V→List RV→Prop
 | [],[]=>True
 | v::vs,r::rs=>RetV1 h ren v r∧RetVs h ren vs rs
 | _,_=>False
def RetAll (h:HS) (ren:Nat→Option Lab) (vs:List V):RV→Prop
 | .tup rs=>vs.length≠1∧RetVs h ren vs rs
 | .one c=>match vs with
   | [v]=>RetV1 h ren v (.one c)
   | _=>False
 | .agg cs=>match vs with
   | [v]=>RetV1 h ren v (.agg cs)
   | _=>False
def retOK (P:Program) (rs:List ResultVar) (r:RV) (e:Env) (h:HS):Prop:=
 match resVs P e h rs with
 | some vs=>∃ ren:Nat→Option Lab,(∀ j j' l,ren j=some l→ren j'=some l→j=j')∧RetAll h ren vs r
 | none=>False
def retQ (P:Program) (rs:List ResultVar) (r:RV):Exit→Env→HS→Prop
 | .normal,e,h=>retOK P rs r e h
 | .ret,e,h=>retOK P rs r e h
 | _,_,_=>False
def AV.toV:AV→V
 | .one (.d x)=>.one (.d x)
 | .one (.rp cs)=>.one (.rp cs)
 | .one (.fn f caps)=>.one (.fn f (caps.map Cap.rp))
 | .agg ds=>.agg (ds.map C.d)
def env0 (n:Nat) (ars:List AV):Env:={ n,get:=fun k=>match ars[k]? with
 | some a=>a.toV
 | none=>.undef }
section
variable {P:Program} {w:World} {a:Act} {e:Env} {h:HS} {μ:Mem} {Γ:Ctx}
theorem load_sound (hI:Inv Γ h μ w) {t:TypeId} {c:C} {v0:Value} {ag:Bool} {n:Nat} {l:List C} {v:V} (hld:ldT P t=some (ag,n)) (hc:RepC μ c v0) (hr:readAt h c n=some l) (hv:mkV ag l=some v) :
  ∃ b u,v0=.pointer (some b)∧(loadVar t b).run P w=.ok u w∧RepV μ v u:=by
 obtain⟨d,i,hd,hag,hi,hn⟩:=ldT_some hld
 obtain⟨hln,b,off,hpv,hat⟩:=readAt_sound hI hc hr
 obtain⟨vs,hvl,hR,hcell⟩:=hat.list
 have hmk:=gives_mk hR hv
 cases hag':ag with
 | true=>
   refine⟨_,_,hpv,?_,hmk.1 hag'⟩
   have:=run_loadCells_list (P:=P) w ⟨b,off,none⟩ vs hcell
   simp[loadVar,run_isAgg hd,hag,hag',sizeOf,typeInfo,hi,hn,← hln,← hvl,this]
 | false=>
   obtain⟨u,hvu,hru⟩:=hmk.2 hag'
   refine⟨_,u,hpv,?_,hru⟩
   subst hvu
   have:=hcell 0 u (by simp)
   rw[add_addr] at this
   simp only[Nat.add_zero] at this
   simp[loadVar,run_isAgg hd,hag,hag',run_load,this]
def resF (tmps:Array Value):ResultVar→Sem Value
 | .tmp t=>pure (tmps.getD t undef)
 | .cell p t=>do loadVar t (← asAddr (tmps.getD p undef))
theorem results_eq (fn:Func) (tmps:Array Value):results fn tmps=(do
  let vs ← fn.results.mapM (resF tmps)
  pure (if h:vs.size=1 then vs[0] else .tuple vs)):=by
 unfold results
 congr 1
theorem run_res (hI:Inv Γ h μ w) (hE:EnvRel μ e a):∀ (rs:List ResultVar) (vs:List V),resVs P e h rs=some vs →
  ∃ us:List Value,(rs.mapM (resF a.tmps)).run P w=.ok us w∧us.length=vs.length ∧
    ∀ (i:Nat) v,vs[i]?=some v→∃ u,us[i]?=some u∧RepV μ v u
 | [],vs,hv=>by simp[resVs] at hv;subst hv;exact⟨[],by simp,rfl,fun i v hi=>by simp at hi⟩
 | r::rs,vs,hv=>by
   simp only[resVs] at hv
   split at hv
   ·rename_i v vs' hr hrs
    injection hv with hv
    subst hv
    obtain⟨us,h1,h2,h3⟩:=run_res hI hE rs vs' hrs
    have key:∃ u,(resF a.tmps r).run P w=.ok u w∧RepV μ v u:=by
     cases r with
     | tmp t=>
       simp[resV] at hr
       subst hr
       exact⟨a.tmps.getD t undef,rfl,hE.2.2 t⟩
     | cell p t=>
       simp only[resV] at hr
       split at hr
       ·rename_i ag n hld
        split at hr
        ·rename_i c hc
         split at hr
         ·rename_i l hl
          have hp:=hE.2.2 p
          rw[hc] at hp
          obtain⟨b,u,hb,hrun,hru⟩:=load_sound hI hld (show RepC μ c _ from hp) hl hr
          exact⟨u,by simp only[resF,hb,asAddr];simpa using hrun,hru⟩
         ·cases hr
        ·cases hr
       ·cases hr
    obtain⟨u,hu,hru⟩:=key
    refine⟨u::us,?_,by simp[h2],fun i v' hi=>?_⟩
    ·rw[List.mapM_cons,Sem.run_bind,hu,Result.andThen_ok,Sem.run_bind,h1,Result.andThen_ok]
     rfl
    ·cases i with
     | zero=>simp at hi;subst hi;exact⟨u,by simp,hru⟩
     | succ i=>obtain⟨u',h4,h5⟩:=h3 i v' (by simpa using hi);exact⟨u',by simpa using h4,h5⟩
   ·cases hv
def blkOf (μ:Mem) (ren:Nat→Option Lab) (j:Nat):Option Nat × Nat:=
 match ren j with
 | some l=>(μ.loc l).getD (none,0)
 | none=>(none,0)
theorem RetC_rep {ren:Nat→Option Lab} {c:C} {r:RC} {v:Value} (hc:RepC μ c v) (hr:RetC h ren c r):RepRC μ.cell (blkOf μ ren) r v:=by
 cases r with
 | d x=>exact toD_rep hc hr
 | fresh j es xs=>
   simp only[RetC] at hr
   split at hr
   ·rename_i l hl
    obtain⟨rfl,_⟩:=hr
    obtain⟨h1,g,cap,h2,h3⟩:=hc
    refine⟨h1,?_⟩
    simp only[blkOf,hl,h2,Option.getD_some]
    exact h3
   ·rename_i hl
    obtain⟨rfl,rfl⟩:=hr
    refine⟨toD_rep (c:=.nil) hc rfl,?_⟩
    simp only[blkOf,hl]
    exact hc
theorem RetCs_rep {ren:Nat→Option Lab}:∀ {cs:List C} {rs:List RC} {vs:Array Value},RepCs μ cs vs→RetCs h ren cs rs→vs.size=rs.length∧∀ (i:Nat) r,rs[i]?=some r→∃ u,vs[i]?=some u∧RepRC μ.cell (blkOf μ ren) r u:=by
 intro cs rs vs hR hr
 have key:cs.length=rs.length∧∀ (i:Nat) r,rs[i]?=some r→∃ c,cs[i]?=some c∧RetC h ren c r:=by
  clear hR
  induction cs generalizing rs with
  | nil=>
    cases rs with
    | nil=>exact⟨rfl,fun i r hi=>by simp at hi⟩
    | cons r rs=>exact hr.elim
  | cons c cs ih=>
    cases rs with
    | nil=>exact hr.elim
    | cons r rs=>
      obtain⟨h1,h2⟩:=ih hr.2
      refine⟨by simp[h1],fun i r' hi=>?_⟩
      cases i with
      | zero=>simp at hi;subst hi;exact⟨c,by simp,hr.1⟩
      | succ i=>obtain⟨c',h3,h4⟩:=h2 i r' (by simpa using hi);exact⟨c',by simpa using h3,h4⟩
 refine⟨by rw[hR.1,key.1],fun i r hi=>?_⟩
 obtain⟨c,h1,h2⟩:=key.2 i r hi
 obtain⟨u,hu,hru⟩:=hR.2 i c h1
 exact⟨u,hu,RetC_rep hru h2⟩
theorem RetV1_rep {ren:Nat→Option Lab} {v:V} {r:RV} {u:Value} (hv:RepV μ v u) (hr:RetV1 h ren v r):RepRV1 μ.cell (blkOf μ ren) r u:=by
 cases r with
 | one r=>cases v<;>simp only[RetV1] at hr;exact RetC_rep hv hr
 | agg rs=>
   cases v<;>simp only[RetV1] at hr
   obtain⟨vs,h1,h2⟩:=hv
   obtain⟨h3,h4⟩:=RetCs_rep h2 hr
   exact⟨vs,h1,h3,h4⟩
 | tup rs=>exact hr.elim
theorem RetC_fr {ren:Nat→Option Lab} {c:C} {r:RC} (hr:RetC h ren c r):∀ x ∈ r.fr,match ren x.1 with
  | some l=>h.arr l=some (x.2.2,x.2.1)
  | none=>x.2.2=0:=by
 cases r with
 | d x=>simp[RC.fr]
 | fresh j es xs=>
   intro x hx
   simp[RC.fr] at hx
   subst hx
   simp only[RetC] at hr
   split at hr
   ·rename_i l hl;rw[hl];exact hr.2
   ·rename_i hl;rw[hl];rw[hr.2];rfl
theorem RetCs_fr {ren:Nat→Option Lab}:∀ {cs:List C} {rs:List RC},RetCs h ren cs rs→∀ x ∈ rs.flatMap RC.fr,match ren x.1 with
  | some l=>h.arr l=some (x.2.2,x.2.1)
  | none=>x.2.2=0
 | [],[],_,x,hx=>by simp at hx
 | c::cs,r::rs,hr,x,hx=>by
   rw[List.flatMap_cons,List.mem_append] at hx
   rcases hx with hx | hx
   ·exact RetC_fr hr.1 x hx
   ·exact RetCs_fr hr.2 x hx
 | [],_::_,hr,_,_=>hr.elim
 | _::_,[],hr,_,_=>hr.elim
theorem RetV1_fr {ren:Nat→Option Lab} {v:V} {r:RV} (hr:RetV1 h ren v r):∀ x ∈ RV1.fr r,match ren x.1 with
  | some l=>h.arr l=some (x.2.2,x.2.1)
  | none=>x.2.2=0:=by
 cases r with
 | one r=>cases v<;>simp only[RetV1] at hr;exact RetC_fr hr
 | agg rs=>cases v<;>simp only[RetV1] at hr;exact RetCs_fr hr
 | tup rs=>exact hr.elim
theorem RetVs_fr {ren:Nat→Option Lab}:∀ {vs:List V} {rs:List RV},RetVs h ren vs rs→∀ x ∈ rs.flatMap RV1.fr,match ren x.1 with
  | some l=>h.arr l=some (x.2.2,x.2.1)
  | none=>x.2.2=0
 | [],[],_,x,hx=>by simp at hx
 | c::cs,r::rs,hr,x,hx=>by
   rw[List.flatMap_cons,List.mem_append] at hx
   rcases hx with hx | hx
   ·exact RetV1_fr hr.1 x hx
   ·exact RetVs_fr hr.2 x hx
 | [],_::_,hr,_,_=>hr.elim
 | _::_,[],hr,_,_=>hr.elim
theorem RetVs_get {ren:Nat→Option Lab}:∀ {vs:List V} {rs:List RV},RetVs h ren vs rs→vs.length=rs.length∧∀ (i:Nat) r,rs[i]?=some r→∃ v,vs[i]?=some v∧RetV1 h ren v r
 | [],[],_=>⟨rfl,fun i r hi=>by simp at hi⟩
 | c::cs,r::rs,hr=>by
   obtain⟨h1,h2⟩:=RetVs_get hr.2
   refine⟨by simp[h1],fun i r' hi=>?_⟩
   cases i with
   | zero=>simp at hi;subst hi;exact⟨c,by simp,hr.1⟩
   | succ i=>obtain⟨c',h3,h4⟩:=h2 i r' (by simpa using hi);exact⟨c',by simpa using h3,h4⟩
 | [],_::_,hr=>hr.elim
 | _::_,[],hr=>hr.elim
theorem fresh_of (hI:Inv Γ h μ w) {ren:Nat→Option Lab} (hinj:∀ j j' l,ren j=some l→ren j'=some l→j=j') {fr:List (Nat × Nat × Nat)}
  (hfr:∀ x ∈ fr,match ren x.1 with
   | some l=>h.arr l=some (x.2.2,x.2.1)
   | none=>x.2.2=0):FreshOK μ.cell Γ.w0 w (blkOf μ ren) fr:=by
 have key:∀ x ∈ fr,∀ b,(blkOf μ ren x.1).1=some b→∃ l c,ren x.1=some l∧h.arr l=some (x.2.2,x.2.1)∧μ.loc l=some (some b,c):=by
  intro x hx b hb
  have h1:=hfr x hx
  cases hl:ren x.1 with
  | none=>simp[blkOf,hl] at hb
  | some l=>
    rw[hl] at h1
    obtain⟨gc,h2,_⟩:=hI.arr l _ _ h1
    simp[blkOf,hl,h2] at hb
    obtain⟨g,c⟩:=gc
    simp only at hb
    subst hb
    exact⟨l,c,rfl,h1,h2⟩
 refine⟨fun x hx=>?_,fun x hx y hy b hb hb'=>?_⟩
 ·have h1:=hfr x hx
  cases hl:ren x.1 with
  | none=>
    rw[hl] at h1
    simp only[blkOf,hl]
    exact⟨fun _=>⟨rfl,h1⟩,fun g hg=>by cases hg⟩
  | some l=>
    rw[hl] at h1
    obtain⟨gc,h2,h3⟩:=hI.arr l _ _ h1
    simp only[blkOf,hl,h2,Option.getD_some]
    exact h3
 ·obtain⟨l,c,h1,h2,h3⟩:=key x hx b hb
  obtain⟨l',c',h4,h5,h6⟩:=key y hy b hb'
  have:=hI.inj l l' b c c' (.inr (by rw[h2];simp)) (.inr (by rw[h5];simp)) h3 h6
  subst this
  exact hinj _ _ l h1 h4
theorem AV_rep {m t:CM} {x:AV} {v:Value} (hx:RepAV m t x v):RepV { cell:=m,tmp:=t,loc:=fun _=>none } x.toV v:=by
 cases x with
 | one y=>
   cases y with
   | d x=>exact hx
   | rp cs=>exact hx
   | fn f caps=>
     obtain⟨vs,h1,h2,h3⟩:=hx
     refine⟨vs,h1,by simp[h2],fun i c hi=>?_⟩
     rw[List.getElem?_map] at hi
     cases hc:caps[i]? with
     | none=>simp[hc] at hi
     | some ds=>
       simp[hc] at hi
       subst hi
       exact h3 i ds hc
 | agg ds=>
   obtain⟨vs,h1,h2,h3⟩:=hx
   refine⟨vs,h1,by simp[h2],fun i c hi=>?_⟩
   rw[List.getElem?_map] at hi
   cases hc:ds[i]? with
   | none=>simp[hc] at hi
   | some x=>
     simp[hc] at hi
     subst hi
     exact h3 i x hc
theorem PSpec.of_vc {f:FuncId} {fn:Func} {c:Code} {n:Nat} {ars:List AV} {r:RV} (hf:P.funcs[f]?=some fn) (hb:fn.body=some c) (hnm:(fn.name == "runtime.NumGoroutine")=false) (hn:fn.ntmps=n) {rs:List ResultVar} (hrs:fn.results.toList=rs) (has:ars.length≤n)
  (hv:vc P c (retQ P rs r) (env0 n ars) HS.init):PSpec P f ars r:=by
 subst hrs
 refine⟨⟨fn,hf,hnm,by rw[hb];rfl⟩,fun w m t vals hg hm ht hargs=>?_⟩
 have hI:Inv ⟨w,m,t,hg⟩ HS.init { cell:=m,tmp:=t,loc:=fun _=>none } w:=
  ⟨hm,rfl,ht,fun b o v hv=>ht.lt hv,Sub.refl _,fun _ _ _ _ h=>h,Below.refl _ _,fun l cs hl=>by simp[HS.init] at hl,fun l es n hl=>by simp[HS.init] at hl,
   fun l l' b n n' hl=>by rcases hl with hl | hl<;>simp[HS.init] at hl,fun l hl=>absurd rfl hl,fun l hl=>by simp[HS.init] at hl⟩
 have hE:EnvRel { cell:=m,tmp:=t,loc:=fun _=>none } (env0 n ars) { tmps:=vals++Array.replicate (fn.ntmps - vals.size) undef,defers:=[] }:=by
  refine⟨rfl,?_,fun k=>?_⟩
  ·simp[env0,hargs.1,hn];omega
  ·simp only[env0]
   cases hk:ars[k]? with
   | some x=>
     obtain⟨u,hu,hr⟩:=hargs.2 k x hk
     have hlt:k < vals.size:=(Array.getElem?_eq_some_iff.1 hu).1
     have:(vals++Array.replicate (fn.ntmps - vals.size) undef).getD k undef=u:=by
      rw[Array.getD_eq_getD_getElem?,Array.getElem?_append_left hlt,hu];rfl
     simp only[this]
     exact AV_rep hr
   | none=>
     have hge:vals.size≤k:=by rw[hargs.1];exact List.getElem?_eq_none_iff.1 hk
     show (vals++Array.replicate (fn.ntmps - vals.size) undef).getD k undef=undef
     rw[Array.getD_eq_getD_getElem?,Array.getElem?_append_right hge]
     cases hx:(Array.replicate (fn.ntmps - vals.size) undef)[k - vals.size]? with
     | none=>rfl
     | some u=>
       obtain⟨_,he⟩:=Array.getElem?_eq_some_iff.1 hx
       simp at he
       simp[he]
 refine calls_of_wp hf hb (Code.wp_mono ?_ (vc_sound c _ _ _ hv ⟨w,m,t,hg⟩ _ w _ hI hE))
 rintro ex a' w' ⟨e',h',μ',hq,hI',hE',hleE⟩
 have fin:retOK P fn.results.toList r e' h'→a'.defers=[]∧∃ v,(results fn a'.tmps).run P w'=.ok v w'∧∃ v' m' blk,Ending.returned v=.returned v'∧Sub m m'∧(∀ b o u,b < w.heap.size→m' b o=some u→m b o=some u)∧Cells m' w' ∧
   Below w.heap.size w w'∧RepRV m' blk r v'∧FreshOK m' w w' blk r.fr:=by
  intro hret
  unfold retOK at hret
  split at hret
  ·rename_i vs hvs
   obtain⟨ren,hinj,hret⟩:=hret
   obtain⟨us,hrun,hlen,hR⟩:=run_res (P:=P) hI' hE' fn.results.toList vs hvs
   have hres:(results fn a'.tmps).run P w'=.ok (if hh:us.toArray.size=1 then us.toArray[0] else .tuple us.toArray) w':=by
    rw[results_eq,Sem.run_bind,Array.mapM_eq_mapM_toList]
    have hrun':(Functor.map List.toArray (fn.results.toList.mapM (resF a'.tmps))).run P w'=.ok us.toArray w':=by
     rw[Sem.run_map,hrun];rfl
    rw[hrun']
    rfl
   refine⟨hE'.1,_,hres,_,μ'.cell,blkOf μ' ren,rfl,hI'.ext,fun b o u hb hu=>hI'.old b o u hb hu,hI'.cell,hI'.below,?_⟩
   have one:∀ v,vs=[v]→(hq:RetV1 h' ren v r)→r.fr=RV1.fr r→(∀ u,RepRV μ'.cell (blkOf μ' ren) r u↔RepRV1 μ'.cell (blkOf μ' ren) r u) →
     RepRV μ'.cell (blkOf μ' ren) r (if hh:us.toArray.size=1 then us.toArray[0] else .tuple us.toArray)∧FreshOK μ'.cell w w' (blkOf μ' ren) r.fr:=by
    intro v hv1 hq hfr1 hiff
    subst hv1
    obtain⟨u,hu,hru⟩:=hR 0 v (by simp)
    obtain⟨u',rfl⟩:∃ u',us=[u']:=by
     match us,hlen with
     | [u'],_=>exact⟨u',rfl⟩
    obtain rfl:u'=u:=by simpa using hu
    refine⟨(hiff _).2 ?_,?_⟩
    ·exact RetV1_rep hru hq
    ·rw[hfr1];exact fresh_of hI' hinj (RetV1_fr hq)
   cases r with
   | tup rs=>
     obtain⟨hne,hvs'⟩:=hret
     obtain⟨h1,h2⟩:=RetVs_get hvs'
     have hus:¬ us.toArray.size=1:=by simp[hlen];exact hne
     rw[dif_neg hus]
     refine⟨⟨us.toArray,rfl,by simp[hlen,h1],fun i x hi=>?_⟩,fresh_of hI' hinj (RetVs_fr hvs')⟩
     obtain⟨v,h3,h4⟩:=h2 i x hi
     obtain⟨u,h5,h6⟩:=hR i v h3
     exact⟨u,by simpa using h5,RetV1_rep h6 h4⟩
   | one c=>
     have hv1:∃ v,vs=[v]∧RetV1 h' ren v (.one c):=by
      match vs,hret with
      | [v],hret=>exact⟨v,rfl,hret⟩
     obtain⟨v,hv1,hq⟩:=hv1
     exact one v hv1 hq rfl (fun u=>Iff.rfl)
   | agg cs=>
     have hv1:∃ v,vs=[v]∧RetV1 h' ren v (.agg cs):=by
      match vs,hret with
      | [v],hret=>exact⟨v,rfl,hret⟩
     obtain⟨v,hv1,hq⟩:=hv1
     exact one v hv1 hq rfl (fun u=>Iff.rfl)
  ·exact hret.elim
 cases ex with
 | normal=>exact fin hq
 | ret=>exact fin hq
 | exit id=>exact hq.elim
 | goto l=>exact hq.elim
 | panic ch=>exact hq.elim
 | outgrown=>exact hq.elim
end
end Go.Am
end
section
namespace Go.Am
open Go
def Real (e : Env) (h : HS) : Prop := ∃ (Γ : Ctx) (μ : Mem) (w : World) (a : Act), Inv Γ h μ w ∧ EnvRel μ e a
def BoxLe (h h1 : HS) : Prop := ∀ l cs, h.box l = some cs → h1.box l = some cs
theorem BoxLe.refl (h : HS) : BoxLe h h := fun _ _ x => x
theorem Real.fresh {e : Env} {h : HS} (hr : Real e h) {l : Lab} {cs : List C} (hl : h.box l = some cs) : l.1 < h.ep := by
  obtain ⟨Γ, μ, w, a, hI, hE⟩ := hr
  exact hI.live_loc (.inl (by simp [hl]))
section
variable {P : Program}
theorem readAt_mono {h h1 : HS} (hb : BoxLe h h1) {c : C} {n : Nat} {l : List C} (hr : readAt h c n = some l) : readAt h1 c n = some l := by
  cases c with
  | ptr k off =>
    simp only [readAt] at hr ⊢
    cases hk : h.box k with
    | none => simp [hk] at hr
    | some cs => rw [hb k cs hk]; simpa [hk] using hr
  | rp cs => exact hr
  | _ => cases hr
theorem mapM_congr' {α β : Type} {f g : α → Option β} : ∀ {l : List α}, (∀ x ∈ l, f x = g x) → l.mapM f = l.mapM g
  | [], _ => rfl
  | x :: l, h => by
    rw [List.mapM_cons, List.mapM_cons, h x (by simp), mapM_congr' (l := l) (fun y hy => h y (by simp [hy]))]
def loadKind : Op → Bool
  | .load _ _ => true
  | _ => false
theorem eff_mono {op : Op} {e e1 : Env} {h h1 : HS} (ho : ∀ x ∈ op.operands, e1.ev x = e.ev x) (hb : loadKind op = true → BoxLe h h1) {v : V} (hv : eff P op e h = some v) : eff P op e1 h1 = some v := by
  cases op with
  | load t x =>
    have h1' := ho x (by simp [Op.operands])
    simp only [eff] at hv ⊢
    rw [h1']
    cases hl : ldT P t with
    | none => simp [hl] at hv
    | some z =>
      obtain ⟨ag, n⟩ := z
      simp only [hl] at hv ⊢
      cases hx : e.ev x with
      | one c =>
        simp only [hx] at hv ⊢
        cases hr : readAt h c n with
        | none => simp [hr] at hv
        | some l => rw [readAt_mono (hb rfl) hr]; simpa [hr] using hv
      | _ => simp [hx] at hv
  | makeFunc fn first caps =>
    cases fn with
    | func f =>
      simp only [eff] at hv ⊢
      have hm : caps.toList.mapM (fun x => match e1.ev x with | .one (.ptr l 0) => some (Cap.lab l) | .one (.rp cs) => some (Cap.rp cs) | _ => none) =
          caps.toList.mapM (fun x => match e.ev x with | .one (.ptr l 0) => some (Cap.lab l) | .one (.rp cs) => some (Cap.rp cs) | _ => none) :=
        mapM_congr' fun x hx => by rw [ho x (by simp [Op.operands]; exact .inr (by simpa using hx))]
      cases hemp : first.isEmpty with
      | false => simp [hemp] at hv
      | true =>
        simp only [hemp, if_true] at hv ⊢
        exact (congrArg (fun z : Option (List Cap) => match z with | some l => some (V.one (C.fn f l)) | none => none) hm).trans hv
    | _ => simp [eff] at hv
  | call c =>
    simp only [eff] at hv ⊢
    have ha : ∀ x ∈ c.args.toList, e1.ev x = e.ev x := fun x hx => ho x (by simp [Op.operands, Call.operands]; exact .inr (by simpa using hx))
    split at hv
    · rename_i x y hc hl
      rw [hl] at ha
      simp only [ha x (by simp), ha y (by simp)]
      exact hv
    · rename_i x y hc hl
      rw [hl] at ha
      simp only [ha x (by simp), ha y (by simp)]
      exact hv
    · cases hv
  | slice t x lo hi mx =>
    have hx := ho x (by simp [Op.operands])
    have hb : ∀ y : Option Operand, (∀ z, y = some z → z ∈ (Op.slice t x lo hi mx).operands) → boundV e1 y = boundV e y := fun y hy => by
      cases y with
      | none => rfl
      | some z => simp only [boundV, ho z (hy z rfl)]
    simp only [eff, hx, hb lo (fun z hz => by simp [Op.operands, hz]), hb hi (fun z hz => by simp [Op.operands, hz]), hb mx (fun z hz => by simp [Op.operands, hz])] at hv ⊢
    cases hi with
    | none => cases lo <;> cases mx <;> exact hv
    | some y =>
      have hy := ho y (by simp [Op.operands])
      cases lo <;> cases mx <;> first | exact hv | (simp only [hy] at hv ⊢; exact hv)
  | _ => simp only [Op.operands] at ho; simp only [eff] at hv ⊢; simp_all
def pureKind : Op → Bool
  | .move _ => true
  | .assign _ => true
  | .pick _ _ _ => true
  | .unOp _ _ _ => true
  | .fieldAddr _ _ _ => true
  | .field _ _ _ => true
  | .load _ _ => true
  | .indexAddr _ _ _ => true
  | .index _ _ _ => true
  | .extract _ _ => true
  | .slice _ _ _ _ _ => true
  | .makeFunc _ _ _ => true
  | .nilCheck _ => true
  | .convert _ _ _ => true
  | .binOp _ _ _ y _ => !isNilConst y
  | .call c => match c.callee with
    | .builtin .len => true
    | .builtin .max => true
    | .builtin .min => true
    | _ => false
  | _ => false
def storeKind : Op → Bool
  | .store _ _ _ => true
  | .call c => match c.callee with
    | .builtin .append => true
    | .builtin .copy => true
    | .builtin .clear => true
    | _ => false
  | _ => false
def Gives1 (P : Program) (o : Oper) (e : Env) (h : HS) (v : V) : Prop :=
  ∀ e1 h1 (K : Env → HS → Prop), (∀ x ∈ o.op.operands, e1.ev x = e.ev x) → (loadKind o.op = true → BoxLe h h1) → K (e1.put o.dst v) h1 → vcOp P o e1 h1 K
theorem real_put {e : Env} {h : HS} {d : Option Nat} {v : V} (hr : Real e h) (hd : ∀ k, d = some k → k < e.n) (hv : ∀ Γ μ w a, Inv Γ h μ w → EnvRel μ e a → ∃ u, RepV μ v u) : Real (e.put d v) h := by
  obtain ⟨Γ, μ, w, a, hI, hE⟩ := hr
  obtain ⟨u, hu⟩ := hv Γ μ w a hI hE
  exact ⟨Γ, μ, w, _, hI, hE.put hd hu⟩
theorem dst_lt {o : Oper} {e : Env} (hd : dstOK o e) : ∀ k, o.dst = some k → k < e.n := fun k hk => by
  unfold dstOK at hd; rw [hk] at hd; exact hd
theorem eff_elim {o : Oper} {e : Env} {h : HS} {K : Env → HS → Prop} {v : V} (hr : Real e h) (hd : dstOK o e) (hv : eff P o.op e h = some v) (hK : K (e.put o.dst v) h)
    (hvc : ∀ e1 h1 (K1 : Env → HS → Prop), eff P o.op e1 h1 = some v → K1 (e1.put o.dst v) h1 → vcOp P o e1 h1 K1) :
    ∃ v, K (e.put o.dst v) h ∧ Real (e.put o.dst v) h ∧ Gives1 P o e h v :=
  ⟨v, hK, real_put hr (dst_lt hd) (fun Γ μ w a hI hE => by obtain ⟨u, _, hu⟩ := gives_eff (o := o) hI hE hv; exact ⟨u, hu⟩),
    fun e1 h1 K1 ho hb hk => hvc e1 h1 K1 (eff_mono ho hb hv) hk⟩
theorem list_small {e : Env} {h : HS} (hr : Real e h) {x : Operand} {c : C} {xs : List (List D)} (hx : e.ev x = .one c) (hc : c.list? = some xs) : xs.length ≤ LIM := by
  obtain ⟨Γ, μ, w, a, hI, hE⟩ := hr
  have hv := ev_rep hE x
  rw [hx] at hv
  cases c with
  | d y =>
    cases y with
    | sl ys =>
      simp [C.list?] at hc
      subst hc
      have hv' : RepD μ.cell (.sl ys) (a.eval x) := hv
      generalize a.eval x = u at hv'
      cases hv' with
      | sl _ _ _ _ _ _ _ hl => exact hl
    | _ => simp [C.list?] at hc
  | own l ys =>
    simp [C.list?] at hc
    subst hc
    have hv' : RepD μ.cell (.sl ys) (a.eval x) := hv.1
    generalize a.eval x = u at hv'
    cases hv' with
    | sl _ _ _ _ _ _ _ hl => exact hl
  | nil => simp [C.list?] at hc; subst hc; simp
  | z => simp [C.list?] at hc; subst hc; simp
  | _ => simp [C.list?] at hc
theorem pure_elim {o : Oper} {e : Env} {h : HS} {K : Env → HS → Prop} (hp : pureKind o.op = true) (hr : Real e h) (hd : dstOK o e) (hv : vcOp P o e h K) :
    ∃ v, K (e.put o.dst v) h ∧ Real (e.put o.dst v) h ∧ Gives1 P o e h v := by
  have eff_case : (∀ (e : Env) (h : HS) (K : Env → HS → Prop), vcOp P o e h K → ∃ v, eff P o.op e h = some v ∧ K (e.put o.dst v) h) →
      (∀ (e : Env) (h : HS) (K : Env → HS → Prop) v, eff P o.op e h = some v → K (e.put o.dst v) h → vcOp P o e h K) → ∃ v, K (e.put o.dst v) h ∧ Real (e.put o.dst v) h ∧ Gives1 P o e h v := fun h1 h2 => by
    obtain ⟨v, hve, hk⟩ := h1 _ _ _ hv
    exact eff_elim hr hd hve hk (fun e1 h1 K1 h3 h4 => h2 _ _ _ _ h3 h4)
  cases ho : o.op with
  | binOp op t x y t' =>
    have hnil : isNilConst y = false := by rw [ho] at hp; simpa [pureKind] using hp
    simp only [vcOp, ho, hnil, Bool.false_eq_true, if_false] at hv
    split at hv
    · rename_i cs cs' hx hy
      split at hv
      · rename_i a b ha hb
        refine ⟨_, hv.2, real_put hr (dst_lt hd) (fun Γ μ w a hI hE => ⟨_, RepD.bool _⟩), fun e1 h1 K1 h2 h3 h4 => ?_⟩
        rw [ho] at h2
        simp only [vcOp, ho, hnil, Bool.false_eq_true, if_false, h2 x (by simp [Op.operands]), h2 y (by simp [Op.operands]), hx, hy, ha, hb]
        exact ⟨hv.1, h4⟩
      · exact hv.elim
    · rename_i hn
      split at hv
      · rename_i r hrr
        have he : eff P o.op e h = some r := by rw [ho]; exact hrr
        refine ⟨r, hv, real_put hr (dst_lt hd) (fun Γ μ w a hI hE => by obtain ⟨u, _, hu⟩ := gives_eff (o := o) hI hE he; exact ⟨u, hu⟩), fun e1 h1 K1 h2 h3 h4 => ?_⟩
        rw [ho] at h2
        simp only [vcOp, ho, hnil, Bool.false_eq_true, if_false, h2 x (by simp [Op.operands]), h2 y (by simp [Op.operands])]
        generalize e.ev x = X at *
        generalize e.ev y = Y at *
        cases X with
        | agg cs => cases Y with
          | agg cs' => exact (hn cs cs' rfl rfl).elim
          | _ => simp only [hrr]; exact h4
        | _ => simp only [hrr]; exact h4
      · exact hv.elim
  | call c =>
    rw [ho] at hp
    cases hc : c.callee with
    | value f => simp [pureKind, hc] at hp
    | invoke r m => simp [pureKind, hc] at hp
    | builtin b =>
      cases b with
      | len =>
        simp only [vcOp, ho, hc] at hv
        split at hv
        · rename_i x t hx ht
          obtain ⟨y, hy, hey⟩ := one_arg hx
          have key : ∃ n : Nat, K (e.put o.dst (dint .i64 n)) h ∧ ∀ e1 h1 (K1 : Env → HS → Prop), K1 (e1.put o.dst (dint .i64 n)) h1 → vcLen P t x o e1 h1 K1 := by
            unfold vcLen at hv ⊢
            cases hl : lenT P t with
            | none => simp [hl] at hv
            | some s =>
              cases s with
              | true =>
                simp only [hl] at hv ⊢
                split at hv
                · exact ⟨_, hv, fun e1 h1 K1 hk => hk⟩
                · exact hv.elim
              | false =>
                simp only [hl] at hv ⊢
                split at hv
                · exact ⟨_, hv, fun e1 h1 K1 hk => hk⟩
                · split at hv
                  · rename_i xs hxs
                    refine ⟨xs.length, hv (list_small hr hey hxs), fun e1 h1 K1 hk => ?_⟩
                    exact fun _ => hk
                  · exact hv.elim
          obtain ⟨n, hk, hall⟩ := key
          refine ⟨_, hk, real_put hr (dst_lt hd) (fun Γ μ w a hI hE => ⟨_, RepD.int _ _⟩), fun e1 h1 K1 h2 h3 h4 => ?_⟩
          rw [ho] at h2
          have h2' : e1.ev y = e.ev y := h2 y (by simp [Op.operands, Call.operands, hc]; have : y ∈ c.args.toList := by rw [hy]; simp
                                                  simpa using this)
          simp only [vcOp, ho, hc, hy, ht, List.map_cons, List.map_nil, h2', hey]
          exact hall e1 h1 K1 h4
        · exact hv.elim
      | max => exact eff_case (fun e h K hv => by
        simp only [vcOp, ho, hc] at hv ⊢
        split at hv
        · exact ⟨_, by assumption, hv⟩
        · exact hv.elim) (fun e h K v h1 h2 => by
        rw [ho] at h1
        simp only [vcOp, ho, hc, h1]
        exact h2)
      | min => exact eff_case (fun e h K hv => by
        simp only [vcOp, ho, hc] at hv ⊢
        split at hv
        · exact ⟨_, by assumption, hv⟩
        · exact hv.elim) (fun e h K v h1 h2 => by
        rw [ho] at h1
        simp only [vcOp, ho, hc, h1]
        exact h2)
      | _ => simp [pureKind, hc] at hp
  | move x => exact eff_case (fun e h K hv => by
        simp only [vcOp, ho] at hv ⊢
        split at hv
        · exact ⟨_, by assumption, hv⟩
        · exact hv.elim) (fun e h K v h1 h2 => by
        rw [ho] at h1
        simp only [vcOp, ho, h1]
        exact h2)
  | assign x => exact eff_case (fun e h K hv => by
        simp only [vcOp, ho] at hv ⊢
        split at hv
        · exact ⟨_, by assumption, hv⟩
        · exact hv.elim) (fun e h K v h1 h2 => by
        rw [ho] at h1
        simp only [vcOp, ho, h1]
        exact h2)
  | pick x y z => exact eff_case (fun e h K hv => by
        simp only [vcOp, ho] at hv ⊢
        split at hv
        · exact ⟨_, by assumption, hv⟩
        · exact hv.elim) (fun e h K v h1 h2 => by
        rw [ho] at h1
        simp only [vcOp, ho, h1]
        exact h2)
  | unOp op t x => exact eff_case (fun e h K hv => by
        simp only [vcOp, ho] at hv ⊢
        split at hv
        · exact ⟨_, by assumption, hv⟩
        · exact hv.elim) (fun e h K v h1 h2 => by
        rw [ho] at h1
        simp only [vcOp, ho, h1]
        exact h2)
  | fieldAddr t x f => exact eff_case (fun e h K hv => by
        simp only [vcOp, ho] at hv ⊢
        split at hv
        · exact ⟨_, by assumption, hv⟩
        · exact hv.elim) (fun e h K v h1 h2 => by
        rw [ho] at h1
        simp only [vcOp, ho, h1]
        exact h2)
  | field t x f => exact eff_case (fun e h K hv => by
        simp only [vcOp, ho] at hv ⊢
        split at hv
        · exact ⟨_, by assumption, hv⟩
        · exact hv.elim) (fun e h K v h1 h2 => by
        rw [ho] at h1
        simp only [vcOp, ho, h1]
        exact h2)
  | load t x => exact eff_case (fun e h K hv => by
        simp only [vcOp, ho] at hv ⊢
        split at hv
        · exact ⟨_, by assumption, hv⟩
        · exact hv.elim) (fun e h K v h1 h2 => by
        rw [ho] at h1
        simp only [vcOp, ho, h1]
        exact h2)
  | indexAddr t x y => exact eff_case (fun e h K hv => by
        simp only [vcOp, ho] at hv ⊢
        split at hv
        · exact ⟨_, by assumption, hv⟩
        · exact hv.elim) (fun e h K v h1 h2 => by
        rw [ho] at h1
        simp only [vcOp, ho, h1]
        exact h2)
  | index t x y => exact eff_case (fun e h K hv => by
        simp only [vcOp, ho] at hv ⊢
        split at hv
        · exact ⟨_, by assumption, hv⟩
        · exact hv.elim) (fun e h K v h1 h2 => by
        rw [ho] at h1
        simp only [vcOp, ho, h1]
        exact h2)
  | slice t x lo hi mx =>
    exact eff_case (fun e h K hv => by
        simp only [vcOp, ho] at hv ⊢
        split at hv
        · exact ⟨_, by assumption, hv⟩
        · exact hv.elim) (fun e h K v h1 h2 => by
        rw [ho] at h1
        simp only [vcOp, ho, h1]
        exact h2)
  | extract x i => exact eff_case (fun e h K hv => by
        simp only [vcOp, ho] at hv ⊢
        split at hv
        · exact ⟨_, by assumption, hv⟩
        · exact hv.elim) (fun e h K v h1 h2 => by
        rw [ho] at h1
        simp only [vcOp, ho, h1]
        exact h2)
  | makeFunc f x y => exact eff_case (fun e h K hv => by
        simp only [vcOp, ho] at hv ⊢
        split at hv
        · exact ⟨_, by assumption, hv⟩
        · exact hv.elim) (fun e h K v h1 h2 => by
        rw [ho] at h1
        simp only [vcOp, ho, h1]
        exact h2)
  | nilCheck x => exact eff_case (fun e h K hv => by
        simp only [vcOp, ho] at hv ⊢
        split at hv
        · exact ⟨_, by assumption, hv⟩
        · exact hv.elim) (fun e h K v h1 h2 => by
        rw [ho] at h1
        simp only [vcOp, ho, h1]
        exact h2)
  | convert s t x => exact eff_case (fun e h K hv => by
        simp only [vcOp, ho] at hv ⊢
        split at hv
        · exact ⟨_, by assumption, hv⟩
        · exact hv.elim) (fun e h K v h1 h2 => by
        rw [ho] at h1
        simp only [vcOp, ho, h1]
        exact h2)
  | _ => rw [ho] at hp; simp [pureKind] at hp
end
end Go.Am
end
section
namespace Go.Am
open Go
section
variable {P:Program}
theorem fillV_congr {pl:List (Nat × Nat)} {e e1:Env}:∀ {ps:List (Nat × Operand)} {cs:List C},(∀ x ∈ ps.map (·.2),e1.ev x=e.ev x)→fillV pl e1 ps cs=fillV pl e ps cs
 | [],_,_=>rfl
 | (f,x)::r,cs,h=>by
   have hx:=h x (by simp)
   simp only[fillV,hx]
   cases pl[f]? with
   | none=>rfl
   | some z=>
     dsimp only
     split
     ·exact fillV_congr (fun y hy=>h y (by simp only[List.map_cons,List.mem_cons];exact .inr hy))
     ·rfl
theorem elemsV_congr {e e1:Env} {n:Nat}:∀ {ps:List (Nat × Operand)} {k:Nat},(∀ x ∈ ps.map (·.2),e1.ev x=e.ev x)→elemsV e1 n ps k=elemsV e n ps k
 | [],_,_=>rfl
 | (f,x)::r,k,h=>by
   have hx:=h x (by simp)
   simp only[elemsV,hx]
   rw[elemsV_congr (ps:=r) (fun y hy=>h y (by simp only[List.map_cons,List.mem_cons];exact .inr hy))]
theorem cellsV_congr {e e1:Env} {n:Nat}:∀ {ps:List (Nat × Operand)} {k:Nat},(∀ x ∈ ps.map (·.2),e1.ev x=e.ev x)→cellsV e1 n ps k=cellsV e n ps k
 | [],_,_=>rfl
 | (f,x)::r,k,h=>by
   have hx:=h x (by simp)
   simp only[cellsV,hx]
   rw[cellsV_congr (ps:=r) (fun y hy=>h y (by simp only[List.map_cons,List.mem_cons];exact .inr hy))]
theorem vcNil_mono {op:BinOp} {t:TypeId} {c:C} {K K1:V→Prop} (hK:∀ v,K v→K1 v) (hv:vcNil P op t c K):vcNil P op t c K1:=by
 obtain⟨h1,hv⟩:=hv
 refine⟨h1,?_⟩
 split at hv
 ·exact hK _ hv
 ·exact hK _ hv
 ·split at hv
  ·exact fun b hb=>hK _ (hv b hb)
  ·exact hv
theorem vcAppend_mono {t:TypeId} {c x:C} {d:Nat} {h:HS} {K K1:V→HS→Prop} (hK:∀ v h',K v h'→K1 v h') (hv:vcAppend P t c x d h K):vcAppend P t c x d h K1:=by
 unfold vcAppend at hv ⊢
 split at hv
 ·split at hv
  ·exact⟨hv.1,hK _ _ hv.2⟩
  ·exact hv
 ·exact hv
theorem vcAppendM_mono {t:TypeId} {c x:C} {d:Nat} {h:HS} {K K1:V→HS→Prop} (hK:∀ v h',K v h'→K1 v h') (hv:vcAppendM P t c x d h K):vcAppendM P t c x d h K1:=by
 unfold vcAppendM at hv ⊢
 split at hv
 ·split at hv
  ·obtain⟨h1,h2,h3,h4⟩:=hv
   refine⟨h1,fun q=>hK _ _ (h2 q),fun q r l off hp=>?_,fun q r cap' hc=>hK _ _ (h4 q r cap' hc)⟩
   obtain⟨cs,h5,h6,h7⟩:=h3 q r l off hp
   exact⟨cs,h5,h6,hK _ _ h7⟩
  ·exact hv
 ·exact hv
theorem vcAppendN_mono {t t':TypeId} {c x:C} {d:Nat} {h:HS} {K K1:V→HS→Prop} (hK:∀ v h',K v h'→K1 v h') (hv:vcAppendN P t t' c x d h K):vcAppendN P t t' c x d h K1:=by
 unfold vcAppendN at hv ⊢
 obtain⟨h1,hv⟩:=hv
 refine⟨h1,?_⟩
 split at hv
 ·split at hv
  ·exact⟨hv.1,fun c hc=>hK _ _ (hv.2 c hc)⟩
  ·split at hv
   ·exact⟨hv.1,fun c hc=>hK _ _ (hv.2 c hc)⟩
   ·exact hv
  ·exact hv
 ·exact hv
theorem vcCopy_mono {t:TypeId} {c x:C} {d:Nat} {h:HS} {K K1:V→HS→Prop} (hK:∀ v h',K v h'→K1 v h') (hv:vcCopy P t c x d h K):vcCopy P t c x d h K1:=by
 unfold vcCopy at hv ⊢
 split at hv
 ·split at hv
  ·split at hv
   ·exact⟨hv.1,hK _ _ hv.2⟩
   ·exact hv
  ·exact hv
 ·exact hv
theorem vcClear_mono {t:TypeId} {c:C} {d:Nat} {h:HS} {K K1:V→HS→Prop} (hK:∀ v h',K v h'→K1 v h') (hv:vcClear P t c d h K):vcClear P t c d h K1:=by
 unfold vcClear at hv ⊢
 split at hv
 ·split at hv
  ·split at hv
   ·exact⟨hv.1,hK _ _ hv.2⟩
   ·exact hv
  ·exact hK _ _ hv
  ·exact hK _ _ hv
  ·exact hv
 ·exact hv
theorem boxLe_new {e:Env} {h:HS} (hr:Real e h) {k:Nat} {cs:List C}:BoxLe h ((h.setBox (h.ep,k) cs).next):=fun l c hl=>by
 have:=hr.fresh hl
 have hne:l≠(h.ep,k):=fun he=>by rw[he] at this;exact absurd this (Nat.lt_irrefl _)
 show (if l=(h.ep,k) then some cs else h.box l)=some c
 rw[if_neg hne];exact hl
theorem useUp_box {h:HS} {c:C}:(C.useUp h c).box=h.box:=by cases c<;>rfl
def callKind:Op→Bool
 | .call c=>match c.callee with
   | .value _=>true
   | _=>false
 | _=>false
theorem callKind_pure {op:Op} (h:pureKind op=true):callKind op=false:=by
 cases op<;>simp_all [pureKind,callKind]
 rename_i c
 cases hc:c.callee<;>simp_all
theorem vcOp_agree {o:Oper} {e e1:Env} {h:HS} {K K1:Env→HS→Prop} (hr:Real e h) (ho:∀ x ∈ o.op.operands,e1.ev x=e.ev x)
  (hK:∀ v h',(storeKind o.op=false→callKind o.op=false→BoxLe h h')→K (e.put o.dst v) h'→K1 (e1.put o.dst v) h') (hv:vcOp P o e h K):vcOp P o e1 h K1:=by
 have eff_case:(∀ (e:Env) (h:HS) (K:Env→HS→Prop),vcOp P o e h K→∃ v,eff P o.op e h=some v∧K (e.put o.dst v) h) →
   (∀ (e:Env) (h:HS) (K:Env→HS→Prop) v,eff P o.op e h=some v→K (e.put o.dst v) h→vcOp P o e h K)→vcOp P o e1 h K1:=fun h1 h2=>by
  obtain⟨v,hve,hk⟩:=h1 _ _ _ hv
  exact h2 _ _ _ v (eff_mono ho (fun _=>BoxLe.refl h) hve) (hK _ _ (fun _ _=>BoxLe.refl h) hk)
 cases hop:o.op with
 | store t x y=>
   rw[hop] at ho hK
   have hx:=ho x (by simp[Op.operands])
   have hy:=ho y (by simp[Op.operands])
   simp only[vcOp,hop,hx,hy] at hv ⊢
   split at hv
   ·split at hv
    ·split at hv
     ·exact⟨hv.1,hK _ _ (fun hs _=>by simp[storeKind] at hs) hv.2⟩
     ·exact hv
    ·exact hv
   ·exact hv
 | box t x=>
   rw[hop] at ho
   have hx:=ho x (by simp[Op.operands])
   simp only[vcOp,hop,hx] at hv ⊢
   exact⟨hv.1,hK _ _ (fun _ _=>boxLe_new hr) hv.2⟩
 | alloc t=>
   simp only[vcOp,hop] at hv ⊢
   split at hv
   ·exact hK _ _ (fun _ _=>boxLe_new hr) hv
   ·exact hv
 | build t ps=>
   rw[hop] at ho
   have hps:∀ x ∈ ps.toList.map (·.2),e1.ev x=e.ev x:=fun x hx=>ho x (by simpa[Op.operands] using hx)
   simp only[vcOp,hop,fillV_congr hps] at hv ⊢
   split at hv
   ·split at hv
    ·exact hK _ _ (fun _ _=>BoxLe.refl h) hv
    ·exact hv
   ·exact hv
 | buildSlice t len ps=>
   rw[hop] at ho
   have hps:∀ x ∈ ps.toList.map (·.2),e1.ev x=e.ev x:=fun x hx=>ho x (by simpa[Op.operands] using hx)
   simp only[vcOp,hop,elemsV_congr hps] at hv ⊢
   split at hv
   ·split at hv
    ·exact hv.imp (fun hv=>⟨hv.1,hK _ _ (fun _ _=>fun l c hl=>hl) hv.2⟩) (fun hv=>⟨hv.1,hK _ _ (fun _ _=>BoxLe.refl h) hv.2⟩)
    ·rw[cellsV_congr hps]
     split at hv
     ·exact⟨hv.1,hK _ _ (fun _ _=>boxLe_new hr) hv.2⟩
     ·exact hv
   ·exact hv
 | makeSlice t x y=>
   rw[hop] at ho
   have hx:=ho x (by simp[Op.operands])
   have hy:=ho y (by simp[Op.operands])
   simp only[vcOp,hop,hx,hy] at hv ⊢
   unfold vcMake at hv ⊢
   split at hv
   ·split at hv
    ·rename_i h1 h2 h3
     simp only[h1,h2,h3]
     exact⟨hv.1,hK _ _ (fun _ _=>boxLe_new hr) hv.2⟩
    ·exact hv.elim
   ·exact hv.elim
 | binOp op t x y t'=>
   have ho':=ho
   rw[hop] at ho
   have hx:=ho x (by simp[Op.operands])
   have hy:=ho y (by simp[Op.operands])
   simp only[vcOp,hop,hx,hy] at hv ⊢
   by_cases hnil:isNilConst y=true
   ·rw[if_pos hnil] at hv ⊢
    unfold vcNilV at hv ⊢
    split at hv
    ·exact vcNil_mono (fun v hk=>hK v h (fun _ _=>BoxLe.refl h) hk) hv
    ·exact hv
   rw[if_neg hnil] at hv ⊢
   split at hv
   ·split at hv
    ·exact⟨hv.1,hK _ _ (fun _ _=>BoxLe.refl h) hv.2⟩
    ·exact hv
   ·rename_i hn
    split at hv
    ·rename_i r hrr
     have:=hK _ _ (fun _ _=>BoxLe.refl h) hv
     generalize e.ev x=X at *
     generalize e.ev y=Y at *
     cases X with
     | agg cs=>cases Y with
       | agg cs'=>exact (hn cs cs' rfl rfl).elim
       | _=>first
         | exact this
         | (simp only[hrr];exact this)
     | _=>first
       | exact this
       | (simp only[hrr];exact this)
    ·exact hv.elim
 | call c=>
   rw[hop] at ho
   have ha:∀ x ∈ c.args.toList,e1.ev x=e.ev x:=fun x hx=>ho x (by simp[Op.operands,Call.operands];exact .inr (by simpa using hx))
   have hm:c.args.toList.map e1.ev=c.args.toList.map e.ev:=List.map_congr_left ha
   cases hc:c.callee with
   | value f=>
     have hf:e1.ev f=e.ev f:=ho f (by simp[Op.operands,Call.operands,hc])
     simp only[vcOp,hop,hc,hf,hm] at hv ⊢
     have hck:callKind o.op=true:=by rw[hop];simp[callKind,hc]
     split at hv
     ·rcases hv with ⟨ars,cs,has,hcs,r,hs,hk⟩ | hv | ⟨v,hx,hk⟩
      ·exact .inl ⟨ars,cs,has,hcs,r,hs,hK _ _ (fun _ hq=>by rw[hck] at hq;cases hq) hk⟩
      ·exact .inr (.inl ⟨hv.1,fun Γ μ w vals hI hR=>(hv.2 Γ μ w vals hI hR).mono fun en w' ⟨u,v,h',μ',h1,h2,h3⟩=>⟨u,v,h',μ',h1,hK _ _ (fun _ hq=>by rw[hck] at hq;cases hq) h2,h3⟩⟩)
      ·exact .inr (.inr ⟨v,hx,hK _ _ (fun _ hq=>by rw[hck] at hq;cases hq) hk⟩)
     ·exact hv
   | invoke r m=>simp only[vcOp,hop,hc,eff] at hv
   | builtin b=>
     cases b with
     | len=>
       simp only[vcOp,hop,hc,hm] at hv ⊢
       split at hv
       ·unfold vcLen at hv ⊢
        split at hv
        ·split at hv
         ·exact hK _ _ (fun _ _=>BoxLe.refl h) hv
         ·exact hv
        ·split at hv
         ·exact hK _ _ (fun _ _=>BoxLe.refl h) hv
         ·split at hv
          ·exact fun hb=>hK _ _ (fun _ _=>BoxLe.refl h) (hv hb)
          ·exact hv
        ·exact hv
       ·exact hv
     | append=>
       have hst:storeKind o.op=true:=by rw[hop];simp[storeKind,hc]
       simp only[vcOp,hop,hc,hm] at hv ⊢
       split at hv
       ·have hKK:∀ v h',K (e.put o.dst v) h'→K1 (e1.put o.dst v) h':=fun v h' hk=>hK v h' (fun hq=>by rw[hst] at hq;cases hq) hk
        exact hv.imp (fun hv=>⟨hv.1,hv.2.imp (vcAppend_mono hKK) (vcAppendM_mono hKK)⟩) (vcAppendN_mono hKK)
       ·exact hv
     | cap=>
       simp only[vcOp,hop,hc,hm] at hv ⊢
       split at hv
       ·obtain⟨h1,hv⟩:=hv
        refine⟨h1,?_⟩
        split at hv<;>first | exact hK _ _ (fun _ _=>BoxLe.refl h) hv | exact hv
       ·exact hv
     | copy=>
       have hst:storeKind o.op=true:=by rw[hop];simp[storeKind,hc]
       simp only[vcOp,hop,hc,hm] at hv ⊢
       split at hv
       ·exact⟨hv.1,vcCopy_mono (fun v h' hk=>hK v h' (fun hq=>by rw[hst] at hq;cases hq) hk) hv.2⟩
       ·exact hv
     | clear=>
       have hst:storeKind o.op=true:=by rw[hop];simp[storeKind,hc]
       simp only[vcOp,hop,hc,hm] at hv ⊢
       split at hv
       ·exact vcClear_mono (fun v h' hk=>hK v h' (fun hq=>by rw[hst] at hq;cases hq) hk) hv
       ·exact hv
     | max=>exact eff_case (fun e h K hv=>by
       simp only[vcOp,hop,hc] at hv ⊢
       split at hv
       ·exact⟨_,by assumption,hv⟩
       ·exact hv.elim) (fun e h K v h1 h2=>by
       rw[hop] at h1
       simp only[vcOp,hop,hc,h1]
       exact h2)
     | min=>exact eff_case (fun e h K hv=>by
       simp only[vcOp,hop,hc] at hv ⊢
       split at hv
       ·exact⟨_,by assumption,hv⟩
       ·exact hv.elim) (fun e h K v h1 h2=>by
       rw[hop] at h1
       simp only[vcOp,hop,hc,h1]
       exact h2)
     | _=>simp only[vcOp,hop,hc,eff] at hv
 | _=>exact eff_case (fun e h K hv=>by
     simp only[vcOp,hop] at hv ⊢
     split at hv
     ·exact⟨_,by assumption,hv⟩
     ·exact hv.elim) (fun e h K v h1 h2=>by
     rw[hop] at h1
     simp only[vcOp,hop,h1]
     exact h2)
def vcG (P:Program) (all:List Oper) (o:Oper) (e:Env) (h:HS) (K:Env→HS→Prop):Prop:=dstOK o e ∧
    match o.guard with
    | none=>vcOp P o e h K
    | some (j,want)=>match yieldedV all e j with
      | .one (.d (.bool b))=>(b=want→vcOp P o e h K)∧(b≠want→K (e.put o.dst .undef) h)
      | .undef=>K (e.put o.dst .undef) h
      | _=>False
theorem ev_agree {ops:Array Oper} {o:Oper} {e e1:Env} (h:∀ t ∈ o.looksAt ops,e1.get t=e.get t):∀ x ∈ o.op.operands,e1.ev x=e.ev x:=fun x hx=>by
 cases x with
 | tmp t=>exact h t (List.mem_append_left _ (List.mem_filterMap.2 ⟨.tmp t,by simpa using hx,rfl⟩))
 | _=>rfl
theorem yield_agree {ops:Array Oper} {o:Oper} {e e1:Env} (h:∀ t ∈ o.looksAt ops,e1.get t=e.get t) {j:Nat} {want:Bool} (hg:o.guard=some (j,want)):yieldedV ops.toList e1 j=yieldedV ops.toList e j:=by
 unfold yieldedV
 cases hj:ops.toList[j]? with
 | none=>rfl
 | some oj=>
   dsimp only
   cases hd:oj.dst with
   | none=>rfl
   | some d=>
     have hj':ops[j]?=some oj:=by simpa using hj
     exact h d (by simp[Oper.looksAt,hg,hj',hd])
theorem vcG_sound {ops:Array Oper} {Γ:Ctx} {Q:Exit→Act→World→Prop} {i:Nat} {o:Oper} (hi:ops[i]?=some o) {e:Env} {h:HS} {μ:Mem} {a:Act} {w:World} {K:Env→HS→Prop} {N:Act→World→Prop}
  (hI:Inv Γ h μ w) (hE:EnvRel μ e a) (hN:∀ e' h' μ' a' w',K e' h'→Inv Γ h' μ' w'→EnvRel μ' e' a'→Mem.Le μ μ'→N a' w') (hv:vcG P ops.toList o e h K):wpOp P ops Q i N a w:=by
 obtain⟨hd,hv⟩:=hv
 unfold wpOp
 simp only[hi]
 have skip:K (e.put o.dst .undef) h→N (a.put o.dst undef) w:=fun hs=>hN _ _ _ _ _ hs hI (hE.put (dst_lt hd) (v:=.undef) rfl) (.refl μ)
 have go:vcOp P o e h K→o.wp P a w N Q:=fun hs=>owes_op hI hE hd hs _ _ hN
 split at hv
 ·rename_i hg
  rw[if_pos (by simp[Region.wanted,hg])]
  exact .inl (go hv)
 ·rename_i j want hg
  split at hv
  ·rename_i b hy
   have hy':=yielded_of hE hy
   by_cases hb:b=want
   ·rw[if_pos (by simp[Region.wanted,hg,hy',hb])]
    exact .inl (go (hv.1 hb))
   ·rw[if_neg (by simp[Region.wanted,hg,hy',hb])]
    exact skip (hv.2 hb)
  ·rename_i hy
   have hy':=yielded_undef hE hy
   rw[if_neg (by simp[Region.wanted,hg,hy'])]
   exact skip hv
  ·exact hv.elim
def vcAny (P:Program) (md:Region.Mode) (ops:Array Oper) (K:Env→HS→Prop):Nat→Array Bool→Env→HS→Prop
 | 0,listed,e,h=>Region.ready md ops listed=[]∧(Real e h→K e h)
 | f+1,listed,e,h=>Real e h→(Region.ready md ops listed=[]→K e h) ∧
     ∀ i ∈ Region.ready md ops listed,∃ o,ops[i]?=some o∧vcG P ops.toList o e h (fun e' h'=>(callKind o.op=true→BoxLe h h')∧vcAny P md ops K f (listed.setIfInBounds i true) e' h')
theorem vcAny_sound {md:Region.Mode} {ops:Array Oper} {Γ:Ctx} {Q:Exit→Act→World→Prop} {K:Env→HS→Prop} {μ0:Mem} (hN:∀ e' h' μ' a' w',K e' h'→Inv Γ h' μ' w'→EnvRel μ' e' a'→Mem.Le μ0 μ'→Q .normal a' w') :
  ∀ (f:Nat) (listed:Array Bool) {e:Env} {h:HS} {μ:Mem} {a:Act} {w:World},Inv Γ h μ w→EnvRel μ e a→Mem.Le μ0 μ→vcAny P md ops K f listed e h→wpAny P md ops Q f listed a w
 | 0,listed,e,h,μ,a,w,hI,hE,hle,hv=>⟨hv.1,hN _ _ _ _ _ (hv.2 ⟨_,_,_,_,hI,hE⟩) hI hE hle⟩
 | f+1,listed,e,h,μ,a,w,hI,hE,hle,hv=>by
   obtain⟨h0,h1⟩:=hv ⟨_,_,_,_,hI,hE⟩
   refine⟨fun hr=>hN _ _ _ _ _ (h0 hr) hI hE hle,fun i hi=>?_⟩
   obtain⟨o,ho,hg⟩:=h1 i hi
   exact vcG_sound ho hI hE (fun e' h' μ' a' w' hk hI' hE' hle'=>vcAny_sound hN f _ hI' hE' (hle.trans hle') hk.2) hg
def GivesG (P:Program) (ops:Array Oper) (o:Oper) (e:Env) (h:HS) (v:V):Prop:=
 ∀ e1 h1 (K:Env→HS→Prop),e1.n=e.n→(∀ t ∈ o.looksAt ops,e1.get t=e.get t)→(loadKind o.op=true→BoxLe h h1)→K (e1.put o.dst v) h1→vcG P ops.toList o e1 h1 K
theorem GivesG.step {ops:Array Oper} {o:Oper} {e e1:Env} {h h1:HS} {v:V} (hg:GivesG P ops o e h v) (hn:e1.n=e.n) (he:∀ t ∈ o.looksAt ops,e1.get t=e.get t) (hb:loadKind o.op=true→BoxLe h h1):GivesG P ops o e1 h1 v:=
 fun e2 h2 K hn2 he2 hb2 hk=>hg e2 h2 K (hn2.trans hn) (fun t ht=>(he2 t ht).trans (he t ht)) (fun hl l c hl'=>hb2 hl l c (hb hl l c hl')) hk
theorem dstOK_n {o:Oper} {e e1:Env} (hn:e1.n=e.n) (hd:dstOK o e):dstOK o e1:=by
 unfold dstOK at *
 split at hd
 ·trivial
 ·rw[hn];exact hd
theorem put_n' {e:Env} {d:Option Nat} {v:V}:(e.put d v).n=e.n:=by cases d<;>rfl
theorem pureG_elim {ops:Array Oper} {o:Oper} {e:Env} {h:HS} {K:Env→HS→Prop} (hp:pureKind o.op=true) (hr:Real e h) (hv:vcG P ops.toList o e h K) :
  ∃ v,K (e.put o.dst v) h∧Real (e.put o.dst v) h∧GivesG P ops o e h v:=by
 obtain⟨hd,hv⟩:=hv
 have skip:K (e.put o.dst .undef) h→(∀ e1:Env,∀ h1 (K:Env→HS→Prop),e1.n=e.n→(∀ t ∈ o.looksAt ops,e1.get t=e.get t)→K (e1.put o.dst .undef) h1→vcG P ops.toList o e1 h1 K) →
   ∃ v,K (e.put o.dst v) h∧Real (e.put o.dst v) h∧GivesG P ops o e h v:=fun hk hall=>
  ⟨.undef,hk,real_put hr (dst_lt hd) (fun _ _ _ _ _ _=>⟨undef,rfl⟩),fun e1 h1 K1 hn he hb hk=>hall e1 h1 K1 hn he hk⟩
 have go:vcOp P o e h K→(∀ e1:Env,∀ h1 (K:Env→HS→Prop),e1.n=e.n→(∀ t ∈ o.looksAt ops,e1.get t=e.get t)→vcOp P o e1 h1 K→vcG P ops.toList o e1 h1 K) →
   ∃ v,K (e.put o.dst v) h∧Real (e.put o.dst v) h∧GivesG P ops o e h v:=fun hs hall=>by
  obtain⟨v,hk,hr',hg⟩:=pure_elim hp hr hd hs
  exact⟨v,hk,hr',fun e1 h1 K1 hn he hb hk=>hall e1 h1 K1 hn he (hg e1 h1 K1 (ev_agree he) hb hk)⟩
 cases hg:o.guard with
 | none=>
   simp only[hg] at hv
   exact go hv (fun e1 h1 K1 hn he hs=>⟨dstOK_n hn hd,by simp only[hg];exact hs⟩)
 | some gw=>
   obtain⟨j,want⟩:=gw
   simp only[hg] at hv
   split at hv
   ·rename_i b hy
    by_cases hb:b=want
    ·exact go (hv.1 hb) (fun e1 h1 K1 hn he hs=>⟨dstOK_n hn hd,by
      simp only[hg,yield_agree he hg,hy];exact⟨fun _=>hs,fun hne=>absurd hb hne⟩⟩)
    ·exact skip (hv.2 hb) (fun e1 h1 K1 hn he hs=>⟨dstOK_n hn hd,by
      simp only[hg,yield_agree he hg,hy];exact⟨fun hq=>absurd hq hb,fun _=>hs⟩⟩)
   ·rename_i hy
    exact skip hv (fun e1 h1 K1 hn he hs=>⟨dstOK_n hn hd,by
      simp only[hg,yield_agree he hg,hy];exact hs⟩)
   ·exact hv.elim
theorem put_comm' {e:Env} {x y:Option Nat} {v u:V} (h:∀ d,x=some d→y≠some d):(e.put x v).put y u=(e.put y u).put x v:=by
 cases x with
 | none=>rfl
 | some d=>
   cases y with
   | none=>rfl
   | some d'=>
     have hne:d≠d':=fun he=>h d rfl (he ▸ rfl)
     simp only[Env.put,Env.mk.injEq,true_and]
     funext k
     by_cases h1:k=d'<;>by_cases h2:k=d<;>simp_all
theorem put_get' {e:Env} {x:Option Nat} {v:V} {t:Nat} (h:∀ d,x=some d→d≠t):(e.put x v).get t=e.get t:=by
 cases x with
 | none=>rfl
 | some d=>
   have:=h d rfl
   show (if t=d then v else e.get t)=e.get t
   rw[if_neg (Ne.symm this)]
theorem vcG_swap {ops:Array Oper} {oi oj:Oper} {e:Env} {h:HS} {v:V} {K:Env→HS→Prop} (hap:oi.apart ops oj=true) (hst:storeKind oj.op=false∨loadKind oi.op=false) (hr:Real (e.put oi.dst v) h)
  (hv:vcG P ops.toList oj (e.put oi.dst v) h (fun e' h'=>(callKind oj.op=true→BoxLe h h')∧K e' h')) :
  vcG P ops.toList oj e h (fun e' h'=>(callKind oj.op=true→BoxLe h h')∧e'.n=e.n∧(∀ t ∈ oi.looksAt ops,e'.get t=e.get t)∧(loadKind oi.op=true→BoxLe h h')∧K (e'.put oi.dst v) h'):=by
 obtain⟨h1,h2,h3⟩:=Oper.apart_spec hap
 have hag:∀ t ∈ oj.looksAt ops,e.get t=(e.put oi.dst v).get t:=fun t ht=>(put_get' (fun d hd he=>h1 d hd (he ▸ ht))).symm
 have fin:∀ u h',(storeKind oj.op=false→callKind oj.op=false→BoxLe h h')→((callKind oj.op=true→BoxLe h h')∧K ((e.put oi.dst v).put oj.dst u) h') →
   (callKind oj.op=true→BoxLe h h')∧(e.put oj.dst u).n=e.n∧(∀ t ∈ oi.looksAt ops,(e.put oj.dst u).get t=e.get t)∧(loadKind oi.op=true→BoxLe h h')∧K ((e.put oj.dst u).put oi.dst v) h':=fun u h' hb hk=>
  ⟨hk.1,put_n',fun t ht=>put_get' (fun d hd he=>h3 d hd (he ▸ ht)),fun hl=>by
   cases hc:callKind oj.op with
   | true=>exact hk.1 hc
   | false=>exact hb (hst.resolve_right (by simp[hl])) hc,by rw[← put_comm' h2];exact hk.2⟩
 obtain⟨hd,hv⟩:=hv
 refine⟨dstOK_n put_n'.symm hd,?_⟩
 have go:vcOp P oj (e.put oi.dst v) h (fun e' h'=>(callKind oj.op=true→BoxLe h h')∧K e' h')→vcOp P oj e h (fun e' h'=>(callKind oj.op=true→BoxLe h h')∧e'.n=e.n∧(∀ t ∈ oi.looksAt ops,e'.get t=e.get t)∧(loadKind oi.op=true→BoxLe h h')∧K (e'.put oi.dst v) h'):=fun hs=>
  vcOp_agree hr (ev_agree hag) (fun u h' hb hk=>fin u h' hb hk) hs
 cases hg:oj.guard with
 | none=>simp only[hg] at hv ⊢;exact go hv
 | some gw=>
   obtain⟨j,want⟩:=gw
   simp only[hg] at hv ⊢
   rw[yield_agree hag hg]
   split at hv
   ·exact⟨fun hb=>go (hv.1 hb),fun hb=>fin _ _ (fun _ _=>BoxLe.refl h) (hv.2 hb)⟩
   ·exact fin _ _ (fun _ _=>BoxLe.refl h) hv
   ·exact hv.elim
theorem vcG_mono {all:List Oper} {o:Oper} {e:Env} {h:HS} {K K1:Env→HS→Prop} (hr:Real e h) (hK:∀ e' h',K e' h'→K1 e' h') (hv:vcG P all o e h K):vcG P all o e h K1:=by
 obtain⟨hd,hv⟩:=hv
 refine⟨hd,?_⟩
 have go:vcOp P o e h K→vcOp P o e h K1:=fun hs=>vcOp_agree hr (fun _ _=>rfl) (fun u h' _ hk=>hK _ _ hk) hs
 split at hv
 ·rename_i hg;exact go hv
 ·rename_i j want hg
  split at hv
  ·rename_i hy;exact⟨fun hb=>go (hv.1 hb),fun hb=>hK _ _ (hv.2 hb)⟩
  ·exact hK _ _ hv
  ·exact hv.elim
theorem GivesG.real {ops:Array Oper} {o:Oper} {e:Env} {h:HS} {v:V} (hp:pureKind o.op=true) (hr:Real e h) (hg:GivesG P ops o e h v):Real (e.put o.dst v) h:=by
 obtain⟨v',h1,h2,_⟩:=pureG_elim hp hr (hg e h (fun e2 h2=>e2=e.put o.dst v∧h2=h) rfl (fun _ _=>rfl) (fun _=>BoxLe.refl h) ⟨rfl,rfl⟩)
 rw[← h1.1];exact h2
theorem vcAny_first {md:Region.Mode} {ops:Array Oper} {K:Env→HS→Prop} {i:Nat} {oi:Oper} {v:V} (W:Nat→Bool) (hi:ops[i]?=some oi) (hp:pureKind oi.op=true)
  (hW:∀ j,W j=true→∃ oj,ops[j]?=some oj∧∃ x ∈ oj.after,Region.binds md x=true∧(x.on=i∨W x.on=true)) :
  ∀ (f:Nat) (listed:Array Bool) (e:Env) (h:HS),(∀ j,W j=true→listed.getD j true=false) →
    (∀ j oj,ops[j]?=some oj→j≠i→listed.getD j true=false→W j=false→oi.apart ops oj=true∧(storeKind oj.op=false∨loadKind oi.op=false)) →
    i ∈ Region.ready md ops listed→GivesG P ops oi e h v →
    vcAny P md ops K f (listed.setIfInBounds i true) (e.put oi.dst v) h→vcAny P md ops K (f+1) listed e h:=by
 intro f
 induction f with
 | zero=>
   intro listed e h _ _ hr hg H hR
   refine⟨fun h=>(by rw[h] at hr;cases hr),fun j hj=>?_⟩
   by_cases hji:j=i
   ·subst hji;exact⟨oi,hi,hg e h _ rfl (fun _ _=>rfl) (fun _=>BoxLe.refl h) ⟨fun hc=>(by rw[callKind_pure hp] at hc;cases hc),H⟩⟩
   ·have:=ready_mono hj hji
    rw[H.1] at this
    cases this
 | succ f ih=>
   intro listed e h hWl hfree hr hg H hR
   have hR':=hg.real hp hR
   refine⟨fun h=>(by rw[h] at hr;cases hr),fun j hj=>?_⟩
   by_cases hji:j=i
   ·subst hji;exact⟨oi,hi,hg e h _ rfl (fun _ _=>rfl) (fun _=>BoxLe.refl h) ⟨fun hc=>(by rw[callKind_pure hp] at hc;cases hc),H⟩⟩
   ·obtain⟨oj,hoj,h1⟩:=(H hR').2 j (ready_mono hj hji)
    obtain⟨hjun,oj',hoj',hall⟩:=mem_ready.1 hj
    have:oj'=oj:=Option.some.inj (hoj'.symm.trans hoj)
    subst this
    have unl:∀ k,listed.getD k true=false→listed.getD k false=true→False:=fun k h1 h2=>by
     rcases Nat.lt_or_ge k listed.size with h' | h'
     ·simp[h'] at h1 h2;rw[h1] at h2;cases h2
     ·simp[Array.getElem?_eq_none h'] at h2
    have hnot:W j=false:=by
     cases hw:W j with
     | false=>rfl
     | true=>
       obtain⟨ok,hok,x,hx,hb,hon⟩:=hW j hw
       have:ok=oj':=Option.some.inj (hok.symm.trans hoj)
       subst this
       have h1:=hall x hx hb
       rcases hon with hon | hon
       ·rw[hon] at h1;exact (unl i (mem_ready.1 hr).1 h1).elim
       ·exact (unl _ (hWl _ hon) h1).elim
    obtain⟨hap,hst⟩:=hfree j oj' hoj hji hjun hnot
    have hfree':∀ k ok,ops[k]?=some ok→k≠i→(listed.setIfInBounds j true).getD k true=false →
      W k=false→oi.apart ops ok=true∧(storeKind ok.op=false∨loadKind oi.op=false):=fun k ok hk hki hun hno=>by
     refine hfree k ok hk hki ?_ hno
     by_cases hjk:j=k
     ·subst hjk;exact hjun
     ·rw[getD_set_ne true hjk] at hun;exact hun
    have hWl':∀ k,W k=true→(listed.setIfInBounds j true).getD k true=false:=fun k hk=>by
     have hjk:j≠k:=by rintro rfl;rw[hnot] at hk;cases hk
     rw[getD_set_ne true hjk];exact hWl k hk
    refine⟨oj',hoj,vcG_mono hR (fun e' h' hk=>?_) (vcG_swap hap hst hR' h1)⟩
    obtain⟨hcb,hn,hag,hb,hk⟩:=hk
    refine⟨hcb,?_⟩
    refine ih (listed.setIfInBounds j true) e' h' hWl' hfree' (ready_mono hr (Ne.symm hji)) (hg.step hn hag hb) ?_
    ·rw[Array.setIfInBounds_comm _ _ hji]
     exact hk
def waitsN (md:Region.Mode) (ops:Array Oper) (i:Nat):Nat→List Nat→List Nat
 | 0,w=>w
 | n+1,w=>waitsN md ops i n ((List.range ops.size).filter fun j=>match ops[j]? with
   | some o=>o.after.any fun x=>Region.binds md x && (x.on == i || w.contains x.on)
   | none=>false)
def waitsB (md:Region.Mode) (ops:Array Oper) (i:Nat) (w:List Nat):Bool:=w.all fun j=>match ops[j]? with
    | some o=>o.after.any fun x=>Region.binds md x && (x.on == i || w.contains x.on)
    | none=>false
def firstB (md:Region.Mode) (ops:Array Oper) (listed:Array Bool) (i:Nat):Bool:=
 match ops[i]? with
 | none=>false
 | some oi=>
   let w:=waitsN md ops i ops.size []
   pureKind oi.op && (Region.ready md ops listed).contains i && waitsB md ops i w && w.all (fun j=>!listed.getD j true) && (List.range ops.size).all fun j=>j == i || listed.getD j true || w.contains j || match ops[j]? with
    | some oj=>oi.apart ops oj && (!storeKind oj.op || !loadKind oi.op)
    | none=>true
inductive Plan where
 | done
 | one (i:Nat) (p:Plan)
 | two (i j:Nat) (p q:Plan)
 | three (i j k:Nat) (p q r:Plan)
 | four (i j k l:Nat) (p q r s:Plan)
def planB (md:Region.Mode) (ops:Array Oper):Plan→Nat→Array Bool→Bool
 | .done,f,listed=>f == 0 && (Region.ready md ops listed).isEmpty
 | .one _ _,0,_=>false
 | .one i p,f+1,listed=>(Region.ready md ops listed == [i] || firstB md ops listed i) && planB md ops p f (listed.setIfInBounds i true)
 | .two _ _ _ _,0,_=>false
 | .two i j p q,f+1,listed=>Region.ready md ops listed == [i,j] && planB md ops p f (listed.setIfInBounds i true) && planB md ops q f (listed.setIfInBounds j true)
 | .three _ _ _ _ _ _,0,_=>false
 | .three i j k p q r,f+1,listed=>Region.ready md ops listed == [i,j,k] && planB md ops p f (listed.setIfInBounds i true) && planB md ops q f (listed.setIfInBounds j true) && planB md ops r f (listed.setIfInBounds k true)
 | .four _ _ _ _ _ _ _ _,0,_=>false
 | .four i j k l p q r s,f+1,listed=>Region.ready md ops listed == [i,j,k,l] && planB md ops p f (listed.setIfInBounds i true) && planB md ops q f (listed.setIfInBounds j true) && planB md ops r f (listed.setIfInBounds k true) && planB md ops s f (listed.setIfInBounds l true)
def Plan.then_:List Nat→Plan→Plan
 | [],p=>p
 | i::r,p=>.one i (Plan.then_ r p)
def planOps (ops:List Oper):List Nat→List Oper
 | []=>[]
 | i::r=>match ops[i]? with
   | some o=>o::planOps ops r
   | none=>planOps ops r
def isCallAt (ops:List Oper) (i:Nat):Bool:=
 match ops[i]? with
 | some o=>callKind o.op
 | none=>false
def vcPlan (P:Program) (ops:List Oper) (K:Env→HS→Prop):Plan→Env→HS→Prop
 | .done,e,h=>K e h
 | .one i p,e,h=>vcOps P ops (planOps ops [i]) e h (fun e' h'=>(isCallAt ops i=true→BoxLe h h')∧vcPlan P ops K p e' h')
 | .two i j p q,e,h=>vcOps P ops (planOps ops [i]) e h (fun e' h'=>(isCallAt ops i=true→BoxLe h h')∧vcPlan P ops K p e' h')∧vcOps P ops (planOps ops [j]) e h (fun e' h'=>(isCallAt ops j=true→BoxLe h h')∧vcPlan P ops K q e' h')
 | .four i j k l p q r s,e,h=>vcOps P ops (planOps ops [i]) e h (fun e' h'=>(isCallAt ops i=true→BoxLe h h')∧vcPlan P ops K p e' h')∧vcOps P ops (planOps ops [j]) e h (fun e' h'=>(isCallAt ops j=true→BoxLe h h')∧vcPlan P ops K q e' h')∧vcOps P ops (planOps ops [k]) e h (fun e' h'=>(isCallAt ops k=true→BoxLe h h')∧vcPlan P ops K r e' h')∧vcOps P ops (planOps ops [l]) e h (fun e' h'=>(isCallAt ops l=true→BoxLe h h')∧vcPlan P ops K s e' h')
 | .three i j k p q r,e,h=>vcOps P ops (planOps ops [i]) e h (fun e' h'=>(isCallAt ops i=true→BoxLe h h')∧vcPlan P ops K p e' h')∧vcOps P ops (planOps ops [j]) e h (fun e' h'=>(isCallAt ops j=true→BoxLe h h')∧vcPlan P ops K q e' h')∧vcOps P ops (planOps ops [k]) e h (fun e' h'=>(isCallAt ops k=true→BoxLe h h')∧vcPlan P ops K r e' h')
theorem vcOps_one {md:Region.Mode} {ops:Array Oper} {listed:Array Bool} {i:Nat} (hm:i ∈ Region.ready md ops listed) {e:Env} {h:HS} {l:List Nat} {K:Env→HS→Prop} (hv:vcOps P ops.toList (planOps ops.toList (i::l)) e h K) :
  ∃ o,ops[i]?=some o∧isCallAt ops.toList i=callKind o.op∧vcG P ops.toList o e h (fun e h=>vcOps P ops.toList (planOps ops.toList l) e h K):=by
 obtain⟨_,o,ho,_⟩:=mem_ready.1 hm
 have ho':ops.toList[i]?=some o:=by simpa using ho
 refine⟨o,ho,by simp only[isCallAt,ho'],?_⟩
 simp only[planOps,ho'] at hv
 exact hv
theorem vcAny_of_plan {md:Region.Mode} {ops:Array Oper} {K:Env→HS→Prop}:∀ (p:Plan) (f:Nat) (listed:Array Bool) (e:Env) (h:HS),planB md ops p f listed=true →
  vcPlan P ops.toList K p e h→vcAny P md ops K f listed e h
 | .done,f,listed,e,h,hB,hv=>by
   unfold planB at hB
   simp only[Bool.and_eq_true,beq_iff_eq] at hB
   obtain⟨rfl,hB⟩:=hB
   exact⟨by simpa using hB,fun _=>hv⟩
 | .one i p,0,listed,e,h,hB,hv=>by unfold planB at hB;cases hB
 | .one i p,f+1,listed,e,h,hB,hv=>by
   unfold planB at hB
   simp only[Bool.and_eq_true,Bool.or_eq_true] at hB
   obtain⟨hB,hrest⟩:=hB
   have ih:=fun e h=>vcAny_of_plan (K:=K) p f (listed.setIfInBounds i true) e h hrest
   have hmem:i ∈ Region.ready md ops listed:=by
    rcases hB with hB | hB
    ·rw[eq_of_beq hB];simp
    ·unfold firstB at hB
     split at hB
     ·cases hB
     ·simp only[Bool.and_eq_true] at hB
      simpa using hB.1.1.1.2
   obtain⟨o,ho,hck,hv'⟩:=vcOps_one hmem hv
   rw[hck] at hv'
   by_cases hR:Real e h
   ·rcases hB with hB | hB
    ·intro _
     refine⟨fun h0=>(by rw[h0] at hmem;cases hmem),fun j hj=>?_⟩
     rw[eq_of_beq hB] at hj
     have:j=i:=by simpa using hj
     subst this
     exact⟨o,ho,vcG_mono hR (fun e' h' hk=>⟨hk.1,ih e' h' hk.2⟩) hv'⟩
    ·unfold firstB at hB
     simp only[ho,Bool.and_eq_true] at hB
     obtain⟨⟨⟨⟨hp,_⟩,hwB⟩,hwl⟩,hall⟩:=hB
     obtain⟨v,hk,hR',hg⟩:=pureG_elim hp hR hv'
     generalize waitsN md ops i ops.size []=w at hwB hwl hall
     refine vcAny_first (fun j=>w.contains j) ho hp (fun j hj=>?_) f listed e h (fun j hj=>?_) (fun j oj hj hne hun hno=>?_) hmem hg (ih _ _ hk.2)
     ·have h1:=List.all_eq_true.1 hwB j (by simpa using hj)
      split at h1
      ·rename_i o ho'
       obtain⟨x,hx,hb⟩:=Array.any_eq_true'.1 h1
       simp only[Bool.and_eq_true,Bool.or_eq_true,beq_iff_eq] at hb
       exact⟨o,ho',x,hx,hb.1,hb.2⟩
      ·cases h1
     ·have h1:=List.all_eq_true.1 hwl j (by simpa using hj)
      simpa using h1
     ·have h1:=List.all_eq_true.1 hall j (List.mem_range.2 (Array.getElem?_eq_some_iff.1 hj).1)
      simp only[hj,Bool.or_eq_true,beq_iff_eq,hne,false_or,hun,Bool.false_eq_true,hno] at h1
      simp only[Bool.and_eq_true,Bool.or_eq_true,Bool.not_eq_true'] at h1
      exact h1
   ·exact fun hR'=>absurd hR' hR
 | .two i j p q,0,listed,e,h,hB,hv=>by unfold planB at hB;cases hB
 | .two i j p q,f+1,listed,e,h,hB,hv=>by
   unfold planB at hB
   simp only[Bool.and_eq_true] at hB
   have hr:Region.ready md ops listed=[i,j]:=eq_of_beq hB.1.1
   intro hR
   refine⟨fun h0=>(by rw[hr] at h0;cases h0),fun k hk=>?_⟩
   have hk':=hk
   rw[hr] at hk'
   simp only[List.mem_cons,List.not_mem_nil,or_false] at hk'
   rcases hk' with rfl | rfl
   ·obtain⟨o,ho,hck,hv'⟩:=vcOps_one hk hv.1
    rw[hck] at hv'
    exact⟨o,ho,vcG_mono hR (fun e' h' hk=>⟨hk.1,vcAny_of_plan p f _ e' h' hB.1.2 hk.2⟩) hv'⟩
   ·obtain⟨o,ho,hck,hv'⟩:=vcOps_one hk hv.2
    rw[hck] at hv'
    exact⟨o,ho,vcG_mono hR (fun e' h' hk=>⟨hk.1,vcAny_of_plan q f _ e' h' hB.2 hk.2⟩) hv'⟩
 | .three i j l p q r,0,listed,e,h,hB,hv=>by unfold planB at hB;cases hB
 | .three i j l p q r,f+1,listed,e,h,hB,hv=>by
   unfold planB at hB
   simp only[Bool.and_eq_true] at hB
   have hr:Region.ready md ops listed=[i,j,l]:=eq_of_beq hB.1.1.1
   intro hR
   refine⟨fun h0=>(by rw[hr] at h0;cases h0),fun k hk=>?_⟩
   have hk':=hk
   rw[hr] at hk'
   simp only[List.mem_cons,List.not_mem_nil,or_false] at hk'
   rcases hk' with rfl | rfl | rfl
   ·obtain⟨o,ho,hck,hv'⟩:=vcOps_one hk hv.1
    rw[hck] at hv'
    exact⟨o,ho,vcG_mono hR (fun e' h' hk=>⟨hk.1,vcAny_of_plan p f _ e' h' hB.1.1.2 hk.2⟩) hv'⟩
   ·obtain⟨o,ho,hck,hv'⟩:=vcOps_one hk hv.2.1
    rw[hck] at hv'
    exact⟨o,ho,vcG_mono hR (fun e' h' hk=>⟨hk.1,vcAny_of_plan q f _ e' h' hB.1.2 hk.2⟩) hv'⟩
   ·obtain⟨o,ho,hck,hv'⟩:=vcOps_one hk hv.2.2
    rw[hck] at hv'
    exact⟨o,ho,vcG_mono hR (fun e' h' hk=>⟨hk.1,vcAny_of_plan r f _ e' h' hB.2 hk.2⟩) hv'⟩
 | .four i j l m p q r s,0,listed,e,h,hB,hv=>by unfold planB at hB;cases hB
 | .four i j l m p q r s,f+1,listed,e,h,hB,hv=>by
   unfold planB at hB
   simp only[Bool.and_eq_true] at hB
   have hr:Region.ready md ops listed=[i,j,l,m]:=eq_of_beq hB.1.1.1.1
   intro hR
   refine⟨fun h0=>(by rw[h0] at hr;cases hr),fun k hk=>?_⟩
   have hk':=hk
   rw[hr] at hk'
   simp only[List.mem_cons,List.not_mem_nil,or_false] at hk'
   rcases hk' with rfl | rfl | rfl | rfl
   ·obtain⟨o,ho,hck,hv'⟩:=vcOps_one hk hv.1
    rw[hck] at hv'
    exact⟨o,ho,vcG_mono hR (fun e' h' hk=>⟨hk.1,vcAny_of_plan p f _ e' h' hB.1.1.1.2 hk.2⟩) hv'⟩
   ·obtain⟨o,ho,hck,hv'⟩:=vcOps_one hk hv.2.1
    rw[hck] at hv'
    exact⟨o,ho,vcG_mono hR (fun e' h' hk=>⟨hk.1,vcAny_of_plan q f _ e' h' hB.1.1.2 hk.2⟩) hv'⟩
   ·obtain⟨o,ho,hck,hv'⟩:=vcOps_one hk hv.2.2.1
    rw[hck] at hv'
    exact⟨o,ho,vcG_mono hR (fun e' h' hk=>⟨hk.1,vcAny_of_plan r f _ e' h' hB.1.2 hk.2⟩) hv'⟩
   ·obtain⟨o,ho,hck,hv'⟩:=vcOps_one hk hv.2.2.2
    rw[hck] at hv'
    exact⟨o,ho,vcG_mono hR (fun e' h' hk=>⟨hk.1,vcAny_of_plan s f _ e' h' hB.2 hk.2⟩) hv'⟩
theorem SWP.draw {id:Nat} {ops:Array Oper} {Q:Exit→Env→HS→Prop} {e:Env} {h:HS} (plan:Plan) (hm:P.follows .mixedOrders=true)
  (hB:planB .any ops plan ops.size (Array.replicate ops.size false)=true) (hv:vcPlan P ops.toList (Q .normal) plan e h):SWP P (.region id ops true) Q e h:=by
 intro Γ a w μ hI hE
 exact wp_region_any hm (vcAny_sound (Γ:=Γ) (fun e' h' μ' a' w' hk hI' hE' hle=>⟨e',h',μ',hk,hI',hE',hle⟩) ops.size _ (hI.drew) hE (.refl μ) (vcAny_of_plan plan _ _ e h hB hv))
end
end Go.Am
end
section
namespace Go.Am
open Go
open Go.RowKit (Below)
section
variable {P:Program} {w:World} {a:Act} {e:Env} {h:HS} {μ:Mem} {Γ:Ctx}
inductive Frz (h:HS):C→D→Prop
 | data {c:C} {x:D} (hx:c.toD=some x):Frz h c x
 | mrow {l:Lab} {off cap es:Nat} {xs:List (List D)} {cs:List C} (f:Nat→Nat→C) (hb:h.box l=some cs) (hl:xs.length≤LIM) (hes:∀ x ∈ xs,x.length=es)
   (hc:∀ (i:Nat) x,xs[i]?=some x→∀ (j:Nat) d,x[j]?=some d→cs[off+(i * es+j)]?=some (f i j))
   (hf:∀ (i:Nat) x,xs[i]?=some x→∀ (j:Nat) d,x[j]?=some d→Frz h (f i j) d):Frz h (.mrow l off xs.length cap) (.sl xs)
theorem frz_rep (hI:Inv Γ h μ w) {m:CM} (hs:Sub μ.cell m) (hm:∀ l cs b n o u,h.box l=some cs→μ.loc l=some (some b,n)→w.cell? ⟨b,o,none⟩=some u→m b o=some u)
  {c:C} {x:D} (hf:Frz h c x):∀ {v:Value},RepC μ c v→RepD m x v:=by
 induction hf with
 | data hx=>intro v hc;exact (toD_rep hc hx).mono hs
 | @mrow l off cap es xs cs f hb hl hes hc hf ih=>
   intro v hv
   obtain⟨b,k,hloc,rfl,hcap⟩:=hv
   obtain⟨b',n,T,conc,h1,_,h3,h4,_⟩:=hI.box l cs hb
   rw[hloc] at h1
   simp only[Option.some.injEq,Prod.mk.injEq] at h1
   obtain⟨rfl,_⟩:=h1
   refine .sl xs _ cap es b off (fun i j=>conc.getD (off+(i * es+j)) undef) hl hcap hes (fun _=>rfl) (fun i x hx j d hd=>?_) (fun i x hx j d hd=>?_)
   ·obtain⟨u,hu,_⟩:=h4.2 _ _ (hc i x hx j d hd)
    refine hm l cs b k _ _ hb hloc ?_
    simp[World.cell?,h3,hu,Array.getD_eq_getD_getElem?]
   ·obtain⟨u,hu,hr⟩:=h4.2 _ _ (hc i x hx j d hd)
    have:conc.getD (off+(i * es+j)) undef=u:=by rw[Array.getD_eq_getD_getElem?,hu];rfl
    simp only[this]
    exact ih i x hx j d hd hr
def FrzCs (h:HS):List C→List D→Prop
 | [],[]=>True
 | c::cs,x::xs=>Frz h c x∧FrzCs h cs xs
 | _,_=>False
theorem FrzCs.get:∀ {cs:List C} {xs:List D},FrzCs h cs xs→cs.length=xs.length∧∀ (i:Nat) x,xs[i]?=some x→∃ c,cs[i]?=some c∧Frz h c x
 | [],[],_=>⟨rfl,fun i x hi=>by simp at hi⟩
 | c::cs,y::xs,hr=>by
   obtain⟨h1,h2⟩:=FrzCs.get hr.2
   refine⟨by simp[h1],fun i x hi=>?_⟩
   cases i with
   | zero=>simp at hi;subst hi;exact⟨c,by simp,hr.1⟩
   | succ i=>obtain⟨c',h3,h4⟩:=h2 i x (by simpa using hi);exact⟨c',by simpa using h3,h4⟩
 | [],_::_,hr=>hr.elim
 | _::_,[],hr=>hr.elim
def notTup:V→Bool
 | .tup _=>false
 | _=>true
def retH (P:Program) (rs:List ResultVar) (K:V→HS→Prop):Exit→Env→HS→Prop:=fun x e h=>
 match x with
 | .normal | .ret=>match resVs P e h rs with
   | some [v]=>K v h
   | some vs=>vs.all notTup=true∧K (.tup vs) h
   | none=>False
 | _=>False
def envV (n:Nat) (vs:List V):Env:={ n,get:=fun k=>(vs[k]?).getD .undef }
theorem HSpec.mono {f:FuncId} {vs:List V} {K K':V→HS→Prop} (hs:HSpec P f vs h K) (hk:∀ v h',K v h'→K' v h'):HSpec P f vs h K':=
 ⟨hs.1,fun Γ μ w vals hI hR=>(hs.2 Γ μ w vals hI hR).mono fun en w' ⟨u,v,h',μ',h1,h2,h3⟩=>⟨u,v,h',μ',h1,hk _ _ h2,h3⟩⟩
theorem HSpec.of_vc {f:FuncId} {fn:Func} {c:Code} {n:Nat} {vs:List V} {K:V→HS→Prop} (hf:P.funcs[f]?=some fn) (hb:fn.body=some c) (hnm:(fn.name == "runtime.NumGoroutine")=false) (hn:fn.ntmps=n) {rs:List ResultVar} (hrs:fn.results.toList=rs) (has:vs.length≤n)
  (hv:vc P c (retH P rs K) (envV n vs) h):HSpec P f vs h K:=by
 subst hrs
 refine⟨⟨fn,hf,hnm,by rw[hb];rfl⟩,fun Γ μ w vals hI hargs=>?_⟩
 have hE:EnvRel μ (envV n vs) { tmps:=vals++Array.replicate (fn.ntmps - vals.size) undef,defers:=[] }:=by
  refine⟨rfl,?_,fun k=>?_⟩
  ·simp[envV,hargs.1,hn];omega
  ·simp only[envV]
   cases hk:vs[k]? with
   | some x=>
     obtain⟨u,hu,hr⟩:=hargs.2 k x hk
     have hlt:k < vals.size:=(Array.getElem?_eq_some_iff.1 hu).1
     have:(vals++Array.replicate (fn.ntmps - vals.size) undef).getD k undef=u:=by
      rw[Array.getD_eq_getD_getElem?,Array.getElem?_append_left hlt,hu];rfl
     simp only[this,Option.getD_some]
     exact hr
   | none=>
     have hge:vals.size≤k:=by rw[hargs.1];exact List.getElem?_eq_none_iff.1 hk
     show (vals++Array.replicate (fn.ntmps - vals.size) undef).getD k undef=undef
     rw[Array.getD_eq_getD_getElem?,Array.getElem?_append_right hge]
     cases hx:(Array.replicate (fn.ntmps - vals.size) undef)[k - vals.size]? with
     | none=>rfl
     | some u=>
       obtain⟨_,he⟩:=Array.getElem?_eq_some_iff.1 hx
       simp at he
       simp[he]
 refine calls_of_wp hf hb (Code.wp_mono ?_ (vc_sound c _ _ _ hv Γ _ w _ hI hE))
 rintro ex a' w' ⟨e',h',μ',hq,hI',hE',hle⟩
 have fin:(match resVs P e' h' fn.results.toList with
  | some [v]=>K v h'
  | some vs=>vs.all notTup=true∧K (.tup vs) h'
  | none=>False)→a'.defers=[]∧∃ v,(results fn a'.tmps).run P w'=.ok v w'∧∃ u v' h'' μ'',Ending.returned v=.returned u∧K v' h''∧Inv Γ h'' μ'' w'∧RepV μ'' v' u∧Mem.Le μ μ'':=by
  intro hret
  cases hvs:resVs P e' h' fn.results.toList with
  | none=>rw[hvs] at hret;exact hret.elim
  | some vs'=>
    rw[hvs] at hret
    obtain⟨us,hrun,hlen,hR⟩:=run_res (P:=P) hI' hE' fn.results.toList vs' hvs
    have hres:(results fn a'.tmps).run P w'=.ok (if hh:us.toArray.size=1 then us.toArray[0] else .tuple us.toArray) w':=by
     rw[results_eq,Sem.run_bind,Array.mapM_eq_mapM_toList]
     have hrun':(Functor.map List.toArray (fn.results.toList.mapM (resF a'.tmps))).run P w'=.ok us.toArray w':=by
      rw[Sem.run_map,hrun];rfl
     rw[hrun']
     rfl
    refine⟨hE'.1,_,hres,?_⟩
    by_cases h1:∃ v,vs'=[v]
    ·obtain⟨v,rfl⟩:=h1
     obtain⟨u,hu,hru⟩:=hR 0 v (by simp)
     obtain⟨u',rfl⟩:∃ u',us=[u']:=by
      match us,hlen with
      | [u'],_=>exact⟨u',rfl⟩
     obtain rfl:u'=u:=by simpa using hu
     exact⟨u',v,h',μ',rfl,hret,hI',hru,hle⟩
    ·have hne:¬ us.toArray.size=1:=by
      simp only[List.size_toArray,hlen]
      intro hq
      exact h1 (by
       match vs',hq with
       | [v],_=>exact⟨v,rfl⟩)
     rw[dif_neg hne]
     have hret':vs'.all notTup=true∧K (.tup vs') h':=by
      clear hR hvs hlen hne
      revert h1 hret
      match vs' with
      | []=>exact fun hret _=>hret
      | [v]=>exact fun _ h1=>(h1 ⟨v,rfl⟩).elim
      | _::_::_=>exact fun hret _=>hret
     refine⟨_,.tup vs',h',μ',rfl,hret'.2,hI',⟨us.toArray,rfl,by simp[hlen],fun i x hi=>?_⟩,hle⟩
     obtain⟨u,hu,hru⟩:=hR i x hi
     refine⟨u,by simpa using hu,?_⟩
     have hx:=List.all_eq_true.1 hret'.1 x (List.mem_of_getElem? hi)
     cases x with
     | tup _=>simp[notTup] at hx
     | _=>exact hru
 cases ex with
 | normal=>exact fin hq
 | ret=>exact fin hq
 | exit id=>exact hq.elim
 | goto l=>exact hq.elim
 | panic ch=>exact hq.elim
 | outgrown=>exact hq.elim
def FrzRs (h:HS):List C→List RC→Prop
 | [],[]=>True
 | c::cs,.d x::rs=>Frz h c x∧FrzRs h cs rs
 | _,_=>False
def FrzV1 (h:HS) (v:V):RV→Prop
 | .one (.d x)=>match v with
   | .one c=>Frz h c x
   | _=>False
 | .agg rs=>match v with
   | .agg cs=>FrzRs h cs rs
   | _=>False
 | _=>False
def FrzVs (h:HS):List V→List RV→Prop
 | [],[]=>True
 | v::vs,r::rs=>FrzV1 h v r∧FrzVs h vs rs
 | _,_=>False
def FrzFin (h:HS) (v:V):RV→Prop
 | .tup rs=>match v with
   | .tup vs=>FrzVs h vs rs
   | _=>False
 | r=>FrzV1 h v r
theorem FrzRs.get:∀ {cs:List C} {rs:List RC},FrzRs h cs rs→cs.length=rs.length∧∀ (i:Nat) r,rs[i]?=some r→∃ c x,cs[i]?=some c∧r=.d x∧Frz h c x
 | [],[],_=>⟨rfl,fun i r hi=>by simp at hi⟩
 | c::cs,.d x::rs,hr=>by
   obtain⟨h1,h2⟩:=FrzRs.get hr.2
   refine⟨by simp[h1],fun i r hi=>?_⟩
   cases i with
   | zero=>simp at hi;subst hi;exact⟨c,x,by simp,rfl,hr.1⟩
   | succ i=>obtain⟨c',x',h3,h4⟩:=h2 i r (by simpa using hi);exact⟨c',x',by simpa using h3,h4⟩
 | [],_::_,hr=>hr.elim
 | _::_,[],hr=>hr.elim
 | _::_,.fresh _ _ _::_,hr=>hr.elim
theorem FrzVs.get:∀ {vs:List V} {rs:List RV},FrzVs h vs rs→vs.length=rs.length∧∀ (i:Nat) r,rs[i]?=some r→∃ v,vs[i]?=some v∧FrzV1 h v r
 | [],[],_=>⟨rfl,fun i r hi=>by simp at hi⟩
 | c::cs,r::rs,hr=>by
   obtain⟨h1,h2⟩:=FrzVs.get hr.2
   refine⟨by simp[h1],fun i r' hi=>?_⟩
   cases i with
   | zero=>simp at hi;subst hi;exact⟨c,by simp,hr.1⟩
   | succ i=>obtain⟨c',h3,h4⟩:=h2 i r' (by simpa using hi);exact⟨c',by simpa using h3,h4⟩
 | [],_::_,hr=>hr.elim
 | _::_,[],hr=>hr.elim
theorem FrzRs.fr:∀ {cs:List C} {rs:List RC},FrzRs h cs rs→rs.flatMap RC.fr=[]
 | [],[],_=>rfl
 | c::cs,.d x::rs,hr=>by rw[List.flatMap_cons,FrzRs.fr hr.2];rfl
 | [],_::_,hr=>hr.elim
 | _::_,[],hr=>hr.elim
 | _::_,.fresh _ _ _::_,hr=>hr.elim
theorem FrzV1.fr {v:V} {r:RV} (hr:FrzV1 h v r):RV1.fr r=[]:=by
 cases r with
 | one c=>cases c with
   | d x=>rfl
   | fresh j es xs=>exact hr.elim
 | agg rs=>cases v<;>first | exact hr.elim | exact FrzRs.fr hr
 | tup rs=>exact hr.elim
theorem FrzVs.fr:∀ {vs:List V} {rs:List RV},FrzVs h vs rs→rs.flatMap RV1.fr=[]
 | [],[],_=>rfl
 | v::vs,r::rs,hr=>by rw[List.flatMap_cons,FrzVs.fr hr.2,FrzV1.fr hr.1];rfl
 | [],_::_,hr=>hr.elim
 | _::_,[],hr=>hr.elim
theorem FrzFin.fr {v:V} {r:RV} (hr:FrzFin h v r):r.fr=[]:=by
 cases r with
 | tup rs=>cases v<;>first | exact hr.elim | exact FrzVs.fr hr
 | one c=>exact FrzV1.fr (r:=.one c) hr
 | agg rs=>exact FrzV1.fr (r:=.agg rs) hr
theorem frzV1_rep {m:CM} {blk:Nat→Option Nat × Nat} (key:∀ {c:C} {x:D} {v:Value},Frz h c x→RepC μ c v→RepD m x v) {v:V} {r:RV} {u:Value} (hv:RepV μ v u) (hr:FrzV1 h v r):RepRV1 m blk r u:=by
 cases r with
 | one c=>
   cases c with
   | d x=>cases v<;>first | exact hr.elim | exact key hr hv
   | fresh j es xs=>exact hr.elim
 | agg rs=>
   cases v with
   | agg cs=>
     obtain⟨vs,h1,h2⟩:=hv
     obtain⟨h3,h4⟩:=FrzRs.get hr
     refine⟨vs,h1,by rw[h2.1,h3],fun i r hi=>?_⟩
     obtain⟨c,x,h5,rfl,h6⟩:=h4 i r hi
     obtain⟨u',h7,h8⟩:=h2.2 i c h5
     exact⟨u',h7,key h6 h8⟩
   | _=>exact hr.elim
 | tup rs=>exact hr.elim
theorem RepV.one1 {μ:Mem} {v:V} {u:Value} (hn:∀ vs,v≠.tup vs) (hv:RepV1 μ v u):RepV μ v u:=by
 cases v with
 | tup vs=>exact (hn vs rfl).elim
 | _=>exact hv
theorem frzFin_rep {m:CM} {blk:Nat→Option Nat × Nat} (key:∀ {c:C} {x:D} {v:Value},Frz h c x→RepC μ c v→RepD m x v) {v:V} {r:RV} {u:Value} (hv:RepV μ v u) (hr:FrzFin h v r):RepRV m blk r u:=by
 cases r with
 | tup rs=>
   cases v with
   | tup vs=>
     obtain⟨us,h1,h2,h3⟩:=hv
     obtain⟨h4,h5⟩:=FrzVs.get hr
     refine⟨us,h1,by rw[h2,h4],fun i r hi=>?_⟩
     obtain⟨v,h6,h7⟩:=h5 i r hi
     obtain⟨u',h8,h9⟩:=h3 i v h6
     refine⟨u',h8,frzV1_rep key (RepV.one1 (fun vs he=>by subst he;exact h9.elim) h9) h7⟩
   | _=>exact hr.elim
 | one c=>exact frzV1_rep (r:=.one c) key hv hr
 | agg rs=>exact frzV1_rep (r:=.agg rs) key hv hr
theorem PSpec.of_heap {f:FuncId} {ars:List AV} {r:RV} (hs:HSpec P f (ars.map AV.toV) HS.init (fun v h=>FrzFin h v r)):PSpec P f ars r:=by
 refine⟨hs.1,fun w m t vals hg hm ht hargs=>?_⟩
 have hI:Inv ⟨w,m,t,hg⟩ HS.init { cell:=m,tmp:=t,loc:=fun _=>none } w:=
  ⟨hm,rfl,ht,fun b o v hv=>ht.lt hv,Sub.refl _,fun _ _ _ _ h=>h,Below.refl _ _,fun l cs hl=>by simp[HS.init] at hl,fun l es n hl=>by simp[HS.init] at hl,
   fun l l' b n n' hl=>by rcases hl with hl | hl<;>simp[HS.init] at hl,fun l hl=>absurd rfl hl,fun l hl=>by simp[HS.init] at hl⟩
 refine (hs.2 ⟨w,m,t,hg⟩ _ w vals hI ⟨by simp[hargs.1],fun i v hi=>?_⟩).mono ?_
 ·rw[List.getElem?_map] at hi
  cases hx:ars[i]? with
  | none=>simp[hx] at hi
  | some x=>
    simp[hx] at hi
    subst hi
    obtain⟨u,hu,hr⟩:=hargs.2 i x hx
    exact⟨u,hu,AV_rep hr⟩
 ·rintro en w' ⟨u,v,h',μ',rfl,hfr,hI',hru,hle⟩
  let m':CM:=fun b o=>match μ'.cell b o with
   | some v=>some v
   | none=>if w.heap.size≤b then w'.cell? ⟨b,o,none⟩ else none
  have hsub:Sub μ'.cell m':=fun b o v hv=>by show (match μ'.cell b o with | some v=>some v | none=>_)=some v;rw[hv]
  have hcell:Cells m' w':=fun b o v hv=>by
   have hv':(match μ'.cell b o with | some v=>some v | none=>if w.heap.size≤b then w'.cell? ⟨b,o,none⟩ else none)=some v:=hv
   cases hx:μ'.cell b o with
   | some y=>rw[hx] at hv';injection hv' with hv';subst hv';exact hI'.cell _ _ _ hx
   | none=>
     rw[hx] at hv'
     simp only at hv'
     split at hv'
     ·exact hv'
     ·cases hv'
  refine⟨u,m',fun _=>(none,0),rfl,fun b o v hv=>hsub _ _ _ (hI'.ext _ _ _ hv),fun b o v hb hv=>?_,hcell,hI'.below,?_,?_⟩
  ·have hv':(match μ'.cell b o with | some v=>some v | none=>if w.heap.size≤b then w'.cell? ⟨b,o,none⟩ else none)=some v:=hv
   cases hx:μ'.cell b o with
   | some y=>rw[hx] at hv';injection hv' with hv';subst hv';exact hI'.old _ _ _ hb hx
   | none=>rw[hx] at hv';simp only at hv';rw[if_neg (by omega)] at hv';cases hv'
  ·refine frzFin_rep (fun hf hc=>frz_rep hI' hsub (fun l cs b n o u hb hl hu=>?_) hf hc) hru hfr
   obtain⟨b',n',T,conc,h1,h2,h3,_,h5⟩:=hI'.box l cs hb
   rw[hl] at h1
   simp only[Option.some.injEq,Prod.mk.injEq] at h1
   obtain⟨rfl,_⟩:=h1
   show (match μ'.cell b o with | some v=>some v | none=>if w.heap.size≤b then w'.cell? ⟨b,o,none⟩ else none)=some u
   rw[h5 o]
   simp only
   rw[if_pos h2]
   exact hu
  ·rw[hfr.fr]
   exact⟨fun x hx=>by simp at hx,fun x hx=>by simp at hx⟩
end
end Go.Am
end
section
namespace Go.Am
open Go
open Go.RowKit (Below)
section
variable {P:Program} {w:World} {a:Act} {e:Env} {h:HS} {μ:Mem} {Γ:Ctx}
inductive LendC (h:HS):C→A→Prop
 | frz {c:C} {x:D} (hf:Frz h c x):LendC h c (.d x)
 | ptr {l:Lab} {off:Nat} {cs:List C} {ds:List D} (hb:h.box l=some cs) (hf:FrzCs h (cs.drop off) ds):LendC h (.ptr l off) (.rp ds)
 | rp {cs:List D}:LendC h (.rp cs) (.rp cs)
 | fn {f:FuncId} {caps:List Cap} {dss:List (List D)} (hl:caps.length=dss.length) (hc:∀ (i:Nat) c ds,caps[i]?=some c→dss[i]?=some ds→match c with
   | .lab l=>∃ cs,h.box l=some cs∧FrzCs h cs ds
   | .rp cs=>cs=ds):LendC h (.fn f caps) (.fn f dss)
inductive LendV (h:HS):V→AV→Prop
 | one {c:C} {x:A} (hc:LendC h c x):LendV h (.one c) (.one x)
 | agg {cs:List C} {ds:List D} (hc:FrzCs h cs ds):LendV h (.agg cs) (.agg ds)
def LendVs (h:HS):List V→List AV→Prop
 | [],[]=>True
 | v::vs,x::xs=>LendV h v x∧LendVs h vs xs
 | _,_=>False
theorem LendVs.get:∀ {vs:List V} {xs:List AV},LendVs h vs xs→vs.length=xs.length∧∀ (i:Nat) x,xs[i]?=some x→∃ v,vs[i]?=some v∧LendV h v x
 | [],[],_=>⟨rfl,fun i x hi=>by simp at hi⟩
 | c::cs,y::xs,hr=>by
   obtain⟨h1,h2⟩:=LendVs.get hr.2
   refine⟨by simp[h1],fun i x hi=>?_⟩
   cases i with
   | zero=>simp at hi;subst hi;exact⟨c,by simp,hr.1⟩
   | succ i=>obtain⟨c',h3,h4⟩:=h2 i x (by simpa using hi);exact⟨c',by simpa using h3,h4⟩
 | [],_::_,hr=>hr.elim
 | _::_,[],hr=>hr.elim
theorem snap_frz (hI:Inv Γ h μ w) {c:C} {x:D} {v:Value} (hf:Frz h c x) (hc:RepC μ c v):RepD (snap w) x v:=
 frz_rep hI hI.cell (fun _ _ _ _ _ _ _ _ hu=>hu) hf hc
theorem snap_box (hI:Inv Γ h μ w) {l:Lab} {cs:List C} {off:Nat} {ds:List D} (hb:h.box l=some cs) (hf:FrzCs h (cs.drop off) ds) {b n:Nat} (hl:μ.loc l=some (some b,n)):RepP (snap w) (snap w) ds (.pointer (some ⟨b,off,none⟩)):=by
 obtain⟨b',n',T,conc,h1,_,h3,h4,_⟩:=hI.box l cs hb
 rw[hl] at h1
 simp only[Option.some.injEq,Prod.mk.injEq] at h1
 obtain⟨rfl,_⟩:=h1
 obtain⟨_,hg⟩:=hf.get
 refine⟨b,off,rfl,fun j c hj=>?_⟩
 obtain⟨c',hc',hfz⟩:=hg j c hj
 rw[List.getElem?_drop] at hc'
 obtain⟨u,hu,hr⟩:=h4.2 _ _ hc'
 refine⟨u,.inl ?_,snap_frz hI hfz hr⟩
 show w.cell? ⟨b,off+j,none⟩=some u
 simp[World.cell?,h3,hu]
theorem snap_rp (hI:Inv Γ h μ w) {cs:List D} {v:Value} (hr:RepP μ.cell μ.tmp cs v):RepP (snap w) (snap w) cs v:=by
 obtain⟨b,off,rfl,hc⟩:=hr
 refine⟨b,off,rfl,fun j c hj=>?_⟩
 obtain⟨u,hu,hrr⟩:=hc j c hj
 refine⟨u,.inl ?_,hrr.mono hI.cell⟩
 rcases hu with hu | hu
 ·exact hI.cell _ _ _ hu
 ·rw[hI.tmp] at hu;exact hI.tcell _ _ _ hu
theorem lendC_rep (hI:Inv Γ h μ w) {c:C} {x:A} {v:Value} (hl:LendC h c x) (hc:RepC μ c v):RepA (snap w) (snap w) x v:=by
 cases hl with
 | frz hf=>exact snap_frz hI hf hc
 | ptr hb hf=>obtain⟨b,n,hl,rfl⟩:=hc;exact snap_box hI hb hf hl
 | rp=>exact snap_rp hI hc
 | fn hlen hcs=>
   obtain⟨vs,h1,h2,h3⟩:=hc
   refine⟨vs,h1,by rw[h2,hlen],fun i ds hi=>?_⟩
   rename_i f caps dss
   have hlt:i < caps.length:=by rw[hlen];exact (List.getElem?_eq_some_iff.1 hi).1
   have hci:caps[i]?=some caps[i]:=List.getElem?_eq_getElem hlt
   obtain⟨u,hu,hr⟩:=h3 i _ hci
   refine⟨u,hu,?_⟩
   have:=hcs i _ ds hci hi
   generalize caps[i]=cp at this hr
   cases cp with
   | lab l=>
     obtain⟨cs,hb,hf⟩:=this
     obtain⟨b,n,hl,rfl⟩:=hr
     exact snap_box (off:=0) hI hb (by simpa using hf) hl
   | rp cs=>subst this;exact snap_rp hI hr
theorem lendV_rep (hI:Inv Γ h μ w) {v:V} {x:AV} {u:Value} (hl:LendV h v x) (hv:RepV μ v u):RepAV (snap w) (snap w) x u:=by
 cases hl with
 | one hc=>exact lendC_rep hI hc hv
 | agg hc=>
   obtain⟨vs,h1,h2⟩:=hv
   obtain⟨h3,h4⟩:=hc.get
   refine⟨vs,h1,by rw[h2.1,h3],fun i x hi=>?_⟩
   obtain⟨c,h5,h6⟩:=h4 i x hi
   obtain⟨u',h7,h8⟩:=h2.2 i c h5
   exact⟨u',h7,snap_frz hI h6 h8⟩
def D.flat:D→Bool
 | .sl _=>false
 | _=>true
def RC.flat:RC→Bool
 | .d x=>x.flat
 | .fresh _ _ xs=>xs.all fun y=>y.all D.flat
def RV1.flat:RV→Bool
 | .one c=>c.flat
 | .agg cs=>cs.all RC.flat
 | .tup _=>true
def RV.flat:RV→Bool
 | .tup vs=>vs.all RV1.flat
 | v=>RV1.flat v
theorem flat_rep {m m':CM} {x:D} {v:Value} (hf:x.flat=true) (h:RepD m x v):RepD m' x v:=by
 cases h with
 | int k n=>exact .int k n
 | bool b=>exact .bool b
 | str s=>exact .str s
 | raw v h=>exact .raw v h
 | sl=>simp[D.flat] at hf
theorem HSpec.of_lend {f:FuncId} {vs:List V} {ars:List AV} {r:RV} {K:V→HS→Prop} (hs:PSpec P f ars r) (hl:LendVs h vs ars) (hflat:r.flat=true) (hk:K (r.toV h.ep 0) ((h.addFr 0 r.fr).next)):HSpec P f vs h K:=by
 refine⟨hs.1,fun Γ μ w vals hI hR=>?_⟩
 obtain⟨hlen,hget⟩:=hl.get
 have hargs:RepArgs (snap w) (snap w) ars vals:=⟨by rw[hR.1,hlen],fun i x hi=>by
  obtain⟨v,hv,hlv⟩:=hget i x hi
  obtain⟨u,hu,hr⟩:=hR.2 i v hv
  exact⟨u,hu,lendV_rep hI hlv hr⟩⟩
 refine (hs.2 w (snap w) (snap w) vals hI.glob (snap_cells w) (snap_cells w) hargs).mono ?_
 rintro en w' ⟨v,m',blk,rfl,hsub,hold,hcell,hb,hr,hfr⟩
 let m2:CM:=fun b o=>match μ.cell b o with
  | some v=>some v
  | none=>if w.heap.size≤b then m' b o else none
 have e2:∀ b o,m2 b o=match μ.cell b o with
  | some v=>some v
  | none=>if w.heap.size≤b then m' b o else none:=fun _ _=>rfl
 have hsub1:Sub μ.cell m2:=fun b o v hv=>by rw[e2,hv]
 have hsub2:Sub m2 m':=fun b o v hv=>by
  rw[e2] at hv
  cases hx:μ.cell b o with
  | some y=>rw[hx] at hv;injection hv with hv;subst hv;exact hsub _ _ _ (hI.cell _ _ _ hx)
  | none=>
    rw[hx] at hv
    simp only at hv
    split at hv
    ·exact hv
    ·cases hv
 have hnew:∀ b o,w.heap.size≤b→m2 b o=m' b o:=fun b o hb=>by
  rw[e2]
  cases hx:μ.cell b o with
  | some y=>have:=hI.cell.lt hx;omega
  | none=>simp only;rw[if_pos hb]
 have hold2:∀ b o u,b < w.heap.size→m2 b o=some u→μ.cell b o=some u:=fun b o u hb hu=>by
  rw[e2] at hu
  cases hx:μ.cell b o with
  | some y=>rw[hx] at hu;exact hu
  | none=>rw[hx] at hu;simp only at hu;rw[if_neg (by omega)] at hu;cases hu
 have hcell2:Cells m2 w':=fun b o v hv=>hcell _ _ _ (hsub2 _ _ _ hv)
 have hfr2:FreshOK m2 w w' blk r.fr:=⟨fun x hx=>by
  have h1:=hfr.1 x hx
  refine⟨h1.1,fun g hg=>?_⟩
  obtain⟨h2,T,cur,h3,h4,h5,h6,h7⟩:=h1.2 g hg
  exact⟨h2,T,cur,h3,h4,h5,h6,fun o ho=>by rw[hnew g o h2];exact h7 o ho⟩,hfr.2⟩
 have rc:∀ (c:RC) (u:Value),c.flat=true→(∀ x ∈ c.fr,x ∈ r.fr)→RepRC m' blk c u→RepRC m2 blk c u:=fun c u hf hin hc=>by
  cases c with
  | d x=>exact flat_rep hf hc
  | fresh j es xs=>
    obtain⟨h1,h2⟩:=hc
    refine⟨?_,h2⟩
    have hrow:=hfr.1 (j,es,xs.length) (hin _ (by simp[RC.fr]))
    generalize hv:u=uu at h1
    cases h1 with
    | sl xs ad cap es' b off f hl hc hes ha hcl hrep=>
      subst hv
      refine .sl xs ad cap es' b off f hl hc hes ha (fun i x hx j' d hd=>?_) (fun i x hx j' d hd=>flat_rep ?_ (hrep i x hx j' d hd))
      ·have hne:xs≠[]:=by rintro rfl;simp at hx
       have had:=ha hne
       rw[had] at h2
       simp only[hdr,Value.slice.injEq] at h2
       obtain⟨h3,_⟩:=h2
       cases hg:(blk j).1 with
       | none=>rw[hg] at h3;cases h3
       | some g=>
         rw[hg] at h3
         simp only[Option.map_some,Option.some.injEq,Addr.mk.injEq] at h3
         obtain⟨rfl,_⟩:=h3
         have:=(hrow.2 b hg).1
         rw[hnew b _ this]
         exact hcl i x hx j' d hd
      ·simp only[RC.flat] at hf
       have h4:=List.all_eq_true.1 hf x (List.mem_of_getElem? hx)
       exact List.all_eq_true.1 h4 d (List.mem_of_getElem? hd)
 have rv1:∀ (c:RV) (u:Value),RV1.flat c=true→(∀ x ∈ RV1.fr c,x ∈ r.fr)→RepRV1 m' blk c u→RepRV1 m2 blk c u:=fun c u hf hin hc=>by
  cases c with
  | one c=>exact rc c u hf hin hc
  | agg cs=>
    obtain⟨us,h1,h2,h3⟩:=hc
    refine⟨us,h1,h2,fun i c hi=>?_⟩
    obtain⟨u',h4,h5⟩:=h3 i c hi
    refine⟨u',h4,rc c u' (List.all_eq_true.1 hf c (List.mem_of_getElem? hi)) (fun x hx=>hin x ?_) h5⟩
    exact List.mem_flatMap.2 ⟨c,List.mem_of_getElem? hi,hx⟩
  | tup vs=>exact hc.elim
 have hr2:RepRV m2 blk r v:=by
  cases r with
  | tup rs=>
    obtain⟨us,h1,h2,h3⟩:=hr
    refine⟨us,h1,h2,fun i c hi=>?_⟩
    obtain⟨u',h4,h5⟩:=h3 i c hi
    refine⟨u',h4,rv1 c u' (List.all_eq_true.1 hflat c (List.mem_of_getElem? hi)) (fun x hx=>?_) h5⟩
    exact List.mem_flatMap.2 ⟨c,List.mem_of_getElem? hi,hx⟩
  | one c=>exact rv1 (.one c) v hflat (fun x hx=>hx) hr
  | agg cs=>exact rv1 (.agg cs) v hflat (fun x hx=>hx) hr
 have hle:Mem.Le μ (relab μ h.ep 0 m2 blk):=⟨hsub1,rfl,fun l x hl=>by
  have:=hI.lt l (by rw[hl];simp)
  simp only[relab]
  rw[if_neg (by omega)]
  exact hl⟩
 exact⟨v,_,_,relab μ h.ep 0 m2 blk,rfl,hk,hI.call 0 hsub1 hold2 hcell2 hb hfr2,RV_rep hr2 h.ep 0,hle⟩
end
end Go.Am
end
section
namespace Go.Am
open Go
class Hid (α:Type) where
 out:α
def optV {α:Type} (x:Option α) [k:Hid (α→Prop)]:Prop:=
 match x with
 | some v=>k.out v
 | none=>False
@[simp] theorem optV_some {α:Type} {v:α} {f:α→Prop}:optV (some v) (k:=⟨f⟩)=f v:=rfl
@[simp] theorem optV_none {α:Type} {k:Hid (α→Prop)}:optV none (k:=k)=False:=rfl
def ptrV (x:V) [k:Hid (Lab→Nat→Prop)]:Prop:=
 match x with
 | .one (.ptr l off)=>k.out l off
 | _=>False
@[simp] theorem ptrV_ptr {l:Lab} {off:Nat} {f:Lab→Nat→Prop}:ptrV (.one (.ptr l off)) (k:=⟨f⟩)=f l off:=rfl
def fnV (x:V) [k:Hid (FuncId→List Cap→Prop)]:Prop:=
 match x with
 | .one (.fn f caps)=>k.out f caps
 | _=>False
@[simp] theorem fnV_fn {g:FuncId} {caps:List Cap} {f:FuncId→List Cap→Prop}:fnV (.one (.fn g caps)) (k:=⟨f⟩)=f g caps:=rfl
def oneV (x:V) [k:Hid (C→Prop)]:Prop:=
 match x with
 | .one c=>k.out c
 | _=>False
@[simp] theorem oneV_one {c:C} {f:C→Prop}:oneV (.one c) (k:=⟨f⟩)=f c:=rfl
def condV (x:V) [p:Hid (Unit→Prop)] [q:Hid (Bool→Prop)]:Prop:=
 match x with
 | .one (.d (.bool t))=>(t=true→p.out ())∧(t=false→q.out true)
 | _=>False
@[simp] theorem condV_true {f:Unit→Prop} {q:Hid (Bool→Prop)}:condV (.one (.d (.bool true))) (p:=⟨f⟩) (q:=q)=f ():=by simp[condV]
@[simp] theorem condV_false {p:Hid (Unit→Prop)} {g:Bool→Prop}:condV (.one (.d (.bool false))) (p:=p) (q:=⟨g⟩)=g true:=by simp[condV]
theorem condV_of {t:Bool} {f:Unit→Prop} {g:Bool→Prop} (h1:t=true→f ()) (h2:t=false→g true):condV (.one (.d (.bool t))) (p:=⟨f⟩) (q:=⟨g⟩):=⟨h1,h2⟩
theorem condV_dec {a:Prop} [Decidable a] {f:Unit→Prop} {g:Bool→Prop} (h1:a→f ()) (h2:¬ a→g true):condV (.one (.d (.bool (decide a)))) (p:=⟨f⟩) (q:=⟨g⟩):=
 ⟨fun h=>h1 (of_decide_eq_true h),fun h=>h2 (of_decide_eq_false h)⟩
def guardV (x:V) (want:Bool) [p:Hid (Unit→Prop)] [q:Hid (Bool→Prop)]:Prop:=
 match x with
 | .one (.d (.bool b))=>(b=want→p.out ())∧(b≠want→q.out true)
 | .undef=>q.out true
 | _=>False
@[simp] theorem guardV_tt {f:Unit→Prop} {q:Hid (Bool→Prop)}:guardV (.one (.d (.bool true))) true (p:=⟨f⟩) (q:=q)=f ():=by simp[guardV]
@[simp] theorem guardV_ff {f:Unit→Prop} {q:Hid (Bool→Prop)}:guardV (.one (.d (.bool false))) false (p:=⟨f⟩) (q:=q)=f ():=by simp[guardV]
@[simp] theorem guardV_tf {p:Hid (Unit→Prop)} {g:Bool→Prop}:guardV (.one (.d (.bool true))) false (p:=p) (q:=⟨g⟩)=g true:=by simp[guardV]
@[simp] theorem guardV_ft {p:Hid (Unit→Prop)} {g:Bool→Prop}:guardV (.one (.d (.bool false))) true (p:=p) (q:=⟨g⟩)=g true:=by simp[guardV]
@[simp] theorem guardV_undef {want:Bool} {p:Hid (Unit→Prop)} {g:Bool→Prop}:guardV .undef want (p:=p) (q:=⟨g⟩)=g true:=rfl
def binK (P:Program) (op:BinOp) (t:TypeId) (x y:V) [k:Hid (V→Prop)]:Prop:=
 match x,y with
 | .agg cs,.agg cs'=>match toDs cs,toDs cs' with
   | some a,some b=>(isCmp op=true∧a.map kdOf=b.map kdOf∧Kd.other ∉ a.map kdOf∧EqT P t (a.map kdOf))∧k.out (dbool (if op=.neq then !(eqDs a b) else eqDs a b))
   | _,_=>False
 | u,v=>match binV (isBoolT P t) op u v with
   | some r=>k.out r
   | none=>False
@[simp] theorem binK_one {P:Program} {op:BinOp} {t:TypeId} {c c':C} {f:V→Prop}:binK P op t (.one c) (.one c') (k:=⟨f⟩)=optV (binV (isBoolT P t) op (.one c) (.one c')) (k:=⟨f⟩):=by
 unfold binK;dsimp only;split<;>simp_all [optV]
@[simp] theorem binK_agg {P:Program} {op:BinOp} {t:TypeId} {cs cs':List C} {f:V→Prop}:binK P op t (.agg cs) (.agg cs') (k:=⟨f⟩) =
  optV (toDs cs) (k:=⟨fun a=>optV (toDs cs') (k:=⟨fun b=>(isCmp op=true∧a.map kdOf=b.map kdOf∧Kd.other ∉ a.map kdOf∧EqT P t (a.map kdOf))∧f (dbool (if op=.neq then !(eqDs a b) else eqDs a b))⟩)⟩):=by
 simp only[binK]
 cases toDs cs<;>cases toDs cs'<;>rfl
def bldV (a:Option (List (List D))) (b:Option (List C)) [k:Hid (List (List D)→Prop)] [q:Hid (List C→Prop)]:Prop:=
 match a with
 | some xs=>k.out xs
 | none=>match b with
   | some cs=>q.out cs
   | none=>False
@[simp] theorem bldV_some {xs:List (List D)} {b:Option (List C)} {f:List (List D)→Prop} {q:Hid (List C→Prop)}:bldV (some xs) b (k:=⟨f⟩) (q:=q)=f xs:=rfl
@[simp] theorem bldV_none {cs:List C} {k:Hid (List (List D)→Prop)} {f:List C→Prop}:bldV none (some cs) (k:=k) (q:=⟨f⟩)=f cs:=rfl
def makV (x y:V) [k:Hid (Int→Int→Prop)]:Prop:=
 match x,y with
 | .one (.d (.int _ a)),.one (.d (.int _ b))=>k.out a b
 | _,_=>False
@[simp] theorem makV_int {i j:IntKind} {a b:Int} {f:Int→Int→Prop}:makV (.one (.d (.int i a))) (.one (.d (.int j b))) (k:=⟨f⟩)=f a b:=rfl
def binN (b:Bool) [p:Hid (Unit→Prop)] [q:Hid (Bool→Prop)]:Prop:=
 match b with
 | true=>p.out ()
 | false=>q.out true
@[simp] theorem binN_true {f:Unit→Prop} {q:Hid (Bool→Prop)}:binN true (p:=⟨f⟩) (q:=q)=f ():=rfl
@[simp] theorem binN_false {p:Hid (Unit→Prop)} {g:Bool→Prop}:binN false (p:=p) (q:=⟨g⟩)=g true:=rfl
def nilV (x:V) [k:Hid (C→Prop)]:Prop:=
 match x with
 | .one c=>k.out c
 | _=>False
def Wait (P:Program) [c:Hid Code] [Q:Hid (Exit→Env→HS→Prop)] (e:Env) (h:HS):Prop:=SWP P c.out Q.out e h
theorem Wait.of {P:Program} {c:Code} {Q:Exit→Env→HS→Prop} {e:Env} {h:HS} (hs:SWP P c Q e h):Wait P (c:=⟨c⟩) (Q:=⟨Q⟩) e h:=hs
theorem Wait.loop {P:Program} {c:Code} {Q:Exit→Env→HS→Prop} {e:Env} {h:HS} (I:Nat→Env→HS→Prop) (n:Nat) (h0:I n e h)
  (round:∀ n e h,I n e h→vc P c (thenQ (fun e' h'=>∃ n',n' < n∧I n' e' h') Q) e h):Wait P (c:=⟨.loop c⟩) (Q:=⟨Q⟩) e h:=SWP.loop I n h0 round
def Back [I:Hid (Nat→Env→HS→Prop)] (n:Nat) (e:Env) (h:HS):Prop:=∃ n',n' < n∧I.out n' e h
theorem Back.of {I:Nat→Env→HS→Prop} {n n':Nat} {e:Env} {h:HS} (hn:n' < n) (hI:I n' e h):Back (I:=⟨I⟩) n e h:=⟨n',hn,hI⟩
theorem Wait.rounds {P:Program} {c:Code} {Q:Exit→Env→HS→Prop} {e:Env} {h:HS} (I:Nat→Env→HS→Prop) (n:Nat) (h0:I n e h)
  (round:∀ n e h,I n e h→vc P c (thenQ (fun e' h'=>Back (I:=⟨I⟩) n e' h') Q) e h):Wait P (c:=⟨.loop c⟩) (Q:=⟨Q⟩) e h:=SWP.loop I n h0 round
def lenK (c:C) [k:Hid (Nat→Prop)]:Prop:=
 match c with
 | .mrow _ _ n _=>k.out n
 | c=>match c.list? with
   | some xs=>xs.length≤LIM→k.out xs.length
   | none=>False
@[simp] theorem lenK_mrow {l:Lab} {off n cap:Nat} {f:Nat→Prop}:lenK (.mrow l off n cap) (k:=⟨f⟩)=f n:=rfl
@[simp] theorem lenK_own {l:Lab} {xs:List (List D)} {f:Nat→Prop}:lenK (.own l xs) (k:=⟨f⟩)=(xs.length≤LIM→f xs.length):=rfl
@[simp] theorem lenK_sl {xs:List (List D)} {f:Nat→Prop}:lenK (.d (.sl xs)) (k:=⟨f⟩)=(xs.length≤LIM→f xs.length):=rfl
@[simp] theorem lenK_nil {f:Nat→Prop}:lenK .nil (k:=⟨f⟩)=f 0:=by simp[lenK,C.list?]
@[simp] theorem lenK_z {f:Nat→Prop}:lenK .z (k:=⟨f⟩)=f 0:=by simp[lenK,C.list?]
theorem lenK_of {c:C} {xs:List (List D)} {f:Nat→Prop} (hc:c.list?=some xs) (hk:xs.length≤LIM→f xs.length):lenK c (k:=⟨f⟩):=by
 unfold lenK
 split
 ·simp[C.list?] at hc
 ·rw[hc];exact hk
def C.str?:C→Option ByteArray
 | .d (.str s)=>some s
 | _=>none
@[simp] theorem str_d {s:ByteArray}:C.str? (.d (.str s))=some s:=rfl
section
variable {P:Program} {Q:Exit→Env→HS→Prop} {N:Env→HS→Prop} {K:Env→HS→Prop} {e:Env} {h:HS}
@[simp ↓] theorem vc_skip:vc P .skip Q e h=Q .normal e h:=rfl
@[simp ↓] theorem vc_region {id:Nat} {l:List Oper}:vc P (.region id l.toArray false) Q e h=vcOps P l l e h (Q .normal):=rfl
@[simp ↓] theorem vc_seq {a b:Code}:vc P (.seq a b) Q e h=vc P a (thenQ (fun e h=>vc P b Q e h) Q) e h:=rfl
@[simp ↓] theorem vc_cond {c:Operand} {a b:Code}:vc P (.cond c a b) Q e h=condV (e.ev c) (p:=⟨fun _=>vc P a Q e h⟩) (q:=⟨fun _=>vc P b Q e h⟩):=rfl
@[simp ↓] theorem vc_block {id:Nat} {c:Code}:vc P (.block id c) Q e h=vc P c (blockQ id Q) e h:=rfl
@[simp ↓] theorem vc_exit {id:Nat}:vc P (.exit id) Q e h=Q (.exit id) e h:=rfl
@[simp ↓] theorem vc_ret:vc P .ret Q e h=Q .ret e h:=rfl
@[simp ↓] theorem vc_loop {c:Code}:vc P (.loop c) Q e h=Wait P (c:=⟨.loop c⟩) (Q:=⟨Q⟩) e h:=rfl
@[simp ↓] theorem vc_draw {id:Nat} {l:Array Oper}:vc P (.region id l true) Q e h=Wait P (c:=⟨.region id l true⟩) (Q:=⟨Q⟩) e h:=rfl
@[simp ↓] theorem thenQ_normal:thenQ N Q .normal e h=N e h:=rfl
@[simp ↓] theorem thenQ_ret:thenQ N Q .ret e h=Q .ret e h:=rfl
@[simp ↓] theorem thenQ_exit {id:Nat}:thenQ N Q (.exit id) e h=Q (.exit id) e h:=rfl
@[simp ↓] theorem blockQ_normal {id:Nat}:blockQ id Q .normal e h=Q .normal e h:=rfl
@[simp ↓] theorem blockQ_ret {id:Nat}:blockQ id Q .ret e h=Q .ret e h:=rfl
@[simp ↓] theorem blockQ_exit_same {id:Nat}:blockQ id Q (.exit id) e h=Q .normal e h:=by simp[blockQ]
@[simp ↓] theorem blockQ_exit {id id':Nat} (hne:id'≠id):blockQ id Q (.exit id') e h=Q (.exit id') e h:=by simp[blockQ,hne]
@[simp ↓] theorem retQ_ret {rs:List ResultVar} {r:RV}:retQ P rs r .ret e h=retOK P rs r e h:=rfl
@[simp ↓] theorem retQ_normal {rs:List ResultVar} {r:RV}:retQ P rs r .normal e h=retOK P rs r e h:=rfl
@[simp ↓] theorem vcOps_nil {all:List Oper}:vcOps P all [] e h K=K e h:=rfl
@[simp ↓] theorem vcOps_plain {all:List Oper} {d:Option Nat} {op:Op} {t:TypeId} {p:String} {af:Array Edge} {os:List Oper}:vcOps P all ({ dst:=d,op:=op,type:=t,pos:=p,after:=af,guard:=none }::os) e h K =
  (dstOK { dst:=d,op:=op,type:=t,pos:=p,after:=af,guard:=none } e∧vcOp P { dst:=d,op:=op,type:=t,pos:=p,after:=af,guard:=none } e h fun e h=>vcOps P all os e h K):=rfl
@[simp ↓] theorem vcOps_guard {all:List Oper} {d:Option Nat} {op:Op} {t:TypeId} {p:String} {af:Array Edge} {j:Nat} {want:Bool} {os:List Oper}:vcOps P all ({ dst:=d,op:=op,type:=t,pos:=p,after:=af,guard:=some (j,want) }::os) e h K =
  (dstOK { dst:=d,op:=op,type:=t,pos:=p,after:=af,guard:=some (j,want) } e∧guardV (yieldedV all e j) want (p:=⟨fun _=>vcOp P { dst:=d,op:=op,type:=t,pos:=p,after:=af,guard:=some (j,want) } e h fun e h=>vcOps P all os e h K⟩) (q:=⟨fun _=>vcOps P all os (e.put d .undef) h K⟩)):=rfl
section
variable {d:Option Nat} {t:TypeId} {p:String} {af:Array Edge} {g:Option (Nat × Bool)}
@[simp] theorem dstOK_some {k:Nat} {op:Op}:dstOK { dst:=some k,op:=op,type:=t,pos:=p,after:=af,guard:=g } e=(k < e.n):=rfl
@[simp] theorem dstOK_none {op:Op}:dstOK { dst:=none,op:=op,type:=t,pos:=p,after:=af,guard:=g } e=True:=rfl
@[simp ↓] theorem vcOp_move {x:Operand}:vcOp P { dst:=d,op:=.move x,type:=t,pos:=p,after:=af,guard:=g } e h K=K (e.put d (e.ev x)) h:=rfl
@[simp ↓] theorem vcOp_assign {x:Operand}:vcOp P { dst:=d,op:=.assign x,type:=t,pos:=p,after:=af,guard:=g } e h K=K (e.put d (e.ev x)) h:=rfl
@[simp ↓] theorem vcOp_pick {c x y:Operand}:vcOp P { dst:=d,op:=.pick c x y,type:=t,pos:=p,after:=af,guard:=g } e h K=optV (eff P (.pick c x y) e h) (k:=⟨fun v=>K (e.put d v) h⟩):=by
 unfold vcOp;dsimp only;split<;>simp_all [optV]
@[simp ↓] theorem vcOp_unOp {op:UnOp} {ty:TypeId} {x:Operand}:vcOp P { dst:=d,op:=.unOp op ty x,type:=t,pos:=p,after:=af,guard:=g } e h K=optV (eff P (.unOp op ty x) e h) (k:=⟨fun v=>K (e.put d v) h⟩):=by
 unfold vcOp;dsimp only;split<;>simp_all [optV]
@[simp ↓] theorem vcOp_fieldAddr {ty f:Nat} {x:Operand}:vcOp P { dst:=d,op:=.fieldAddr ty x f,type:=t,pos:=p,after:=af,guard:=g } e h K=optV (eff P (.fieldAddr ty x f) e h) (k:=⟨fun v=>K (e.put d v) h⟩):=by
 unfold vcOp;dsimp only;split<;>simp_all [optV]
@[simp ↓] theorem vcOp_field {ty f:Nat} {x:Operand}:vcOp P { dst:=d,op:=.field ty x f,type:=t,pos:=p,after:=af,guard:=g } e h K=optV (eff P (.field ty x f) e h) (k:=⟨fun v=>K (e.put d v) h⟩):=by
 unfold vcOp;dsimp only;split<;>simp_all [optV]
@[simp ↓] theorem vcOp_load {ty:Nat} {x:Operand}:vcOp P { dst:=d,op:=.load ty x,type:=t,pos:=p,after:=af,guard:=g } e h K=optV (eff P (.load ty x) e h) (k:=⟨fun v=>K (e.put d v) h⟩):=by
 unfold vcOp;dsimp only;split<;>simp_all [optV]
@[simp ↓] theorem vcOp_indexAddr {ty:Nat} {x i:Operand}:vcOp P { dst:=d,op:=.indexAddr ty x i,type:=t,pos:=p,after:=af,guard:=g } e h K=optV (eff P (.indexAddr ty x i) e h) (k:=⟨fun v=>K (e.put d v) h⟩):=by
 unfold vcOp;dsimp only;split<;>simp_all [optV]
@[simp ↓] theorem vcOp_index {ty:Nat} {x i:Operand}:vcOp P { dst:=d,op:=.index ty x i,type:=t,pos:=p,after:=af,guard:=g } e h K=optV (eff P (.index ty x i) e h) (k:=⟨fun v=>K (e.put d v) h⟩):=by
 unfold vcOp;dsimp only;split<;>simp_all [optV]
@[simp ↓] theorem vcOp_slice {ty:Nat} {x:Operand} {lo hi mx:Option Operand}:vcOp P { dst:=d,op:=.slice ty x lo hi mx,type:=t,pos:=p,after:=af,guard:=g } e h K=optV (eff P (.slice ty x lo hi mx) e h) (k:=⟨fun v=>K (e.put d v) h⟩):=by
 unfold vcOp;dsimp only;split<;>simp_all [optV]
@[simp ↓] theorem vcOp_extract {i:Nat} {x:Operand}:vcOp P { dst:=d,op:=.extract x i,type:=t,pos:=p,after:=af,guard:=g } e h K=optV (eff P (.extract x i) e h) (k:=⟨fun v=>K (e.put d v) h⟩):=by
 unfold vcOp;dsimp only;split<;>simp_all [optV]
@[simp ↓] theorem vcOp_makeFunc {fn:Fn} {x y:Array Operand}:vcOp P { dst:=d,op:=.makeFunc fn x y,type:=t,pos:=p,after:=af,guard:=g } e h K=optV (eff P (.makeFunc fn x y) e h) (k:=⟨fun v=>K (e.put d v) h⟩):=by
 unfold vcOp;dsimp only;split<;>simp_all [optV]
@[simp ↓] theorem vcOp_nilCheck {x:Operand}:vcOp P { dst:=d,op:=.nilCheck x,type:=t,pos:=p,after:=af,guard:=g } e h K=optV (eff P (.nilCheck x) e h) (k:=⟨fun v=>K (e.put d v) h⟩):=by
 unfold vcOp;dsimp only;split<;>simp_all [optV]
@[simp ↓] theorem vcOp_convert {s u:TypeId} {x:Operand}:vcOp P { dst:=d,op:=.convert s u x,type:=t,pos:=p,after:=af,guard:=g } e h K=optV (eff P (.convert s u x) e h) (k:=⟨fun v=>K (e.put d v) h⟩):=by
 unfold vcOp;dsimp only;split<;>simp_all [optV]
@[simp ↓] theorem vcOp_store {ty:TypeId} {x y:Operand}:vcOp P { dst:=d,op:=.store ty x y,type:=t,pos:=p,after:=af,guard:=g } e h K=optV (ldT P ty) (k:=⟨fun z=>ptrV (e.ev x) (k:=⟨fun l off=>optV (h.box l) (k:=⟨fun cs=>
  ((e.ev y).cells.length=z.2∧0 < z.2∧off+z.2≤cs.length)∧K (e.put d .undef) (h.setBox l (setCells cs off (e.ev y).cells))⟩)⟩)⟩):=by
 simp only[vcOp,optV,ptrV]
 cases ldT P ty with
 | none=>rfl
 | some z=>
   dsimp only
   generalize e.ev x=X
   cases X with
   | one c=>cases c with
     | ptr l off=>dsimp only;cases h.box l<;>rfl
     | _=>rfl
   | _=>rfl
@[simp ↓] theorem vcOp_box {ty:TypeId} {x:Operand} {k:Nat}:vcOp P { dst:=some k,op:=.box ty x,type:=t,pos:=p,after:=af,guard:=g } e h K =
  ((e.ev x).cells≠[]∧K (e.put (some k) (.one (.ptr (h.ep,16 * k) 0))) ((h.setBox (h.ep,16 * k) (e.ev x).cells).next)):=rfl
@[simp ↓] theorem vcOp_alloc {ty:TypeId} {k:Nat}:vcOp P { dst:=some k,op:=.alloc ty,type:=t,pos:=p,after:=af,guard:=g } e h K=optV (zeT P ty) (k:=⟨fun cs=>K (e.put (some k) (.one (.ptr (h.ep,16 * k) 0))) ((h.setBox (h.ep,16 * k) cs).next)⟩):=by
 simp only[vcOp,optV]
 cases zeT P ty<;>rfl
@[simp ↓] theorem vcOp_build {ty:TypeId} {ps:List (Nat × Operand)}:vcOp P { dst:=d,op:=.build ty ps.toArray,type:=t,pos:=p,after:=af,guard:=g } e h K=optV (zeT P ty) (k:=⟨fun z=>optV (stT P ty) (k:=⟨fun pl=>optV (fillV pl e ps z) (k:=⟨fun cs=>K (e.put d (.agg cs)) h⟩)⟩)⟩):=by
 simp only[vcOp,optV]
 cases zeT P ty with
 | none=>rfl
 | some z=>cases stT P ty with
   | none=>rfl
   | some pl=>dsimp only;cases fillV pl e ps z<;>rfl
def emptyK (n:Nat) (d:Nat) (h:HS) [K:Hid (V→HS→Prop)]:Prop:=(0 < n∧n≤64)∧(K.out (.one (.own (h.ep,16 * d) [])) ((h.setArr (h.ep,16 * d) (some (0,n))).next)∨K.out (.one .z) h)
theorem emptyK_own {n d:Nat} {f:V→HS→Prop} (h0:0 < n∧n≤64) (hk:f (.one (.own (h.ep,16 * d) [])) ((h.setArr (h.ep,16 * d) (some (0,n))).next)):emptyK n d h (K:=⟨f⟩):=⟨h0,.inl hk⟩
theorem emptyK_z {n d:Nat} {f:V→HS→Prop} (h0:0 < n∧n≤64) (hk:f (.one .z) h):emptyK n d h (K:=⟨f⟩):=⟨h0,.inr hk⟩
theorem vcOp_empty' {ty:TypeId} {k:Nat}:vcOp P { dst:=some k,op:=.buildSlice ty 0 [].toArray,type:=t,pos:=p,after:=af,guard:=g } e h K=optV (elT P ty) (k:=⟨fun z=>emptyK z.2.1 k h (K:=⟨fun v h'=>K (e.put (some k) v) h'⟩)⟩):=by
 simp only[vcOp,optV]
 cases elT P ty with
 | none=>rfl
 | some z=>
   simp only[elemsV,emptyK,List.length_nil,true_and,Nat.zero_le]
   apply propext
   constructor
   ·rintro (⟨⟨h1,h2⟩,h3⟩ | ⟨⟨h1,h2⟩,h3⟩)
    ·exact⟨⟨h1,h2⟩,.inl h3⟩
    ·exact⟨⟨h1,h2⟩,.inr h3⟩
   ·rintro⟨⟨h1,h2⟩,h3 | h3⟩
    ·exact .inl ⟨⟨h1,h2⟩,h3⟩
    ·exact .inr ⟨⟨h1,h2⟩,h3⟩
@[simp ↓] theorem vcOp_empty {ty:TypeId} {k:Nat}:vcOp P { dst:=some k,op:=.buildSlice ty 0 #[],type:=t,pos:=p,after:=af,guard:=g } e h K=optV (elT P ty) (k:=⟨fun z=>emptyK z.2.1 k h (K:=⟨fun v h'=>K (e.put (some k) v) h'⟩)⟩):=vcOp_empty'
@[simp ↓] theorem vcOp_buildSlice {ty:TypeId} {len k:Nat} {q:Nat × Operand} {ps:List (Nat × Operand)}:vcOp P { dst:=some k,op:=.buildSlice ty len (q::ps).toArray,type:=t,pos:=p,after:=af,guard:=g } e h K=optV (elT P ty) (k:=⟨fun z=>bldV (elemsV e z.2.1 (q::ps) 0) (cellsV e z.2.1 (q::ps) 0)
  (k:=⟨fun xs=>(xs.length=len∧0 < z.2.1∧len≤64∧z.2.1≤64)∧K (e.put (some k) (.one (.own (h.ep,16 * k) xs))) ((h.setArr (h.ep,16 * k) (some (len,z.2.1))).next)⟩)
  (q:=⟨fun cs=>((q::ps).length=len∧0 < z.2.1∧len≤64∧z.2.1≤64)∧K (e.put (some k) (.one (.mrow (h.ep,16 * k) 0 len len))) ((h.setBox (h.ep,16 * k) cs).next)⟩)⟩):=by
 simp only[vcOp,optV,bldV]
 cases elT P ty with
 | none=>rfl
 | some z=>
   dsimp only
   cases elemsV e z.2.1 (q::ps) 0 with
   | some xs=>simp[dstN]
   | none=>cases cellsV e z.2.1 (q::ps) 0<;>rfl
@[simp ↓] theorem vcOp_make {ty:TypeId} {x y:Operand} {k:Nat}:vcOp P { dst:=some k,op:=.makeSlice ty x y,type:=t,pos:=p,after:=af,guard:=g } e h K=optV (elT P ty) (k:=⟨fun z=>optV (zeT P z.1) (k:=⟨fun zc=>makV (e.ev x) (e.ev y) (k:=⟨fun a b=>
  (0≤a∧a≤b∧b≤LIM∧z.2.2≤4096∧0 < z.2.1∧z.2.1≤8)∧K (e.put (some k) (.one (.mrow (h.ep,16 * k) 0 a.toNat b.toNat))) ((h.setBox (h.ep,16 * k) (List.replicate b.toNat zc).flatten).next)⟩)⟩)⟩):=by
 simp only[vcOp,vcMake,optV,makV]
 cases elT P ty with
 | none=>rfl
 | some z=>
   obtain⟨el,n,b⟩:=z
   dsimp only
   cases zeT P el with
   | none=>rfl
   | some zc=>
     dsimp only
     generalize e.ev x=X
     generalize e.ev y=Y
     cases X with
     | one c=>cases c with
       | d u=>cases u with
         | int k a=>cases Y with
           | one c=>cases c with
             | d u=>cases u<;>rfl
             | _=>rfl
           | _=>rfl
         | _=>rfl
       | _=>rfl
     | _=>rfl
@[simp ↓] theorem vcOp_binOp {op:BinOp} {ty ty':TypeId} {x y:Operand}:vcOp P { dst:=d,op:=.binOp op ty x y ty',type:=t,pos:=p,after:=af,guard:=g } e h K =
  binN (isNilConst y) (p:=⟨fun _=>nilV (e.ev x) (k:=⟨fun c=>vcNil P op ty c (fun v=>K (e.put d v) h)⟩)⟩) (q:=⟨fun _=>binK P op ty (e.ev x) (e.ev y) (k:=⟨fun v=>K (e.put d v) h⟩)⟩):=by
 simp only[vcOp,binK,binN,nilV]
 cases hn:isNilConst y with
 | true=>simp only[if_true,vcNilV];cases e.ev x<;>rfl
 | false=>
   simp only[Bool.false_eq_true,if_false]
   generalize e.ev x=X
   generalize e.ev y=Y
   cases X<;>cases Y<;>rfl
def nilK (P:Program) (op:BinOp) (ty:TypeId) (c:C) [K:Hid (V→Prop)]:Prop:=vcNil P op ty c K.out
def capK (P:Program) (ty:TypeId) (c:C) [K:Hid (V→Prop)]:Prop:=vcCap P ty c K.out
@[simp ↓] theorem vcOp_cap {x:Operand} {ty:TypeId}:vcOp P { dst:=d,op:=.call { callee:=.builtin .cap,args:=[x].toArray,argTypes:=[ty].toArray },type:=t,pos:=p,after:=af,guard:=g } e h K =
  oneV (e.ev x) (k:=⟨fun c=>capK P ty c (K:=⟨fun v=>K (e.put d v) h⟩)⟩):=by
 simp only[vcOp,oneV,List.map_cons,List.map_nil,capK]
 cases e.ev x<;>rfl
theorem slice_of_el {ty el n b:Nat} (h:elT P ty=some (el,n,b)):∃ el,P.underlying ty=some (.slice el):=by
 obtain⟨i,z,hu,_⟩:=elT_some h
 exact⟨_,hu⟩
@[simp] theorem nilV_one {op:BinOp} {ty:TypeId} {c:C} {f:V→Prop}:nilV (.one c) (k:=⟨fun c=>vcNil P op ty c f⟩)=nilK P op ty c (K:=⟨f⟩):=rfl
theorem nilK_list {op:BinOp} {ty:TypeId} {z:TypeId × Nat × Nat} {c:C} {f:V→Prop} (hel:elT P ty=some z) (hop:isCmp op=true) {xs:List (List D)} (hc:c.list?=some xs) (hk:∀ b:Bool,(xs≠[]→b=false)→f (dbool (if op=.neq then !b else b))):nilK P op ty c (K:=⟨f⟩):=by
 refine⟨⟨hop,slice_of_el hel⟩,?_⟩
 split
 ·simp[C.list?] at hc
  have:=hk true (fun h=>by subst hc;exact absurd rfl h)
  simpa using this
 ·simp[C.list?] at hc
 ·rw[hc];exact hk
theorem nilK_mrow {op:BinOp} {ty:TypeId} {z:TypeId × Nat × Nat} {l:Lab} {off n cap:Nat} {f:V→Prop} (hel:elT P ty=some z) (hop:isCmp op=true) (hk:f (dbool (if op=.neq then true else false))):nilK P op ty (.mrow l off n cap) (K:=⟨f⟩):=⟨⟨hop,slice_of_el hel⟩,hk⟩
theorem capK_nil {ty:TypeId} {z:TypeId × Nat × Nat} {f:V→Prop} (hel:elT P ty=some z) (hk:f (dint .i64 0)):capK P ty .nil (K:=⟨f⟩):=⟨slice_of_el hel,hk⟩
theorem capK_mrow {ty:TypeId} {z:TypeId × Nat × Nat} {l:Lab} {off n cap:Nat} {f:V→Prop} (hel:elT P ty=some z) (hk:f (dint .i64 cap)):capK P ty (.mrow l off n cap) (K:=⟨f⟩):=⟨slice_of_el hel,hk⟩
def callK (P:Program) (f:FuncId) (caps:List Cap) (vs:List V) (d:Nat) (e:Env) (h:HS) [K:Hid (Env→HS→Prop)]:Prop:=
 (∃ ars cs,toAs h vs=some ars∧capsA h caps=some cs∧∃ r,PSpec P f (ars++capsOf cs) r∧K.out (e.put (some d) (r.toV h.ep d)) ((h.addFr d r.fr).next)) ∨
 HSpec P f (vs++caps.map capV) h (fun v h'=>K.out (e.put (some d) v) h') ∨
 ∃ v,XSpec P f (vs++caps.map capV) h v∧K.out (e.put (some d) v) h
theorem callK_x {f:FuncId} {vs:List V} {d:Nat} {v:V} (hx:XSpec P f vs h v) (hk:K (e.put (some d) v) h):callK P f [] vs d e h (K:=⟨K⟩):=.inr (.inr ⟨v,by simpa using hx,hk⟩)
theorem callK_of {f:FuncId} {caps:List Cap} {vs:List V} {av:List AV} {cs:List (List D)} {d:Nat} {r:RV} (has:toAs h vs=some av) (hcs:capsA h caps=some cs) (hs:PSpec P f (av++capsOf cs) r)
  (hk:K (e.put (some d) (r.toV h.ep d)) ((h.addFr d r.fr).next)):callK P f caps vs d e h (K:=⟨K⟩):=.inl ⟨av,cs,has,hcs,r,hs,hk⟩
theorem callK_fn {f:FuncId} {vs:List V} {av:List AV} {d:Nat} {r:RV} (hs:PSpec P f av r) (has:toAs h vs=some av)
  (hk:K (e.put (some d) (r.toV h.ep d)) ((h.addFr d r.fr).next)):callK P f [] vs d e h (K:=⟨K⟩):=.inl ⟨av,[],has,rfl,r,by simpa[capsOf] using hs,hk⟩
theorem callK_heap {f:FuncId} {caps:List Cap} {vs:List V} {d:Nat} (hs:HSpec P f (vs++caps.map capV) h (fun v h'=>K (e.put (some d) v) h')):callK P f caps vs d e h (K:=⟨K⟩):=.inr (.inl hs)
@[simp ↓] theorem vcOp_call {f:Operand} {args:List Operand} {ts:Array TypeId} {k:Nat}:vcOp P { dst:=some k,op:=.call { callee:=.value f,args:=args.toArray,argTypes:=ts },type:=t,pos:=p,after:=af,guard:=g } e h K =
  fnV (e.ev f) (k:=⟨fun fn caps=>callK P fn caps (args.map e.ev) k e h (K:=⟨K⟩)⟩):=by
 simp only[vcOp,fnV,callK]
 generalize e.ev f=X
 cases X with
 | one c=>cases c<;>rfl
 | _=>rfl
@[simp ↓] theorem vcOp_len {x:Operand} {ty:TypeId}:vcOp P { dst:=d,op:=.call { callee:=.builtin .len,args:=[x].toArray,argTypes:=[ty].toArray },type:=t,pos:=p,after:=af,guard:=g } e h K =
  optV (lenT P ty) (k:=⟨fun s=>oneV (e.ev x) (k:=⟨fun c=>match s with
   | true=>optV c.str? (k:=⟨fun s=>K (e.put d (dint .i64 s.size)) h⟩)
   | false=>lenK c (k:=⟨fun n=>K (e.put d (dint .i64 n)) h⟩)⟩)⟩):=by
 simp only[vcOp,optV,oneV,List.map_cons,List.map_nil]
 cases hl:lenT P ty with
 | none=>cases e.ev x<;>simp[vcLen,hl]
 | some s=>
   cases e.ev x with
   | one c=>cases s with
     | true=>
       simp only[vcLen,hl]
       cases c with
       | d x=>cases x<;>rfl
       | _=>rfl
     | false=>
       simp only[vcLen,hl]
       cases c with
       | mrow l off n cap=>rfl
       | d x=>cases x<;>rfl
       | _=>rfl
   | _=>rfl
@[simp ↓] theorem vcOp_max {x y:Operand} {ts:Array TypeId}:vcOp P { dst:=d,op:=.call { callee:=.builtin .max,args:=[x,y].toArray,argTypes:=ts },type:=t,pos:=p,after:=af,guard:=g } e h K =
  optV (eff P (.call { callee:=.builtin .max,args:=[x,y].toArray,argTypes:=ts }) e h) (k:=⟨fun v=>K (e.put d v) h⟩):=by
 unfold vcOp;dsimp only;split<;>simp_all [optV]
@[simp ↓] theorem vcOp_min {x y:Operand} {ts:Array TypeId}:vcOp P { dst:=d,op:=.call { callee:=.builtin .min,args:=[x,y].toArray,argTypes:=ts },type:=t,pos:=p,after:=af,guard:=g } e h K =
  optV (eff P (.call { callee:=.builtin .min,args:=[x,y].toArray,argTypes:=ts }) e h) (k:=⟨fun v=>K (e.put d v) h⟩):=by
 unfold vcOp;dsimp only;split<;>simp_all [optV]
def appK (P:Program) (ty:TypeId) (c x:C) (d:Nat) (h:HS) [K:Hid (V→HS→Prop)]:Prop:=vcAppend P ty c x d h K.out∨vcAppendM P ty c x d h K.out
def copyK (P:Program) (ty:TypeId) (c x:C) (h:HS) [K:Hid (V→HS→Prop)]:Prop:=vcCopy P ty c x 0 h K.out
def clearK (P:Program) (ty:TypeId) (c:C) (h:HS) [K:Hid (V→HS→Prop)]:Prop:=vcClear P ty c 0 h K.out
def Grows (h:HS) (es:Nat) (c:C) (xs:List (List D)):Prop:=((c=.nil∧xs=[])∨∃ l,c=.own l xs∧h.arr l=some (xs.length,es)∧l.1 < h.ep)∧∀ y ∈ xs,y.length=es
theorem Grows.nil {h:HS} {es:Nat}:Grows h es .nil []:=⟨.inl ⟨rfl,rfl⟩,by simp⟩
theorem Grows.own {h:HS} {es:Nat} {l:Lab} {xs:List (List D)} (ha:h.arr l=some (xs.length,es)) (hl:l.1 < h.ep) (hy:∀ y ∈ xs,y.length=es):Grows h es (.own l xs) xs:=⟨.inr ⟨l,rfl,ha,hl⟩,hy⟩
theorem Grows.next {h:HS} {es:Nat} {c:C} {xs:List (List D)} (g:Grows h es c xs):Grows h.next es c xs:=by
 refine⟨?_,g.2⟩
 rcases g.1 with h1 | ⟨l,h1,h2,h3⟩
 ·exact .inl h1
 ·exact .inr ⟨l,h1,h2,Nat.lt_succ_of_lt h3⟩
theorem Grows.setBox {h:HS} {es:Nat} {c:C} {xs:List (List D)} {k:Lab} {cs:List C} (g:Grows h es c xs):Grows (h.setBox k cs) es c xs:=g
theorem Grows.setArr {h:HS} {es:Nat} {c:C} {xs:List (List D)} {k:Lab} {x:Option (Nat × Nat)} (g:Grows h es c xs) (hk:h.ep≤k.1):Grows (h.setArr k x) es c xs:=by
 refine⟨?_,g.2⟩
 rcases g.1 with h1 | ⟨l,h1,h2,h3⟩
 ·exact .inl h1
 ·refine .inr ⟨l,h1,?_,h3⟩
  have:l≠k:=fun he=>by rw[he] at h3;omega
  simp only[HS.setArr,this,if_false,h2]
theorem Grows.list {h:HS} {es:Nat} {c:C} {xs:List (List D)} (g:Grows h es c xs):c.list?=some xs:=by
 rcases g.1 with ⟨h1,h2⟩ | ⟨l,h1,h2,h3⟩
 ·rw[h1,h2];rfl
 ·rw[h1];rfl
theorem Grows.toD {h:HS} {es:Nat} {c:C} {xs:List (List D)} (g:Grows h es c xs):c.toD=some (.sl xs):=by
 rcases g.1 with ⟨h1,h2⟩ | ⟨l,h1,h2,h3⟩
 ·rw[h1,h2];rfl
 ·rw[h1];rfl
theorem Grows.toA {h:HS} {es:Nat} {c:C} {xs:List (List D)} (g:Grows h es c xs) (h':HS):c.toA h'=some (.d (.sl xs)):=by
 rcases g.1 with ⟨h1,h2⟩ | ⟨l,h1,h2,h3⟩
 ·rw[h1,h2];rfl
 ·rw[h1];rfl
theorem Grows.can {h:HS} {es:Nat} {c:C} {xs:List (List D)} (g:Grows h es c xs):canApp h es c=true:=by
 rcases g.1 with ⟨h1,h2⟩ | ⟨l,h1,h2,h3⟩
 ·rw[h1];rfl
 ·rw[h1];simp[canApp,h2]
theorem appK_of {ty el:TypeId} {es by_ d:Nat} {c x:C} {K:V→HS→Prop} {xs ys:List (List D)} (hel:elT P ty=some (el,es,by_)) (hc:Grows h es c xs) (hx:x.list?=some ys) (h0:0 < es) (hb:by_≤4096) (hy:∀ y ∈ ys,y.length=es) (hl:xs.length+ys.length≤LIM)
  (hk:K (.one (.own (h.ep,16 * d) (xs++ys))) (((c.useUp h).setArr (h.ep,16 * d) (some ((xs++ys).length,es))).next)):appK P ty c x d h (K:=⟨K⟩):=by
 refine .inl ?_
 unfold vcAppend
 rw[hel]
 simp only
 rw[hc.list,hx]
 simp only
 rw[List.length_append] at hk
 exact⟨⟨hc.can,h0,hb,hc.2,hy,hl⟩,hk⟩
theorem appK_row {ty el:TypeId} {n by_ d k cap m:Nat} {s x:C} {K:V→HS→Prop} {old new:List C} {pl:Option (Lab × Nat)} (hel:elT P ty=some (el,n,by_)) (hs:appHdr h n s=some (k,cap,old,pl)) (hx:rowCells h n x=some new) (hm:cLen x=some m)
  (hz:(zeT P el).isSome=true) (h0:0 < n) (hb:by_≤4096) (hl:k+m≤LIM) (hnew:new.length=m * n) (hold:old.length=k * n)
  (hk0:m=0→K (.one s) h)
  (hk1:0 < m→k+m≤cap→∀ l off,pl=some (l,off)→∃ cs,h.box l=some cs∧off+(k+m) * n≤cs.length∧K (.one (.mrow l off (k+m) cap)) (h.setBox l (setCells cs (off+k * n) new)))
  (hk2:0 < m→cap < k+m→∀ cap',k+m≤cap'→K (.one (.mrow (h.ep,16 * d) 0 (k+m) cap')) ((h.setBox (h.ep,16 * d) (old++new++List.replicate ((cap' - (k+m)) * n) .any)).next)):appK P ty s x d h (K:=⟨K⟩):=by
 refine .inr ?_
 unfold vcAppendM
 rw[hel]
 simp only
 rw[hs,hx,hm]
 exact⟨⟨hz,h0,hb,hl,hnew,hold⟩,hk0,hk1,hk2⟩
theorem Grows.app {h:HS} {es:Nat} {l:Lab} {xs:List (List D)} (hl:l.1=h.ep) (hy:∀ y ∈ xs,y.length=es):Grows ((h.setArr l (some (xs.length,es))).next) es (.own l xs) xs:=
 Grows.own (by simp[HS.setArr,HS.next]) (by show l.1 < h.ep+1;omega) hy
@[simp ↓] theorem vcOp_append {x y:Operand} {ty:TypeId} {k:Nat}:vcOp P { dst:=some k,op:=.call { callee:=.builtin .append,args:=[x,y].toArray,argTypes:=[ty,ty].toArray },type:=t,pos:=p,after:=af,guard:=g } e h K =
  oneV (e.ev x) (k:=⟨fun c=>oneV (e.ev y) (k:=⟨fun c'=>appK P ty c c' k h (K:=⟨fun v h'=>K (e.put (some k) v) h'⟩)⟩)⟩):=by
 simp only[vcOp,oneV,List.map_cons,List.map_nil,appK]
 cases e.ev x with
 | one c=>
   cases e.ev y with
   | one c'=>
     simp only[true_or,true_and]
     exact propext ⟨fun h=>h.elim id fun h=>absurd rfl h.1.1,.inl⟩
   | _=>rfl
 | _=>rfl
def zerosK (P:Program) (ty ty':TypeId) (c x:C) (d:Nat) (h:HS) [K:Hid (V→HS→Prop)]:Prop:=(slT P ty'=true∧(vcAppend P ty c x d h K.out∨vcAppendM P ty c x d h K.out))∨vcAppendN P ty ty' c x d h K.out
theorem zerosK_app {ty ty':TypeId} {c x:C} {d:Nat} {K:V→HS→Prop} (hs:slT P ty'=true) (hk:appK P ty c x d h (K:=⟨K⟩)):zerosK P ty ty' c x d h (K:=⟨K⟩):=.inl ⟨hs,hk⟩
@[simp ↓] theorem vcOp_appendN {x y:Operand} {ty ty':TypeId} {k:Nat} (hne:ty≠ty'):vcOp P { dst:=some k,op:=.call { callee:=.builtin .append,args:=[x,y].toArray,argTypes:=[ty,ty'].toArray },type:=t,pos:=p,after:=af,guard:=g } e h K =
  oneV (e.ev x) (k:=⟨fun c=>oneV (e.ev y) (k:=⟨fun c'=>zerosK P ty ty' c c' k h (K:=⟨fun v h'=>K (e.put (some k) v) h'⟩)⟩)⟩):=by
 simp only[vcOp,oneV,List.map_cons,List.map_nil,zerosK]
 cases e.ev x with
 | one c=>
   cases e.ev y with
   | one c'=>simp only[hne,false_or];rfl
   | _=>rfl
 | _=>rfl
theorem zerosK_mr {ty ty' el:TypeId} {n by_ d k cap off:Nat} {l:Lab} {m:Int} {kk ki:IntKind} {old:List C} {K:V→HS→Prop} (hel:elT P ty=some (el,n,by_)) (hne:ty≠ty') (hu:P.underlying ty'=some (.int kk)) (hz:(zeT P el).isSome=true) (h0:0 < n) (hb:by_≤4096) (h1:0 < m) (h2:k+m≤LIM) (hc:cap < k+m.toNat)
  (ho:rowCells h n (.mrow l off k cap)=some old) (hol:old.length=k * n)
  (hk:∀ cap',k+m.toNat≤cap'→K (.one (.mrow (h.ep,16 * d) 0 (k+m.toNat) cap')) ((h.setBox (h.ep,16 * d) (old++List.replicate ((cap' - k) * n) .any)).next)):zerosK P ty ty' (.mrow l off k cap) (.d (.int ki m)) d h (K:=⟨K⟩):=by
 refine .inr ⟨⟨hne,_,hu⟩,?_⟩
 rw[hel]
 simp only[ho]
 exact⟨⟨hz,h0,hb,h1,h2,hc,hol⟩,hk⟩
theorem zerosK_of {ty ty' el:TypeId} {n by_ d:Nat} {m:Int} {k kk:IntKind} {K:V→HS→Prop} (hel:elT P ty=some (el,n,by_)) (hne:ty≠ty') (hu:P.underlying ty'=some (.int kk)) (hz:(zeT P el).isSome=true) (h0:0 < n) (hb:by_≤4096) (h1:0 < m) (h2:m≤LIM)
  (hk:∀ cap',m.toNat≤cap'→K (.one (.mrow (h.ep,16 * d) 0 m.toNat cap')) ((h.setBox (h.ep,16 * d) (List.replicate (cap' * n) .any)).next)):zerosK P ty ty' .nil (.d (.int k m)) d h (K:=⟨K⟩):=by
 refine .inr ⟨⟨hne,_,hu⟩,?_⟩
 rw[hel]
 exact⟨⟨hz,h0,hb,h1,h2⟩,hk⟩
@[simp ↓] theorem vcOp_copy {x y:Operand} {ty:TypeId}:vcOp P { dst:=d,op:=.call { callee:=.builtin .copy,args:=[x,y].toArray,argTypes:=[ty,ty].toArray },type:=t,pos:=p,after:=af,guard:=g } e h K =
  oneV (e.ev x) (k:=⟨fun c=>oneV (e.ev y) (k:=⟨fun c'=>copyK P ty c c' h (K:=⟨fun v h'=>K (e.put d v) h'⟩)⟩)⟩):=by
 simp only[vcOp,oneV,List.map_cons,List.map_nil,copyK]
 cases e.ev x with
 | one c=>
   cases e.ev y with
   | one c'=>simp only[true_or,true_and];rfl
   | _=>rfl
 | _=>rfl
def copyK2 (P:Program) (ty ty':TypeId) (c x:C) (h:HS) [K:Hid (V→HS→Prop)]:Prop:=slT P ty'=true∧vcCopy P ty c x 0 h K.out
theorem copyK2_of {ty ty':TypeId} {c x:C} {K:V→HS→Prop} (hs:slT P ty'=true) (hk:copyK P ty c x h (K:=⟨K⟩)):copyK2 P ty ty' c x h (K:=⟨K⟩):=⟨hs,hk⟩
@[simp ↓] theorem vcOp_copy2 {x y:Operand} {ty ty':TypeId} (hne:ty≠ty'):vcOp P { dst:=d,op:=.call { callee:=.builtin .copy,args:=[x,y].toArray,argTypes:=[ty,ty'].toArray },type:=t,pos:=p,after:=af,guard:=g } e h K =
  oneV (e.ev x) (k:=⟨fun c=>oneV (e.ev y) (k:=⟨fun c'=>copyK2 P ty ty' c c' h (K:=⟨fun v h'=>K (e.put d v) h'⟩)⟩)⟩):=by
 simp only[vcOp,oneV,List.map_cons,List.map_nil,copyK2]
 cases e.ev x with
 | one c=>
   cases e.ev y with
   | one c'=>simp only[hne,false_or];rfl
   | _=>rfl
 | _=>rfl
@[simp ↓] theorem vcOp_clear {x:Operand} {ty:TypeId}:vcOp P { dst:=d,op:=.call { callee:=.builtin .clear,args:=[x].toArray,argTypes:=[ty].toArray },type:=t,pos:=p,after:=af,guard:=g } e h K =
  oneV (e.ev x) (k:=⟨fun c=>clearK P ty c h (K:=⟨fun v h'=>K (e.put d v) h'⟩)⟩):=by
 simp only[vcOp,oneV,List.map_cons,List.map_nil,clearK]
 cases e.ev x<;>rfl
end
end
@[simp] theorem put_get {e:Env} {d k:Nat} {v:V}:(e.put (some d) v).get k=if k=d then v else e.get k:=rfl
@[simp] theorem put_none {e:Env} {v:V}:e.put none v=e:=rfl
@[simp] theorem put_n {e:Env} {d:Option Nat} {v:V}:(e.put d v).n=e.n:=by cases d<;>rfl
@[simp] theorem env0_n {n:Nat} {ars:List AV}:(env0 n ars).n=n:=rfl
@[simp] theorem env0_get {n k:Nat} {ars:List AV}:(env0 n ars).get k=(ars[k]?.map AV.toV).getD .undef:=by
 simp only[env0]
 cases ars[k]?<;>rfl
@[simp] theorem setBox_box {h:HS} {l k:Lab} {cs:List C}:(h.setBox l cs).box k=if k=l then some cs else h.box k:=rfl
@[simp] theorem setBox_arr {h:HS} {l k:Lab} {cs:List C}:(h.setBox l cs).arr k=h.arr k:=rfl
@[simp] theorem setBox_ep {h:HS} {l:Lab} {cs:List C}:(h.setBox l cs).ep=h.ep:=by cases h;exact id rfl
@[simp] theorem setArr_arr {h:HS} {l k:Lab} {x:Option (Nat × Nat)}:(h.setArr l x).arr k=if k=l then x else h.arr k:=rfl
@[simp] theorem setArr_box {h:HS} {l k:Lab} {x:Option (Nat × Nat)}:(h.setArr l x).box k=h.box k:=rfl
@[simp] theorem setArr_ep {h:HS} {l:Lab} {x:Option (Nat × Nat)}:(h.setArr l x).ep=h.ep:=by cases h;exact id rfl
@[simp] theorem next_box {h:HS} {k:Lab}:h.next.box k=h.box k:=rfl
@[simp] theorem next_arr {h:HS} {k:Lab}:h.next.arr k=h.arr k:=rfl
@[simp] theorem next_ep {h:HS}:h.next.ep=h.ep+1:=by cases h;exact id rfl
@[simp] theorem init_box {k:Lab}:HS.init.box k=none:=rfl
@[simp] theorem init_arr {k:Lab}:HS.init.arr k=none:=rfl
@[simp] theorem init_ep:HS.init.ep=0:=rfl
@[simp] theorem ev_tmp {e:Env} {t:Nat}:e.ev (.tmp t)=e.get t:=rfl
@[simp] theorem ev_func {e:Env} {f:Nat}:e.ev (.func f)=.one (.fn f []):=rfl
@[simp] theorem ev_int {e:Env} {k:IntKind} {n:Int}:e.ev (.const (.int k n))=dint k n:=rfl
@[simp] theorem ev_bool {e:Env} {b:Bool}:e.ev (.const (.bool b))=dbool b:=rfl
@[simp] theorem ev_str {e:Env} {s:ByteArray}:e.ev (.const (.string s))=dstr s:=rfl
@[simp] theorem ev_nil {e:Env}:e.ev (.const (.slice none 0 0))=.one .nil:=rfl
@[simp] theorem ev_agg {e:Env} {cs:Array Value}:e.ev (.const (.agg cs))=if cs.all Value.oneCell' then .agg (cs.toList.map constC) else .top:=rfl
@[simp] theorem toV_d {x:D}:AV.toV (.one (.d x))=.one (.d x):=rfl
@[simp] theorem toV_rp {x:List D}:AV.toV (.one (.rp x))=.one (.rp x):=rfl
@[simp] theorem toV_fn {f:FuncId} {x:List (List D)}:AV.toV (.one (.fn f x))=.one (.fn f (x.map Cap.rp)):=rfl
@[simp] theorem toV_agg {x:List D}:AV.toV (.agg x)=.agg (x.map C.d):=rfl
@[simp] theorem useUp_own {h:HS} {l:Lab} {xs:List (List D)}:C.useUp h (.own l xs)=h.setArr l none:=rfl
@[simp] theorem useUp_nil {h:HS}:C.useUp h .nil=h:=rfl
@[simp] theorem list_own {l:Lab} {xs:List (List D)}:C.list? (.own l xs)=some xs:=rfl
@[simp] theorem list_nil:C.list? .nil=some []:=rfl
@[simp] theorem list_z:C.list? .z=some []:=rfl
@[simp] theorem toD_z:C.toD .z=some (.sl []):=rfl
@[simp] theorem list_sl {xs:List (List D)}:C.list? (.d (.sl xs))=some xs:=rfl
@[simp] theorem toD_own {l:Lab} {xs:List (List D)}:C.toD (.own l xs)=some (.sl xs):=rfl
@[simp] theorem toD_nil:C.toD .nil=some (.sl []):=rfl
@[simp] theorem toD_d {x:D}:C.toD (.d x)=some x:=rfl
@[simp] theorem toD_mrow {l:Lab} {off n cap:Nat}:C.toD (.mrow l off n cap)=none:=rfl
@[simp] theorem toDs_nil:toDs []=some []:=rfl
@[simp] theorem toDs_map {xs:List D}:toDs (xs.map C.d)=some xs:=by
 induction xs with
 | nil=>rfl
 | cons x xs ih=>simp[toDs,ih]
@[simp] theorem notNil_tmp {t:Nat}:isNilConst (.tmp t)=false:=rfl
@[simp] theorem notNil_func {t:Nat}:isNilConst (.func t)=false:=rfl
@[simp] theorem notNil_int {k:IntKind} {n:Int}:isNilConst (.const (.int k n))=false:=rfl
@[simp] theorem notNil_bool {b:Bool}:isNilConst (.const (.bool b))=false:=rfl
@[simp] theorem notNil_str {s:ByteArray}:isNilConst (.const (.string s))=false:=rfl
@[simp] theorem notNil_agg {s:Array Value}:isNilConst (.const (.agg s))=false:=rfl
@[simp] theorem notNil_nil:isNilConst (.const (.slice none 0 0))=true:=rfl
@[simp] theorem toA_d {h:HS} {x:D}:C.toA h (.d x)=some (.d x):=rfl
@[simp] theorem toA_own {h:HS} {l:Lab} {xs:List (List D)}:C.toA h (.own l xs)=some (.d (.sl xs)):=rfl
@[simp] theorem toA_nil {h:HS}:C.toA h .nil=some (.d (.sl [])):=rfl
@[simp] theorem toA_z {h:HS}:C.toA h .z=some (.d (.sl [])):=rfl
@[simp] theorem toA_mrow {h:HS} {l:Lab} {off n cap:Nat}:C.toA h (.mrow l off n cap)=none:=rfl
@[simp] theorem toA_any {h:HS}:C.toA h .any=none:=rfl
@[simp] theorem toA_ptr {h:HS} {l:Lab}:C.toA h (.ptr l 0)=match h.box l with
  | some cs=>(toDs cs).map A.rp
  | none=>none:=rfl
@[simp] theorem toA_ptrS {h:HS} {l:Lab} {k:Nat}:C.toA h (.ptr l (k+1))=none:=rfl
@[simp] theorem toA_rp {h:HS} {cs:List D}:C.toA h (.rp cs)=some (.rp cs):=rfl
@[simp] theorem toA_fn {h:HS} {f:FuncId} {caps:List Cap}:C.toA h (.fn f caps)=(capsA h caps).map (A.fn f):=rfl
@[simp] theorem takeN_zero {cs:List C}:takeN 0 cs=some []:=by simp[takeN]
@[simp] theorem takeN_nil {n:Nat}:takeN (n+1) []=none:=by simp[takeN]
@[simp] theorem takeN_cons {n:Nat} {c:C} {cs:List C}:takeN (n+1) (c::cs)=(takeN n cs).map (c::·):=by
 simp only[takeN,List.length_cons,Nat.add_le_add_iff_right,List.take_succ_cons]
 split<;>rfl
@[simp] theorem takeN_map {cs:List D}:takeN cs.length (cs.map C.d)=some (cs.map C.d):=by simp[takeN,List.take_of_length_le]
@[simp] theorem setCells_nil {cs:List C}:setCells cs 0 []=cs:=by simp[setCells]
@[simp] theorem setCells_zero {c v:C} {cs vs:List C}:setCells (c::cs) 0 (v::vs)=v::setCells cs 0 vs:=by simp[setCells]
@[simp] theorem setCells_succ {c:C} {cs vs:List C} {k:Nat}:setCells (c::cs) (k+1) vs=c::setCells cs k vs:=by
 simp only[setCells,List.take_succ_cons,List.cons_append,Nat.add_right_comm k 1,List.drop_succ_cons]
attribute [simp] boundV sliceC rowCells appHdr cLen cellsV constC V.cells toDs mkV dint dbool dstr dsl intBin strBin binV readAt fillV elemsV canApp HS.addFr capA capsA V.toA toAs RC.toC RV1.toV RV.toV RC.fr RV1.fr RV.fr capsOf yieldedV resVs resV isCmp kdOf eqD eqDs RetAll RetV1 RetVs RetC RetCs
@[simp] theorem eff_pick {P:Program} {c x y:Operand} {e:Env} {h:HS}:eff P (.pick c x y) e h=match e.ev c with
  | .one (.d (.bool t))=>some (if t then e.ev x else e.ev y)
  | _=>none:=rfl
attribute [simp] eff
theorem ret0 {P:Program} {rs:List ResultVar} {r:RV} {e:Env} {h:HS} {vs:List V} (hv:resVs P e h rs=some vs) (hr:RetAll h (fun _=>none) vs r):retOK P rs r e h:=by
 simp only[retOK,hv]
 exact⟨fun _=>none,fun _ _ _ hj _=>(by cases hj),hr⟩
theorem ret1 {P:Program} {rs:List ResultVar} {r:RV} {e:Env} {h:HS} {vs:List V} (o:Option Lab) (hv:resVs P e h rs=some vs) (hr:RetAll h (fun j=>if j=0 then o else none) vs r):retOK P rs r e h:=by
 simp only[retOK,hv]
 refine⟨fun j=>if j=0 then o else none,fun j j' l hj hj'=>?_,hr⟩
 by_cases h1:j=0
 ·by_cases h2:j'=0
  ·rw[h1,h2]
  ·simp[h2] at hj'
 ·simp[h1] at hj
theorem RetC.grows {h:HS} {es:Nat} {c:C} {xs:List (List D)} (g:Grows h es c xs):∃ o,∀ ren:Nat→Option Lab,ren 0=o→RetC h ren c (.fresh 0 es xs):=by
 rcases g.1 with ⟨h1,h2⟩ | ⟨l,h1,h2,h3⟩
 ·exact⟨none,fun ren hr=>by simp only[RetC,hr];exact⟨h1,h2⟩⟩
 ·exact⟨some l,fun ren hr=>by simp only[RetC,hr];exact⟨h1,h2⟩⟩
theorem ret_grows {P:Program} {k es:Nat} {e:Env} {h:HS} {c:C} {xs:List (List D)} (hv:e.get k=.one c) (g:Grows h es c xs):retOK P [.tmp k] (.one (.fresh 0 es xs)) e h:=by
 obtain⟨o,ho⟩:=RetC.grows g
 refine ret1 o (vs:=[.one c]) (by simp[hv]) ?_
 simp only[RetAll,RetV1]
 exact ho _ rfl
def GrowsV (h:HS) (es:Nat) (v:V) (xs:List (List D)):Prop:=∃ c,v=.one c∧Grows h es c xs
theorem GrowsV.nil {h:HS} {es:Nat}:GrowsV h es (.one .nil) []:=⟨_,rfl,Grows.nil⟩
theorem GrowsV.app {h:HS} {es n:Nat} {l:Lab} {xs ys:List (List D)} (hl:l.1=h.ep) (hn:n=xs.length) (hy:∀ y ∈ ys,y.length=es) (he:xs=ys):GrowsV ((h.setArr l (some (n,es))).next) es (.one (.own l xs)) ys:=by
 subst he hn
 exact⟨_,rfl,Grows.app hl hy⟩
theorem useUp_ep {h:HS} {c:C}:(C.useUp h c).ep=h.ep:=by cases c<;>rfl
attribute [simp] useUp_ep
theorem ret_growsV {P:Program} {k es:Nat} {e:Env} {h:HS} {xs:List (List D)} (g:GrowsV h es (e.get k) xs):retOK P [.tmp k] (.one (.fresh 0 es xs)) e h:=by
 obtain⟨c,hv,g⟩:=g
 exact ret_grows hv g
theorem ret_d {P:Program} {k:Nat} {e:Env} {h:HS} {x:D} {c:C} (hv:e.get k=.one c) (hx:c.toD=some x):retOK P [.tmp k] (.one (.d x)) e h:=
 ret0 (vs:=[.one c]) (by simp[hv]) (by simpa[RetAll,RetV1] using hx)
theorem capsA_rp {h:HS} {caps:List (List D)}:capsA h (caps.map Cap.rp)=some caps:=by
 induction caps with
 | nil=>rfl
 | cons x xs ih=>simp[capsA,capA,ih]
attribute [simp] capsA_rp
end Go.Am
end
section
namespace Go.Am
open Go
section
variable {ρ α β σ:Type}
def Is (m:Option ρ) (r:ρ):Prop:=m=some r
def bindK (m:Option α) (K:α→Option ρ):Option ρ:=match m with
 | some x=>K x
 | none=>none
def getK (xs:List α) (i:Int) (K:α→Option ρ):Option ρ:=if 0≤i then bindK xs[i.toNat]? K else none
def chkK (b:Prop) [Decidable b] (m:Option ρ):Option ρ:=if b then m else none
def okI (n:Int):Prop:=-9223372036854775808≤n∧n≤9223372036854775807
instance (n:Int):Decidable (okI n):=inferInstanceAs (Decidable (_∧_))
def appK2 (xs ys:List α) (K:List α→Option ρ):Option ρ:=chkK (xs.length+ys.length≤LIM) (K (xs++ys))
def cutK (xs:List α) (lo hi:Int) (K:List α→Option ρ):Option ρ:=chkK (0≤lo∧lo≤hi∧hi≤xs.length) (K ((xs.take hi.toNat).drop lo.toNat))
def chrK (s:ByteArray) (i:Int) (K:Int→Option ρ):Option ρ:=if 0≤i then (match s[i.toNat]? with
 | some b=>K b.toNat
 | none=>none) else none
def forK (body:Nat→α→σ→(σ→Option ρ)→Option ρ) (k:σ→Option ρ):List α→Nat→σ→Option ρ
 | [],_,s=>k s
 | x::xs,i,s=>body i x s fun s'=>forK body k xs (i+1) s'
def countK (body:Nat→σ→(σ→Option ρ)→Option ρ) (k:σ→Option ρ):Nat→Nat→σ→Option ρ
 | 0,_,s=>k s
 | n+1,i,s=>body i s fun s'=>countK body k n (i+1) s'
def whileK (body:σ→(σ→Option ρ)→Option ρ):Nat→σ→Option ρ
 | 0,_=>none
 | n+1,s=>body s fun s'=>whileK body n s'
abbrev FUEL:Nat:=16777216
theorem r_ret {v r:ρ} (h:Is (some v) r):v=r:=Option.some.inj h
theorem Is.bind {m:Option α} {K:α→Option ρ} {r:ρ} (h:Is (bindK m K) r):∃ x,Is m x∧Is (K x) r:=by
 unfold bindK at h
 cases m with
 | some x=>exact⟨x,rfl,h⟩
 | none=>cases h
theorem Is.get {xs:List α} {i:Int} {K:α→Option ρ} {r:ρ} (h:Is (getK xs i K) r):∃ x,0≤i∧xs[i.toNat]?=some x∧Is (K x) r:=by
 unfold getK at h
 by_cases h0:0≤i
 ·rw[if_pos h0] at h
  obtain⟨x,hx,h⟩:=h.bind
  exact⟨x,h0,hx,h⟩
 ·rw[if_neg h0] at h;cases h
theorem Is.getN {xs:List α} {i:Nat} {K:α→Option ρ} {r:ρ} (h:Is (getK xs i K) r):∃ x,xs[i]?=some x∧Is (K x) r:=by
 obtain⟨x,_,hx,h⟩:=h.get
 exact⟨x,by simpa using hx,h⟩
theorem Is.chk {b:Prop} [Decidable b] {m:Option ρ} {r:ρ} (h:Is (chkK b m) r):b∧Is m r:=by
 unfold chkK at h
 by_cases hb:b
 ·rw[if_pos hb] at h;exact⟨hb,h⟩
 ·rw[if_neg hb] at h;cases h
theorem wrap_ok {n:Int} (h:okI n):IntKind.i64.wrap n=n:=IntWalk.i64_in _ ⟨h.1,h.2⟩
theorem Is.app {xs ys:List α} {K:List α→Option ρ} {r:ρ} (h:Is (appK2 xs ys K) r):xs.length+ys.length≤LIM∧Is (K (xs++ys)) r:=Is.chk h
theorem Is.cut {xs:List α} {lo hi:Int} {K:List α→Option ρ} {r:ρ} (h:Is (cutK xs lo hi K) r):(0≤lo∧lo≤hi∧hi≤xs.length)∧Is (K ((xs.take hi.toNat).drop lo.toNat)) r:=Is.chk h
theorem Is.chr {s:ByteArray} {i:Int} {K:Int→Option ρ} {r:ρ} (h:Is (chrK s i K) r):∃ b,0≤i∧s[i.toNat]?=some b∧Is (K b.toNat) r:=by
 unfold chrK at h
 by_cases h0:0≤i
 ·rw[if_pos h0] at h
  cases hs:s[i.toNat]? with
  | some b=>rw[hs] at h;exact⟨b,h0,rfl,h⟩
  | none=>rw[hs] at h;cases h
 ·rw[if_neg h0] at h;cases h
theorem r_cond {b:Bool} {A B:Option ρ} {r:ρ} {f:Unit→Prop} {g:Bool→Prop} (hm:Is (cond b A B) r) (h1:b=true→Is A r→f ()) (h2:b=false→Is B r→g true):condV (.one (.d (.bool b))) (p:=⟨f⟩) (q:=⟨g⟩):=by
 cases b with
 | true=>exact condV_of (fun _=>h1 rfl hm) (fun h=>by cases h)
 | false=>exact condV_of (fun h=>by cases h) (fun _=>h2 rfl hm)
theorem r_guardT {b:Bool} {A B:Option ρ} {r:ρ} {f:Unit→Prop} {g:Bool→Prop} (hm:Is (cond b A B) r) (h1:b=true→Is A r→f ()) (h2:b=false→Is B r→g true):guardV (.one (.d (.bool b))) true (p:=⟨f⟩) (q:=⟨g⟩):=by
 cases b with
 | true=>simp;exact h1 rfl hm
 | false=>simp;exact h2 rfl hm
theorem r_guardF {b:Bool} {A B:Option ρ} {r:ρ} {f:Unit→Prop} {g:Bool→Prop} (hm:Is (cond b A B) r) (h1:b=true→Is A r→g true) (h2:b=false→Is B r→f ()):guardV (.one (.d (.bool b))) false (p:=⟨f⟩) (q:=⟨g⟩):=by
 cases b with
 | true=>simp;exact h1 rfl hm
 | false=>simp;exact h2 rfl hm
theorem r_call {P:Program} {f:FuncId} {vs:List V} {av:List AV} {d:Nat} {e:Env} {h:HS} {Kc:Env→HS→Prop} {er:α→RV} {m:Option α} {K:α→Option ρ} {r:ρ} (hm:Is (bindK m K) r) (hs:∀ v,Is m v→PSpec P f av (er v)) (has:toAs h vs=some av)
  (hk:∀ v,Is m v→Is (K v) r→Kc (e.put (some d) ((er v).toV h.ep d)) ((h.addFr d (er v).fr).next)):callK P f [] vs d e h (K:=⟨Kc⟩):=by
 obtain⟨x,hx,hm⟩:=hm.bind
 exact callK_fn (hs x hx) has (hk x hx hm)
theorem r_callC {P:Program} {f:FuncId} {vs:List V} {av:List AV} {caps:List Cap} {cs:List (List D)} {d:Nat} {e:Env} {h:HS} {Kc:Env→HS→Prop} {er:α→RV} {m:Option α} {K:α→Option ρ} {r:ρ} (hm:Is (bindK m K) r) (hs:∀ v,Is m v→PSpec P f (av++capsOf cs) (er v)) (has:toAs h vs=some av) (hcs:capsA h caps=some cs)
  (hk:∀ v,Is m v→Is (K v) r→Kc (e.put (some d) ((er v).toV h.ep d)) ((h.addFr d (er v).fr).next)):callK P f caps vs d e h (K:=⟨Kc⟩):=by
 obtain⟨x,hx,hm⟩:=hm.bind
 exact callK_of has hcs (hs x hx) (hk x hx hm)
theorem r_app {P:Program} {ty el:TypeId} {es by_ d:Nat} {c x:C} {h:HS} {Kc:V→HS→Prop} {K:List α→Option ρ} {r:ρ} {enc:α→List D} {xs ys:List α} (hm:Is (appK2 xs ys K) r) (hel:elT P ty=some (el,es,by_)) (hc:Grows h es c (xs.map enc)) (hx:x.list?=some (ys.map enc))
  (h0:0 < es) (hb:by_≤4096) (hy:∀ y:α,(enc y).length=es)
  (hk:xs.length+ys.length≤LIM→Is (K (xs++ys)) r→Grows (((c.useUp h).setArr (h.ep,16 * d) (some ((xs++ys).length,es))).next) es (.own (h.ep,16 * d) ((xs++ys).map enc)) ((xs++ys).map enc) →
   Kc (.one (.own (h.ep,16 * d) ((xs++ys).map enc))) (((c.useUp h).setArr (h.ep,16 * d) (some ((xs++ys).length,es))).next)):appK P ty c x d h (K:=⟨Kc⟩):=by
 obtain⟨hl,hm⟩:=hm.app
 have hall:∀ y ∈ (xs++ys).map enc,y.length=es:=by
  intro y hy'
  obtain⟨z,_,rfl⟩:=List.mem_map.1 hy'
  exact hy z
 refine appK_of hel hc hx h0 hb ?_ (by simpa using hl) ?_
 ·intro y hy'
  obtain⟨z,_,rfl⟩:=List.mem_map.1 hy'
  exact hy z
 ·have e1:xs.map enc++ys.map enc=(xs++ys).map enc:=by simp
  rw[e1]
  have g:Grows (((c.useUp h).setArr (h.ep,16 * d) (some (((xs++ys).map enc).length,es))).next) es (.own (h.ep,16 * d) ((xs++ys).map enc)) ((xs++ys).map enc):=
   Grows.own (by simp[HS.setArr,HS.next]) (by show h.ep < (C.useUp h c).ep+1;rw[useUp_ep];omega) hall
  simp only[List.length_map] at g ⊢
  exact hk hl hm g
def CutK [J:Hid (Env→HS→Prop)] (e:Env) (h:HS):Prop:=J.out e h
theorem CutK.of {J:Env→HS→Prop} {e:Env} {h:HS} (hJ:J e h):CutK (J:=⟨J⟩) e h:=hJ
theorem Wait.cut {P:Program} {id:Nat} {ops:Array Oper} {Q:Exit→Env→HS→Prop} {e:Env} {h:HS} (plan:Plan) (hm:P.follows .mixedOrders=true)
  (hB:planB .any ops plan ops.size (Array.replicate ops.size false)=true) (J:Env→HS→Prop) (h1:vcPlan P ops.toList (fun e h=>CutK (J:=⟨J⟩) e h) plan e h) (h2:∀ e h,J e h→Q .normal e h) :
  Wait P (c:=⟨.region id ops true⟩) (Q:=⟨Q⟩) e h:=by
 refine SWP.mono (Q:=fun x e h=>match x with | .normal=>J e h | _=>False) (SWP.draw plan hm hB h1) ?_
 intro x e h hq
 cases x with
 | normal=>exact h2 e h hq
 | _=>exact hq.elim
def BackF {σ:Type} [I:Hid (σ→Env→HS→Prop)] (e:Env) (h:HS):Prop:=∃ s,I.out s e h
theorem BackF.of {σ:Type} {I:σ→Env→HS→Prop} {e:Env} {h:HS} (s:σ) (hI:I s e h):BackF (I:=⟨I⟩) e h:=⟨s,hI⟩
def Never:Prop:=False
theorem SWP.loopS {P:Program} {c:Code} {Q:Exit→Env→HS→Prop} {e:Env} {h:HS} (I:Nat→Env→HS→Prop) (n:Nat) (h0:I n e h)
  (round:∀ n e h,I n e h→SWP P c (thenQ (fun e' h'=>∃ n',n' < n∧I n' e' h') Q) e h):SWP P (.loop c) Q e h:=by
 intro Γ a w μ hI hE
 intro b k cs
 have key:∀ n e h a w μ,I n e h→Inv Γ h μ w→EnvRel μ e a →
   ∃ ex a' w',(∃ e' h' μ',Q ex e' h'∧Inv Γ h' μ' w'∧EnvRel μ' e' a'∧Mem.Le μ μ')∧Arrives P (lone (b.at a (.code c::.inLoop c::k)) cs w) b k cs ex a' w':=by
  intro n
  induction n using Nat.strongRecOn with
  | _ n ih=>
    intro e h a w μ hIn hI hE
    obtain⟨ex,a₁,w₁,⟨e₁,h₁,μ₁,hq,hI₁,hE₁,hle₁⟩,harr⟩:=(round n e h hIn) Γ a w μ hI hE b (.inLoop c::k) cs
    cases ex with
    | normal=>
      obtain⟨n',hlt,hIn'⟩:=hq
      obtain⟨e₂,a₂,w₂,⟨e₃,h₃,μ₃,q1,q2,q3,q4⟩,harr₂⟩:=ih n' hlt e₁ h₁ a₁ w₁ μ₁ hIn' hI₁ hE₁
      exact⟨e₂,a₂,w₂,⟨e₃,h₃,μ₃,q1,q2,q3,hle₁.trans q4⟩,.of_steps (Steps.trans harr (.one step_inLoop)) harr₂⟩
    | exit id=>exact⟨_,a₁,w₁,⟨e₁,h₁,μ₁,hq,hI₁,hE₁,hle₁⟩,.pass (x:=.inLoop c) rfl (fun _ _=>.inl (by simp)) harr⟩
    | goto l=>exact⟨_,a₁,w₁,⟨e₁,h₁,μ₁,hq,hI₁,hE₁,hle₁⟩,.pass (x:=.inLoop c) rfl (fun _ _=>.inl (by simp)) harr⟩
    | ret=>exact⟨_,a₁,w₁,⟨e₁,h₁,μ₁,hq,hI₁,hE₁,hle₁⟩,.pass (x:=.inLoop c) rfl (fun _ _=>.inl (by simp)) harr⟩
    | panic ch=>exact⟨_,a₁,w₁,⟨e₁,h₁,μ₁,hq,hI₁,hE₁,hle₁⟩,.pass (x:=.inLoop c) rfl (fun _ _=>.inl (by simp)) harr⟩
    | outgrown=>exact⟨_,a₁,w₁,⟨e₁,h₁,μ₁,hq,hI₁,hE₁,hle₁⟩,.pass (x:=.inLoop c) rfl (fun _ _=>.inl (by simp)) harr⟩
 obtain⟨ex,a',w',hq,harr⟩:=key n e h a w μ h0 hI hE
 exact⟨ex,a',w',hq,.of_steps (.one step_loop) harr⟩
theorem thenQ_mono {N N':Env→HS→Prop} {Q:Exit→Env→HS→Prop} (hN:∀ e h,N e h→N' e h):∀ x e h,thenQ N Q x e h→thenQ N' Q x e h
 | .normal,e,h,hq=>hN e h hq
 | .exit _,_,_,hq=>hq
 | .goto _,_,_,hq=>hq
 | .ret,_,_,hq=>hq
 | .panic _,_,_,hq=>hq
 | .outgrown,_,_,hq=>hq
theorem Wait.for {P:Program} {c:Code} {Q:Exit→Env→HS→Prop} {e:Env} {h:HS} {xs:List α} {s0:σ} {body:Nat→α→σ→(σ→Option ρ)→Option ρ} {k:σ→Option ρ} {r:ρ} (R:Nat→σ→Env→HS→Prop)
  (hm:Is (forK body k xs 0 s0) r) (h0:R 0 s0 e h)
  (round:∀ (i:Nat) (s:σ) (e:Env) (h:HS),R i s e h→∀ hlt:i < xs.length,Is (body i xs[i] s (fun s'=>forK body k (xs.drop (i+1)) (i+1) s')) r →
   vc P c (thenQ (fun e' h'=>BackF (I:=⟨fun s' e h=>R (i+1) s' e h∧Is (forK body k (xs.drop (i+1)) (i+1) s') r⟩) e' h') Q) e h)
  (fin:∀ (s:σ) (e:Env) (h:HS),R xs.length s e h→Is (k s) r→vc P c (thenQ (fun _ _=>Never) Q) e h) :
  Wait P (c:=⟨.loop c⟩) (Q:=⟨Q⟩) e h:=by
 refine SWP.loopS (fun n e h=>∃ i s,i≤xs.length∧n=xs.length - i∧R i s e h∧Is (forK body k (xs.drop i) i s) r) xs.length ⟨0,s0,by omega,by omega,h0,by simpa using hm⟩ ?_
 rintro n e h ⟨i,s,hi,rfl,hR,hm⟩
 rcases Nat.lt_or_ge i xs.length with hlt | hge
 ·rw[List.drop_eq_getElem_cons hlt] at hm
  refine (vc_sound _ _ _ _ (round i s e h hR hlt hm)).mono (thenQ_mono ?_)
  rintro e' h' ⟨s',hR',hm'⟩
  exact⟨xs.length - (i+1),by omega,i+1,s',by omega,rfl,hR',hm'⟩
 ·obtain rfl:i=xs.length:=by omega
  rw[List.drop_eq_nil_of_le (Nat.le_refl _)] at hm
  exact (vc_sound _ _ _ _ (fin s e h hR hm)).mono (thenQ_mono fun _ _ hf=>(hf:False).elim)
theorem Wait.count {P:Program} {c:Code} {Q:Exit→Env→HS→Prop} {e:Env} {h:HS} {N:Int} {s0:σ} {body:Nat→σ→(σ→Option ρ)→Option ρ} {k:σ→Option ρ} {r:ρ} (R:Nat→σ→Env→HS→Prop)
  (hm:Is (countK body k N.toNat 0 s0) r) (h0:R 0 s0 e h)
  (round:∀ (i:Nat) (s:σ) (e:Env) (h:HS),R i s e h→(i:Int) < N→Is (body i s (fun s'=>countK body k (N.toNat - (i+1)) (i+1) s')) r →
   vc P c (thenQ (fun e' h'=>BackF (I:=⟨fun s' e h=>R (i+1) s' e h∧Is (countK body k (N.toNat - (i+1)) (i+1) s') r⟩) e' h') Q) e h)
  (fin:∀ (i:Nat) (s:σ) (e:Env) (h:HS),R i s e h→¬ (i:Int) < N→Is (k s) r→vc P c (thenQ (fun _ _=>Never) Q) e h) :
  Wait P (c:=⟨.loop c⟩) (Q:=⟨Q⟩) e h:=by
 refine SWP.loopS (fun n e h=>∃ i s,i≤N.toNat∧n=N.toNat - i∧R i s e h∧Is (countK body k (N.toNat - i) i s) r) N.toNat ⟨0,s0,by omega,by omega,h0,by simpa using hm⟩ ?_
 rintro n e h ⟨i,s,hi,rfl,hR,hm⟩
 rcases Nat.lt_or_ge i N.toNat with hlt | hge
 ·obtain⟨j,hj⟩:∃ j,N.toNat - i=j+1:=⟨N.toNat - i - 1,by omega⟩
  rw[hj] at hm
  have hj':j=N.toNat - (i+1):=by omega
  subst hj'
  refine (vc_sound _ _ _ _ (round i s e h hR (by omega) hm)).mono (thenQ_mono ?_)
  rintro e' h' ⟨s',hR',hm'⟩
  exact⟨N.toNat - (i+1),by omega,i+1,s',by omega,rfl,hR',hm'⟩
 ·obtain rfl:i=N.toNat:=by omega
  rw[Nat.sub_self] at hm
  exact (vc_sound _ _ _ _ (fin N.toNat s e h hR (by omega) hm)).mono (thenQ_mono fun _ _ hf=>(hf:False).elim)
theorem Wait.while {P:Program} {c:Code} {Q:Exit→Env→HS→Prop} {e:Env} {h:HS} {m:Nat} {s0:σ} {body:σ→(σ→Option ρ)→Option ρ} {r:ρ} (R:σ→Env→HS→Prop)
  (hm:Is (whileK body m s0) r) (h0:R s0 e h)
  (round:∀ (n:Nat) (s:σ) (e:Env) (h:HS),R s e h→Is (body s (fun s'=>whileK body n s')) r →
   vc P c (thenQ (fun e' h'=>BackF (I:=⟨fun s' e h=>R s' e h∧Is (whileK body n s') r⟩) e' h') Q) e h) :
  Wait P (c:=⟨.loop c⟩) (Q:=⟨Q⟩) e h:=by
 refine SWP.loopS (fun n e h=>∃ s,R s e h∧Is (whileK body n s) r) m ⟨s0,h0,hm⟩ ?_
 rintro n e h ⟨s,hR,hm⟩
 cases n with
 | zero=>cases hm
 | succ n=>
   refine (vc_sound _ _ _ _ (round n s e h hR hm)).mono (thenQ_mono ?_)
   rintro e' h' ⟨s',hR',hm'⟩
   exact⟨n,by omega,s',hR',hm'⟩
end
def AllLen (es:Nat) (xs:List (List D)):Prop:=∀ y ∈ xs,y.length=es
theorem Grows.setArr' {h:HS} {es:Nat} {c:C} {xs:List (List D)} {a b:Nat} {x:Option (Nat × Nat)} (g:Grows h es c xs) (hk:h.ep≤a):Grows (h.setArr (a,b) x) es c xs:=g.setArr hk
theorem allLen_nil {es:Nat}:AllLen es []=True:=by simp[AllLen]
theorem allLen_cons {es:Nat} {y:List D} {ys:List (List D)}:AllLen es (y::ys)=(y.length=es∧AllLen es ys):=by simp[AllLen]
theorem allLen_append {es:Nat} {xs ys:List (List D)}:AllLen es (xs++ys)=(AllLen es xs∧AllLen es ys):=by
 simp only[AllLen,List.mem_append,eq_iff_iff]
 exact⟨fun h=>⟨fun y hy=>h y (.inl hy),fun y hy=>h y (.inr hy)⟩,fun h y hy=>hy.elim (h.1 y) (h.2 y)⟩
theorem allLen_map {α:Type} {f:α→List D} {es:Nat} {xs:List α} (h:∀ a,(f a).length=es):AllLen es (xs.map f)=True:=by
 refine eq_true ?_
 intro y hy
 obtain⟨a,_,rfl⟩:=List.mem_map.1 hy
 exact h a
theorem grows_own {h:HS} {es:Nat} {l:Lab} {xs ys:List (List D)}:Grows h es (.own l xs) ys=(xs=ys∧h.arr l=some (xs.length,es)∧l.1 < h.ep∧AllLen es xs):=by
 apply propext
 constructor
 ·rintro⟨h1 | ⟨l',h1,h2,h3⟩,hy⟩
  ·cases h1.1
  ·injection h1 with e1 e2
   subst e1 e2
   exact⟨rfl,h2,h3,hy⟩
 ·rintro⟨rfl,h2,h3,hy⟩
  exact Grows.own h2 h3 hy
def Apart (c c':C):Prop:=∀ l xs ys,c=.own l xs→c'=.own l ys→False
theorem Apart.symm {c c':C} (h:Apart c c'):Apart c' c:=fun l xs ys h1 h2=>h l ys xs h2 h1
theorem apart_nil {c:C}:Apart .nil c=True:=eq_true fun _ _ _ h _=>by cases h
theorem apart_nil' {c:C}:Apart c .nil=True:=eq_true fun _ _ _ _ h=>by cases h
theorem apart_own {l l':Lab} {xs ys:List (List D)}:Apart (.own l xs) (.own l' ys)=(l≠l'):=by
 apply propext
 constructor
 ·rintro h rfl;exact h _ _ _ rfl rfl
 ·intro h k _ _ h1 h2
  injection h1 with a _
  injection h2 with b _
  exact h (a.trans b.symm)
theorem Grows.apart {h:HS} {es:Nat} {c:C} {xs ys:List (List D)} (g:Grows h es c xs) {l:Lab} (hl:h.ep≤l.1):Apart (.own l ys) c:=by
 intro k _ _ h1 h2
 injection h1 with a _
 rcases g.1 with ⟨h3,_⟩ | ⟨l',h3,_,h5⟩
 ·rw[h3] at h2;cases h2
 ·rw[h3] at h2
  injection h2 with b _
  rw[b,← a] at h5
  omega
theorem Grows.useUp_arr {h:HS} {es:Nat} {c:C} {xs:List (List D)} (g:Grows h es c xs):∀ (h':HS) (l:Lab),h.ep≤l.1→(C.useUp h' c).arr l=h'.arr l:=by
 intro h' l hl
 rcases g.1 with ⟨h3,_⟩ | ⟨l',h3,_,h5⟩
 ·rw[h3];rfl
 ·rw[h3]
  have:l≠l':=by rintro rfl;omega
  simp[C.useUp,HS.setArr,this]
theorem Grows.useUp {h:HS} {es:Nat} {c c':C} {xs:List (List D)} (g:Grows h es c' xs) (ha:Apart c c'):Grows (C.useUp h c) es c' xs:=by
 refine⟨?_,g.2⟩
 rcases g.1 with h3 | ⟨l',h3,h4,h5⟩
 ·exact .inl h3
 ·refine .inr ⟨l',h3,?_,by rw[useUp_ep];exact h5⟩
  cases c with
  | own l ys=>
    have:l'≠l:=by rintro rfl;exact ha _ _ _ rfl h3
    simp[C.useUp,HS.setArr,this,h4]
  | _=>exact h4
theorem Grows.useUp' {h:HS} {es:Nat} {c c':C} {xs:List (List D)} (g:Grows h es c' xs) (ha:Apart c' c):Grows (C.useUp h c) es c' xs:=g.useUp ha.symm
theorem grows_nil {h:HS} {es:Nat} {ys:List (List D)}:Grows h es .nil ys=(ys=[]):=by
 apply propext
 constructor
 ·rintro⟨h1 | ⟨l',h1,h2,h3⟩,hy⟩
  ·exact h1.2
  ·cases h1
 ·rintro rfl
  exact Grows.nil
def idxE (z:Option (TypeId × Nat × Nat)) (x i:V):Option V:=
 match z with
 | some (_,n,_)=>match x,i with
   | .one c,.one (.d (.int _ k))=>match c.list? with
     | some xs=>if 0≤k then match xs[k.toNat]? with
       | some y=>if y.length=n∧0 < n then some (.one (.rp y)) else none
       | none=>none
      else none
     | none=>match c with
       | .mrow l off m _=>if 0≤k∧k.toNat < m∧0 < n then some (.one (.ptr l (off+k.toNat * n))) else none
       | _=>none
   | _,_=>none
 | none=>none
def idxA (z:Option (TypeId × Nat × Nat)) (ar:Option (Nat × Nat)) (x i:V):Option V:=
 match z with
 | some z=>idxE (some z) x i
 | none=>match ar with
   | some (len,n)=>match x,i with
     | .one (.ptr l off),.one (.d (.int _ k))=>if 0≤k∧k < len then some (.one (.ptr l (off+k.toNat * n))) else none
     | _,_=>none
   | none=>none
@[simp] theorem idxA_some {z:TypeId × Nat × Nat} {ar:Option (Nat × Nat)} {x i:V}:idxA (some z) ar x i=idxE (some z) x i:=rfl
@[simp] theorem idxA_arr {len n off:Nat} {l:Lab} {kk:IntKind} {k:Int}:idxA none (some (len,n)) (.one (.ptr l off)) (.one (.d (.int kk k)))=if 0≤k∧k < len then some (.one (.ptr l (off+k.toNat * n))) else none:=rfl
@[simp high] theorem eff_indexAddr {P:Program} {t:TypeId} {x i:Operand} {e:Env} {h:HS}:eff P (.indexAddr t x i) e h=idxA (elT P t) (arT P t) (e.ev x) (e.ev i):=by
 simp only[eff,idxA,idxE]
 cases elT P t with
 | none=>rfl
 | some z=>
   obtain⟨a,n,b⟩:=z
   dsimp only
   generalize e.ev x=X
   generalize e.ev i=I
   cases X with
   | one c=>cases I with
     | one c'=>cases c' with
       | d y=>cases y with
         | int k j=>cases c with
           | d z=>cases z<;>rfl
           | _=>rfl
         | _=>cases c<;>rfl
       | _=>cases c<;>rfl
     | _=>cases c<;>rfl
   | _=>rfl
@[simp] theorem idxE_int {a n b:Nat} {c:C} {k:IntKind} {j:Int}:idxE (some (a,n,b)) (.one c) (.one (.d (.int k j)))=match c.list? with
   | some xs=>if 0≤j then match xs[j.toNat]? with
     | some y=>if y.length=n∧0 < n then some (.one (.rp y)) else none
     | none=>none
    else none
   | none=>match c with
     | .mrow l off m _=>if 0≤j∧j.toNat < m∧0 < n then some (.one (.ptr l (off+j.toNat * n))) else none
     | _=>none:=rfl
def Rd (c:C) (xs:List (List D)):Prop:=c.list?=some xs∧c.toD=some (.sl xs)∧∀ h,c.toA h=some (.d (.sl xs))
theorem Grows.rd {h:HS} {es:Nat} {c:C} {xs:List (List D)} (g:Grows h es c xs):Rd c xs:=⟨g.list,g.toD,g.toA⟩
theorem Rd.d {xs:List (List D)}:Rd (.d (.sl xs)) xs:=⟨rfl,rfl,fun _=>rfl⟩
theorem Rd.own {l:Lab} {xs:List (List D)}:Rd (.own l xs) xs:=⟨rfl,rfl,fun _=>rfl⟩
theorem Rd.nil:Rd .nil []:=⟨rfl,rfl,fun _=>rfl⟩
theorem rd_own {l:Lab} {xs ys:List (List D)}:Rd (.own l xs) ys=(xs=ys):=by
 apply propext
 constructor
 ·intro h;exact Option.some.inj h.1
 ·rintro rfl;exact Rd.own
theorem rd_d {xs ys:List (List D)}:Rd (.d (.sl xs)) ys=(xs=ys):=by
 apply propext
 constructor
 ·intro h;exact Option.some.inj h.1
 ·rintro rfl;exact Rd.d
theorem rd_nil {ys:List (List D)}:Rd .nil ys=(ys=[]):=by
 apply propext
 constructor
 ·intro h;exact (Option.some.inj h.1).symm
 ·rintro rfl;exact Rd.nil
attribute [simp] grows_own grows_nil rd_own rd_d rd_nil Grows.next Grows.setBox Grows.setArr' Grows.useUp Grows.useUp' allLen_nil allLen_cons allLen_append allLen_map apart_nil apart_nil' apart_own
end Go.Am
end
section
namespace Go.Am
open Go
def eqKs (rec:TypeId→Option (List Kd)):List Field→Nat→Option (List Kd)
 | [],_=>some []
 | f::fs,off=>if f.name ≠ "_" ∧ f.offset=off then
     match rec f.type with
     | some ks=>match eqKs rec fs (off+ks.length) with
       | some r=>some (ks++r)
       | none=>none
     | none=>none
  else none
def eqK (P:Program):Nat→TypeId→Option (List Kd)
 | 0,_=>none
 | d+1,t=>match P.underlying t with
   | some (.int k)=>some [.int k]
   | some .bool=>some [.bool]
   | some .string=>some [.str]
   | some (.struct fs)=>if P.stoodInHeld t=true then none else
     match eqKs (eqK P d) fs.toList 0 with
     | some ks=>match P.info? t with
       | some i=>if i.size=ks.length then some ks else none
       | none=>none
     | none=>none
   | _=>none
theorem shaped_append:∀ {ks ls:List Kd} {vs:List Value},Shaped (ks++ls) vs→∃ a b,vs=a++b∧Shaped ks a∧Shaped ls b∧a.length=ks.length
 | [],ls,vs,h=>⟨[],vs,rfl,trivial,h,rfl⟩
 | k::ks,ls,[],h=>by cases k<;>exact h.elim
 | k::ks,ls,v::vs,h=>by
   cases k with
   | int i=>
     obtain⟨hv,h⟩:=h
     obtain⟨a,b,rfl,h1,h2,h3⟩:=shaped_append (ks:=ks) (ls:=ls) h
     exact⟨v::a,b,rfl,⟨hv,h1⟩,h2,by simp[h3]⟩
   | bool=>
     obtain⟨hv,h⟩:=h
     obtain⟨a,b,rfl,h1,h2,h3⟩:=shaped_append (ks:=ks) (ls:=ls) h
     exact⟨v::a,b,rfl,⟨hv,h1⟩,h2,by simp[h3]⟩
   | str=>
     obtain⟨hv,h⟩:=h
     obtain⟨a,b,rfl,h1,h2,h3⟩:=shaped_append (ks:=ks) (ls:=ls) h
     exact⟨v::a,b,rfl,⟨hv,h1⟩,h2,by simp[h3]⟩
   | other=>exact h.elim
theorem valsEq_append:∀ {a b x y:List Value},a.length=x.length→valsEq (a++b) (x++y)=(valsEq a x && valsEq b y)
 | [],b,[],y,_=>rfl
 | u::a,b,v::x,y,h=>by
   simp only[List.cons_append,valsEq]
   rw[valsEq_append (a:=a) (x:=x) (by simpa using h),Bool.and_assoc]
 | [],_,_::_,_,h=>by cases h
 | _::_,_,[],_,h=>by cases h
theorem shaped_len:∀ {ks:List Kd} {vs:List Value},Shaped ks vs→vs.length=ks.length
 | [],[],_=>rfl
 | [],_::_,h=>h.elim
 | k::ks,[],h=>by cases k<;>exact h.elim
 | k::ks,v::vs,h=>by
   cases k with
   | int i=>simp[shaped_len h.2]
   | bool=>simp[shaped_len h.2]
   | str=>simp[shaped_len h.2]
   | other=>exact h.elim
def asVal (P:Program) (t:TypeId) (vs:List Value) (v:Value):Prop:=
 match P.underlying t with
 | some d=>if aggD d=true then v=.agg vs.toArray else vs=[v]
 | none=>False
theorem run_partOf {P:Program} {d:Nat} {t:TypeId} {ks:List Kd} (hk:eqK P d t=some ks) {cs a rest:List Value} {off:Nat} (hc:cs.drop off=a++rest) (ha:Shaped ks a) (w:World) :
  ∃ v,(part t cs.toArray off).run P w=.ok v w∧asVal P t a v:=by
 have hlen:=shaped_len ha
 cases d with
 | zero=>cases hk
 | succ d=>
   unfold eqK at hk
   have leaf:∀ k v,P.underlying t=some k→aggD k=false→a=[v]→∃ u,(part t cs.toArray off).run P w=.ok u w∧asVal P t a u:=by
    intro k v hu hg hav
    subst hav
    have hget:cs[off]?=some v:=by
     have:(cs.drop off)[0]?=some v:=by rw[hc];rfl
     simpa using this
    exact⟨v,by simp[part,run_isAgg hu,hg,hget],by simp[asVal,hu,hg]⟩
   split at hk
   ·rename_i k hu
    cases hk
    obtain⟨v,rfl⟩:∃ v,a=[v]:=by
     match a,hlen with
     | [v],_=>exact⟨v,rfl⟩
    exact leaf _ v hu rfl rfl
   ·rename_i hu
    cases hk
    obtain⟨v,rfl⟩:∃ v,a=[v]:=by
     match a,hlen with
     | [v],_=>exact⟨v,rfl⟩
    exact leaf _ v hu rfl rfl
   ·rename_i hu
    cases hk
    obtain⟨v,rfl⟩:∃ v,a=[v]:=by
     match a,hlen with
     | [v],_=>exact⟨v,rfl⟩
    exact leaf _ v hu rfl rfl
   ·rename_i fs hu
    split at hk
    ·cases hk
    ·split at hk
     ·rename_i ks' _
      split at hk
      ·rename_i i hi
       split at hk
       ·rename_i hsz
        cases hk
        have hex:(cs.drop off).take i.size=a:=by
         rw[hsz,← hlen,hc]
         simp
        exact⟨.agg a.toArray,by simp[part,run_isAgg hu,aggD,sizeOf,typeInfo,hi,hex],by simp[asVal,hu,aggD]⟩
       ·cases hk
      ·cases hk
     ·cases hk
   ·cases hk
theorem eqK_sound {P:Program}:∀ (d:Nat) (t:TypeId) (ks:List Kd),eqK P d t=some ks→∀ (D:Nat),d≤D→∀ (vs us:List Value) (v u:Value) (w:World),Shaped ks vs→Shaped ks us→asVal P t vs v→asVal P t us u →
  (Op.equalIn D t v u).run P w=.ok (valsEq vs us) w
 | 0,t,ks,hk=>by cases hk
 | d+1,t,ks,hk=>by
   intro D hD vs us v u w hv hu av au
   obtain⟨D,rfl⟩:∃ n,D=n+1:=⟨D - 1,by omega⟩
   unfold eqK at hk
   split at hk
   ·rename_i k hun
    cases hk
    simp only[asVal,hun,aggD,Bool.false_eq_true,if_false] at av au
    subst av au
    obtain⟨⟨n,rfl⟩,_⟩:=hv
    obtain⟨⟨m,rfl⟩,_⟩:=hu
    rw[run_equalIn_int w D t k k n m hun]
    simp[valsEq,valEq]
   ·rename_i hun
    cases hk
    simp only[asVal,hun,aggD,Bool.false_eq_true,if_false] at av au
    subst av au
    obtain⟨⟨n,rfl⟩,_⟩:=hv
    obtain⟨⟨m,rfl⟩,_⟩:=hu
    rw[run_equalIn_bool' w D t n m hun]
    simp[valsEq,valEq]
   ·rename_i hun
    cases hk
    simp only[asVal,hun,aggD,Bool.false_eq_true,if_false] at av au
    subst av au
    obtain⟨⟨n,rfl⟩,_⟩:=hv
    obtain⟨⟨m,rfl⟩,_⟩:=hu
    rw[run_equalIn_string w D t n m hun,← beq_toListBytes]
    simp[valsEq,valEq]
   ·rename_i fs hun
    split at hk
    ·cases hk
    ·rename_i hst
     split at hk
     ·rename_i ks' hks
      split at hk
      ·rename_i i hi
       split at hk
       ·cases hk
        simp only[asVal,hun,aggD,if_true] at av au
        subst av au
        have hf:P.fieldsOf t=fs:=by simp[Program.fieldsOf,hun]
        rw[run_equalIn_agg w D t _ _ (by rw[hf];exact hun) (by simpa using hst),hf]
        have key:∀ (l:List Field) (off:Nat) (ls:List Kd) (a b:List Value),eqKs (eqK P d) l off=some ls→vs.drop off=a→us.drop off=b→Shaped ls a→Shaped ls b→∀ w,(Op.eqFields D vs.toArray us.toArray l).run P w=.ok (valsEq a b) w:=by
         intro l
         induction l with
         | nil=>
           intro off ls a b hl ha hb sa sb w
           cases hl
           have ea:a=[]:=by cases a with | nil=>rfl | cons _ _=>exact sa.elim
           have eb:b=[]:=by cases b with | nil=>rfl | cons _ _=>exact sb.elim
           subst ea eb
           simp[Op.eqFields,valsEq]
         | cons f l ih=>
           intro off ls a b hl ha hb sa sb w
           unfold eqKs at hl
           split at hl
           ·rename_i hc
            split at hl
            ·rename_i k1 hk1
             split at hl
             ·rename_i r hr
              cases hl
              obtain⟨a1,a2,rfl,s1,s2,l1⟩:=shaped_append sa
              obtain⟨b1,b2,rfl,t1,t2,m1⟩:=shaped_append sb
              obtain⟨v1,hv1,av1⟩:=run_partOf hk1 (cs:=vs) ha s1 w
              obtain⟨u1,hu1,au1⟩:=run_partOf hk1 (cs:=us) hb t1 w
              have he:=eqK_sound d f.type k1 hk1 D (by omega) a1 b1 v1 u1 w s1 t1 av1 au1
              have hrest:=ih (off+k1.length) r a2 b2 hr (by rw[← List.drop_drop,ha,← l1];simp) (by rw[← List.drop_drop,hb,← m1];simp) s2 t2 w
              rw[← hc.2] at hv1 hu1
              simp only[Op.eqFields,hc.1,ne_eq,not_false_eq_true,if_true,Sem.run_bind,hv1,hu1,Result.andThen_ok,he]
              rw[valsEq_append (by omega)]
              cases hb1:valsEq a1 b1 with
              | true=>simpa using hrest
              | false=>simp
             ·cases hl
            ·cases hl
           ·cases hl
        exact key fs.toList 0 _ vs us hks rfl rfl hv hu w
       ·cases hk
      ·cases hk
     ·cases hk
   ·cases hk
theorem eqT_of {P:Program} {t:TypeId} {ks:List Kd} {fs:Array Field} (hu:P.underlying t=some (.struct fs)) (hg:P.eqGuardType P.depth t=false) (hk:eqK P 20 t=some ks):EqT P t ks:=by
 intro op vs us w x y hop hv hus
 have he:=eqK_sound 20 t ks hk 10000 (by omega) vs us (.agg vs.toArray) (.agg us.toArray) w hv hus (by simp[asVal,hu,aggD]) (by simp[asVal,hu,aggD])
 simp only[Sem.run_bind,run_eqGuard_agg w op t x y _ _ hg,Result.andThen_ok]
 cases op with
 | eql=>rw[run_eql_struct,he];simp
 | neq=>rw[run_neq_struct,he];simp
 | _=>cases hop
end Go.Am
end
section
namespace Go.Proofs.YthiojhcimecdgaaGreatDoor
open Go.Am
theorem ty_ld2:ldT Tryz.prog 2=some (false,1):=by kernel_rfl
theorem ty_ze2:zeT Tryz.prog 2=some [.d (.int .i64 0)]:=by kernel_rfl
theorem ty_ld3:ldT Tryz.prog 3=some (false,1):=by kernel_rfl
theorem ty_ze3:zeT Tryz.prog 3=some [.d (.int .i64 0)]:=by kernel_rfl
theorem ty_ld4:ldT Tryz.prog 4=some (false,1):=by kernel_rfl
theorem ty_bt4:isBoolT Tryz.prog 4=true:=by kernel_rfl
theorem ty_ze4:zeT Tryz.prog 4=some [.d (.bool false)]:=by kernel_rfl
theorem ty_ld5:ldT Tryz.prog 5=some (false,1):=by kernel_rfl
theorem ty_ze5:zeT Tryz.prog 5=some [.d (.int .u8 0)]:=by kernel_rfl
theorem ty_ld6:ldT Tryz.prog 6=some (false,1):=by kernel_rfl
theorem ty_ze6:zeT Tryz.prog 6=some [.d (.int .u8 0)]:=by kernel_rfl
theorem ty_ld7:ldT Tryz.prog 7=some (true,4):=by kernel_rfl
theorem ty_fd7_0:fdT Tryz.prog 7 0=some (0,false,1):=by kernel_rfl
theorem ty_fd7_1:fdT Tryz.prog 7 1=some (1,false,1):=by kernel_rfl
theorem ty_fd7_2:fdT Tryz.prog 7 2=some (2,false,1):=by kernel_rfl
theorem ty_fd7_3:fdT Tryz.prog 7 3=some (3,false,1):=by kernel_rfl
theorem ty_st7:stT Tryz.prog 7=some [(0,1),(1,1),(2,1),(3,1)]:=by kernel_rfl
theorem ty_ze7:zeT Tryz.prog 7=some [.d (.int .i64 0),.d (.int .i64 0),.d (.bool false),.d (.int .u8 0)]:=by kernel_rfl
theorem ty_ld8:ldT Tryz.prog 8=some (true,4):=by kernel_rfl
theorem ty_fd8_0:fdT Tryz.prog 8 0=some (0,false,1):=by kernel_rfl
theorem ty_fd8_1:fdT Tryz.prog 8 1=some (1,false,1):=by kernel_rfl
theorem ty_fd8_2:fdT Tryz.prog 8 2=some (2,false,1):=by kernel_rfl
theorem ty_fd8_3:fdT Tryz.prog 8 3=some (3,false,1):=by kernel_rfl
theorem ty_st8:stT Tryz.prog 8=some [(0,1),(1,1),(2,1),(3,1)]:=by kernel_rfl
theorem ty_ze8:zeT Tryz.prog 8=some [.d (.int .i64 0),.d (.int .i64 0),.d (.bool false),.d (.int .u8 0)]:=by kernel_rfl
theorem ty_ld9:ldT Tryz.prog 9=some (false,1):=by kernel_rfl
theorem ty_el9:elT Tryz.prog 9=none:=by kernel_rfl
theorem ty_len9:lenT Tryz.prog 9=some true:=by kernel_rfl
theorem ty_str9:isStr Tryz.prog 9=true:=by kernel_rfl
theorem ty_ze9:zeT Tryz.prog 9=some [.d (.str ByteArray.empty)]:=by kernel_rfl
theorem ty_ld10:ldT Tryz.prog 10=some (false,1):=by kernel_rfl
theorem ty_el10:elT Tryz.prog 10=none:=by kernel_rfl
theorem ty_len10:lenT Tryz.prog 10=some true:=by kernel_rfl
theorem ty_str10:isStr Tryz.prog 10=true:=by kernel_rfl
theorem ty_ze10:zeT Tryz.prog 10=some [.d (.str ByteArray.empty)]:=by kernel_rfl
theorem ty_ld11:ldT Tryz.prog 11=some (false,1):=by kernel_rfl
theorem ty_el11:elT Tryz.prog 11=none:=by kernel_rfl
theorem ty_len11:lenT Tryz.prog 11=some true:=by kernel_rfl
theorem ty_str11:isStr Tryz.prog 11=true:=by kernel_rfl
theorem ty_ze11:zeT Tryz.prog 11=some [.d (.str ByteArray.empty)]:=by kernel_rfl
theorem ty_ld12:ldT Tryz.prog 12=some (false,1):=by kernel_rfl
theorem ty_ze12:zeT Tryz.prog 12=some [.d (.int .u64 0)]:=by kernel_rfl
theorem ty_ld13:ldT Tryz.prog 13=some (true,2):=by kernel_rfl
theorem ty_fd13_0:fdT Tryz.prog 13 0=some (0,false,1):=by kernel_rfl
theorem ty_fd13_1:fdT Tryz.prog 13 1=some (1,false,1):=by kernel_rfl
theorem ty_st13:stT Tryz.prog 13=some [(0,1),(1,1)]:=by kernel_rfl
theorem ty_ze13:zeT Tryz.prog 13=some [.d (.str ByteArray.empty),.d (.int .u64 0)]:=by kernel_rfl
theorem ty_ld14:ldT Tryz.prog 14=some (true,2):=by kernel_rfl
theorem ty_fd14_0:fdT Tryz.prog 14 0=some (0,false,1):=by kernel_rfl
theorem ty_fd14_1:fdT Tryz.prog 14 1=some (1,false,1):=by kernel_rfl
theorem ty_st14:stT Tryz.prog 14=some [(0,1),(1,1)]:=by kernel_rfl
theorem ty_ze14:zeT Tryz.prog 14=some [.d (.str ByteArray.empty),.d (.int .u64 0)]:=by kernel_rfl
theorem ty_ld15:ldT Tryz.prog 15=some (false,1):=by kernel_rfl
theorem ty_ze15:zeT Tryz.prog 15=some [.d (.raw (.pointer none))]:=by kernel_rfl
theorem ty_ld16:ldT Tryz.prog 16=some (false,1):=by kernel_rfl
theorem ty_ze16:zeT Tryz.prog 16=some [.d (.raw (.pointer none))]:=by kernel_rfl
theorem ty_ld17:ldT Tryz.prog 17=some (false,1):=by kernel_rfl
theorem ty_ze17:zeT Tryz.prog 17=some [.d (.raw (.pointer none))]:=by kernel_rfl
theorem ty_ld18:ldT Tryz.prog 18=some (true,1):=by kernel_rfl
theorem ty_fd18_0:fdT Tryz.prog 18 0=some (0,false,1):=by kernel_rfl
theorem ty_st18:stT Tryz.prog 18=some [(0,1)]:=by kernel_rfl
theorem ty_ze18:zeT Tryz.prog 18=some [.d (.raw (.pointer none))]:=by kernel_rfl
theorem ty_ld19:ldT Tryz.prog 19=some (true,1):=by kernel_rfl
theorem ty_fd19_0:fdT Tryz.prog 19 0=some (0,false,1):=by kernel_rfl
theorem ty_st19:stT Tryz.prog 19=some [(0,1)]:=by kernel_rfl
theorem ty_ze19:zeT Tryz.prog 19=some [.d (.raw (.pointer none))]:=by kernel_rfl
theorem ty_ld21:ldT Tryz.prog 21=some (false,1):=by kernel_rfl
theorem ty_ze21:zeT Tryz.prog 21=some [.d (.int .i32 0)]:=by kernel_rfl
theorem ty_ld22:ldT Tryz.prog 22=some (false,1):=by kernel_rfl
theorem ty_el22:elT Tryz.prog 22=some (39,1,24):=by kernel_rfl
theorem ty_len22:lenT Tryz.prog 22=some false:=by kernel_rfl
theorem ty_sl22:slT Tryz.prog 22=true:=by kernel_rfl
theorem ty_ze22:zeT Tryz.prog 22=some [.nil]:=by kernel_rfl
theorem ty_ld23:ldT Tryz.prog 23=some (false,1):=by kernel_rfl
theorem ty_el23:elT Tryz.prog 23=some (22,1,24):=by kernel_rfl
theorem ty_len23:lenT Tryz.prog 23=some false:=by kernel_rfl
theorem ty_sl23:slT Tryz.prog 23=true:=by kernel_rfl
theorem ty_ze23:zeT Tryz.prog 23=some [.nil]:=by kernel_rfl
theorem ty_ld24:ldT Tryz.prog 24=some (true,2):=by kernel_rfl
theorem ty_fd24_0:fdT Tryz.prog 24 0=some (0,false,1):=by kernel_rfl
theorem ty_fd24_1:fdT Tryz.prog 24 1=some (1,false,1):=by kernel_rfl
theorem ty_st24:stT Tryz.prog 24=some [(0,1),(1,1)]:=by kernel_rfl
theorem ty_ze24:zeT Tryz.prog 24=some [.nil,.nil]:=by kernel_rfl
theorem ty_ld25:ldT Tryz.prog 25=some (true,2):=by kernel_rfl
theorem ty_fd25_0:fdT Tryz.prog 25 0=some (0,false,1):=by kernel_rfl
theorem ty_fd25_1:fdT Tryz.prog 25 1=some (1,false,1):=by kernel_rfl
theorem ty_st25:stT Tryz.prog 25=some [(0,1),(1,1)]:=by kernel_rfl
theorem ty_ze25:zeT Tryz.prog 25=some [.nil,.nil]:=by kernel_rfl
theorem ty_ld28:ldT Tryz.prog 28=some (false,1):=by kernel_rfl
theorem ty_el28:elT Tryz.prog 28=some (66,3,64):=by kernel_rfl
theorem ty_len28:lenT Tryz.prog 28=some false:=by kernel_rfl
theorem ty_sl28:slT Tryz.prog 28=true:=by kernel_rfl
theorem ty_ze28:zeT Tryz.prog 28=some [.nil]:=by kernel_rfl
theorem ty_ld29:ldT Tryz.prog 29=some (false,1):=by kernel_rfl
theorem ty_el29:elT Tryz.prog 29=some (116,3,56):=by kernel_rfl
theorem ty_len29:lenT Tryz.prog 29=some false:=by kernel_rfl
theorem ty_sl29:slT Tryz.prog 29=true:=by kernel_rfl
theorem ty_ze29:zeT Tryz.prog 29=some [.nil]:=by kernel_rfl
theorem ty_ld30:ldT Tryz.prog 30=some (false,1):=by kernel_rfl
theorem ty_el30:elT Tryz.prog 30=some (114,7,80):=by kernel_rfl
theorem ty_len30:lenT Tryz.prog 30=some false:=by kernel_rfl
theorem ty_sl30:slT Tryz.prog 30=true:=by kernel_rfl
theorem ty_ze30:zeT Tryz.prog 30=some [.nil]:=by kernel_rfl
theorem ty_ld31:ldT Tryz.prog 31=some (true,3):=by kernel_rfl
theorem ty_fd31_0:fdT Tryz.prog 31 0=some (0,false,1):=by kernel_rfl
theorem ty_fd31_1:fdT Tryz.prog 31 1=some (1,false,1):=by kernel_rfl
theorem ty_fd31_2:fdT Tryz.prog 31 2=some (2,false,1):=by kernel_rfl
theorem ty_st31:stT Tryz.prog 31=some [(0,1),(1,1),(2,1)]:=by kernel_rfl
theorem ty_ze31:zeT Tryz.prog 31=some [.nil,.nil,.nil]:=by kernel_rfl
theorem ty_ld32:ldT Tryz.prog 32=some (true,3):=by kernel_rfl
theorem ty_fd32_0:fdT Tryz.prog 32 0=some (0,false,1):=by kernel_rfl
theorem ty_fd32_1:fdT Tryz.prog 32 1=some (1,false,1):=by kernel_rfl
theorem ty_fd32_2:fdT Tryz.prog 32 2=some (2,false,1):=by kernel_rfl
theorem ty_st32:stT Tryz.prog 32=some [(0,1),(1,1),(2,1)]:=by kernel_rfl
theorem ty_ze32:zeT Tryz.prog 32=some [.nil,.nil,.nil]:=by kernel_rfl
theorem ty_ld33:ldT Tryz.prog 33=some (false,1):=by kernel_rfl
theorem ty_el33:elT Tryz.prog 33=some (122,2,32):=by kernel_rfl
theorem ty_len33:lenT Tryz.prog 33=some false:=by kernel_rfl
theorem ty_sl33:slT Tryz.prog 33=true:=by kernel_rfl
theorem ty_ze33:zeT Tryz.prog 33=some [.nil]:=by kernel_rfl
theorem ty_ld34:ldT Tryz.prog 34=some (true,4):=by kernel_rfl
theorem ty_fd34_0:fdT Tryz.prog 34 0=some (0,true,3):=by kernel_rfl
theorem ty_fd34_1:fdT Tryz.prog 34 1=some (3,false,1):=by kernel_rfl
theorem ty_st34:stT Tryz.prog 34=some [(0,3),(3,1)]:=by kernel_rfl
theorem ty_ze34:zeT Tryz.prog 34=some [.nil,.nil,.nil,.nil]:=by kernel_rfl
theorem ty_ld35:ldT Tryz.prog 35=some (true,4):=by kernel_rfl
theorem ty_fd35_0:fdT Tryz.prog 35 0=some (0,true,3):=by kernel_rfl
theorem ty_fd35_1:fdT Tryz.prog 35 1=some (3,false,1):=by kernel_rfl
theorem ty_st35:stT Tryz.prog 35=some [(0,3),(3,1)]:=by kernel_rfl
theorem ty_ze35:zeT Tryz.prog 35=some [.nil,.nil,.nil,.nil]:=by kernel_rfl
theorem ty_ld38:ldT Tryz.prog 38=some (false,1):=by kernel_rfl
theorem ty_el38:elT Tryz.prog 38=some (42,2,40):=by kernel_rfl
theorem ty_len38:lenT Tryz.prog 38=some false:=by kernel_rfl
theorem ty_sl38:slT Tryz.prog 38=true:=by kernel_rfl
theorem ty_ze38:zeT Tryz.prog 38=some [.nil]:=by kernel_rfl
theorem ty_ld39:ldT Tryz.prog 39=some (false,1):=by kernel_rfl
theorem ty_el39:elT Tryz.prog 39=some (42,2,40):=by kernel_rfl
theorem ty_len39:lenT Tryz.prog 39=some false:=by kernel_rfl
theorem ty_sl39:slT Tryz.prog 39=true:=by kernel_rfl
theorem ty_ze39:zeT Tryz.prog 39=some [.nil]:=by kernel_rfl
theorem ty_ld40:ldT Tryz.prog 40=some (false,1):=by kernel_rfl
theorem ty_el40:elT Tryz.prog 40=some (44,1,24):=by kernel_rfl
theorem ty_len40:lenT Tryz.prog 40=some false:=by kernel_rfl
theorem ty_sl40:slT Tryz.prog 40=true:=by kernel_rfl
theorem ty_ze40:zeT Tryz.prog 40=some [.nil]:=by kernel_rfl
theorem ty_ld41:ldT Tryz.prog 41=some (true,2):=by kernel_rfl
theorem ty_fd41_0:fdT Tryz.prog 41 0=some (0,false,1):=by kernel_rfl
theorem ty_fd41_1:fdT Tryz.prog 41 1=some (1,false,1):=by kernel_rfl
theorem ty_st41:stT Tryz.prog 41=some [(0,1),(1,1)]:=by kernel_rfl
theorem ty_ze41:zeT Tryz.prog 41=some [.d (.str ByteArray.empty),.nil]:=by kernel_rfl
theorem ty_ld42:ldT Tryz.prog 42=some (true,2):=by kernel_rfl
theorem ty_fd42_0:fdT Tryz.prog 42 0=some (0,false,1):=by kernel_rfl
theorem ty_fd42_1:fdT Tryz.prog 42 1=some (1,false,1):=by kernel_rfl
theorem ty_st42:stT Tryz.prog 42=some [(0,1),(1,1)]:=by kernel_rfl
theorem ty_ze42:zeT Tryz.prog 42=some [.d (.str ByteArray.empty),.nil]:=by kernel_rfl
theorem ty_ld43:ldT Tryz.prog 43=some (false,1):=by kernel_rfl
theorem ty_el43:elT Tryz.prog 43=some (46,3,32):=by kernel_rfl
theorem ty_len43:lenT Tryz.prog 43=some false:=by kernel_rfl
theorem ty_sl43:slT Tryz.prog 43=true:=by kernel_rfl
theorem ty_ze43:zeT Tryz.prog 43=some [.nil]:=by kernel_rfl
theorem ty_ld44:ldT Tryz.prog 44=some (false,1):=by kernel_rfl
theorem ty_el44:elT Tryz.prog 44=some (46,3,32):=by kernel_rfl
theorem ty_len44:lenT Tryz.prog 44=some false:=by kernel_rfl
theorem ty_sl44:slT Tryz.prog 44=true:=by kernel_rfl
theorem ty_ze44:zeT Tryz.prog 44=some [.nil]:=by kernel_rfl
theorem ty_ld45:ldT Tryz.prog 45=some (true,3):=by kernel_rfl
theorem ty_fd45_0:fdT Tryz.prog 45 0=some (0,false,1):=by kernel_rfl
theorem ty_fd45_1:fdT Tryz.prog 45 1=some (1,false,1):=by kernel_rfl
theorem ty_fd45_2:fdT Tryz.prog 45 2=some (2,false,1):=by kernel_rfl
theorem ty_st45:stT Tryz.prog 45=some [(0,1),(1,1),(2,1)]:=by kernel_rfl
theorem ty_ze45:zeT Tryz.prog 45=some [.d (.int .i64 0),.d (.int .i64 0),.d (.str ByteArray.empty)]:=by kernel_rfl
theorem ty_ld46:ldT Tryz.prog 46=some (true,3):=by kernel_rfl
theorem ty_fd46_0:fdT Tryz.prog 46 0=some (0,false,1):=by kernel_rfl
theorem ty_fd46_1:fdT Tryz.prog 46 1=some (1,false,1):=by kernel_rfl
theorem ty_fd46_2:fdT Tryz.prog 46 2=some (2,false,1):=by kernel_rfl
theorem ty_st46:stT Tryz.prog 46=some [(0,1),(1,1),(2,1)]:=by kernel_rfl
theorem ty_ze46:zeT Tryz.prog 46=some [.d (.int .i64 0),.d (.int .i64 0),.d (.str ByteArray.empty)]:=by kernel_rfl
theorem ty_ld49:ldT Tryz.prog 49=some (false,1):=by kernel_rfl
theorem ty_el49:elT Tryz.prog 49=some (9,1,16):=by kernel_rfl
theorem ty_len49:lenT Tryz.prog 49=some false:=by kernel_rfl
theorem ty_sl49:slT Tryz.prog 49=true:=by kernel_rfl
theorem ty_ze49:zeT Tryz.prog 49=some [.nil]:=by kernel_rfl
theorem ty_ld50:ldT Tryz.prog 50=some (false,1):=by kernel_rfl
theorem ty_el50:elT Tryz.prog 50=some (54,4,72):=by kernel_rfl
theorem ty_len50:lenT Tryz.prog 50=some false:=by kernel_rfl
theorem ty_sl50:slT Tryz.prog 50=true:=by kernel_rfl
theorem ty_ze50:zeT Tryz.prog 50=some [.nil]:=by kernel_rfl
theorem ty_ld51:ldT Tryz.prog 51=some (true,4):=by kernel_rfl
theorem ty_fd51_0:fdT Tryz.prog 51 0=some (0,false,1):=by kernel_rfl
theorem ty_fd51_1:fdT Tryz.prog 51 1=some (1,false,1):=by kernel_rfl
theorem ty_fd51_2:fdT Tryz.prog 51 2=some (2,false,1):=by kernel_rfl
theorem ty_fd51_3:fdT Tryz.prog 51 3=some (3,false,1):=by kernel_rfl
theorem ty_st51:stT Tryz.prog 51=some [(0,1),(1,1),(2,1),(3,1)]:=by kernel_rfl
theorem ty_ze51:zeT Tryz.prog 51=some [.d (.int .i64 0),.nil,.nil,.nil]:=by kernel_rfl
theorem ty_ld52:ldT Tryz.prog 52=some (true,4):=by kernel_rfl
theorem ty_fd52_0:fdT Tryz.prog 52 0=some (0,false,1):=by kernel_rfl
theorem ty_fd52_1:fdT Tryz.prog 52 1=some (1,false,1):=by kernel_rfl
theorem ty_fd52_2:fdT Tryz.prog 52 2=some (2,false,1):=by kernel_rfl
theorem ty_fd52_3:fdT Tryz.prog 52 3=some (3,false,1):=by kernel_rfl
theorem ty_st52:stT Tryz.prog 52=some [(0,1),(1,1),(2,1),(3,1)]:=by kernel_rfl
theorem ty_ze52:zeT Tryz.prog 52=some [.d (.int .i64 0),.nil,.nil,.nil]:=by kernel_rfl
theorem ty_ld53:ldT Tryz.prog 53=some (true,4):=by kernel_rfl
theorem ty_fd53_0:fdT Tryz.prog 53 0=some (0,false,1):=by kernel_rfl
theorem ty_fd53_1:fdT Tryz.prog 53 1=some (1,false,1):=by kernel_rfl
theorem ty_fd53_2:fdT Tryz.prog 53 2=some (2,false,1):=by kernel_rfl
theorem ty_fd53_3:fdT Tryz.prog 53 3=some (3,false,1):=by kernel_rfl
theorem ty_st53:stT Tryz.prog 53=some [(0,1),(1,1),(2,1),(3,1)]:=by kernel_rfl
theorem ty_ze53:zeT Tryz.prog 53=some [.d (.int .i64 0),.d (.str ByteArray.empty),.nil,.nil]:=by kernel_rfl
theorem ty_ld54:ldT Tryz.prog 54=some (true,4):=by kernel_rfl
theorem ty_fd54_0:fdT Tryz.prog 54 0=some (0,false,1):=by kernel_rfl
theorem ty_fd54_1:fdT Tryz.prog 54 1=some (1,false,1):=by kernel_rfl
theorem ty_fd54_2:fdT Tryz.prog 54 2=some (2,false,1):=by kernel_rfl
theorem ty_fd54_3:fdT Tryz.prog 54 3=some (3,false,1):=by kernel_rfl
theorem ty_st54:stT Tryz.prog 54=some [(0,1),(1,1),(2,1),(3,1)]:=by kernel_rfl
theorem ty_ze54:zeT Tryz.prog 54=some [.d (.int .i64 0),.d (.str ByteArray.empty),.nil,.nil]:=by kernel_rfl
theorem ty_ld55:ldT Tryz.prog 55=some (false,1):=by kernel_rfl
theorem ty_ze55:zeT Tryz.prog 55=some [.d (.int .i64 0)]:=by kernel_rfl
theorem ty_ld63:ldT Tryz.prog 63=some (false,1):=by kernel_rfl
theorem ty_el63:elT Tryz.prog 63=some (111,3,32):=by kernel_rfl
theorem ty_len63:lenT Tryz.prog 63=some false:=by kernel_rfl
theorem ty_sl63:slT Tryz.prog 63=true:=by kernel_rfl
theorem ty_ze63:zeT Tryz.prog 63=some [.nil]:=by kernel_rfl
theorem ty_ld64:ldT Tryz.prog 64=some (false,1):=by kernel_rfl
theorem ty_el64:elT Tryz.prog 64=some (3,1,8):=by kernel_rfl
theorem ty_len64:lenT Tryz.prog 64=some false:=by kernel_rfl
theorem ty_sl64:slT Tryz.prog 64=true:=by kernel_rfl
theorem ty_ze64:zeT Tryz.prog 64=some [.nil]:=by kernel_rfl
theorem ty_ld65:ldT Tryz.prog 65=some (true,3):=by kernel_rfl
theorem ty_fd65_0:fdT Tryz.prog 65 0=some (0,false,1):=by kernel_rfl
theorem ty_fd65_1:fdT Tryz.prog 65 1=some (1,false,1):=by kernel_rfl
theorem ty_fd65_2:fdT Tryz.prog 65 2=some (2,false,1):=by kernel_rfl
theorem ty_st65:stT Tryz.prog 65=some [(0,1),(1,1),(2,1)]:=by kernel_rfl
theorem ty_ze65:zeT Tryz.prog 65=some [.d (.str ByteArray.empty),.nil,.nil]:=by kernel_rfl
theorem ty_ld66:ldT Tryz.prog 66=some (true,3):=by kernel_rfl
theorem ty_fd66_0:fdT Tryz.prog 66 0=some (0,false,1):=by kernel_rfl
theorem ty_fd66_1:fdT Tryz.prog 66 1=some (1,false,1):=by kernel_rfl
theorem ty_fd66_2:fdT Tryz.prog 66 2=some (2,false,1):=by kernel_rfl
theorem ty_st66:stT Tryz.prog 66=some [(0,1),(1,1),(2,1)]:=by kernel_rfl
theorem ty_ze66:zeT Tryz.prog 66=some [.d (.str ByteArray.empty),.nil,.nil]:=by kernel_rfl
theorem ty_ld100:ldT Tryz.prog 100=some (false,1):=by kernel_rfl
theorem ty_el100:elT Tryz.prog 100=some (32,3,72):=by kernel_rfl
theorem ty_len100:lenT Tryz.prog 100=some false:=by kernel_rfl
theorem ty_sl100:slT Tryz.prog 100=true:=by kernel_rfl
theorem ty_ze100:zeT Tryz.prog 100=some [.nil]:=by kernel_rfl
theorem ty_ld107:ldT Tryz.prog 107=some (false,1):=by kernel_rfl
theorem ty_el107:elT Tryz.prog 107=some (50,1,24):=by kernel_rfl
theorem ty_len107:lenT Tryz.prog 107=some false:=by kernel_rfl
theorem ty_sl107:slT Tryz.prog 107=true:=by kernel_rfl
theorem ty_ze107:zeT Tryz.prog 107=some [.nil]:=by kernel_rfl
theorem ty_ld110:ldT Tryz.prog 110=some (true,3):=by kernel_rfl
theorem ty_fd110_0:fdT Tryz.prog 110 0=some (0,false,1):=by kernel_rfl
theorem ty_fd110_1:fdT Tryz.prog 110 1=some (1,false,1):=by kernel_rfl
theorem ty_fd110_2:fdT Tryz.prog 110 2=some (2,false,1):=by kernel_rfl
theorem ty_st110:stT Tryz.prog 110=some [(0,1),(1,1),(2,1)]:=by kernel_rfl
theorem ty_ze110:zeT Tryz.prog 110=some [.d (.str ByteArray.empty),.d (.int .i64 0),.d (.bool false)]:=by kernel_rfl
theorem ty_ld111:ldT Tryz.prog 111=some (true,3):=by kernel_rfl
theorem ty_fd111_0:fdT Tryz.prog 111 0=some (0,false,1):=by kernel_rfl
theorem ty_fd111_1:fdT Tryz.prog 111 1=some (1,false,1):=by kernel_rfl
theorem ty_fd111_2:fdT Tryz.prog 111 2=some (2,false,1):=by kernel_rfl
theorem ty_st111:stT Tryz.prog 111=some [(0,1),(1,1),(2,1)]:=by kernel_rfl
theorem ty_ze111:zeT Tryz.prog 111=some [.d (.str ByteArray.empty),.d (.int .i64 0),.d (.bool false)]:=by kernel_rfl
theorem ty_ld113:ldT Tryz.prog 113=some (true,7):=by kernel_rfl
theorem ty_fd113_0:fdT Tryz.prog 113 0=some (0,false,1):=by kernel_rfl
theorem ty_fd113_1:fdT Tryz.prog 113 1=some (1,false,1):=by kernel_rfl
theorem ty_fd113_2:fdT Tryz.prog 113 2=some (2,false,1):=by kernel_rfl
theorem ty_fd113_3:fdT Tryz.prog 113 3=some (3,false,1):=by kernel_rfl
theorem ty_fd113_4:fdT Tryz.prog 113 4=some (4,true,3):=by kernel_rfl
theorem ty_st113:stT Tryz.prog 113=some [(0,1),(1,1),(2,1),(3,1),(4,3)]:=by kernel_rfl
theorem ty_ze113:zeT Tryz.prog 113=some [.d (.str ByteArray.empty),.d (.int .i64 0),.d (.str ByteArray.empty),.d (.int .i64 0),.d (.int .i64 0),.d (.int .i64 0),.d (.str ByteArray.empty)]:=by kernel_rfl
theorem ty_ld114:ldT Tryz.prog 114=some (true,7):=by kernel_rfl
theorem ty_fd114_0:fdT Tryz.prog 114 0=some (0,false,1):=by kernel_rfl
theorem ty_fd114_1:fdT Tryz.prog 114 1=some (1,false,1):=by kernel_rfl
theorem ty_fd114_2:fdT Tryz.prog 114 2=some (2,false,1):=by kernel_rfl
theorem ty_fd114_3:fdT Tryz.prog 114 3=some (3,false,1):=by kernel_rfl
theorem ty_fd114_4:fdT Tryz.prog 114 4=some (4,true,3):=by kernel_rfl
theorem ty_st114:stT Tryz.prog 114=some [(0,1),(1,1),(2,1),(3,1),(4,3)]:=by kernel_rfl
theorem ty_ze114:zeT Tryz.prog 114=some [.d (.str ByteArray.empty),.d (.int .i64 0),.d (.str ByteArray.empty),.d (.int .i64 0),.d (.int .i64 0),.d (.int .i64 0),.d (.str ByteArray.empty)]:=by kernel_rfl
theorem ty_ld115:ldT Tryz.prog 115=some (true,3):=by kernel_rfl
theorem ty_fd115_0:fdT Tryz.prog 115 0=some (0,false,1):=by kernel_rfl
theorem ty_fd115_1:fdT Tryz.prog 115 1=some (1,false,1):=by kernel_rfl
theorem ty_fd115_2:fdT Tryz.prog 115 2=some (2,false,1):=by kernel_rfl
theorem ty_st115:stT Tryz.prog 115=some [(0,1),(1,1),(2,1)]:=by kernel_rfl
theorem ty_ze115:zeT Tryz.prog 115=some [.d (.str ByteArray.empty),.nil,.d (.str ByteArray.empty)]:=by kernel_rfl
theorem ty_ld116:ldT Tryz.prog 116=some (true,3):=by kernel_rfl
theorem ty_fd116_0:fdT Tryz.prog 116 0=some (0,false,1):=by kernel_rfl
theorem ty_fd116_1:fdT Tryz.prog 116 1=some (1,false,1):=by kernel_rfl
theorem ty_fd116_2:fdT Tryz.prog 116 2=some (2,false,1):=by kernel_rfl
theorem ty_st116:stT Tryz.prog 116=some [(0,1),(1,1),(2,1)]:=by kernel_rfl
theorem ty_ze116:zeT Tryz.prog 116=some [.d (.str ByteArray.empty),.nil,.d (.str ByteArray.empty)]:=by kernel_rfl
theorem ty_ld117:ldT Tryz.prog 117=some (true,24):=by kernel_rfl
theorem ty_fd117_0:fdT Tryz.prog 117 0=some (0,false,1):=by kernel_rfl
theorem ty_fd117_1:fdT Tryz.prog 117 1=some (1,false,1):=by kernel_rfl
theorem ty_fd117_2:fdT Tryz.prog 117 2=some (2,false,1):=by kernel_rfl
theorem ty_fd117_3:fdT Tryz.prog 117 3=some (3,false,1):=by kernel_rfl
theorem ty_fd117_4:fdT Tryz.prog 117 4=some (4,false,1):=by kernel_rfl
theorem ty_fd117_5:fdT Tryz.prog 117 5=some (5,false,1):=by kernel_rfl
theorem ty_fd117_6:fdT Tryz.prog 117 6=some (6,false,1):=by kernel_rfl
theorem ty_fd117_7:fdT Tryz.prog 117 7=some (7,false,1):=by kernel_rfl
theorem ty_fd117_8:fdT Tryz.prog 117 8=some (8,true,3):=by kernel_rfl
theorem ty_fd117_9:fdT Tryz.prog 117 9=some (11,true,3):=by kernel_rfl
theorem ty_fd117_10:fdT Tryz.prog 117 10=some (14,true,7):=by kernel_rfl
theorem ty_fd117_11:fdT Tryz.prog 117 11=some (21,true,3):=by kernel_rfl
theorem ty_st117:stT Tryz.prog 117=some [(0,1),(1,1),(2,1),(3,1),(4,1),(5,1),(6,1),(7,1),(8,3),(11,3),(14,7),(21,3)]:=by kernel_rfl
theorem ty_ze117:zeT Tryz.prog 117=some [.d (.int .i64 0),.d (.str ByteArray.empty),.d (.str ByteArray.empty),.d (.str ByteArray.empty),.d (.str ByteArray.empty),.d (.int .i64 0),.nil,.d (.str ByteArray.empty),.d (.int .i64 0),.d (.int .i64 0),.d (.str ByteArray.empty),.d (.str ByteArray.empty),.nil,.nil,.d (.str ByteArray.empty),.d (.int .i64 0),.d (.str ByteArray.empty),.d (.int .i64 0),.d (.int .i64 0),.d (.int .i64 0),.d (.str ByteArray.empty),.d (.str ByteArray.empty),.nil,.d (.str ByteArray.empty)]:=by kernel_rfl
theorem ty_ld118:ldT Tryz.prog 118=some (true,24):=by kernel_rfl
theorem ty_fd118_0:fdT Tryz.prog 118 0=some (0,false,1):=by kernel_rfl
theorem ty_fd118_1:fdT Tryz.prog 118 1=some (1,false,1):=by kernel_rfl
theorem ty_fd118_2:fdT Tryz.prog 118 2=some (2,false,1):=by kernel_rfl
theorem ty_fd118_3:fdT Tryz.prog 118 3=some (3,false,1):=by kernel_rfl
theorem ty_fd118_4:fdT Tryz.prog 118 4=some (4,false,1):=by kernel_rfl
theorem ty_fd118_5:fdT Tryz.prog 118 5=some (5,false,1):=by kernel_rfl
theorem ty_fd118_6:fdT Tryz.prog 118 6=some (6,false,1):=by kernel_rfl
theorem ty_fd118_7:fdT Tryz.prog 118 7=some (7,false,1):=by kernel_rfl
theorem ty_fd118_8:fdT Tryz.prog 118 8=some (8,true,3):=by kernel_rfl
theorem ty_fd118_9:fdT Tryz.prog 118 9=some (11,true,3):=by kernel_rfl
theorem ty_fd118_10:fdT Tryz.prog 118 10=some (14,true,7):=by kernel_rfl
theorem ty_fd118_11:fdT Tryz.prog 118 11=some (21,true,3):=by kernel_rfl
theorem ty_st118:stT Tryz.prog 118=some [(0,1),(1,1),(2,1),(3,1),(4,1),(5,1),(6,1),(7,1),(8,3),(11,3),(14,7),(21,3)]:=by kernel_rfl
theorem ty_ze118:zeT Tryz.prog 118=some [.d (.int .i64 0),.d (.str ByteArray.empty),.d (.str ByteArray.empty),.d (.str ByteArray.empty),.d (.str ByteArray.empty),.d (.int .i64 0),.nil,.d (.str ByteArray.empty),.d (.int .i64 0),.d (.int .i64 0),.d (.str ByteArray.empty),.d (.str ByteArray.empty),.nil,.nil,.d (.str ByteArray.empty),.d (.int .i64 0),.d (.str ByteArray.empty),.d (.int .i64 0),.d (.int .i64 0),.d (.int .i64 0),.d (.str ByteArray.empty),.d (.str ByteArray.empty),.nil,.d (.str ByteArray.empty)]:=by kernel_rfl
theorem ty_ld119:ldT Tryz.prog 119=some (false,1):=by kernel_rfl
theorem ty_el119:elT Tryz.prog 119=some (118,24,352):=by kernel_rfl
theorem ty_len119:lenT Tryz.prog 119=some false:=by kernel_rfl
theorem ty_sl119:slT Tryz.prog 119=true:=by kernel_rfl
theorem ty_ze119:zeT Tryz.prog 119=some [.nil]:=by kernel_rfl
theorem ty_ld120:ldT Tryz.prog 120=some (false,1):=by kernel_rfl
theorem ty_el120:elT Tryz.prog 120=some (118,24,352):=by kernel_rfl
theorem ty_len120:lenT Tryz.prog 120=some false:=by kernel_rfl
theorem ty_sl120:slT Tryz.prog 120=true:=by kernel_rfl
theorem ty_ze120:zeT Tryz.prog 120=some [.nil]:=by kernel_rfl
theorem ty_ld121:ldT Tryz.prog 121=some (true,2):=by kernel_rfl
theorem ty_fd121_0:fdT Tryz.prog 121 0=some (0,false,1):=by kernel_rfl
theorem ty_fd121_1:fdT Tryz.prog 121 1=some (1,false,1):=by kernel_rfl
theorem ty_st121:stT Tryz.prog 121=some [(0,1),(1,1)]:=by kernel_rfl
theorem ty_ze121:zeT Tryz.prog 121=some [.d (.int .i64 0),.nil]:=by kernel_rfl
theorem ty_ld122:ldT Tryz.prog 122=some (true,2):=by kernel_rfl
theorem ty_fd122_0:fdT Tryz.prog 122 0=some (0,false,1):=by kernel_rfl
theorem ty_fd122_1:fdT Tryz.prog 122 1=some (1,false,1):=by kernel_rfl
theorem ty_st122:stT Tryz.prog 122=some [(0,1),(1,1)]:=by kernel_rfl
theorem ty_ze122:zeT Tryz.prog 122=some [.d (.int .i64 0),.nil]:=by kernel_rfl
theorem ty_ld126:ldT Tryz.prog 126=some (false,1):=by kernel_rfl
theorem ty_el126:elT Tryz.prog 126=some (55,1,8):=by kernel_rfl
theorem ty_len126:lenT Tryz.prog 126=some false:=by kernel_rfl
theorem ty_sl126:slT Tryz.prog 126=true:=by kernel_rfl
theorem ty_ze126:zeT Tryz.prog 126=some [.nil]:=by kernel_rfl
theorem ty_ld142:ldT Tryz.prog 142=some (false,1):=by kernel_rfl
theorem ty_el142:elT Tryz.prog 142=some (4,1,1):=by kernel_rfl
theorem ty_len142:lenT Tryz.prog 142=some false:=by kernel_rfl
theorem ty_sl142:slT Tryz.prog 142=true:=by kernel_rfl
theorem ty_ze142:zeT Tryz.prog 142=some [.nil]:=by kernel_rfl
theorem ty_ld149:ldT Tryz.prog 149=some (false,1):=by kernel_rfl
theorem ty_el149:elT Tryz.prog 149=some (49,1,24):=by kernel_rfl
theorem ty_len149:lenT Tryz.prog 149=some false:=by kernel_rfl
theorem ty_sl149:slT Tryz.prog 149=true:=by kernel_rfl
theorem ty_ze149:zeT Tryz.prog 149=some [.nil]:=by kernel_rfl
theorem ty_ld153:ldT Tryz.prog 153=some (false,1):=by kernel_rfl
theorem ty_ze153:zeT Tryz.prog 153=some [.d (.int .u64 0)]:=by kernel_rfl
theorem ty_ld173:ldT Tryz.prog 173=some (false,1):=by kernel_rfl
theorem ty_el173:elT Tryz.prog 173=some (177,2,16):=by kernel_rfl
theorem ty_len173:lenT Tryz.prog 173=some false:=by kernel_rfl
theorem ty_sl173:slT Tryz.prog 173=true:=by kernel_rfl
theorem ty_ze173:zeT Tryz.prog 173=some [.nil]:=by kernel_rfl
theorem ty_ld176:ldT Tryz.prog 176=some (true,2):=by kernel_rfl
theorem ty_fd176_0:fdT Tryz.prog 176 0=some (0,false,1):=by kernel_rfl
theorem ty_fd176_1:fdT Tryz.prog 176 1=some (1,false,1):=by kernel_rfl
theorem ty_st176:stT Tryz.prog 176=some [(0,1),(1,1)]:=by kernel_rfl
theorem ty_ze176:zeT Tryz.prog 176=some [.d (.int .i64 0),.d (.bool false)]:=by kernel_rfl
theorem ty_ld177:ldT Tryz.prog 177=some (true,2):=by kernel_rfl
theorem ty_fd177_0:fdT Tryz.prog 177 0=some (0,false,1):=by kernel_rfl
theorem ty_fd177_1:fdT Tryz.prog 177 1=some (1,false,1):=by kernel_rfl
theorem ty_st177:stT Tryz.prog 177=some [(0,1),(1,1)]:=by kernel_rfl
theorem ty_ze177:zeT Tryz.prog 177=some [.d (.int .i64 0),.d (.bool false)]:=by kernel_rfl
theorem ty_ld188:ldT Tryz.prog 188=some (false,1):=by kernel_rfl
theorem ty_ze188:zeT Tryz.prog 188=some [.d (.int .i64 0)]:=by kernel_rfl
theorem ty_ld196:ldT Tryz.prog 196=some (false,1):=by kernel_rfl
theorem ty_ze196:zeT Tryz.prog 196=some [.d (.int .u32 0)]:=by kernel_rfl
theorem ty_ld198:ldT Tryz.prog 198=some (false,1):=by kernel_rfl
theorem ty_ze198:zeT Tryz.prog 198=some [.d (.int .u64 0)]:=by kernel_rfl
theorem ty_ld214:ldT Tryz.prog 214=some (false,1):=by kernel_rfl
theorem ty_ze214:zeT Tryz.prog 214=some [.d (.raw (.pointer none))]:=by kernel_rfl
theorem ty_ld220:ldT Tryz.prog 220=some (false,1):=by kernel_rfl
theorem ty_ze220:zeT Tryz.prog 220=some [.d (.int .u64 0)]:=by kernel_rfl
theorem ty_ld224:ldT Tryz.prog 224=some (false,1):=by kernel_rfl
theorem ty_ze224:zeT Tryz.prog 224=some [.d (.raw (.pointer none))]:=by kernel_rfl
theorem ty_ld227:ldT Tryz.prog 227=some (false,1):=by kernel_rfl
theorem ty_el227:elT Tryz.prog 227=some (5,1,1):=by kernel_rfl
theorem ty_len227:lenT Tryz.prog 227=some false:=by kernel_rfl
theorem ty_sl227:slT Tryz.prog 227=true:=by kernel_rfl
theorem ty_ze227:zeT Tryz.prog 227=some [.nil]:=by kernel_rfl
theorem ty_ld239:ldT Tryz.prog 239=some (false,1):=by kernel_rfl
theorem ty_ze239:zeT Tryz.prog 239=some [.d (.raw (.pointer none))]:=by kernel_rfl
theorem ty_ld240:ldT Tryz.prog 240=some (true,39):=by kernel_rfl
theorem ty_fd240_0:fdT Tryz.prog 240 0=some (0,true,24):=by kernel_rfl
theorem ty_fd240_1:fdT Tryz.prog 240 1=some (24,false,1):=by kernel_rfl
theorem ty_fd240_2:fdT Tryz.prog 240 2=some (25,true,3):=by kernel_rfl
theorem ty_fd240_3:fdT Tryz.prog 240 3=some (28,true,3):=by kernel_rfl
theorem ty_fd240_4:fdT Tryz.prog 240 4=some (31,true,3):=by kernel_rfl
theorem ty_fd240_5:fdT Tryz.prog 240 5=some (34,false,1):=by kernel_rfl
theorem ty_fd240_6:fdT Tryz.prog 240 6=some (35,false,1):=by kernel_rfl
theorem ty_fd240_7:fdT Tryz.prog 240 7=some (36,false,1):=by kernel_rfl
theorem ty_fd240_8:fdT Tryz.prog 240 8=some (37,false,1):=by kernel_rfl
theorem ty_fd240_9:fdT Tryz.prog 240 9=some (38,false,1):=by kernel_rfl
theorem ty_st240:stT Tryz.prog 240=some [(0,24),(24,1),(25,3),(28,3),(31,3),(34,1),(35,1),(36,1),(37,1),(38,1)]:=by kernel_rfl
theorem ty_ze240:zeT Tryz.prog 240=some [.d (.int .i64 0),.d (.str ByteArray.empty),.d (.str ByteArray.empty),.d (.str ByteArray.empty),.d (.str ByteArray.empty),.d (.int .i64 0),.nil,.d (.str ByteArray.empty),.d (.int .i64 0),.d (.int .i64 0),.d (.str ByteArray.empty),.d (.str ByteArray.empty),.nil,.nil,.d (.str ByteArray.empty),.d (.int .i64 0),.d (.str ByteArray.empty),.d (.int .i64 0),.d (.int .i64 0),.d (.int .i64 0),.d (.str ByteArray.empty),.d (.str ByteArray.empty),.nil,.d (.str ByteArray.empty),.d (.bool false),.nil,.nil,.nil,.nil,.nil,.nil,.nil,.nil,.nil,.nil,.nil,.nil,.nil,.d (.int .i64 0)]:=by kernel_rfl
theorem ty_ld241:ldT Tryz.prog 241=some (true,39):=by kernel_rfl
theorem ty_fd241_0:fdT Tryz.prog 241 0=some (0,true,24):=by kernel_rfl
theorem ty_fd241_1:fdT Tryz.prog 241 1=some (24,false,1):=by kernel_rfl
theorem ty_fd241_2:fdT Tryz.prog 241 2=some (25,true,3):=by kernel_rfl
theorem ty_fd241_3:fdT Tryz.prog 241 3=some (28,true,3):=by kernel_rfl
theorem ty_fd241_4:fdT Tryz.prog 241 4=some (31,true,3):=by kernel_rfl
theorem ty_fd241_5:fdT Tryz.prog 241 5=some (34,false,1):=by kernel_rfl
theorem ty_fd241_6:fdT Tryz.prog 241 6=some (35,false,1):=by kernel_rfl
theorem ty_fd241_7:fdT Tryz.prog 241 7=some (36,false,1):=by kernel_rfl
theorem ty_fd241_8:fdT Tryz.prog 241 8=some (37,false,1):=by kernel_rfl
theorem ty_fd241_9:fdT Tryz.prog 241 9=some (38,false,1):=by kernel_rfl
theorem ty_st241:stT Tryz.prog 241=some [(0,24),(24,1),(25,3),(28,3),(31,3),(34,1),(35,1),(36,1),(37,1),(38,1)]:=by kernel_rfl
theorem ty_ze241:zeT Tryz.prog 241=some [.d (.int .i64 0),.d (.str ByteArray.empty),.d (.str ByteArray.empty),.d (.str ByteArray.empty),.d (.str ByteArray.empty),.d (.int .i64 0),.nil,.d (.str ByteArray.empty),.d (.int .i64 0),.d (.int .i64 0),.d (.str ByteArray.empty),.d (.str ByteArray.empty),.nil,.nil,.d (.str ByteArray.empty),.d (.int .i64 0),.d (.str ByteArray.empty),.d (.int .i64 0),.d (.int .i64 0),.d (.int .i64 0),.d (.str ByteArray.empty),.d (.str ByteArray.empty),.nil,.d (.str ByteArray.empty),.d (.bool false),.nil,.nil,.nil,.nil,.nil,.nil,.nil,.nil,.nil,.nil,.nil,.nil,.nil,.d (.int .i64 0)]:=by kernel_rfl
theorem ty_ld243:ldT Tryz.prog 243=some (false,1):=by kernel_rfl
theorem ty_ze243:zeT Tryz.prog 243=some [.d (.raw (.pointer none))]:=by kernel_rfl
theorem ty_ld261:ldT Tryz.prog 261=some (false,1):=by kernel_rfl
theorem ty_ze261:zeT Tryz.prog 261=some [.d (.raw (.pointer none))]:=by kernel_rfl
theorem ty_ld296:ldT Tryz.prog 296=some (true,2):=by kernel_rfl
theorem ty_el296:elT Tryz.prog 296=none:=by kernel_rfl
theorem ty_ar296:arT Tryz.prog 296=some (2,1):=by kernel_rfl
theorem ty_ld313:ldT Tryz.prog 313=some (true,24):=by kernel_rfl
theorem ty_el313:elT Tryz.prog 313=none:=by kernel_rfl
theorem ty_ar313:arT Tryz.prog 313=some (24,1):=by kernel_rfl
theorem ty_ld322:ldT Tryz.prog 322=some (true,20):=by kernel_rfl
theorem ty_el322:elT Tryz.prog 322=none:=by kernel_rfl
theorem ty_ar322:arT Tryz.prog 322=some (20,1):=by kernel_rfl
theorem ty_ld323:ldT Tryz.prog 323=some (true,65):=by kernel_rfl
theorem ty_el323:elT Tryz.prog 323=none:=by kernel_rfl
theorem ty_ar323:arT Tryz.prog 323=some (65,1):=by kernel_rfl
theorem ty_ld327:ldT Tryz.prog 327=some (false,1):=by kernel_rfl
theorem ty_ld331:ldT Tryz.prog 331=some (true,32):=by kernel_rfl
theorem ty_el331:elT Tryz.prog 331=none:=by kernel_rfl
theorem ty_ar331:arT Tryz.prog 331=some (32,1):=by kernel_rfl
theorem ty_ld332:ldT Tryz.prog 332=some (true,64):=by kernel_rfl
theorem ty_el332:elT Tryz.prog 332=none:=by kernel_rfl
theorem ty_ar332:arT Tryz.prog 332=some (64,1):=by kernel_rfl
theorem ty_ld333:ldT Tryz.prog 333=some (false,1):=by kernel_rfl
theorem ty_ze333:zeT Tryz.prog 333=some [.d (.int .i64 0)]:=by kernel_rfl
theorem ty_ld336:ldT Tryz.prog 336=some (false,1):=by kernel_rfl
theorem ty_ze336:zeT Tryz.prog 336=some [.d (.raw (.pointer none))]:=by kernel_rfl
theorem ty_ld343:ldT Tryz.prog 343=some (true,3):=by kernel_rfl
theorem ty_fd343_0:fdT Tryz.prog 343 0=some (0,false,1):=by kernel_rfl
theorem ty_fd343_1:fdT Tryz.prog 343 1=some (1,false,1):=by kernel_rfl
theorem ty_fd343_2:fdT Tryz.prog 343 2=some (2,false,1):=by kernel_rfl
theorem ty_st343:stT Tryz.prog 343=some [(0,1),(1,1),(2,1)]:=by kernel_rfl
theorem ty_ld344:ldT Tryz.prog 344=some (true,3):=by kernel_rfl
theorem ty_fd344_0:fdT Tryz.prog 344 0=some (0,false,1):=by kernel_rfl
theorem ty_fd344_1:fdT Tryz.prog 344 1=some (1,false,1):=by kernel_rfl
theorem ty_fd344_2:fdT Tryz.prog 344 2=some (2,false,1):=by kernel_rfl
theorem ty_st344:stT Tryz.prog 344=some [(0,1),(1,1),(2,1)]:=by kernel_rfl
theorem ty_ld349:ldT Tryz.prog 349=some (false,1):=by kernel_rfl
theorem ty_ze349:zeT Tryz.prog 349=some [.d (.raw (.pointer none))]:=by kernel_rfl
theorem ty_ld350:ldT Tryz.prog 350=some (false,1):=by kernel_rfl
theorem ty_ze350:zeT Tryz.prog 350=some [.d (.raw (.pointer none))]:=by kernel_rfl
theorem ty_ld351:ldT Tryz.prog 351=some (true,1):=by kernel_rfl
theorem ty_fd351_0:fdT Tryz.prog 351 0=some (0,false,1):=by kernel_rfl
theorem ty_st351:stT Tryz.prog 351=some [(0,1)]:=by kernel_rfl
theorem ty_ze351:zeT Tryz.prog 351=some [.d (.str ByteArray.empty)]:=by kernel_rfl
theorem ty_ld352:ldT Tryz.prog 352=some (true,1):=by kernel_rfl
theorem ty_fd352_0:fdT Tryz.prog 352 0=some (0,false,1):=by kernel_rfl
theorem ty_st352:stT Tryz.prog 352=some [(0,1)]:=by kernel_rfl
theorem ty_ze352:zeT Tryz.prog 352=some [.d (.str ByteArray.empty)]:=by kernel_rfl
theorem ty_ld354:ldT Tryz.prog 354=some (true,4):=by kernel_rfl
theorem ty_fd354_0:fdT Tryz.prog 354 0=some (0,false,1):=by kernel_rfl
theorem ty_fd354_1:fdT Tryz.prog 354 1=some (1,false,1):=by kernel_rfl
theorem ty_fd354_2:fdT Tryz.prog 354 2=some (2,false,1):=by kernel_rfl
theorem ty_fd354_3:fdT Tryz.prog 354 3=some (3,false,1):=by kernel_rfl
theorem ty_st354:stT Tryz.prog 354=some [(0,1),(1,1),(2,1),(3,1)]:=by kernel_rfl
theorem ty_ze354:zeT Tryz.prog 354=some [.d (.raw (.pointer none)),.d (.raw (.pointer none)),.d (.raw (.pointer none)),.d (.str ByteArray.empty)]:=by kernel_rfl
theorem ty_ld355:ldT Tryz.prog 355=some (true,4):=by kernel_rfl
theorem ty_fd355_0:fdT Tryz.prog 355 0=some (0,false,1):=by kernel_rfl
theorem ty_fd355_1:fdT Tryz.prog 355 1=some (1,false,1):=by kernel_rfl
theorem ty_fd355_2:fdT Tryz.prog 355 2=some (2,false,1):=by kernel_rfl
theorem ty_fd355_3:fdT Tryz.prog 355 3=some (3,false,1):=by kernel_rfl
theorem ty_st355:stT Tryz.prog 355=some [(0,1),(1,1),(2,1),(3,1)]:=by kernel_rfl
theorem ty_ze355:zeT Tryz.prog 355=some [.d (.raw (.pointer none)),.d (.raw (.pointer none)),.d (.raw (.pointer none)),.d (.str ByteArray.empty)]:=by kernel_rfl
theorem ty_ld360:ldT Tryz.prog 360=some (false,1):=by kernel_rfl
theorem ty_ze360:zeT Tryz.prog 360=some [.d (.int .u8 0)]:=by kernel_rfl
theorem ty_ld361:ldT Tryz.prog 361=some (false,1):=by kernel_rfl
theorem ty_ze361:zeT Tryz.prog 361=some [.d (.int .u8 0)]:=by kernel_rfl
theorem ty_ld363:ldT Tryz.prog 363=some (false,1):=by kernel_rfl
theorem ty_ze363:zeT Tryz.prog 363=some [.d (.int .i32 0)]:=by kernel_rfl
theorem ty_ld364:ldT Tryz.prog 364=some (false,1):=by kernel_rfl
theorem ty_ze364:zeT Tryz.prog 364=some [.d (.int .i32 0)]:=by kernel_rfl
theorem ty_ld365:ldT Tryz.prog 365=some (true,11):=by kernel_rfl
theorem ty_fd365_0:fdT Tryz.prog 365 0=some (0,false,1):=by kernel_rfl
theorem ty_fd365_1:fdT Tryz.prog 365 1=some (1,false,1):=by kernel_rfl
theorem ty_fd365_2:fdT Tryz.prog 365 2=some (2,false,1):=by kernel_rfl
theorem ty_fd365_3:fdT Tryz.prog 365 3=some (3,false,1):=by kernel_rfl
theorem ty_fd365_4:fdT Tryz.prog 365 4=some (4,false,1):=by kernel_rfl
theorem ty_fd365_5:fdT Tryz.prog 365 5=some (5,false,1):=by kernel_rfl
theorem ty_fd365_6:fdT Tryz.prog 365 6=some (6,false,1):=by kernel_rfl
theorem ty_fd365_8:fdT Tryz.prog 365 8=some (8,false,1):=by kernel_rfl
theorem ty_fd365_9:fdT Tryz.prog 365 9=some (9,false,1):=by kernel_rfl
theorem ty_fd365_10:fdT Tryz.prog 365 10=some (10,false,1):=by kernel_rfl
theorem ty_ze365:zeT Tryz.prog 365=some [.d (.int .u64 0),.d (.int .u64 0),.d (.int .u32 0),.d (.int .u8 0),.d (.int .u8 0),.d (.int .u8 0),.d (.int .u8 0),.d (.raw .nilFunc),.d (.raw (.pointer none)),.d (.int .i32 0),.d (.int .i32 0)]:=by kernel_rfl
theorem ty_ld366:ldT Tryz.prog 366=some (true,11):=by kernel_rfl
theorem ty_fd366_0:fdT Tryz.prog 366 0=some (0,false,1):=by kernel_rfl
theorem ty_fd366_1:fdT Tryz.prog 366 1=some (1,false,1):=by kernel_rfl
theorem ty_fd366_2:fdT Tryz.prog 366 2=some (2,false,1):=by kernel_rfl
theorem ty_fd366_3:fdT Tryz.prog 366 3=some (3,false,1):=by kernel_rfl
theorem ty_fd366_4:fdT Tryz.prog 366 4=some (4,false,1):=by kernel_rfl
theorem ty_fd366_5:fdT Tryz.prog 366 5=some (5,false,1):=by kernel_rfl
theorem ty_fd366_6:fdT Tryz.prog 366 6=some (6,false,1):=by kernel_rfl
theorem ty_fd366_8:fdT Tryz.prog 366 8=some (8,false,1):=by kernel_rfl
theorem ty_fd366_9:fdT Tryz.prog 366 9=some (9,false,1):=by kernel_rfl
theorem ty_fd366_10:fdT Tryz.prog 366 10=some (10,false,1):=by kernel_rfl
theorem ty_ze366:zeT Tryz.prog 366=some [.d (.int .u64 0),.d (.int .u64 0),.d (.int .u32 0),.d (.int .u8 0),.d (.int .u8 0),.d (.int .u8 0),.d (.int .u8 0),.d (.raw .nilFunc),.d (.raw (.pointer none)),.d (.int .i32 0),.d (.int .i32 0)]:=by kernel_rfl
attribute [simp] ty_ld2 ty_ze2 ty_ld3 ty_ze3 ty_ld4 ty_bt4 ty_ze4 ty_ld5 ty_ze5 ty_ld6 ty_ze6 ty_ld7 ty_fd7_0 ty_fd7_1 ty_fd7_2 ty_fd7_3 ty_st7 ty_ze7 ty_ld8 ty_fd8_0 ty_fd8_1 ty_fd8_2 ty_fd8_3 ty_st8 ty_ze8 ty_ld9 ty_el9 ty_len9 ty_str9 ty_ze9 ty_ld10 ty_el10 ty_len10 ty_str10 ty_ze10 ty_ld11 ty_el11 ty_len11 ty_str11 ty_ze11 ty_ld12 ty_ze12 ty_ld13 ty_fd13_0 ty_fd13_1 ty_st13 ty_ze13 ty_ld14 ty_fd14_0 ty_fd14_1 ty_st14 ty_ze14 ty_ld15 ty_ze15 ty_ld16 ty_ze16 ty_ld17 ty_ze17 ty_ld18 ty_fd18_0 ty_st18 ty_ze18 ty_ld19 ty_fd19_0 ty_st19 ty_ze19 ty_ld21 ty_ze21 ty_ld22 ty_el22 ty_len22 ty_sl22 ty_ze22 ty_ld23 ty_el23 ty_len23 ty_sl23 ty_ze23 ty_ld24 ty_fd24_0 ty_fd24_1 ty_st24 ty_ze24 ty_ld25 ty_fd25_0 ty_fd25_1 ty_st25 ty_ze25 ty_ld28 ty_el28 ty_len28 ty_sl28 ty_ze28 ty_ld29 ty_el29 ty_len29 ty_sl29 ty_ze29 ty_ld30 ty_el30 ty_len30 ty_sl30 ty_ze30 ty_ld31 ty_fd31_0 ty_fd31_1 ty_fd31_2 ty_st31 ty_ze31 ty_ld32 ty_fd32_0 ty_fd32_1 ty_fd32_2 ty_st32 ty_ze32 ty_ld33 ty_el33 ty_len33 ty_sl33 ty_ze33 ty_ld34 ty_fd34_0 ty_fd34_1 ty_st34 ty_ze34 ty_ld35 ty_fd35_0 ty_fd35_1 ty_st35 ty_ze35 ty_ld38 ty_el38 ty_len38 ty_sl38 ty_ze38 ty_ld39 ty_el39 ty_len39 ty_sl39 ty_ze39 ty_ld40 ty_el40 ty_len40 ty_sl40 ty_ze40 ty_ld41 ty_fd41_0 ty_fd41_1 ty_st41 ty_ze41 ty_ld42 ty_fd42_0 ty_fd42_1 ty_st42 ty_ze42 ty_ld43 ty_el43 ty_len43 ty_sl43 ty_ze43 ty_ld44 ty_el44 ty_len44 ty_sl44 ty_ze44 ty_ld45 ty_fd45_0 ty_fd45_1 ty_fd45_2 ty_st45 ty_ze45 ty_ld46 ty_fd46_0 ty_fd46_1 ty_fd46_2 ty_st46 ty_ze46 ty_ld49 ty_el49 ty_len49 ty_sl49 ty_ze49 ty_ld50 ty_el50 ty_len50 ty_sl50 ty_ze50 ty_ld51 ty_fd51_0 ty_fd51_1 ty_fd51_2 ty_fd51_3 ty_st51 ty_ze51 ty_ld52 ty_fd52_0 ty_fd52_1 ty_fd52_2 ty_fd52_3 ty_st52 ty_ze52 ty_ld53 ty_fd53_0 ty_fd53_1 ty_fd53_2 ty_fd53_3 ty_st53 ty_ze53 ty_ld54 ty_fd54_0 ty_fd54_1 ty_fd54_2 ty_fd54_3 ty_st54 ty_ze54 ty_ld55 ty_ze55 ty_ld63 ty_el63 ty_len63 ty_sl63 ty_ze63 ty_ld64 ty_el64 ty_len64 ty_sl64 ty_ze64 ty_ld65 ty_fd65_0 ty_fd65_1 ty_fd65_2 ty_st65 ty_ze65 ty_ld66 ty_fd66_0 ty_fd66_1 ty_fd66_2 ty_st66 ty_ze66 ty_ld100 ty_el100 ty_len100 ty_sl100 ty_ze100 ty_ld107 ty_el107 ty_len107 ty_sl107 ty_ze107 ty_ld110 ty_fd110_0 ty_fd110_1 ty_fd110_2 ty_st110 ty_ze110 ty_ld111 ty_fd111_0 ty_fd111_1 ty_fd111_2 ty_st111 ty_ze111 ty_ld113 ty_fd113_0 ty_fd113_1 ty_fd113_2 ty_fd113_3 ty_fd113_4 ty_st113 ty_ze113 ty_ld114 ty_fd114_0 ty_fd114_1 ty_fd114_2 ty_fd114_3 ty_fd114_4 ty_st114 ty_ze114 ty_ld115 ty_fd115_0 ty_fd115_1 ty_fd115_2 ty_st115 ty_ze115 ty_ld116 ty_fd116_0 ty_fd116_1 ty_fd116_2 ty_st116 ty_ze116 ty_ld117 ty_fd117_0 ty_fd117_1 ty_fd117_2 ty_fd117_3 ty_fd117_4 ty_fd117_5 ty_fd117_6 ty_fd117_7 ty_fd117_8 ty_fd117_9 ty_fd117_10 ty_fd117_11 ty_st117 ty_ze117 ty_ld118 ty_fd118_0 ty_fd118_1 ty_fd118_2 ty_fd118_3 ty_fd118_4 ty_fd118_5 ty_fd118_6 ty_fd118_7 ty_fd118_8 ty_fd118_9 ty_fd118_10 ty_fd118_11 ty_st118 ty_ze118 ty_ld119 ty_el119 ty_len119 ty_sl119 ty_ze119 ty_ld120 ty_el120 ty_len120 ty_sl120 ty_ze120 ty_ld121 ty_fd121_0 ty_fd121_1 ty_st121 ty_ze121 ty_ld122 ty_fd122_0 ty_fd122_1 ty_st122 ty_ze122 ty_ld126 ty_el126 ty_len126 ty_sl126 ty_ze126 ty_ld142 ty_el142 ty_len142 ty_sl142 ty_ze142 ty_ld149 ty_el149 ty_len149 ty_sl149 ty_ze149 ty_ld153 ty_ze153 ty_ld173 ty_el173 ty_len173 ty_sl173 ty_ze173 ty_ld176 ty_fd176_0 ty_fd176_1 ty_st176 ty_ze176 ty_ld177 ty_fd177_0 ty_fd177_1 ty_st177 ty_ze177 ty_ld188 ty_ze188 ty_ld196 ty_ze196 ty_ld198 ty_ze198 ty_ld214 ty_ze214 ty_ld220 ty_ze220 ty_ld224 ty_ze224 ty_ld227 ty_el227 ty_len227 ty_sl227 ty_ze227 ty_ld239 ty_ze239 ty_ld240 ty_fd240_0 ty_fd240_1 ty_fd240_2 ty_fd240_3 ty_fd240_4 ty_fd240_5 ty_fd240_6 ty_fd240_7 ty_fd240_8 ty_fd240_9 ty_st240 ty_ze240 ty_ld241 ty_fd241_0 ty_fd241_1 ty_fd241_2 ty_fd241_3 ty_fd241_4 ty_fd241_5 ty_fd241_6 ty_fd241_7 ty_fd241_8 ty_fd241_9 ty_st241 ty_ze241 ty_ld243 ty_ze243 ty_ld261 ty_ze261 ty_ld296 ty_el296 ty_ar296 ty_ld313 ty_el313 ty_ar313 ty_ld322 ty_el322 ty_ar322 ty_ld323 ty_el323 ty_ar323 ty_ld327 ty_ld331 ty_el331 ty_ar331 ty_ld332 ty_el332 ty_ar332 ty_ld333 ty_ze333 ty_ld336 ty_ze336 ty_ld343 ty_fd343_0 ty_fd343_1 ty_fd343_2 ty_st343 ty_ld344 ty_fd344_0 ty_fd344_1 ty_fd344_2 ty_st344 ty_ld349 ty_ze349 ty_ld350 ty_ze350 ty_ld351 ty_fd351_0 ty_st351 ty_ze351 ty_ld352 ty_fd352_0 ty_st352 ty_ze352 ty_ld354 ty_fd354_0 ty_fd354_1 ty_fd354_2 ty_fd354_3 ty_st354 ty_ze354 ty_ld355 ty_fd355_0 ty_fd355_1 ty_fd355_2 ty_fd355_3 ty_st355 ty_ze355 ty_ld360 ty_ze360 ty_ld361 ty_ze361 ty_ld363 ty_ze363 ty_ld364 ty_ze364 ty_ld365 ty_fd365_0 ty_fd365_1 ty_fd365_2 ty_fd365_3 ty_fd365_4 ty_fd365_5 ty_fd365_6 ty_fd365_8 ty_fd365_9 ty_fd365_10 ty_ze365 ty_ld366 ty_fd366_0 ty_fd366_1 ty_fd366_2 ty_fd366_3 ty_fd366_4 ty_fd366_5 ty_fd366_6 ty_fd366_8 ty_fd366_9 ty_fd366_10 ty_ze366
theorem follows:Tryz.prog.follows .mixedOrders=true:=by kernel_rfl
structure GV where
 kind:Int
 int:Int
 text:ByteArray
def GV.enc (v:GV):List D:=[.int .i64 v.kind,.int .i64 v.int,.str v.text]
def GV.zero:GV:=⟨0,0,ByteArray.empty⟩
def encI (n:Int):List D:=[.int .i64 n]
structure Col where
 name:ByteArray
 kind:Int
 nullable:Bool
def Col.enc (c:Col):List D:=[.str c.name,.int .i64 c.kind,.bool c.nullable]
structure Tbl where
 name:ByteArray
 cols:List Col
 pk:List Int
def Tbl.enc (t:Tbl):List D:=[.str t.name,.sl (t.cols.map Col.enc),.sl (t.pk.map encI)]
structure Fk where
 table:ByteArray
 cols:List Int
 ref:ByteArray
def Fk.enc (k:Fk):List D:=[.str k.table,.sl (k.cols.map encI),.str k.ref]
structure Cons where
 table:ByteArray
 left:Int
 op:ByteArray
 right:Int
 value:GV
def Cons.enc (c:Cons):List D:=[.str c.table,.int .i64 c.left,.str c.op,.int .i64 c.right,.int .i64 c.value.kind,.int .i64 c.value.int,.str c.value.text]
structure Sch where
 tables:List Tbl
 fks:List Fk
 cons:List Cons
def Sch.enc (s:Sch):List D:=[.sl (s.tables.map Tbl.enc),.sl (s.fks.map Fk.enc),.sl (s.cons.map Cons.enc)]
@[simp] theorem GV.enc_length {v:GV}:v.enc.length=3:=rfl
@[simp] theorem encI_length {v:Int}:(encI v).length=1:=rfl
@[simp] theorem Col.enc_length {v:Col}:v.enc.length=3:=rfl
@[simp] theorem Tbl.enc_length {v:Tbl}:v.enc.length=3:=rfl
@[simp] theorem Fk.enc_length {v:Fk}:v.enc.length=3:=rfl
@[simp] theorem Cons.enc_length {v:Cons}:v.enc.length=7:=rfl
@[simp] theorem Sch.enc_length {v:Sch}:v.enc.length=3:=rfl
def encB (b:Bool):List D:=[.bool b]
def encS (b:ByteArray):List D:=[.str b]
def encL {α:Type} (f:α→List D) (xs:List α):List D:=[.sl (xs.map f)]
structure Rel where
 table:ByteArray
 rows:List (List GV)
def Rel.enc (x:Rel):List D:=[.str x.table,.sl (x.rows.map (encL GV.enc))]
structure Chg where
 kind:Int
 table:ByteArray
 key:List GV
 row:List GV
def Chg.enc (x:Chg):List D:=[.int .i64 x.kind,.str x.table,.sl (x.key.map GV.enc),.sl (x.row.map GV.enc)]
structure Stp where
 kind:Int
 table:ByteArray
 other:ByteArray
 column:ByteArray
 newName:ByteArray
 type:Int
 cols:List Int
 op:ByteArray
 value:GV
 newTable:Tbl
 cons:Cons
 fk:Fk
def Stp.enc (x:Stp):List D:=[.int .i64 x.kind,.str x.table,.str x.other,.str x.column,.str x.newName,.int .i64 x.type,.sl (x.cols.map encI),.str x.op,
 .int .i64 x.value.kind,.int .i64 x.value.int,.str x.value.text,.str x.newTable.name,.sl (x.newTable.cols.map Col.enc),.sl (x.newTable.pk.map encI),
 .str x.cons.table,.int .i64 x.cons.left,.str x.cons.op,.int .i64 x.cons.right,.int .i64 x.cons.value.kind,.int .i64 x.cons.value.int,.str x.cons.value.text,
 .str x.fk.table,.sl (x.fk.cols.map encI),.str x.fk.ref]
structure Edg where
 parent:Int
 script:List Stp
def Edg.enc (x:Edg):List D:=[.int .i64 x.parent,.sl (x.script.map Stp.enc)]
structure Gr where
 base:Sch
 edges:List Edg
def Gr.enc (x:Gr):List D:=[.sl (x.base.tables.map Tbl.enc),.sl (x.base.fks.map Fk.enc),.sl (x.base.cons.map Cons.enc),.sl (x.edges.map Edg.enc)]
structure Db where
 insts:List (List Rel)
 comps:List (List (List Rel))
def Db.enc (x:Db):List D:=[.sl (x.insts.map (encL Rel.enc)),.sl (x.comps.map (encL (encL Rel.enc)))]
structure Rule where
 user:ByteArray
 version:Int
 table:ByteArray
 cols:List Int
 preds:List Cons
 write:Bool
def Rule.enc (x:Rule):List D:=[.str x.user,.int .i64 x.version,.str x.table,.sl (x.cols.map encI),.sl (x.preds.map Cons.enc),.bool x.write]
structure Hop where
 edge:Int
 back:Bool
def Hop.enc (x:Hop):List D:=[.int .i64 x.edge,.bool x.back]
structure Rej where
 version:Int
 err:Int
def Rej.enc (x:Rej):List D:=[.int .i64 x.version,.int .i64 x.err]
structure Wr where
 version:Int
 changes:List Chg
def Wr.enc (x:Wr):List D:=[.int .i64 x.version,.sl (x.changes.map Chg.enc)]
structure Mp where
 step:Stp
 fwd:Bool
 src:Sch
 dst:Sch
 cs:Sch
 inp:List Rel
 comp:List Rel
 out:List Rel
 nc:List Rel
 err:Int
def Mp.enc (m:Mp):List D:=m.step.enc++[.bool m.fwd,.sl (m.src.tables.map Tbl.enc),.sl (m.src.fks.map Fk.enc),.sl (m.src.cons.map Cons.enc),.sl (m.dst.tables.map Tbl.enc),.sl (m.dst.fks.map Fk.enc),.sl (m.dst.cons.map Cons.enc),
 .sl (m.cs.tables.map Tbl.enc),.sl (m.cs.fks.map Fk.enc),.sl (m.cs.cons.map Cons.enc),.sl (m.inp.map Rel.enc),.sl (m.comp.map Rel.enc)]
structure Txn where
 version:Int
 snapshot:List Rel
 tables:List ByteArray
 changes:List Chg
def Txn.enc (x:Txn):List D:=[.int .i64 x.version,.sl (x.snapshot.map Rel.enc),.sl (x.tables.map encS),.sl (x.changes.map Chg.enc)]
attribute [simp] Txn.enc encI encB encS encL Hop.enc Rej.enc Wr.enc Mp.enc GV.enc Col.enc Tbl.enc Fk.enc Cons.enc Sch.enc Rel.enc Chg.enc Stp.enc Edg.enc Gr.enc Db.enc Rule.enc
@[simp] theorem ba_empty:({ data:=#[] }:ByteArray)=ByteArray.empty:=rfl
attribute [simp] useUp_box
@[simp] theorem lim_eq {n:Nat}:(n≤LIM)=(n≤2097152):=rfl
@[simp] theorem eq_value:EqT Tryz.prog 46 [.int .i64,.int .i64,.str]:=eqT_of (fs:=Tryz.prog.fieldsOf 46) (by kernel_rfl) (by kernel_rfl) (by kernel_rfl)
@[simp] theorem eq_column:EqT Tryz.prog 111 [.str,.int .i64,.bool]:=eqT_of (fs:=Tryz.prog.fieldsOf 111) (by kernel_rfl) (by kernel_rfl) (by kernel_rfl)
@[simp] theorem eq_cons:EqT Tryz.prog 114 [.str,.int .i64,.str,.int .i64,.int .i64,.int .i64,.str]:=eqT_of (fs:=Tryz.prog.fieldsOf 114) (by kernel_rfl) (by kernel_rfl) (by kernel_rfl)
theorem bound1 {P:Program} {f:FuncId} {xs:List (List D)} {rest:List AV} {r:RV} (hf:FnOK P f) (h:xs.length≤LIM→PSpec P f (.one (.d (.sl xs))::rest) r):PSpec P f (.one (.d (.sl xs))::rest) r:=by
 refine⟨hf,fun w m t vals hg hm ht hargs=>?_⟩
 obtain⟨u,_,hr⟩:=hargs.2 0 _ rfl
 have hr':RepD m (.sl xs) u:=hr
 obtain⟨_,_,_,_,hl⟩:=hr'.slice
 exact (h hl).2 w m t vals hg hm ht hargs
theorem calls_compareString (a b:ByteArray) (w:World) :
  Calls Tryz.prog 153 #[.string a,.string b] w fun e w'=>e=.returned (.int .i64 (Lib.compareBytes a.data.toList b.data.toList))∧w'=w:=by
 go_enter Tryz.func153,Tryz.ntmps153
 go_wp2
 rw[run_callFunc_extern Tryz.func173 (by kernel_rfl) (by kernel_rfl) (by kernel_rfl) (e:=Extern.BytealgCompare.compare) (by kernel_rfl),Lib.run_compareString]
 simp only[Result.andThen]
 rw[Oper.upon_value]
 go_wp2
 go_ret
 exact⟨rfl,rfl⟩
def cmpS (a b:ByteArray):Int:=Lib.compareBytes a.data.toList b.data.toList
theorem compareString (a b:ByteArray):PSpec Tryz.prog 153 [.one (.d (.str a)),.one (.d (.str b))] (.one (.d (.int .i64 (cmpS a b)))):=by
 refine⟨⟨_,Tryz.func153,by kernel_rfl,by kernel_rfl⟩,fun w m t vals hgok hm ht hargs=>?_⟩
 obtain⟨hs,hg⟩:=hargs
 obtain⟨u0,h0,r0⟩:=hg 0 _ rfl
 obtain⟨u1,h1,r1⟩:=hg 1 _ rfl
 have e0:u0=.string a:=RepD.str_inv (m:=m) r0
 have e1:u1=.string b:=RepD.str_inv (m:=m) r1
 subst e0 e1
 have hv:vals=#[.string a,.string b]:=by
  apply Array.ext_getElem?
  intro i
  match i with
  | 0=>simpa using h0
  | 1=>simpa using h1
  | i+2=>rw[Array.getElem?_eq_none (by simp at hs;omega)];simp
 subst hv
 refine (calls_compareString a b w).mono ?_
 rintro e w' ⟨rfl,rfl⟩
 exact⟨_,m,fun _=>(none,0),rfl,Sub.refl _,fun _ _ _ _ h=>h,hm,Go.RowKit.Below.refl _ _,RepD.int _ _,⟨fun x hx=>by simp[RV.fr,RV1.fr,RC.fr] at hx,fun x hx=>by simp[RV.fr,RV1.fr,RC.fr] at hx⟩⟩
theorem stringsCompare (a b:ByteArray):PSpec Tryz.prog 134 [.one (.d (.str a)),.one (.d (.str b))] (.one (.d (.int .i64 (cmpS a b)))):=by
 refine PSpec.of_vc Tryz.func134 rfl (by kernel_rfl) (n:=8) rfl rfl (by simp) ?_
 simp
 refine callK_fn (compareString a b) (by simp) ?_
 simp
 exact ret_d (by simp;rfl) rfl
def m_strings_Compare (a b:ByteArray):Option Int:=some (cmpS a b)
theorem c_strings_Compare (a b:ByteArray) (r:Int) (hm:Is (m_strings_Compare a b) r):PSpec Tryz.prog 134 [.one (.d (.str a)),.one (.d (.str b))] (.one (.d (.int .i64 r))):=by
 obtain rfl:=r_ret hm
 exact stringsCompare a b
end Go.Proofs.YthiojhcimecdgaaGreatDoor
end
section
namespace Go.Proofs.YthiojhcimecdgaaGreatDoor
open Go Go.Am
theorem tyD_int {P:Program} {B n:Nat} {t:TypeId} {ds:List D} (hu:P.underlying t=some (.int .i64)) (h:tyD P B n t ds):∃ v:Int,ds=encI v:=by
 cases n with
 | zero=>cases h
 | succ n=>simp only[tyD,hu] at h;obtain⟨v,h1,_⟩:=h;exact⟨v,h1⟩
theorem tyD_string {P:Program} {B n:Nat} {t:TypeId} {ds:List D} (hu:P.underlying t=some .string) (h:tyD P B n t ds):∃ v:ByteArray,ds=encS v:=by
 cases n with
 | zero=>cases h
 | succ n=>simp only[tyD,hu] at h;exact h
theorem tyD_slice {P:Program} {B n:Nat} {t e:TypeId} {ds:List D} (hu:P.underlying t=some (.slice e)) (h:tyD P B n t ds):∃ m xs,ds=[.sl xs]∧xs.length≤B∧∀ x ∈ xs,tyD P B m e x:=by
 cases n with
 | zero=>cases h
 | succ n=>simp only[tyD,hu] at h;obtain⟨xs,h1,h2,h3⟩:=h;exact⟨n,xs,h1,h2,h3⟩
theorem tyD_struct {P:Program} {B n:Nat} {t:TypeId} {fs:Array Field} {ds:List D} (hu:P.underlying t=some (.struct fs)) (h:tyD P B n t ds):∃ m,tyFs (tyD P B m) fs.toList ds:=by
 cases n with
 | zero=>cases h
 | succ n=>simp only[tyD,hu] at h;exact⟨n,h⟩
theorem dec_list {α:Type} {enc:α→List D} {S:α→Prop}:∀ {xs:List (List D)},(∀ x ∈ xs,∃ v,x=enc v∧S v)→∃ vs:List α,xs=vs.map enc∧vs.length=xs.length∧∀ v ∈ vs,S v
 | [],_=>⟨[],rfl,rfl,by simp⟩
 | x::xs,h=>by
   obtain⟨v,h1,h2⟩:=h x (by simp)
   obtain⟨vs,h3,h4,h5⟩:=dec_list fun y hy=>h y (List.mem_cons_of_mem _ hy)
   exact⟨v::vs,by simp[h1,← h3],by simp[h4],by simpa using⟨h2,h5⟩⟩
theorem dec3 {B n:Nat} {ds:List D} (h:tyD Tryz.prog B n 3 ds):∃ v:Int,ds=encI v∧True:=by
 obtain⟨v,hv⟩:=tyD_int Tryz.underlying3 h
 exact⟨v,hv,trivial⟩
theorem dec9 {B n:Nat} {ds:List D} (h:tyD Tryz.prog B n 9 ds):∃ v:ByteArray,ds=encS v∧True:=by
 obtain⟨v,hv⟩:=tyD_string Tryz.underlying9 h
 exact⟨v,hv,trivial⟩
def bd46 (B:Nat) (x:GV):Prop:=True∧True∧True
theorem dec46 {B n:Nat} {ds:List D} (h:tyD Tryz.prog B n 46 ds):∃ v:GV,ds=v.enc∧bd46 B v:=by
 obtain⟨m,hm⟩:=tyD_struct Tryz.underlying46 h
 obtain⟨a0,r0,e0,t0,hm⟩:=hm
 obtain⟨v0,w0,b0⟩:=dec3 t0
 obtain⟨a1,r1,e1,t1,hm⟩:=hm
 obtain⟨v1,w1,b1⟩:=dec3 t1
 obtain⟨a2,r2,e2,t2,hm⟩:=hm
 obtain⟨v2,w2,b2⟩:=dec9 t2
 have e3:r2=[]:=hm
 subst w0 w1 w2
 refine⟨⟨v0,v1,v2⟩,?_,b0,b1,b2⟩
 rw[e0,e1,e2,e3]
 rfl
def bd44 (B:Nat) (xs:List GV):Prop:=xs.length≤B∧∀ x ∈ xs,bd46 B x
theorem dec44 {B n:Nat} {ds:List D} (h:tyD Tryz.prog B n 44 ds):∃ v:List GV,ds=[.sl (v.map GV.enc)]∧bd44 B v:=by
 obtain⟨m,xs,rfl,hl,hx⟩:=tyD_slice Tryz.underlying44 h
 obtain⟨vs,rfl,h1,h2⟩:=dec_list (enc:=GV.enc) (S:=fun x=>bd46 B x) fun x hx1=>dec46 (hx x hx1)
 exact⟨vs,rfl,by simpa using hl,h2⟩
def bd40 (B:Nat) (xs:List (List GV)):Prop:=xs.length≤B∧∀ x ∈ xs,bd44 B x
theorem dec40 {B n:Nat} {ds:List D} (h:tyD Tryz.prog B n 40 ds):∃ v:List (List GV),ds=[.sl (v.map (encL GV.enc))]∧bd40 B v:=by
 obtain⟨m,xs,rfl,hl,hx⟩:=tyD_slice Tryz.underlying40 h
 obtain⟨vs,rfl,h1,h2⟩:=dec_list (enc:=(encL GV.enc)) (S:=fun x=>bd44 B x) fun x hx1=>dec44 (hx x hx1)
 exact⟨vs,rfl,by simpa using hl,h2⟩
def bd42 (B:Nat) (x:Rel):Prop:=True∧bd40 B x.rows
theorem dec42 {B n:Nat} {ds:List D} (h:tyD Tryz.prog B n 42 ds):∃ v:Rel,ds=v.enc∧bd42 B v:=by
 obtain⟨m,hm⟩:=tyD_struct Tryz.underlying42 h
 obtain⟨a0,r0,e0,t0,hm⟩:=hm
 obtain⟨v0,w0,b0⟩:=dec9 t0
 obtain⟨a1,r1,e1,t1,hm⟩:=hm
 obtain⟨v1,w1,b1⟩:=dec40 t1
 have e2:r1=[]:=hm
 subst w0 w1
 refine⟨⟨v0,v1⟩,?_,b0,b1⟩
 rw[e0,e1,e2]
 rfl
def bd39 (B:Nat) (xs:List Rel):Prop:=xs.length≤B∧∀ x ∈ xs,bd42 B x
theorem dec39 {B n:Nat} {ds:List D} (h:tyD Tryz.prog B n 39 ds):∃ v:List Rel,ds=[.sl (v.map Rel.enc)]∧bd39 B v:=by
 obtain⟨m,xs,rfl,hl,hx⟩:=tyD_slice Tryz.underlying39 h
 obtain⟨vs,rfl,h1,h2⟩:=dec_list (enc:=Rel.enc) (S:=fun x=>bd42 B x) fun x hx1=>dec42 (hx x hx1)
 exact⟨vs,rfl,by simpa using hl,h2⟩
def bd22 (B:Nat) (xs:List (List Rel)):Prop:=xs.length≤B∧∀ x ∈ xs,bd39 B x
theorem dec22 {B n:Nat} {ds:List D} (h:tyD Tryz.prog B n 22 ds):∃ v:List (List Rel),ds=[.sl (v.map (encL Rel.enc))]∧bd22 B v:=by
 obtain⟨m,xs,rfl,hl,hx⟩:=tyD_slice Tryz.underlying22 h
 obtain⟨vs,rfl,h1,h2⟩:=dec_list (enc:=(encL Rel.enc)) (S:=fun x=>bd39 B x) fun x hx1=>dec39 (hx x hx1)
 exact⟨vs,rfl,by simpa using hl,h2⟩
def bd23 (B:Nat) (xs:List (List (List Rel))):Prop:=xs.length≤B∧∀ x ∈ xs,bd22 B x
theorem dec23 {B n:Nat} {ds:List D} (h:tyD Tryz.prog B n 23 ds):∃ v:List (List (List Rel)),ds=[.sl (v.map (encL (encL Rel.enc)))]∧bd23 B v:=by
 obtain⟨m,xs,rfl,hl,hx⟩:=tyD_slice Tryz.underlying23 h
 obtain⟨vs,rfl,h1,h2⟩:=dec_list (enc:=(encL (encL Rel.enc))) (S:=fun x=>bd22 B x) fun x hx1=>dec22 (hx x hx1)
 exact⟨vs,rfl,by simpa using hl,h2⟩
def bd25 (B:Nat) (x:Db):Prop:=bd22 B x.insts∧bd23 B x.comps
theorem dec25 {B n:Nat} {ds:List D} (h:tyD Tryz.prog B n 25 ds):∃ v:Db,ds=v.enc∧bd25 B v:=by
 obtain⟨m,hm⟩:=tyD_struct Tryz.underlying25 h
 obtain⟨a0,r0,e0,t0,hm⟩:=hm
 obtain⟨v0,w0,b0⟩:=dec22 t0
 obtain⟨a1,r1,e1,t1,hm⟩:=hm
 obtain⟨v1,w1,b1⟩:=dec23 t1
 have e2:r1=[]:=hm
 subst w0 w1
 refine⟨⟨v0,v1⟩,?_,b0,b1⟩
 rw[e0,e1,e2]
 rfl
theorem laid_reads {P:Program} {w:World}:∀ {l:List (String × DataW Unit)} {ps:List MemPlace},DataW.LaidVars P w l ps→∀ n d,(n,d) ∈ l →
  ∃ g t cs fuel p,P.globalNamed n=some g∧(P.globals[g]?).map (·.type)=some t∧w.var? P n=some cs∧DataW.trod (fun _=>()) P w 0 (fun _=>true) false fuel t cs.toList=some (d,p)
 | [],_,_,_,_,hm=>by cases hm
 | (n',d')::r,ps,h,n,d,hm=>by
   obtain⟨g,t,cs,fuel,p,q,h1,h2,h3,h4,h5,_⟩:=h
   rcases List.mem_cons.1 hm with e | e
   ·cases e
    exact⟨g,t,cs,fuel,p,h1,h2,h3,h4⟩
   ·exact laid_reads h5 n d e
theorem var_block {P:Program} {w:World} {n:String} {g:Nat} {cs:Array Value} (hg:P.globalNamed n=some g) (h:w.var? P n=some cs):∃ T l,w.heap[g]?=some (.cells cs T l):=by
 unfold World.var? at h
 rw[hg] at h
 simp only[Option.bind_some] at h
 split at h
 ·cases h
  exact⟨_,_,by assumption⟩
 ·cases h
theorem block_cell {w:World} {g:Nat} {v:Value} {T:TypeId} {l:Nat × Nat} {cs:Array Value} (h:w.heap[g]?=some (.cells cs T l)) (hc:cs.toList=[v]):w.cell? ⟨g,0,none⟩=some v:=by
 have:cs[0]?=some v:=by rw[← Array.getElem?_toList,hc];rfl
 unfold World.cell?
 simp[h,this]
theorem some_eq {α:Type} {x:Option α} {a b:α} (h:x=some a) (k:x=some b):b=a:=Option.some.inj (k.symm.trans h)
theorem gok_of {W:World} {l:List (String × DataW Unit)} (hl:l=Rows.databaseCloneIsIndependentUptoRow.laid) (hL:laidMetH Tryz.prog l W) (hsh:W.ShapedOpen Tryz.prog):GOK W:=by
 subst hl
 rw[MakeChecks.laidMetH_plain _ _ _ (by kernel_rfl)] at hL
 obtain⟨_,hv,_⟩:=hL
 obtain⟨ga,ta,ca,_,_,a1,_,a3,_⟩:=laid_reads hv _ _ (.tail _ (.head _))
 obtain rfl:=some_eq (a:=3) (by kernel_rfl) a1
 obtain⟨Ta,la,a5⟩:=var_block a1 a3
 obtain⟨gb,tb,cb,fb,pb,b1,b2,b3,b4⟩:=laid_reads hv _ _ (.tail _ (.tail _ (.head _)))
 obtain rfl:=some_eq (a:=1) (by kernel_rfl) b1
 obtain rfl:=some_eq (a:=322) (by kernel_rfl) b2
 obtain⟨Tb,lb,b5⟩:=var_block b1 b3
 have hb:=Lib.cells_of_tab (zs:=Lib.pow10Tab) Tryz.underlying322 Tryz.underlying198 (by kernel_rfl) (by kernel_rfl) b4
 obtain⟨gc,tc,cc,fc,pc,c1,c2,c3,c4⟩:=laid_reads hv _ _ (.tail _ (.tail _ (.tail _ (.tail _ (.head _)))))
 obtain rfl:=some_eq (a:=4) (by kernel_rfl) c1
 obtain rfl:=some_eq (a:=327) (by kernel_rfl) c2
 obtain⟨Tc,lc,c5⟩:=var_block c1 c3
 obtain⟨_,uc,vc,hc,_⟩:=iface_of_trod Tryz.underlying327 c4
 obtain⟨gd,td,cd,fd,pd,d1,d2,d3,d4⟩:=laid_reads hv _ _ (.tail _ (.tail _ (.tail _ (.head _))))
 obtain rfl:=some_eq (a:=5) (by kernel_rfl) d1
 obtain rfl:=some_eq (a:=327) (by kernel_rfl) d2
 obtain⟨Td,ld,d5⟩:=var_block d1 d3
 obtain⟨_,ud,vd,hd,_⟩:=iface_of_trod Tryz.underlying327 d4
 obtain⟨m,hm⟩:=cell_of_shapedOpen_int (P:=Tryz.prog) (g:=0) (t:=3) (zero:=#[.int .i64 0]) hsh (of_decide_eq_true (by kernel_rfl)) (by kernel_rfl) rfl (by kernel_rfl) (by kernel_rfl) Tryz.underlying3
 have hsz:6≤W.heap.size:=by
  have:=(Array.getElem?_eq_some_iff.1 a5).1
  have:=(Array.getElem?_eq_some_iff.1 c5).1
  have:=(Array.getElem?_eq_some_iff.1 d5).1
  omega
 refine⟨hsz,⟨Tb,lb,?_⟩,⟨uc,vc,block_cell c5 hc⟩,⟨ud,vd,block_cell d5 hd⟩,⟨m,hm⟩⟩
 rw[b5,← hb]
end Go.Proofs.YthiojhcimecdgaaGreatDoor
end
section
namespace Go.Am
open Go
def rowBox (xs:List (List C)) (sp:List C):List C:=xs.flatten++sp
def AllC (n:Nat) (xs:List (List C)):Prop:=∀ x ∈ xs,x.length=n
theorem AllC.nil {n:Nat}:AllC n []:=by simp[AllC]
theorem AllC.cons {n:Nat} {x:List C} {xs:List (List C)}:AllC n (x::xs)↔x.length=n∧AllC n xs:=by simp[AllC]
theorem AllC.append {n:Nat} {xs ys:List (List C)}:AllC n (xs++ys)↔AllC n xs∧AllC n ys:=by
 simp only[AllC,List.mem_append]
 exact⟨fun h=>⟨fun y hy=>h y (.inl hy),fun y hy=>h y (.inr hy)⟩,fun h y hy=>hy.elim (h.1 y) (h.2 y)⟩
theorem AllC.take {n k:Nat} {xs:List (List C)} (h:AllC n xs):AllC n (xs.take k):=fun x hx=>h x (List.mem_of_mem_take hx)
theorem AllC.drop {n k:Nat} {xs:List (List C)} (h:AllC n xs):AllC n (xs.drop k):=fun x hx=>h x (List.mem_of_mem_drop hx)
theorem AllC.set {n k:Nat} {xs:List (List C)} {x:List C} (h:AllC n xs) (hx:x.length=n):AllC n (xs.set k x):=fun y hy=>by
 rcases List.mem_or_eq_of_mem_set hy with h1 | rfl
 ·exact h y h1
 ·exact hx
theorem AllC.get {n k:Nat} {xs:List (List C)} {x:List C} (h:AllC n xs) (hx:xs[k]?=some x):x.length=n:=h x (List.mem_of_getElem? hx)
theorem AllC.flatten {n:Nat}:∀ {xs:List (List C)},AllC n xs→xs.flatten.length=xs.length * n
 | [],_=>by simp
 | x::xs,h=>by
   obtain⟨h1,h2⟩:=AllC.cons.1 h
   simp[AllC.flatten h2,h1,Nat.add_mul];omega
theorem rowBox_length {n:Nat} {xs:List (List C)} {sp:List C} (h:AllC n xs):(rowBox xs sp).length=xs.length * n+sp.length:=by simp[rowBox,h.flatten]
theorem rowBox_drop0 {n:Nat}:∀ {k:Nat} {xs:List (List C)} {sp:List C},AllC n xs→k≤xs.length→(rowBox xs sp).drop (k * n)=rowBox (xs.drop k) sp
 | 0,xs,sp,_,_=>by simp
 | k+1,[],sp,_,hk=>by simp at hk
 | k+1,x::xs,sp,h,hk=>by
   obtain⟨h1,h2⟩:=AllC.cons.1 h
   have e:(k+1) * n=x.length+k * n:=by rw[h1,Nat.add_mul];omega
   rw[e]
   simp only[rowBox,List.flatten_cons,List.append_assoc,List.drop_append_of_le_length,List.drop_succ_cons]
   rw[← List.drop_drop,List.drop_left]
   exact rowBox_drop0 (xs:=xs) (sp:=sp) h2 (by simpa using hk)
theorem rowBox_take0 {n:Nat}:∀ {k:Nat} {xs:List (List C)} {sp:List C},AllC n xs→k≤xs.length→(rowBox xs sp).take (k * n)=(xs.take k).flatten
 | 0,xs,sp,_,_=>by simp
 | k+1,[],sp,_,hk=>by simp at hk
 | k+1,x::xs,sp,h,hk=>by
   obtain⟨h1,h2⟩:=AllC.cons.1 h
   have e:(k+1) * n=x.length+k * n:=by rw[h1,Nat.add_mul];omega
   rw[e]
   simp only[rowBox,List.flatten_cons,List.append_assoc,List.take_succ_cons]
   rw[List.take_length_add_append]
   congr 1
   exact rowBox_take0 (xs:=xs) (sp:=sp) h2 (by simpa using hk)
theorem row_drop {n k f:Nat} {xs:List (List C)} {sp x:List C} (h:AllC n xs) (hx:xs[k]?=some x) (hf:f≤n):(rowBox xs sp).drop (k * n+f)=x.drop f++rowBox (xs.drop (k+1)) sp:=by
 have hk:=(List.getElem?_eq_some_iff.1 hx).1
 have hxl:=h.get hx
 rw[← List.drop_drop,rowBox_drop0 h (by omega),List.drop_eq_getElem_cons hk]
 have:xs[k]=x:=(List.getElem?_eq_some_iff.1 hx).2
 rw[this]
 simp only[rowBox,List.flatten_cons,List.append_assoc]
 rw[List.drop_append_of_le_length (by omega)]
theorem row_take {n k f m:Nat} {xs:List (List C)} {sp x:List C} (h:AllC n xs) (hx:xs[k]?=some x) (hf:f+m≤n):takeN m ((rowBox xs sp).drop (k * n+f))=takeN m (x.drop f):=by
 have hxl:=h.get hx
 rw[row_drop h hx (by omega)]
 have h1:m≤(x.drop f).length:=by simp;omega
 simp only[takeN,h1,if_true,List.length_append]
 rw[if_pos (by omega),List.take_append_of_le_length h1]
theorem row_all {n k:Nat} {xs:List (List C)} {sp x:List C} (h:AllC n xs) (hx:xs[k]?=some x):takeN n ((rowBox xs sp).drop (k * n))=some x:=by
 have h1:=row_take (sp:=sp) (f:=0) (m:=n) h hx (by omega)
 simp only[Nat.add_zero,List.drop_zero] at h1
 rw[h1,← h.get hx]
 simp[takeN]
theorem row_len {n k:Nat} {xs:List (List C)} {sp:List C} (h:AllC n xs) (hk:k < xs.length):k * n+n≤(rowBox xs sp).length:=by
 rw[rowBox_length h]
 have:(k+1) * n≤xs.length * n:=Nat.mul_le_mul_right n (by omega)
 rw[Nat.add_mul] at this
 omega
theorem row_set {n k f:Nat} {xs:List (List C)} {sp x vs:List C} (h:AllC n xs) (hx:xs[k]?=some x) (hf:f+vs.length≤n):setCells (rowBox xs sp) (k * n+f) vs=rowBox (xs.set k (setCells x f vs)) sp:=by
 have hk:=(List.getElem?_eq_some_iff.1 hx).1
 have hxl:=h.get hx
 have e1:(rowBox xs sp).take (k * n+f)=(xs.take k).flatten++x.take f:=by
  rw[List.take_add,rowBox_take0 h (by omega),rowBox_drop0 h (by omega),List.drop_eq_getElem_cons hk]
  have:xs[k]=x:=(List.getElem?_eq_some_iff.1 hx).2
  rw[this]
  simp only[rowBox,List.flatten_cons,List.append_assoc]
  rw[List.take_append_of_le_length (by omega)]
 have e2:(rowBox xs sp).drop (k * n+f+vs.length)=x.drop (f+vs.length)++rowBox (xs.drop (k+1)) sp:=by
  rw[Nat.add_assoc,row_drop h hx (by omega)]
 have e3:xs.set k (setCells x f vs)=xs.take k++setCells x f vs::xs.drop (k+1):=List.set_eq_take_append_cons_drop.trans (by rw[if_pos hk])
 rw[setCells,e1,e2,e3]
 simp[rowBox,setCells]
def MR (h:HS) (n:Nat) (c:C) (xs:List (List C)):Prop:=
 AllC n xs∧xs.length≤LIM∧((xs=[]∧(c=.nil∨c=.z))∨∃ l cap sp,c=.mrow l 0 xs.length cap∧h.box l=some (rowBox xs sp)∧(rowBox xs sp).length=cap * n)
def labs:C→List Lab
 | .mrow l _ _ _=>[l]
 | _=>[]
theorem MR.frame {h h':HS} {n:Nat} {c:C} {xs:List (List C)} (m:MR h n c xs) (hb:∀ l ∈ labs c,h'.box l=h.box l):MR h' n c xs:=by
 refine⟨m.1,m.2.1,?_⟩
 rcases m.2.2 with h1 | ⟨l,cap,sp,h1,h2,h3⟩
 ·exact .inl h1
 ·exact .inr ⟨l,cap,sp,h1,by rw[hb l (by simp[h1,labs])];exact h2,h3⟩
theorem MR.nil {h:HS} {n:Nat}:MR h n .nil []:=⟨AllC.nil,by simp,.inl ⟨rfl,.inl rfl⟩⟩
theorem MR.z {h:HS} {n:Nat}:MR h n .z []:=⟨AllC.nil,by simp,.inl ⟨rfl,.inr rfl⟩⟩
theorem MR.block {h:HS} {n:Nat} {c:C} {xs:List (List C)} (m:MR h n c xs) (h0:0 < xs.length):∃ l cap sp,c=.mrow l 0 xs.length cap∧h.box l=some (rowBox xs sp)∧(rowBox xs sp).length=cap * n:=by
 rcases m.2.2 with h1 | h1
 ·rw[h1.1] at h0;simp at h0
 ·exact h1
theorem row_cells {n off k:Nat} {h:HS} {l:Lab} {xs:List (List C)} {sp:List C} {cap:Nat} (h0:AllC n xs) (hb:h.box l=some (rowBox xs sp)) (hk:off+k≤xs.length):rowCells h n (.mrow l (off * n) k cap)=some (((xs.drop off).take k).flatten):=by
 simp only[rowCells,hb]
 rw[rowBox_drop0 h0 (by omega)]
 have h1:=rowBox_take0 (n:=n) (k:=k) (xs:=xs.drop off) (sp:=sp) h0.drop (by simp;omega)
 have h2:k * n≤(rowBox (xs.drop off) sp).length:=by
  rw[rowBox_length h0.drop]
  have:k * n≤(xs.drop off).length * n:=Nat.mul_le_mul_right n (by simp;omega)
  omega
 simp only[takeN,h2,if_true,h1]
theorem row_put {n i:Nat} {xs ys:List (List C)} {sp:List C} (h0:AllC n xs) (h1:AllC n ys) (hi:i≤xs.length):setCells (rowBox xs sp) (i * n) ys.flatten=rowBox (xs.take i++ys) ((rowBox xs sp).drop ((i+ys.length) * n)):=by
 rw[setCells,rowBox_take0 h0 hi,h1.flatten,← Nat.add_mul]
 simp[rowBox]
theorem row_tail {n:Nat} {xs:List (List C)} {sp vs:List C} (h0:AllC n xs):setCells (rowBox xs sp) (xs.length * n) vs=rowBox xs (setCells sp 0 vs):=by
 have e1:(rowBox xs sp).take (xs.length * n)=xs.flatten:=by rw[rowBox_take0 h0 (Nat.le_refl _)];simp
 have e2:(rowBox xs sp).drop (xs.length * n+vs.length)=sp.drop vs.length:=by
  rw[← List.drop_drop,rowBox_drop0 h0 (Nat.le_refl _)]
  simp[rowBox]
 rw[setCells,e1,e2]
 simp[rowBox,setCells]
theorem setCells_length {cs vs:List C} {o:Nat} (h:o+vs.length≤cs.length):(setCells cs o vs).length=cs.length:=by
 simp[setCells];omega
theorem clearK_row {P:Program} {ty el:TypeId} {n by_:Nat} {l:Lab} {off k cap:Nat} {h:HS} {cs z:List C} {f:V→HS→Prop} (hel:elT P ty=some (el,n,by_)) (hz:zeT P el=some z) (hb:h.box l=some cs) (h0:0 < n) (hle:off+k * n≤cs.length)
  (hk:f .top (h.setBox l (setCells cs off (List.replicate k z).flatten))):clearK P ty (.mrow l off k cap) h (K:=⟨f⟩):=by
 unfold clearK vcClear
 simp only[hel,hz,hb]
 exact⟨⟨h0,hle⟩,hk⟩
def Same (h h':HS) (ls:List Lab):Prop:=h.ep≤h'.ep∧∀ k:Lab,k.1 < h.ep→k ∉ ls→h'.box k=h.box k
theorem Same.refl {h:HS} {ls:List Lab}:Same h h ls:=⟨Nat.le_refl _,fun _ _ _=>rfl⟩
theorem Same.trans {h h1 h2:HS} {ls:List Lab} (a:Same h h1 ls) (b:Same h1 h2 ls):Same h h2 ls:=⟨Nat.le_trans a.1 b.1,fun k hk hn=>(b.2 k (by have:=a.1;omega) hn).trans (a.2 k hk hn)⟩
theorem Same.next {h h':HS} {ls:List Lab} (a:Same h h' ls):Same h h'.next ls:=⟨by have:=a.1;simp;omega,fun k hk hn=>a.2 k hk hn⟩
theorem Same.setArr {h h':HS} {ls:List Lab} {l:Lab} {x:Option (Nat × Nat)} (a:Same h h' ls):Same h (h'.setArr l x) ls:=⟨by simpa using a.1,fun k hk hn=>a.2 k hk hn⟩
theorem Same.setBox {h h':HS} {ls:List Lab} {l:Lab} {cs:List C} (a:Same h h' ls) (hl:l ∈ ls∨h.ep≤l.1):Same h (h'.setBox l cs) ls:=⟨by simpa using a.1,fun k hk hn=>by
 have:k≠l:=by
  rintro rfl
  rcases hl with hl | hl
  ·exact hn hl
  ·omega
 simp[this,a.2 k hk hn]⟩
def keep (p:List D→Bool):List (List C)→List (List D)→List (List C)
 | x::xs,t::ts=>if p t then keep p xs ts else x::keep p xs ts
 | _,_=>[]
theorem AllC.keep {n:Nat} {p:List D→Bool}:∀ {xs:List (List C)} {ts:List (List D)},AllC n xs→AllC n (keep p xs ts)
 | [],_,_=>by simp[Go.Am.keep,AllC]
 | _::_,[],_=>by simp[Go.Am.keep,AllC]
 | x::xs,t::ts,h=>by
   obtain⟨h1,h2⟩:=AllC.cons.1 h
   unfold Go.Am.keep
   split
   ·exact AllC.keep h2
   ·exact AllC.cons.2 ⟨h1,AllC.keep h2⟩
theorem MR.frz {h:HS} {n:Nat} {c:C} {xs:List (List C)} {ts:List (List D)} (m:MR h n c xs) (hl:xs.length=ts.length) (ht:∀ t ∈ ts,t.length=n) (hf:∀ (i:Nat) (x:List C) (t:List D),xs[i]?=some x→ts[i]?=some t→FrzCs h x t):Frz h c (.sl ts):=by
 rcases m.2.2 with ⟨h1,h2⟩ | ⟨l,cap,sp,rfl,hb,hcap⟩
 ·subst h1
  have:ts=[]:=List.eq_nil_of_length_eq_zero (by simpa using hl.symm)
  subst this
  rcases h2 with rfl | rfl
  ·exact .data rfl
  ·exact .data rfl
 ·rw[hl]
  refine Frz.mrow (es:=n) (f:=fun i j=>((xs[i]?).getD [])[j]?.getD .nil) hb (by rw[← hl];exact m.2.1) ht (fun i t hi j d hd=>?_) (fun i t hi j d hd=>?_)
  ·have hlt:i < xs.length:=by rw[hl];exact (List.getElem?_eq_some_iff.1 hi).1
   have hx:xs[i]?=some xs[i]:=List.getElem?_eq_getElem hlt
   have hj:j < n:=by rw[← ht t (List.mem_of_getElem? hi)];exact (List.getElem?_eq_some_iff.1 hd).1
   have hxl:=m.1.get hx
   have:=row_drop (sp:=sp) m.1 hx (f:=j) (by omega)
   have h2:((rowBox xs sp).drop (i * n+j))[0]?=xs[i][j]?:=by
    rw[this,List.getElem?_append_left (by simp;omega)]
    simp
   simp only[List.getElem?_drop,Nat.add_zero] at h2
   rw[Nat.zero_add,h2,hx]
   simp[List.getElem?_eq_getElem (show j < xs[i].length by omega)]
  ·have hlt:i < xs.length:=by rw[hl];exact (List.getElem?_eq_some_iff.1 hi).1
   have hx:xs[i]?=some xs[i]:=List.getElem?_eq_getElem hlt
   obtain⟨_,hg⟩:=(hf i _ _ hx hi).get
   obtain⟨c,hc,hfc⟩:=hg j d hd
   simp only[hx,Option.getD_some,hc]
   exact hfc
@[simp] theorem envV_n {n:Nat} {vs:List V}:(envV n vs).n=n:=rfl
@[simp] theorem envV_get {n k:Nat} {vs:List V}:(envV n vs).get k=(vs[k]?).getD .undef:=rfl
@[simp] theorem retH_one {P:Program} {k:Nat} {K:V→HS→Prop} {e:Env} {h:HS}:retH P [.tmp k] K .ret e h=K (e.get k) h:=rfl
@[simp] theorem retH_oneN {P:Program} {k:Nat} {K:V→HS→Prop} {e:Env} {h:HS}:retH P [.tmp k] K .normal e h=K (e.get k) h:=rfl
@[simp] theorem retH_none {P:Program} {K:V→HS→Prop} {e:Env} {h:HS}:retH P [] K .ret e h=K (.tup []) h:=by simp[retH,resVs]
@[simp] theorem retH_noneN {P:Program} {K:V→HS→Prop} {e:Env} {h:HS}:retH P [] K .normal e h=K (.tup []) h:=by simp[retH,resVs]
theorem opt_slice {a b:Prop} [Decidable a] [Decidable b] {c d:C} {f:V→Prop} (ha:a) (h1:b→f (.one c)) (h2:¬ b→f (.one d)):optV (Option.map V.one (if a then (if b then some c else some d) else none)) (k:=⟨f⟩):=by
 rw[if_pos ha]
 by_cases hb:b
 ·rw[if_pos hb];exact h1 hb
 ·rw[if_neg hb];exact h2 hb
def RowAt (h:HS) (n:Nat) (c:C) (xs:List (List C)):Prop:=rowCells h n c=some xs.flatten∧cLen c=some xs.length∧AllC n xs∧xs.length≤LIM
theorem MR.rd {h:HS} {n:Nat} {c:C} {xs:List (List C)} (m:MR h n c xs):RowAt h n c xs:=by
 refine⟨?_,?_,m.1,m.2.1⟩
 ·rcases m.2.2 with ⟨h1,rfl | rfl⟩ | ⟨l,cap,sp,rfl,hb,hcap⟩
  ·subst h1;simp[rowCells,C.list?]
  ·subst h1;simp[rowCells,C.list?]
  ·have:=row_cells (n:=n) (off:=0) (k:=xs.length) (cap:=cap) m.1 hb (by simp)
   simpa using this
 ·rcases m.2.2 with ⟨h1,rfl | rfl⟩ | ⟨l,cap,sp,rfl,hb,hcap⟩
  ·subst h1;simp[cLen,C.list?]
  ·subst h1;simp[cLen,C.list?]
  ·simp[cLen]
theorem RowAt.data {h:HS} {n:Nat} {ts:List (List D)} (ht:∀ t ∈ ts,t.length=n) (hl:ts.length≤LIM):RowAt h n (.d (.sl ts)) (ts.map (·.map C.d)):=by
 refine⟨?_,by simp[cLen,C.list?],?_,by simpa using hl⟩
 ·show (if ∀ x ∈ ts,x.length=n then some (ts.flatten.map C.d) else none)=_
  rw[if_pos ht,List.map_flatten]
 ·intro x hx
  simp at hx
  obtain⟨t,h1,rfl⟩:=hx
  simpa using ht t h1
theorem nilK_rd {P:Program} {ty:TypeId} {z:TypeId × Nat × Nat} {h:HS} {n:Nat} {c:C} {xs:List (List C)} {f:V→Prop} (hel:elT P ty=some z) (hr:RowAt h n c xs) (h1:xs=[]→f (dbool true)) (h2:f (dbool false)):nilK P .eql ty c (K:=⟨f⟩):=by
 have hlen:=hr.2.1
 have key:∀ ys,c.list?=some ys→cLen c=some ys.length→nilK P .eql ty c (K:=⟨f⟩):=fun ys hy hc=>by
  refine nilK_list hel rfl hy (fun b hb=>?_)
  cases b with
  | false=>exact h2
  | true=>
    have:ys=[]:=Classical.byContradiction fun h=>by simpa using hb h
    subst this
    rw[hc] at hlen
    exact h1 (List.eq_nil_of_length_eq_zero (by simpa using hlen.symm))
 match c,hlen with
 | .d (.sl ys),_=>exact key ys rfl rfl
 | .own _ ys,_=>exact key ys rfl rfl
 | .nil,_=>exact key [] rfl rfl
 | .z,_=>exact key [] rfl rfl
 | .mrow _ _ _ _,_=>exact nilK_mrow hel rfl h2
theorem appHdr_z {h:HS} {n:Nat}:appHdr h n .z=some (0,0,[],none):=rfl
theorem app_new {P:Program} {ty el:TypeId} {n by_ d:Nat} {h:HS} {x:C} {xs:List (List C)} {K:V→HS→Prop} (hel:elT P ty=some (el,n,by_)) (hz:(zeT P el).isSome=true) (h0:0 < n) (hb:by_≤4096) (hr:RowAt h n x xs)
  (hk:∀ c' h',MR h' n c' xs→Same h h' []→(∀ l ∈ labs c',h.ep≤l.1∧l.1 < h'.ep)→K (.one c') h'):appK P ty .z x d h (K:=⟨K⟩):=by
 obtain⟨hc,hl,ha,hm⟩:=hr
 refine appK_row hel appHdr_z hc hl hz h0 hb (by simpa using hm) ha.flatten (by simp) (fun h1=>?_) (fun h1 h2=>by omega) (fun h1 h2 cap' hcap=>?_)
 ·have:xs=[]:=List.eq_nil_of_length_eq_zero h1
  subst this
  exact hk _ _ MR.z .refl (by simp[labs])
 ·refine hk _ _ ⟨ha,hm,.inr ⟨(h.ep,16 * d),cap',List.replicate ((cap' - xs.length) * n) .any,by simp,by simp[rowBox],?_⟩⟩ ((Same.refl.setBox (.inr (Nat.le_refl _))).next) (by simp[labs])
  rw[rowBox_length ha,List.length_replicate,← Nat.add_mul]
  congr 1
  omega
end Go.Am
end
