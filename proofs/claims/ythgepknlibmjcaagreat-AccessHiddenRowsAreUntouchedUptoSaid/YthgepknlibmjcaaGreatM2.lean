/- joined by a program out of 33 texts -/
import Derived.Test.YthgepknlibmjcaaGreatM1
import Derived.IntWalk
import Derived.Laws.StructEq
import Derived.Test.YthgepknlibmjcaaGreatProg
import Derived.KernelRfl
import Derived.Lib.Bytealg
import Derived.WalkKit
import Derived.LoopTactic
import Derived.Lib.ConvBytes
import Derived.Lib.Hide
set_option linter.unusedVariables false
set_option linter.unusedSimpArgs false
set_option maxRecDepth 20000
section
namespace Go.Am
open Go
section
variable {P:Program}
theorem Zek {pl:List (Nat × Nat)} {e e1:Env}:∀ {ps:List (Nat × Operand)} {cs:List C},(∀ x ∈ ps.map (·.2),e1.ev x=e.ev x)→fillV pl e1 ps cs=fillV pl e ps cs
 | [],_,_=>rfl
 | (f,x)::r,cs,h=>by
   have hx:=h x (by simp)
   simp only[fillV,hx]
   cases pl[f]? with
   | none=>rfl
   | some z=>
     dsimp only
     split
     ·exact Zek (fun y hy=>h y (by simp only[List.map_cons,List.mem_cons];exact .inr hy))
     ·rfl
theorem Zdb {e e1:Env} {n:Nat}:∀ {ps:List (Nat × Operand)} {k:Nat},(∀ x ∈ ps.map (·.2),e1.ev x=e.ev x)→elemsV e1 n ps k=elemsV e n ps k
 | [],_,_=>rfl
 | (f,x)::r,k,h=>by
   have hx:=h x (by simp)
   simp only[elemsV,hx]
   rw[Zdb (ps:=r) (fun y hy=>h y (by simp only[List.map_cons,List.mem_cons];exact .inr hy))]
theorem Zdd {e e1:Env} {n:Nat}:∀ {ps:List (Nat × Operand)} {k:Nat},(∀ x ∈ ps.map (·.2),e1.ev x=e.ev x)→cellsV e1 n ps k=cellsV e n ps k
 | [],_,_=>rfl
 | (f,x)::r,k,h=>by
   have hx:=h x (by simp)
   simp only[cellsV,hx]
   rw[Zdd (ps:=r) (fun y hy=>h y (by simp only[List.map_cons,List.mem_cons];exact .inr hy))]
theorem Zjl {op:BinOp} {t:TypeId} {c:C} {K K1:V→Prop} (hK:∀ v,K v→K1 v) (hv:vcNil P op t c K):vcNil P op t c K1:=by
 obtain⟨h1,hv⟩:=hv
 refine⟨h1,?_⟩
 split at hv
 ·exact hK _ hv
 ·exact hK _ hv
 ·split at hv
  ·exact fun b hb=>hK _ (hv b hb)
  ·exact hv
theorem Zfy {t:TypeId} {c x:C} {d:Nat} {h:HS} {K K1:V→HS→Prop} (hK:∀ v h',K v h'→K1 v h') (hv:Z8d P t c x d h K):Z8d P t c x d h K1:=by
 unfold Z8d at hv ⊢
 split at hv
 ·split at hv
  ·exact⟨hv.1,hK _ _ hv.2⟩
  ·exact hv
 ·exact hv
theorem Zf4 {t:TypeId} {c x:C} {d:Nat} {h:HS} {K K1:V→HS→Prop} (hK:∀ v h',K v h'→K1 v h') (hv:Z6v P t c x d h K):Z6v P t c x d h K1:=by
 unfold Z6v at hv ⊢
 split at hv
 ·split at hv
  ·obtain⟨h1,h2,h3,h4⟩:=hv
   refine⟨h1,fun q=>hK _ _ (h2 q),fun q r l off hp=>?_,fun q r cap' hc=>hK _ _ (h4 q r cap' hc)⟩
   obtain⟨cs,h5,h6,h7⟩:=h3 q r l off hp
   exact⟨cs,h5,h6,hK _ _ h7⟩
  ·exact hv
 ·exact hv
theorem Zf3 {t t':TypeId} {c x:C} {d:Nat} {h:HS} {K K1:V→HS→Prop} (hK:∀ v h',K v h'→K1 v h') (hv:Z91 P t t' c x d h K):Z91 P t t' c x d h K1:=by
 unfold Z91 at hv ⊢
 obtain⟨h1,hv⟩:=hv
 refine⟨h1,?_⟩
 split at hv
 ·split at hv
  ·exact⟨hv.1,fun c hc=>hK _ _ (hv.2 c hc)⟩
  ·split at hv
   ·exact⟨hv.1,fun c hc=>hK _ _ (hv.2 c hc)⟩
   ·exact hv
  ·exact hv
 ·exact hv
theorem Zhx {t:TypeId} {c x:C} {d:Nat} {h:HS} {K K1:V→HS→Prop} (hK:∀ v h',K v h'→K1 v h') (hv:vcCopy P t c x d h K):vcCopy P t c x d h K1:=by
 unfold vcCopy at hv ⊢
 split at hv
 ·split at hv
  ·split at hv
   ·exact⟨hv.1,hK _ _ hv.2⟩
   ·exact hv
  ·exact hv
 ·exact hv
theorem Zgx {t:TypeId} {c:C} {d:Nat} {h:HS} {K K1:V→HS→Prop} (hK:∀ v h',K v h'→K1 v h') (hv:Za8 P t c d h K):Za8 P t c d h K1:=by
 unfold Za8 at hv ⊢
 split at hv
 ·split at hv
  ·split at hv
   ·exact⟨hv.1,hK _ _ hv.2⟩
   ·exact hv
  ·exact hK _ _ hv
  ·exact hK _ _ hv
  ·exact hv
 ·exact hv
theorem Zck {e:Env} {h:HS} (hr:Real e h) {k:Nat} {cs:List C}:BoxLe h ((h.setBox (h.ep,k) cs).next):=fun l c hl=>by
 have:=hr.fresh hl
 have hne:l≠(h.ep,k):=fun he=>by rw[he] at this;exact absurd this (Nat.lt_irrefl _)
 show (if l=(h.ep,k) then some cs else h.box l)=some c
 rw[if_neg hne];exact hl
theorem Zmr {h:HS} {c:C}:(C.useUp h c).box=h.box:=by cases c<;>rfl
def callKind:Op→Bool
 | .call c=>match c.callee with
   | .value _=>true
   | _=>false
 | _=>false
theorem Z7m {op:Op} (h:Z4s op=true):callKind op=false:=by
 cases op<;>simp_all [Z4s,callKind]
 rename_i c
 cases hc:c.callee<;>simp_all
theorem Zcl {o:Oper} {e e1:Env} {h:HS} {K K1:Env→HS→Prop} (hr:Real e h) (ho:∀ x ∈ o.op.operands,e1.ev x=e.ev x)
  (hK:∀ v h',(storeKind o.op=false→callKind o.op=false→BoxLe h h')→K (e.put o.dst v) h'→K1 (e1.put o.dst v) h') (hv:vcOp P o e h K):vcOp P o e1 h K1:=by
 have eff_case:(∀ (e:Env) (h:HS) (K:Env→HS→Prop),vcOp P o e h K→∃ v,eff P o.op e h=some v∧K (e.put o.dst v) h) →
   (∀ (e:Env) (h:HS) (K:Env→HS→Prop) v,eff P o.op e h=some v→K (e.put o.dst v) h→vcOp P o e h K)→vcOp P o e1 h K1:=fun h1 h2=>by
  obtain⟨v,hve,hk⟩:=h1 _ _ _ hv
  exact h2 _ _ _ v (Zj8 ho (fun _=>BoxLe.refl h) hve) (hK _ _ (fun _ _=>BoxLe.refl h) hk)
 cases hop:o.op with
 | store t x y=>
   rw[hop] at ho hK
   have hx:=ho x (by simp[Op.operands])
   have hy:=ho y (by simp[Op.operands])
   simp only[vcOp,hop,hx,hy] at hv ⊢
   split at hv
   ·split at hv
    ·split at hv
     ·exact⟨hv.1,hK _ _ (fun hs _=>by simp[storeKind] at hs) hv.2⟩
     ·exact hv
    ·exact hv
   ·exact hv
 | box t x=>
   rw[hop] at ho
   have hx:=ho x (by simp[Op.operands])
   simp only[vcOp,hop,hx] at hv ⊢
   exact⟨hv.1,hK _ _ (fun _ _=>Zck hr) hv.2⟩
 | alloc t=>
   simp only[vcOp,hop] at hv ⊢
   split at hv
   ·exact hK _ _ (fun _ _=>Zck hr) hv
   ·exact hv
 | build t ps=>
   rw[hop] at ho
   have hps:∀ x ∈ ps.toList.map (·.2),e1.ev x=e.ev x:=fun x hx=>ho x (by simpa[Op.operands] using hx)
   simp only[vcOp,hop,Zek hps] at hv ⊢
   split at hv
   ·split at hv
    ·exact hK _ _ (fun _ _=>BoxLe.refl h) hv
    ·exact hv
   ·exact hv
 | buildSlice t len ps=>
   rw[hop] at ho
   have hps:∀ x ∈ ps.toList.map (·.2),e1.ev x=e.ev x:=fun x hx=>ho x (by simpa[Op.operands] using hx)
   simp only[vcOp,hop,Zdb hps] at hv ⊢
   split at hv
   ·split at hv
    ·exact hv.imp (fun hv=>⟨hv.1,hK _ _ (fun _ _=>fun l c hl=>hl) hv.2⟩) (fun hv=>⟨hv.1,hK _ _ (fun _ _=>BoxLe.refl h) hv.2⟩)
    ·rw[Zdd hps]
     split at hv
     ·exact⟨hv.1,hK _ _ (fun _ _=>Zck hr) hv.2⟩
     ·exact hv
   ·exact hv
 | makeSlice t x y=>
   rw[hop] at ho
   have hx:=ho x (by simp[Op.operands])
   have hy:=ho y (by simp[Op.operands])
   simp only[vcOp,hop,hx,hy] at hv ⊢
   unfold vcMake at hv ⊢
   split at hv
   ·split at hv
    ·rename_i h1 h2 h3
     simp only[h1,h2,h3]
     exact⟨hv.1,hK _ _ (fun _ _=>Zck hr) hv.2⟩
    ·exact hv.elim
   ·exact hv.elim
 | binOp op t x y t'=>
   have ho':=ho
   rw[hop] at ho
   have hx:=ho x (by simp[Op.operands])
   have hy:=ho y (by simp[Op.operands])
   simp only[vcOp,hop,hx,hy] at hv ⊢
   by_cases hnil:isNilConst y=true
   ·rw[if_pos hnil] at hv ⊢
    unfold vcNilV at hv ⊢
    split at hv
    ·exact Zjl (fun v hk=>hK v h (fun _ _=>BoxLe.refl h) hk) hv
    ·exact hv
   rw[if_neg hnil] at hv ⊢
   split at hv
   ·split at hv
    ·exact⟨hv.1,hK _ _ (fun _ _=>BoxLe.refl h) hv.2⟩
    ·exact hv
   ·rename_i hn
    split at hv
    ·rename_i r hrr
     have:=hK _ _ (fun _ _=>BoxLe.refl h) hv
     generalize e.ev x=X at *
     generalize e.ev y=Y at *
     cases X with
     | agg cs=>cases Y with
       | agg cs'=>exact (hn cs cs' rfl rfl).elim
       | _=>first
         | exact this
         | (simp only[hrr];exact this)
     | _=>first
       | exact this
       | (simp only[hrr];exact this)
    ·exact hv.elim
 | call c=>
   rw[hop] at ho
   have ha:∀ x ∈ c.args.toList,e1.ev x=e.ev x:=fun x hx=>ho x (by simp[Op.operands,Call.operands];exact .inr (by simpa using hx))
   have hm:c.args.toList.map e1.ev=c.args.toList.map e.ev:=List.map_congr_left ha
   cases hc:c.callee with
   | value f=>
     have hf:e1.ev f=e.ev f:=ho f (by simp[Op.operands,Call.operands,hc])
     simp only[vcOp,hop,hc,hf,hm] at hv ⊢
     have hck:callKind o.op=true:=by rw[hop];simp[callKind,hc]
     split at hv
     ·rcases hv with ⟨ars,cs,has,hcs,r,hs,hk⟩ | hv | ⟨v,hx,hk⟩
      ·exact .inl ⟨ars,cs,has,hcs,r,hs,hK _ _ (fun _ hq=>by rw[hck] at hq;cases hq) hk⟩
      ·exact .inr (.inl ⟨hv.1,fun Γ μ w vals hI hR=>(hv.2 Γ μ w vals hI hR).mono fun en w' ⟨u,v,h',μ',h1,h2,h3⟩=>⟨u,v,h',μ',h1,hK _ _ (fun _ hq=>by rw[hck] at hq;cases hq) h2,h3⟩⟩)
      ·exact .inr (.inr ⟨v,hx,hK _ _ (fun _ hq=>by rw[hck] at hq;cases hq) hk⟩)
     ·exact hv
   | invoke r m=>simp only[vcOp,hop,hc,eff] at hv
   | builtin b=>
     cases b with
     | len=>
       simp only[vcOp,hop,hc,hm] at hv ⊢
       split at hv
       ·unfold vcLen at hv ⊢
        split at hv
        ·split at hv
         ·exact hK _ _ (fun _ _=>BoxLe.refl h) hv
         ·exact hv
        ·split at hv
         ·exact hK _ _ (fun _ _=>BoxLe.refl h) hv
         ·split at hv
          ·exact fun hb=>hK _ _ (fun _ _=>BoxLe.refl h) (hv hb)
          ·exact hv
        ·exact hv
       ·exact hv
     | append=>
       have hst:storeKind o.op=true:=by rw[hop];simp[storeKind,hc]
       simp only[vcOp,hop,hc,hm] at hv ⊢
       split at hv
       ·have hKK:∀ v h',K (e.put o.dst v) h'→K1 (e1.put o.dst v) h':=fun v h' hk=>hK v h' (fun hq=>by rw[hst] at hq;cases hq) hk
        exact hv.imp (fun hv=>⟨hv.1,hv.2.imp (Zfy hKK) (Zf4 hKK)⟩) (Zf3 hKK)
       ·exact hv
     | cap=>
       simp only[vcOp,hop,hc,hm] at hv ⊢
       split at hv
       ·obtain⟨h1,hv⟩:=hv
        refine⟨h1,?_⟩
        split at hv<;>first | exact hK _ _ (fun _ _=>BoxLe.refl h) hv | exact hv
       ·exact hv
     | copy=>
       have hst:storeKind o.op=true:=by rw[hop];simp[storeKind,hc]
       simp only[vcOp,hop,hc,hm] at hv ⊢
       split at hv
       ·exact⟨hv.1,Zhx (fun v h' hk=>hK v h' (fun hq=>by rw[hst] at hq;cases hq) hk) hv.2⟩
       ·exact hv
     | clear=>
       have hst:storeKind o.op=true:=by rw[hop];simp[storeKind,hc]
       simp only[vcOp,hop,hc,hm] at hv ⊢
       split at hv
       ·exact Zgx (fun v h' hk=>hK v h' (fun hq=>by rw[hst] at hq;cases hq) hk) hv
       ·exact hv
     | max=>exact eff_case (fun e h K hv=>by
       simp only[vcOp,hop,hc] at hv ⊢
       split at hv
       ·exact⟨_,by assumption,hv⟩
       ·exact hv.elim) (fun e h K v h1 h2=>by
       rw[hop] at h1
       simp only[vcOp,hop,hc,h1]
       exact h2)
     | min=>exact eff_case (fun e h K hv=>by
       simp only[vcOp,hop,hc] at hv ⊢
       split at hv
       ·exact⟨_,by assumption,hv⟩
       ·exact hv.elim) (fun e h K v h1 h2=>by
       rw[hop] at h1
       simp only[vcOp,hop,hc,h1]
       exact h2)
     | _=>simp only[vcOp,hop,hc,eff] at hv
 | _=>exact eff_case (fun e h K hv=>by
     simp only[vcOp,hop] at hv ⊢
     split at hv
     ·exact⟨_,by assumption,hv⟩
     ·exact hv.elim) (fun e h K v h1 h2=>by
     rw[hop] at h1
     simp only[vcOp,hop,h1]
     exact h2)
def vcG (P:Program) (all:List Oper) (o:Oper) (e:Env) (h:HS) (K:Env→HS→Prop):Prop:=dstOK o e ∧
    match o.guard with
    | none=>vcOp P o e h K
    | some (j,want)=>match Z6a all e j with
      | .one (.d (.bool b))=>(b=want→vcOp P o e h K)∧(b≠want→K (e.put o.dst .undef) h)
      | .undef=>K (e.put o.dst .undef) h
      | _=>False
theorem Zgh {ops:Array Oper} {o:Oper} {e e1:Env} (h:∀ t ∈ o.looksAt ops,e1.get t=e.get t):∀ x ∈ o.op.operands,e1.ev x=e.ev x:=fun x hx=>by
 cases x with
 | tmp t=>exact h t (List.mem_append_left _ (List.mem_filterMap.2 ⟨.tmp t,by simpa using hx,rfl⟩))
 | _=>rfl
theorem Z7s {ops:Array Oper} {o:Oper} {e e1:Env} (h:∀ t ∈ o.looksAt ops,e1.get t=e.get t) {j:Nat} {want:Bool} (hg:o.guard=some (j,want)):Z6a ops.toList e1 j=Z6a ops.toList e j:=by
 unfold Z6a
 cases hj:ops.toList[j]? with
 | none=>rfl
 | some oj=>
   dsimp only
   cases hd:oj.dst with
   | none=>rfl
   | some d=>
     have hj':ops[j]?=some oj:=by simpa using hj
     exact h d (by simp[Oper.looksAt,hg,hj',hd])
theorem Zgw {ops:Array Oper} {Γ:Ctx} {Q:Exit→Act→World→Prop} {i:Nat} {o:Oper} (hi:ops[i]?=some o) {e:Env} {h:HS} {μ:Mem} {a:Act} {w:World} {K:Env→HS→Prop} {N:Act→World→Prop}
  (hI:Inv Γ h μ w) (hE:EnvRel μ e a) (hN:∀ e' h' μ' a' w',K e' h'→Inv Γ h' μ' w'→EnvRel μ' e' a'→Mem.Le μ μ'→N a' w') (hv:vcG P ops.toList o e h K):wpOp P ops Q i N a w:=by
 obtain⟨hd,hv⟩:=hv
 unfold wpOp
 simp only[hi]
 have skip:K (e.put o.dst .undef) h→N (a.put o.dst undef) w:=fun hs=>hN _ _ _ _ _ hs hI (hE.put (dst_lt hd) (v:=.undef) rfl) (.refl μ)
 have go:vcOp P o e h K→o.wp P a w N Q:=fun hs=>Zon hI hE hd hs _ _ hN
 split at hv
 ·rename_i hg
  rw[if_pos (by simp[Region.wanted,hg])]
  exact .inl (go hv)
 ·rename_i j want hg
  split at hv
  ·rename_i b hy
   have hy':=Zfc hE hy
   by_cases hb:b=want
   ·rw[if_pos (by simp[Region.wanted,hg,hy',hb])]
    exact .inl (go (hv.1 hb))
   ·rw[if_neg (by simp[Region.wanted,hg,hy',hb])]
    exact skip (hv.2 hb)
  ·rename_i hy
   have hy':=Zbw hE hy
   rw[if_neg (by simp[Region.wanted,hg,hy'])]
   exact skip hv
  ·exact hv.elim
def vcAny (P:Program) (md:Region.Mode) (ops:Array Oper) (K:Env→HS→Prop):Nat→Array Bool→Env→HS→Prop
 | 0,listed,e,h=>Region.ready md ops listed=[]∧(Real e h→K e h)
 | f+1,listed,e,h=>Real e h→(Region.ready md ops listed=[]→K e h) ∧
     ∀ i ∈ Region.ready md ops listed,∃ o,ops[i]?=some o∧vcG P ops.toList o e h (fun e' h'=>(callKind o.op=true→BoxLe h h')∧vcAny P md ops K f (listed.setIfInBounds i true) e' h')
theorem Zdw {md:Region.Mode} {ops:Array Oper} {Γ:Ctx} {Q:Exit→Act→World→Prop} {K:Env→HS→Prop} {μ0:Mem} (hN:∀ e' h' μ' a' w',K e' h'→Inv Γ h' μ' w'→EnvRel μ' e' a'→Mem.Le μ0 μ'→Q .normal a' w') :
  ∀ (f:Nat) (listed:Array Bool) {e:Env} {h:HS} {μ:Mem} {a:Act} {w:World},Inv Γ h μ w→EnvRel μ e a→Mem.Le μ0 μ→vcAny P md ops K f listed e h→wpAny P md ops Q f listed a w
 | 0,listed,e,h,μ,a,w,hI,hE,hle,hv=>⟨hv.1,hN _ _ _ _ _ (hv.2 ⟨_,_,_,_,hI,hE⟩) hI hE hle⟩
 | f+1,listed,e,h,μ,a,w,hI,hE,hle,hv=>by
   obtain⟨h0,h1⟩:=hv ⟨_,_,_,_,hI,hE⟩
   refine⟨fun hr=>hN _ _ _ _ _ (h0 hr) hI hE hle,fun i hi=>?_⟩
   obtain⟨o,ho,hg⟩:=h1 i hi
   exact Zgw ho hI hE (fun e' h' μ' a' w' hk hI' hE' hle'=>Zdw hN f _ hI' hE' (hle.trans hle') hk.2) hg
def GivesG (P:Program) (ops:Array Oper) (o:Oper) (e:Env) (h:HS) (v:V):Prop:=
 ∀ e1 h1 (K:Env→HS→Prop),e1.n=e.n→(∀ t ∈ o.looksAt ops,e1.get t=e.get t)→(loadKind o.op=true→BoxLe h h1)→K (e1.put o.dst v) h1→vcG P ops.toList o e1 h1 K
theorem GivesG.step {ops:Array Oper} {o:Oper} {e e1:Env} {h h1:HS} {v:V} (hg:GivesG P ops o e h v) (hn:e1.n=e.n) (he:∀ t ∈ o.looksAt ops,e1.get t=e.get t) (hb:loadKind o.op=true→BoxLe h h1):GivesG P ops o e1 h1 v:=
 fun e2 h2 K hn2 he2 hb2 hk=>hg e2 h2 K (hn2.trans hn) (fun t ht=>(he2 t ht).trans (he t ht)) (fun hl l c hl'=>hb2 hl l c (hb hl l c hl')) hk
theorem Zd1 {o:Oper} {e e1:Env} (hn:e1.n=e.n) (hd:dstOK o e):dstOK o e1:=by
 unfold dstOK at *
 split at hd
 ·trivial
 ·rw[hn];exact hd
theorem put_n' {e:Env} {d:Option Nat} {v:V}:(e.put d v).n=e.n:=by cases d<;>rfl
theorem Zcq {ops:Array Oper} {o:Oper} {e:Env} {h:HS} {K:Env→HS→Prop} (hp:Z4s o.op=true) (hr:Real e h) (hv:vcG P ops.toList o e h K) :
  ∃ v,K (e.put o.dst v) h∧Real (e.put o.dst v) h∧GivesG P ops o e h v:=by
 obtain⟨hd,hv⟩:=hv
 have skip:K (e.put o.dst .undef) h→(∀ e1:Env,∀ h1 (K:Env→HS→Prop),e1.n=e.n→(∀ t ∈ o.looksAt ops,e1.get t=e.get t)→K (e1.put o.dst .undef) h1→vcG P ops.toList o e1 h1 K) →
   ∃ v,K (e.put o.dst v) h∧Real (e.put o.dst v) h∧GivesG P ops o e h v:=fun hk hall=>
  ⟨.undef,hk,Zc9 hr (dst_lt hd) (fun _ _ _ _ _ _=>⟨undef,rfl⟩),fun e1 h1 K1 hn he hb hk=>hall e1 h1 K1 hn he hk⟩
 have go:vcOp P o e h K→(∀ e1:Env,∀ h1 (K:Env→HS→Prop),e1.n=e.n→(∀ t ∈ o.looksAt ops,e1.get t=e.get t)→vcOp P o e1 h1 K→vcG P ops.toList o e1 h1 K) →
   ∃ v,K (e.put o.dst v) h∧Real (e.put o.dst v) h∧GivesG P ops o e h v:=fun hs hall=>by
  obtain⟨v,hk,hr',hg⟩:=Zok hp hr hd hs
  exact⟨v,hk,hr',fun e1 h1 K1 hn he hb hk=>hall e1 h1 K1 hn he (hg e1 h1 K1 (Zgh he) hb hk)⟩
 cases hg:o.guard with
 | none=>
   simp only[hg] at hv
   exact go hv (fun e1 h1 K1 hn he hs=>⟨Zd1 hn hd,by simp only[hg];exact hs⟩)
 | some gw=>
   obtain⟨j,want⟩:=gw
   simp only[hg] at hv
   split at hv
   ·rename_i b hy
    by_cases hb:b=want
    ·exact go (hv.1 hb) (fun e1 h1 K1 hn he hs=>⟨Zd1 hn hd,by
      simp only[hg,Z7s he hg,hy];exact⟨fun _=>hs,fun hne=>absurd hb hne⟩⟩)
    ·exact skip (hv.2 hb) (fun e1 h1 K1 hn he hs=>⟨Zd1 hn hd,by
      simp only[hg,Z7s he hg,hy];exact⟨fun hq=>absurd hq hb,fun _=>hs⟩⟩)
   ·rename_i hy
    exact skip hv (fun e1 h1 K1 hn he hs=>⟨Zd1 hn hd,by
      simp only[hg,Z7s he hg,hy];exact hs⟩)
   ·exact hv.elim
theorem Zh3 {e:Env} {x y:Option Nat} {v u:V} (h:∀ d,x=some d→y≠some d):(e.put x v).put y u=(e.put y u).put x v:=by
 cases x with
 | none=>rfl
 | some d=>
   cases y with
   | none=>rfl
   | some d'=>
     have hne:d≠d':=fun he=>h d rfl (he ▸ rfl)
     simp only[Env.put,Env.mk.injEq,true_and]
     funext k
     by_cases h1:k=d'<;>by_cases h2:k=d<;>simp_all
theorem Zdn {e:Env} {x:Option Nat} {v:V} {t:Nat} (h:∀ d,x=some d→d≠t):(e.put x v).get t=e.get t:=by
 cases x with
 | none=>rfl
 | some d=>
   have:=h d rfl
   show (if t=d then v else e.get t)=e.get t
   rw[if_neg (Ne.symm this)]
theorem Zpn {ops:Array Oper} {oi oj:Oper} {e:Env} {h:HS} {v:V} {K:Env→HS→Prop} (hap:oi.apart ops oj=true) (hst:storeKind oj.op=false∨loadKind oi.op=false) (hr:Real (e.put oi.dst v) h)
  (hv:vcG P ops.toList oj (e.put oi.dst v) h (fun e' h'=>(callKind oj.op=true→BoxLe h h')∧K e' h')) :
  vcG P ops.toList oj e h (fun e' h'=>(callKind oj.op=true→BoxLe h h')∧e'.n=e.n∧(∀ t ∈ oi.looksAt ops,e'.get t=e.get t)∧(loadKind oi.op=true→BoxLe h h')∧K (e'.put oi.dst v) h'):=by
 obtain⟨h1,h2,h3⟩:=Oper.apart_spec hap
 have hag:∀ t ∈ oj.looksAt ops,e.get t=(e.put oi.dst v).get t:=fun t ht=>(Zdn (fun d hd he=>h1 d hd (he ▸ ht))).symm
 have fin:∀ u h',(storeKind oj.op=false→callKind oj.op=false→BoxLe h h')→((callKind oj.op=true→BoxLe h h')∧K ((e.put oi.dst v).put oj.dst u) h') →
   (callKind oj.op=true→BoxLe h h')∧(e.put oj.dst u).n=e.n∧(∀ t ∈ oi.looksAt ops,(e.put oj.dst u).get t=e.get t)∧(loadKind oi.op=true→BoxLe h h')∧K ((e.put oj.dst u).put oi.dst v) h':=fun u h' hb hk=>
  ⟨hk.1,put_n',fun t ht=>Zdn (fun d hd he=>h3 d hd (he ▸ ht)),fun hl=>by
   cases hc:callKind oj.op with
   | true=>exact hk.1 hc
   | false=>exact hb (hst.resolve_right (by simp[hl])) hc,by rw[← Zh3 h2];exact hk.2⟩
 obtain⟨hd,hv⟩:=hv
 refine⟨Zd1 put_n'.symm hd,?_⟩
 have go:vcOp P oj (e.put oi.dst v) h (fun e' h'=>(callKind oj.op=true→BoxLe h h')∧K e' h')→vcOp P oj e h (fun e' h'=>(callKind oj.op=true→BoxLe h h')∧e'.n=e.n∧(∀ t ∈ oi.looksAt ops,e'.get t=e.get t)∧(loadKind oi.op=true→BoxLe h h')∧K (e'.put oi.dst v) h'):=fun hs=>
  Zcl hr (Zgh hag) (fun u h' hb hk=>fin u h' hb hk) hs
 cases hg:oj.guard with
 | none=>simp only[hg] at hv ⊢;exact go hv
 | some gw=>
   obtain⟨j,want⟩:=gw
   simp only[hg] at hv ⊢
   rw[Z7s hag hg]
   split at hv
   ·exact⟨fun hb=>go (hv.1 hb),fun hb=>fin _ _ (fun _ _=>BoxLe.refl h) (hv.2 hb)⟩
   ·exact fin _ _ (fun _ _=>BoxLe.refl h) hv
   ·exact hv.elim
theorem Z2a {all:List Oper} {o:Oper} {e:Env} {h:HS} {K K1:Env→HS→Prop} (hr:Real e h) (hK:∀ e' h',K e' h'→K1 e' h') (hv:vcG P all o e h K):vcG P all o e h K1:=by
 obtain⟨hd,hv⟩:=hv
 refine⟨hd,?_⟩
 have go:vcOp P o e h K→vcOp P o e h K1:=fun hs=>Zcl hr (fun _ _=>rfl) (fun u h' _ hk=>hK _ _ hk) hs
 split at hv
 ·rename_i hg;exact go hv
 ·rename_i j want hg
  split at hv
  ·rename_i hy;exact⟨fun hb=>go (hv.1 hb),fun hb=>hK _ _ (hv.2 hb)⟩
  ·exact hK _ _ hv
  ·exact hv.elim
theorem GivesG.real {ops:Array Oper} {o:Oper} {e:Env} {h:HS} {v:V} (hp:Z4s o.op=true) (hr:Real e h) (hg:GivesG P ops o e h v):Real (e.put o.dst v) h:=by
 obtain⟨v',h1,h2,_⟩:=Zcq hp hr (hg e h (fun e2 h2=>e2=e.put o.dst v∧h2=h) rfl (fun _ _=>rfl) (fun _=>BoxLe.refl h) ⟨rfl,rfl⟩)
 rw[← h1.1];exact h2
theorem Zhy {md:Region.Mode} {ops:Array Oper} {K:Env→HS→Prop} {i:Nat} {oi:Oper} {v:V} (W:Nat→Bool) (hi:ops[i]?=some oi) (hp:Z4s oi.op=true)
  (hW:∀ j,W j=true→∃ oj,ops[j]?=some oj∧∃ x ∈ oj.after,Region.binds md x=true∧(x.on=i∨W x.on=true)) :
  ∀ (f:Nat) (listed:Array Bool) (e:Env) (h:HS),(∀ j,W j=true→listed.getD j true=false) →
    (∀ j oj,ops[j]?=some oj→j≠i→listed.getD j true=false→W j=false→oi.apart ops oj=true∧(storeKind oj.op=false∨loadKind oi.op=false)) →
    i ∈ Region.ready md ops listed→GivesG P ops oi e h v →
    vcAny P md ops K f (listed.setIfInBounds i true) (e.put oi.dst v) h→vcAny P md ops K (f+1) listed e h:=by
 intro f
 induction f with
 | zero=>
   intro listed e h _ _ hr hg H hR
   refine⟨fun h=>(by rw[h] at hr;cases hr),fun j hj=>?_⟩
   by_cases hji:j=i
   ·subst hji;exact⟨oi,hi,hg e h _ rfl (fun _ _=>rfl) (fun _=>BoxLe.refl h) ⟨fun hc=>(by rw[Z7m hp] at hc;cases hc),H⟩⟩
   ·have:=ready_mono hj hji
    rw[H.1] at this
    cases this
 | succ f ih=>
   intro listed e h hWl hfree hr hg H hR
   have hR':=hg.real hp hR
   refine⟨fun h=>(by rw[h] at hr;cases hr),fun j hj=>?_⟩
   by_cases hji:j=i
   ·subst hji;exact⟨oi,hi,hg e h _ rfl (fun _ _=>rfl) (fun _=>BoxLe.refl h) ⟨fun hc=>(by rw[Z7m hp] at hc;cases hc),H⟩⟩
   ·obtain⟨oj,hoj,h1⟩:=(H hR').2 j (ready_mono hj hji)
    obtain⟨hjun,oj',hoj',hall⟩:=mem_ready.1 hj
    have:oj'=oj:=Option.some.inj (hoj'.symm.trans hoj)
    subst this
    have unl:∀ k,listed.getD k true=false→listed.getD k false=true→False:=fun k h1 h2=>by
     rcases Nat.lt_or_ge k listed.size with h' | h'
     ·simp[h'] at h1 h2;rw[h1] at h2;cases h2
     ·simp[Array.getElem?_eq_none h'] at h2
    have hnot:W j=false:=by
     cases hw:W j with
     | false=>rfl
     | true=>
       obtain⟨ok,hok,x,hx,hb,hon⟩:=hW j hw
       have:ok=oj':=Option.some.inj (hok.symm.trans hoj)
       subst this
       have h1:=hall x hx hb
       rcases hon with hon | hon
       ·rw[hon] at h1;exact (unl i (mem_ready.1 hr).1 h1).elim
       ·exact (unl _ (hWl _ hon) h1).elim
    obtain⟨hap,hst⟩:=hfree j oj' hoj hji hjun hnot
    have hfree':∀ k ok,ops[k]?=some ok→k≠i→(listed.setIfInBounds j true).getD k true=false →
      W k=false→oi.apart ops ok=true∧(storeKind ok.op=false∨loadKind oi.op=false):=fun k ok hk hki hun hno=>by
     refine hfree k ok hk hki ?_ hno
     by_cases hjk:j=k
     ·subst hjk;exact hjun
     ·rw[getD_set_ne true hjk] at hun;exact hun
    have hWl':∀ k,W k=true→(listed.setIfInBounds j true).getD k true=false:=fun k hk=>by
     have hjk:j≠k:=by rintro rfl;rw[hnot] at hk;cases hk
     rw[getD_set_ne true hjk];exact hWl k hk
    refine⟨oj',hoj,Z2a hR (fun e' h' hk=>?_) (Zpn hap hst hR' h1)⟩
    obtain⟨hcb,hn,hag,hb,hk⟩:=hk
    refine⟨hcb,?_⟩
    refine ih (listed.setIfInBounds j true) e' h' hWl' hfree' (ready_mono hr (Ne.symm hji)) (hg.step hn hag hb) ?_
    ·rw[Array.setIfInBounds_comm _ _ hji]
     exact hk
def waitsN (md:Region.Mode) (ops:Array Oper) (i:Nat):Nat→List Nat→List Nat
 | 0,w=>w
 | n+1,w=>waitsN md ops i n ((List.range ops.size).filter fun j=>match ops[j]? with
   | some o=>o.after.any fun x=>Region.binds md x && (x.on == i || w.contains x.on)
   | none=>false)
def waitsB (md:Region.Mode) (ops:Array Oper) (i:Nat) (w:List Nat):Bool:=w.all fun j=>match ops[j]? with
    | some o=>o.after.any fun x=>Region.binds md x && (x.on == i || w.contains x.on)
    | none=>false
def firstB (md:Region.Mode) (ops:Array Oper) (listed:Array Bool) (i:Nat):Bool:=
 match ops[i]? with
 | none=>false
 | some oi=>
   let w:=waitsN md ops i ops.size []
   Z4s oi.op && (Region.ready md ops listed).contains i && waitsB md ops i w && w.all (fun j=>!listed.getD j true) && (List.range ops.size).all fun j=>j == i || listed.getD j true || w.contains j || match ops[j]? with
    | some oj=>oi.apart ops oj && (!storeKind oj.op || !loadKind oi.op)
    | none=>true
inductive Plan where
 | done
 | one (i:Nat) (p:Plan)
 | two (i j:Nat) (p q:Plan)
 | three (i j k:Nat) (p q r:Plan)
 | four (i j k l:Nat) (p q r s:Plan)
def planB (md:Region.Mode) (ops:Array Oper):Plan→Nat→Array Bool→Bool
 | .done,f,listed=>f == 0 && (Region.ready md ops listed).isEmpty
 | .one _ _,0,_=>false
 | .one i p,f+1,listed=>(Region.ready md ops listed == [i] || firstB md ops listed i) && planB md ops p f (listed.setIfInBounds i true)
 | .two _ _ _ _,0,_=>false
 | .two i j p q,f+1,listed=>Region.ready md ops listed == [i,j] && planB md ops p f (listed.setIfInBounds i true) && planB md ops q f (listed.setIfInBounds j true)
 | .three _ _ _ _ _ _,0,_=>false
 | .three i j k p q r,f+1,listed=>Region.ready md ops listed == [i,j,k] && planB md ops p f (listed.setIfInBounds i true) && planB md ops q f (listed.setIfInBounds j true) && planB md ops r f (listed.setIfInBounds k true)
 | .four _ _ _ _ _ _ _ _,0,_=>false
 | .four i j k l p q r s,f+1,listed=>Region.ready md ops listed == [i,j,k,l] && planB md ops p f (listed.setIfInBounds i true) && planB md ops q f (listed.setIfInBounds j true) && planB md ops r f (listed.setIfInBounds k true) && planB md ops s f (listed.setIfInBounds l true)
def Plan.then_:List Nat→Plan→Plan
 | [],p=>p
 | i::r,p=>.one i (Plan.then_ r p)
def Z01 (ops:List Oper):List Nat→List Oper
 | []=>[]
 | i::r=>match ops[i]? with
   | some o=>o::Z01 ops r
   | none=>Z01 ops r
def Z00 (ops:List Oper) (i:Nat):Bool:=
 match ops[i]? with
 | some o=>callKind o.op
 | none=>false
def vcPlan (P:Program) (ops:List Oper) (K:Env→HS→Prop):Plan→Env→HS→Prop
 | .done,e,h=>K e h
 | .one i p,e,h=>vcOps P ops (Z01 ops [i]) e h (fun e' h'=>(Z00 ops i=true→BoxLe h h')∧vcPlan P ops K p e' h')
 | .two i j p q,e,h=>vcOps P ops (Z01 ops [i]) e h (fun e' h'=>(Z00 ops i=true→BoxLe h h')∧vcPlan P ops K p e' h')∧vcOps P ops (Z01 ops [j]) e h (fun e' h'=>(Z00 ops j=true→BoxLe h h')∧vcPlan P ops K q e' h')
 | .four i j k l p q r s,e,h=>vcOps P ops (Z01 ops [i]) e h (fun e' h'=>(Z00 ops i=true→BoxLe h h')∧vcPlan P ops K p e' h')∧vcOps P ops (Z01 ops [j]) e h (fun e' h'=>(Z00 ops j=true→BoxLe h h')∧vcPlan P ops K q e' h')∧vcOps P ops (Z01 ops [k]) e h (fun e' h'=>(Z00 ops k=true→BoxLe h h')∧vcPlan P ops K r e' h')∧vcOps P ops (Z01 ops [l]) e h (fun e' h'=>(Z00 ops l=true→BoxLe h h')∧vcPlan P ops K s e' h')
 | .three i j k p q r,e,h=>vcOps P ops (Z01 ops [i]) e h (fun e' h'=>(Z00 ops i=true→BoxLe h h')∧vcPlan P ops K p e' h')∧vcOps P ops (Z01 ops [j]) e h (fun e' h'=>(Z00 ops j=true→BoxLe h h')∧vcPlan P ops K q e' h')∧vcOps P ops (Z01 ops [k]) e h (fun e' h'=>(Z00 ops k=true→BoxLe h h')∧vcPlan P ops K r e' h')
theorem Z1y {md:Region.Mode} {ops:Array Oper} {listed:Array Bool} {i:Nat} (hm:i ∈ Region.ready md ops listed) {e:Env} {h:HS} {l:List Nat} {K:Env→HS→Prop} (hv:vcOps P ops.toList (Z01 ops.toList (i::l)) e h K) :
  ∃ o,ops[i]?=some o∧Z00 ops.toList i=callKind o.op∧vcG P ops.toList o e h (fun e h=>vcOps P ops.toList (Z01 ops.toList l) e h K):=by
 obtain⟨_,o,ho,_⟩:=mem_ready.1 hm
 have ho':ops.toList[i]?=some o:=by simpa using ho
 refine⟨o,ho,by simp only[Z00,ho'],?_⟩
 simp only[Z01,ho'] at hv
 exact hv
theorem Z25 {md:Region.Mode} {ops:Array Oper} {K:Env→HS→Prop}:∀ (p:Plan) (f:Nat) (listed:Array Bool) (e:Env) (h:HS),planB md ops p f listed=true →
  vcPlan P ops.toList K p e h→vcAny P md ops K f listed e h
 | .done,f,listed,e,h,hB,hv=>by
   unfold planB at hB
   simp only[Bool.and_eq_true,beq_iff_eq] at hB
   obtain⟨rfl,hB⟩:=hB
   exact⟨by simpa using hB,fun _=>hv⟩
 | .one i p,0,listed,e,h,hB,hv=>by unfold planB at hB;cases hB
 | .one i p,f+1,listed,e,h,hB,hv=>by
   unfold planB at hB
   simp only[Bool.and_eq_true,Bool.or_eq_true] at hB
   obtain⟨hB,hrest⟩:=hB
   have ih:=fun e h=>Z25 (K:=K) p f (listed.setIfInBounds i true) e h hrest
   have hmem:i ∈ Region.ready md ops listed:=by
    rcases hB with hB | hB
    ·rw[eq_of_beq hB];simp
    ·unfold firstB at hB
     split at hB
     ·cases hB
     ·simp only[Bool.and_eq_true] at hB
      simpa using hB.1.1.1.2
   obtain⟨o,ho,hck,hv'⟩:=Z1y hmem hv
   rw[hck] at hv'
   by_cases hR:Real e h
   ·rcases hB with hB | hB
    ·intro _
     refine⟨fun h0=>(by rw[h0] at hmem;cases hmem),fun j hj=>?_⟩
     rw[eq_of_beq hB] at hj
     have:j=i:=by simpa using hj
     subst this
     exact⟨o,ho,Z2a hR (fun e' h' hk=>⟨hk.1,ih e' h' hk.2⟩) hv'⟩
    ·unfold firstB at hB
     simp only[ho,Bool.and_eq_true] at hB
     obtain⟨⟨⟨⟨hp,_⟩,hwB⟩,hwl⟩,hall⟩:=hB
     obtain⟨v,hk,hR',hg⟩:=Zcq hp hR hv'
     generalize waitsN md ops i ops.size []=w at hwB hwl hall
     refine Zhy (fun j=>w.contains j) ho hp (fun j hj=>?_) f listed e h (fun j hj=>?_) (fun j oj hj hne hun hno=>?_) hmem hg (ih _ _ hk.2)
     ·have h1:=List.all_eq_true.1 hwB j (by simpa using hj)
      split at h1
      ·rename_i o ho'
       obtain⟨x,hx,hb⟩:=Array.any_eq_true'.1 h1
       simp only[Bool.and_eq_true,Bool.or_eq_true,beq_iff_eq] at hb
       exact⟨o,ho',x,hx,hb.1,hb.2⟩
      ·cases h1
     ·have h1:=List.all_eq_true.1 hwl j (by simpa using hj)
      simpa using h1
     ·have h1:=List.all_eq_true.1 hall j (List.mem_range.2 (Array.getElem?_eq_some_iff.1 hj).1)
      simp only[hj,Bool.or_eq_true,beq_iff_eq,hne,false_or,hun,Bool.false_eq_true,hno] at h1
      simp only[Bool.and_eq_true,Bool.or_eq_true,Bool.not_eq_true'] at h1
      exact h1
   ·exact fun hR'=>absurd hR' hR
 | .two i j p q,0,listed,e,h,hB,hv=>by unfold planB at hB;cases hB
 | .two i j p q,f+1,listed,e,h,hB,hv=>by
   unfold planB at hB
   simp only[Bool.and_eq_true] at hB
   have hr:Region.ready md ops listed=[i,j]:=eq_of_beq hB.1.1
   intro hR
   refine⟨fun h0=>(by rw[hr] at h0;cases h0),fun k hk=>?_⟩
   have hk':=hk
   rw[hr] at hk'
   simp only[List.mem_cons,List.not_mem_nil,or_false] at hk'
   rcases hk' with rfl | rfl
   ·obtain⟨o,ho,hck,hv'⟩:=Z1y hk hv.1
    rw[hck] at hv'
    exact⟨o,ho,Z2a hR (fun e' h' hk=>⟨hk.1,Z25 p f _ e' h' hB.1.2 hk.2⟩) hv'⟩
   ·obtain⟨o,ho,hck,hv'⟩:=Z1y hk hv.2
    rw[hck] at hv'
    exact⟨o,ho,Z2a hR (fun e' h' hk=>⟨hk.1,Z25 q f _ e' h' hB.2 hk.2⟩) hv'⟩
 | .three i j l p q r,0,listed,e,h,hB,hv=>by unfold planB at hB;cases hB
 | .three i j l p q r,f+1,listed,e,h,hB,hv=>by
   unfold planB at hB
   simp only[Bool.and_eq_true] at hB
   have hr:Region.ready md ops listed=[i,j,l]:=eq_of_beq hB.1.1.1
   intro hR
   refine⟨fun h0=>(by rw[hr] at h0;cases h0),fun k hk=>?_⟩
   have hk':=hk
   rw[hr] at hk'
   simp only[List.mem_cons,List.not_mem_nil,or_false] at hk'
   rcases hk' with rfl | rfl | rfl
   ·obtain⟨o,ho,hck,hv'⟩:=Z1y hk hv.1
    rw[hck] at hv'
    exact⟨o,ho,Z2a hR (fun e' h' hk=>⟨hk.1,Z25 p f _ e' h' hB.1.1.2 hk.2⟩) hv'⟩
   ·obtain⟨o,ho,hck,hv'⟩:=Z1y hk hv.2.1
    rw[hck] at hv'
    exact⟨o,ho,Z2a hR (fun e' h' hk=>⟨hk.1,Z25 q f _ e' h' hB.1.2 hk.2⟩) hv'⟩
   ·obtain⟨o,ho,hck,hv'⟩:=Z1y hk hv.2.2
    rw[hck] at hv'
    exact⟨o,ho,Z2a hR (fun e' h' hk=>⟨hk.1,Z25 r f _ e' h' hB.2 hk.2⟩) hv'⟩
 | .four i j l m p q r s,0,listed,e,h,hB,hv=>by unfold planB at hB;cases hB
 | .four i j l m p q r s,f+1,listed,e,h,hB,hv=>by
   unfold planB at hB
   simp only[Bool.and_eq_true] at hB
   have hr:Region.ready md ops listed=[i,j,l,m]:=eq_of_beq hB.1.1.1.1
   intro hR
   refine⟨fun h0=>(by rw[h0] at hr;cases hr),fun k hk=>?_⟩
   have hk':=hk
   rw[hr] at hk'
   simp only[List.mem_cons,List.not_mem_nil,or_false] at hk'
   rcases hk' with rfl | rfl | rfl | rfl
   ·obtain⟨o,ho,hck,hv'⟩:=Z1y hk hv.1
    rw[hck] at hv'
    exact⟨o,ho,Z2a hR (fun e' h' hk=>⟨hk.1,Z25 p f _ e' h' hB.1.1.1.2 hk.2⟩) hv'⟩
   ·obtain⟨o,ho,hck,hv'⟩:=Z1y hk hv.2.1
    rw[hck] at hv'
    exact⟨o,ho,Z2a hR (fun e' h' hk=>⟨hk.1,Z25 q f _ e' h' hB.1.1.2 hk.2⟩) hv'⟩
   ·obtain⟨o,ho,hck,hv'⟩:=Z1y hk hv.2.2.1
    rw[hck] at hv'
    exact⟨o,ho,Z2a hR (fun e' h' hk=>⟨hk.1,Z25 r f _ e' h' hB.1.2 hk.2⟩) hv'⟩
   ·obtain⟨o,ho,hck,hv'⟩:=Z1y hk hv.2.2.2
    rw[hck] at hv'
    exact⟨o,ho,Z2a hR (fun e' h' hk=>⟨hk.1,Z25 s f _ e' h' hB.2 hk.2⟩) hv'⟩
theorem SWP.draw {id:Nat} {ops:Array Oper} {Q:Exit→Env→HS→Prop} {e:Env} {h:HS} (plan:Plan) (hm:P.follows .mixedOrders=true)
  (hB:planB .any ops plan ops.size (Array.replicate ops.size false)=true) (hv:vcPlan P ops.toList (Q .normal) plan e h):SWP P (.region id ops true) Q e h:=by
 intro Γ a w μ hI hE
 exact wp_region_any hm (Zdw (Γ:=Γ) (fun e' h' μ' a' w' hk hI' hE' hle=>⟨e',h',μ',hk,hI',hE',hle⟩) ops.size _ (hI.drew) hE (.refl μ) (Z25 plan _ _ e h hB hv))
end
end Go.Am
end
section
namespace Go.Am
open Go
open Go.RowKit (Below)
section
variable {P:Program} {w:World} {a:Act} {e:Env} {h:HS} {μ:Mem} {Γ:Ctx}
inductive Frz (h:HS):C→D→Prop
 | data {c:C} {x:D} (hx:c.toD=some x):Frz h c x
 | mrow {l:Lab} {off cap es:Nat} {xs:List (List D)} {cs:List C} (f:Nat→Nat→C) (hb:h.box l=some cs) (hl:xs.length≤LIM) (hes:∀ x ∈ xs,x.length=es)
   (hc:∀ (i:Nat) x,xs[i]?=some x→∀ (j:Nat) d,x[j]?=some d→cs[off+(i * es+j)]?=some (f i j))
   (hf:∀ (i:Nat) x,xs[i]?=some x→∀ (j:Nat) d,x[j]?=some d→Frz h (f i j) d):Frz h (.mrow l off xs.length cap) (.sl xs)
theorem Zoz (hI:Inv Γ h μ w) {m:CM} (hs:Sub μ.cell m) (hm:∀ l cs b n o u,h.box l=some cs→μ.loc l=some (some b,n)→w.cell? ⟨b,o,none⟩=some u→m b o=some u)
  {c:C} {x:D} (hf:Frz h c x):∀ {v:Value},RepC μ c v→RepD m x v:=by
 induction hf with
 | data hx=>intro v hc;exact (Z5z hc hx).mono hs
 | @mrow l off cap es xs cs f hb hl hes hc hf ih=>
   intro v hv
   obtain⟨b,k,hloc,rfl,hcap⟩:=hv
   obtain⟨b',n,T,conc,h1,_,h3,h4,_⟩:=hI.box l cs hb
   rw[hloc] at h1
   simp only[Option.some.injEq,Prod.mk.injEq] at h1
   obtain⟨rfl,_⟩:=h1
   refine .sl xs _ cap es b off (fun i j=>conc.getD (off+(i * es+j)) undef) hl hcap hes (fun _=>rfl) (fun i x hx j d hd=>?_) (fun i x hx j d hd=>?_)
   ·obtain⟨u,hu,_⟩:=h4.2 _ _ (hc i x hx j d hd)
    refine hm l cs b k _ _ hb hloc ?_
    simp[World.cell?,h3,hu,Array.getD_eq_getD_getElem?]
   ·obtain⟨u,hu,hr⟩:=h4.2 _ _ (hc i x hx j d hd)
    have:conc.getD (off+(i * es+j)) undef=u:=by rw[Array.getD_eq_getD_getElem?,hu];rfl
    simp only[this]
    exact ih i x hx j d hd hr
def FrzCs (h:HS):List C→List D→Prop
 | [],[]=>True
 | c::cs,x::xs=>Frz h c x∧FrzCs h cs xs
 | _,_=>False
theorem FrzCs.get:∀ {cs:List C} {xs:List D},FrzCs h cs xs→cs.length=xs.length∧∀ (i:Nat) x,xs[i]?=some x→∃ c,cs[i]?=some c∧Frz h c x
 | [],[],_=>⟨rfl,fun i x hi=>by simp at hi⟩
 | c::cs,y::xs,hr=>by
   obtain⟨h1,h2⟩:=FrzCs.get hr.2
   refine⟨by simp[h1],fun i x hi=>?_⟩
   cases i with
   | zero=>simp at hi;subst hi;exact⟨c,by simp,hr.1⟩
   | succ i=>obtain⟨c',h3,h4⟩:=h2 i x (by simpa using hi);exact⟨c',by simpa using h3,h4⟩
 | [],_::_,hr=>hr.elim
 | _::_,[],hr=>hr.elim
def notTup:V→Bool
 | .tup _=>false
 | _=>true
def retH (P:Program) (rs:List ResultVar) (K:V→HS→Prop):Exit→Env→HS→Prop:=fun x e h=>
 match x with
 | .normal | .ret=>match resVs P e h rs with
   | some [v]=>K v h
   | some vs=>vs.all notTup=true∧K (.tup vs) h
   | none=>False
 | _=>False
def envV (n:Nat) (vs:List V):Env:={ n,get:=fun k=>(vs[k]?).getD .undef }
theorem HSpec.of_vc {f:FuncId} {fn:Func} {c:Code} {n:Nat} {vs:List V} {K:V→HS→Prop} (hf:P.funcs[f]?=some fn) (hb:fn.body=some c) (hnm:(fn.name == "runtime.NumGoroutine")=false) (hn:fn.ntmps=n) {rs:List ResultVar} (hrs:fn.results.toList=rs) (has:vs.length≤n)
  (hv:vc P c (retH P rs K) (envV n vs) h):HSpec P f vs h K:=by
 subst hrs
 refine⟨⟨fn,hf,hnm,by rw[hb];rfl⟩,fun Γ μ w vals hI hargs=>?_⟩
 have hE:EnvRel μ (envV n vs) { tmps:=vals++Array.replicate (fn.ntmps - vals.size) undef,defers:=[] }:=by
  refine⟨rfl,?_,fun k=>?_⟩
  ·simp[envV,hargs.1,hn];omega
  ·simp only[envV]
   cases hk:vs[k]? with
   | some x=>
     obtain⟨u,hu,hr⟩:=hargs.2 k x hk
     have hlt:k < vals.size:=(Array.getElem?_eq_some_iff.1 hu).1
     have:(vals++Array.replicate (fn.ntmps - vals.size) undef).getD k undef=u:=by
      rw[Array.getD_eq_getD_getElem?,Array.getElem?_append_left hlt,hu];rfl
     simp only[this,Option.getD_some]
     exact hr
   | none=>
     have hge:vals.size≤k:=by rw[hargs.1];exact List.getElem?_eq_none_iff.1 hk
     show (vals++Array.replicate (fn.ntmps - vals.size) undef).getD k undef=undef
     rw[Array.getD_eq_getD_getElem?,Array.getElem?_append_right hge]
     cases hx:(Array.replicate (fn.ntmps - vals.size) undef)[k - vals.size]? with
     | none=>rfl
     | some u=>
       obtain⟨_,he⟩:=Array.getElem?_eq_some_iff.1 hx
       simp at he
       simp[he]
 refine calls_of_wp hf hb (Code.wp_mono ?_ (Z5w c _ _ _ hv Γ _ w _ hI hE))
 rintro ex a' w' ⟨e',h',μ',hq,hI',hE',hle⟩
 have fin:(match resVs P e' h' fn.results.toList with
  | some [v]=>K v h'
  | some vs=>vs.all notTup=true∧K (.tup vs) h'
  | none=>False)→a'.defers=[]∧∃ v,(results fn a'.tmps).run P w'=.ok v w'∧∃ u v' h'' μ'',Ending.returned v=.returned u∧K v' h''∧Inv Γ h'' μ'' w'∧RepV μ'' v' u∧Mem.Le μ μ'':=by
  intro hret
  cases hvs:resVs P e' h' fn.results.toList with
  | none=>rw[hvs] at hret;exact hret.elim
  | some vs'=>
    rw[hvs] at hret
    obtain⟨us,hrun,hlen,hR⟩:=Zi6 (P:=P) hI' hE' fn.results.toList vs' hvs
    have hres:(results fn a'.tmps).run P w'=.ok (if hh:us.toArray.size=1 then us.toArray[0] else .tuple us.toArray) w':=by
     rw[Zfg,Sem.run_bind,Array.mapM_eq_mapM_toList]
     have hrun':(Functor.map List.toArray (fn.results.toList.mapM (resF a'.tmps))).run P w'=.ok us.toArray w':=by
      rw[Sem.run_map,hrun];rfl
     rw[hrun']
     rfl
    refine⟨hE'.1,_,hres,?_⟩
    by_cases h1:∃ v,vs'=[v]
    ·obtain⟨v,rfl⟩:=h1
     obtain⟨u,hu,hru⟩:=hR 0 v (by simp)
     obtain⟨u',rfl⟩:∃ u',us=[u']:=by
      match us,hlen with
      | [u'],_=>exact⟨u',rfl⟩
     obtain rfl:u'=u:=by simpa using hu
     exact⟨u',v,h',μ',rfl,hret,hI',hru,hle⟩
    ·have hne:¬ us.toArray.size=1:=by
      simp only[List.size_toArray,hlen]
      intro hq
      exact h1 (by
       match vs',hq with
       | [v],_=>exact⟨v,rfl⟩)
     rw[dif_neg hne]
     have hret':vs'.all notTup=true∧K (.tup vs') h':=by
      clear hR hvs hlen hne
      revert h1 hret
      match vs' with
      | []=>exact fun hret _=>hret
      | [v]=>exact fun _ h1=>(h1 ⟨v,rfl⟩).elim
      | _::_::_=>exact fun hret _=>hret
     refine⟨_,.tup vs',h',μ',rfl,hret'.2,hI',⟨us.toArray,rfl,by simp[hlen],fun i x hi=>?_⟩,hle⟩
     obtain⟨u,hu,hru⟩:=hR i x hi
     refine⟨u,by simpa using hu,?_⟩
     have hx:=List.all_eq_true.1 hret'.1 x (List.mem_of_getElem? hi)
     cases x with
     | tup _=>simp[notTup] at hx
     | _=>exact hru
 cases ex with
 | normal=>exact fin hq
 | ret=>exact fin hq
 | exit id=>exact hq.elim
 | goto l=>exact hq.elim
 | panic ch=>exact hq.elim
 | outgrown=>exact hq.elim
def FrzRs (h:HS):List C→List RC→Prop
 | [],[]=>True
 | c::cs,.d x::rs=>Frz h c x∧FrzRs h cs rs
 | _,_=>False
def FrzV1 (h:HS) (v:V):RV→Prop
 | .one (.d x)=>match v with
   | .one c=>Frz h c x
   | _=>False
 | .agg rs=>match v with
   | .agg cs=>FrzRs h cs rs
   | _=>False
 | _=>False
def FrzVs (h:HS):List V→List RV→Prop
 | [],[]=>True
 | v::vs,r::rs=>FrzV1 h v r∧FrzVs h vs rs
 | _,_=>False
def FrzFin (h:HS) (v:V):RV→Prop
 | .tup rs=>match v with
   | .tup vs=>FrzVs h vs rs
   | _=>False
 | r=>FrzV1 h v r
theorem FrzRs.get:∀ {cs:List C} {rs:List RC},FrzRs h cs rs→cs.length=rs.length∧∀ (i:Nat) r,rs[i]?=some r→∃ c x,cs[i]?=some c∧r=.d x∧Frz h c x
 | [],[],_=>⟨rfl,fun i r hi=>by simp at hi⟩
 | c::cs,.d x::rs,hr=>by
   obtain⟨h1,h2⟩:=FrzRs.get hr.2
   refine⟨by simp[h1],fun i r hi=>?_⟩
   cases i with
   | zero=>simp at hi;subst hi;exact⟨c,x,by simp,rfl,hr.1⟩
   | succ i=>obtain⟨c',x',h3,h4⟩:=h2 i r (by simpa using hi);exact⟨c',x',by simpa using h3,h4⟩
 | [],_::_,hr=>hr.elim
 | _::_,[],hr=>hr.elim
 | _::_,.fresh _ _ _::_,hr=>hr.elim
theorem FrzVs.get:∀ {vs:List V} {rs:List RV},FrzVs h vs rs→vs.length=rs.length∧∀ (i:Nat) r,rs[i]?=some r→∃ v,vs[i]?=some v∧FrzV1 h v r
 | [],[],_=>⟨rfl,fun i r hi=>by simp at hi⟩
 | c::cs,r::rs,hr=>by
   obtain⟨h1,h2⟩:=FrzVs.get hr.2
   refine⟨by simp[h1],fun i r' hi=>?_⟩
   cases i with
   | zero=>simp at hi;subst hi;exact⟨c,by simp,hr.1⟩
   | succ i=>obtain⟨c',h3,h4⟩:=h2 i r' (by simpa using hi);exact⟨c',by simpa using h3,h4⟩
 | [],_::_,hr=>hr.elim
 | _::_,[],hr=>hr.elim
theorem FrzRs.fr:∀ {cs:List C} {rs:List RC},FrzRs h cs rs→rs.flatMap RC.fr=[]
 | [],[],_=>rfl
 | c::cs,.d x::rs,hr=>by rw[List.flatMap_cons,FrzRs.fr hr.2];rfl
 | [],_::_,hr=>hr.elim
 | _::_,[],hr=>hr.elim
 | _::_,.fresh _ _ _::_,hr=>hr.elim
theorem FrzV1.fr {v:V} {r:RV} (hr:FrzV1 h v r):RV1.fr r=[]:=by
 cases r with
 | one c=>cases c with
   | d x=>rfl
   | fresh j es xs=>exact hr.elim
 | agg rs=>cases v<;>first | exact hr.elim | exact FrzRs.fr hr
 | tup rs=>exact hr.elim
theorem FrzVs.fr:∀ {vs:List V} {rs:List RV},FrzVs h vs rs→rs.flatMap RV1.fr=[]
 | [],[],_=>rfl
 | v::vs,r::rs,hr=>by rw[List.flatMap_cons,FrzVs.fr hr.2,FrzV1.fr hr.1];rfl
 | [],_::_,hr=>hr.elim
 | _::_,[],hr=>hr.elim
theorem FrzFin.fr {v:V} {r:RV} (hr:FrzFin h v r):r.fr=[]:=by
 cases r with
 | tup rs=>cases v<;>first | exact hr.elim | exact FrzVs.fr hr
 | one c=>exact FrzV1.fr (r:=.one c) hr
 | agg rs=>exact FrzV1.fr (r:=.agg rs) hr
theorem Zeh {m:CM} {blk:Nat→Option Nat × Nat} (key:∀ {c:C} {x:D} {v:Value},Frz h c x→RepC μ c v→RepD m x v) {v:V} {r:RV} {u:Value} (hv:RepV μ v u) (hr:FrzV1 h v r):RepRV1 m blk r u:=by
 cases r with
 | one c=>
   cases c with
   | d x=>cases v<;>first | exact hr.elim | exact key hr hv
   | fresh j es xs=>exact hr.elim
 | agg rs=>
   cases v with
   | agg cs=>
     obtain⟨vs,h1,h2⟩:=hv
     obtain⟨h3,h4⟩:=FrzRs.get hr
     refine⟨vs,h1,by rw[h2.1,h3],fun i r hi=>?_⟩
     obtain⟨c,x,h5,rfl,h6⟩:=h4 i r hi
     obtain⟨u',h7,h8⟩:=h2.2 i c h5
     exact⟨u',h7,key h6 h8⟩
   | _=>exact hr.elim
 | tup rs=>exact hr.elim
theorem RepV.one1 {μ:Mem} {v:V} {u:Value} (hn:∀ vs,v≠.tup vs) (hv:RepV1 μ v u):RepV μ v u:=by
 cases v with
 | tup vs=>exact (hn vs rfl).elim
 | _=>exact hv
theorem Zma {m:CM} {blk:Nat→Option Nat × Nat} (key:∀ {c:C} {x:D} {v:Value},Frz h c x→RepC μ c v→RepD m x v) {v:V} {r:RV} {u:Value} (hv:RepV μ v u) (hr:FrzFin h v r):RepRV m blk r u:=by
 cases r with
 | tup rs=>
   cases v with
   | tup vs=>
     obtain⟨us,h1,h2,h3⟩:=hv
     obtain⟨h4,h5⟩:=FrzVs.get hr
     refine⟨us,h1,by rw[h2,h4],fun i r hi=>?_⟩
     obtain⟨v,h6,h7⟩:=h5 i r hi
     obtain⟨u',h8,h9⟩:=h3 i v h6
     refine⟨u',h8,Zeh key (RepV.one1 (fun vs he=>by subst he;exact h9.elim) h9) h7⟩
   | _=>exact hr.elim
 | one c=>exact Zeh (r:=.one c) key hv hr
 | agg rs=>exact Zeh (r:=.agg rs) key hv hr
theorem PSpec.of_heap {f:FuncId} {ars:List AV} {r:RV} (hs:HSpec P f (ars.map AV.toV) HS.init (fun v h=>FrzFin h v r)):PSpec P f ars r:=by
 refine⟨hs.1,fun w m t vals hm ht hargs=>?_⟩
 have hI:Inv ⟨w,m,t⟩ HS.init { cell:=m,tmp:=t,loc:=fun _=>none } w:=
  ⟨hm,rfl,ht,fun b o v hv=>ht.lt hv,Sub.refl _,fun _ _ _ _ h=>h,Below.refl _ _,fun l cs hl=>by simp[HS.init] at hl,fun l es n hl=>by simp[HS.init] at hl,
   fun l l' b n n' hl=>by rcases hl with hl | hl<;>simp[HS.init] at hl,fun l hl=>absurd rfl hl,fun l hl=>by simp[HS.init] at hl⟩
 refine (hs.2 ⟨w,m,t⟩ _ w vals hI ⟨by simp[hargs.1],fun i v hi=>?_⟩).mono ?_
 ·rw[List.getElem?_map] at hi
  cases hx:ars[i]? with
  | none=>simp[hx] at hi
  | some x=>
    simp[hx] at hi
    subst hi
    obtain⟨u,hu,hr⟩:=hargs.2 i x hx
    exact⟨u,hu,AV_rep hr⟩
 ·rintro en w' ⟨u,v,h',μ',rfl,hfr,hI',hru,hle⟩
  let m':CM:=fun b o=>match μ'.cell b o with
   | some v=>some v
   | none=>if w.heap.size≤b then w'.cell? ⟨b,o,none⟩ else none
  have hsub:Sub μ'.cell m':=fun b o v hv=>by show (match μ'.cell b o with | some v=>some v | none=>_)=some v;rw[hv]
  have hcell:Cells m' w':=fun b o v hv=>by
   have hv':(match μ'.cell b o with | some v=>some v | none=>if w.heap.size≤b then w'.cell? ⟨b,o,none⟩ else none)=some v:=hv
   cases hx:μ'.cell b o with
   | some y=>rw[hx] at hv';injection hv' with hv';subst hv';exact hI'.cell _ _ _ hx
   | none=>
     rw[hx] at hv'
     simp only at hv'
     split at hv'
     ·exact hv'
     ·cases hv'
  refine⟨u,m',fun _=>(none,0),rfl,fun b o v hv=>hsub _ _ _ (hI'.ext _ _ _ hv),fun b o v hb hv=>?_,hcell,hI'.below,?_,?_⟩
  ·have hv':(match μ'.cell b o with | some v=>some v | none=>if w.heap.size≤b then w'.cell? ⟨b,o,none⟩ else none)=some v:=hv
   cases hx:μ'.cell b o with
   | some y=>rw[hx] at hv';injection hv' with hv';subst hv';exact hI'.old _ _ _ hb hx
   | none=>rw[hx] at hv';simp only at hv';rw[if_neg (by omega)] at hv';cases hv'
  ·refine Zma (fun hf hc=>Zoz hI' hsub (fun l cs b n o u hb hl hu=>?_) hf hc) hru hfr
   obtain⟨b',n',T,conc,h1,h2,h3,_,h5⟩:=hI'.box l cs hb
   rw[hl] at h1
   simp only[Option.some.injEq,Prod.mk.injEq] at h1
   obtain⟨rfl,_⟩:=h1
   show (match μ'.cell b o with | some v=>some v | none=>if w.heap.size≤b then w'.cell? ⟨b,o,none⟩ else none)=some u
   rw[h5 o]
   simp only
   rw[if_pos h2]
   exact hu
  ·rw[hfr.fr]
   exact⟨fun x hx=>by simp at hx,fun x hx=>by simp at hx⟩
end
end Go.Am
end
section
namespace Go.Am
open Go
open Go.RowKit (Below)
section
variable {P:Program} {w:World} {a:Act} {e:Env} {h:HS} {μ:Mem} {Γ:Ctx}
inductive LendC (h:HS):C→A→Prop
 | frz {c:C} {x:D} (hf:Frz h c x):LendC h c (.d x)
 | ptr {l:Lab} {off:Nat} {cs:List C} {ds:List D} (hb:h.box l=some cs) (hf:FrzCs h (cs.drop off) ds):LendC h (.ptr l off) (.rp ds)
 | rp {cs:List D}:LendC h (.rp cs) (.rp cs)
 | fn {f:FuncId} {caps:List Cap} {dss:List (List D)} (hl:caps.length=dss.length) (hc:∀ (i:Nat) c ds,caps[i]?=some c→dss[i]?=some ds→match c with
   | .lab l=>∃ cs,h.box l=some cs∧FrzCs h cs ds
   | .rp cs=>cs=ds):LendC h (.fn f caps) (.fn f dss)
inductive LendV (h:HS):V→AV→Prop
 | one {c:C} {x:A} (hc:LendC h c x):LendV h (.one c) (.one x)
 | agg {cs:List C} {ds:List D} (hc:FrzCs h cs ds):LendV h (.agg cs) (.agg ds)
def LendVs (h:HS):List V→List AV→Prop
 | [],[]=>True
 | v::vs,x::xs=>LendV h v x∧LendVs h vs xs
 | _,_=>False
theorem LendVs.get:∀ {vs:List V} {xs:List AV},LendVs h vs xs→vs.length=xs.length∧∀ (i:Nat) x,xs[i]?=some x→∃ v,vs[i]?=some v∧LendV h v x
 | [],[],_=>⟨rfl,fun i x hi=>by simp at hi⟩
 | c::cs,y::xs,hr=>by
   obtain⟨h1,h2⟩:=LendVs.get hr.2
   refine⟨by simp[h1],fun i x hi=>?_⟩
   cases i with
   | zero=>simp at hi;subst hi;exact⟨c,by simp,hr.1⟩
   | succ i=>obtain⟨c',h3,h4⟩:=h2 i x (by simpa using hi);exact⟨c',by simpa using h3,h4⟩
 | [],_::_,hr=>hr.elim
 | _::_,[],hr=>hr.elim
theorem Zg0 (hI:Inv Γ h μ w) {c:C} {x:D} {v:Value} (hf:Frz h c x) (hc:RepC μ c v):RepD (snap w) x v:=
 Zoz hI hI.cell (fun _ _ _ _ _ _ _ _ hu=>hu) hf hc
theorem Ziw (hI:Inv Γ h μ w) {l:Lab} {cs:List C} {off:Nat} {ds:List D} (hb:h.box l=some cs) (hf:FrzCs h (cs.drop off) ds) {b n:Nat} (hl:μ.loc l=some (some b,n)):RepP (snap w) (snap w) ds (.pointer (some ⟨b,off,none⟩)):=by
 obtain⟨b',n',T,conc,h1,_,h3,h4,_⟩:=hI.box l cs hb
 rw[hl] at h1
 simp only[Option.some.injEq,Prod.mk.injEq] at h1
 obtain⟨rfl,_⟩:=h1
 obtain⟨_,hg⟩:=hf.get
 refine⟨b,off,rfl,fun j c hj=>?_⟩
 obtain⟨c',hc',hfz⟩:=hg j c hj
 rw[List.getElem?_drop] at hc'
 obtain⟨u,hu,hr⟩:=h4.2 _ _ hc'
 refine⟨u,.inl ?_,Zg0 hI hfz hr⟩
 show w.cell? ⟨b,off+j,none⟩=some u
 simp[World.cell?,h3,hu]
theorem Zoh (hI:Inv Γ h μ w) {cs:List D} {v:Value} (hr:RepP μ.cell μ.tmp cs v):RepP (snap w) (snap w) cs v:=by
 obtain⟨b,off,rfl,hc⟩:=hr
 refine⟨b,off,rfl,fun j c hj=>?_⟩
 obtain⟨u,hu,hrr⟩:=hc j c hj
 refine⟨u,.inl ?_,hrr.mono hI.cell⟩
 rcases hu with hu | hu
 ·exact hI.cell _ _ _ hu
 ·rw[hI.tmp] at hu;exact hI.tcell _ _ _ hu
theorem Zov (hI:Inv Γ h μ w) {c:C} {x:A} {v:Value} (hl:LendC h c x) (hc:RepC μ c v):RepA (snap w) (snap w) x v:=by
 cases hl with
 | frz hf=>exact Zg0 hI hf hc
 | ptr hb hf=>obtain⟨b,n,hl,rfl⟩:=hc;exact Ziw hI hb hf hl
 | rp=>exact Zoh hI hc
 | fn hlen hcs=>
   obtain⟨vs,h1,h2,h3⟩:=hc
   refine⟨vs,h1,by rw[h2,hlen],fun i ds hi=>?_⟩
   rename_i f caps dss
   have hlt:i < caps.length:=by rw[hlen];exact (List.getElem?_eq_some_iff.1 hi).1
   have hci:caps[i]?=some caps[i]:=List.getElem?_eq_getElem hlt
   obtain⟨u,hu,hr⟩:=h3 i _ hci
   refine⟨u,hu,?_⟩
   have:=hcs i _ ds hci hi
   generalize caps[i]=cp at this hr
   cases cp with
   | lab l=>
     obtain⟨cs,hb,hf⟩:=this
     obtain⟨b,n,hl,rfl⟩:=hr
     exact Ziw (off:=0) hI hb (by simpa using hf) hl
   | rp cs=>subst this;exact Zoh hI hr
theorem Zou (hI:Inv Γ h μ w) {v:V} {x:AV} {u:Value} (hl:LendV h v x) (hv:RepV μ v u):RepAV (snap w) (snap w) x u:=by
 cases hl with
 | one hc=>exact Zov hI hc hv
 | agg hc=>
   obtain⟨vs,h1,h2⟩:=hv
   obtain⟨h3,h4⟩:=hc.get
   refine⟨vs,h1,by rw[h2.1,h3],fun i x hi=>?_⟩
   obtain⟨c,h5,h6⟩:=h4 i x hi
   obtain⟨u',h7,h8⟩:=h2.2 i c h5
   exact⟨u',h7,Zg0 hI h6 h8⟩
def D.flat:D→Bool
 | .sl _=>false
 | _=>true
def RC.flat:RC→Bool
 | .d x=>x.flat
 | .fresh _ _ xs=>xs.all fun y=>y.all D.flat
def RV1.flat:RV→Bool
 | .one c=>c.flat
 | .agg cs=>cs.all RC.flat
 | .tup _=>true
def RV.flat:RV→Bool
 | .tup vs=>vs.all RV1.flat
 | v=>RV1.flat v
theorem Zj6 {m m':CM} {x:D} {v:Value} (hf:x.flat=true) (h:RepD m x v):RepD m' x v:=by
 cases h with
 | int k n=>exact .int k n
 | bool b=>exact .bool b
 | str s=>exact .str s
 | raw v h=>exact .raw v h
 | sl=>simp[D.flat] at hf
theorem HSpec.of_lend {f:FuncId} {vs:List V} {ars:List AV} {r:RV} {K:V→HS→Prop} (hs:PSpec P f ars r) (hl:LendVs h vs ars) (hflat:r.flat=true) (hk:K (r.toV h.ep 0) ((h.addFr 0 r.fr).next)):HSpec P f vs h K:=by
 refine⟨hs.1,fun Γ μ w vals hI hR=>?_⟩
 obtain⟨hlen,hget⟩:=hl.get
 have hargs:Ziq (snap w) (snap w) ars vals:=⟨by rw[hR.1,hlen],fun i x hi=>by
  obtain⟨v,hv,hlv⟩:=hget i x hi
  obtain⟨u,hu,hr⟩:=hR.2 i v hv
  exact⟨u,hu,Zou hI hlv hr⟩⟩
 refine (hs.2 w (snap w) (snap w) vals (Zcn w) (Zcn w) hargs).mono ?_
 rintro en w' ⟨v,m',blk,rfl,hsub,hold,hcell,hb,hr,hfr⟩
 let m2:CM:=fun b o=>match μ.cell b o with
  | some v=>some v
  | none=>if w.heap.size≤b then m' b o else none
 have e2:∀ b o,m2 b o=match μ.cell b o with
  | some v=>some v
  | none=>if w.heap.size≤b then m' b o else none:=fun _ _=>rfl
 have hsub1:Sub μ.cell m2:=fun b o v hv=>by rw[e2,hv]
 have hsub2:Sub m2 m':=fun b o v hv=>by
  rw[e2] at hv
  cases hx:μ.cell b o with
  | some y=>rw[hx] at hv;injection hv with hv;subst hv;exact hsub _ _ _ (hI.cell _ _ _ hx)
  | none=>
    rw[hx] at hv
    simp only at hv
    split at hv
    ·exact hv
    ·cases hv
 have hnew:∀ b o,w.heap.size≤b→m2 b o=m' b o:=fun b o hb=>by
  rw[e2]
  cases hx:μ.cell b o with
  | some y=>have:=hI.cell.lt hx;omega
  | none=>simp only;rw[if_pos hb]
 have hold2:∀ b o u,b < w.heap.size→m2 b o=some u→μ.cell b o=some u:=fun b o u hb hu=>by
  rw[e2] at hu
  cases hx:μ.cell b o with
  | some y=>rw[hx] at hu;exact hu
  | none=>rw[hx] at hu;simp only at hu;rw[if_neg (by omega)] at hu;cases hu
 have hcell2:Cells m2 w':=fun b o v hv=>hcell _ _ _ (hsub2 _ _ _ hv)
 have hfr2:Zd8 m2 w w' blk r.fr:=⟨fun x hx=>by
  have h1:=hfr.1 x hx
  refine⟨h1.1,fun g hg=>?_⟩
  obtain⟨h2,T,cur,h3,h4,h5,h6,h7⟩:=h1.2 g hg
  exact⟨h2,T,cur,h3,h4,h5,h6,fun o ho=>by rw[hnew g o h2];exact h7 o ho⟩,hfr.2⟩
 have rc:∀ (c:RC) (u:Value),c.flat=true→(∀ x ∈ c.fr,x ∈ r.fr)→RepRC m' blk c u→RepRC m2 blk c u:=fun c u hf hin hc=>by
  cases c with
  | d x=>exact Zj6 hf hc
  | fresh j es xs=>
    obtain⟨h1,h2⟩:=hc
    refine⟨?_,h2⟩
    have hrow:=hfr.1 (j,es,xs.length) (hin _ (by simp[RC.fr]))
    generalize hv:u=uu at h1
    cases h1 with
    | sl xs ad cap es' b off f hl hc hes ha hcl hrep=>
      subst hv
      refine .sl xs ad cap es' b off f hl hc hes ha (fun i x hx j' d hd=>?_) (fun i x hx j' d hd=>Zj6 ?_ (hrep i x hx j' d hd))
      ·have hne:xs≠[]:=by rintro rfl;simp at hx
       have had:=ha hne
       rw[had] at h2
       simp only[hdr,Value.slice.injEq] at h2
       obtain⟨h3,_⟩:=h2
       cases hg:(blk j).1 with
       | none=>rw[hg] at h3;cases h3
       | some g=>
         rw[hg] at h3
         simp only[Option.map_some,Option.some.injEq,Addr.mk.injEq] at h3
         obtain⟨rfl,_⟩:=h3
         have:=(hrow.2 b hg).1
         rw[hnew b _ this]
         exact hcl i x hx j' d hd
      ·simp only[RC.flat] at hf
       have h4:=List.all_eq_true.1 hf x (List.mem_of_getElem? hx)
       exact List.all_eq_true.1 h4 d (List.mem_of_getElem? hd)
 have rv1:∀ (c:RV) (u:Value),RV1.flat c=true→(∀ x ∈ RV1.fr c,x ∈ r.fr)→RepRV1 m' blk c u→RepRV1 m2 blk c u:=fun c u hf hin hc=>by
  cases c with
  | one c=>exact rc c u hf hin hc
  | agg cs=>
    obtain⟨us,h1,h2,h3⟩:=hc
    refine⟨us,h1,h2,fun i c hi=>?_⟩
    obtain⟨u',h4,h5⟩:=h3 i c hi
    refine⟨u',h4,rc c u' (List.all_eq_true.1 hf c (List.mem_of_getElem? hi)) (fun x hx=>hin x ?_) h5⟩
    exact List.mem_flatMap.2 ⟨c,List.mem_of_getElem? hi,hx⟩
  | tup vs=>exact hc.elim
 have hr2:RepRV m2 blk r v:=by
  cases r with
  | tup rs=>
    obtain⟨us,h1,h2,h3⟩:=hr
    refine⟨us,h1,h2,fun i c hi=>?_⟩
    obtain⟨u',h4,h5⟩:=h3 i c hi
    refine⟨u',h4,rv1 c u' (List.all_eq_true.1 hflat c (List.mem_of_getElem? hi)) (fun x hx=>?_) h5⟩
    exact List.mem_flatMap.2 ⟨c,List.mem_of_getElem? hi,hx⟩
  | one c=>exact rv1 (.one c) v hflat (fun x hx=>hx) hr
  | agg cs=>exact rv1 (.agg cs) v hflat (fun x hx=>hx) hr
 have hle:Mem.Le μ (relab μ h.ep 0 m2 blk):=⟨hsub1,rfl,fun l x hl=>by
  have:=hI.lt l (by rw[hl];simp)
  simp only[relab]
  rw[if_neg (by omega)]
  exact hl⟩
 exact⟨v,_,_,relab μ h.ep 0 m2 blk,rfl,hk,hI.call 0 hsub1 hold2 hcell2 hb hfr2,RV_rep hr2 h.ep 0,hle⟩
end
end Go.Am
end
section
namespace Go.Am
open Go
class Hid (α:Type) where
 out:α
def optV {α:Type} (x:Option α) [k:Hid (α→Prop)]:Prop:=
 match x with
 | some v=>k.out v
 | none=>False
@[simp] theorem optV_some {α:Type} {v:α} {f:α→Prop}:optV (some v) (k:=⟨f⟩)=f v:=rfl
@[simp] theorem optV_none {α:Type} {k:Hid (α→Prop)}:optV none (k:=k)=False:=rfl
def ptrV (x:V) [k:Hid (Lab→Nat→Prop)]:Prop:=
 match x with
 | .one (.ptr l off)=>k.out l off
 | _=>False
@[simp] theorem ptrV_ptr {l:Lab} {off:Nat} {f:Lab→Nat→Prop}:ptrV (.one (.ptr l off)) (k:=⟨f⟩)=f l off:=rfl
def fnV (x:V) [k:Hid (FuncId→List Cap→Prop)]:Prop:=
 match x with
 | .one (.fn f caps)=>k.out f caps
 | _=>False
@[simp] theorem fnV_fn {g:FuncId} {caps:List Cap} {f:FuncId→List Cap→Prop}:fnV (.one (.fn g caps)) (k:=⟨f⟩)=f g caps:=rfl
def oneV (x:V) [k:Hid (C→Prop)]:Prop:=
 match x with
 | .one c=>k.out c
 | _=>False
@[simp] theorem oneV_one {c:C} {f:C→Prop}:oneV (.one c) (k:=⟨f⟩)=f c:=rfl
def condV (x:V) [p:Hid (Unit→Prop)] [q:Hid (Bool→Prop)]:Prop:=
 match x with
 | .one (.d (.bool t))=>(t=true→p.out ())∧(t=false→q.out true)
 | _=>False
@[simp] theorem condV_true {f:Unit→Prop} {q:Hid (Bool→Prop)}:condV (.one (.d (.bool true))) (p:=⟨f⟩) (q:=q)=f ():=by simp[condV]
@[simp] theorem condV_false {p:Hid (Unit→Prop)} {g:Bool→Prop}:condV (.one (.d (.bool false))) (p:=p) (q:=⟨g⟩)=g true:=by simp[condV]
theorem Z5c {t:Bool} {f:Unit→Prop} {g:Bool→Prop} (h1:t=true→f ()) (h2:t=false→g true):condV (.one (.d (.bool t))) (p:=⟨f⟩) (q:=⟨g⟩):=⟨h1,h2⟩
theorem Z15 {a:Prop} [Decidable a] {f:Unit→Prop} {g:Bool→Prop} (h1:a→f ()) (h2:¬ a→g true):condV (.one (.d (.bool (decide a)))) (p:=⟨f⟩) (q:=⟨g⟩):=
 ⟨fun h=>h1 (of_decide_eq_true h),fun h=>h2 (of_decide_eq_false h)⟩
def guardV (x:V) (want:Bool) [p:Hid (Unit→Prop)] [q:Hid (Bool→Prop)]:Prop:=
 match x with
 | .one (.d (.bool b))=>(b=want→p.out ())∧(b≠want→q.out true)
 | .undef=>q.out true
 | _=>False
@[simp] theorem guardV_tt {f:Unit→Prop} {q:Hid (Bool→Prop)}:guardV (.one (.d (.bool true))) true (p:=⟨f⟩) (q:=q)=f ():=by simp[guardV]
@[simp] theorem guardV_ff {f:Unit→Prop} {q:Hid (Bool→Prop)}:guardV (.one (.d (.bool false))) false (p:=⟨f⟩) (q:=q)=f ():=by simp[guardV]
@[simp] theorem guardV_tf {p:Hid (Unit→Prop)} {g:Bool→Prop}:guardV (.one (.d (.bool true))) false (p:=p) (q:=⟨g⟩)=g true:=by simp[guardV]
@[simp] theorem guardV_ft {p:Hid (Unit→Prop)} {g:Bool→Prop}:guardV (.one (.d (.bool false))) true (p:=p) (q:=⟨g⟩)=g true:=by simp[guardV]
@[simp] theorem Ztq {want:Bool} {p:Hid (Unit→Prop)} {g:Bool→Prop}:guardV .undef want (p:=p) (q:=⟨g⟩)=g true:=rfl
def binK (P:Program) (op:BinOp) (t:TypeId) (x y:V) [k:Hid (V→Prop)]:Prop:=
 match x,y with
 | .agg cs,.agg cs'=>match toDs cs,toDs cs' with
   | some a,some b=>(isCmp op=true∧a.map kdOf=b.map kdOf∧Kd.other ∉ a.map kdOf∧EqT P t (a.map kdOf))∧k.out (dbool (if op=.neq then !(eqDs a b) else eqDs a b))
   | _,_=>False
 | u,v=>match binV op u v with
   | some r=>k.out r
   | none=>False
@[simp] theorem binK_one {P:Program} {op:BinOp} {t:TypeId} {c c':C} {f:V→Prop}:binK P op t (.one c) (.one c') (k:=⟨f⟩)=optV (binV op (.one c) (.one c')) (k:=⟨f⟩):=by
 unfold binK;dsimp only;split<;>simp_all [optV]
@[simp] theorem binK_agg {P:Program} {op:BinOp} {t:TypeId} {cs cs':List C} {f:V→Prop}:binK P op t (.agg cs) (.agg cs') (k:=⟨f⟩) =
  optV (toDs cs) (k:=⟨fun a=>optV (toDs cs') (k:=⟨fun b=>(isCmp op=true∧a.map kdOf=b.map kdOf∧Kd.other ∉ a.map kdOf∧EqT P t (a.map kdOf))∧f (dbool (if op=.neq then !(eqDs a b) else eqDs a b))⟩)⟩):=by
 simp only[binK]
 cases toDs cs<;>cases toDs cs'<;>rfl
def bldV (a:Option (List (List D))) (b:Option (List C)) [k:Hid (List (List D)→Prop)] [q:Hid (List C→Prop)]:Prop:=
 match a with
 | some xs=>k.out xs
 | none=>match b with
   | some cs=>q.out cs
   | none=>False
@[simp] theorem bldV_some {xs:List (List D)} {b:Option (List C)} {f:List (List D)→Prop} {q:Hid (List C→Prop)}:bldV (some xs) b (k:=⟨f⟩) (q:=q)=f xs:=rfl
@[simp] theorem bldV_none {cs:List C} {k:Hid (List (List D)→Prop)} {f:List C→Prop}:bldV none (some cs) (k:=k) (q:=⟨f⟩)=f cs:=rfl
def makV (x y:V) [k:Hid (Int→Int→Prop)]:Prop:=
 match x,y with
 | .one (.d (.int _ a)),.one (.d (.int _ b))=>k.out a b
 | _,_=>False
@[simp] theorem makV_int {i j:IntKind} {a b:Int} {f:Int→Int→Prop}:makV (.one (.d (.int i a))) (.one (.d (.int j b))) (k:=⟨f⟩)=f a b:=rfl
def binN (b:Bool) [p:Hid (Unit→Prop)] [q:Hid (Bool→Prop)]:Prop:=
 match b with
 | true=>p.out ()
 | false=>q.out true
@[simp] theorem binN_true {f:Unit→Prop} {q:Hid (Bool→Prop)}:binN true (p:=⟨f⟩) (q:=q)=f ():=rfl
@[simp] theorem binN_false {p:Hid (Unit→Prop)} {g:Bool→Prop}:binN false (p:=p) (q:=⟨g⟩)=g true:=rfl
def nilV (x:V) [k:Hid (C→Prop)]:Prop:=
 match x with
 | .one c=>k.out c
 | _=>False
def Wait (P:Program) [c:Hid Code] [Q:Hid (Exit→Env→HS→Prop)] (e:Env) (h:HS):Prop:=SWP P c.out Q.out e h
theorem Wait.of {P:Program} {c:Code} {Q:Exit→Env→HS→Prop} {e:Env} {h:HS} (hs:SWP P c Q e h):Wait P (c:=⟨c⟩) (Q:=⟨Q⟩) e h:=hs
theorem Wait.loop {P:Program} {c:Code} {Q:Exit→Env→HS→Prop} {e:Env} {h:HS} (I:Nat→Env→HS→Prop) (n:Nat) (h0:I n e h)
  (round:∀ n e h,I n e h→vc P c (thenQ (fun e' h'=>∃ n',n' < n∧I n' e' h') Q) e h):Wait P (c:=⟨.loop c⟩) (Q:=⟨Q⟩) e h:=SWP.loop I n h0 round
def Back [I:Hid (Nat→Env→HS→Prop)] (n:Nat) (e:Env) (h:HS):Prop:=∃ n',n' < n∧I.out n' e h
theorem Back.of {I:Nat→Env→HS→Prop} {n n':Nat} {e:Env} {h:HS} (hn:n' < n) (hI:I n' e h):Back (I:=⟨I⟩) n e h:=⟨n',hn,hI⟩
theorem Wait.rounds {P:Program} {c:Code} {Q:Exit→Env→HS→Prop} {e:Env} {h:HS} (I:Nat→Env→HS→Prop) (n:Nat) (h0:I n e h)
  (round:∀ n e h,I n e h→vc P c (thenQ (fun e' h'=>Back (I:=⟨I⟩) n e' h') Q) e h):Wait P (c:=⟨.loop c⟩) (Q:=⟨Q⟩) e h:=SWP.loop I n h0 round
def lenK (c:C) [k:Hid (Nat→Prop)]:Prop:=
 match c with
 | .mrow _ _ n _=>k.out n
 | c=>match c.list? with
   | some xs=>xs.length≤LIM→k.out xs.length
   | none=>False
@[simp] theorem lenK_mrow {l:Lab} {off n cap:Nat} {f:Nat→Prop}:lenK (.mrow l off n cap) (k:=⟨f⟩)=f n:=rfl
@[simp] theorem lenK_own {l:Lab} {xs:List (List D)} {f:Nat→Prop}:lenK (.own l xs) (k:=⟨f⟩)=(xs.length≤LIM→f xs.length):=rfl
@[simp] theorem lenK_sl {xs:List (List D)} {f:Nat→Prop}:lenK (.d (.sl xs)) (k:=⟨f⟩)=(xs.length≤LIM→f xs.length):=rfl
@[simp] theorem lenK_nil {f:Nat→Prop}:lenK .nil (k:=⟨f⟩)=f 0:=by simp[lenK,C.list?]
@[simp] theorem lenK_z {f:Nat→Prop}:lenK .z (k:=⟨f⟩)=f 0:=by simp[lenK,C.list?]
theorem Zga {c:C} {xs:List (List D)} {f:Nat→Prop} (hc:c.list?=some xs) (hk:xs.length≤LIM→f xs.length):lenK c (k:=⟨f⟩):=by
 unfold lenK
 split
 ·simp[C.list?] at hc
 ·rw[hc];exact hk
def C.str?:C→Option ByteArray
 | .d (.str s)=>some s
 | _=>none
@[simp] theorem str_d {s:ByteArray}:C.str? (.d (.str s))=some s:=rfl
section
variable {P:Program} {Q:Exit→Env→HS→Prop} {N:Env→HS→Prop} {K:Env→HS→Prop} {e:Env} {h:HS}
@[simp ↓] theorem vc_skip:vc P .skip Q e h=Q .normal e h:=rfl
@[simp ↓] theorem vc_region {id:Nat} {l:List Oper}:vc P (.region id l.toArray false) Q e h=vcOps P l l e h (Q .normal):=rfl
@[simp ↓] theorem vc_seq {a b:Code}:vc P (.seq a b) Q e h=vc P a (thenQ (fun e h=>vc P b Q e h) Q) e h:=rfl
@[simp ↓] theorem vc_cond {c:Operand} {a b:Code}:vc P (.cond c a b) Q e h=condV (e.ev c) (p:=⟨fun _=>vc P a Q e h⟩) (q:=⟨fun _=>vc P b Q e h⟩):=rfl
@[simp ↓] theorem vc_block {id:Nat} {c:Code}:vc P (.block id c) Q e h=vc P c (blockQ id Q) e h:=rfl
@[simp ↓] theorem vc_exit {id:Nat}:vc P (.exit id) Q e h=Q (.exit id) e h:=rfl
@[simp ↓] theorem vc_ret:vc P .ret Q e h=Q .ret e h:=rfl
@[simp ↓] theorem vc_loop {c:Code}:vc P (.loop c) Q e h=Wait P (c:=⟨.loop c⟩) (Q:=⟨Q⟩) e h:=rfl
@[simp ↓] theorem vc_draw {id:Nat} {l:Array Oper}:vc P (.region id l true) Q e h=Wait P (c:=⟨.region id l true⟩) (Q:=⟨Q⟩) e h:=rfl
@[simp ↓] theorem Ztn:thenQ N Q .normal e h=N e h:=rfl
@[simp ↓] theorem thenQ_ret:thenQ N Q .ret e h=Q .ret e h:=rfl
@[simp ↓] theorem thenQ_exit {id:Nat}:thenQ N Q (.exit id) e h=Q (.exit id) e h:=rfl
@[simp ↓] theorem Ztg {id:Nat}:blockQ id Q .normal e h=Q .normal e h:=rfl
@[simp ↓] theorem blockQ_ret {id:Nat}:blockQ id Q .ret e h=Q .ret e h:=rfl
@[simp ↓] theorem Zmh {id:Nat}:blockQ id Q (.exit id) e h=Q .normal e h:=by simp[blockQ]
@[simp ↓] theorem blockQ_exit {id id':Nat} (hne:id'≠id):blockQ id Q (.exit id') e h=Q (.exit id') e h:=by simp[blockQ,hne]
@[simp ↓] theorem retQ_ret {rs:List ResultVar} {r:RV}:retQ P rs r .ret e h=retOK P rs r e h:=rfl
@[simp ↓] theorem retQ_normal {rs:List ResultVar} {r:RV}:retQ P rs r .normal e h=retOK P rs r e h:=rfl
@[simp ↓] theorem vcOps_nil {all:List Oper}:vcOps P all [] e h K=K e h:=rfl
@[simp ↓] theorem vcOps_plain {all:List Oper} {d:Option Nat} {op:Op} {t:TypeId} {p:String} {af:Array Edge} {os:List Oper}:vcOps P all ({ dst:=d,op:=op,type:=t,pos:=p,after:=af,guard:=none }::os) e h K =
  (dstOK { dst:=d,op:=op,type:=t,pos:=p,after:=af,guard:=none } e∧vcOp P { dst:=d,op:=op,type:=t,pos:=p,after:=af,guard:=none } e h fun e h=>vcOps P all os e h K):=rfl
@[simp ↓] theorem vcOps_guard {all:List Oper} {d:Option Nat} {op:Op} {t:TypeId} {p:String} {af:Array Edge} {j:Nat} {want:Bool} {os:List Oper}:vcOps P all ({ dst:=d,op:=op,type:=t,pos:=p,after:=af,guard:=some (j,want) }::os) e h K =
  (dstOK { dst:=d,op:=op,type:=t,pos:=p,after:=af,guard:=some (j,want) } e∧guardV (Z6a all e j) want (p:=⟨fun _=>vcOp P { dst:=d,op:=op,type:=t,pos:=p,after:=af,guard:=some (j,want) } e h fun e h=>vcOps P all os e h K⟩) (q:=⟨fun _=>vcOps P all os (e.put d .undef) h K⟩)):=rfl
section
variable {d:Option Nat} {t:TypeId} {p:String} {af:Array Edge} {g:Option (Nat × Bool)}
@[simp] theorem dstOK_some {k:Nat} {op:Op}:dstOK { dst:=some k,op:=op,type:=t,pos:=p,after:=af,guard:=g } e=(k < e.n):=rfl
@[simp] theorem dstOK_none {op:Op}:dstOK { dst:=none,op:=op,type:=t,pos:=p,after:=af,guard:=g } e=True:=rfl
@[simp ↓] theorem vcOp_move {x:Operand}:vcOp P { dst:=d,op:=.move x,type:=t,pos:=p,after:=af,guard:=g } e h K=K (e.put d (e.ev x)) h:=rfl
@[simp ↓] theorem vcOp_assign {x:Operand}:vcOp P { dst:=d,op:=.assign x,type:=t,pos:=p,after:=af,guard:=g } e h K=K (e.put d (e.ev x)) h:=rfl
@[simp ↓] theorem vcOp_pick {c x y:Operand}:vcOp P { dst:=d,op:=.pick c x y,type:=t,pos:=p,after:=af,guard:=g } e h K=optV (eff P (.pick c x y) e h) (k:=⟨fun v=>K (e.put d v) h⟩):=by
 unfold vcOp;dsimp only;split<;>simp_all [optV]
@[simp ↓] theorem vcOp_unOp {op:UnOp} {ty:TypeId} {x:Operand}:vcOp P { dst:=d,op:=.unOp op ty x,type:=t,pos:=p,after:=af,guard:=g } e h K=optV (eff P (.unOp op ty x) e h) (k:=⟨fun v=>K (e.put d v) h⟩):=by
 unfold vcOp;dsimp only;split<;>simp_all [optV]
@[simp ↓] theorem Zpf {ty f:Nat} {x:Operand}:vcOp P { dst:=d,op:=.fieldAddr ty x f,type:=t,pos:=p,after:=af,guard:=g } e h K=optV (eff P (.fieldAddr ty x f) e h) (k:=⟨fun v=>K (e.put d v) h⟩):=by
 unfold vcOp;dsimp only;split<;>simp_all [optV]
@[simp ↓] theorem vcOp_field {ty f:Nat} {x:Operand}:vcOp P { dst:=d,op:=.field ty x f,type:=t,pos:=p,after:=af,guard:=g } e h K=optV (eff P (.field ty x f) e h) (k:=⟨fun v=>K (e.put d v) h⟩):=by
 unfold vcOp;dsimp only;split<;>simp_all [optV]
@[simp ↓] theorem vcOp_load {ty:Nat} {x:Operand}:vcOp P { dst:=d,op:=.load ty x,type:=t,pos:=p,after:=af,guard:=g } e h K=optV (eff P (.load ty x) e h) (k:=⟨fun v=>K (e.put d v) h⟩):=by
 unfold vcOp;dsimp only;split<;>simp_all [optV]
@[simp ↓] theorem Zpe {ty:Nat} {x i:Operand}:vcOp P { dst:=d,op:=.indexAddr ty x i,type:=t,pos:=p,after:=af,guard:=g } e h K=optV (eff P (.indexAddr ty x i) e h) (k:=⟨fun v=>K (e.put d v) h⟩):=by
 unfold vcOp;dsimp only;split<;>simp_all [optV]
@[simp ↓] theorem vcOp_index {ty:Nat} {x i:Operand}:vcOp P { dst:=d,op:=.index ty x i,type:=t,pos:=p,after:=af,guard:=g } e h K=optV (eff P (.index ty x i) e h) (k:=⟨fun v=>K (e.put d v) h⟩):=by
 unfold vcOp;dsimp only;split<;>simp_all [optV]
@[simp ↓] theorem vcOp_slice {ty:Nat} {x:Operand} {lo hi mx:Option Operand}:vcOp P { dst:=d,op:=.slice ty x lo hi mx,type:=t,pos:=p,after:=af,guard:=g } e h K=optV (eff P (.slice ty x lo hi mx) e h) (k:=⟨fun v=>K (e.put d v) h⟩):=by
 unfold vcOp;dsimp only;split<;>simp_all [optV]
@[simp ↓] theorem Ztk {i:Nat} {x:Operand}:vcOp P { dst:=d,op:=.extract x i,type:=t,pos:=p,after:=af,guard:=g } e h K=optV (eff P (.extract x i) e h) (k:=⟨fun v=>K (e.put d v) h⟩):=by
 unfold vcOp;dsimp only;split<;>simp_all [optV]
@[simp ↓] theorem Zpm {fn:Fn} {x y:Array Operand}:vcOp P { dst:=d,op:=.makeFunc fn x y,type:=t,pos:=p,after:=af,guard:=g } e h K=optV (eff P (.makeFunc fn x y) e h) (k:=⟨fun v=>K (e.put d v) h⟩):=by
 unfold vcOp;dsimp only;split<;>simp_all [optV]
@[simp ↓] theorem Zpl {x:Operand}:vcOp P { dst:=d,op:=.nilCheck x,type:=t,pos:=p,after:=af,guard:=g } e h K=optV (eff P (.nilCheck x) e h) (k:=⟨fun v=>K (e.put d v) h⟩):=by
 unfold vcOp;dsimp only;split<;>simp_all [optV]
@[simp ↓] theorem Ztl {s u:TypeId} {x:Operand}:vcOp P { dst:=d,op:=.convert s u x,type:=t,pos:=p,after:=af,guard:=g } e h K=optV (eff P (.convert s u x) e h) (k:=⟨fun v=>K (e.put d v) h⟩):=by
 unfold vcOp;dsimp only;split<;>simp_all [optV]
@[simp ↓] theorem vcOp_store {ty:TypeId} {x y:Operand}:vcOp P { dst:=d,op:=.store ty x y,type:=t,pos:=p,after:=af,guard:=g } e h K=optV (ldT P ty) (k:=⟨fun z=>ptrV (e.ev x) (k:=⟨fun l off=>optV (h.box l) (k:=⟨fun cs=>
  ((e.ev y).cells.length=z.2∧0 < z.2∧off+z.2≤cs.length)∧K (e.put d .undef) (h.setBox l (Z03 cs off (e.ev y).cells))⟩)⟩)⟩):=by
 simp only[vcOp,optV,ptrV]
 cases ldT P ty with
 | none=>rfl
 | some z=>
   dsimp only
   generalize e.ev x=X
   cases X with
   | one c=>cases c with
     | ptr l off=>dsimp only;cases h.box l<;>rfl
     | _=>rfl
   | _=>rfl
@[simp ↓] theorem vcOp_box {ty:TypeId} {x:Operand} {k:Nat}:vcOp P { dst:=some k,op:=.box ty x,type:=t,pos:=p,after:=af,guard:=g } e h K =
  ((e.ev x).cells≠[]∧K (e.put (some k) (.one (.ptr (h.ep,16 * k) 0))) ((h.setBox (h.ep,16 * k) (e.ev x).cells).next)):=rfl
@[simp ↓] theorem vcOp_alloc {ty:TypeId} {k:Nat}:vcOp P { dst:=some k,op:=.alloc ty,type:=t,pos:=p,after:=af,guard:=g } e h K=optV (zeT P ty) (k:=⟨fun cs=>K (e.put (some k) (.one (.ptr (h.ep,16 * k) 0))) ((h.setBox (h.ep,16 * k) cs).next)⟩):=by
 simp only[vcOp,optV]
 cases zeT P ty<;>rfl
@[simp ↓] theorem vcOp_build {ty:TypeId} {ps:List (Nat × Operand)}:vcOp P { dst:=d,op:=.build ty ps.toArray,type:=t,pos:=p,after:=af,guard:=g } e h K=optV (zeT P ty) (k:=⟨fun z=>optV (stT P ty) (k:=⟨fun pl=>optV (fillV pl e ps z) (k:=⟨fun cs=>K (e.put d (.agg cs)) h⟩)⟩)⟩):=by
 simp only[vcOp,optV]
 cases zeT P ty with
 | none=>rfl
 | some z=>cases stT P ty with
   | none=>rfl
   | some pl=>dsimp only;cases fillV pl e ps z<;>rfl
def emptyK (n:Nat) (d:Nat) (h:HS) [K:Hid (V→HS→Prop)]:Prop:=(0 < n∧n≤64)∧(K.out (.one (.own (h.ep,16 * d) [])) ((h.setArr (h.ep,16 * d) (some (0,n))).next)∨K.out (.one .z) h)
theorem Zb1 {n d:Nat} {f:V→HS→Prop} (h0:0 < n∧n≤64) (hk:f (.one (.own (h.ep,16 * d) [])) ((h.setArr (h.ep,16 * d) (some (0,n))).next)):emptyK n d h (K:=⟨f⟩):=⟨h0,.inl hk⟩
theorem Zdq {n d:Nat} {f:V→HS→Prop} (h0:0 < n∧n≤64) (hk:f (.one .z) h):emptyK n d h (K:=⟨f⟩):=⟨h0,.inr hk⟩
theorem Zhw {ty:TypeId} {k:Nat}:vcOp P { dst:=some k,op:=.buildSlice ty 0 [].toArray,type:=t,pos:=p,after:=af,guard:=g } e h K=optV (elT P ty) (k:=⟨fun z=>emptyK z.2.1 k h (K:=⟨fun v h'=>K (e.put (some k) v) h'⟩)⟩):=by
 simp only[vcOp,optV]
 cases elT P ty with
 | none=>rfl
 | some z=>
   simp only[elemsV,emptyK,List.length_nil,true_and,Nat.zero_le]
   apply propext
   constructor
   ·rintro (⟨⟨h1,h2⟩,h3⟩ | ⟨⟨h1,h2⟩,h3⟩)
    ·exact⟨⟨h1,h2⟩,.inl h3⟩
    ·exact⟨⟨h1,h2⟩,.inr h3⟩
   ·rintro⟨⟨h1,h2⟩,h3 | h3⟩
    ·exact .inl ⟨⟨h1,h2⟩,h3⟩
    ·exact .inr ⟨⟨h1,h2⟩,h3⟩
@[simp ↓] theorem vcOp_empty {ty:TypeId} {k:Nat}:vcOp P { dst:=some k,op:=.buildSlice ty 0 #[],type:=t,pos:=p,after:=af,guard:=g } e h K=optV (elT P ty) (k:=⟨fun z=>emptyK z.2.1 k h (K:=⟨fun v h'=>K (e.put (some k) v) h'⟩)⟩):=Zhw
@[simp ↓] theorem Zmo {ty:TypeId} {len k:Nat} {q:Nat × Operand} {ps:List (Nat × Operand)}:vcOp P { dst:=some k,op:=.buildSlice ty len (q::ps).toArray,type:=t,pos:=p,after:=af,guard:=g } e h K=optV (elT P ty) (k:=⟨fun z=>bldV (elemsV e z.2.1 (q::ps) 0) (cellsV e z.2.1 (q::ps) 0)
  (k:=⟨fun xs=>(xs.length=len∧0 < z.2.1∧len≤64∧z.2.1≤64)∧K (e.put (some k) (.one (.own (h.ep,16 * k) xs))) ((h.setArr (h.ep,16 * k) (some (len,z.2.1))).next)⟩)
  (q:=⟨fun cs=>((q::ps).length=len∧0 < z.2.1∧len≤64∧z.2.1≤64)∧K (e.put (some k) (.one (.mrow (h.ep,16 * k) 0 len len))) ((h.setBox (h.ep,16 * k) cs).next)⟩)⟩):=by
 simp only[vcOp,optV,bldV]
 cases elT P ty with
 | none=>rfl
 | some z=>
   dsimp only
   cases elemsV e z.2.1 (q::ps) 0 with
   | some xs=>simp[dstN]
   | none=>cases cellsV e z.2.1 (q::ps) 0<;>rfl
@[simp ↓] theorem vcOp_make {ty:TypeId} {x y:Operand} {k:Nat}:vcOp P { dst:=some k,op:=.makeSlice ty x y,type:=t,pos:=p,after:=af,guard:=g } e h K=optV (elT P ty) (k:=⟨fun z=>optV (zeT P z.1) (k:=⟨fun zc=>makV (e.ev x) (e.ev y) (k:=⟨fun a b=>
  (0≤a∧a≤b∧b≤LIM∧z.2.2≤4096∧0 < z.2.1∧z.2.1≤8)∧K (e.put (some k) (.one (.mrow (h.ep,16 * k) 0 a.toNat b.toNat))) ((h.setBox (h.ep,16 * k) (List.replicate b.toNat zc).flatten).next)⟩)⟩)⟩):=by
 simp only[vcOp,vcMake,optV,makV]
 cases elT P ty with
 | none=>rfl
 | some z=>
   obtain⟨el,n,b⟩:=z
   dsimp only
   cases zeT P el with
   | none=>rfl
   | some zc=>
     dsimp only
     generalize e.ev x=X
     generalize e.ev y=Y
     cases X with
     | one c=>cases c with
       | d u=>cases u with
         | int k a=>cases Y with
           | one c=>cases c with
             | d u=>cases u<;>rfl
             | _=>rfl
           | _=>rfl
         | _=>rfl
       | _=>rfl
     | _=>rfl
@[simp ↓] theorem vcOp_binOp {op:BinOp} {ty ty':TypeId} {x y:Operand}:vcOp P { dst:=d,op:=.binOp op ty x y ty',type:=t,pos:=p,after:=af,guard:=g } e h K =
  binN (isNilConst y) (p:=⟨fun _=>nilV (e.ev x) (k:=⟨fun c=>vcNil P op ty c (fun v=>K (e.put d v) h)⟩)⟩) (q:=⟨fun _=>binK P op ty (e.ev x) (e.ev y) (k:=⟨fun v=>K (e.put d v) h⟩)⟩):=by
 simp only[vcOp,binK,binN,nilV]
 cases hn:isNilConst y with
 | true=>simp only[if_true,vcNilV];cases e.ev x<;>rfl
 | false=>
   simp only[Bool.false_eq_true,if_false]
   generalize e.ev x=X
   generalize e.ev y=Y
   cases X<;>cases Y<;>rfl
def nilK (P:Program) (op:BinOp) (ty:TypeId) (c:C) [K:Hid (V→Prop)]:Prop:=vcNil P op ty c K.out
def capK (P:Program) (ty:TypeId) (c:C) [K:Hid (V→Prop)]:Prop:=vcCap P ty c K.out
@[simp ↓] theorem vcOp_cap {x:Operand} {ty:TypeId}:vcOp P { dst:=d,op:=.call { callee:=.builtin .cap,args:=[x].toArray,argTypes:=[ty].toArray },type:=t,pos:=p,after:=af,guard:=g } e h K =
  oneV (e.ev x) (k:=⟨fun c=>capK P ty c (K:=⟨fun v=>K (e.put d v) h⟩)⟩):=by
 simp only[vcOp,oneV,List.map_cons,List.map_nil,capK]
 cases e.ev x<;>rfl
theorem Z9g {ty el n b:Nat} (h:elT P ty=some (el,n,b)):∃ el,P.underlying ty=some (.slice el):=by
 obtain⟨i,z,hu,_⟩:=Z6h h
 exact⟨_,hu⟩
@[simp] theorem nilV_one {op:BinOp} {ty:TypeId} {c:C} {f:V→Prop}:nilV (.one c) (k:=⟨fun c=>vcNil P op ty c f⟩)=nilK P op ty c (K:=⟨f⟩):=rfl
theorem Zag {op:BinOp} {ty:TypeId} {z:TypeId × Nat × Nat} {c:C} {f:V→Prop} (hel:elT P ty=some z) (hop:isCmp op=true) {xs:List (List D)} (hc:c.list?=some xs) (hk:∀ b:Bool,(xs≠[]→b=false)→f (dbool (if op=.neq then !b else b))):nilK P op ty c (K:=⟨f⟩):=by
 refine⟨⟨hop,Z9g hel⟩,?_⟩
 split
 ·simp[C.list?] at hc
  have:=hk true (fun h=>by subst hc;exact absurd rfl h)
  simpa using this
 ·simp[C.list?] at hc
 ·rw[hc];exact hk
theorem Zoq {op:BinOp} {ty:TypeId} {z:TypeId × Nat × Nat} {l:Lab} {off n cap:Nat} {f:V→Prop} (hel:elT P ty=some z) (hop:isCmp op=true) (hk:f (dbool (if op=.neq then true else false))):nilK P op ty (.mrow l off n cap) (K:=⟨f⟩):=⟨⟨hop,Z9g hel⟩,hk⟩
theorem Zdr {ty:TypeId} {z:TypeId × Nat × Nat} {f:V→Prop} (hel:elT P ty=some z) (hk:f (dint .i64 0)):capK P ty .nil (K:=⟨f⟩):=⟨Z9g hel,hk⟩
theorem Zp5 {ty:TypeId} {z:TypeId × Nat × Nat} {l:Lab} {off n cap:Nat} {f:V→Prop} (hel:elT P ty=some z) (hk:f (dint .i64 cap)):capK P ty (.mrow l off n cap) (K:=⟨f⟩):=⟨Z9g hel,hk⟩
def callK (P:Program) (f:FuncId) (caps:List Cap) (vs:List V) (d:Nat) (e:Env) (h:HS) [K:Hid (Env→HS→Prop)]:Prop:=
 (∃ ars cs,toAs h vs=some ars∧capsA h caps=some cs∧∃ r,PSpec P f (ars++capsOf cs) r∧K.out (e.put (some d) (r.toV h.ep d)) ((h.addFr d r.fr).next)) ∨
 HSpec P f (vs++caps.map capV) h (fun v h'=>K.out (e.put (some d) v) h') ∨
 ∃ v,XSpec P f (vs++caps.map capV) h v∧K.out (e.put (some d) v) h
theorem callK_x {f:FuncId} {vs:List V} {d:Nat} {v:V} (hx:XSpec P f vs h v) (hk:K (e.put (some d) v) h):callK P f [] vs d e h (K:=⟨K⟩):=.inr (.inr ⟨v,by simpa using hx,hk⟩)
theorem Ztd {f:FuncId} {caps:List Cap} {vs:List V} {av:List AV} {cs:List (List D)} {d:Nat} {r:RV} (has:toAs h vs=some av) (hcs:capsA h caps=some cs) (hs:PSpec P f (av++capsOf cs) r)
  (hk:K (e.put (some d) (r.toV h.ep d)) ((h.addFr d r.fr).next)):callK P f caps vs d e h (K:=⟨K⟩):=.inl ⟨av,cs,has,hcs,r,hs,hk⟩
theorem Z3e {f:FuncId} {vs:List V} {av:List AV} {d:Nat} {r:RV} (hs:PSpec P f av r) (has:toAs h vs=some av)
  (hk:K (e.put (some d) (r.toV h.ep d)) ((h.addFr d r.fr).next)):callK P f [] vs d e h (K:=⟨K⟩):=.inl ⟨av,[],has,rfl,r,by simpa[capsOf] using hs,hk⟩
theorem Z02 {f:FuncId} {caps:List Cap} {vs:List V} {d:Nat} (hs:HSpec P f (vs++caps.map capV) h (fun v h'=>K (e.put (some d) v) h')):callK P f caps vs d e h (K:=⟨K⟩):=.inr (.inl hs)
@[simp ↓] theorem vcOp_call {f:Operand} {args:List Operand} {ts:Array TypeId} {k:Nat}:vcOp P { dst:=some k,op:=.call { callee:=.value f,args:=args.toArray,argTypes:=ts },type:=t,pos:=p,after:=af,guard:=g } e h K =
  fnV (e.ev f) (k:=⟨fun fn caps=>callK P fn caps (args.map e.ev) k e h (K:=⟨K⟩)⟩):=by
 simp only[vcOp,fnV,callK]
 generalize e.ev f=X
 cases X with
 | one c=>cases c<;>rfl
 | _=>rfl
@[simp ↓] theorem vcOp_len {x:Operand} {ty:TypeId}:vcOp P { dst:=d,op:=.call { callee:=.builtin .len,args:=[x].toArray,argTypes:=[ty].toArray },type:=t,pos:=p,after:=af,guard:=g } e h K =
  optV (lenT P ty) (k:=⟨fun s=>oneV (e.ev x) (k:=⟨fun c=>match s with
   | true=>optV c.str? (k:=⟨fun s=>K (e.put d (dint .i64 s.size)) h⟩)
   | false=>lenK c (k:=⟨fun n=>K (e.put d (dint .i64 n)) h⟩)⟩)⟩):=by
 simp only[vcOp,optV,oneV,List.map_cons,List.map_nil]
 cases hl:lenT P ty with
 | none=>cases e.ev x<;>simp[vcLen,hl]
 | some s=>
   cases e.ev x with
   | one c=>cases s with
     | true=>
       simp only[vcLen,hl]
       cases c with
       | d x=>cases x<;>rfl
       | _=>rfl
     | false=>
       simp only[vcLen,hl]
       cases c with
       | mrow l off n cap=>rfl
       | d x=>cases x<;>rfl
       | _=>rfl
   | _=>rfl
@[simp ↓] theorem vcOp_max {x y:Operand} {ts:Array TypeId}:vcOp P { dst:=d,op:=.call { callee:=.builtin .max,args:=[x,y].toArray,argTypes:=ts },type:=t,pos:=p,after:=af,guard:=g } e h K =
  optV (eff P (.call { callee:=.builtin .max,args:=[x,y].toArray,argTypes:=ts }) e h) (k:=⟨fun v=>K (e.put d v) h⟩):=by
 unfold vcOp;dsimp only;split<;>simp_all [optV]
@[simp ↓] theorem vcOp_min {x y:Operand} {ts:Array TypeId}:vcOp P { dst:=d,op:=.call { callee:=.builtin .min,args:=[x,y].toArray,argTypes:=ts },type:=t,pos:=p,after:=af,guard:=g } e h K =
  optV (eff P (.call { callee:=.builtin .min,args:=[x,y].toArray,argTypes:=ts }) e h) (k:=⟨fun v=>K (e.put d v) h⟩):=by
 unfold vcOp;dsimp only;split<;>simp_all [optV]
def appK (P:Program) (ty:TypeId) (c x:C) (d:Nat) (h:HS) [K:Hid (V→HS→Prop)]:Prop:=Z8d P ty c x d h K.out∨Z6v P ty c x d h K.out
def copyK (P:Program) (ty:TypeId) (c x:C) (h:HS) [K:Hid (V→HS→Prop)]:Prop:=vcCopy P ty c x 0 h K.out
def clearK (P:Program) (ty:TypeId) (c:C) (h:HS) [K:Hid (V→HS→Prop)]:Prop:=Za8 P ty c 0 h K.out
def Grows (h:HS) (es:Nat) (c:C) (xs:List (List D)):Prop:=((c=.nil∧xs=[])∨∃ l,c=.own l xs∧h.arr l=some (xs.length,es)∧l.1 < h.ep)∧∀ y ∈ xs,y.length=es
theorem Grows.nil {h:HS} {es:Nat}:Grows h es .nil []:=⟨.inl ⟨rfl,rfl⟩,by simp⟩
theorem Grows.own {h:HS} {es:Nat} {l:Lab} {xs:List (List D)} (ha:h.arr l=some (xs.length,es)) (hl:l.1 < h.ep) (hy:∀ y ∈ xs,y.length=es):Grows h es (.own l xs) xs:=⟨.inr ⟨l,rfl,ha,hl⟩,hy⟩
theorem Grows.next {h:HS} {es:Nat} {c:C} {xs:List (List D)} (g:Grows h es c xs):Grows h.next es c xs:=by
 refine⟨?_,g.2⟩
 rcases g.1 with h1 | ⟨l,h1,h2,h3⟩
 ·exact .inl h1
 ·exact .inr ⟨l,h1,h2,Nat.lt_succ_of_lt h3⟩
theorem Grows.setBox {h:HS} {es:Nat} {c:C} {xs:List (List D)} {k:Lab} {cs:List C} (g:Grows h es c xs):Grows (h.setBox k cs) es c xs:=g
theorem Grows.setArr {h:HS} {es:Nat} {c:C} {xs:List (List D)} {k:Lab} {x:Option (Nat × Nat)} (g:Grows h es c xs) (hk:h.ep≤k.1):Grows (h.setArr k x) es c xs:=by
 refine⟨?_,g.2⟩
 rcases g.1 with h1 | ⟨l,h1,h2,h3⟩
 ·exact .inl h1
 ·refine .inr ⟨l,h1,?_,h3⟩
  have:l≠k:=fun he=>by rw[he] at h3;omega
  simp only[HS.setArr,this,if_false,h2]
theorem Grows.list {h:HS} {es:Nat} {c:C} {xs:List (List D)} (g:Grows h es c xs):c.list?=some xs:=by
 rcases g.1 with ⟨h1,h2⟩ | ⟨l,h1,h2,h3⟩
 ·rw[h1,h2];rfl
 ·rw[h1];rfl
theorem Grows.toD {h:HS} {es:Nat} {c:C} {xs:List (List D)} (g:Grows h es c xs):c.toD=some (.sl xs):=by
 rcases g.1 with ⟨h1,h2⟩ | ⟨l,h1,h2,h3⟩
 ·rw[h1,h2];rfl
 ·rw[h1];rfl
theorem Grows.toA {h:HS} {es:Nat} {c:C} {xs:List (List D)} (g:Grows h es c xs) (h':HS):c.toA h'=some (.d (.sl xs)):=by
 rcases g.1 with ⟨h1,h2⟩ | ⟨l,h1,h2,h3⟩
 ·rw[h1,h2];rfl
 ·rw[h1];rfl
theorem Grows.can {h:HS} {es:Nat} {c:C} {xs:List (List D)} (g:Grows h es c xs):canApp h es c=true:=by
 rcases g.1 with ⟨h1,h2⟩ | ⟨l,h1,h2,h3⟩
 ·rw[h1];rfl
 ·rw[h1];simp[canApp,h2]
theorem Zev {ty el:TypeId} {es by_ d:Nat} {c x:C} {K:V→HS→Prop} {xs ys:List (List D)} (hel:elT P ty=some (el,es,by_)) (hc:Grows h es c xs) (hx:x.list?=some ys) (h0:0 < es) (hb:by_≤4096) (hy:∀ y ∈ ys,y.length=es) (hl:xs.length+ys.length≤LIM)
  (hk:K (.one (.own (h.ep,16 * d) (xs++ys))) (((c.useUp h).setArr (h.ep,16 * d) (some ((xs++ys).length,es))).next)):appK P ty c x d h (K:=⟨K⟩):=by
 refine .inl ?_
 unfold Z8d
 rw[hel]
 simp only
 rw[hc.list,hx]
 simp only
 rw[List.length_append] at hk
 exact⟨⟨hc.can,h0,hb,hc.2,hy,hl⟩,hk⟩
theorem Z5f {ty el:TypeId} {n by_ d k cap m:Nat} {s x:C} {K:V→HS→Prop} {old new:List C} {pl:Option (Lab × Nat)} (hel:elT P ty=some (el,n,by_)) (hs:appHdr h n s=some (k,cap,old,pl)) (hx:Z11 h n x=some new) (hm:cLen x=some m)
  (hz:(zeT P el).isSome=true) (h0:0 < n) (hb:by_≤4096) (hl:k+m≤LIM) (hnew:new.length=m * n) (hold:old.length=k * n)
  (hk0:m=0→K (.one s) h)
  (hk1:0 < m→k+m≤cap→∀ l off,pl=some (l,off)→∃ cs,h.box l=some cs∧off+(k+m) * n≤cs.length∧K (.one (.mrow l off (k+m) cap)) (h.setBox l (Z03 cs (off+k * n) new)))
  (hk2:0 < m→cap < k+m→∀ cap',k+m≤cap'→K (.one (.mrow (h.ep,16 * d) 0 (k+m) cap')) ((h.setBox (h.ep,16 * d) (old++new++List.replicate ((cap' - (k+m)) * n) .any)).next)):appK P ty s x d h (K:=⟨K⟩):=by
 refine .inr ?_
 unfold Z6v
 rw[hel]
 simp only
 rw[hs,hx,hm]
 exact⟨⟨hz,h0,hb,hl,hnew,hold⟩,hk0,hk1,hk2⟩
theorem Grows.app {h:HS} {es:Nat} {l:Lab} {xs:List (List D)} (hl:l.1=h.ep) (hy:∀ y ∈ xs,y.length=es):Grows ((h.setArr l (some (xs.length,es))).next) es (.own l xs) xs:=
 Grows.own (by simp[HS.setArr,HS.next]) (by show l.1 < h.ep+1;omega) hy
@[simp ↓] theorem vcOp_append {x y:Operand} {ty:TypeId} {k:Nat}:vcOp P { dst:=some k,op:=.call { callee:=.builtin .append,args:=[x,y].toArray,argTypes:=[ty,ty].toArray },type:=t,pos:=p,after:=af,guard:=g } e h K =
  oneV (e.ev x) (k:=⟨fun c=>oneV (e.ev y) (k:=⟨fun c'=>appK P ty c c' k h (K:=⟨fun v h'=>K (e.put (some k) v) h'⟩)⟩)⟩):=by
 simp only[vcOp,oneV,List.map_cons,List.map_nil,appK]
 cases e.ev x with
 | one c=>
   cases e.ev y with
   | one c'=>
     simp only[true_and]
     exact propext ⟨fun h=>h.elim id fun h=>absurd rfl h.1.1,.inl⟩
   | _=>rfl
 | _=>rfl
def zerosK (P:Program) (ty ty':TypeId) (c x:C) (d:Nat) (h:HS) [K:Hid (V→HS→Prop)]:Prop:=Z91 P ty ty' c x d h K.out
@[simp ↓] theorem Ztm {x y:Operand} {ty ty':TypeId} {k:Nat} (hne:ty≠ty'):vcOp P { dst:=some k,op:=.call { callee:=.builtin .append,args:=[x,y].toArray,argTypes:=[ty,ty'].toArray },type:=t,pos:=p,after:=af,guard:=g } e h K =
  oneV (e.ev x) (k:=⟨fun c=>oneV (e.ev y) (k:=⟨fun c'=>zerosK P ty ty' c c' k h (K:=⟨fun v h'=>K (e.put (some k) v) h'⟩)⟩)⟩):=by
 simp only[vcOp,oneV,List.map_cons,List.map_nil,zerosK]
 cases e.ev x with
 | one c=>
   cases e.ev y with
   | one c'=>exact propext ⟨fun h=>h.elim (fun h=>absurd h.1 hne) id,.inr⟩
   | _=>rfl
 | _=>rfl
theorem Zmi {ty ty' el:TypeId} {n by_ d k cap off:Nat} {l:Lab} {m:Int} {kk ki:IntKind} {old:List C} {K:V→HS→Prop} (hel:elT P ty=some (el,n,by_)) (hne:ty≠ty') (hu:P.underlying ty'=some (.int kk)) (hz:(zeT P el).isSome=true) (h0:0 < n) (hb:by_≤4096) (h1:0 < m) (h2:k+m≤LIM) (hc:cap < k+m.toNat)
  (ho:Z11 h n (.mrow l off k cap)=some old) (hol:old.length=k * n)
  (hk:∀ cap',k+m.toNat≤cap'→K (.one (.mrow (h.ep,16 * d) 0 (k+m.toNat) cap')) ((h.setBox (h.ep,16 * d) (old++List.replicate ((cap' - k) * n) .any)).next)):zerosK P ty ty' (.mrow l off k cap) (.d (.int ki m)) d h (K:=⟨K⟩):=by
 refine⟨⟨hne,_,hu⟩,?_⟩
 rw[hel]
 simp only[ho]
 exact⟨⟨hz,h0,hb,h1,h2,hc,hol⟩,hk⟩
theorem Zgq {ty ty' el:TypeId} {n by_ d:Nat} {m:Int} {k kk:IntKind} {K:V→HS→Prop} (hel:elT P ty=some (el,n,by_)) (hne:ty≠ty') (hu:P.underlying ty'=some (.int kk)) (hz:(zeT P el).isSome=true) (h0:0 < n) (hb:by_≤4096) (h1:0 < m) (h2:m≤LIM)
  (hk:∀ cap',m.toNat≤cap'→K (.one (.mrow (h.ep,16 * d) 0 m.toNat cap')) ((h.setBox (h.ep,16 * d) (List.replicate (cap' * n) .any)).next)):zerosK P ty ty' .nil (.d (.int k m)) d h (K:=⟨K⟩):=by
 refine⟨⟨hne,_,hu⟩,?_⟩
 rw[hel]
 exact⟨⟨hz,h0,hb,h1,h2⟩,hk⟩
@[simp ↓] theorem vcOp_copy {x y:Operand} {ty:TypeId}:vcOp P { dst:=d,op:=.call { callee:=.builtin .copy,args:=[x,y].toArray,argTypes:=[ty,ty].toArray },type:=t,pos:=p,after:=af,guard:=g } e h K =
  oneV (e.ev x) (k:=⟨fun c=>oneV (e.ev y) (k:=⟨fun c'=>copyK P ty c c' h (K:=⟨fun v h'=>K (e.put d v) h'⟩)⟩)⟩):=by
 simp only[vcOp,oneV,List.map_cons,List.map_nil,copyK]
 cases e.ev x with
 | one c=>
   cases e.ev y with
   | one c'=>simp only[true_and];rfl
   | _=>rfl
 | _=>rfl
@[simp ↓] theorem vcOp_clear {x:Operand} {ty:TypeId}:vcOp P { dst:=d,op:=.call { callee:=.builtin .clear,args:=[x].toArray,argTypes:=[ty].toArray },type:=t,pos:=p,after:=af,guard:=g } e h K =
  oneV (e.ev x) (k:=⟨fun c=>clearK P ty c h (K:=⟨fun v h'=>K (e.put d v) h'⟩)⟩):=by
 simp only[vcOp,oneV,List.map_cons,List.map_nil,clearK]
 cases e.ev x<;>rfl
end
end
@[simp] theorem put_get {e:Env} {d k:Nat} {v:V}:(e.put (some d) v).get k=if k=d then v else e.get k:=rfl
@[simp] theorem put_none {e:Env} {v:V}:e.put none v=e:=rfl
@[simp] theorem put_n {e:Env} {d:Option Nat} {v:V}:(e.put d v).n=e.n:=by cases d<;>rfl
@[simp] theorem env0_n {n:Nat} {ars:List AV}:(env0 n ars).n=n:=rfl
@[simp] theorem env0_get {n k:Nat} {ars:List AV}:(env0 n ars).get k=(ars[k]?.map AV.toV).getD .undef:=by
 simp only[env0]
 cases ars[k]?<;>rfl
@[simp] theorem Z6q {h:HS} {l k:Lab} {cs:List C}:(h.setBox l cs).box k=if k=l then some cs else h.box k:=rfl
@[simp] theorem setBox_arr {h:HS} {l k:Lab} {cs:List C}:(h.setBox l cs).arr k=h.arr k:=rfl
@[simp] theorem Zc6 {h:HS} {l:Lab} {cs:List C}:(h.setBox l cs).ep=h.ep:=by cases h;exact id rfl
@[simp] theorem setArr_arr {h:HS} {l k:Lab} {x:Option (Nat × Nat)}:(h.setArr l x).arr k=if k=l then x else h.arr k:=rfl
@[simp] theorem setArr_box {h:HS} {l k:Lab} {x:Option (Nat × Nat)}:(h.setArr l x).box k=h.box k:=rfl
@[simp] theorem setArr_ep {h:HS} {l:Lab} {x:Option (Nat × Nat)}:(h.setArr l x).ep=h.ep:=by cases h;exact id rfl
@[simp] theorem Zg7 {h:HS} {k:Lab}:h.next.box k=h.box k:=rfl
@[simp] theorem next_arr {h:HS} {k:Lab}:h.next.arr k=h.arr k:=rfl
@[simp] theorem Zor {h:HS}:h.next.ep=h.ep+1:=by cases h;exact id rfl
@[simp] theorem init_box {k:Lab}:HS.init.box k=none:=rfl
@[simp] theorem init_arr {k:Lab}:HS.init.arr k=none:=rfl
@[simp] theorem init_ep:HS.init.ep=0:=rfl
@[simp] theorem ev_tmp {e:Env} {t:Nat}:e.ev (.tmp t)=e.get t:=rfl
@[simp] theorem ev_func {e:Env} {f:Nat}:e.ev (.func f)=.one (.fn f []):=rfl
@[simp] theorem ev_int {e:Env} {k:IntKind} {n:Int}:e.ev (.const (.int k n))=dint k n:=rfl
@[simp] theorem ev_bool {e:Env} {b:Bool}:e.ev (.const (.bool b))=dbool b:=rfl
@[simp] theorem ev_str {e:Env} {s:ByteArray}:e.ev (.const (.string s))=dstr s:=rfl
@[simp] theorem ev_nil {e:Env}:e.ev (.const (.slice none 0 0))=.one .nil:=rfl
@[simp] theorem ev_agg {e:Env} {cs:Array Value}:e.ev (.const (.agg cs))=if cs.all Value.oneCell' then .agg (cs.toList.map constC) else .top:=rfl
@[simp] theorem toV_d {x:D}:AV.toV (.one (.d x))=.one (.d x):=rfl
@[simp] theorem toV_rp {x:List D}:AV.toV (.one (.rp x))=.one (.rp x):=rfl
@[simp] theorem toV_fn {f:FuncId} {x:List (List D)}:AV.toV (.one (.fn f x))=.one (.fn f (x.map Cap.rp)):=rfl
@[simp] theorem toV_agg {x:List D}:AV.toV (.agg x)=.agg (x.map C.d):=rfl
@[simp] theorem useUp_own {h:HS} {l:Lab} {xs:List (List D)}:C.useUp h (.own l xs)=h.setArr l none:=rfl
@[simp] theorem useUp_nil {h:HS}:C.useUp h .nil=h:=rfl
@[simp] theorem list_own {l:Lab} {xs:List (List D)}:C.list? (.own l xs)=some xs:=rfl
@[simp] theorem list_nil:C.list? .nil=some []:=rfl
@[simp] theorem list_z:C.list? .z=some []:=rfl
@[simp] theorem toD_z:C.toD .z=some (.sl []):=rfl
@[simp] theorem list_sl {xs:List (List D)}:C.list? (.d (.sl xs))=some xs:=rfl
@[simp] theorem toD_own {l:Lab} {xs:List (List D)}:C.toD (.own l xs)=some (.sl xs):=rfl
@[simp] theorem toD_nil:C.toD .nil=some (.sl []):=rfl
@[simp] theorem toD_d {x:D}:C.toD (.d x)=some x:=rfl
@[simp] theorem toD_mrow {l:Lab} {off n cap:Nat}:C.toD (.mrow l off n cap)=none:=rfl
@[simp] theorem toDs_nil:toDs []=some []:=rfl
@[simp] theorem toDs_map {xs:List D}:toDs (xs.map C.d)=some xs:=by
 induction xs with
 | nil=>rfl
 | cons x xs ih=>simp[toDs,ih]
@[simp] theorem notNil_tmp {t:Nat}:isNilConst (.tmp t)=false:=rfl
@[simp] theorem notNil_func {t:Nat}:isNilConst (.func t)=false:=rfl
@[simp] theorem notNil_int {k:IntKind} {n:Int}:isNilConst (.const (.int k n))=false:=rfl
@[simp] theorem notNil_bool {b:Bool}:isNilConst (.const (.bool b))=false:=rfl
@[simp] theorem notNil_str {s:ByteArray}:isNilConst (.const (.string s))=false:=rfl
@[simp] theorem notNil_agg {s:Array Value}:isNilConst (.const (.agg s))=false:=rfl
@[simp] theorem notNil_nil:isNilConst (.const (.slice none 0 0))=true:=rfl
@[simp] theorem toA_d {h:HS} {x:D}:C.toA h (.d x)=some (.d x):=rfl
@[simp] theorem toA_own {h:HS} {l:Lab} {xs:List (List D)}:C.toA h (.own l xs)=some (.d (.sl xs)):=rfl
@[simp] theorem toA_nil {h:HS}:C.toA h .nil=some (.d (.sl [])):=rfl
@[simp] theorem toA_z {h:HS}:C.toA h .z=some (.d (.sl [])):=rfl
@[simp] theorem toA_mrow {h:HS} {l:Lab} {off n cap:Nat}:C.toA h (.mrow l off n cap)=none:=rfl
@[simp] theorem toA_any {h:HS}:C.toA h .any=none:=rfl
@[simp] theorem toA_ptr {h:HS} {l:Lab}:C.toA h (.ptr l 0)=match h.box l with
  | some cs=>(toDs cs).map A.rp
  | none=>none:=rfl
@[simp] theorem toA_ptrS {h:HS} {l:Lab} {k:Nat}:C.toA h (.ptr l (k+1))=none:=rfl
@[simp] theorem toA_rp {h:HS} {cs:List D}:C.toA h (.rp cs)=some (.rp cs):=rfl
@[simp] theorem toA_fn {h:HS} {f:FuncId} {caps:List Cap}:C.toA h (.fn f caps)=(capsA h caps).map (A.fn f):=rfl
@[simp] theorem takeN_zero {cs:List C}:takeN 0 cs=some []:=by simp[takeN]
@[simp] theorem takeN_nil {n:Nat}:takeN (n+1) []=none:=by simp[takeN]
@[simp] theorem takeN_cons {n:Nat} {c:C} {cs:List C}:takeN (n+1) (c::cs)=(takeN n cs).map (c::·):=by
 simp only[takeN,List.length_cons,Nat.add_le_add_iff_right,List.take_succ_cons]
 split<;>rfl
@[simp] theorem takeN_map {cs:List D}:takeN cs.length (cs.map C.d)=some (cs.map C.d):=by simp[takeN,List.take_of_length_le]
@[simp] theorem Ztp {cs:List C}:Z03 cs 0 []=cs:=by simp[Z03]
@[simp] theorem Zsr {c v:C} {cs vs:List C}:Z03 (c::cs) 0 (v::vs)=v::Z03 cs 0 vs:=by simp[Z03]
@[simp] theorem Zss {c:C} {cs vs:List C} {k:Nat}:Z03 (c::cs) (k+1) vs=c::Z03 cs k vs:=by
 simp only[Z03,List.take_succ_cons,List.cons_append,Nat.add_right_comm k 1,List.drop_succ_cons]
attribute [simp] boundV sliceC Z11 appHdr cLen cellsV constC V.cells toDs mkV dint dbool dstr dsl intBin strBin binV readAt fillV elemsV canApp HS.addFr capA capsA V.toA toAs RC.toC RV1.toV RV.toV RC.fr RV1.fr RV.fr capsOf Z6a resVs resV isCmp kdOf eqD eqDs RetAll RetV1 RetVs RetC RetCs
@[simp] theorem eff_pick {P:Program} {c x y:Operand} {e:Env} {h:HS}:eff P (.pick c x y) e h=match e.ev c with
  | .one (.d (.bool t))=>some (if t then e.ev x else e.ev y)
  | _=>none:=rfl
attribute [simp] eff
theorem ret0 {P:Program} {rs:List ResultVar} {r:RV} {e:Env} {h:HS} {vs:List V} (hv:resVs P e h rs=some vs) (hr:RetAll h (fun _=>none) vs r):retOK P rs r e h:=by
 simp only[retOK,hv]
 exact⟨fun _=>none,fun _ _ _ hj _=>(by cases hj),hr⟩
theorem ret1 {P:Program} {rs:List ResultVar} {r:RV} {e:Env} {h:HS} {vs:List V} (o:Option Lab) (hv:resVs P e h rs=some vs) (hr:RetAll h (fun j=>if j=0 then o else none) vs r):retOK P rs r e h:=by
 simp only[retOK,hv]
 refine⟨fun j=>if j=0 then o else none,fun j j' l hj hj'=>?_,hr⟩
 by_cases h1:j=0
 ·by_cases h2:j'=0
  ·rw[h1,h2]
  ·simp[h2] at hj'
 ·simp[h1] at hj
theorem RetC.grows {h:HS} {es:Nat} {c:C} {xs:List (List D)} (g:Grows h es c xs):∃ o,∀ ren:Nat→Option Lab,ren 0=o→RetC h ren c (.fresh 0 es xs):=by
 rcases g.1 with ⟨h1,h2⟩ | ⟨l,h1,h2,h3⟩
 ·exact⟨none,fun ren hr=>by simp only[RetC,hr];exact⟨h1,h2⟩⟩
 ·exact⟨some l,fun ren hr=>by simp only[RetC,hr];exact⟨h1,h2⟩⟩
theorem Zoj {P:Program} {k es:Nat} {e:Env} {h:HS} {c:C} {xs:List (List D)} (hv:e.get k=.one c) (g:Grows h es c xs):retOK P [.tmp k] (.one (.fresh 0 es xs)) e h:=by
 obtain⟨o,ho⟩:=RetC.grows g
 refine ret1 o (vs:=[.one c]) (by simp[hv]) ?_
 simp only[RetAll,RetV1]
 exact ho _ rfl
def GrowsV (h:HS) (es:Nat) (v:V) (xs:List (List D)):Prop:=∃ c,v=.one c∧Grows h es c xs
theorem GrowsV.nil {h:HS} {es:Nat}:GrowsV h es (.one .nil) []:=⟨_,rfl,Grows.nil⟩
theorem GrowsV.app {h:HS} {es n:Nat} {l:Lab} {xs ys:List (List D)} (hl:l.1=h.ep) (hn:n=xs.length) (hy:∀ y ∈ ys,y.length=es) (he:xs=ys):GrowsV ((h.setArr l (some (n,es))).next) es (.one (.own l xs)) ys:=by
 subst he hn
 exact⟨_,rfl,Grows.app hl hy⟩
theorem Zfz {h:HS} {c:C}:(C.useUp h c).ep=h.ep:=by cases c<;>rfl
attribute [simp] Zfz
theorem Z54 {P:Program} {k es:Nat} {e:Env} {h:HS} {xs:List (List D)} (g:GrowsV h es (e.get k) xs):retOK P [.tmp k] (.one (.fresh 0 es xs)) e h:=by
 obtain⟨c,hv,g⟩:=g
 exact Zoj hv g
theorem ret_d {P:Program} {k:Nat} {e:Env} {h:HS} {x:D} {c:C} (hv:e.get k=.one c) (hx:c.toD=some x):retOK P [.tmp k] (.one (.d x)) e h:=
 ret0 (vs:=[.one c]) (by simp[hv]) (by simpa[RetAll,RetV1] using hx)
theorem Ztc {h:HS} {caps:List (List D)}:capsA h (caps.map Cap.rp)=some caps:=by
 induction caps with
 | nil=>rfl
 | cons x xs ih=>simp[capsA,capA,ih]
attribute [simp] Ztc
end Go.Am
end
section
namespace Go.Am
open Go
section
variable {ρ α β σ:Type}
def Is (m:Option ρ) (r:ρ):Prop:=m=some r
def bindK (m:Option α) (K:α→Option ρ):Option ρ:=match m with
 | some x=>K x
 | none=>none
def getK (xs:List α) (i:Int) (K:α→Option ρ):Option ρ:=if 0≤i then bindK xs[i.toNat]? K else none
def chkK (b:Prop) [Decidable b] (m:Option ρ):Option ρ:=if b then m else none
def okI (n:Int):Prop:=-9223372036854775808≤n∧n≤9223372036854775807
instance (n:Int):Decidable (okI n):=inferInstanceAs (Decidable (_∧_))
def appK2 (xs ys:List α) (K:List α→Option ρ):Option ρ:=chkK (xs.length+ys.length≤LIM) (K (xs++ys))
def forK (body:Nat→α→σ→(σ→Option ρ)→Option ρ) (k:σ→Option ρ):List α→Nat→σ→Option ρ
 | [],_,s=>k s
 | x::xs,i,s=>body i x s fun s'=>forK body k xs (i+1) s'
def countK (body:Nat→σ→(σ→Option ρ)→Option ρ) (k:σ→Option ρ):Nat→Nat→σ→Option ρ
 | 0,_,s=>k s
 | n+1,i,s=>body i s fun s'=>countK body k n (i+1) s'
theorem r_ret {v r:ρ} (h:Is (some v) r):v=r:=Option.some.inj h
theorem Is.bind {m:Option α} {K:α→Option ρ} {r:ρ} (h:Is (bindK m K) r):∃ x,Is m x∧Is (K x) r:=by
 unfold bindK at h
 cases m with
 | some x=>exact⟨x,rfl,h⟩
 | none=>cases h
theorem Is.get {xs:List α} {i:Int} {K:α→Option ρ} {r:ρ} (h:Is (getK xs i K) r):∃ x,0≤i∧xs[i.toNat]?=some x∧Is (K x) r:=by
 unfold getK at h
 by_cases h0:0≤i
 ·rw[if_pos h0] at h
  obtain⟨x,hx,h⟩:=h.bind
  exact⟨x,h0,hx,h⟩
 ·rw[if_neg h0] at h;cases h
theorem Is.getN {xs:List α} {i:Nat} {K:α→Option ρ} {r:ρ} (h:Is (getK xs i K) r):∃ x,xs[i]?=some x∧Is (K x) r:=by
 obtain⟨x,_,hx,h⟩:=h.get
 exact⟨x,by simpa using hx,h⟩
theorem Is.chk {b:Prop} [Decidable b] {m:Option ρ} {r:ρ} (h:Is (chkK b m) r):b∧Is m r:=by
 unfold chkK at h
 by_cases hb:b
 ·rw[if_pos hb] at h;exact⟨hb,h⟩
 ·rw[if_neg hb] at h;cases h
theorem Z6o {n:Int} (h:okI n):IntKind.i64.wrap n=n:=IntWalk.i64_in _ ⟨h.1,h.2⟩
theorem Is.app {xs ys:List α} {K:List α→Option ρ} {r:ρ} (h:Is (appK2 xs ys K) r):xs.length+ys.length≤LIM∧Is (K (xs++ys)) r:=Is.chk h
theorem r_cond {b:Bool} {A B:Option ρ} {r:ρ} {f:Unit→Prop} {g:Bool→Prop} (hm:Is (cond b A B) r) (h1:b=true→Is A r→f ()) (h2:b=false→Is B r→g true):condV (.one (.d (.bool b))) (p:=⟨f⟩) (q:=⟨g⟩):=by
 cases b with
 | true=>exact Z5c (fun _=>h1 rfl hm) (fun h=>by cases h)
 | false=>exact Z5c (fun h=>by cases h) (fun _=>h2 rfl hm)
theorem Z08 {b:Bool} {A B:Option ρ} {r:ρ} {f:Unit→Prop} {g:Bool→Prop} (hm:Is (cond b A B) r) (h1:b=true→Is A r→f ()) (h2:b=false→Is B r→g true):guardV (.one (.d (.bool b))) true (p:=⟨f⟩) (q:=⟨g⟩):=by
 cases b with
 | true=>simp;exact h1 rfl hm
 | false=>simp;exact h2 rfl hm
theorem Z0b {b:Bool} {A B:Option ρ} {r:ρ} {f:Unit→Prop} {g:Bool→Prop} (hm:Is (cond b A B) r) (h1:b=true→Is A r→g true) (h2:b=false→Is B r→f ()):guardV (.one (.d (.bool b))) false (p:=⟨f⟩) (q:=⟨g⟩):=by
 cases b with
 | true=>simp;exact h1 rfl hm
 | false=>simp;exact h2 rfl hm
theorem r_call {P:Program} {f:FuncId} {vs:List V} {av:List AV} {d:Nat} {e:Env} {h:HS} {Kc:Env→HS→Prop} {er:α→RV} {m:Option α} {K:α→Option ρ} {r:ρ} (hm:Is (bindK m K) r) (hs:∀ v,Is m v→PSpec P f av (er v)) (has:toAs h vs=some av)
  (hk:∀ v,Is m v→Is (K v) r→Kc (e.put (some d) ((er v).toV h.ep d)) ((h.addFr d (er v).fr).next)):callK P f [] vs d e h (K:=⟨Kc⟩):=by
 obtain⟨x,hx,hm⟩:=hm.bind
 exact Z3e (hs x hx) has (hk x hx hm)
theorem Z9i {P:Program} {f:FuncId} {vs:List V} {av:List AV} {caps:List Cap} {cs:List (List D)} {d:Nat} {e:Env} {h:HS} {Kc:Env→HS→Prop} {er:α→RV} {m:Option α} {K:α→Option ρ} {r:ρ} (hm:Is (bindK m K) r) (hs:∀ v,Is m v→PSpec P f (av++capsOf cs) (er v)) (has:toAs h vs=some av) (hcs:capsA h caps=some cs)
  (hk:∀ v,Is m v→Is (K v) r→Kc (e.put (some d) ((er v).toV h.ep d)) ((h.addFr d (er v).fr).next)):callK P f caps vs d e h (K:=⟨Kc⟩):=by
 obtain⟨x,hx,hm⟩:=hm.bind
 exact Ztd has hcs (hs x hx) (hk x hx hm)
theorem r_app {P:Program} {ty el:TypeId} {es by_ d:Nat} {c x:C} {h:HS} {Kc:V→HS→Prop} {K:List α→Option ρ} {r:ρ} {enc:α→List D} {xs ys:List α} (hm:Is (appK2 xs ys K) r) (hel:elT P ty=some (el,es,by_)) (hc:Grows h es c (xs.map enc)) (hx:x.list?=some (ys.map enc))
  (h0:0 < es) (hb:by_≤4096) (hy:∀ y:α,(enc y).length=es)
  (hk:xs.length+ys.length≤LIM→Is (K (xs++ys)) r→Grows (((c.useUp h).setArr (h.ep,16 * d) (some ((xs++ys).length,es))).next) es (.own (h.ep,16 * d) ((xs++ys).map enc)) ((xs++ys).map enc) →
   Kc (.one (.own (h.ep,16 * d) ((xs++ys).map enc))) (((c.useUp h).setArr (h.ep,16 * d) (some ((xs++ys).length,es))).next)):appK P ty c x d h (K:=⟨Kc⟩):=by
 obtain⟨hl,hm⟩:=hm.app
 have hall:∀ y ∈ (xs++ys).map enc,y.length=es:=by
  intro y hy'
  obtain⟨z,_,rfl⟩:=List.mem_map.1 hy'
  exact hy z
 refine Zev hel hc hx h0 hb ?_ (by simpa using hl) ?_
 ·intro y hy'
  obtain⟨z,_,rfl⟩:=List.mem_map.1 hy'
  exact hy z
 ·have e1:xs.map enc++ys.map enc=(xs++ys).map enc:=by simp
  rw[e1]
  have g:Grows (((c.useUp h).setArr (h.ep,16 * d) (some (((xs++ys).map enc).length,es))).next) es (.own (h.ep,16 * d) ((xs++ys).map enc)) ((xs++ys).map enc):=
   Grows.own (by simp[HS.setArr,HS.next]) (by show h.ep < (C.useUp h c).ep+1;rw[Zfz];omega) hall
  simp only[List.length_map] at g ⊢
  exact hk hl hm g
def CutK [J:Hid (Env→HS→Prop)] (e:Env) (h:HS):Prop:=J.out e h
theorem CutK.of {J:Env→HS→Prop} {e:Env} {h:HS} (hJ:J e h):CutK (J:=⟨J⟩) e h:=hJ
theorem Wait.cut {P:Program} {id:Nat} {ops:Array Oper} {Q:Exit→Env→HS→Prop} {e:Env} {h:HS} (plan:Plan) (hm:P.follows .mixedOrders=true)
  (hB:planB .any ops plan ops.size (Array.replicate ops.size false)=true) (J:Env→HS→Prop) (h1:vcPlan P ops.toList (fun e h=>CutK (J:=⟨J⟩) e h) plan e h) (h2:∀ e h,J e h→Q .normal e h) :
  Wait P (c:=⟨.region id ops true⟩) (Q:=⟨Q⟩) e h:=by
 refine SWP.mono (Q:=fun x e h=>match x with | .normal=>J e h | _=>False) (SWP.draw plan hm hB h1) ?_
 intro x e h hq
 cases x with
 | normal=>exact h2 e h hq
 | _=>exact hq.elim
def BackF {σ:Type} [I:Hid (σ→Env→HS→Prop)] (e:Env) (h:HS):Prop:=∃ s,I.out s e h
theorem BackF.of {σ:Type} {I:σ→Env→HS→Prop} {e:Env} {h:HS} (s:σ) (hI:I s e h):BackF (I:=⟨I⟩) e h:=⟨s,hI⟩
def Never:Prop:=False
theorem SWP.loopS {P:Program} {c:Code} {Q:Exit→Env→HS→Prop} {e:Env} {h:HS} (I:Nat→Env→HS→Prop) (n:Nat) (h0:I n e h)
  (round:∀ n e h,I n e h→SWP P c (thenQ (fun e' h'=>∃ n',n' < n∧I n' e' h') Q) e h):SWP P (.loop c) Q e h:=by
 intro Γ a w μ hI hE
 intro b k cs
 have key:∀ n e h a w μ,I n e h→Inv Γ h μ w→EnvRel μ e a →
   ∃ ex a' w',(∃ e' h' μ',Q ex e' h'∧Inv Γ h' μ' w'∧EnvRel μ' e' a'∧Mem.Le μ μ')∧Arrives P (lone (b.at a (.code c::.inLoop c::k)) cs w) b k cs ex a' w':=by
  intro n
  induction n using Nat.strongRecOn with
  | _ n ih=>
    intro e h a w μ hIn hI hE
    obtain⟨ex,a₁,w₁,⟨e₁,h₁,μ₁,hq,hI₁,hE₁,hle₁⟩,harr⟩:=(round n e h hIn) Γ a w μ hI hE b (.inLoop c::k) cs
    cases ex with
    | normal=>
      obtain⟨n',hlt,hIn'⟩:=hq
      obtain⟨e₂,a₂,w₂,⟨e₃,h₃,μ₃,q1,q2,q3,q4⟩,harr₂⟩:=ih n' hlt e₁ h₁ a₁ w₁ μ₁ hIn' hI₁ hE₁
      exact⟨e₂,a₂,w₂,⟨e₃,h₃,μ₃,q1,q2,q3,hle₁.trans q4⟩,.of_steps (Steps.trans harr (.one step_inLoop)) harr₂⟩
    | exit id=>exact⟨_,a₁,w₁,⟨e₁,h₁,μ₁,hq,hI₁,hE₁,hle₁⟩,.pass (x:=.inLoop c) rfl (fun _ _=>.inl (by simp)) harr⟩
    | goto l=>exact⟨_,a₁,w₁,⟨e₁,h₁,μ₁,hq,hI₁,hE₁,hle₁⟩,.pass (x:=.inLoop c) rfl (fun _ _=>.inl (by simp)) harr⟩
    | ret=>exact⟨_,a₁,w₁,⟨e₁,h₁,μ₁,hq,hI₁,hE₁,hle₁⟩,.pass (x:=.inLoop c) rfl (fun _ _=>.inl (by simp)) harr⟩
    | panic ch=>exact⟨_,a₁,w₁,⟨e₁,h₁,μ₁,hq,hI₁,hE₁,hle₁⟩,.pass (x:=.inLoop c) rfl (fun _ _=>.inl (by simp)) harr⟩
    | outgrown=>exact⟨_,a₁,w₁,⟨e₁,h₁,μ₁,hq,hI₁,hE₁,hle₁⟩,.pass (x:=.inLoop c) rfl (fun _ _=>.inl (by simp)) harr⟩
 obtain⟨ex,a',w',hq,harr⟩:=key n e h a w μ h0 hI hE
 exact⟨ex,a',w',hq,.of_steps (.one step_loop) harr⟩
theorem Zaw {N N':Env→HS→Prop} {Q:Exit→Env→HS→Prop} (hN:∀ e h,N e h→N' e h):∀ x e h,thenQ N Q x e h→thenQ N' Q x e h
 | .normal,e,h,hq=>hN e h hq
 | .exit _,_,_,hq=>hq
 | .goto _,_,_,hq=>hq
 | .ret,_,_,hq=>hq
 | .panic _,_,_,hq=>hq
 | .outgrown,_,_,hq=>hq
theorem Wait.for {P:Program} {c:Code} {Q:Exit→Env→HS→Prop} {e:Env} {h:HS} {xs:List α} {s0:σ} {body:Nat→α→σ→(σ→Option ρ)→Option ρ} {k:σ→Option ρ} {r:ρ} (R:Nat→σ→Env→HS→Prop)
  (hm:Is (forK body k xs 0 s0) r) (h0:R 0 s0 e h)
  (round:∀ (i:Nat) (s:σ) (e:Env) (h:HS),R i s e h→∀ hlt:i < xs.length,Is (body i xs[i] s (fun s'=>forK body k (xs.drop (i+1)) (i+1) s')) r →
   vc P c (thenQ (fun e' h'=>BackF (I:=⟨fun s' e h=>R (i+1) s' e h∧Is (forK body k (xs.drop (i+1)) (i+1) s') r⟩) e' h') Q) e h)
  (fin:∀ (s:σ) (e:Env) (h:HS),R xs.length s e h→Is (k s) r→vc P c (thenQ (fun _ _=>Never) Q) e h) :
  Wait P (c:=⟨.loop c⟩) (Q:=⟨Q⟩) e h:=by
 refine SWP.loopS (fun n e h=>∃ i s,i≤xs.length∧n=xs.length - i∧R i s e h∧Is (forK body k (xs.drop i) i s) r) xs.length ⟨0,s0,by omega,by omega,h0,by simpa using hm⟩ ?_
 rintro n e h ⟨i,s,hi,rfl,hR,hm⟩
 rcases Nat.lt_or_ge i xs.length with hlt | hge
 ·rw[List.drop_eq_getElem_cons hlt] at hm
  refine (Z5w _ _ _ _ (round i s e h hR hlt hm)).mono (Zaw ?_)
  rintro e' h' ⟨s',hR',hm'⟩
  exact⟨xs.length - (i+1),by omega,i+1,s',by omega,rfl,hR',hm'⟩
 ·obtain rfl:i=xs.length:=by omega
  rw[List.drop_eq_nil_of_le (Nat.le_refl _)] at hm
  exact (Z5w _ _ _ _ (fin s e h hR hm)).mono (Zaw fun _ _ hf=>(hf:False).elim)
theorem Wait.count {P:Program} {c:Code} {Q:Exit→Env→HS→Prop} {e:Env} {h:HS} {N:Int} {s0:σ} {body:Nat→σ→(σ→Option ρ)→Option ρ} {k:σ→Option ρ} {r:ρ} (R:Nat→σ→Env→HS→Prop)
  (hm:Is (countK body k N.toNat 0 s0) r) (h0:R 0 s0 e h)
  (round:∀ (i:Nat) (s:σ) (e:Env) (h:HS),R i s e h→(i:Int) < N→Is (body i s (fun s'=>countK body k (N.toNat - (i+1)) (i+1) s')) r →
   vc P c (thenQ (fun e' h'=>BackF (I:=⟨fun s' e h=>R (i+1) s' e h∧Is (countK body k (N.toNat - (i+1)) (i+1) s') r⟩) e' h') Q) e h)
  (fin:∀ (i:Nat) (s:σ) (e:Env) (h:HS),R i s e h→¬ (i:Int) < N→Is (k s) r→vc P c (thenQ (fun _ _=>Never) Q) e h) :
  Wait P (c:=⟨.loop c⟩) (Q:=⟨Q⟩) e h:=by
 refine SWP.loopS (fun n e h=>∃ i s,i≤N.toNat∧n=N.toNat - i∧R i s e h∧Is (countK body k (N.toNat - i) i s) r) N.toNat ⟨0,s0,by omega,by omega,h0,by simpa using hm⟩ ?_
 rintro n e h ⟨i,s,hi,rfl,hR,hm⟩
 rcases Nat.lt_or_ge i N.toNat with hlt | hge
 ·obtain⟨j,hj⟩:∃ j,N.toNat - i=j+1:=⟨N.toNat - i - 1,by omega⟩
  rw[hj] at hm
  have hj':j=N.toNat - (i+1):=by omega
  subst hj'
  refine (Z5w _ _ _ _ (round i s e h hR (by omega) hm)).mono (Zaw ?_)
  rintro e' h' ⟨s',hR',hm'⟩
  exact⟨N.toNat - (i+1),by omega,i+1,s',by omega,rfl,hR',hm'⟩
 ·obtain rfl:i=N.toNat:=by omega
  rw[Nat.sub_self] at hm
  exact (Z5w _ _ _ _ (fin N.toNat s e h hR (by omega) hm)).mono (Zaw fun _ _ hf=>(hf:False).elim)
end
def AllLen (es:Nat) (xs:List (List D)):Prop:=∀ y ∈ xs,y.length=es
theorem Grows.setArr' {h:HS} {es:Nat} {c:C} {xs:List (List D)} {a b:Nat} {x:Option (Nat × Nat)} (g:Grows h es c xs) (hk:h.ep≤a):Grows (h.setArr (a,b) x) es c xs:=g.setArr hk
theorem Zmf {es:Nat}:AllLen es []=True:=by simp[AllLen]
theorem Zip {es:Nat} {y:List D} {ys:List (List D)}:AllLen es (y::ys)=(y.length=es∧AllLen es ys):=by simp[AllLen]
theorem Zgo {es:Nat} {xs ys:List (List D)}:AllLen es (xs++ys)=(AllLen es xs∧AllLen es ys):=by
 simp only[AllLen,List.mem_append,eq_iff_iff]
 exact⟨fun h=>⟨fun y hy=>h y (.inl hy),fun y hy=>h y (.inr hy)⟩,fun h y hy=>hy.elim (h.1 y) (h.2 y)⟩
theorem Zmg {α:Type} {f:α→List D} {es:Nat} {xs:List α} (h:∀ a,(f a).length=es):AllLen es (xs.map f)=True:=by
 refine eq_true ?_
 intro y hy
 obtain⟨a,_,rfl⟩:=List.mem_map.1 hy
 exact h a
theorem Zox {h:HS} {es:Nat} {l:Lab} {xs ys:List (List D)}:Grows h es (.own l xs) ys=(xs=ys∧h.arr l=some (xs.length,es)∧l.1 < h.ep∧AllLen es xs):=by
 apply propext
 constructor
 ·rintro⟨h1 | ⟨l',h1,h2,h3⟩,hy⟩
  ·cases h1.1
  ·injection h1 with e1 e2
   subst e1 e2
   exact⟨rfl,h2,h3,hy⟩
 ·rintro⟨rfl,h2,h3,hy⟩
  exact Grows.own h2 h3 hy
def Apart (c c':C):Prop:=∀ l xs ys,c=.own l xs→c'=.own l ys→False
theorem Apart.symm {c c':C} (h:Apart c c'):Apart c' c:=fun l xs ys h1 h2=>h l ys xs h2 h1
theorem Zpa {c:C}:Apart .nil c=True:=eq_true fun _ _ _ h _=>by cases h
theorem Zme {c:C}:Apart c .nil=True:=eq_true fun _ _ _ _ h=>by cases h
theorem Zp9 {l l':Lab} {xs ys:List (List D)}:Apart (.own l xs) (.own l' ys)=(l≠l'):=by
 apply propext
 constructor
 ·rintro h rfl;exact h _ _ _ rfl rfl
 ·intro h k _ _ h1 h2
  injection h1 with a _
  injection h2 with b _
  exact h (a.trans b.symm)
theorem Grows.apart {h:HS} {es:Nat} {c:C} {xs ys:List (List D)} (g:Grows h es c xs) {l:Lab} (hl:h.ep≤l.1):Apart (.own l ys) c:=by
 intro k _ _ h1 h2
 injection h1 with a _
 rcases g.1 with ⟨h3,_⟩ | ⟨l',h3,_,h5⟩
 ·rw[h3] at h2;cases h2
 ·rw[h3] at h2
  injection h2 with b _
  rw[b,← a] at h5
  omega
theorem Grows.useUp_arr {h:HS} {es:Nat} {c:C} {xs:List (List D)} (g:Grows h es c xs):∀ (h':HS) (l:Lab),h.ep≤l.1→(C.useUp h' c).arr l=h'.arr l:=by
 intro h' l hl
 rcases g.1 with ⟨h3,_⟩ | ⟨l',h3,_,h5⟩
 ·rw[h3];rfl
 ·rw[h3]
  have:l≠l':=by rintro rfl;omega
  simp[C.useUp,HS.setArr,this]
theorem Grows.useUp {h:HS} {es:Nat} {c c':C} {xs:List (List D)} (g:Grows h es c' xs) (ha:Apart c c'):Grows (C.useUp h c) es c' xs:=by
 refine⟨?_,g.2⟩
 rcases g.1 with h3 | ⟨l',h3,h4,h5⟩
 ·exact .inl h3
 ·refine .inr ⟨l',h3,?_,by rw[Zfz];exact h5⟩
  cases c with
  | own l ys=>
    have:l'≠l:=by rintro rfl;exact ha _ _ _ rfl h3
    simp[C.useUp,HS.setArr,this,h4]
  | _=>exact h4
theorem Grows.useUp' {h:HS} {es:Nat} {c c':C} {xs:List (List D)} (g:Grows h es c' xs) (ha:Apart c' c):Grows (C.useUp h c) es c' xs:=g.useUp ha.symm
theorem Zoy {h:HS} {es:Nat} {ys:List (List D)}:Grows h es .nil ys=(ys=[]):=by
 apply propext
 constructor
 ·rintro⟨h1 | ⟨l',h1,h2,h3⟩,hy⟩
  ·exact h1.2
  ·cases h1
 ·rintro rfl
  exact Grows.nil
def idxE (z:Option (TypeId × Nat × Nat)) (x i:V):Option V:=
 match z with
 | some (_,n,_)=>match x,i with
   | .one c,.one (.d (.int _ k))=>match c.list? with
     | some xs=>if 0≤k then match xs[k.toNat]? with
       | some y=>if y.length=n∧0 < n then some (.one (.rp y)) else none
       | none=>none
      else none
     | none=>match c with
       | .mrow l off m _=>if 0≤k∧k.toNat < m∧0 < n then some (.one (.ptr l (off+k.toNat * n))) else none
       | _=>none
   | _,_=>none
 | none=>none
@[simp high] theorem Zt7 {P:Program} {t:TypeId} {x i:Operand} {e:Env} {h:HS}:eff P (.indexAddr t x i) e h=idxE (elT P t) (e.ev x) (e.ev i):=by
 simp only[eff,idxE]
 cases elT P t with
 | none=>rfl
 | some z=>
   obtain⟨a,n,b⟩:=z
   dsimp only
   generalize e.ev x=X
   generalize e.ev i=I
   cases X with
   | one c=>cases I with
     | one c'=>cases c' with
       | d y=>cases y with
         | int k j=>cases c with
           | d z=>cases z<;>rfl
           | _=>rfl
         | _=>cases c<;>rfl
       | _=>cases c<;>rfl
     | _=>cases c<;>rfl
   | _=>rfl
@[simp] theorem idxE_int {a n b:Nat} {c:C} {k:IntKind} {j:Int}:idxE (some (a,n,b)) (.one c) (.one (.d (.int k j)))=match c.list? with
   | some xs=>if 0≤j then match xs[j.toNat]? with
     | some y=>if y.length=n∧0 < n then some (.one (.rp y)) else none
     | none=>none
    else none
   | none=>match c with
     | .mrow l off m _=>if 0≤j∧j.toNat < m∧0 < n then some (.one (.ptr l (off+j.toNat * n))) else none
     | _=>none:=rfl
def Rd (c:C) (xs:List (List D)):Prop:=c.list?=some xs∧c.toD=some (.sl xs)∧∀ h,c.toA h=some (.d (.sl xs))
theorem Grows.rd {h:HS} {es:Nat} {c:C} {xs:List (List D)} (g:Grows h es c xs):Rd c xs:=⟨g.list,g.toD,g.toA⟩
theorem Rd.d {xs:List (List D)}:Rd (.d (.sl xs)) xs:=⟨rfl,rfl,fun _=>rfl⟩
theorem Rd.own {l:Lab} {xs:List (List D)}:Rd (.own l xs) xs:=⟨rfl,rfl,fun _=>rfl⟩
theorem Rd.nil:Rd .nil []:=⟨rfl,rfl,fun _=>rfl⟩
theorem rd_own {l:Lab} {xs ys:List (List D)}:Rd (.own l xs) ys=(xs=ys):=by
 apply propext
 constructor
 ·intro h;exact Option.some.inj h.1
 ·rintro rfl;exact Rd.own
theorem rd_d {xs ys:List (List D)}:Rd (.d (.sl xs)) ys=(xs=ys):=by
 apply propext
 constructor
 ·intro h;exact Option.some.inj h.1
 ·rintro rfl;exact Rd.d
theorem rd_nil {ys:List (List D)}:Rd .nil ys=(ys=[]):=by
 apply propext
 constructor
 ·intro h;exact (Option.some.inj h.1).symm
 ·rintro rfl;exact Rd.nil
attribute [simp] Zox Zoy rd_own rd_d rd_nil Grows.next Grows.setBox Grows.setArr' Grows.useUp Grows.useUp' Zmf Zip Zgo Zmg Zpa Zme Zp9
end Go.Am
end
section
namespace Go.Am
open Go
def eqKs (rec:TypeId→Option (List Kd)):List Field→Nat→Option (List Kd)
 | [],_=>some []
 | f::fs,off=>if f.name ≠ "_" ∧ f.offset=off then
     match rec f.type with
     | some ks=>match eqKs rec fs (off+ks.length) with
       | some r=>some (ks++r)
       | none=>none
     | none=>none
  else none
def eqK (P:Program):Nat→TypeId→Option (List Kd)
 | 0,_=>none
 | d+1,t=>match P.underlying t with
   | some (.int k)=>some [.int k]
   | some .bool=>some [.bool]
   | some .string=>some [.str]
   | some (.struct fs)=>if P.stoodInHeld t=true then none else
     match eqKs (eqK P d) fs.toList 0 with
     | some ks=>match P.info? t with
       | some i=>if i.size=ks.length then some ks else none
       | none=>none
     | none=>none
   | _=>none
theorem Z6d:∀ {ks ls:List Kd} {vs:List Value},Shaped (ks++ls) vs→∃ a b,vs=a++b∧Shaped ks a∧Shaped ls b∧a.length=ks.length
 | [],ls,vs,h=>⟨[],vs,rfl,trivial,h,rfl⟩
 | k::ks,ls,[],h=>by cases k<;>exact h.elim
 | k::ks,ls,v::vs,h=>by
   cases k with
   | int i=>
     obtain⟨hv,h⟩:=h
     obtain⟨a,b,rfl,h1,h2,h3⟩:=Z6d (ks:=ks) (ls:=ls) h
     exact⟨v::a,b,rfl,⟨hv,h1⟩,h2,by simp[h3]⟩
   | bool=>
     obtain⟨hv,h⟩:=h
     obtain⟨a,b,rfl,h1,h2,h3⟩:=Z6d (ks:=ks) (ls:=ls) h
     exact⟨v::a,b,rfl,⟨hv,h1⟩,h2,by simp[h3]⟩
   | str=>
     obtain⟨hv,h⟩:=h
     obtain⟨a,b,rfl,h1,h2,h3⟩:=Z6d (ks:=ks) (ls:=ls) h
     exact⟨v::a,b,rfl,⟨hv,h1⟩,h2,by simp[h3]⟩
   | other=>exact h.elim
theorem Zc0:∀ {a b x y:List Value},a.length=x.length→valsEq (a++b) (x++y)=(valsEq a x && valsEq b y)
 | [],b,[],y,_=>rfl
 | u::a,b,v::x,y,h=>by
   simp only[List.cons_append,valsEq]
   rw[Zc0 (a:=a) (x:=x) (by simpa using h),Bool.and_assoc]
 | [],_,_::_,_,h=>by cases h
 | _::_,_,[],_,h=>by cases h
theorem Zax:∀ {ks:List Kd} {vs:List Value},Shaped ks vs→vs.length=ks.length
 | [],[],_=>rfl
 | [],_::_,h=>h.elim
 | k::ks,[],h=>by cases k<;>exact h.elim
 | k::ks,v::vs,h=>by
   cases k with
   | int i=>simp[Zax h.2]
   | bool=>simp[Zax h.2]
   | str=>simp[Zax h.2]
   | other=>exact h.elim
def asVal (P:Program) (t:TypeId) (vs:List Value) (v:Value):Prop:=
 match P.underlying t with
 | some d=>if aggD d=true then v=.agg vs.toArray else vs=[v]
 | none=>False
theorem Zff {P:Program} {d:Nat} {t:TypeId} {ks:List Kd} (hk:eqK P d t=some ks) {cs a rest:List Value} {off:Nat} (hc:cs.drop off=a++rest) (ha:Shaped ks a) (w:World) :
  ∃ v,(part t cs.toArray off).run P w=.ok v w∧asVal P t a v:=by
 have hlen:=Zax ha
 cases d with
 | zero=>cases hk
 | succ d=>
   unfold eqK at hk
   have leaf:∀ k v,P.underlying t=some k→aggD k=false→a=[v]→∃ u,(part t cs.toArray off).run P w=.ok u w∧asVal P t a u:=by
    intro k v hu hg hav
    subst hav
    have hget:cs[off]?=some v:=by
     have:(cs.drop off)[0]?=some v:=by rw[hc];rfl
     simpa using this
    exact⟨v,by simp[part,Z6y hu,hg,hget],by simp[asVal,hu,hg]⟩
   split at hk
   ·rename_i k hu
    cases hk
    obtain⟨v,rfl⟩:∃ v,a=[v]:=by
     match a,hlen with
     | [v],_=>exact⟨v,rfl⟩
    exact leaf _ v hu rfl rfl
   ·rename_i hu
    cases hk
    obtain⟨v,rfl⟩:∃ v,a=[v]:=by
     match a,hlen with
     | [v],_=>exact⟨v,rfl⟩
    exact leaf _ v hu rfl rfl
   ·rename_i hu
    cases hk
    obtain⟨v,rfl⟩:∃ v,a=[v]:=by
     match a,hlen with
     | [v],_=>exact⟨v,rfl⟩
    exact leaf _ v hu rfl rfl
   ·rename_i fs hu
    split at hk
    ·cases hk
    ·split at hk
     ·rename_i ks' _
      split at hk
      ·rename_i i hi
       split at hk
       ·rename_i hsz
        cases hk
        have hex:(cs.drop off).take i.size=a:=by
         rw[hsz,← hlen,hc]
         simp
        exact⟨.agg a.toArray,by simp[part,Z6y hu,aggD,sizeOf,typeInfo,hi,hex],by simp[asVal,hu,aggD]⟩
       ·cases hk
      ·cases hk
     ·cases hk
   ·cases hk
theorem Zhh {P:Program}:∀ (d:Nat) (t:TypeId) (ks:List Kd),eqK P d t=some ks→∀ (D:Nat),d≤D→∀ (vs us:List Value) (v u:Value) (w:World),Shaped ks vs→Shaped ks us→asVal P t vs v→asVal P t us u →
  (Op.equalIn D t v u).run P w=.ok (valsEq vs us) w
 | 0,t,ks,hk=>by cases hk
 | d+1,t,ks,hk=>by
   intro D hD vs us v u w hv hu av au
   obtain⟨D,rfl⟩:∃ n,D=n+1:=⟨D - 1,by omega⟩
   unfold eqK at hk
   split at hk
   ·rename_i k hun
    cases hk
    simp only[asVal,hun,aggD,Bool.false_eq_true,if_false] at av au
    subst av au
    obtain⟨⟨n,rfl⟩,_⟩:=hv
    obtain⟨⟨m,rfl⟩,_⟩:=hu
    rw[run_equalIn_int w D t k k n m hun]
    simp[valsEq,valEq]
   ·rename_i hun
    cases hk
    simp only[asVal,hun,aggD,Bool.false_eq_true,if_false] at av au
    subst av au
    obtain⟨⟨n,rfl⟩,_⟩:=hv
    obtain⟨⟨m,rfl⟩,_⟩:=hu
    rw[run_equalIn_bool' w D t n m hun]
    simp[valsEq,valEq]
   ·rename_i hun
    cases hk
    simp only[asVal,hun,aggD,Bool.false_eq_true,if_false] at av au
    subst av au
    obtain⟨⟨n,rfl⟩,_⟩:=hv
    obtain⟨⟨m,rfl⟩,_⟩:=hu
    rw[run_equalIn_string w D t n m hun,← beq_toListBytes]
    simp[valsEq,valEq]
   ·rename_i fs hun
    split at hk
    ·cases hk
    ·rename_i hst
     split at hk
     ·rename_i ks' hks
      split at hk
      ·rename_i i hi
       split at hk
       ·cases hk
        simp only[asVal,hun,aggD,if_true] at av au
        subst av au
        have hf:P.fieldsOf t=fs:=by simp[Program.fieldsOf,hun]
        rw[run_equalIn_agg w D t _ _ (by rw[hf];exact hun) (by simpa using hst),hf]
        have key:∀ (l:List Field) (off:Nat) (ls:List Kd) (a b:List Value),eqKs (eqK P d) l off=some ls→vs.drop off=a→us.drop off=b→Shaped ls a→Shaped ls b→∀ w,(Op.eqFields D vs.toArray us.toArray l).run P w=.ok (valsEq a b) w:=by
         intro l
         induction l with
         | nil=>
           intro off ls a b hl ha hb sa sb w
           cases hl
           have ea:a=[]:=by cases a with | nil=>rfl | cons _ _=>exact sa.elim
           have eb:b=[]:=by cases b with | nil=>rfl | cons _ _=>exact sb.elim
           subst ea eb
           simp[Op.eqFields,valsEq]
         | cons f l ih=>
           intro off ls a b hl ha hb sa sb w
           unfold eqKs at hl
           split at hl
           ·rename_i hc
            split at hl
            ·rename_i k1 hk1
             split at hl
             ·rename_i r hr
              cases hl
              obtain⟨a1,a2,rfl,s1,s2,l1⟩:=Z6d sa
              obtain⟨b1,b2,rfl,t1,t2,m1⟩:=Z6d sb
              obtain⟨v1,hv1,av1⟩:=Zff hk1 (cs:=vs) ha s1 w
              obtain⟨u1,hu1,au1⟩:=Zff hk1 (cs:=us) hb t1 w
              have he:=Zhh d f.type k1 hk1 D (by omega) a1 b1 v1 u1 w s1 t1 av1 au1
              have hrest:=ih (off+k1.length) r a2 b2 hr (by rw[← List.drop_drop,ha,← l1];simp) (by rw[← List.drop_drop,hb,← m1];simp) s2 t2 w
              rw[← hc.2] at hv1 hu1
              simp only[Op.eqFields,hc.1,ne_eq,not_false_eq_true,if_true,Sem.run_bind,hv1,hu1,Result.andThen_ok,he]
              rw[Zc0 (by omega)]
              cases hb1:valsEq a1 b1 with
              | true=>simpa using hrest
              | false=>simp
             ·cases hl
            ·cases hl
           ·cases hl
        exact key fs.toList 0 _ vs us hks rfl rfl hv hu w
       ·cases hk
      ·cases hk
     ·cases hk
   ·cases hk
theorem eqT_of {P:Program} {t:TypeId} {ks:List Kd} {fs:Array Field} (hu:P.underlying t=some (.struct fs)) (hg:P.eqGuardType P.depth t=false) (hk:eqK P 20 t=some ks):EqT P t ks:=by
 intro op vs us w x y hop hv hus
 have he:=Zhh 20 t ks hk 10000 (by omega) vs us (.agg vs.toArray) (.agg us.toArray) w hv hus (by simp[asVal,hu,aggD]) (by simp[asVal,hu,aggD])
 simp only[Sem.run_bind,run_eqGuard_agg w op t x y _ _ hg,Result.andThen_ok]
 cases op with
 | eql=>rw[run_eql_struct,he];simp
 | neq=>rw[run_neq_struct,he];simp
 | _=>cases hop
end Go.Am
end
section
namespace Go.Proofs.YthgepknlibmjcaaGreat
open Go.Am
theorem ty_ld2:ldT Tryz.prog 2=some (false,1):=by kernel_rfl
theorem ty_ze2:zeT Tryz.prog 2=some [.d (.int .i64 0)]:=by kernel_rfl
theorem ty_ld3:ldT Tryz.prog 3=some (false,1):=by kernel_rfl
theorem ty_ze3:zeT Tryz.prog 3=some [.d (.int .i64 0)]:=by kernel_rfl
theorem ty_ld4:ldT Tryz.prog 4=some (false,1):=by kernel_rfl
theorem ty_ze4:zeT Tryz.prog 4=some [.d (.bool false)]:=by kernel_rfl
theorem ty_ld5:ldT Tryz.prog 5=some (false,1):=by kernel_rfl
theorem ty_ze5:zeT Tryz.prog 5=some [.d (.int .u8 0)]:=by kernel_rfl
theorem ty_ld6:ldT Tryz.prog 6=some (false,1):=by kernel_rfl
theorem ty_ze6:zeT Tryz.prog 6=some [.d (.int .u8 0)]:=by kernel_rfl
theorem ty_ld7:ldT Tryz.prog 7=some (true,4):=by kernel_rfl
theorem Zsk:fdT Tryz.prog 7 0=some (0,false,1):=by kernel_rfl
theorem Zsj:fdT Tryz.prog 7 1=some (1,false,1):=by kernel_rfl
theorem Zsi:fdT Tryz.prog 7 2=some (2,false,1):=by kernel_rfl
theorem Zsh:fdT Tryz.prog 7 3=some (3,false,1):=by kernel_rfl
theorem ty_st7:stT Tryz.prog 7=some [(0,1),(1,1),(2,1),(3,1)]:=by kernel_rfl
theorem ty_ze7:zeT Tryz.prog 7=some [.d (.int .i64 0),.d (.int .i64 0),.d (.bool false),.d (.int .u8 0)]:=by kernel_rfl
theorem ty_ld8:ldT Tryz.prog 8=some (true,4):=by kernel_rfl
theorem Zsg:fdT Tryz.prog 8 0=some (0,false,1):=by kernel_rfl
theorem Zsf:fdT Tryz.prog 8 1=some (1,false,1):=by kernel_rfl
theorem Zse:fdT Tryz.prog 8 2=some (2,false,1):=by kernel_rfl
theorem Zsd:fdT Tryz.prog 8 3=some (3,false,1):=by kernel_rfl
theorem ty_st8:stT Tryz.prog 8=some [(0,1),(1,1),(2,1),(3,1)]:=by kernel_rfl
theorem ty_ze8:zeT Tryz.prog 8=some [.d (.int .i64 0),.d (.int .i64 0),.d (.bool false),.d (.int .u8 0)]:=by kernel_rfl
theorem ty_ld9:ldT Tryz.prog 9=some (false,1):=by kernel_rfl
theorem ty_len9:lenT Tryz.prog 9=some true:=by kernel_rfl
theorem ty_str9:isStr Tryz.prog 9=true:=by kernel_rfl
theorem ty_ze9:zeT Tryz.prog 9=some [.d (.str ByteArray.empty)]:=by kernel_rfl
theorem ty_ld10:ldT Tryz.prog 10=some (false,1):=by kernel_rfl
theorem Zrg:lenT Tryz.prog 10=some true:=by kernel_rfl
theorem Zqj:isStr Tryz.prog 10=true:=by kernel_rfl
theorem ty_ze10:zeT Tryz.prog 10=some [.d (.str ByteArray.empty)]:=by kernel_rfl
theorem ty_ld11:ldT Tryz.prog 11=some (false,1):=by kernel_rfl
theorem Zrf:lenT Tryz.prog 11=some true:=by kernel_rfl
theorem Zqi:isStr Tryz.prog 11=true:=by kernel_rfl
theorem ty_ze11:zeT Tryz.prog 11=some [.d (.str ByteArray.empty)]:=by kernel_rfl
theorem ty_ld12:ldT Tryz.prog 12=some (false,1):=by kernel_rfl
theorem ty_ze12:zeT Tryz.prog 12=some [.d (.int .u64 0)]:=by kernel_rfl
theorem ty_ld13:ldT Tryz.prog 13=some (true,2):=by kernel_rfl
theorem Zob:fdT Tryz.prog 13 0=some (0,false,1):=by kernel_rfl
theorem Zoa:fdT Tryz.prog 13 1=some (1,false,1):=by kernel_rfl
theorem ty_st13:stT Tryz.prog 13=some [(0,1),(1,1)]:=by kernel_rfl
theorem ty_ze13:zeT Tryz.prog 13=some [.d (.str ByteArray.empty),.d (.int .u64 0)]:=by kernel_rfl
theorem ty_ld14:ldT Tryz.prog 14=some (true,2):=by kernel_rfl
theorem Zo9:fdT Tryz.prog 14 0=some (0,false,1):=by kernel_rfl
theorem Zo8:fdT Tryz.prog 14 1=some (1,false,1):=by kernel_rfl
theorem ty_st14:stT Tryz.prog 14=some [(0,1),(1,1)]:=by kernel_rfl
theorem ty_ze14:zeT Tryz.prog 14=some [.d (.str ByteArray.empty),.d (.int .u64 0)]:=by kernel_rfl
theorem ty_ld15:ldT Tryz.prog 15=some (false,1):=by kernel_rfl
theorem ty_ze15:zeT Tryz.prog 15=some [.d (.raw (.pointer none))]:=by kernel_rfl
theorem ty_ld16:ldT Tryz.prog 16=some (false,1):=by kernel_rfl
theorem ty_ze16:zeT Tryz.prog 16=some [.d (.raw (.pointer none))]:=by kernel_rfl
theorem ty_ld17:ldT Tryz.prog 17=some (false,1):=by kernel_rfl
theorem ty_ze17:zeT Tryz.prog 17=some [.d (.raw (.pointer none))]:=by kernel_rfl
theorem ty_ld18:ldT Tryz.prog 18=some (true,1):=by kernel_rfl
theorem Zo7:fdT Tryz.prog 18 0=some (0,false,1):=by kernel_rfl
theorem ty_st18:stT Tryz.prog 18=some [(0,1)]:=by kernel_rfl
theorem ty_ze18:zeT Tryz.prog 18=some [.d (.raw (.pointer none))]:=by kernel_rfl
theorem ty_ld19:ldT Tryz.prog 19=some (true,1):=by kernel_rfl
theorem Zo6:fdT Tryz.prog 19 0=some (0,false,1):=by kernel_rfl
theorem ty_st19:stT Tryz.prog 19=some [(0,1)]:=by kernel_rfl
theorem ty_ze19:zeT Tryz.prog 19=some [.d (.raw (.pointer none))]:=by kernel_rfl
theorem ty_ld21:ldT Tryz.prog 21=some (false,1):=by kernel_rfl
theorem ty_ze21:zeT Tryz.prog 21=some [.d (.int .i32 0)]:=by kernel_rfl
theorem ty_ld22:ldT Tryz.prog 22=some (false,1):=by kernel_rfl
theorem Zaa:elT Tryz.prog 22=some (75,3,64):=by kernel_rfl
theorem Zre:lenT Tryz.prog 22=some false:=by kernel_rfl
theorem ty_ze22:zeT Tryz.prog 22=some [.nil]:=by kernel_rfl
theorem ty_ld23:ldT Tryz.prog 23=some (false,1):=by kernel_rfl
theorem Z8m:elT Tryz.prog 23=some (131,3,56):=by kernel_rfl
theorem Zrd:lenT Tryz.prog 23=some false:=by kernel_rfl
theorem ty_ze23:zeT Tryz.prog 23=some [.nil]:=by kernel_rfl
theorem ty_ld24:ldT Tryz.prog 24=some (false,1):=by kernel_rfl
theorem Z6p:elT Tryz.prog 24=some (103,7,80):=by kernel_rfl
theorem Zrc:lenT Tryz.prog 24=some false:=by kernel_rfl
theorem ty_ze24:zeT Tryz.prog 24=some [.nil]:=by kernel_rfl
theorem ty_ld25:ldT Tryz.prog 25=some (true,3):=by kernel_rfl
theorem Zo5:fdT Tryz.prog 25 0=some (0,false,1):=by kernel_rfl
theorem Zo4:fdT Tryz.prog 25 1=some (1,false,1):=by kernel_rfl
theorem Zo3:fdT Tryz.prog 25 2=some (2,false,1):=by kernel_rfl
theorem ty_st25:stT Tryz.prog 25=some [(0,1),(1,1),(2,1)]:=by kernel_rfl
theorem ty_ze25:zeT Tryz.prog 25=some [.nil,.nil,.nil]:=by kernel_rfl
theorem ty_ld26:ldT Tryz.prog 26=some (true,3):=by kernel_rfl
theorem Zo2:fdT Tryz.prog 26 0=some (0,false,1):=by kernel_rfl
theorem Zo1:fdT Tryz.prog 26 1=some (1,false,1):=by kernel_rfl
theorem Zo0:fdT Tryz.prog 26 2=some (2,false,1):=by kernel_rfl
theorem ty_st26:stT Tryz.prog 26=some [(0,1),(1,1),(2,1)]:=by kernel_rfl
theorem ty_ze26:zeT Tryz.prog 26=some [.nil,.nil,.nil]:=by kernel_rfl
theorem ty_ld27:ldT Tryz.prog 27=some (false,1):=by kernel_rfl
theorem ty_el27:elT Tryz.prog 27=some (39,2,32):=by kernel_rfl
theorem Zrb:lenT Tryz.prog 27=some false:=by kernel_rfl
theorem ty_ze27:zeT Tryz.prog 27=some [.nil]:=by kernel_rfl
theorem ty_ld28:ldT Tryz.prog 28=some (true,4):=by kernel_rfl
theorem Znz:fdT Tryz.prog 28 0=some (0,true,3):=by kernel_rfl
theorem Zny:fdT Tryz.prog 28 1=some (3,false,1):=by kernel_rfl
theorem ty_st28:stT Tryz.prog 28=some [(0,3),(3,1)]:=by kernel_rfl
theorem ty_ze28:zeT Tryz.prog 28=some [.nil,.nil,.nil,.nil]:=by kernel_rfl
theorem ty_ld29:ldT Tryz.prog 29=some (true,4):=by kernel_rfl
theorem Znx:fdT Tryz.prog 29 0=some (0,true,3):=by kernel_rfl
theorem Znw:fdT Tryz.prog 29 1=some (3,false,1):=by kernel_rfl
theorem ty_st29:stT Tryz.prog 29=some [(0,3),(3,1)]:=by kernel_rfl
theorem ty_ze29:zeT Tryz.prog 29=some [.nil,.nil,.nil,.nil]:=by kernel_rfl
theorem ty_ld30:ldT Tryz.prog 30=some (false,1):=by kernel_rfl
theorem Z8l:elT Tryz.prog 30=some (3,1,8):=by kernel_rfl
theorem Zra:lenT Tryz.prog 30=some false:=by kernel_rfl
theorem ty_ze30:zeT Tryz.prog 30=some [.nil]:=by kernel_rfl
theorem ty_ld32:ldT Tryz.prog 32=some (false,1):=by kernel_rfl
theorem ty_ze32:zeT Tryz.prog 32=some [.d (.int .i64 0)]:=by kernel_rfl
theorem ty_ld36:ldT Tryz.prog 36=some (false,1):=by kernel_rfl
theorem ty_el36:elT Tryz.prog 36=some (158,24,352):=by kernel_rfl
theorem Zr9:lenT Tryz.prog 36=some false:=by kernel_rfl
theorem ty_ze36:zeT Tryz.prog 36=some [.nil]:=by kernel_rfl
theorem ty_ld37:ldT Tryz.prog 37=some (false,1):=by kernel_rfl
theorem ty_el37:elT Tryz.prog 37=some (158,24,352):=by kernel_rfl
theorem Zr8:lenT Tryz.prog 37=some false:=by kernel_rfl
theorem ty_ze37:zeT Tryz.prog 37=some [.nil]:=by kernel_rfl
theorem ty_ld38:ldT Tryz.prog 38=some (true,2):=by kernel_rfl
theorem Znv:fdT Tryz.prog 38 0=some (0,false,1):=by kernel_rfl
theorem Znu:fdT Tryz.prog 38 1=some (1,false,1):=by kernel_rfl
theorem ty_st38:stT Tryz.prog 38=some [(0,1),(1,1)]:=by kernel_rfl
theorem ty_ze38:zeT Tryz.prog 38=some [.d (.int .i64 0),.nil]:=by kernel_rfl
theorem ty_ld39:ldT Tryz.prog 39=some (true,2):=by kernel_rfl
theorem Znt:fdT Tryz.prog 39 0=some (0,false,1):=by kernel_rfl
theorem Zns:fdT Tryz.prog 39 1=some (1,false,1):=by kernel_rfl
theorem ty_st39:stT Tryz.prog 39=some [(0,1),(1,1)]:=by kernel_rfl
theorem ty_ze39:zeT Tryz.prog 39=some [.d (.int .i64 0),.nil]:=by kernel_rfl
theorem ty_ld41:ldT Tryz.prog 41=some (false,1):=by kernel_rfl
theorem ty_el41:elT Tryz.prog 41=some (43,6,96):=by kernel_rfl
theorem Zr7:lenT Tryz.prog 41=some false:=by kernel_rfl
theorem ty_ze41:zeT Tryz.prog 41=some [.nil]:=by kernel_rfl
theorem ty_ld42:ldT Tryz.prog 42=some (true,6):=by kernel_rfl
theorem Znr:fdT Tryz.prog 42 0=some (0,false,1):=by kernel_rfl
theorem Znq:fdT Tryz.prog 42 1=some (1,false,1):=by kernel_rfl
theorem Znp:fdT Tryz.prog 42 2=some (2,false,1):=by kernel_rfl
theorem Zno:fdT Tryz.prog 42 3=some (3,false,1):=by kernel_rfl
theorem Znn:fdT Tryz.prog 42 4=some (4,false,1):=by kernel_rfl
theorem Znm:fdT Tryz.prog 42 5=some (5,false,1):=by kernel_rfl
theorem ty_st42:stT Tryz.prog 42=some [(0,1),(1,1),(2,1),(3,1),(4,1),(5,1)]:=by kernel_rfl
theorem ty_ze42:zeT Tryz.prog 42=some [.d (.str ByteArray.empty),.d (.int .i64 0),.d (.str ByteArray.empty),.nil,.nil,.d (.bool false)]:=by kernel_rfl
theorem ty_ld43:ldT Tryz.prog 43=some (true,6):=by kernel_rfl
theorem Znl:fdT Tryz.prog 43 0=some (0,false,1):=by kernel_rfl
theorem Znk:fdT Tryz.prog 43 1=some (1,false,1):=by kernel_rfl
theorem Znj:fdT Tryz.prog 43 2=some (2,false,1):=by kernel_rfl
theorem Zni:fdT Tryz.prog 43 3=some (3,false,1):=by kernel_rfl
theorem Znh:fdT Tryz.prog 43 4=some (4,false,1):=by kernel_rfl
theorem Zng:fdT Tryz.prog 43 5=some (5,false,1):=by kernel_rfl
theorem ty_st43:stT Tryz.prog 43=some [(0,1),(1,1),(2,1),(3,1),(4,1),(5,1)]:=by kernel_rfl
theorem ty_ze43:zeT Tryz.prog 43=some [.d (.str ByteArray.empty),.d (.int .i64 0),.d (.str ByteArray.empty),.nil,.nil,.d (.bool false)]:=by kernel_rfl
theorem ty_ld44:ldT Tryz.prog 44=some (false,1):=by kernel_rfl
theorem ty_el44:elT Tryz.prog 44=some (106,2,40):=by kernel_rfl
theorem Zr6:lenT Tryz.prog 44=some false:=by kernel_rfl
theorem ty_ze44:zeT Tryz.prog 44=some [.nil]:=by kernel_rfl
theorem ty_ld45:ldT Tryz.prog 45=some (false,1):=by kernel_rfl
theorem Zoc:elT Tryz.prog 45=some (106,2,40):=by kernel_rfl
theorem Zr5:lenT Tryz.prog 45=some false:=by kernel_rfl
theorem ty_ze45:zeT Tryz.prog 45=some [.nil]:=by kernel_rfl
theorem ty_ld47:ldT Tryz.prog 47=some (false,1):=by kernel_rfl
theorem Ze1:elT Tryz.prog 47=some (45,1,24):=by kernel_rfl
theorem Zr4:lenT Tryz.prog 47=some false:=by kernel_rfl
theorem ty_ze47:zeT Tryz.prog 47=some [.nil]:=by kernel_rfl
theorem ty_ld48:ldT Tryz.prog 48=some (false,1):=by kernel_rfl
theorem ty_el48:elT Tryz.prog 48=some (47,1,24):=by kernel_rfl
theorem Zr3:lenT Tryz.prog 48=some false:=by kernel_rfl
theorem ty_ze48:zeT Tryz.prog 48=some [.nil]:=by kernel_rfl
theorem ty_ld49:ldT Tryz.prog 49=some (true,2):=by kernel_rfl
theorem Znf:fdT Tryz.prog 49 0=some (0,false,1):=by kernel_rfl
theorem Zne:fdT Tryz.prog 49 1=some (1,false,1):=by kernel_rfl
theorem ty_st49:stT Tryz.prog 49=some [(0,1),(1,1)]:=by kernel_rfl
theorem ty_ze49:zeT Tryz.prog 49=some [.nil,.nil]:=by kernel_rfl
theorem ty_ld50:ldT Tryz.prog 50=some (true,2):=by kernel_rfl
theorem Znd:fdT Tryz.prog 50 0=some (0,false,1):=by kernel_rfl
theorem Znc:fdT Tryz.prog 50 1=some (1,false,1):=by kernel_rfl
theorem ty_st50:stT Tryz.prog 50=some [(0,1),(1,1)]:=by kernel_rfl
theorem ty_ze50:zeT Tryz.prog 50=some [.nil,.nil]:=by kernel_rfl
theorem ty_ld52:ldT Tryz.prog 52=some (false,1):=by kernel_rfl
theorem Z3y:elT Tryz.prog 52=some (79,1,24):=by kernel_rfl
theorem Zr2:lenT Tryz.prog 52=some false:=by kernel_rfl
theorem ty_ze52:zeT Tryz.prog 52=some [.nil]:=by kernel_rfl
theorem ty_ld73:ldT Tryz.prog 73=some (false,1):=by kernel_rfl
theorem Ze0:elT Tryz.prog 73=some (156,3,32):=by kernel_rfl
theorem Zr1:lenT Tryz.prog 73=some false:=by kernel_rfl
theorem ty_ze73:zeT Tryz.prog 73=some [.nil]:=by kernel_rfl
theorem ty_ld74:ldT Tryz.prog 74=some (true,3):=by kernel_rfl
theorem Znb:fdT Tryz.prog 74 0=some (0,false,1):=by kernel_rfl
theorem Zna:fdT Tryz.prog 74 1=some (1,false,1):=by kernel_rfl
theorem Zn9:fdT Tryz.prog 74 2=some (2,false,1):=by kernel_rfl
theorem ty_st74:stT Tryz.prog 74=some [(0,1),(1,1),(2,1)]:=by kernel_rfl
theorem ty_ze74:zeT Tryz.prog 74=some [.d (.str ByteArray.empty),.nil,.nil]:=by kernel_rfl
theorem ty_ld75:ldT Tryz.prog 75=some (true,3):=by kernel_rfl
theorem Zn8:fdT Tryz.prog 75 0=some (0,false,1):=by kernel_rfl
theorem Zn7:fdT Tryz.prog 75 1=some (1,false,1):=by kernel_rfl
theorem Zn6:fdT Tryz.prog 75 2=some (2,false,1):=by kernel_rfl
theorem ty_st75:stT Tryz.prog 75=some [(0,1),(1,1),(2,1)]:=by kernel_rfl
theorem Zdz:zeT Tryz.prog 75=some [.d (.str ByteArray.empty),.nil,.nil]:=by kernel_rfl
theorem ty_ld78:ldT Tryz.prog 78=some (false,1):=by kernel_rfl
theorem ty_el78:elT Tryz.prog 78=some (100,3,32):=by kernel_rfl
theorem Zr0:lenT Tryz.prog 78=some false:=by kernel_rfl
theorem ty_ze78:zeT Tryz.prog 78=some [.nil]:=by kernel_rfl
theorem ty_ld79:ldT Tryz.prog 79=some (false,1):=by kernel_rfl
theorem Za9:elT Tryz.prog 79=some (100,3,32):=by kernel_rfl
theorem Zqz:lenT Tryz.prog 79=some false:=by kernel_rfl
theorem Zdy:zeT Tryz.prog 79=some [.nil]:=by kernel_rfl
theorem ty_ld84:ldT Tryz.prog 84=some (false,1):=by kernel_rfl
theorem ty_el84:elT Tryz.prog 84=some (89,4,72):=by kernel_rfl
theorem Zqy:lenT Tryz.prog 84=some false:=by kernel_rfl
theorem ty_ze84:zeT Tryz.prog 84=some [.nil]:=by kernel_rfl
theorem ty_ld88:ldT Tryz.prog 88=some (true,4):=by kernel_rfl
theorem Zn5:fdT Tryz.prog 88 0=some (0,false,1):=by kernel_rfl
theorem Zn4:fdT Tryz.prog 88 1=some (1,false,1):=by kernel_rfl
theorem Zn3:fdT Tryz.prog 88 2=some (2,false,1):=by kernel_rfl
theorem Zn2:fdT Tryz.prog 88 3=some (3,false,1):=by kernel_rfl
theorem ty_st88:stT Tryz.prog 88=some [(0,1),(1,1),(2,1),(3,1)]:=by kernel_rfl
theorem ty_ze88:zeT Tryz.prog 88=some [.d (.int .i64 0),.d (.str ByteArray.empty),.nil,.nil]:=by kernel_rfl
theorem ty_ld89:ldT Tryz.prog 89=some (true,4):=by kernel_rfl
theorem Zn1:fdT Tryz.prog 89 0=some (0,false,1):=by kernel_rfl
theorem Zn0:fdT Tryz.prog 89 1=some (1,false,1):=by kernel_rfl
theorem Zmz:fdT Tryz.prog 89 2=some (2,false,1):=by kernel_rfl
theorem Zmy:fdT Tryz.prog 89 3=some (3,false,1):=by kernel_rfl
theorem ty_st89:stT Tryz.prog 89=some [(0,1),(1,1),(2,1),(3,1)]:=by kernel_rfl
theorem ty_ze89:zeT Tryz.prog 89=some [.d (.int .i64 0),.d (.str ByteArray.empty),.nil,.nil]:=by kernel_rfl
theorem ty_ld97:ldT Tryz.prog 97=some (false,1):=by kernel_rfl
theorem ty_el97:elT Tryz.prog 97=some (4,1,1):=by kernel_rfl
theorem Zqx:lenT Tryz.prog 97=some false:=by kernel_rfl
theorem ty_ze97:zeT Tryz.prog 97=some [.nil]:=by kernel_rfl
theorem ty_ld99:ldT Tryz.prog 99=some (true,3):=by kernel_rfl
theorem Zmx:fdT Tryz.prog 99 0=some (0,false,1):=by kernel_rfl
theorem Zmw:fdT Tryz.prog 99 1=some (1,false,1):=by kernel_rfl
theorem Zmv:fdT Tryz.prog 99 2=some (2,false,1):=by kernel_rfl
theorem ty_st99:stT Tryz.prog 99=some [(0,1),(1,1),(2,1)]:=by kernel_rfl
theorem ty_ze99:zeT Tryz.prog 99=some [.d (.int .i64 0),.d (.int .i64 0),.d (.str ByteArray.empty)]:=by kernel_rfl
theorem Zsc:ldT Tryz.prog 100=some (true,3):=by kernel_rfl
theorem Zlp:fdT Tryz.prog 100 0=some (0,false,1):=by kernel_rfl
theorem Zlo:fdT Tryz.prog 100 1=some (1,false,1):=by kernel_rfl
theorem Zln:fdT Tryz.prog 100 2=some (2,false,1):=by kernel_rfl
theorem Zqw:stT Tryz.prog 100=some [(0,1),(1,1),(2,1)]:=by kernel_rfl
theorem Zqh:zeT Tryz.prog 100=some [.d (.int .i64 0),.d (.int .i64 0),.d (.str ByteArray.empty)]:=by kernel_rfl
theorem Zsb:ldT Tryz.prog 102=some (true,7):=by kernel_rfl
theorem Zlm:fdT Tryz.prog 102 0=some (0,false,1):=by kernel_rfl
theorem Zll:fdT Tryz.prog 102 1=some (1,false,1):=by kernel_rfl
theorem Zlk:fdT Tryz.prog 102 2=some (2,false,1):=by kernel_rfl
theorem Zlj:fdT Tryz.prog 102 3=some (3,false,1):=by kernel_rfl
theorem Zli:fdT Tryz.prog 102 4=some (4,true,3):=by kernel_rfl
theorem Zqv:stT Tryz.prog 102=some [(0,1),(1,1),(2,1),(3,1),(4,3)]:=by kernel_rfl
theorem Zqg:zeT Tryz.prog 102=some [.d (.str ByteArray.empty),.d (.int .i64 0),.d (.str ByteArray.empty),.d (.int .i64 0),.d (.int .i64 0),.d (.int .i64 0),.d (.str ByteArray.empty)]:=by kernel_rfl
theorem Zsa:ldT Tryz.prog 103=some (true,7):=by kernel_rfl
theorem Zlh:fdT Tryz.prog 103 0=some (0,false,1):=by kernel_rfl
theorem Zlg:fdT Tryz.prog 103 1=some (1,false,1):=by kernel_rfl
theorem Zlf:fdT Tryz.prog 103 2=some (2,false,1):=by kernel_rfl
theorem Zle:fdT Tryz.prog 103 3=some (3,false,1):=by kernel_rfl
theorem Zld:fdT Tryz.prog 103 4=some (4,true,3):=by kernel_rfl
theorem Zqu:stT Tryz.prog 103=some [(0,1),(1,1),(2,1),(3,1),(4,3)]:=by kernel_rfl
theorem Zc2:zeT Tryz.prog 103=some [.d (.str ByteArray.empty),.d (.int .i64 0),.d (.str ByteArray.empty),.d (.int .i64 0),.d (.int .i64 0),.d (.int .i64 0),.d (.str ByteArray.empty)]:=by kernel_rfl
theorem Zs9:ldT Tryz.prog 105=some (true,2):=by kernel_rfl
theorem Zlc:fdT Tryz.prog 105 0=some (0,false,1):=by kernel_rfl
theorem Zlb:fdT Tryz.prog 105 1=some (1,false,1):=by kernel_rfl
theorem Zqt:stT Tryz.prog 105=some [(0,1),(1,1)]:=by kernel_rfl
theorem Zqf:zeT Tryz.prog 105=some [.d (.str ByteArray.empty),.nil]:=by kernel_rfl
theorem Zs8:ldT Tryz.prog 106=some (true,2):=by kernel_rfl
theorem Zla:fdT Tryz.prog 106 0=some (0,false,1):=by kernel_rfl
theorem Zl9:fdT Tryz.prog 106 1=some (1,false,1):=by kernel_rfl
theorem Zqs:stT Tryz.prog 106=some [(0,1),(1,1)]:=by kernel_rfl
theorem Zqe:zeT Tryz.prog 106=some [.d (.str ByteArray.empty),.nil]:=by kernel_rfl
theorem Zs7:ldT Tryz.prog 117=some (false,1):=by kernel_rfl
theorem Zc3:elT Tryz.prog 117=some (26,3,72):=by kernel_rfl
theorem Zmu:lenT Tryz.prog 117=some false:=by kernel_rfl
theorem Zqd:zeT Tryz.prog 117=some [.nil]:=by kernel_rfl
theorem Zs6:ldT Tryz.prog 130=some (true,3):=by kernel_rfl
theorem Zl8:fdT Tryz.prog 130 0=some (0,false,1):=by kernel_rfl
theorem Zl7:fdT Tryz.prog 130 1=some (1,false,1):=by kernel_rfl
theorem Zl6:fdT Tryz.prog 130 2=some (2,false,1):=by kernel_rfl
theorem Zqr:stT Tryz.prog 130=some [(0,1),(1,1),(2,1)]:=by kernel_rfl
theorem Zqc:zeT Tryz.prog 130=some [.d (.str ByteArray.empty),.nil,.d (.str ByteArray.empty)]:=by kernel_rfl
theorem Zs5:ldT Tryz.prog 131=some (true,3):=by kernel_rfl
theorem Zl5:fdT Tryz.prog 131 0=some (0,false,1):=by kernel_rfl
theorem Zl4:fdT Tryz.prog 131 1=some (1,false,1):=by kernel_rfl
theorem Zl3:fdT Tryz.prog 131 2=some (2,false,1):=by kernel_rfl
theorem Zqq:stT Tryz.prog 131=some [(0,1),(1,1),(2,1)]:=by kernel_rfl
theorem Zc1:zeT Tryz.prog 131=some [.d (.str ByteArray.empty),.nil,.d (.str ByteArray.empty)]:=by kernel_rfl
theorem Zs4:ldT Tryz.prog 140=some (false,1):=by kernel_rfl
theorem Zqb:zeT Tryz.prog 140=some [.d (.int .u64 0)]:=by kernel_rfl
theorem Zs3:ldT Tryz.prog 155=some (true,3):=by kernel_rfl
theorem Zl2:fdT Tryz.prog 155 0=some (0,false,1):=by kernel_rfl
theorem Zl1:fdT Tryz.prog 155 1=some (1,false,1):=by kernel_rfl
theorem Zl0:fdT Tryz.prog 155 2=some (2,false,1):=by kernel_rfl
theorem Zqp:stT Tryz.prog 155=some [(0,1),(1,1),(2,1)]:=by kernel_rfl
theorem Zqa:zeT Tryz.prog 155=some [.d (.str ByteArray.empty),.d (.int .i64 0),.d (.bool false)]:=by kernel_rfl
theorem Zs2:ldT Tryz.prog 156=some (true,3):=by kernel_rfl
theorem Zkz:fdT Tryz.prog 156 0=some (0,false,1):=by kernel_rfl
theorem Zky:fdT Tryz.prog 156 1=some (1,false,1):=by kernel_rfl
theorem Zkx:fdT Tryz.prog 156 2=some (2,false,1):=by kernel_rfl
theorem Zqo:stT Tryz.prog 156=some [(0,1),(1,1),(2,1)]:=by kernel_rfl
theorem Zq9:zeT Tryz.prog 156=some [.d (.str ByteArray.empty),.d (.int .i64 0),.d (.bool false)]:=by kernel_rfl
theorem Zs1:ldT Tryz.prog 157=some (true,24):=by kernel_rfl
theorem Zkw:fdT Tryz.prog 157 0=some (0,false,1):=by kernel_rfl
theorem Zkv:fdT Tryz.prog 157 1=some (1,false,1):=by kernel_rfl
theorem Zku:fdT Tryz.prog 157 2=some (2,false,1):=by kernel_rfl
theorem Zkt:fdT Tryz.prog 157 3=some (3,false,1):=by kernel_rfl
theorem Zks:fdT Tryz.prog 157 4=some (4,false,1):=by kernel_rfl
theorem Zkr:fdT Tryz.prog 157 5=some (5,false,1):=by kernel_rfl
theorem Zkq:fdT Tryz.prog 157 6=some (6,false,1):=by kernel_rfl
theorem Zkp:fdT Tryz.prog 157 7=some (7,false,1):=by kernel_rfl
theorem Zko:fdT Tryz.prog 157 8=some (8,true,3):=by kernel_rfl
theorem Zkn:fdT Tryz.prog 157 9=some (11,true,3):=by kernel_rfl
theorem Zi5:fdT Tryz.prog 157 10=some (14,true,7):=by kernel_rfl
theorem Zi4:fdT Tryz.prog 157 11=some (21,true,3):=by kernel_rfl
theorem Zqn:stT Tryz.prog 157=some [(0,1),(1,1),(2,1),(3,1),(4,1),(5,1),(6,1),(7,1),(8,3),(11,3),(14,7),(21,3)]:=by kernel_rfl
theorem Zq8:zeT Tryz.prog 157=some [.d (.int .i64 0),.d (.str ByteArray.empty),.d (.str ByteArray.empty),.d (.str ByteArray.empty),.d (.str ByteArray.empty),.d (.int .i64 0),.nil,.d (.str ByteArray.empty),.d (.int .i64 0),.d (.int .i64 0),.d (.str ByteArray.empty),.d (.str ByteArray.empty),.nil,.nil,.d (.str ByteArray.empty),.d (.int .i64 0),.d (.str ByteArray.empty),.d (.int .i64 0),.d (.int .i64 0),.d (.int .i64 0),.d (.str ByteArray.empty),.d (.str ByteArray.empty),.nil,.d (.str ByteArray.empty)]:=by kernel_rfl
theorem Zs0:ldT Tryz.prog 158=some (true,24):=by kernel_rfl
theorem Zkm:fdT Tryz.prog 158 0=some (0,false,1):=by kernel_rfl
theorem Zkl:fdT Tryz.prog 158 1=some (1,false,1):=by kernel_rfl
theorem Zkk:fdT Tryz.prog 158 2=some (2,false,1):=by kernel_rfl
theorem Zkj:fdT Tryz.prog 158 3=some (3,false,1):=by kernel_rfl
theorem Zki:fdT Tryz.prog 158 4=some (4,false,1):=by kernel_rfl
theorem Zkh:fdT Tryz.prog 158 5=some (5,false,1):=by kernel_rfl
theorem Zkg:fdT Tryz.prog 158 6=some (6,false,1):=by kernel_rfl
theorem Zkf:fdT Tryz.prog 158 7=some (7,false,1):=by kernel_rfl
theorem Zke:fdT Tryz.prog 158 8=some (8,true,3):=by kernel_rfl
theorem Zkd:fdT Tryz.prog 158 9=some (11,true,3):=by kernel_rfl
theorem Zi3:fdT Tryz.prog 158 10=some (14,true,7):=by kernel_rfl
theorem Zi2:fdT Tryz.prog 158 11=some (21,true,3):=by kernel_rfl
theorem Zqm:stT Tryz.prog 158=some [(0,1),(1,1),(2,1),(3,1),(4,1),(5,1),(6,1),(7,1),(8,3),(11,3),(14,7),(21,3)]:=by kernel_rfl
theorem Zq7:zeT Tryz.prog 158=some [.d (.int .i64 0),.d (.str ByteArray.empty),.d (.str ByteArray.empty),.d (.str ByteArray.empty),.d (.str ByteArray.empty),.d (.int .i64 0),.nil,.d (.str ByteArray.empty),.d (.int .i64 0),.d (.int .i64 0),.d (.str ByteArray.empty),.d (.str ByteArray.empty),.nil,.nil,.d (.str ByteArray.empty),.d (.int .i64 0),.d (.str ByteArray.empty),.d (.int .i64 0),.d (.int .i64 0),.d (.int .i64 0),.d (.str ByteArray.empty),.d (.str ByteArray.empty),.nil,.d (.str ByteArray.empty)]:=by kernel_rfl
theorem Zrz:ldT Tryz.prog 185=some (false,1):=by kernel_rfl
theorem Zsm:elT Tryz.prog 185=some (30,1,24):=by kernel_rfl
theorem Zmt:lenT Tryz.prog 185=some false:=by kernel_rfl
theorem Zq6:zeT Tryz.prog 185=some [.nil]:=by kernel_rfl
theorem Zry:ldT Tryz.prog 193=some (false,1):=by kernel_rfl
theorem Zsl:elT Tryz.prog 193=some (5,1,1):=by kernel_rfl
theorem Zms:lenT Tryz.prog 193=some false:=by kernel_rfl
theorem Zq5:zeT Tryz.prog 193=some [.nil]:=by kernel_rfl
theorem Zrx:ldT Tryz.prog 199=some (false,1):=by kernel_rfl
theorem Zq4:zeT Tryz.prog 199=some [.d (.int .i64 0)]:=by kernel_rfl
theorem Zrw:ldT Tryz.prog 207=some (false,1):=by kernel_rfl
theorem Zq3:zeT Tryz.prog 207=some [.d (.int .u32 0)]:=by kernel_rfl
theorem Zrv:ldT Tryz.prog 209=some (false,1):=by kernel_rfl
theorem Zq2:zeT Tryz.prog 209=some [.d (.int .u64 0)]:=by kernel_rfl
theorem Zru:ldT Tryz.prog 212=some (false,1):=by kernel_rfl
theorem Zq1:zeT Tryz.prog 212=some [.d (.int .u64 0)]:=by kernel_rfl
theorem Zrt:ldT Tryz.prog 216=some (false,1):=by kernel_rfl
theorem Zq0:zeT Tryz.prog 216=some [.d (.raw (.pointer none))]:=by kernel_rfl
theorem Zrs:ldT Tryz.prog 220=some (false,1):=by kernel_rfl
theorem Zpz:zeT Tryz.prog 220=some [.d (.raw (.pointer none))]:=by kernel_rfl
theorem Zrr:ldT Tryz.prog 223=some (false,1):=by kernel_rfl
theorem Zpy:zeT Tryz.prog 223=some [.d (.raw (.pointer none))]:=by kernel_rfl
theorem Zrq:ldT Tryz.prog 246=some (false,1):=by kernel_rfl
theorem Zpx:zeT Tryz.prog 246=some [.d (.raw (.pointer none))]:=by kernel_rfl
theorem Zrp:ldT Tryz.prog 258=some (true,4):=by kernel_rfl
theorem Zkc:fdT Tryz.prog 258 0=some (0,false,1):=by kernel_rfl
theorem Zkb:fdT Tryz.prog 258 1=some (1,false,1):=by kernel_rfl
theorem Zka:fdT Tryz.prog 258 2=some (2,false,1):=by kernel_rfl
theorem Zk9:fdT Tryz.prog 258 3=some (3,false,1):=by kernel_rfl
theorem Zql:stT Tryz.prog 258=some [(0,1),(1,1),(2,1),(3,1)]:=by kernel_rfl
theorem Zpw:zeT Tryz.prog 258=some [.d (.raw (.pointer none)),.d (.raw (.pointer none)),.d (.raw (.pointer none)),.d (.str ByteArray.empty)]:=by kernel_rfl
theorem Zro:ldT Tryz.prog 259=some (true,4):=by kernel_rfl
theorem Zk8:fdT Tryz.prog 259 0=some (0,false,1):=by kernel_rfl
theorem Zk7:fdT Tryz.prog 259 1=some (1,false,1):=by kernel_rfl
theorem Zk6:fdT Tryz.prog 259 2=some (2,false,1):=by kernel_rfl
theorem Zk5:fdT Tryz.prog 259 3=some (3,false,1):=by kernel_rfl
theorem Zqk:stT Tryz.prog 259=some [(0,1),(1,1),(2,1),(3,1)]:=by kernel_rfl
theorem Zpv:zeT Tryz.prog 259=some [.d (.raw (.pointer none)),.d (.raw (.pointer none)),.d (.raw (.pointer none)),.d (.str ByteArray.empty)]:=by kernel_rfl
theorem Zrn:ldT Tryz.prog 264=some (false,1):=by kernel_rfl
theorem Zpu:zeT Tryz.prog 264=some [.d (.int .u8 0)]:=by kernel_rfl
theorem Zrm:ldT Tryz.prog 265=some (false,1):=by kernel_rfl
theorem Zpt:zeT Tryz.prog 265=some [.d (.int .u8 0)]:=by kernel_rfl
theorem Zrl:ldT Tryz.prog 267=some (false,1):=by kernel_rfl
theorem Zps:zeT Tryz.prog 267=some [.d (.raw (.pointer none))]:=by kernel_rfl
theorem Zrk:ldT Tryz.prog 268=some (false,1):=by kernel_rfl
theorem Zpr:zeT Tryz.prog 268=some [.d (.int .i32 0)]:=by kernel_rfl
theorem Zrj:ldT Tryz.prog 269=some (false,1):=by kernel_rfl
theorem Zpq:zeT Tryz.prog 269=some [.d (.int .i32 0)]:=by kernel_rfl
theorem Zri:ldT Tryz.prog 270=some (true,11):=by kernel_rfl
theorem Zk4:fdT Tryz.prog 270 0=some (0,false,1):=by kernel_rfl
theorem Zk3:fdT Tryz.prog 270 1=some (1,false,1):=by kernel_rfl
theorem Zk2:fdT Tryz.prog 270 2=some (2,false,1):=by kernel_rfl
theorem Zk1:fdT Tryz.prog 270 3=some (3,false,1):=by kernel_rfl
theorem Zk0:fdT Tryz.prog 270 4=some (4,false,1):=by kernel_rfl
theorem Zjz:fdT Tryz.prog 270 5=some (5,false,1):=by kernel_rfl
theorem Zjy:fdT Tryz.prog 270 6=some (6,false,1):=by kernel_rfl
theorem Zjx:fdT Tryz.prog 270 8=some (8,false,1):=by kernel_rfl
theorem Zjw:fdT Tryz.prog 270 9=some (9,false,1):=by kernel_rfl
theorem Zi1:fdT Tryz.prog 270 10=some (10,false,1):=by kernel_rfl
theorem Zpp:zeT Tryz.prog 270=some [.d (.int .u64 0),.d (.int .u64 0),.d (.int .u32 0),.d (.int .u8 0),.d (.int .u8 0),.d (.int .u8 0),.d (.int .u8 0),.d (.raw .nilFunc),.d (.raw (.pointer none)),.d (.int .i32 0),.d (.int .i32 0)]:=by kernel_rfl
theorem Zrh:ldT Tryz.prog 271=some (true,11):=by kernel_rfl
theorem Zjv:fdT Tryz.prog 271 0=some (0,false,1):=by kernel_rfl
theorem Zju:fdT Tryz.prog 271 1=some (1,false,1):=by kernel_rfl
theorem Zjt:fdT Tryz.prog 271 2=some (2,false,1):=by kernel_rfl
theorem Zjs:fdT Tryz.prog 271 3=some (3,false,1):=by kernel_rfl
theorem Zjr:fdT Tryz.prog 271 4=some (4,false,1):=by kernel_rfl
theorem Zjq:fdT Tryz.prog 271 5=some (5,false,1):=by kernel_rfl
theorem Zjp:fdT Tryz.prog 271 6=some (6,false,1):=by kernel_rfl
theorem Zjo:fdT Tryz.prog 271 8=some (8,false,1):=by kernel_rfl
theorem Zjn:fdT Tryz.prog 271 9=some (9,false,1):=by kernel_rfl
theorem Zi0:fdT Tryz.prog 271 10=some (10,false,1):=by kernel_rfl
theorem Zpo:zeT Tryz.prog 271=some [.d (.int .u64 0),.d (.int .u64 0),.d (.int .u32 0),.d (.int .u8 0),.d (.int .u8 0),.d (.int .u8 0),.d (.int .u8 0),.d (.raw .nilFunc),.d (.raw (.pointer none)),.d (.int .i32 0),.d (.int .i32 0)]:=by kernel_rfl
attribute [simp] ty_ld2 ty_ze2 ty_ld3 ty_ze3 ty_ld4 ty_ze4 ty_ld5 ty_ze5 ty_ld6 ty_ze6 ty_ld7 Zsk Zsj Zsi Zsh ty_st7 ty_ze7 ty_ld8 Zsg Zsf Zse Zsd ty_st8 ty_ze8 ty_ld9 ty_len9 ty_str9 ty_ze9 ty_ld10 Zrg Zqj ty_ze10 ty_ld11 Zrf Zqi ty_ze11 ty_ld12 ty_ze12 ty_ld13 Zob Zoa ty_st13 ty_ze13 ty_ld14 Zo9 Zo8 ty_st14 ty_ze14 ty_ld15 ty_ze15 ty_ld16 ty_ze16 ty_ld17 ty_ze17 ty_ld18 Zo7 ty_st18 ty_ze18 ty_ld19 Zo6 ty_st19 ty_ze19 ty_ld21 ty_ze21 ty_ld22 Zaa Zre ty_ze22 ty_ld23 Z8m Zrd ty_ze23 ty_ld24 Z6p Zrc ty_ze24 ty_ld25 Zo5 Zo4 Zo3 ty_st25 ty_ze25 ty_ld26 Zo2 Zo1 Zo0 ty_st26 ty_ze26 ty_ld27 ty_el27 Zrb ty_ze27 ty_ld28 Znz Zny ty_st28 ty_ze28 ty_ld29 Znx Znw ty_st29 ty_ze29 ty_ld30 Z8l Zra ty_ze30 ty_ld32 ty_ze32 ty_ld36 ty_el36 Zr9 ty_ze36 ty_ld37 ty_el37 Zr8 ty_ze37 ty_ld38 Znv Znu ty_st38 ty_ze38 ty_ld39 Znt Zns ty_st39 ty_ze39 ty_ld41 ty_el41 Zr7 ty_ze41 ty_ld42 Znr Znq Znp Zno Znn Znm ty_st42 ty_ze42 ty_ld43 Znl Znk Znj Zni Znh Zng ty_st43 ty_ze43 ty_ld44 ty_el44 Zr6 ty_ze44 ty_ld45 Zoc Zr5 ty_ze45 ty_ld47 Ze1 Zr4 ty_ze47 ty_ld48 ty_el48 Zr3 ty_ze48 ty_ld49 Znf Zne ty_st49 ty_ze49 ty_ld50 Znd Znc ty_st50 ty_ze50 ty_ld52 Z3y Zr2 ty_ze52 ty_ld73 Ze0 Zr1 ty_ze73 ty_ld74 Znb Zna Zn9 ty_st74 ty_ze74 ty_ld75 Zn8 Zn7 Zn6 ty_st75 Zdz ty_ld78 ty_el78 Zr0 ty_ze78 ty_ld79 Za9 Zqz Zdy ty_ld84 ty_el84 Zqy ty_ze84 ty_ld88 Zn5 Zn4 Zn3 Zn2 ty_st88 ty_ze88 ty_ld89 Zn1 Zn0 Zmz Zmy ty_st89 ty_ze89 ty_ld97 ty_el97 Zqx ty_ze97 ty_ld99 Zmx Zmw Zmv ty_st99 ty_ze99 Zsc Zlp Zlo Zln Zqw Zqh Zsb Zlm Zll Zlk Zlj Zli Zqv Zqg Zsa Zlh Zlg Zlf Zle Zld Zqu Zc2 Zs9 Zlc Zlb Zqt Zqf Zs8 Zla Zl9 Zqs Zqe Zs7 Zc3 Zmu Zqd Zs6 Zl8 Zl7 Zl6 Zqr Zqc Zs5 Zl5 Zl4 Zl3 Zqq Zc1 Zs4 Zqb Zs3 Zl2 Zl1 Zl0 Zqp Zqa Zs2 Zkz Zky Zkx Zqo Zq9 Zs1 Zkw Zkv Zku Zkt Zks Zkr Zkq Zkp Zko Zkn Zi5 Zi4 Zqn Zq8 Zs0 Zkm Zkl Zkk Zkj Zki Zkh Zkg Zkf Zke Zkd Zi3 Zi2 Zqm Zq7 Zrz Zsm Zmt Zq6 Zry Zsl Zms Zq5 Zrx Zq4 Zrw Zq3 Zrv Zq2 Zru Zq1 Zrt Zq0 Zrs Zpz Zrr Zpy Zrq Zpx Zrp Zkc Zkb Zka Zk9 Zql Zpw Zro Zk8 Zk7 Zk6 Zk5 Zqk Zpv Zrn Zpu Zrm Zpt Zrl Zps Zrk Zpr Zrj Zpq Zri Zk4 Zk3 Zk2 Zk1 Zk0 Zjz Zjy Zjx Zjw Zi1 Zpp Zrh Zjv Zju Zjt Zjs Zjr Zjq Zjp Zjo Zjn Zi0 Zpo
theorem follows:Tryz.prog.follows .mixedOrders=true:=by kernel_rfl
structure GV where
 kind:Int
 int:Int
 text:ByteArray
def GV.enc (v:GV):List D:=[.int .i64 v.kind,.int .i64 v.int,.str v.text]
def GV.zero:GV:=⟨0,0,ByteArray.empty⟩
def encI (n:Int):List D:=[.int .i64 n]
structure Col where
 name:ByteArray
 kind:Int
 nullable:Bool
def Col.enc (c:Col):List D:=[.str c.name,.int .i64 c.kind,.bool c.nullable]
structure Tbl where
 name:ByteArray
 cols:List Col
 pk:List Int
def Tbl.enc (t:Tbl):List D:=[.str t.name,.sl (t.cols.map Col.enc),.sl (t.pk.map encI)]
structure Fk where
 table:ByteArray
 cols:List Int
 ref:ByteArray
def Fk.enc (k:Fk):List D:=[.str k.table,.sl (k.cols.map encI),.str k.ref]
structure Cons where
 table:ByteArray
 left:Int
 op:ByteArray
 right:Int
 value:GV
def Cons.enc (c:Cons):List D:=[.str c.table,.int .i64 c.left,.str c.op,.int .i64 c.right,.int .i64 c.value.kind,.int .i64 c.value.int,.str c.value.text]
structure Sch where
 tables:List Tbl
 fks:List Fk
 cons:List Cons
def Sch.enc (s:Sch):List D:=[.sl (s.tables.map Tbl.enc),.sl (s.fks.map Fk.enc),.sl (s.cons.map Cons.enc)]
@[simp] theorem GV.enc_length {v:GV}:v.enc.length=3:=rfl
@[simp] theorem encI_length {v:Int}:(encI v).length=1:=rfl
@[simp] theorem Col.enc_length {v:Col}:v.enc.length=3:=rfl
@[simp] theorem Tbl.enc_length {v:Tbl}:v.enc.length=3:=rfl
@[simp] theorem Fk.enc_length {v:Fk}:v.enc.length=3:=rfl
@[simp] theorem Cons.enc_length {v:Cons}:v.enc.length=7:=rfl
@[simp] theorem Sch.enc_length {v:Sch}:v.enc.length=3:=rfl
def encB (b:Bool):List D:=[.bool b]
def encS (b:ByteArray):List D:=[.str b]
def encL {α:Type} (f:α→List D) (xs:List α):List D:=[.sl (xs.map f)]
structure Rel where
 table:ByteArray
 rows:List (List GV)
def Rel.enc (x:Rel):List D:=[.str x.table,.sl (x.rows.map (encL GV.enc))]
structure Chg where
 kind:Int
 table:ByteArray
 key:List GV
 row:List GV
def Chg.enc (x:Chg):List D:=[.int .i64 x.kind,.str x.table,.sl (x.key.map GV.enc),.sl (x.row.map GV.enc)]
structure Stp where
 kind:Int
 table:ByteArray
 other:ByteArray
 column:ByteArray
 newName:ByteArray
 type:Int
 cols:List Int
 op:ByteArray
 value:GV
 newTable:Tbl
 cons:Cons
 fk:Fk
def Stp.enc (x:Stp):List D:=[.int .i64 x.kind,.str x.table,.str x.other,.str x.column,.str x.newName,.int .i64 x.type,.sl (x.cols.map encI),.str x.op,
 .int .i64 x.value.kind,.int .i64 x.value.int,.str x.value.text,.str x.newTable.name,.sl (x.newTable.cols.map Col.enc),.sl (x.newTable.pk.map encI),
 .str x.cons.table,.int .i64 x.cons.left,.str x.cons.op,.int .i64 x.cons.right,.int .i64 x.cons.value.kind,.int .i64 x.cons.value.int,.str x.cons.value.text,
 .str x.fk.table,.sl (x.fk.cols.map encI),.str x.fk.ref]
structure Edg where
 parent:Int
 script:List Stp
def Edg.enc (x:Edg):List D:=[.int .i64 x.parent,.sl (x.script.map Stp.enc)]
structure Gr where
 base:Sch
 edges:List Edg
def Gr.enc (x:Gr):List D:=[.sl (x.base.tables.map Tbl.enc),.sl (x.base.fks.map Fk.enc),.sl (x.base.cons.map Cons.enc),.sl (x.edges.map Edg.enc)]
structure Db where
 insts:List (List Rel)
 comps:List (List (List Rel))
def Db.enc (x:Db):List D:=[.sl (x.insts.map (encL Rel.enc)),.sl (x.comps.map (encL (encL Rel.enc)))]
structure Rule where
 user:ByteArray
 version:Int
 table:ByteArray
 cols:List Int
 preds:List Cons
 write:Bool
def Rule.enc (x:Rule):List D:=[.str x.user,.int .i64 x.version,.str x.table,.sl (x.cols.map encI),.sl (x.preds.map Cons.enc),.bool x.write]
attribute [simp] encI encB encS encL GV.enc Col.enc Tbl.enc Fk.enc Cons.enc Sch.enc Rel.enc Chg.enc Stp.enc Edg.enc Gr.enc Db.enc Rule.enc
@[simp] theorem ba_empty:({ data:=#[] }:ByteArray)=ByteArray.empty:=rfl
attribute [simp] Zmr
@[simp] theorem lim_eq {n:Nat}:(n≤LIM)=(n≤2097152):=rfl
@[simp] theorem eq_value:EqT Tryz.prog 100 [.int .i64,.int .i64,.str]:=eqT_of (fs:=Tryz.prog.fieldsOf 100) (by kernel_rfl) (by kernel_rfl) (by kernel_rfl)
@[simp] theorem eq_column:EqT Tryz.prog 156 [.str,.int .i64,.bool]:=eqT_of (fs:=Tryz.prog.fieldsOf 156) (by kernel_rfl) (by kernel_rfl) (by kernel_rfl)
@[simp] theorem eq_cons:EqT Tryz.prog 103 [.str,.int .i64,.str,.int .i64,.int .i64,.int .i64,.str]:=eqT_of (fs:=Tryz.prog.fieldsOf 103) (by kernel_rfl) (by kernel_rfl) (by kernel_rfl)
theorem bound1 {P:Program} {f:FuncId} {xs:List (List D)} {rest:List AV} {r:RV} (hf:FnOK P f) (h:xs.length≤LIM→PSpec P f (.one (.d (.sl xs))::rest) r):PSpec P f (.one (.d (.sl xs))::rest) r:=by
 refine⟨hf,fun w m t vals hm ht hargs=>?_⟩
 obtain⟨u,_,hr⟩:=hargs.2 0 _ rfl
 have hr':RepD m (.sl xs) u:=hr
 obtain⟨_,_,_,_,hl⟩:=hr'.slice
 exact (h hl).2 w m t vals hm ht hargs
theorem Zbs (a b:ByteArray) (w:World) :
  Calls Tryz.prog 145 #[.string a,.string b] w fun e w'=>e=.returned (.int .i64 (Lib.compareBytes a.data.toList b.data.toList))∧w'=w:=by
 go_enter Tryz.func145,Tryz.ntmps145
 go_wp2
 rw[run_callFunc_extern Tryz.func156 (by kernel_rfl) (by kernel_rfl) (by kernel_rfl) (e:=Extern.BytealgCompare.compare) (by kernel_rfl),Lib.run_compareString]
 simp only[Result.andThen]
 rw[Oper.upon_value]
 go_wp2
 go_ret
 exact⟨rfl,rfl⟩
def cmpS (a b:ByteArray):Int:=Lib.compareBytes a.data.toList b.data.toList
theorem Zgl (a b:ByteArray):PSpec Tryz.prog 145 [.one (.d (.str a)),.one (.d (.str b))] (.one (.d (.int .i64 (cmpS a b)))):=by
 refine⟨⟨_,Tryz.func145,by kernel_rfl,by kernel_rfl⟩,fun w m t vals hm ht hargs=>?_⟩
 obtain⟨hs,hg⟩:=hargs
 obtain⟨u0,h0,r0⟩:=hg 0 _ rfl
 obtain⟨u1,h1,r1⟩:=hg 1 _ rfl
 have e0:u0=.string a:=RepD.str_inv (m:=m) r0
 have e1:u1=.string b:=RepD.str_inv (m:=m) r1
 subst e0 e1
 have hv:vals=#[.string a,.string b]:=by
  apply Array.ext_getElem?
  intro i
  match i with
  | 0=>simpa using h0
  | 1=>simpa using h1
  | i+2=>rw[Array.getElem?_eq_none (by simp at hs;omega)];simp
 subst hv
 refine (Zbs a b w).mono ?_
 rintro e w' ⟨rfl,rfl⟩
 exact⟨_,m,fun _=>(none,0),rfl,Sub.refl _,fun _ _ _ _ h=>h,hm,Go.RowKit.Below.refl _ _,RepD.int _ _,⟨fun x hx=>by simp[RV.fr,RV1.fr,RC.fr] at hx,fun x hx=>by simp[RV.fr,RV1.fr,RC.fr] at hx⟩⟩
theorem Zf5 (a b:ByteArray):PSpec Tryz.prog 127 [.one (.d (.str a)),.one (.d (.str b))] (.one (.d (.int .i64 (cmpS a b)))):=by
 refine PSpec.of_vc Tryz.func127 rfl (by kernel_rfl) (n:=8) rfl rfl (by simp) ?_
 simp
 refine Z3e (Zgl a b) (by simp) ?_
 simp
 exact ret_d (by simp;rfl) rfl
def Z47 (a b:ByteArray):Option Int:=some (cmpS a b)
theorem Z98 (a b:ByteArray) (r:Int) (hm:Is (Z47 a b) r):PSpec Tryz.prog 127 [.one (.d (.str a)),.one (.d (.str b))] (.one (.d (.int .i64 r))):=by
 obtain rfl:=r_ret hm
 exact Zf5 a b
end Go.Proofs.YthgepknlibmjcaaGreat
end
section
namespace Go.Proofs.YthgepknlibmjcaaGreat
open Go Go.Am
theorem tyD_int {P:Program} {B n:Nat} {t:TypeId} {ds:List D} (hu:P.underlying t=some (.int .i64)) (h:tyD P B n t ds):∃ v:Int,ds=encI v:=by
 cases n with
 | zero=>cases h
 | succ n=>simp only[tyD,hu] at h;obtain⟨v,h1,_⟩:=h;exact⟨v,h1⟩
theorem Zsn {P:Program} {B n:Nat} {t:TypeId} {ds:List D} (hu:P.underlying t=some .bool) (h:tyD P B n t ds):∃ v:Bool,ds=encB v:=by
 cases n with
 | zero=>cases h
 | succ n=>simp only[tyD,hu] at h;exact h
theorem Zlq {P:Program} {B n:Nat} {t:TypeId} {ds:List D} (hu:P.underlying t=some .string) (h:tyD P B n t ds):∃ v:ByteArray,ds=encS v:=by
 cases n with
 | zero=>cases h
 | succ n=>simp only[tyD,hu] at h;exact h
theorem Z4i {P:Program} {B n:Nat} {t e:TypeId} {ds:List D} (hu:P.underlying t=some (.slice e)) (h:tyD P B n t ds):∃ m xs,ds=[.sl xs]∧xs.length≤B∧∀ x ∈ xs,tyD P B m e x:=by
 cases n with
 | zero=>cases h
 | succ n=>simp only[tyD,hu] at h;obtain⟨xs,h1,h2,h3⟩:=h;exact⟨n,xs,h1,h2,h3⟩
theorem Z3p {P:Program} {B n:Nat} {t:TypeId} {fs:Array Field} {ds:List D} (hu:P.underlying t=some (.struct fs)) (h:tyD P B n t ds):∃ m,tyFs (tyD P B m) fs.toList ds:=by
 cases n with
 | zero=>cases h
 | succ n=>simp only[tyD,hu] at h;exact⟨n,h⟩
theorem Z5b {α:Type} {enc:α→List D} {S:α→Prop}:∀ {xs:List (List D)},(∀ x ∈ xs,∃ v,x=enc v∧S v)→∃ vs:List α,xs=vs.map enc∧vs.length=xs.length∧∀ v ∈ vs,S v
 | [],_=>⟨[],rfl,rfl,by simp⟩
 | x::xs,h=>by
   obtain⟨v,h1,h2⟩:=h x (by simp)
   obtain⟨vs,h3,h4,h5⟩:=Z5b fun y hy=>h y (List.mem_cons_of_mem _ hy)
   exact⟨v::vs,by simp[h1,← h3],by simp[h4],by simpa using⟨h2,h5⟩⟩
theorem dec3 {B n:Nat} {ds:List D} (h:tyD Tryz.prog B n 3 ds):∃ v:Int,ds=encI v∧True:=by
 obtain⟨v,hv⟩:=tyD_int Tryz.underlying3 h
 exact⟨v,hv,trivial⟩
theorem dec9 {B n:Nat} {ds:List D} (h:tyD Tryz.prog B n 9 ds):∃ v:ByteArray,ds=encS v∧True:=by
 obtain⟨v,hv⟩:=Zlq Tryz.underlying9 h
 exact⟨v,hv,trivial⟩
def bd100 (B:Nat) (x:GV):Prop:=True∧True∧True
theorem dec100 {B n:Nat} {ds:List D} (h:tyD Tryz.prog B n 100 ds):∃ v:GV,ds=v.enc∧bd100 B v:=by
 obtain⟨m,hm⟩:=Z3p Tryz.underlying100 h
 obtain⟨a0,r0,e0,t0,hm⟩:=hm
 obtain⟨v0,w0,b0⟩:=dec3 t0
 obtain⟨a1,r1,e1,t1,hm⟩:=hm
 obtain⟨v1,w1,b1⟩:=dec3 t1
 obtain⟨a2,r2,e2,t2,hm⟩:=hm
 obtain⟨v2,w2,b2⟩:=dec9 t2
 have e3:r2=[]:=hm
 subst w0 w1 w2
 refine⟨⟨v0,v1,v2⟩,?_,b0,b1,b2⟩
 rw[e0,e1,e2,e3]
 rfl
theorem dec4 {B n:Nat} {ds:List D} (h:tyD Tryz.prog B n 4 ds):∃ v:Bool,ds=encB v∧True:=by
 obtain⟨v,hv⟩:=Zsn Tryz.underlying4 h
 exact⟨v,hv,trivial⟩
def bd156 (B:Nat) (x:Col):Prop:=True∧True∧True
theorem dec156 {B n:Nat} {ds:List D} (h:tyD Tryz.prog B n 156 ds):∃ v:Col,ds=v.enc∧bd156 B v:=by
 obtain⟨m,hm⟩:=Z3p Tryz.underlying156 h
 obtain⟨a0,r0,e0,t0,hm⟩:=hm
 obtain⟨v0,w0,b0⟩:=dec9 t0
 obtain⟨a1,r1,e1,t1,hm⟩:=hm
 obtain⟨v1,w1,b1⟩:=dec3 t1
 obtain⟨a2,r2,e2,t2,hm⟩:=hm
 obtain⟨v2,w2,b2⟩:=dec4 t2
 have e3:r2=[]:=hm
 subst w0 w1 w2
 refine⟨⟨v0,v1,v2⟩,?_,b0,b1,b2⟩
 rw[e0,e1,e2,e3]
 rfl
def bd73 (B:Nat) (xs:List Col):Prop:=xs.length≤B∧∀ x ∈ xs,bd156 B x
theorem dec73 {B n:Nat} {ds:List D} (h:tyD Tryz.prog B n 73 ds):∃ v:List Col,ds=[.sl (v.map Col.enc)]∧bd73 B v:=by
 obtain⟨m,xs,rfl,hl,hx⟩:=Z4i Tryz.underlying73 h
 obtain⟨vs,rfl,h1,h2⟩:=Z5b (enc:=Col.enc) (S:=fun x=>bd156 B x) fun x hx1=>dec156 (hx x hx1)
 exact⟨vs,rfl,by simpa using hl,h2⟩
def bd30 (B:Nat) (xs:List Int):Prop:=xs.length≤B∧∀ x ∈ xs,True
theorem dec30 {B n:Nat} {ds:List D} (h:tyD Tryz.prog B n 30 ds):∃ v:List Int,ds=[.sl (v.map encI)]∧bd30 B v:=by
 obtain⟨m,xs,rfl,hl,hx⟩:=Z4i Tryz.underlying30 h
 obtain⟨vs,rfl,h1,h2⟩:=Z5b (enc:=encI) (S:=fun x=>True) fun x hx1=>dec3 (hx x hx1)
 exact⟨vs,rfl,by simpa using hl,h2⟩
def bd75 (B:Nat) (x:Tbl):Prop:=True∧bd73 B x.cols∧bd30 B x.pk
theorem dec75 {B n:Nat} {ds:List D} (h:tyD Tryz.prog B n 75 ds):∃ v:Tbl,ds=v.enc∧bd75 B v:=by
 obtain⟨m,hm⟩:=Z3p Tryz.underlying75 h
 obtain⟨a0,r0,e0,t0,hm⟩:=hm
 obtain⟨v0,w0,b0⟩:=dec9 t0
 obtain⟨a1,r1,e1,t1,hm⟩:=hm
 obtain⟨v1,w1,b1⟩:=dec73 t1
 obtain⟨a2,r2,e2,t2,hm⟩:=hm
 obtain⟨v2,w2,b2⟩:=dec30 t2
 have e3:r2=[]:=hm
 subst w0 w1 w2
 refine⟨⟨v0,v1,v2⟩,?_,b0,b1,b2⟩
 rw[e0,e1,e2,e3]
 rfl
def bd131 (B:Nat) (x:Fk):Prop:=True∧bd30 B x.cols∧True
theorem dec131 {B n:Nat} {ds:List D} (h:tyD Tryz.prog B n 131 ds):∃ v:Fk,ds=v.enc∧bd131 B v:=by
 obtain⟨m,hm⟩:=Z3p Tryz.underlying131 h
 obtain⟨a0,r0,e0,t0,hm⟩:=hm
 obtain⟨v0,w0,b0⟩:=dec9 t0
 obtain⟨a1,r1,e1,t1,hm⟩:=hm
 obtain⟨v1,w1,b1⟩:=dec30 t1
 obtain⟨a2,r2,e2,t2,hm⟩:=hm
 obtain⟨v2,w2,b2⟩:=dec9 t2
 have e3:r2=[]:=hm
 subst w0 w1 w2
 refine⟨⟨v0,v1,v2⟩,?_,b0,b1,b2⟩
 rw[e0,e1,e2,e3]
 rfl
def bd103 (B:Nat) (x:Cons):Prop:=True∧True∧True∧True∧bd100 B x.value
theorem dec103 {B n:Nat} {ds:List D} (h:tyD Tryz.prog B n 103 ds):∃ v:Cons,ds=v.enc∧bd103 B v:=by
 obtain⟨m,hm⟩:=Z3p Tryz.underlying103 h
 obtain⟨a0,r0,e0,t0,hm⟩:=hm
 obtain⟨v0,w0,b0⟩:=dec9 t0
 obtain⟨a1,r1,e1,t1,hm⟩:=hm
 obtain⟨v1,w1,b1⟩:=dec3 t1
 obtain⟨a2,r2,e2,t2,hm⟩:=hm
 obtain⟨v2,w2,b2⟩:=dec9 t2
 obtain⟨a3,r3,e3,t3,hm⟩:=hm
 obtain⟨v3,w3,b3⟩:=dec3 t3
 obtain⟨a4,r4,e4,t4,hm⟩:=hm
 obtain⟨v4,w4,b4⟩:=dec100 t4
 have e5:r4=[]:=hm
 subst w0 w1 w2 w3 w4
 refine⟨⟨v0,v1,v2,v3,v4⟩,?_,b0,b1,b2,b3,b4⟩
 rw[e0,e1,e2,e3,e4,e5]
 rfl
def bd22 (B:Nat) (xs:List Tbl):Prop:=xs.length≤B∧∀ x ∈ xs,bd75 B x
theorem dec22 {B n:Nat} {ds:List D} (h:tyD Tryz.prog B n 22 ds):∃ v:List Tbl,ds=[.sl (v.map Tbl.enc)]∧bd22 B v:=by
 obtain⟨m,xs,rfl,hl,hx⟩:=Z4i Tryz.underlying22 h
 obtain⟨vs,rfl,h1,h2⟩:=Z5b (enc:=Tbl.enc) (S:=fun x=>bd75 B x) fun x hx1=>dec75 (hx x hx1)
 exact⟨vs,rfl,by simpa using hl,h2⟩
def bd23 (B:Nat) (xs:List Fk):Prop:=xs.length≤B∧∀ x ∈ xs,bd131 B x
theorem dec23 {B n:Nat} {ds:List D} (h:tyD Tryz.prog B n 23 ds):∃ v:List Fk,ds=[.sl (v.map Fk.enc)]∧bd23 B v:=by
 obtain⟨m,xs,rfl,hl,hx⟩:=Z4i Tryz.underlying23 h
 obtain⟨vs,rfl,h1,h2⟩:=Z5b (enc:=Fk.enc) (S:=fun x=>bd131 B x) fun x hx1=>dec131 (hx x hx1)
 exact⟨vs,rfl,by simpa using hl,h2⟩
def bd24 (B:Nat) (xs:List Cons):Prop:=xs.length≤B∧∀ x ∈ xs,bd103 B x
theorem dec24 {B n:Nat} {ds:List D} (h:tyD Tryz.prog B n 24 ds):∃ v:List Cons,ds=[.sl (v.map Cons.enc)]∧bd24 B v:=by
 obtain⟨m,xs,rfl,hl,hx⟩:=Z4i Tryz.underlying24 h
 obtain⟨vs,rfl,h1,h2⟩:=Z5b (enc:=Cons.enc) (S:=fun x=>bd103 B x) fun x hx1=>dec103 (hx x hx1)
 exact⟨vs,rfl,by simpa using hl,h2⟩
def bd26 (B:Nat) (x:Sch):Prop:=bd22 B x.tables∧bd23 B x.fks∧bd24 B x.cons
theorem dec26 {B n:Nat} {ds:List D} (h:tyD Tryz.prog B n 26 ds):∃ v:Sch,ds=v.enc∧bd26 B v:=by
 obtain⟨m,hm⟩:=Z3p Tryz.underlying26 h
 obtain⟨a0,r0,e0,t0,hm⟩:=hm
 obtain⟨v0,w0,b0⟩:=dec22 t0
 obtain⟨a1,r1,e1,t1,hm⟩:=hm
 obtain⟨v1,w1,b1⟩:=dec23 t1
 obtain⟨a2,r2,e2,t2,hm⟩:=hm
 obtain⟨v2,w2,b2⟩:=dec24 t2
 have e3:r2=[]:=hm
 subst w0 w1 w2
 refine⟨⟨v0,v1,v2⟩,?_,b0,b1,b2⟩
 rw[e0,e1,e2,e3]
 rfl
def bd158 (B:Nat) (x:Stp):Prop:=True∧True∧True∧True∧True∧True∧bd30 B x.cols∧True∧bd100 B x.value∧bd75 B x.newTable∧bd103 B x.cons∧bd131 B x.fk
theorem dec158 {B n:Nat} {ds:List D} (h:tyD Tryz.prog B n 158 ds):∃ v:Stp,ds=v.enc∧bd158 B v:=by
 obtain⟨m,hm⟩:=Z3p Tryz.underlying158 h
 obtain⟨a0,r0,e0,t0,hm⟩:=hm
 obtain⟨v0,w0,b0⟩:=dec3 t0
 obtain⟨a1,r1,e1,t1,hm⟩:=hm
 obtain⟨v1,w1,b1⟩:=dec9 t1
 obtain⟨a2,r2,e2,t2,hm⟩:=hm
 obtain⟨v2,w2,b2⟩:=dec9 t2
 obtain⟨a3,r3,e3,t3,hm⟩:=hm
 obtain⟨v3,w3,b3⟩:=dec9 t3
 obtain⟨a4,r4,e4,t4,hm⟩:=hm
 obtain⟨v4,w4,b4⟩:=dec9 t4
 obtain⟨a5,r5,e5,t5,hm⟩:=hm
 obtain⟨v5,w5,b5⟩:=dec3 t5
 obtain⟨a6,r6,e6,t6,hm⟩:=hm
 obtain⟨v6,w6,b6⟩:=dec30 t6
 obtain⟨a7,r7,e7,t7,hm⟩:=hm
 obtain⟨v7,w7,b7⟩:=dec9 t7
 obtain⟨a8,r8,e8,t8,hm⟩:=hm
 obtain⟨v8,w8,b8⟩:=dec100 t8
 obtain⟨a9,r9,e9,t9,hm⟩:=hm
 obtain⟨v9,w9,b9⟩:=dec75 t9
 obtain⟨a10,r10,e10,t10,hm⟩:=hm
 obtain⟨v10,w10,b10⟩:=dec103 t10
 obtain⟨a11,r11,e11,t11,hm⟩:=hm
 obtain⟨v11,w11,b11⟩:=dec131 t11
 have e12:r11=[]:=hm
 subst w0 w1 w2 w3 w4 w5 w6 w7 w8 w9 w10 w11
 refine⟨⟨v0,v1,v2,v3,v4,v5,v6,v7,v8,v9,v10,v11⟩,?_,b0,b1,b2,b3,b4,b5,b6,b7,b8,b9,b10,b11⟩
 rw[e0,e1,e2,e3,e4,e5,e6,e7,e8,e9,e10,e11,e12]
 rfl
def bd37 (B:Nat) (xs:List Stp):Prop:=xs.length≤B∧∀ x ∈ xs,bd158 B x
theorem dec37 {B n:Nat} {ds:List D} (h:tyD Tryz.prog B n 37 ds):∃ v:List Stp,ds=[.sl (v.map Stp.enc)]∧bd37 B v:=by
 obtain⟨m,xs,rfl,hl,hx⟩:=Z4i Tryz.underlying37 h
 obtain⟨vs,rfl,h1,h2⟩:=Z5b (enc:=Stp.enc) (S:=fun x=>bd158 B x) fun x hx1=>dec158 (hx x hx1)
 exact⟨vs,rfl,by simpa using hl,h2⟩
def bd39 (B:Nat) (x:Edg):Prop:=True∧bd37 B x.script
theorem dec39 {B n:Nat} {ds:List D} (h:tyD Tryz.prog B n 39 ds):∃ v:Edg,ds=v.enc∧bd39 B v:=by
 obtain⟨m,hm⟩:=Z3p Tryz.underlying39 h
 obtain⟨a0,r0,e0,t0,hm⟩:=hm
 obtain⟨v0,w0,b0⟩:=dec3 t0
 obtain⟨a1,r1,e1,t1,hm⟩:=hm
 obtain⟨v1,w1,b1⟩:=dec37 t1
 have e2:r1=[]:=hm
 subst w0 w1
 refine⟨⟨v0,v1⟩,?_,b0,b1⟩
 rw[e0,e1,e2]
 rfl
def bd27 (B:Nat) (xs:List Edg):Prop:=xs.length≤B∧∀ x ∈ xs,bd39 B x
theorem dec27 {B n:Nat} {ds:List D} (h:tyD Tryz.prog B n 27 ds):∃ v:List Edg,ds=[.sl (v.map Edg.enc)]∧bd27 B v:=by
 obtain⟨m,xs,rfl,hl,hx⟩:=Z4i Tryz.underlying27 h
 obtain⟨vs,rfl,h1,h2⟩:=Z5b (enc:=Edg.enc) (S:=fun x=>bd39 B x) fun x hx1=>dec39 (hx x hx1)
 exact⟨vs,rfl,by simpa using hl,h2⟩
def bd29 (B:Nat) (x:Gr):Prop:=bd26 B x.base∧bd27 B x.edges
theorem dec29 {B n:Nat} {ds:List D} (h:tyD Tryz.prog B n 29 ds):∃ v:Gr,ds=v.enc∧bd29 B v:=by
 obtain⟨m,hm⟩:=Z3p Tryz.underlying29 h
 obtain⟨a0,r0,e0,t0,hm⟩:=hm
 obtain⟨v0,w0,b0⟩:=dec26 t0
 obtain⟨a1,r1,e1,t1,hm⟩:=hm
 obtain⟨v1,w1,b1⟩:=dec27 t1
 have e2:r1=[]:=hm
 subst w0 w1
 refine⟨⟨v0,v1⟩,?_,b0,b1⟩
 rw[e0,e1,e2]
 rfl
def bd79 (B:Nat) (xs:List GV):Prop:=xs.length≤B∧∀ x ∈ xs,bd100 B x
theorem dec79 {B n:Nat} {ds:List D} (h:tyD Tryz.prog B n 79 ds):∃ v:List GV,ds=[.sl (v.map GV.enc)]∧bd79 B v:=by
 obtain⟨m,xs,rfl,hl,hx⟩:=Z4i Tryz.underlying79 h
 obtain⟨vs,rfl,h1,h2⟩:=Z5b (enc:=GV.enc) (S:=fun x=>bd100 B x) fun x hx1=>dec100 (hx x hx1)
 exact⟨vs,rfl,by simpa using hl,h2⟩
def bd52 (B:Nat) (xs:List (List GV)):Prop:=xs.length≤B∧∀ x ∈ xs,bd79 B x
theorem dec52 {B n:Nat} {ds:List D} (h:tyD Tryz.prog B n 52 ds):∃ v:List (List GV),ds=[.sl (v.map (encL GV.enc))]∧bd52 B v:=by
 obtain⟨m,xs,rfl,hl,hx⟩:=Z4i Tryz.underlying52 h
 obtain⟨vs,rfl,h1,h2⟩:=Z5b (enc:=(encL GV.enc)) (S:=fun x=>bd79 B x) fun x hx1=>dec79 (hx x hx1)
 exact⟨vs,rfl,by simpa using hl,h2⟩
def bd106 (B:Nat) (x:Rel):Prop:=True∧bd52 B x.rows
theorem dec106 {B n:Nat} {ds:List D} (h:tyD Tryz.prog B n 106 ds):∃ v:Rel,ds=v.enc∧bd106 B v:=by
 obtain⟨m,hm⟩:=Z3p Tryz.underlying106 h
 obtain⟨a0,r0,e0,t0,hm⟩:=hm
 obtain⟨v0,w0,b0⟩:=dec9 t0
 obtain⟨a1,r1,e1,t1,hm⟩:=hm
 obtain⟨v1,w1,b1⟩:=dec52 t1
 have e2:r1=[]:=hm
 subst w0 w1
 refine⟨⟨v0,v1⟩,?_,b0,b1⟩
 rw[e0,e1,e2]
 rfl
def bd89 (B:Nat) (x:Chg):Prop:=True∧True∧bd79 B x.key∧bd79 B x.row
theorem dec89 {B n:Nat} {ds:List D} (h:tyD Tryz.prog B n 89 ds):∃ v:Chg,ds=v.enc∧bd89 B v:=by
 obtain⟨m,hm⟩:=Z3p Tryz.underlying89 h
 obtain⟨a0,r0,e0,t0,hm⟩:=hm
 obtain⟨v0,w0,b0⟩:=dec3 t0
 obtain⟨a1,r1,e1,t1,hm⟩:=hm
 obtain⟨v1,w1,b1⟩:=dec9 t1
 obtain⟨a2,r2,e2,t2,hm⟩:=hm
 obtain⟨v2,w2,b2⟩:=dec79 t2
 obtain⟨a3,r3,e3,t3,hm⟩:=hm
 obtain⟨v3,w3,b3⟩:=dec79 t3
 have e4:r3=[]:=hm
 subst w0 w1 w2 w3
 refine⟨⟨v0,v1,v2,v3⟩,?_,b0,b1,b2,b3⟩
 rw[e0,e1,e2,e3,e4]
 rfl
def bd45 (B:Nat) (xs:List Rel):Prop:=xs.length≤B∧∀ x ∈ xs,bd106 B x
theorem dec45 {B n:Nat} {ds:List D} (h:tyD Tryz.prog B n 45 ds):∃ v:List Rel,ds=[.sl (v.map Rel.enc)]∧bd45 B v:=by
 obtain⟨m,xs,rfl,hl,hx⟩:=Z4i Tryz.underlying45 h
 obtain⟨vs,rfl,h1,h2⟩:=Z5b (enc:=Rel.enc) (S:=fun x=>bd106 B x) fun x hx1=>dec106 (hx x hx1)
 exact⟨vs,rfl,by simpa using hl,h2⟩
def bd43 (B:Nat) (x:Rule):Prop:=True∧True∧True∧bd30 B x.cols∧bd24 B x.preds∧True
theorem dec43 {B n:Nat} {ds:List D} (h:tyD Tryz.prog B n 43 ds):∃ v:Rule,ds=v.enc∧bd43 B v:=by
 obtain⟨m,hm⟩:=Z3p Tryz.underlying43 h
 obtain⟨a0,r0,e0,t0,hm⟩:=hm
 obtain⟨v0,w0,b0⟩:=dec9 t0
 obtain⟨a1,r1,e1,t1,hm⟩:=hm
 obtain⟨v1,w1,b1⟩:=dec3 t1
 obtain⟨a2,r2,e2,t2,hm⟩:=hm
 obtain⟨v2,w2,b2⟩:=dec9 t2
 obtain⟨a3,r3,e3,t3,hm⟩:=hm
 obtain⟨v3,w3,b3⟩:=dec30 t3
 obtain⟨a4,r4,e4,t4,hm⟩:=hm
 obtain⟨v4,w4,b4⟩:=dec24 t4
 obtain⟨a5,r5,e5,t5,hm⟩:=hm
 obtain⟨v5,w5,b5⟩:=dec4 t5
 have e6:r5=[]:=hm
 subst w0 w1 w2 w3 w4 w5
 refine⟨⟨v0,v1,v2,v3,v4,v5⟩,?_,b0,b1,b2,b3,b4,b5⟩
 rw[e0,e1,e2,e3,e4,e5,e6]
 rfl
def bd41 (B:Nat) (xs:List Rule):Prop:=xs.length≤B∧∀ x ∈ xs,bd43 B x
theorem dec41 {B n:Nat} {ds:List D} (h:tyD Tryz.prog B n 41 ds):∃ v:List Rule,ds=[.sl (v.map Rule.enc)]∧bd41 B v:=by
 obtain⟨m,xs,rfl,hl,hx⟩:=Z4i Tryz.underlying41 h
 obtain⟨vs,rfl,h1,h2⟩:=Z5b (enc:=Rule.enc) (S:=fun x=>bd43 B x) fun x hx1=>dec43 (hx x hx1)
 exact⟨vs,rfl,by simpa using hl,h2⟩
def bd84 (B:Nat) (xs:List Chg):Prop:=xs.length≤B∧∀ x ∈ xs,bd89 B x
theorem dec84 {B n:Nat} {ds:List D} (h:tyD Tryz.prog B n 84 ds):∃ v:List Chg,ds=[.sl (v.map Chg.enc)]∧bd84 B v:=by
 obtain⟨m,xs,rfl,hl,hx⟩:=Z4i Tryz.underlying84 h
 obtain⟨vs,rfl,h1,h2⟩:=Z5b (enc:=Chg.enc) (S:=fun x=>bd89 B x) fun x hx1=>dec89 (hx x hx1)
 exact⟨vs,rfl,by simpa using hl,h2⟩
end Go.Proofs.YthgepknlibmjcaaGreat
end
section
namespace Go.Am
open Go
section
variable {ρ α β σ:Type} {Q:ρ→Prop}
def Wp (m:Option ρ) (Q:ρ→Prop):Prop:=∃ r,m=some r∧Q r
theorem Wp.mono {m:Option ρ} {Q Q':ρ→Prop} (h:Wp m Q) (hq:∀ r,m=some r→Q r→Q' r):Wp m Q':=by
 obtain⟨r,h1,h2⟩:=h
 exact⟨r,h1,hq r h1 h2⟩
theorem Wp.ret {r:ρ} (h:Q r):Wp (some r) Q:=⟨r,rfl,h⟩
theorem Wp.bind {m:Option α} {K:α→Option ρ} {R:α→Prop} (h:Wp m R) (hk:∀ x,m=some x→R x→Wp (K x) Q):Wp (bindK m K) Q:=by
 obtain⟨x,h1,h2⟩:=h
 unfold bindK
 subst h1
 exact hk x rfl h2
theorem Wp.cond {b:Bool} {A B:Option ρ} (h1:b=true→Wp A Q) (h2:b=false→Wp B Q):Wp (cond b A B) Q:=by
 cases b
 ·exact h2 rfl
 ·exact h1 rfl
theorem Wp.ite {b:Prop} [Decidable b] {A B:Option ρ} (h1:b→Wp A Q) (h2:¬ b→Wp B Q):Wp (if b then A else B) Q:=by
 by_cases hb:b
 ·rw[if_pos hb];exact h1 hb
 ·rw[if_neg hb];exact h2 hb
theorem Wp.chk {b:Prop} [Decidable b] {m:Option ρ} (hb:b) (h:Wp m Q):Wp (chkK b m) Q:=by
 unfold chkK;rw[if_pos hb];exact h
theorem Wp.get {xs:List α} {i:Int} {K:α→Option ρ} (h0:0≤i) (h1:i < xs.length) (hk:∀ x,xs[i.toNat]?=some x→x ∈ xs→Wp (K x) Q):Wp (getK xs i K) Q:=by
 have hl:i.toNat < xs.length:=by omega
 unfold getK
 rw[if_pos h0,List.getElem?_eq_getElem hl]
 exact hk _ (List.getElem?_eq_getElem hl) (List.getElem_mem hl)
theorem Wp.getN {xs:List α} {i:Nat} {x:α} {K:α→Option ρ} (hx:xs[i]?=some x) (hk:Wp (K x) Q):Wp (getK xs (i:Int) K) Q:=by
 unfold getK
 rw[if_pos (by omega),show (i:Int).toNat=i by omega,hx]
 exact hk
theorem Wp.app {xs ys:List α} {K:List α→Option ρ} (h:xs.length+ys.length≤LIM) (hk:Wp (K (xs++ys)) Q):Wp (appK2 xs ys K) Q:=Wp.chk h hk
theorem Wp.for_at {body:Nat→α→σ→(σ→Option ρ)→Option ρ} {k:σ→Option ρ} (ys:List α) (I:Nat→σ→Prop)
  (step:∀ i x s next,ys[i]?=some x→x ∈ ys→I i s→(∀ s',I (i+1) s'→Wp (next s') Q)→Wp (body i x s next) Q) (fin:∀ s,I ys.length s→Wp (k s) Q) :
  ∀ (n i:Nat) (s:σ),i+n=ys.length→I i s→Wp (forK body k (ys.drop i) i s) Q
 | 0,i,s,hn,h0=>by
   have hi:i=ys.length:=by omega
   subst hi
   rw[List.drop_length]
   exact fin s h0
 | n+1,i,s,hn,h0=>by
   have hi:i < ys.length:=by omega
   rw[List.drop_eq_getElem_cons hi]
   exact step i _ s _ (List.getElem?_eq_getElem hi) (List.getElem_mem hi) h0 fun s' hs'=>Wp.for_at ys I step fin n (i+1) s' (by omega) hs'
theorem Wp.for {body:Nat→α→σ→(σ→Option ρ)→Option ρ} {k:σ→Option ρ} {xs:List α} {s0:σ} (I:Nat→σ→Prop) (h0:I 0 s0)
  (step:∀ i x s next,xs[i]?=some x→x ∈ xs→I i s→(∀ s',I (i+1) s'→Wp (next s') Q)→Wp (body i x s next) Q) (fin:∀ s,I xs.length s→Wp (k s) Q):Wp (forK body k xs 0 s0) Q:=by
 have:=Wp.for_at xs I step fin xs.length 0 s0 (by omega) h0
 rwa [List.drop_zero] at this
theorem Wp.count_at {body:Nat→σ→(σ→Option ρ)→Option ρ} {k:σ→Option ρ} (N:Nat) (I:Nat→σ→Prop)
  (step:∀ i s next,i < N→I i s→(∀ s',I (i+1) s'→Wp (next s') Q)→Wp (body i s next) Q) (fin:∀ s,I N s→Wp (k s) Q) :
  ∀ (n i:Nat) (s:σ),i+n=N→I i s→Wp (countK body k n i s) Q
 | 0,i,s,hn,h0=>by
   have hi:i=N:=by omega
   subst hi
   exact fin s h0
 | n+1,i,s,hn,h0=>step i s _ (by omega) h0 fun s' hs'=>Wp.count_at N I step fin n (i+1) s' (by omega) hs'
theorem Wp.count {body:Nat→σ→(σ→Option ρ)→Option ρ} {k:σ→Option ρ} {N:Nat} {s0:σ} (I:Nat→σ→Prop) (h0:I 0 s0)
  (step:∀ i s next,i < N→I i s→(∀ s',I (i+1) s'→Wp (next s') Q)→Wp (body i s next) Q) (fin:∀ s,I N s→Wp (k s) Q):Wp (countK body k N 0 s0) Q:=
 Wp.count_at N I step fin N 0 s0 (by omega) h0
def Zis (xs:List α) (f:α→Option Bool) (k:Int):Prop:=(k=-1∧∀ x ∈ xs,f x=some false)∨∃ (i:Nat) (x:α),k=i∧xs[i]?=some x∧f x=some true
theorem Zis.lt {xs:List α} {f:α→Option Bool} {k:Int} (h:Zis xs f k):-1≤k∧k < xs.length:=by
 rcases h with ⟨rfl,_⟩ | ⟨i,x,rfl,hx,_⟩
 ·omega
 ·have:=(List.getElem?_eq_some_iff.1 hx).1
  omega
theorem Wp.index {xs:List α} {f:α→Option Bool} (hf:∀ x ∈ xs,Wp (f x) fun _=>True) :
  Wp (forK (fun (i:Nat) (x:α) (s:Unit) next=>bindK (f x) fun v=>bif v then some (i:Int) else next ()) (fun _=>some (-1)) xs 0 ()) (Zis xs f):=by
 refine Wp.for (fun i _=>∀ (j:Nat) (x:α),j < i→xs[j]?=some x→f x=some false) (by intro j x h;omega) ?_ ?_
 ·intro i x s next hx hm hI hn
  refine Wp.bind (hf x hm) fun b hb _=>Wp.cond ?_ ?_
  ·rintro rfl
   exact Wp.ret (.inr ⟨i,x,rfl,hx,hb⟩)
  ·rintro rfl
   refine hn () fun j y hj hy=>?_
   rcases Nat.lt_or_ge j i with h1 | h1
   ·exact hI j y h1 hy
   ·obtain rfl:j=i:=by omega
    rw[hx] at hy
    cases hy
    exact hb
 ·intro s hI
  refine Wp.ret (.inl ⟨rfl,fun x hx=>?_⟩)
  obtain⟨j,hj,rfl⟩:=List.getElem_of_mem hx
  exact hI j _ hj (List.getElem?_eq_getElem hj)
end
end Go.Am
end
section
namespace Go.Proofs.YthgepknlibmjcaaGreat
open Go Go.Am Go.RowKit
def Z6t (c : UInt8) : Bool := (decide (97 ≤ c.toNat) && decide (c.toNat ≤ 122)) || (decide (48 ≤ c.toNat) && decide (c.toNat ≤ 57))
def Z44 (s : ByteArray) : Bool := decide (1 ≤ s.size) && decide (s.size ≤ 12) && !(decide (48 ≤ (s.data.toList.headD 0).toNat) && decide ((s.data.toList.headD 0).toNat ≤ 57)) && s.data.toList.all Z6t
theorem Zin (w : World) (e : TypeId) (s : ByteArray) : Below w.heap.size w (Lib.bytesWorld w e s) := by
  have h1 : (Lib.bytesWorld w e s).heap.size = w.heap.size + 1 := Lib.bytesWorld_size w e s
  refine ⟨?_, ?_, ?_, by omega, fun k hk => Lib.bytesWorld_at_old w e s k hk⟩ <;> simp [Lib.bytesWorld, World.freeze, World.alloc, World.drew, -World.alloc_eq, -World.drew_eq]
theorem Zpb {s : ByteArray} {k : Nat} (hk : k < s.size) (hf : Z6t s[k] = false) : s.data.toList.all Z6t = false := by
  rw [List.all_eq_false]
  exact ⟨s[k], by obtain ⟨⟨l⟩⟩ := s; exact List.getElem_mem hk, by simpa using hf⟩
theorem Zti {s : ByteArray} (h : ∀ k (hk : k < s.size), Z6t s[k] = true) : s.data.toList.all Z6t = true := by
  rw [List.all_eq_true]
  intro x hx
  obtain ⟨⟨l⟩⟩ := s
  obtain ⟨k, hk, rfl⟩ := List.getElem_of_mem hx
  exact h k hk
set_option maxRecDepth 100000 in
set_option maxHeartbeats 1000000 in
theorem Zeu (s : ByteArray) (w : World) : Calls Tryz.prog 103 #[.string s] w fun e w' => e = .returned (.bool (Z44 s)) ∧ Below w.heap.size w w' := by
  have U9 : Tryz.prog.underlying 9 = some .string := by kernel_rfl
  have U193 : Tryz.prog.underlying 193 = some (.slice 5) := by kernel_rfl
  have U5 : Tryz.prog.underlying 5 = some (.int .u8) := by kernel_rfl
  have kc : ∀ w : World, (convert 9 193 (.string s)).run Tryz.prog w = .ok (.slice (some ⟨w.heap.size, 0, none⟩) s.size (grownCap w s.size 0 5)) (Lib.bytesWorld w 5 s) := fun w => Lib.run_convert_string_bytes w 9 193 5 s U9 U193 U5
  by_cases h1 : (s.size : Int) < 1
  · have hv : Z44 s = false := by simp [Z44]; omega
    rw [hv]
    go_enter Tryz.func103, Tryz.ntmps103
    go_wp2
    go_ret
    exact ⟨rfl, Below.refl _ _⟩
  by_cases h2 : 12 < (s.size : Int)
  · have hv : Z44 s = false := by simp [Z44]; omega
    rw [hv]
    go_enter Tryz.func103, Tryz.ntmps103
    go_wp2
    go_ret
    exact ⟨rfl, Below.refl _ _⟩
  have hlt : 0 < s.size := by omega
  have hb : Below w.heap.size w (Lib.bytesWorld w 5 s) := Zin w 5 s
  have hcells : ∀ k (hk : k < s.size), (Lib.bytesWorld w 5 s).cell? ⟨w.heap.size, k, none⟩ = some (.int .u8 s[k].toNat) := fun k hk => by
    rw [Lib.bytesWorld_cell w 5 s k hk]
    simp [List.getD_eq_getElem?_getD, hk]
    rfl
  have hhead : s.data.toList.headD 0 = s[0] := by
    obtain ⟨⟨l⟩⟩ := s
    cases l with
    | nil => simp [ByteArray.size] at hlt
    | cons c l => rfl
  have first : (48 ≤ (s[0].toNat : Int) ∧ (s[0].toNat : Int) ≤ 57) → Z44 s = false := fun h => by
    have h5 : 48 ≤ s[0].toNat ∧ s[0].toNat ≤ 57 := by omega
    simp only [Z44, hhead, h5.1, h5.2]
    simp
  have rest : ¬ (48 ≤ (s[0].toNat : Int) ∧ (s[0].toNat : Int) ≤ 57) → Z44 s = s.data.toList.all Z6t := fun h => by
    have e1 : decide (1 ≤ s.size) = true := by simp; omega
    have e2 : decide (s.size ≤ 12) = true := by simp; omega
    have e3 : (decide (48 ≤ s[0].toNat) && decide (s[0].toNat ≤ 57)) = false := by
      rw [Bool.and_eq_false_iff]; simp; omega
    simp only [Z44, hhead, e1, e2, e3]
    simp
  have F := Lib.hid first
  have RS := Lib.hid rest
  have HC := Lib.hid hcells
  have HH := Lib.hid hhead
  have HB := Lib.hid hb
  clear first rest hcells hhead hb
  go_enter Tryz.func103, Tryz.ntmps103
  go_wp2
  · have h5 : 48 ≤ (s[0].toNat : Int) := by assumption
    have h6 : (s[0].toNat : Int) ≤ 57 := by assumption
    have h7 := Lib.hid (F.out ⟨h5, h6⟩)
    go_ret
    exact ⟨by rw [h7.out]; rfl, Below.refl _ _⟩
  all_goals
    have hr := RS.out (by omega)
    have HR := Lib.hid hr
    clear hr
    go_loop [26] (fun i => ∃ k : Nat, k ≤ s.size ∧ i = .int .i64 k ∧ ∀ j (hj : j < s.size), j < k → Z6t s[j] = true) (fun i => s.size - (intOf i).toNat)
    case atStart => exact ⟨0, Nat.zero_le _, rfl, fun j hj h => by omega⟩
    case round =>
      obtain ⟨k, hk, rfl, hall⟩ := hrel
      have HA := Lib.hid hall
      clear hall
      by_cases hlt2 : k < s.size
      · have hc1 := HC.out k hlt2
        go_wp2
        all_goals first
          | (go_round
             case rel => exact ⟨k + 1, by omega, by go_num, fun j hj hjk => by
               rcases Nat.lt_or_ge j k with h | h
               · exact HA.out j hj h
               · obtain rfl : j = k := by omega
                 simp only [Z6t]; simp; omega⟩
             case measure => simp [intOf]; omega)
          | (have hf : Z6t s[k] = false := by
               simp only [Z6t, Bool.or_eq_false_iff, Bool.and_eq_false_iff, decide_eq_false_iff_not]; omega
             have hz := HR.out.trans (Zpb hlt2 hf)
             go_ret
             exact ⟨by rw [hz]; rfl, HB.out⟩)
      · have hz := HR.out.trans (Zti fun j hj => HA.out j hj (by omega))
        have HZ := Lib.hid hz
        clear hz
        go_wp2
        go_ret
        exact ⟨by rw [HZ.out]; rfl, HB.out⟩
def Z3u (s : ByteArray) : Option Bool := some (Z44 s)
theorem Z6j (s : ByteArray) (r : Bool) (hm : Is (Z3u s) r) : PSpec Tryz.prog 103 [.one (.d (.str s))] (.one (.d (.bool r))) := by
  obtain rfl := r_ret hm
  refine ⟨⟨_, Tryz.func103, by kernel_rfl, by kernel_rfl⟩, fun w m t vals hm ht hargs => ?_⟩
  obtain ⟨hs, hg⟩ := hargs
  obtain ⟨u0, h0, r0⟩ := hg 0 _ rfl
  have e0 : u0 = .string s := RepD.str_inv (m := m) r0
  subst e0
  have hv : vals = #[.string s] := by
    apply Array.ext_getElem?
    intro i
    match i with
    | 0 => simpa using h0
    | i + 1 => rw [Array.getElem?_eq_none (by simp at hs; omega)]; simp
  subst hv
  refine (Zeu s w).mono ?_
  rintro e w' ⟨rfl, hb⟩
  refine ⟨_, m, fun _ => (none, 0), rfl, Sub.refl _, fun _ _ _ _ h => h, fun b o v hv => ?_, hb, RepD.bool _, ⟨fun x hx => by simp [RV.fr, RV1.fr, RC.fr] at hx, fun x hx => by simp [RV.fr, RV1.fr, RC.fr] at hx⟩⟩
  have h1 := hm b o v hv
  have h2 := World.block_lt_of_cell? w ⟨b, o, none⟩ h1
  rw [hb.cell (p := ⟨b, o, none⟩) h2]
  exact h1
end Go.Proofs.YthgepknlibmjcaaGreat
end
section
namespace Go.Proofs.YthgepknlibmjcaaGreat
open Go.Am
def Z3z (s_:List Col) (f:Col→Option Bool):Option Int:=
 (forK (fun (i2:Nat) (x2:Col) (s2:Unit) next_2=>(bindK (f x2) fun v3=>(bif v3 then (some (i2:Int)) else (next_2 ())))) (fun (s2:Unit)=>(some (-1))) s_ 0 ())
theorem Z8s (s_:List Col) (g:FuncId) (caps:List (List D)) (f:Col→Option Bool) (hf:∀ xa v,Is (f xa) v→PSpec Tryz.prog g (.agg xa.enc::capsOf caps) (.one (.d (.bool v)))) (r:Int) (hm:Is (Z3z s_ f) r):PSpec Tryz.prog 128 [.one (.d (.sl (s_.map Col.enc))),.one (.fn g caps)] (.one (.d (.int .i64 r))):=by
 unfold Z3z at hm
 refine PSpec.of_vc Tryz.func128 rfl (by kernel_rfl) (n:=19) rfl rfl (by simp) ?_
 try simp[*]
 intro hl1
 replace hl1:s_.length≤2097152:=by simpa using hl1
 refine Wait.for (xs:=s_) (s0:=()) (fun i2 s2 e2 h2=>e2.n=19∧e2.get 0=.one (.d (.sl (s_.map Col.enc)))∧e2.get 1=.one (.fn g (caps.map Cap.rp))∧e2.get 7=.one (.d (.int .i64 (s_.length:Int)))∧e2.get 8=.one (.d (.int .i64 (i2:Int)))) hm (by simp[*]) ?_ ?_
 ·rintro i2 s2 e2 h2 ⟨hn2,h2_0,h2_1,h2_7,h2_8⟩ hlt2 hm
  have hw2:IntKind.i64.wrap ((i2:Int)+1)=(i2:Int)+1:=IntWalk.i64_in _ (by omega)
  try simp[*]
  refine Z9i (av:=[.agg (s_[i2]).enc]) (cs:=caps) hm (fun v hv=>hf _ v hv) (by simp[*]) (by simp[*]) ?_
  clear hm;intro v3 hvv3 hm
  try simp[*]
  refine r_cond hm ?_ ?_<;>clear hm<;>intro hc4 hm
  ·try simp[*]
   obtain rfl:=r_ret hm
   exact ret0 (vs:=[_]) (by simp[*];try exact rfl) (by simp[*])
  ·try simp[*]
   exact BackF.of () ⟨(by simp[*]),hm⟩
 ·rintro s2 e2 h2 ⟨hn2,h2_0,h2_1,h2_7,h2_8⟩ hm
  try simp[*]
  obtain rfl:=r_ret hm
  exact ret0 (vs:=[_]) (by simp[*];try exact rfl) (by simp[*])
def Z4z (c:Col) (k0:ByteArray):Option Bool:=
 (some (strEq c.name k0))
theorem Zar (c:Col) (k0:ByteArray) (r:Bool) (hm:Is (Z4z c k0) r):PSpec Tryz.prog 129 [.agg c.enc,.one (.rp [.str k0])] (.one (.d (.bool r))):=by
 unfold Z4z at hm
 refine PSpec.of_vc Tryz.func129 rfl (by kernel_rfl) (n:=8) rfl rfl (by simp) ?_
 try simp[*]
 obtain rfl:=r_ret hm
 exact ret0 (vs:=[_]) (by simp[*];try exact rfl) (by simp[*])
def Z1k (t:Tbl) (name:ByteArray):Option (Int × Bool):=
 (bindK (Z3z t.cols (fun xa_=>Z4z xa_ name)) fun v3=>(some ((if v3 < 0 then 0 else v3),decide (0≤v3))))
theorem Z4h (t:Tbl) (name:ByteArray) (r:Int × Bool) (hm:Is (Z1k t name) r):PSpec Tryz.prog 109 [.agg t.enc,.one (.d (.str name))] (.tup [.one (.d (.int .i64 r.1)),.one (.d (.bool r.2))]):=by
 unfold Z1k at hm
 refine PSpec.of_vc Tryz.func109 rfl (by kernel_rfl) (n:=15) rfl rfl (by simp) ?_
 try simp[*]
 refine r_call (av:=[.one (.d (.sl (t.cols.map Col.enc))),.one (.fn 129 [[.str name]])]) hm (fun v hv=>Z8s _ 129 [[.str name]] _ (fun xa_ v hv=>Zar xa_ _ v hv) v hv) (by simp[*]) ?_
 clear hm;intro v3 hvv3 hm
 try simp[*]
 obtain rfl:=r_ret hm
 exact ret0 (vs:=[_,_]) (by simp[*];try exact⟨rfl,rfl⟩) (by simp[*])
def Z0v (t:Tbl):Option Int:=
 (bindK (Z3u t.name) fun v2=>(bif !v2 then (some 23) else (bif ((t.cols.length:Int) == 0) then (some 3) else (bif decide (6 < (t.cols.length:Int)) then (some 2) else (forK (fun (i9:Nat) (x9:Col) (s9:Unit) next_9=>(bindK (Z3u x9.name) fun v11=>(bif !v11 then (some 23) else (bindK (Z1k t x9.name) fun v13=>(bif decide (v13.1 < (i9:Int)) then (some 5) else (bif decide (x9.kind < 1) then (some 7) else (bif decide (3 < x9.kind) then (some 7) else (next_9 ())))))))) (fun (s9:Unit)=>(forK (fun (i18:Nat) (x18:Int) (s18:Unit) next_18=>(bif decide (x18 < 0) then (some 9) else (bif decide ((t.cols.length:Int)≤x18) then (some 9) else (getK t.cols x18 fun x22=>(bif x22.nullable then (some 9) else (bif decide (0 < i18) then (chkK (okI ((i18:Int) - 1)) (getK t.pk ((i18:Int) - 1) fun x26=>(bif decide (x18≤x26) then (some 9) else (next_18 ())))) else (next_18 ()))))))) (fun (s18:Unit)=>(bif ((t.pk.length:Int) == 0) then (some 9) else (some 0))) t.pk 0 ())) t.cols 0 ())))))
theorem Za3 (t:Tbl) (r:Int) (hm:Is (Z0v t) r):PSpec Tryz.prog 64 [.agg t.enc] (.one (.d (.int .i64 r))):=by
 unfold Z0v at hm
 refine PSpec.of_vc Tryz.func64 rfl (by kernel_rfl) (n:=96) rfl rfl (by simp) ?_
 try simp[*]
 refine r_call (av:=[.one (.d (.str t.name))]) hm (fun v hv=>Z6j _ v hv) (by simp[*]) ?_
 clear hm;intro v2 hvv2 hm
 try simp[*]
 refine r_cond hm ?_ ?_<;>clear hm<;>intro hc3 hm
 ·try simp[*]
  obtain rfl:=r_ret hm
  exact ret0 (vs:=[_]) (by simp[*];try exact rfl) (by simp[*])
 ·try simp[*]
  intro hl4
  replace hl4:t.cols.length≤2097152:=by simpa using hl4
  refine r_cond hm ?_ ?_<;>clear hm<;>intro hc5 hm
  ·try simp[*]
   obtain rfl:=r_ret hm
   exact ret0 (vs:=[_]) (by simp[*];try exact rfl) (by simp[*])
  ·try simp[*]
   refine r_cond hm ?_ ?_<;>clear hm<;>intro hc7 hm
   ·try simp[*]
    obtain rfl:=r_ret hm
    exact ret0 (vs:=[_]) (by simp[*];try exact rfl) (by simp[*])
   ·try simp[*]
    refine Wait.for (xs:=t.cols) (s0:=()) (fun i9 s9 e9 h9=>e9.n=96∧e9.get 1=.one (.ptr (0,16) 0)∧e9.get 22=.one (.d (.sl (t.cols.map Col.enc)))∧e9.get 23=.one (.d (.int .i64 (t.cols.length:Int)))∧e9.get 24=.one (.d (.int .i64 (i9:Int)))∧h9.box (0,16)=some [.d (.str t.name),.d (.sl (t.cols.map Col.enc)),.d (.sl (t.pk.map encI))]) hm (by simp[*]) ?_ ?_
    ·rintro i9 s9 e9 h9 ⟨hn9,h9_1,h9_22,h9_23,h9_24,hb9_b1⟩ hlt9 hm
     have hw9:IntKind.i64.wrap ((i9:Int)+1)=(i9:Int)+1:=IntWalk.i64_in _ (by omega)
     try simp[*]
     refine r_call (av:=[.one (.d (.str (t.cols[i9].name)))]) hm (fun v hv=>Z6j _ v hv) (by simp[*]) ?_
     clear hm;intro v11 hvv11 hm
     try simp[*]
     refine r_cond hm ?_ ?_<;>clear hm<;>intro hc12 hm
     ·try simp[*]
      obtain rfl:=r_ret hm
      exact ret0 (vs:=[_]) (by simp[*];try exact rfl) (by simp[*])
     ·try simp[*]
      refine r_call (av:=[.agg t.enc,.one (.d (.str (t.cols[i9].name)))]) hm (fun v hv=>Z4h _ _ v hv) (by simp[*]) ?_
      clear hm;intro v13 hvv13 hm
      try simp[*]
      refine r_cond hm ?_ ?_<;>clear hm<;>intro hc14 hm
      ·try simp[*]
       obtain rfl:=r_ret hm
       exact ret0 (vs:=[_]) (by simp[*];try exact rfl) (by simp[*])
      ·try simp[*]
       refine Z0b hm ?_ ?_<;>clear hm<;>intro hc15 hm
       ·try simp[*]
        obtain rfl:=r_ret hm
        exact ret0 (vs:=[_]) (by simp[*];try exact rfl) (by simp[*])
       ·try simp[*]
        refine r_cond hm ?_ ?_<;>clear hm<;>intro hc16 hm
        ·try simp[*]
         obtain rfl:=r_ret hm
         exact ret0 (vs:=[_]) (by simp[*];try exact rfl) (by simp[*])
        ·try simp[*]
         exact BackF.of () ⟨(by simp[*]),hm⟩
    ·rintro s9 e9 h9 ⟨hn9,h9_1,h9_22,h9_23,h9_24,hb9_b1⟩ hm
     try simp[*]
     intro hl17
     replace hl17:t.pk.length≤2097152:=by simpa using hl17
     refine Wait.for (xs:=t.pk) (s0:=()) (fun i18 s18 e18 h18=>e18.n=96∧e18.get 1=.one (.ptr (0,16) 0)∧e18.get 53=.one (.d (.sl (t.pk.map encI)))∧e18.get 54=.one (.d (.int .i64 (t.pk.length:Int)))∧e18.get 55=.one (.d (.int .i64 (i18:Int)))∧h18.box (0,16)=some [.d (.str t.name),.d (.sl (t.cols.map Col.enc)),.d (.sl (t.pk.map encI))]) hm (by simp[*]) ?_ ?_
     ·rintro i18 s18 e18 h18 ⟨hn18,h18_1,h18_53,h18_54,h18_55,hb18_b1⟩ hlt18 hm
      have hw18:IntKind.i64.wrap ((i18:Int)+1)=(i18:Int)+1:=IntWalk.i64_in _ (by omega)
      try simp[*]
      refine Z0b hm ?_ ?_<;>clear hm<;>intro hc19 hm
      ·try simp[*]
       obtain rfl:=r_ret hm
       exact ret0 (vs:=[_]) (by simp[*];try exact rfl) (by simp[*])
      ·try simp[*]
       refine Z0b hm ?_ ?_<;>clear hm<;>intro hc21 hm
       ·try simp[*]
        obtain rfl:=r_ret hm
        exact ret0 (vs:=[_]) (by simp[*];try exact rfl) (by simp[*])
       ·try simp[*]
        replace hm:=hm.get
        obtain⟨x22,h0x22,hxx22,hm⟩:=hm
        try simp[*]
        refine Z0b hm ?_ ?_<;>clear hm<;>intro hc23 hm
        ·try simp[*]
         obtain rfl:=r_ret hm
         exact ret0 (vs:=[_]) (by simp[*];try exact rfl) (by simp[*])
        ·try simp[*]
         refine Z08 hm ?_ ?_<;>clear hm<;>intro hc24 hm
         ·try simp[*]
          replace hm:=hm.chk
          obtain⟨hw25,hm⟩:=hm
          replace hw25:=Z6o hw25
          try simp[*]
          replace hm:=hm.get
          obtain⟨x26,h0x26,hxx26,hm⟩:=hm
          try simp at h0x26
          try simp at hxx26
          try simp[*]
          refine r_cond hm ?_ ?_<;>clear hm<;>intro hc27 hm
          ·try simp[*]
           obtain rfl:=r_ret hm
           exact ret0 (vs:=[_]) (by simp[*];try exact rfl) (by simp[*])
          ·try simp[*]
           exact BackF.of () ⟨(by simp[*]),hm⟩
         ·try simp[*]
          exact BackF.of () ⟨(by simp[*]),hm⟩
     ·rintro s18 e18 h18 ⟨hn18,h18_1,h18_53,h18_54,h18_55,hb18_b1⟩ hm
      try simp[*]
      refine r_cond hm ?_ ?_<;>clear hm<;>intro hc29 hm
      ·try simp[*]
       obtain rfl:=r_ret hm
       exact ret0 (vs:=[_]) (by simp[*];try exact rfl) (by simp[*])
      ·try simp[*]
       obtain rfl:=r_ret hm
       exact ret0 (vs:=[_]) (by simp[*];try exact rfl) (by simp[*])
def Z2w (s_:List Tbl) (f:Tbl→Option Bool):Option Int:=
 (forK (fun (i2:Nat) (x2:Tbl) (s2:Unit) next_2=>(bindK (f x2) fun v3=>(bif v3 then (some (i2:Int)) else (next_2 ())))) (fun (s2:Unit)=>(some (-1))) s_ 0 ())
theorem Z66 (s_:List Tbl) (g:FuncId) (caps:List (List D)) (f:Tbl→Option Bool) (hf:∀ xa v,Is (f xa) v→PSpec Tryz.prog g (.agg xa.enc::capsOf caps) (.one (.d (.bool v)))) (r:Int) (hm:Is (Z2w s_ f) r):PSpec Tryz.prog 93 [.one (.d (.sl (s_.map Tbl.enc))),.one (.fn g caps)] (.one (.d (.int .i64 r))):=by
 unfold Z2w at hm
 refine PSpec.of_vc Tryz.func93 rfl (by kernel_rfl) (n:=19) rfl rfl (by simp) ?_
 try simp[*]
 intro hl1
 replace hl1:s_.length≤2097152:=by simpa using hl1
 refine Wait.for (xs:=s_) (s0:=()) (fun i2 s2 e2 h2=>e2.n=19∧e2.get 0=.one (.d (.sl (s_.map Tbl.enc)))∧e2.get 1=.one (.fn g (caps.map Cap.rp))∧e2.get 7=.one (.d (.int .i64 (s_.length:Int)))∧e2.get 8=.one (.d (.int .i64 (i2:Int)))) hm (by simp[*]) ?_ ?_
 ·rintro i2 s2 e2 h2 ⟨hn2,h2_0,h2_1,h2_7,h2_8⟩ hlt2 hm
  have hw2:IntKind.i64.wrap ((i2:Int)+1)=(i2:Int)+1:=IntWalk.i64_in _ (by omega)
  try simp[*]
  refine Z9i (av:=[.agg (s_[i2]).enc]) (cs:=caps) hm (fun v hv=>hf _ v hv) (by simp[*]) (by simp[*]) ?_
  clear hm;intro v3 hvv3 hm
  try simp[*]
  refine r_cond hm ?_ ?_<;>clear hm<;>intro hc4 hm
  ·try simp[*]
   obtain rfl:=r_ret hm
   exact ret0 (vs:=[_]) (by simp[*];try exact rfl) (by simp[*])
  ·try simp[*]
   exact BackF.of () ⟨(by simp[*]),hm⟩
 ·rintro s2 e2 h2 ⟨hn2,h2_0,h2_1,h2_7,h2_8⟩ hm
  try simp[*]
  obtain rfl:=r_ret hm
  exact ret0 (vs:=[_]) (by simp[*];try exact rfl) (by simp[*])
def Z1e (t:Tbl) (k0:ByteArray):Option Bool:=
 (some (strEq t.name k0))
theorem Zb8 (t:Tbl) (k0:ByteArray) (r:Bool) (hm:Is (Z1e t k0) r):PSpec Tryz.prog 94 [.agg t.enc,.one (.rp [.str k0])] (.one (.d (.bool r))):=by
 unfold Z1e at hm
 refine PSpec.of_vc Tryz.func94 rfl (by kernel_rfl) (n:=8) rfl rfl (by simp) ?_
 try simp[*]
 obtain rfl:=r_ret hm
 exact ret0 (vs:=[_]) (by simp[*];try exact rfl) (by simp[*])
def Z05 (s_:Sch) (name:ByteArray):Option (Int × Bool):=
 (bindK (Z2w s_.tables (fun xa_=>Z1e xa_ name)) fun v3=>(some ((if v3 < 0 then 0 else v3),decide (0≤v3))))
theorem Z06 (s_:Sch) (name:ByteArray) (r:Int × Bool) (hm:Is (Z05 s_ name) r):PSpec Tryz.prog 50 [.agg s_.enc,.one (.d (.str name))] (.tup [.one (.d (.int .i64 r.1)),.one (.d (.bool r.2))]):=by
 unfold Z05 at hm
 refine PSpec.of_vc Tryz.func50 rfl (by kernel_rfl) (n:=15) rfl rfl (by simp) ?_
 try simp[*]
 refine r_call (av:=[.one (.d (.sl (s_.tables.map Tbl.enc))),.one (.fn 94 [[.str name]])]) hm (fun v hv=>Z66 _ 94 [[.str name]] _ (fun xa_ v hv=>Zb8 xa_ _ v hv) v hv) (by simp[*]) ?_
 clear hm;intro v3 hvv3 hm
 try simp[*]
 obtain rfl:=r_ret hm
 exact ret0 (vs:=[_,_]) (by simp[*];try exact⟨rfl,rfl⟩) (by simp[*])
def Z1i (s_:Sch) (fk:Fk):Option Int:=
 (bindK (Z05 s_ fk.table) fun v3=>(bindK (Z05 s_ fk.ref) fun v4=>(bif !v3.2 then (some 4) else (bif !v4.2 then (some 4) else (getK s_.tables v3.1 fun x7=>(getK s_.tables v4.1 fun x8=>(bif ((fk.cols.length:Int) != (x8.pk.length:Int)) then (some 3) else (forK (fun (i34:Nat) (x34:Int) (s34:Unit) next_34=>(bif decide (x34 < 0) then (some 3) else (bif decide ((x7.cols.length:Int)≤x34) then (some 3) else (getK x7.cols x34 fun x38=>(getK x8.pk (i34:Int) fun x39=>(getK x8.cols x39 fun x40=>(bif (x38.kind != x40.kind) then (some 7) else (next_34 ())))))))) (fun (s34:Unit)=>(some 0)) fk.cols 0 ()))))))))
theorem Z83 (s_:Sch) (fk:Fk) (r:Int) (hm:Is (Z1i s_ fk) r):PSpec Tryz.prog 65 [.agg s_.enc,.agg fk.enc] (.one (.d (.int .i64 r))):=by
 unfold Z1i at hm
 refine PSpec.of_vc Tryz.func65 rfl (by kernel_rfl) (n:=85) rfl rfl (by simp) ?_
 try simp[*]
 refine r_call (av:=[.agg s_.enc,.one (.d (.str fk.table))]) hm (fun v hv=>Z06 _ _ v hv) (by simp[*]) ?_
 clear hm;intro v3 hvv3 hm
 try simp[*]
 refine r_call (av:=[.agg s_.enc,.one (.d (.str fk.ref))]) hm (fun v hv=>Z06 _ _ v hv) (by simp[*]) ?_
 clear hm;intro v4 hvv4 hm
 try simp[*]
 refine Z0b hm ?_ ?_<;>clear hm<;>intro hc5 hm
 ·try simp[*]
  obtain rfl:=r_ret hm
  exact ret0 (vs:=[_]) (by simp[*];try exact rfl) (by simp[*])
 ·try simp[*]
  refine r_cond hm ?_ ?_<;>clear hm<;>intro hc6 hm
  ·try simp[*]
   obtain rfl:=r_ret hm
   exact ret0 (vs:=[_]) (by simp[*];try exact rfl) (by simp[*])
  ·try simp[*]
   replace hm:=hm.get
   obtain⟨x7,h0x7,hxx7,hm⟩:=hm
   replace hm:=hm.get
   obtain⟨x8,h0x8,hxx8,hm⟩:=hm
   refine Wait.cut (Plan.then_ [0,1,2,3,4,5,7] (.three 6 10 11 (Plan.then_ [8] (.three 9 10 11 (Plan.then_ [] (.two 10 11 (Plan.then_ [11,12,13] .done) (Plan.then_ [10,12,13] .done))) (Plan.then_ [] (.two 9 11 (Plan.then_ [11,12,13] .done) (Plan.then_ [] (.two 9 12 (Plan.then_ [12,13] .done) (Plan.then_ [9,13] .done))))) (Plan.then_ [] (.two 9 10 (Plan.then_ [10,12,13] .done) (Plan.then_ [] (.two 9 12 (Plan.then_ [12,13] .done) (Plan.then_ [9,13] .done))))))) (Plan.then_ [] (.two 6 11 (Plan.then_ [8] (.two 9 11 (Plan.then_ [11,12,13] .done) (Plan.then_ [] (.two 9 12 (Plan.then_ [12,13] .done) (Plan.then_ [9,13] .done))))) (Plan.then_ [] (.two 6 12 (Plan.then_ [8] (.two 9 12 (Plan.then_ [12,13] .done) (Plan.then_ [9,13] .done))) (Plan.then_ [6,8,9,13] .done))))) (Plan.then_ [] (.two 6 10 (Plan.then_ [8] (.two 9 10 (Plan.then_ [10,12,13] .done) (Plan.then_ [] (.two 9 12 (Plan.then_ [12,13] .done) (Plan.then_ [9,13] .done))))) (Plan.then_ [] (.two 6 12 (Plan.then_ [8] (.two 9 12 (Plan.then_ [12,13] .done) (Plan.then_ [9,13] .done))) (Plan.then_ [6,8,9,13] .done))))))) follows (by kernel_rfl) (fun e11 h11=>∃ n11_b9 n11_b10:Nat,e11.n=85∧e11.get 3=.one (.ptr (1,48) 0)∧e11.get 9=.one (.ptr (n11_b9,144) 0)∧e11.get 10=.one (.ptr (n11_b10,160) 0)∧h11.box (1,48)=some [.d (.str fk.table),.d (.sl (fk.cols.map encI)),.d (.str fk.ref)]∧h11.box (n11_b9,144)=some [.d (.str x7.name),.d (.sl (x7.cols.map Col.enc)),.d (.sl (x7.pk.map encI))]∧h11.box (n11_b10,160)=some [.d (.str x8.name),.d (.sl (x8.cols.map Col.enc)),.d (.sl (x8.pk.map encI))]) ?_ ?_
   ·try simp[*,Plan.then_,vcPlan,Z01,Z00,callKind]
    repeat' (first | with_reducible refine And.intro ?_ ?_ | (refine CutK.of ⟨4,5,?_⟩;(simp (maxDischargeDepth:=20) [*]);done) | (refine CutK.of ⟨5,4,?_⟩;(simp (maxDischargeDepth:=20) [*]);done))
   ·rintro e11 h11 ⟨n11_b9,n11_b10,hn11,h11_3,h11_9,h11_10,hb11_b2,hb11_b9,hb11_b10⟩
    try simp[*]
    intro hl30
    replace hl30:fk.cols.length≤2097152:=by simpa using hl30
    intro hl31
    replace hl31:x8.pk.length≤2097152:=by simpa using hl31
    refine r_cond hm ?_ ?_<;>clear hm<;>intro hc32 hm
    ·try simp[*]
     obtain rfl:=r_ret hm
     exact ret0 (vs:=[_]) (by simp[*];try exact rfl) (by simp[*])
    ·try simp[*]
     refine Wait.for (xs:=fk.cols) (s0:=()) (fun i34 s34 e34 h34=>e34.n=85∧e34.get 9=.one (.ptr (n11_b9,144) 0)∧e34.get 10=.one (.ptr (n11_b10,160) 0)∧e34.get 51=.one (.d (.sl (fk.cols.map encI)))∧e34.get 52=.one (.d (.int .i64 (fk.cols.length:Int)))∧e34.get 53=.one (.d (.int .i64 (i34:Int)))∧h34.box (n11_b9,144)=some [.d (.str x7.name),.d (.sl (x7.cols.map Col.enc)),.d (.sl (x7.pk.map encI))]∧h34.box (n11_b10,160)=some [.d (.str x8.name),.d (.sl (x8.cols.map Col.enc)),.d (.sl (x8.pk.map encI))]) hm (by simp[*]) ?_ ?_
     ·rintro i34 s34 e34 h34 ⟨hn34,h34_9,h34_10,h34_51,h34_52,h34_53,hb34_b9,hb34_b10⟩ hlt34 hm
      have hw34:IntKind.i64.wrap ((i34:Int)+1)=(i34:Int)+1:=IntWalk.i64_in _ (by omega)
      try simp[*]
      refine Z0b hm ?_ ?_<;>clear hm<;>intro hc35 hm
      ·try simp[*]
       obtain rfl:=r_ret hm
       exact ret0 (vs:=[_]) (by simp[*];try exact rfl) (by simp[*])
      ·try simp[*]
       intro hl36
       replace hl36:x7.cols.length≤2097152:=by simpa using hl36
       refine r_cond hm ?_ ?_<;>clear hm<;>intro hc37 hm
       ·try simp[*]
        obtain rfl:=r_ret hm
        exact ret0 (vs:=[_]) (by simp[*];try exact rfl) (by simp[*])
       ·try simp[*]
        refine Wait.of (SWP.draw (Plan.then_ [0,1,2,3,4,5,6,7,8,9,10,11,12,13,14,15,16] .done) follows (by kernel_rfl) ?_)
        try simp[*,Plan.then_,vcPlan,Z01,Z00,callKind]
        replace hm:=hm.get
        obtain⟨x38,h0x38,hxx38,hm⟩:=hm
        try simp[*,Plan.then_,vcPlan,Z01,Z00,callKind]
        replace hm:=hm.getN
        obtain⟨x39,hxx39,hm⟩:=hm
        try simp[*,Plan.then_,vcPlan,Z01,Z00,callKind]
        replace hm:=hm.get
        obtain⟨x40,h0x40,hxx40,hm⟩:=hm
        try simp[*,Plan.then_,vcPlan,Z01,Z00,callKind]
        refine r_cond hm ?_ ?_<;>clear hm<;>intro hc41 hm
        ·try simp[*]
         obtain rfl:=r_ret hm
         exact ret0 (vs:=[_]) (by simp[*];try exact rfl) (by simp[*])
        ·try simp[*]
         exact BackF.of () ⟨(by simp[*]),hm⟩
     ·rintro s34 e34 h34 ⟨hn34,h34_9,h34_10,h34_51,h34_52,h34_53,hb34_b9,hb34_b10⟩ hm
      try simp[*]
      obtain rfl:=r_ret hm
      exact ret0 (vs:=[_]) (by simp[*];try exact rfl) (by simp[*])
def Z0s (s_:List Fk) (f:Fk→Option Bool):Option Int:=
 (forK (fun (i2:Nat) (x2:Fk) (s2:Unit) next_2=>(bindK (f x2) fun v3=>(bif v3 then (some (i2:Int)) else (next_2 ())))) (fun (s2:Unit)=>(some (-1))) s_ 0 ())
theorem Z1w (s_:List Fk) (g:FuncId) (caps:List (List D)) (f:Fk→Option Bool) (hf:∀ xa v,Is (f xa) v→PSpec Tryz.prog g (.agg xa.enc::capsOf caps) (.one (.d (.bool v)))) (r:Int) (hm:Is (Z0s s_ f) r):PSpec Tryz.prog 110 [.one (.d (.sl (s_.map Fk.enc))),.one (.fn g caps)] (.one (.d (.int .i64 r))):=by
 unfold Z0s at hm
 refine PSpec.of_vc Tryz.func110 rfl (by kernel_rfl) (n:=19) rfl rfl (by simp) ?_
 try simp[*]
 intro hl1
 replace hl1:s_.length≤2097152:=by simpa using hl1
 refine Wait.for (xs:=s_) (s0:=()) (fun i2 s2 e2 h2=>e2.n=19∧e2.get 0=.one (.d (.sl (s_.map Fk.enc)))∧e2.get 1=.one (.fn g (caps.map Cap.rp))∧e2.get 7=.one (.d (.int .i64 (s_.length:Int)))∧e2.get 8=.one (.d (.int .i64 (i2:Int)))) hm (by simp[*]) ?_ ?_
 ·rintro i2 s2 e2 h2 ⟨hn2,h2_0,h2_1,h2_7,h2_8⟩ hlt2 hm
  have hw2:IntKind.i64.wrap ((i2:Int)+1)=(i2:Int)+1:=IntWalk.i64_in _ (by omega)
  try simp[*]
  refine Z9i (av:=[.agg (s_[i2]).enc]) (cs:=caps) hm (fun v hv=>hf _ v hv) (by simp[*]) (by simp[*]) ?_
  clear hm;intro v3 hvv3 hm
  try simp[*]
  refine r_cond hm ?_ ?_<;>clear hm<;>intro hc4 hm
  ·try simp[*]
   obtain rfl:=r_ret hm
   exact ret0 (vs:=[_]) (by simp[*];try exact rfl) (by simp[*])
  ·try simp[*]
   exact BackF.of () ⟨(by simp[*]),hm⟩
 ·rintro s2 e2 h2 ⟨hn2,h2_0,h2_1,h2_7,h2_8⟩ hm
  try simp[*]
  obtain rfl:=r_ret hm
  exact ret0 (vs:=[_]) (by simp[*];try exact rfl) (by simp[*])
def Z0a (s_:List Fk) (f:Fk→Option Bool):Option Bool:=
 (bindK (Z0s s_ f) fun v1=>(some (decide (0≤v1))))
theorem Z0u (s_:List Fk) (g:FuncId) (caps:List (List D)) (f:Fk→Option Bool) (hf:∀ xa v,Is (f xa) v→PSpec Tryz.prog g (.agg xa.enc::capsOf caps) (.one (.d (.bool v)))) (r:Bool) (hm:Is (Z0a s_ f) r):PSpec Tryz.prog 66 [.one (.d (.sl (s_.map Fk.enc))),.one (.fn g caps)] (.one (.d (.bool r))):=by
 unfold Z0a at hm
 refine PSpec.of_vc Tryz.func66 rfl (by kernel_rfl) (n:=9) rfl rfl (by simp) ?_
 try simp[*]
 refine r_call (av:=[.one (.d (.sl (s_.map Fk.enc))),.one (.fn g caps)]) hm (fun v hv=>Z1w _ g caps _ hf v hv) (by simp[*]) ?_
 clear hm;intro v1 hvv1 hm
 try simp[*]
 obtain rfl:=r_ret hm
 exact ret0 (vs:=[_]) (by simp[*];try exact rfl) (by simp[*])
def Z12 (s1:List Int) (s2:List Int):Option Bool:=
 (bif ((s1.length:Int) != (s2.length:Int)) then (some false) else (forK (fun (i5:Nat) (x5:Int) (s5:Unit) next_5=>(getK s2 (i5:Int) fun x6=>(bif (x5 != x6) then (some false) else (next_5 ())))) (fun (s5:Unit)=>(some true)) s1 0 ()))
theorem Z31 (s1:List Int) (s2:List Int) (r:Bool) (hm:Is (Z12 s1 s2) r):PSpec Tryz.prog 20 [.one (.d (.sl (s1.map encI))),.one (.d (.sl (s2.map encI)))] (.one (.d (.bool r))):=by
 unfold Z12 at hm
 refine PSpec.of_vc Tryz.func20 rfl (by kernel_rfl) (n:=26) rfl rfl (by simp) ?_
 try simp[*]
 intro hl1
 replace hl1:s1.length≤2097152:=by simpa using hl1
 intro hl2
 replace hl2:s2.length≤2097152:=by simpa using hl2
 refine r_cond hm ?_ ?_<;>clear hm<;>intro hc3 hm
 ·try simp[*]
  obtain rfl:=r_ret hm
  exact ret0 (vs:=[_]) (by simp[*];try exact rfl) (by simp[*])
 ·try simp[*]
  refine Wait.for (xs:=s1) (s0:=()) (fun i5 s5 e5 h5=>e5.n=26∧e5.get 0=.one (.d (.sl (s1.map encI)))∧e5.get 1=.one (.d (.sl (s2.map encI)))∧e5.get 12=.one (.d (.int .i64 (s1.length:Int)))∧e5.get 13=.one (.d (.int .i64 (i5:Int)))) hm (by simp[*]) ?_ ?_
  ·rintro i5 s5 e5 h5 ⟨hn5,h5_0,h5_1,h5_12,h5_13⟩ hlt5 hm
   have hw5:IntKind.i64.wrap ((i5:Int)+1)=(i5:Int)+1:=IntWalk.i64_in _ (by omega)
   try simp[*]
   refine Wait.of (SWP.draw (Plan.then_ [0,1,2,3,4,5,6,7,8] .done) follows (by kernel_rfl) ?_)
   try simp[*,Plan.then_,vcPlan,Z01,Z00,callKind]
   replace hm:=hm.getN
   obtain⟨x6,hxx6,hm⟩:=hm
   try simp[*,Plan.then_,vcPlan,Z01,Z00,callKind]
   refine r_cond hm ?_ ?_<;>clear hm<;>intro hc7 hm
   ·try simp[*]
    obtain rfl:=r_ret hm
    exact ret0 (vs:=[_]) (by simp[*];try exact rfl) (by simp[*])
   ·try simp[*]
    exact BackF.of () ⟨(by simp[*]),hm⟩
  ·rintro s5 e5 h5 ⟨hn5,h5_0,h5_1,h5_12,h5_13⟩ hm
   try simp[*]
   obtain rfl:=r_ret hm
   exact ret0 (vs:=[_]) (by simp[*];try exact rfl) (by simp[*])
def Z0i (a:Fk) (b:Fk):Option Bool:=
 (bif strEq a.table b.table then (bindK (Z12 a.cols b.cols) fun v4=>(bif v4 then (some (strEq a.ref b.ref)) else (some false))) else (some false))
theorem Z2r (a:Fk) (b:Fk) (r:Bool) (hm:Is (Z0i a b) r):PSpec Tryz.prog 68 [.agg a.enc,.agg b.enc] (.one (.d (.bool r))):=by
 unfold Z0i at hm
 refine PSpec.of_vc Tryz.func68 rfl (by kernel_rfl) (n:=24) rfl rfl (by simp) ?_
 try simp[*]
 refine Z08 hm ?_ ?_<;>clear hm<;>intro hc3 hm
 ·try simp[*]
  refine r_call (av:=[.one (.d (.sl (a.cols.map encI))),.one (.d (.sl (b.cols.map encI)))]) hm (fun v hv=>Z31 _ _ v hv) (by simp[*]) ?_
  clear hm;intro v4 hvv4 hm
  try simp[*]
  refine Z08 hm ?_ ?_<;>clear hm<;>intro hc5 hm
  ·try simp[*]
   obtain rfl:=r_ret hm
   exact ret0 (vs:=[_]) (by simp[*];try exact rfl) (by simp[*])
  ·try simp[*]
   obtain rfl:=r_ret hm
   exact ret0 (vs:=[_]) (by simp[*];try exact rfl) (by simp[*])
 ·try simp[*]
  obtain rfl:=r_ret hm
  exact ret0 (vs:=[_]) (by simp[*];try exact rfl) (by simp[*])
def Z3j (other:Fk) (k0:Fk):Option Bool:=
 (bindK (Z0i other k0) fun v2=>(some v2))
theorem Zbu (other:Fk) (k0:Fk) (r:Bool) (hm:Is (Z3j other k0) r):PSpec Tryz.prog 67 [.agg other.enc,.one (.rp [.str k0.table,.sl (k0.cols.map encI),.str k0.ref])] (.one (.d (.bool r))):=by
 unfold Z3j at hm
 refine PSpec.of_vc Tryz.func67 rfl (by kernel_rfl) (n:=7) rfl rfl (by simp) ?_
 try simp[*]
 refine r_call (av:=[.agg other.enc,.agg k0.enc]) hm (fun v hv=>Z2r _ _ v hv) (by simp[*]) ?_
 clear hm;intro v2 hvv2 hm
 try simp[*]
 obtain rfl:=r_ret hm
 exact ret0 (vs:=[_]) (by simp[*];try exact rfl) (by simp[*])
def Z0d (v_:GV):Option Int:=
 (bif (v_.kind == 0) then (bif (v_.int != 0) then (some 3) else (bif !(strEq v_.text ByteArray.empty) then (some 3) else (some 0))) else (bif (v_.kind == 1) then (bif !(strEq v_.text ByteArray.empty) then (some 3) else (bif (v_.kind == 2) then (bif (v_.int != 0) then (bif (v_.int != 1) then (some 1) else (bif decide (v_.int < (-1000000000000)) then (some 1) else (bif decide (1000000000000 < v_.int) then (some 1) else (some 0)))) else (bif decide (v_.int < (-1000000000000)) then (some 1) else (bif decide (1000000000000 < v_.int) then (some 1) else (some 0)))) else (bif decide (v_.int < (-1000000000000)) then (some 1) else (bif decide (1000000000000 < v_.int) then (some 1) else (some 0))))) else (bif (v_.kind == 2) then (bif !(strEq v_.text ByteArray.empty) then (some 3) else (bif (v_.int != 0) then (bif (v_.int != 1) then (some 1) else (bif decide (v_.int < (-1000000000000)) then (some 1) else (bif decide (1000000000000 < v_.int) then (some 1) else (some 0)))) else (bif decide (v_.int < (-1000000000000)) then (some 1) else (bif decide (1000000000000 < v_.int) then (some 1) else (some 0))))) else (bif (v_.kind == 3) then (bif (v_.int != 0) then (some 3) else (bif decide (24 < (v_.text.size:Int)) then (some 2) else (some 0))) else (some 7)))))
theorem Z1a (v_:GV) (r:Int) (hm:Is (Z0d v_) r):PSpec Tryz.prog 106 [.agg v_.enc] (.one (.d (.int .i64 r))):=by
 unfold Z0d at hm
 refine PSpec.of_vc Tryz.func106 rfl (by kernel_rfl) (n:=53) rfl rfl (by simp) ?_
 try simp[*]
 refine r_cond hm ?_ ?_<;>clear hm<;>intro hc2 hm
 ·try simp[*]
  refine Z0b hm ?_ ?_<;>clear hm<;>intro hc3 hm
  ·try simp[*]
   obtain rfl:=r_ret hm
   exact ret0 (vs:=[_]) (by simp[*];try exact rfl) (by simp[*])
  ·try simp[*]
   refine r_cond hm ?_ ?_<;>clear hm<;>intro hc4 hm
   ·try simp[*]
    obtain rfl:=r_ret hm
    exact ret0 (vs:=[_]) (by simp[*];try exact rfl) (by simp[*])
   ·try simp[*]
    obtain rfl:=r_ret hm
    exact ret0 (vs:=[_]) (by simp[*];try exact rfl) (by simp[*])
 ·try simp[*]
  refine r_cond hm ?_ ?_<;>clear hm<;>intro hc5 hm
  ·try simp[*]
   refine r_cond hm ?_ ?_<;>clear hm<;>intro hc6 hm
   ·try simp[*]
    obtain rfl:=r_ret hm
    exact ret0 (vs:=[_]) (by simp[*];try exact rfl) (by simp[*])
   ·try simp[*]
    refine Z08 hm ?_ ?_<;>clear hm<;>intro hc7 hm
    ·try simp[*]
     refine Z08 hm ?_ ?_<;>clear hm<;>intro hc8 hm
     ·try simp[*]
      refine Z0b hm ?_ ?_<;>clear hm<;>intro hc9 hm
      ·try simp[*]
       obtain rfl:=r_ret hm
       exact ret0 (vs:=[_]) (by simp[*];try exact rfl) (by simp[*])
      ·try simp[*]
       refine Z0b hm ?_ ?_<;>clear hm<;>intro hc10 hm
       ·try simp[*]
        obtain rfl:=r_ret hm
        exact ret0 (vs:=[_]) (by simp[*];try exact rfl) (by simp[*])
       ·try simp[*]
        refine r_cond hm ?_ ?_<;>clear hm<;>intro hc11 hm
        ·try simp[*]
         obtain rfl:=r_ret hm
         exact ret0 (vs:=[_]) (by simp[*];try exact rfl) (by simp[*])
        ·try simp[*]
         obtain rfl:=r_ret hm
         exact ret0 (vs:=[_]) (by simp[*];try exact rfl) (by simp[*])
     ·try simp[*]
      refine Z0b hm ?_ ?_<;>clear hm<;>intro hc12 hm
      ·try simp[*]
       obtain rfl:=r_ret hm
       exact ret0 (vs:=[_]) (by simp[*];try exact rfl) (by simp[*])
      ·try simp[*]
       refine r_cond hm ?_ ?_<;>clear hm<;>intro hc13 hm
       ·try simp[*]
        obtain rfl:=r_ret hm
        exact ret0 (vs:=[_]) (by simp[*];try exact rfl) (by simp[*])
       ·try simp[*]
        obtain rfl:=r_ret hm
        exact ret0 (vs:=[_]) (by simp[*];try exact rfl) (by simp[*])
    ·try simp[*]
     refine Z0b hm ?_ ?_<;>clear hm<;>intro hc14 hm
     ·try simp[*]
      obtain rfl:=r_ret hm
      exact ret0 (vs:=[_]) (by simp[*];try exact rfl) (by simp[*])
     ·try simp[*]
      refine r_cond hm ?_ ?_<;>clear hm<;>intro hc15 hm
      ·try simp[*]
       obtain rfl:=r_ret hm
       exact ret0 (vs:=[_]) (by simp[*];try exact rfl) (by simp[*])
      ·try simp[*]
       obtain rfl:=r_ret hm
       exact ret0 (vs:=[_]) (by simp[*];try exact rfl) (by simp[*])
  ·try simp[*]
   refine r_cond hm ?_ ?_<;>clear hm<;>intro hc16 hm
   ·try simp[*]
    refine r_cond hm ?_ ?_<;>clear hm<;>intro hc17 hm
    ·try simp[*]
     obtain rfl:=r_ret hm
     exact ret0 (vs:=[_]) (by simp[*];try exact rfl) (by simp[*])
    ·try simp[*]
     refine Z08 hm ?_ ?_<;>clear hm<;>intro hc18 hm
     ·try simp[*]
      refine Z0b hm ?_ ?_<;>clear hm<;>intro hc19 hm
      ·try simp[*]
       obtain rfl:=r_ret hm
       exact ret0 (vs:=[_]) (by simp[*];try exact rfl) (by simp[*])
      ·try simp[*]
       refine Z0b hm ?_ ?_<;>clear hm<;>intro hc20 hm
       ·try simp[*]
        obtain rfl:=r_ret hm
        exact ret0 (vs:=[_]) (by simp[*];try exact rfl) (by simp[*])
       ·try simp[*]
        refine r_cond hm ?_ ?_<;>clear hm<;>intro hc21 hm
        ·try simp[*]
         obtain rfl:=r_ret hm
         exact ret0 (vs:=[_]) (by simp[*];try exact rfl) (by simp[*])
        ·try simp[*]
         obtain rfl:=r_ret hm
         exact ret0 (vs:=[_]) (by simp[*];try exact rfl) (by simp[*])
     ·try simp[*]
      refine Z0b hm ?_ ?_<;>clear hm<;>intro hc22 hm
      ·try simp[*]
       obtain rfl:=r_ret hm
       exact ret0 (vs:=[_]) (by simp[*];try exact rfl) (by simp[*])
      ·try simp[*]
       refine r_cond hm ?_ ?_<;>clear hm<;>intro hc23 hm
       ·try simp[*]
        obtain rfl:=r_ret hm
        exact ret0 (vs:=[_]) (by simp[*];try exact rfl) (by simp[*])
       ·try simp[*]
        obtain rfl:=r_ret hm
        exact ret0 (vs:=[_]) (by simp[*];try exact rfl) (by simp[*])
   ·try simp[*]
    refine r_cond hm ?_ ?_<;>clear hm<;>intro hc24 hm
    ·try simp[*]
     refine r_cond hm ?_ ?_<;>clear hm<;>intro hc25 hm
     ·try simp[*]
      obtain rfl:=r_ret hm
      exact ret0 (vs:=[_]) (by simp[*];try exact rfl) (by simp[*])
     ·try simp[*]
      refine r_cond hm ?_ ?_<;>clear hm<;>intro hc26 hm
      ·try simp[*]
       obtain rfl:=r_ret hm
       exact ret0 (vs:=[_]) (by simp[*];try exact rfl) (by simp[*])
      ·try simp[*]
       obtain rfl:=r_ret hm
       exact ret0 (vs:=[_]) (by simp[*];try exact rfl) (by simp[*])
    ·try simp[*]
     obtain rfl:=r_ret hm
     exact ret0 (vs:=[_]) (by simp[*];try exact rfl) (by simp[*])
def Z1h (a:Int) (b:Int):Option Int:=
 (bif decide (a < b) then (some (-1)) else (bif decide (b < a) then (some 1) else (some 0)))
theorem Z62 (a:Int) (b:Int) (r:Int) (hm:Is (Z1h a b) r):PSpec Tryz.prog 108 [.one (.d (.int .i64 a)),.one (.d (.int .i64 b))] (.one (.d (.int .i64 r))):=by
 unfold Z1h at hm
 refine PSpec.of_vc Tryz.func108 rfl (by kernel_rfl) (n:=13) rfl rfl (by simp) ?_
 try simp[*]
 refine r_cond hm ?_ ?_<;>clear hm<;>intro hc1 hm
 ·try simp[*]
  obtain rfl:=r_ret hm
  exact ret0 (vs:=[_]) (by simp[*];try exact rfl) (by simp[*])
 ·try simp[*]
  refine r_cond hm ?_ ?_<;>clear hm<;>intro hc2 hm
  ·try simp[*]
   obtain rfl:=r_ret hm
   exact ret0 (vs:=[_]) (by simp[*];try exact rfl) (by simp[*])
  ·try simp[*]
   obtain rfl:=r_ret hm
   exact ret0 (vs:=[_]) (by simp[*];try exact rfl) (by simp[*])
def Z1s (a:GV) (b:GV):Option Int:=
 (bindK (Z1h a.kind b.kind) fun v3=>(bif (v3 != 0) then (some v3) else (bindK (Z1h a.int b.int) fun v5=>(bif (v5 != 0) then (some v5) else (bindK (Z47 a.text b.text) fun v7=>(some v7))))))
theorem Z6i (a:GV) (b:GV) (r:Int) (hm:Is (Z1s a b) r):PSpec Tryz.prog 107 [.agg a.enc,.agg b.enc] (.one (.d (.int .i64 r))):=by
 unfold Z1s at hm
 refine PSpec.of_vc Tryz.func107 rfl (by kernel_rfl) (n:=28) rfl rfl (by simp) ?_
 try simp[*]
 refine r_call (av:=[.one (.d (.int .i64 a.kind)),.one (.d (.int .i64 b.kind))]) hm (fun v hv=>Z62 _ _ v hv) (by simp[*]) ?_
 clear hm;intro v3 hvv3 hm
 try simp[*]
 refine r_cond hm ?_ ?_<;>clear hm<;>intro hc4 hm
 ·try simp[*]
  obtain rfl:=r_ret hm
  exact ret0 (vs:=[_]) (by simp[*];try exact rfl) (by simp[*])
 ·try simp[*]
  refine r_call (av:=[.one (.d (.int .i64 a.int)),.one (.d (.int .i64 b.int))]) hm (fun v hv=>Z62 _ _ v hv) (by simp[*]) ?_
  clear hm;intro v5 hvv5 hm
  try simp[*]
  refine r_cond hm ?_ ?_<;>clear hm<;>intro hc6 hm
  ·try simp[*]
   obtain rfl:=r_ret hm
   exact ret0 (vs:=[_]) (by simp[*];try exact rfl) (by simp[*])
  ·try simp[*]
   refine r_call (av:=[.one (.d (.str a.text)),.one (.d (.str b.text))]) hm (fun v hv=>Z98 _ _ v hv) (by simp[*]) ?_
   clear hm;intro v7 hvv7 hm
   try simp[*]
   obtain rfl:=r_ret hm
   exact ret0 (vs:=[_]) (by simp[*];try exact rfl) (by simp[*])
def Z1z (a:GV) (op:ByteArray) (b:GV):Option (Bool × Int):=
 (bif !(strEq op ({ data:=#[61] })) then (bif !(strEq op ({ data:=#[60] })) then (bif !(strEq op ({ data:=#[60,61] })) then (some (false,3)) else (bif (a.kind == 0) then (some (true,0)) else (bif (b.kind == 0) then (some (true,0)) else (bindK (Z1s a b) fun v8=>(bif (v8 == 0) then (some (true,0)) else (bif decide (v8 < 0) then (some (!(strEq op ({ data:=#[61] })),0)) else (some (false,0)))))))) else (bif (a.kind == 0) then (some (true,0)) else (bif (b.kind == 0) then (some (true,0)) else (bindK (Z1s a b) fun v13=>(bif (v13 == 0) then (bif decide (v13 < 0) then (some (!(strEq op ({ data:=#[61] })),0)) else (some (false,0))) else (bif decide (v13 < 0) then (some (!(strEq op ({ data:=#[61] })),0)) else (some (false,0)))))))) else (bif (a.kind == 0) then (some (true,0)) else (bif (b.kind == 0) then (some (true,0)) else (bindK (Z1s a b) fun v19=>(bif (v19 == 0) then (bif !(strEq op ({ data:=#[60] })) then (some (true,0)) else (bif decide (v19 < 0) then (some (!(strEq op ({ data:=#[61] })),0)) else (some (false,0)))) else (bif decide (v19 < 0) then (some (!(strEq op ({ data:=#[61] })),0)) else (some (false,0))))))))
theorem Z5e (a:GV) (op:ByteArray) (b:GV) (r:Bool × Int) (hm:Is (Z1z a op b) r):PSpec Tryz.prog 111 [.agg a.enc,.one (.d (.str op)),.agg b.enc] (.tup [.one (.d (.bool r.1)),.one (.d (.int .i64 r.2))]):=by
 unfold Z1z at hm
 refine PSpec.of_vc Tryz.func111 rfl (by kernel_rfl) (n:=44) rfl rfl (by simp) ?_
 try simp[*]
 refine Z08 hm ?_ ?_<;>clear hm<;>intro hc3 hm
 ·try simp[*]
  refine Z08 hm ?_ ?_<;>clear hm<;>intro hc4 hm
  ·try simp[*]
   refine r_cond hm ?_ ?_<;>clear hm<;>intro hc5 hm
   ·try simp[*]
    obtain rfl:=r_ret hm
    exact ret0 (vs:=[_,_]) (by simp[*];try exact⟨rfl,rfl⟩) (by simp[*])
   ·try simp[*]
    refine Z0b hm ?_ ?_<;>clear hm<;>intro hc6 hm
    ·try simp[*]
     obtain rfl:=r_ret hm
     exact ret0 (vs:=[_,_]) (by simp[*];try exact⟨rfl,rfl⟩) (by simp[*])
    ·try simp[*]
     refine r_cond hm ?_ ?_<;>clear hm<;>intro hc7 hm
     ·try simp[*]
      obtain rfl:=r_ret hm
      exact ret0 (vs:=[_,_]) (by simp[*];try exact⟨rfl,rfl⟩) (by simp[*])
     ·try simp[*]
      refine r_call (av:=[.agg a.enc,.agg b.enc]) hm (fun v hv=>Z6i _ _ v hv) (by simp[*]) ?_
      clear hm;intro v8 hvv8 hm
      try simp[*]
      refine Z08 hm ?_ ?_<;>clear hm<;>intro hc9 hm
      ·try simp[*]
       obtain rfl:=r_ret hm
       exact ret0 (vs:=[_,_]) (by simp[*];try exact⟨rfl,rfl⟩) (by simp[*])
      ·try simp[*]
       refine Z08 hm ?_ ?_<;>clear hm<;>intro hc10 hm
       ·try simp[*]
        obtain rfl:=r_ret hm
        exact ret0 (vs:=[_,_]) (by simp[*];try exact⟨rfl,rfl⟩) (by simp[*])
       ·try simp[*]
        obtain rfl:=r_ret hm
        exact ret0 (vs:=[_,_]) (by simp[*];try exact⟨rfl,rfl⟩) (by simp[*])
  ·try simp[*]
   refine Z0b hm ?_ ?_<;>clear hm<;>intro hc11 hm
   ·try simp[*]
    obtain rfl:=r_ret hm
    exact ret0 (vs:=[_,_]) (by simp[*];try exact⟨rfl,rfl⟩) (by simp[*])
   ·try simp[*]
    refine r_cond hm ?_ ?_<;>clear hm<;>intro hc12 hm
    ·try simp[*]
     obtain rfl:=r_ret hm
     exact ret0 (vs:=[_,_]) (by simp[*];try exact⟨rfl,rfl⟩) (by simp[*])
    ·try simp[*]
     refine r_call (av:=[.agg a.enc,.agg b.enc]) hm (fun v hv=>Z6i _ _ v hv) (by simp[*]) ?_
     clear hm;intro v13 hvv13 hm
     try simp[*]
     refine Z08 hm ?_ ?_<;>clear hm<;>intro hc14 hm
     ·try simp[*]
      refine Z08 hm ?_ ?_<;>clear hm<;>intro hc15 hm
      ·try simp[*]
       obtain rfl:=r_ret hm
       exact ret0 (vs:=[_,_]) (by simp[*];try exact⟨rfl,rfl⟩) (by simp[*])
      ·try simp[*]
       obtain rfl:=r_ret hm
       exact ret0 (vs:=[_,_]) (by simp[*];try exact⟨rfl,rfl⟩) (by simp[*])
     ·try simp[*]
      refine Z08 hm ?_ ?_<;>clear hm<;>intro hc16 hm
      ·try simp[*]
       obtain rfl:=r_ret hm
       exact ret0 (vs:=[_,_]) (by simp[*];try exact⟨rfl,rfl⟩) (by simp[*])
      ·try simp[*]
       obtain rfl:=r_ret hm
       exact ret0 (vs:=[_,_]) (by simp[*];try exact⟨rfl,rfl⟩) (by simp[*])
 ·try simp[*]
  refine Z0b hm ?_ ?_<;>clear hm<;>intro hc17 hm
  ·try simp[*]
   obtain rfl:=r_ret hm
   exact ret0 (vs:=[_,_]) (by simp[*];try exact⟨rfl,rfl⟩) (by simp[*])
  ·try simp[*]
   refine r_cond hm ?_ ?_<;>clear hm<;>intro hc18 hm
   ·try simp[*]
    obtain rfl:=r_ret hm
    exact ret0 (vs:=[_,_]) (by simp[*];try exact⟨rfl,rfl⟩) (by simp[*])
   ·try simp[*]
    refine r_call (av:=[.agg a.enc,.agg b.enc]) hm (fun v hv=>Z6i _ _ v hv) (by simp[*]) ?_
    clear hm;intro v19 hvv19 hm
    try simp[*]
    refine Z08 hm ?_ ?_<;>clear hm<;>intro hc20 hm
    ·try simp[*]
     refine Z0b hm ?_ ?_<;>clear hm<;>intro hc21 hm
     ·try simp[*]
      obtain rfl:=r_ret hm
      exact ret0 (vs:=[_,_]) (by simp[*];try exact⟨rfl,rfl⟩) (by simp[*])
     ·try simp[*]
      refine Z08 hm ?_ ?_<;>clear hm<;>intro hc22 hm
      ·try simp[*]
       obtain rfl:=r_ret hm
       exact ret0 (vs:=[_,_]) (by simp[*];try exact⟨rfl,rfl⟩) (by simp[*])
      ·try simp[*]
       obtain rfl:=r_ret hm
       exact ret0 (vs:=[_,_]) (by simp[*];try exact⟨rfl,rfl⟩) (by simp[*])
    ·try simp[*]
     refine Z08 hm ?_ ?_<;>clear hm<;>intro hc23 hm
     ·try simp[*]
      obtain rfl:=r_ret hm
      exact ret0 (vs:=[_,_]) (by simp[*];try exact⟨rfl,rfl⟩) (by simp[*])
     ·try simp[*]
      obtain rfl:=r_ret hm
      exact ret0 (vs:=[_,_]) (by simp[*];try exact⟨rfl,rfl⟩) (by simp[*])
def Z1j (s_:Sch) (c:Cons):Option Int:=
 (bindK (Z05 s_ c.table) fun v3=>(bif !v3.2 then (some 4) else (getK s_.tables v3.1 fun x5=>(bindK (Z1z (GV.mk 0 0 ByteArray.empty) c.op (GV.mk 0 0 ByteArray.empty)) fun v6=>(bif decide (c.left < 0) then (some 3) else (bif decide ((x5.cols.length:Int)≤c.left) then (some 3) else (bif (v6.2 != 0) then (some 3) else (bif decide (c.right < (-1)) then (some 3) else (bif decide ((x5.cols.length:Int)≤c.right) then (some 3) else (bif decide (0≤c.right) then (bif (!(c.value.kind == 0) || (!(c.value.int == 0) || (!(c.value.text == ByteArray.empty)))) then (some 3) else (getK x5.cols c.left fun x16=>(getK x5.cols c.right fun x17=>(bif (x16.kind != x17.kind) then (some 7) else (some 0))))) else (getK x5.cols c.left fun x19=>(bif (c.value.kind != x19.kind) then (some 7) else (bindK (Z0d c.value) fun v21=>(some v21))))))))))))))
theorem Z84 (s_:Sch) (c:Cons) (r:Int) (hm:Is (Z1j s_ c) r):PSpec Tryz.prog 69 [.agg s_.enc,.agg c.enc] (.one (.d (.int .i64 r))):=by
 unfold Z1j at hm
 refine PSpec.of_vc Tryz.func69 rfl (by kernel_rfl) (n:=99) rfl rfl (by simp) ?_
 try simp[*]
 refine r_call (av:=[.agg s_.enc,.one (.d (.str c.table))]) hm (fun v hv=>Z06 _ _ v hv) (by simp[*]) ?_
 clear hm;intro v3 hvv3 hm
 try simp[*]
 refine r_cond hm ?_ ?_<;>clear hm<;>intro hc4 hm
 ·try simp[*]
  obtain rfl:=r_ret hm
  exact ret0 (vs:=[_]) (by simp[*];try exact rfl) (by simp[*])
 ·try simp[*]
  replace hm:=hm.get
  obtain⟨x5,h0x5,hxx5,hm⟩:=hm
  try simp[*]
  refine r_call (av:=[.agg (GV.mk 0 0 ByteArray.empty).enc,.one (.d (.str c.op)),.agg (GV.mk 0 0 ByteArray.empty).enc]) hm (fun v hv=>Z5e _ _ _ v hv) (by simp[*]) ?_
  clear hm;intro v6 hvv6 hm
  try simp[*]
  refine Z0b hm ?_ ?_<;>clear hm<;>intro hc7 hm
  ·try simp[*]
   obtain rfl:=r_ret hm
   exact ret0 (vs:=[_]) (by simp[*];try exact rfl) (by simp[*])
  ·try simp[*]
   intro hl8
   replace hl8:x5.cols.length≤2097152:=by simpa using hl8
   refine Z0b hm ?_ ?_<;>clear hm<;>intro hc9 hm
   ·try simp[*]
    obtain rfl:=r_ret hm
    exact ret0 (vs:=[_]) (by simp[*];try exact rfl) (by simp[*])
   ·try simp[*]
    refine Z0b hm ?_ ?_<;>clear hm<;>intro hc10 hm
    ·try simp[*]
     obtain rfl:=r_ret hm
     exact ret0 (vs:=[_]) (by simp[*];try exact rfl) (by simp[*])
    ·try simp[*]
     refine Z0b hm ?_ ?_<;>clear hm<;>intro hc11 hm
     ·try simp[*]
      obtain rfl:=r_ret hm
      exact ret0 (vs:=[_]) (by simp[*];try exact rfl) (by simp[*])
     ·try simp[*]
      refine Z0b hm ?_ ?_<;>clear hm<;>intro hc13 hm
      ·try simp[*]
       obtain rfl:=r_ret hm
       exact ret0 (vs:=[_]) (by simp[*];try exact rfl) (by simp[*])
      ·try simp[*]
       refine Z08 hm ?_ ?_<;>clear hm<;>intro hc14 hm
       ·try simp[*]
        refine r_cond hm ?_ ?_<;>clear hm<;>intro hc15 hm
        ·try simp[*]
         obtain rfl:=r_ret hm
         exact ret0 (vs:=[_]) (by simp[*];try exact rfl) (by simp[*])
        ·try simp[*]
         refine Wait.of (SWP.draw (Plan.then_ [0,1,2,3,4,5,6,7,8,9,10,11,12] .done) follows (by kernel_rfl) ?_)
         try simp[*,Plan.then_,vcPlan,Z01,Z00,callKind]
         replace hm:=hm.get
         obtain⟨x16,h0x16,hxx16,hm⟩:=hm
         try simp[*,Plan.then_,vcPlan,Z01,Z00,callKind]
         replace hm:=hm.get
         obtain⟨x17,h0x17,hxx17,hm⟩:=hm
         try simp[*,Plan.then_,vcPlan,Z01,Z00,callKind]
         refine r_cond hm ?_ ?_<;>clear hm<;>intro hc18 hm
         ·try simp[*]
          obtain rfl:=r_ret hm
          exact ret0 (vs:=[_]) (by simp[*];try exact rfl) (by simp[*])
         ·try simp[*]
          obtain rfl:=r_ret hm
          exact ret0 (vs:=[_]) (by simp[*];try exact rfl) (by simp[*])
       ·try simp[*]
        refine Wait.of (SWP.draw (Plan.then_ [0,1,2,3,4,5,6,7,8,9] .done) follows (by kernel_rfl) ?_)
        try simp[*,Plan.then_,vcPlan,Z01,Z00,callKind]
        replace hm:=hm.get
        obtain⟨x19,h0x19,hxx19,hm⟩:=hm
        try simp[*,Plan.then_,vcPlan,Z01,Z00,callKind]
        refine r_cond hm ?_ ?_<;>clear hm<;>intro hc20 hm
        ·try simp[*]
         obtain rfl:=r_ret hm
         exact ret0 (vs:=[_]) (by simp[*];try exact rfl) (by simp[*])
        ·try simp[*]
         refine r_call (av:=[.agg c.value.enc]) hm (fun v hv=>Z1a _ v hv) (by simp[*]) ?_
         clear hm;intro v21 hvv21 hm
         try simp[*]
         obtain rfl:=r_ret hm
         exact ret0 (vs:=[_]) (by simp[*];try exact rfl) (by simp[*])
def Z1b (s_:List Cons) (v_:Cons):Option Int:=
 (forK (fun (i3:Nat) (x3:Cons) (s3:Unit) next_3=>(bif (v_.table == x3.table && (v_.left == x3.left && (v_.op == x3.op && (v_.right == x3.right && (v_.value.kind == x3.value.kind && (v_.value.int == x3.value.int && (v_.value.text == x3.value.text))))))) then (some (i3:Int)) else (next_3 ()))) (fun (s3:Unit)=>(some (-1))) s_ 0 ())
theorem Z5q (s_:List Cons) (v_:Cons) (r:Int) (hm:Is (Z1b s_ v_) r):PSpec Tryz.prog 112 [.one (.d (.sl (s_.map Cons.enc))),.agg v_.enc] (.one (.d (.int .i64 r))):=by
 unfold Z1b at hm
 refine PSpec.of_vc Tryz.func112 rfl (by kernel_rfl) (n:=19) rfl rfl (by simp) ?_
 try simp[*]
 intro hl2
 replace hl2:s_.length≤2097152:=by simpa using hl2
 refine Wait.for (xs:=s_) (s0:=()) (fun i3 s3 e3 h3=>e3.n=19∧e3.get 0=.one (.d (.sl (s_.map Cons.enc)))∧e3.get 3=.one (.ptr (0,48) 0)∧e3.get 7=.one (.d (.int .i64 (s_.length:Int)))∧e3.get 8=.one (.d (.int .i64 (i3:Int)))∧h3.box (0,48)=some [.d (.str v_.table),.d (.int .i64 v_.left),.d (.str v_.op),.d (.int .i64 v_.right),.d (.int .i64 v_.value.kind),.d (.int .i64 v_.value.int),.d (.str v_.value.text)]) hm (by simp[*]) ?_ ?_
 ·rintro i3 s3 e3 h3 ⟨hn3,h3_0,h3_3,h3_7,h3_8,hb3_b1⟩ hlt3 hm
  have hw3:IntKind.i64.wrap ((i3:Int)+1)=(i3:Int)+1:=IntWalk.i64_in _ (by omega)
  try simp[*]
  refine Wait.of (SWP.draw (Plan.then_ [0,1,2,3,4,5] .done) follows (by kernel_rfl) ?_)
  try simp[*,Plan.then_,vcPlan,Z01,Z00,callKind]
  refine r_cond hm ?_ ?_<;>clear hm<;>intro hc4 hm
  ·try simp[*]
   obtain rfl:=r_ret hm
   exact ret0 (vs:=[_]) (by simp[*];try exact rfl) (by simp[*])
  ·try simp[*]
   exact BackF.of () ⟨(by simp[*]),hm⟩
 ·rintro s3 e3 h3 ⟨hn3,h3_0,h3_3,h3_7,h3_8,hb3_b1⟩ hm
  try simp[*]
  obtain rfl:=r_ret hm
  exact ret0 (vs:=[_]) (by simp[*];try exact rfl) (by simp[*])
def Z1f (s_:List Cons) (v_:Cons):Option Bool:=
 (bindK (Z1b s_ v_) fun v2=>(some (decide (0≤v2))))
theorem Z7n (s_:List Cons) (v_:Cons) (r:Bool) (hm:Is (Z1f s_ v_) r):PSpec Tryz.prog 70 [.one (.d (.sl (s_.map Cons.enc))),.agg v_.enc] (.one (.d (.bool r))):=by
 unfold Z1f at hm
 refine PSpec.of_vc Tryz.func70 rfl (by kernel_rfl) (n:=9) rfl rfl (by simp) ?_
 try simp[*]
 refine r_call (av:=[.one (.d (.sl (s_.map Cons.enc))),.agg v_.enc]) hm (fun v hv=>Z5q _ _ v hv) (by simp[*]) ?_
 clear hm;intro v2 hvv2 hm
 try simp[*]
 obtain rfl:=r_ret hm
 exact ret0 (vs:=[_]) (by simp[*];try exact rfl) (by simp[*])
def Z0m (s_:Sch):Option Int:=
 (bif decide (6 < (s_.tables.length:Int)) then (some 2) else (bif decide (8 < (s_.fks.length:Int)) then (some 2) else (bif decide (8 < (s_.cons.length:Int)) then (some 2) else (forK (fun (i9:Nat) (x9:Tbl) (s9:Unit) next_9=>(bindK (Z0v x9) fun v11=>(bif (v11 != 0) then (some v11) else (bif decide (0 < i9) then (chkK (okI ((i9:Int) - 1)) (getK s_.tables ((i9:Int) - 1) fun x15=>(bif (Z7v x9.name x15.name || strEq x9.name x15.name) then (some 6) else (next_9 ())))) else (next_9 ()))))) (fun (s9:Unit)=>(forK (fun (i18:Nat) (x18:Fk) (s18:Unit) next_18=>(bindK (Z1i s_ x18) fun v20=>(bif (v20 != 0) then (some v20) else (chkK (0≤0∧0≤(i18:Int)∧(i18:Int)≤(s_.fks.length:Int)) (bindK (Z0a ((s_.fks.take i18).drop 0) (fun xa_=>Z3j xa_ x18)) fun v23=>(bif v23 then (some 5) else (next_18 ()))))))) (fun (s18:Unit)=>(forK (fun (i26:Nat) (x26:Cons) (s26:Unit) next_26=>(bindK (Z1j s_ x26) fun v28=>(bif (v28 != 0) then (some v28) else (chkK (0≤0∧0≤(i26:Int)∧(i26:Int)≤(s_.cons.length:Int)) (bindK (Z1f ((s_.cons.take i26).drop 0) x26) fun v31=>(bif v31 then (some 5) else (next_26 ()))))))) (fun (s26:Unit)=>(some 0)) s_.cons 0 ())) s_.fks 0 ())) s_.tables 0 ()))))
theorem Z4e (s_:Sch) (r:Int) (hm:Is (Z0m s_) r):PSpec Tryz.prog 24 [.agg s_.enc] (.one (.d (.int .i64 r))):=by
 unfold Z0m at hm
 refine PSpec.of_vc Tryz.func24 rfl (by kernel_rfl) (n:=98) rfl rfl (by simp) ?_
 try simp[*]
 intro hl2
 replace hl2:s_.tables.length≤2097152:=by simpa using hl2
 refine Z0b hm ?_ ?_<;>clear hm<;>intro hc3 hm
 ·try simp[*]
  obtain rfl:=r_ret hm
  exact ret0 (vs:=[_]) (by simp[*];try exact rfl) (by simp[*])
 ·try simp[*]
  intro hl4
  replace hl4:s_.fks.length≤2097152:=by simpa using hl4
  refine Z0b hm ?_ ?_<;>clear hm<;>intro hc5 hm
  ·try simp[*]
   obtain rfl:=r_ret hm
   exact ret0 (vs:=[_]) (by simp[*];try exact rfl) (by simp[*])
  ·try simp[*]
   intro hl6
   replace hl6:s_.cons.length≤2097152:=by simpa using hl6
   refine r_cond hm ?_ ?_<;>clear hm<;>intro hc7 hm
   ·try simp[*]
    obtain rfl:=r_ret hm
    exact ret0 (vs:=[_]) (by simp[*];try exact rfl) (by simp[*])
   ·try simp[*]
    refine Wait.for (xs:=s_.tables) (s0:=()) (fun i9 s9 e9 h9=>e9.n=98∧e9.get 1=.one (.ptr (0,16) 0)∧e9.get 29=.one (.d (.sl (s_.tables.map Tbl.enc)))∧e9.get 30=.one (.d (.int .i64 (s_.tables.length:Int)))∧e9.get 31=.one (.d (.int .i64 (i9:Int)))∧h9.box (0,16)=some [.d (.sl (s_.tables.map Tbl.enc)),.d (.sl (s_.fks.map Fk.enc)),.d (.sl (s_.cons.map Cons.enc))]) hm (by simp[*]) ?_ ?_
    ·rintro i9 s9 e9 h9 ⟨hn9,h9_1,h9_29,h9_30,h9_31,hb9_b1⟩ hlt9 hm
     have hw9:IntKind.i64.wrap ((i9:Int)+1)=(i9:Int)+1:=IntWalk.i64_in _ (by omega)
     try simp[*]
     refine r_call (av:=[.agg (s_.tables[i9]).enc]) hm (fun v hv=>Za3 _ v hv) (by simp[*]) ?_
     clear hm;intro v11 hvv11 hm
     try simp[*]
     refine r_cond hm ?_ ?_<;>clear hm<;>intro hc12 hm
     ·try simp[*]
      obtain rfl:=r_ret hm
      exact ret0 (vs:=[_]) (by simp[*];try exact rfl) (by simp[*])
     ·try simp[*]
      refine Wait.of (SWP.draw (Plan.then_ [0,1,2,3,4,5,6,7,8,9,10,11,12,13] .done) follows (by kernel_rfl) ?_)
      try simp[*,Plan.then_,vcPlan,Z01,Z00,callKind]
      refine Z08 hm ?_ ?_<;>clear hm<;>intro hc13 hm
      ·try simp[*,Plan.then_,vcPlan,Z01,Z00,callKind]
       replace hm:=hm.chk
       obtain⟨hw14,hm⟩:=hm
       replace hw14:=Z6o hw14
       try simp[*,Plan.then_,vcPlan,Z01,Z00,callKind]
       replace hm:=hm.get
       obtain⟨x15,h0x15,hxx15,hm⟩:=hm
       try simp at h0x15
       try simp at hxx15
       try simp[*,Plan.then_,vcPlan,Z01,Z00,callKind]
       refine r_cond hm ?_ ?_<;>clear hm<;>intro hc16 hm
       ·try simp[*]
        obtain rfl:=r_ret hm
        exact ret0 (vs:=[_]) (by simp[*];try exact rfl) (by simp[*])
       ·try simp[*]
        exact BackF.of () ⟨(by simp[*]),hm⟩
      ·try simp[*,Plan.then_,vcPlan,Z01,Z00,callKind]
       exact BackF.of () ⟨(by simp[*]),hm⟩
    ·rintro s9 e9 h9 ⟨hn9,h9_1,h9_29,h9_30,h9_31,hb9_b1⟩ hm
     try simp[*]
     refine Wait.for (xs:=s_.fks) (s0:=()) (fun i18 s18 e18 h18=>e18.n=98∧e18.get 1=.one (.ptr (0,16) 0)∧e18.get 57=.one (.d (.sl (s_.fks.map Fk.enc)))∧e18.get 58=.one (.d (.int .i64 (s_.fks.length:Int)))∧e18.get 59=.one (.d (.int .i64 (i18:Int)))∧h18.box (0,16)=some [.d (.sl (s_.tables.map Tbl.enc)),.d (.sl (s_.fks.map Fk.enc)),.d (.sl (s_.cons.map Cons.enc))]) hm (by simp[*]) ?_ ?_
     ·rintro i18 s18 e18 h18 ⟨hn18,h18_1,h18_57,h18_58,h18_59,hb18_b1⟩ hlt18 hm
      have hw18:IntKind.i64.wrap ((i18:Int)+1)=(i18:Int)+1:=IntWalk.i64_in _ (by omega)
      try simp[*]
      refine r_call (av:=[.agg s_.enc,.agg (s_.fks[i18]).enc]) hm (fun v hv=>Z83 _ _ v hv) (by simp[*]) ?_
      clear hm;intro v20 hvv20 hm
      try simp[*]
      refine r_cond hm ?_ ?_<;>clear hm<;>intro hc21 hm
      ·try simp[*]
       obtain rfl:=r_ret hm
       exact ret0 (vs:=[_]) (by simp[*];try exact rfl) (by simp[*])
      ·try simp[*]
       replace hm:=hm.chk
       obtain⟨⟨hax22,hbx22,hdx22⟩,hm⟩:=hm
       have hex22:=hbx22;try simp at hex22
       have hfx22:=hdx22;try simp at hfx22
       try simp[*]
       refine r_call (av:=[.one (.d (.sl (((s_.fks.take i18).drop 0).map Fk.enc))),.one (.fn 67 [[.str s_.fks[i18].table,.sl (s_.fks[i18].cols.map encI),.str s_.fks[i18].ref]])]) hm (fun v hv=>Z0u _ 67 [[.str s_.fks[i18].table,.sl (s_.fks[i18].cols.map encI),.str s_.fks[i18].ref]] _ (fun xa_ v hv=>Zbu xa_ _ v hv) v hv) (by simp[*]) ?_
       clear hm;intro v23 hvv23 hm
       try simp[*]
       refine r_cond hm ?_ ?_<;>clear hm<;>intro hc24 hm
       ·try simp[*]
        obtain rfl:=r_ret hm
        exact ret0 (vs:=[_]) (by simp[*];try exact rfl) (by simp[*])
       ·try simp[*]
        exact BackF.of () ⟨(by simp[*]),hm⟩
     ·rintro s18 e18 h18 ⟨hn18,h18_1,h18_57,h18_58,h18_59,hb18_b1⟩ hm
      try simp[*]
      refine Wait.for (xs:=s_.cons) (s0:=()) (fun i26 s26 e26 h26=>e26.n=98∧e26.get 1=.one (.ptr (0,16) 0)∧e26.get 78=.one (.d (.sl (s_.cons.map Cons.enc)))∧e26.get 79=.one (.d (.int .i64 (s_.cons.length:Int)))∧e26.get 80=.one (.d (.int .i64 (i26:Int)))∧h26.box (0,16)=some [.d (.sl (s_.tables.map Tbl.enc)),.d (.sl (s_.fks.map Fk.enc)),.d (.sl (s_.cons.map Cons.enc))]) hm (by simp[*]) ?_ ?_
      ·rintro i26 s26 e26 h26 ⟨hn26,h26_1,h26_78,h26_79,h26_80,hb26_b1⟩ hlt26 hm
       have hw26:IntKind.i64.wrap ((i26:Int)+1)=(i26:Int)+1:=IntWalk.i64_in _ (by omega)
       try simp[*]
       refine r_call (av:=[.agg s_.enc,.agg (s_.cons[i26]).enc]) hm (fun v hv=>Z84 _ _ v hv) (by simp[*]) ?_
       clear hm;intro v28 hvv28 hm
       try simp[*]
       refine r_cond hm ?_ ?_<;>clear hm<;>intro hc29 hm
       ·try simp[*]
        obtain rfl:=r_ret hm
        exact ret0 (vs:=[_]) (by simp[*];try exact rfl) (by simp[*])
       ·try simp[*]
        refine Wait.of (SWP.draw (Plan.then_ [0,1,2,3,4,5] .done) follows (by kernel_rfl) ?_)
        try simp[*,Plan.then_,vcPlan,Z01,Z00,callKind]
        replace hm:=hm.chk
        obtain⟨⟨hax30,hbx30,hdx30⟩,hm⟩:=hm
        have hex30:=hbx30;try simp at hex30
        have hfx30:=hdx30;try simp at hfx30
        try simp[*,Plan.then_,vcPlan,Z01,Z00,callKind]
        refine r_call (av:=[.one (.d (.sl (((s_.cons.take i26).drop 0).map Cons.enc))),.agg (s_.cons[i26]).enc]) hm (fun v hv=>Z7n _ _ v hv) (by simp[*]) ?_
        clear hm;intro v31 hvv31 hm
        try simp[*,Plan.then_,vcPlan,Z01,Z00,callKind]
        try refine⟨fun (_:Lab) (_:List C) hl=>hl,?_⟩
        refine r_cond hm ?_ ?_<;>clear hm<;>intro hc32 hm
        ·try simp[*]
         obtain rfl:=r_ret hm
         exact ret0 (vs:=[_]) (by simp[*];try exact rfl) (by simp[*])
        ·try simp[*]
         exact BackF.of () ⟨(by simp[*]),hm⟩
      ·rintro s26 e26 h26 ⟨hn26,h26_1,h26_78,h26_79,h26_80,hb26_b1⟩ hm
       try simp[*]
       obtain rfl:=r_ret hm
       exact ret0 (vs:=[_]) (by simp[*];try exact rfl) (by simp[*])
end Go.Proofs.YthgepknlibmjcaaGreat
end
section
namespace Go.Proofs.YthgepknlibmjcaaGreat
open Go Go.Am
theorem Z8c (t:Tbl) (nm:ByteArray):Wp (Z1k t nm) fun v=>0≤v.1∧(v.2=true→v.1 < t.cols.length)∧(v.2=false→v.1=0):=by
 unfold Z1k
 refine Wp.bind (Wp.index fun x _=>Wp.ret trivial) fun k _ hk=>Wp.ret ?_
 have:=hk.lt
 refine⟨?_,fun h=>?_,fun h=>?_⟩<;>simp at *<;>first | omega | (split<;>omega)
theorem Z2g (S:Sch) (nm:ByteArray):Wp (Z05 S nm) fun v=>0≤v.1∧(v.2=true→v.1 < S.tables.length∧∃ T,S.tables[v.1.toNat]?=some T∧strEq T.name nm=true)∧(v.2=false→∀ T ∈ S.tables,strEq T.name nm=false):=by
 unfold Z05
 refine Wp.bind (Wp.index fun x _=>Wp.ret trivial) fun k _ hk=>Wp.ret ?_
 have hl:=hk.lt
 rcases hk with ⟨rfl,h⟩ | ⟨i,x,rfl,hx,h⟩
 ·refine⟨by simp,fun h=>by simp at h,fun _ T hT=>?_⟩
  have:=h T hT
  simpa[Z1e] using this
 ·have h1:¬ ((i:Int) < 0):=by omega
  refine⟨by simp[h1],fun _=>⟨by simp[h1];omega,x,by simp[h1,hx],?_⟩,fun h=>by simp at h⟩
  simpa[Z1e] using h
structure VT (T:Tbl):Prop where
 cols0:0 < T.cols.length
 cols6:T.cols.length≤6
 pk0:0 < T.pk.length
 pk:∀ v ∈ T.pk,0≤v∧v < T.cols.length
 asc:∀ (i:Nat) (a b:Int),T.pk[i]?=some a→T.pk[i+1]?=some b→a < b
 name:Z44 T.name=true
theorem Zbk (s:ByteArray):Wp (Z3u s) fun b=>b=Z44 s:=Wp.ret rfl
theorem Za6 (T:Tbl):Wp (Z0v T) fun e=>e=0→VT T:=by
 unfold Z0v
 refine Wp.bind (Zbk _) fun v _ hv=>Wp.cond (fun _=>Wp.ret (by simp)) fun hv1=>?_
 refine Wp.cond (fun _=>Wp.ret (by simp)) fun h1=>Wp.cond (fun _=>Wp.ret (by simp)) fun h2=>?_
 have hc0:0 < T.cols.length:=by simp at h1;exact List.length_pos_iff.2 h1
 have hc6:T.cols.length≤6:=by simp at h2;omega
 refine Wp.for (fun _ _=>True) trivial ?_ ?_
 ·intro i x s next hx hm _ hn
  refine Wp.bind (Zbk _) fun v _ _=>Wp.cond (fun _=>Wp.ret (by simp)) fun _=>?_
  refine Wp.bind (Z8c _ _) fun v _ _=>Wp.cond (fun _=>Wp.ret (by simp)) fun _=>Wp.cond (fun _=>Wp.ret (by simp)) fun _=>Wp.cond (fun _=>Wp.ret (by simp)) fun _=>hn () trivial
 ·intro s _
  refine Wp.for (fun i _=>(∀ (j:Nat) (v:Int),j < i→T.pk[j]?=some v→0≤v∧v < T.cols.length)∧(∀ (j:Nat) (a b:Int),j+1 < i→T.pk[j]?=some a→T.pk[j+1]?=some b→a < b)∧∀ (j:Nat) (v:Int),j < i→T.pk[j]?=some v→(j:Int)≤v) ⟨by intro j v h;omega,by intro j a b h;omega,by intro j v h;omega⟩ ?_ ?_
  ·rintro i x s next hx hm ⟨hI,hJ,hK⟩ hn
   refine Wp.cond (fun _=>Wp.ret (by simp)) fun h3=>Wp.cond (fun _=>Wp.ret (by simp)) fun h4=>?_
   have h0:0≤x:=by simpa using h3
   have h5:x < T.cols.length:=by simpa using h4
   have hI':∀ (j:Nat) (v:Int),j < i+1→T.pk[j]?=some v→0≤v∧v < T.cols.length:=by
    intro j v hj hv
    rcases Nat.lt_or_ge j i with h | h
    ·exact hI j v h hv
    ·obtain rfl:j=i:=by omega
     rw[hx] at hv
     cases hv
     exact⟨h0,h5⟩
   have hil:=(List.getElem?_eq_some_iff.1 hx).1
   refine Wp.get h0 h5 fun c _ _=>Wp.cond (fun _=>Wp.ret (by simp)) fun _=>Wp.cond (fun h6=>?_) fun h6=>hn () ⟨hI',?_,?_⟩
   ·have hi:0 < i:=by simpa using h6
    have hil1:i - 1 < T.pk.length:=by omega
    have hb1:=hI (i - 1) _ (by omega) (List.getElem?_eq_getElem hil1)
    have hb2:=hK (i - 1) _ (by omega) (List.getElem?_eq_getElem hil1)
    refine Wp.chk ⟨by omega,by have:=hc6;omega⟩ ?_
    refine Wp.get (by omega) (by omega) fun y hy _=>Wp.cond (fun _=>Wp.ret (by simp)) fun h7=>?_
    have hyx:y < x:=by simpa using h7
    have hy1:T.pk[i - 1]?=some y:=by rw[← hy];congr 1;omega
    refine hn () ⟨hI',?_,?_⟩
    ·intro j a b hj ha hb
     rcases Nat.lt_or_ge (j+1) i with h | h
     ·exact hJ j a b h ha hb
     ·obtain rfl:i=j+1:=by omega
      rw[hx] at hb
      cases hb
      rw[show j+1 - 1=j by omega,ha] at hy1
      cases hy1
      exact hyx
    ·intro j v hj hv
     rcases Nat.lt_or_ge j i with h | h
     ·exact hK j v h hv
     ·obtain rfl:j=i:=by omega
      rw[hx] at hv
      cases hv
      have:=hK (j - 1) y (by omega) hy1
      omega
   ·intro j a b hj
    have:i=0:=by simpa using h6
    omega
   ·intro j v hj hv
    have hi0:i=0:=by simpa using h6
    obtain rfl:j=0:=by omega
    subst hi0
    rw[hx] at hv
    cases hv
    omega
  ·rintro s ⟨hI,hJ,_⟩
   refine Wp.cond (fun _=>Wp.ret (by simp)) fun h3=>Wp.ret fun _=>?_
   have hp:0 < T.pk.length:=by simp at h3;exact List.length_pos_iff.2 h3
   refine⟨hc0,hc6,hp,fun v hv=>?_,fun i a b ha hb=>hJ i a b (List.getElem?_eq_some_iff.1 hb).1 ha hb,by rw[← hv];simpa using hv1⟩
   obtain⟨j,hj,rfl⟩:=List.getElem_of_mem hv
   exact hI j _ hj (List.getElem?_eq_getElem hj)
end Go.Proofs.YthgepknlibmjcaaGreat
end
