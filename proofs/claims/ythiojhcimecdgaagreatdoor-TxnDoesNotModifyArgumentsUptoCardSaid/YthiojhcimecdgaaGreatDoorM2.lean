/- joined by a program out of 16 texts -/
import Derived.Test.YthiojhcimecdgaaGreatDoorM1
import Derived.Orders
import Derived.IntWalk
import Derived.Laws.StructEq
import Derived.Test.YthiojhcimecdgaaGreatDoorProg
import Derived.KernelRfl
import Derived.Lib.Bytealg
import Derived.Test.YthiojhcimecdgaaGreatDoorCards
import Derived.LaidLaws
import Derived.MakeChecks
import Derived.Shelf.Vars
import Derived.Lib.LaidTab
set_option linter.unusedVariables false
set_option linter.unusedSimpArgs false
set_option maxRecDepth 20000
section
namespace Go.Am
open Go
def Real (e : Env) (h : HS) : Prop := ∃ (Γ : Ctx) (μ : Mem) (w : World) (a : Act), Inv Γ h μ w ∧ EnvRel μ e a
def BoxLe (h h1 : HS) : Prop := ∀ l cs, h.box l = some cs → h1.box l = some cs
theorem BoxLe.refl (h : HS) : BoxLe h h := fun _ _ x => x
theorem Real.fresh {e : Env} {h : HS} (hr : Real e h) {l : Lab} {cs : List C} (hl : h.box l = some cs) : l.1 < h.ep := by
  obtain ⟨Γ, μ, w, a, hI, hE⟩ := hr
  exact hI.live_loc (.inl (by simp [hl]))
section
variable {P : Program}
theorem Zhh {h h1 : HS} (hb : BoxLe h h1) {c : C} {n : Nat} {l : List C} (hr : readAt h c n = some l) : readAt h1 c n = some l := by
  cases c with
  | ptr k off =>
    simp only [readAt] at hr ⊢
    cases hk : h.box k with
    | none => simp [hk] at hr
    | some cs => rw [hb k cs hk]; simpa [hk] using hr
  | rp cs => exact hr
  | _ => cases hr
theorem Zdj {α β : Type} {f g : α → Option β} : ∀ {l : List α}, (∀ x ∈ l, f x = g x) → l.mapM f = l.mapM g
  | [], _ => rfl
  | x :: l, h => by
    rw [List.mapM_cons, List.mapM_cons, h x (by simp), Zdj (l := l) (fun y hy => h y (by simp [hy]))]
def loadKind : Op → Bool
  | .load _ _ => true
  | _ => false
theorem Ziv {op : Op} {e e1 : Env} {h h1 : HS} (ho : ∀ x ∈ op.operands, e1.ev x = e.ev x) (hb : loadKind op = true → BoxLe h h1) {v : V} (hv : eff P op e h = some v) : eff P op e1 h1 = some v := by
  cases op with
  | load t x =>
    have h1' := ho x (by simp [Op.operands])
    simp only [eff] at hv ⊢
    rw [h1']
    cases hl : ldT P t with
    | none => simp [hl] at hv
    | some z =>
      obtain ⟨ag, n⟩ := z
      simp only [hl] at hv ⊢
      cases hx : e.ev x with
      | one c =>
        simp only [hx] at hv ⊢
        cases hr : readAt h c n with
        | none => simp [hr] at hv
        | some l => rw [Zhh (hb rfl) hr]; simpa [hr] using hv
      | _ => simp [hx] at hv
  | makeFunc fn first caps =>
    cases fn with
    | func f =>
      simp only [eff] at hv ⊢
      have hm : caps.toList.mapM (fun x => match e1.ev x with | .one (.ptr l 0) => some (Cap.lab l) | .one (.rp cs) => some (Cap.rp cs) | _ => none) =
          caps.toList.mapM (fun x => match e.ev x with | .one (.ptr l 0) => some (Cap.lab l) | .one (.rp cs) => some (Cap.rp cs) | _ => none) :=
        Zdj fun x hx => by rw [ho x (by simp [Op.operands]; exact .inr (by simpa using hx))]
      cases hemp : first.isEmpty with
      | false => simp [hemp] at hv
      | true =>
        simp only [hemp, if_true] at hv ⊢
        exact (congrArg (fun z : Option (List Cap) => match z with | some l => some (V.one (C.fn f l)) | none => none) hm).trans hv
    | _ => simp [eff] at hv
  | call c =>
    simp only [eff] at hv ⊢
    have ha : ∀ x ∈ c.args.toList, e1.ev x = e.ev x := fun x hx => ho x (by simp [Op.operands, Call.operands]; exact .inr (by simpa using hx))
    split at hv
    · rename_i x y hc hl
      rw [hl] at ha
      simp only [ha x (by simp), ha y (by simp)]
      exact hv
    · rename_i x y hc hl
      rw [hl] at ha
      simp only [ha x (by simp), ha y (by simp)]
      exact hv
    · cases hv
  | slice t x lo hi mx =>
    have hx := ho x (by simp [Op.operands])
    have hb : ∀ y : Option Operand, (∀ z, y = some z → z ∈ (Op.slice t x lo hi mx).operands) → boundV e1 y = boundV e y := fun y hy => by
      cases y with
      | none => rfl
      | some z => simp only [boundV, ho z (hy z rfl)]
    simp only [eff, hx, hb lo (fun z hz => by simp [Op.operands, hz]), hb hi (fun z hz => by simp [Op.operands, hz]), hb mx (fun z hz => by simp [Op.operands, hz])] at hv ⊢
    cases hi with
    | none => cases lo <;> cases mx <;> exact hv
    | some y =>
      have hy := ho y (by simp [Op.operands])
      cases lo <;> cases mx <;> first | exact hv | (simp only [hy] at hv ⊢; exact hv)
  | _ => simp only [Op.operands] at ho; simp only [eff] at hv ⊢; simp_all
def Z47 : Op → Bool
  | .move _ => true
  | .assign _ => true
  | .pick _ _ _ => true
  | .unOp _ _ _ => true
  | .fieldAddr _ _ _ => true
  | .field _ _ _ => true
  | .load _ _ => true
  | .indexAddr _ _ _ => true
  | .index _ _ _ => true
  | .extract _ _ => true
  | .slice _ _ _ _ _ => true
  | .makeFunc _ _ _ => true
  | .nilCheck _ => true
  | .convert _ _ _ => true
  | .binOp _ _ _ y _ => !isNilConst y
  | .call c => match c.callee with
    | .builtin .len => true
    | .builtin .max => true
    | .builtin .min => true
    | _ => false
  | _ => false
def storeKind : Op → Bool
  | .store _ _ _ => true
  | .call c => match c.callee with
    | .builtin .append => true
    | .builtin .copy => true
    | .builtin .clear => true
    | _ => false
  | _ => false
def Gives1 (P : Program) (o : Oper) (e : Env) (h : HS) (v : V) : Prop :=
  ∀ e1 h1 (K : Env → HS → Prop), (∀ x ∈ o.op.operands, e1.ev x = e.ev x) → (loadKind o.op = true → BoxLe h h1) → K (e1.put o.dst v) h1 → vcOp P o e1 h1 K
theorem Zb4 {e : Env} {h : HS} {d : Option Nat} {v : V} (hr : Real e h) (hd : ∀ k, d = some k → k < e.n) (hv : ∀ Γ μ w a, Inv Γ h μ w → EnvRel μ e a → ∃ u, RepV μ v u) : Real (e.put d v) h := by
  obtain ⟨Γ, μ, w, a, hI, hE⟩ := hr
  obtain ⟨u, hu⟩ := hv Γ μ w a hI hE
  exact ⟨Γ, μ, w, _, hI, hE.put hd hu⟩
theorem dst_lt {o : Oper} {e : Env} (hd : dstOK o e) : ∀ k, o.dst = some k → k < e.n := fun k hk => by
  unfold dstOK at hd; rw [hk] at hd; exact hd
theorem Zop {o : Oper} {e : Env} {h : HS} {K : Env → HS → Prop} {v : V} (hr : Real e h) (hd : dstOK o e) (hv : eff P o.op e h = some v) (hK : K (e.put o.dst v) h)
    (hvc : ∀ e1 h1 (K1 : Env → HS → Prop), eff P o.op e1 h1 = some v → K1 (e1.put o.dst v) h1 → vcOp P o e1 h1 K1) :
    ∃ v, K (e.put o.dst v) h ∧ Real (e.put o.dst v) h ∧ Gives1 P o e h v :=
  ⟨v, hK, Zb4 hr (dst_lt hd) (fun Γ μ w a hI hE => by obtain ⟨u, _, hu⟩ := Zdt (o := o) hI hE hv; exact ⟨u, hu⟩),
    fun e1 h1 K1 ho hb hk => hvc e1 h1 K1 (Ziv ho hb hv) hk⟩
theorem Zkn {e : Env} {h : HS} (hr : Real e h) {x : Operand} {c : C} {xs : List (List D)} (hx : e.ev x = .one c) (hc : c.list? = some xs) : xs.length ≤ LIM := by
  obtain ⟨Γ, μ, w, a, hI, hE⟩ := hr
  have hv := ev_rep hE x
  rw [hx] at hv
  cases c with
  | d y =>
    cases y with
    | sl ys =>
      simp [C.list?] at hc
      subst hc
      have hv' : RepD μ.cell (.sl ys) (a.eval x) := hv
      generalize a.eval x = u at hv'
      cases hv' with
      | sl _ _ _ _ _ _ _ hl => exact hl
    | _ => simp [C.list?] at hc
  | own l ys =>
    simp [C.list?] at hc
    subst hc
    have hv' : RepD μ.cell (.sl ys) (a.eval x) := hv.1
    generalize a.eval x = u at hv'
    cases hv' with
    | sl _ _ _ _ _ _ _ hl => exact hl
  | nil => simp [C.list?] at hc; subst hc; simp
  | z => simp [C.list?] at hc; subst hc; simp
  | _ => simp [C.list?] at hc
theorem Zme {o : Oper} {e : Env} {h : HS} {K : Env → HS → Prop} (hp : Z47 o.op = true) (hr : Real e h) (hd : dstOK o e) (hv : vcOp P o e h K) :
    ∃ v, K (e.put o.dst v) h ∧ Real (e.put o.dst v) h ∧ Gives1 P o e h v := by
  have eff_case : (∀ (e : Env) (h : HS) (K : Env → HS → Prop), vcOp P o e h K → ∃ v, eff P o.op e h = some v ∧ K (e.put o.dst v) h) →
      (∀ (e : Env) (h : HS) (K : Env → HS → Prop) v, eff P o.op e h = some v → K (e.put o.dst v) h → vcOp P o e h K) → ∃ v, K (e.put o.dst v) h ∧ Real (e.put o.dst v) h ∧ Gives1 P o e h v := fun h1 h2 => by
    obtain ⟨v, hve, hk⟩ := h1 _ _ _ hv
    exact Zop hr hd hve hk (fun e1 h1 K1 h3 h4 => h2 _ _ _ _ h3 h4)
  cases ho : o.op with
  | binOp op t x y t' =>
    have hnil : isNilConst y = false := by rw [ho] at hp; simpa [Z47] using hp
    simp only [vcOp, ho, hnil, Bool.false_eq_true, if_false] at hv
    split at hv
    · rename_i cs cs' hx hy
      split at hv
      · rename_i a b ha hb
        refine ⟨_, hv.2, Zb4 hr (dst_lt hd) (fun Γ μ w a hI hE => ⟨_, RepD.bool _⟩), fun e1 h1 K1 h2 h3 h4 => ?_⟩
        rw [ho] at h2
        simp only [vcOp, ho, hnil, Bool.false_eq_true, if_false, h2 x (by simp [Op.operands]), h2 y (by simp [Op.operands]), hx, hy, ha, hb]
        exact ⟨hv.1, h4⟩
      · exact hv.elim
    · rename_i hn
      split at hv
      · rename_i r hrr
        have he : eff P o.op e h = some r := by rw [ho]; exact hrr
        refine ⟨r, hv, Zb4 hr (dst_lt hd) (fun Γ μ w a hI hE => by obtain ⟨u, _, hu⟩ := Zdt (o := o) hI hE he; exact ⟨u, hu⟩), fun e1 h1 K1 h2 h3 h4 => ?_⟩
        rw [ho] at h2
        simp only [vcOp, ho, hnil, Bool.false_eq_true, if_false, h2 x (by simp [Op.operands]), h2 y (by simp [Op.operands])]
        generalize e.ev x = X at *
        generalize e.ev y = Y at *
        cases X with
        | agg cs => cases Y with
          | agg cs' => exact (hn cs cs' rfl rfl).elim
          | _ => simp only [hrr]; exact h4
        | _ => simp only [hrr]; exact h4
      · exact hv.elim
  | call c =>
    rw [ho] at hp
    cases hc : c.callee with
    | value f => simp [Z47, hc] at hp
    | invoke r m => simp [Z47, hc] at hp
    | builtin b =>
      cases b with
      | len =>
        simp only [vcOp, ho, hc] at hv
        split at hv
        · rename_i x t hx ht
          obtain ⟨y, hy, hey⟩ := Zfe hx
          have key : ∃ n : Nat, K (e.put o.dst (dint .i64 n)) h ∧ ∀ e1 h1 (K1 : Env → HS → Prop), K1 (e1.put o.dst (dint .i64 n)) h1 → vcLen P t x o e1 h1 K1 := by
            unfold vcLen at hv ⊢
            cases hl : lenT P t with
            | none => simp [hl] at hv
            | some s =>
              cases s with
              | true =>
                simp only [hl] at hv ⊢
                split at hv
                · exact ⟨_, hv, fun e1 h1 K1 hk => hk⟩
                · exact hv.elim
              | false =>
                simp only [hl] at hv ⊢
                split at hv
                · exact ⟨_, hv, fun e1 h1 K1 hk => hk⟩
                · split at hv
                  · rename_i xs hxs
                    refine ⟨xs.length, hv (Zkn hr hey hxs), fun e1 h1 K1 hk => ?_⟩
                    exact fun _ => hk
                  · exact hv.elim
          obtain ⟨n, hk, hall⟩ := key
          refine ⟨_, hk, Zb4 hr (dst_lt hd) (fun Γ μ w a hI hE => ⟨_, RepD.int _ _⟩), fun e1 h1 K1 h2 h3 h4 => ?_⟩
          rw [ho] at h2
          have h2' : e1.ev y = e.ev y := h2 y (by simp [Op.operands, Call.operands, hc]; have : y ∈ c.args.toList := by rw [hy]; simp
                                                  simpa using this)
          simp only [vcOp, ho, hc, hy, ht, List.map_cons, List.map_nil, h2', hey]
          exact hall e1 h1 K1 h4
        · exact hv.elim
      | max => exact eff_case (fun e h K hv => by
        simp only [vcOp, ho, hc] at hv ⊢
        split at hv
        · exact ⟨_, by assumption, hv⟩
        · exact hv.elim) (fun e h K v h1 h2 => by
        rw [ho] at h1
        simp only [vcOp, ho, hc, h1]
        exact h2)
      | min => exact eff_case (fun e h K hv => by
        simp only [vcOp, ho, hc] at hv ⊢
        split at hv
        · exact ⟨_, by assumption, hv⟩
        · exact hv.elim) (fun e h K v h1 h2 => by
        rw [ho] at h1
        simp only [vcOp, ho, hc, h1]
        exact h2)
      | _ => simp [Z47, hc] at hp
  | move x => exact eff_case (fun e h K hv => by
        simp only [vcOp, ho] at hv ⊢
        split at hv
        · exact ⟨_, by assumption, hv⟩
        · exact hv.elim) (fun e h K v h1 h2 => by
        rw [ho] at h1
        simp only [vcOp, ho, h1]
        exact h2)
  | assign x => exact eff_case (fun e h K hv => by
        simp only [vcOp, ho] at hv ⊢
        split at hv
        · exact ⟨_, by assumption, hv⟩
        · exact hv.elim) (fun e h K v h1 h2 => by
        rw [ho] at h1
        simp only [vcOp, ho, h1]
        exact h2)
  | pick x y z => exact eff_case (fun e h K hv => by
        simp only [vcOp, ho] at hv ⊢
        split at hv
        · exact ⟨_, by assumption, hv⟩
        · exact hv.elim) (fun e h K v h1 h2 => by
        rw [ho] at h1
        simp only [vcOp, ho, h1]
        exact h2)
  | unOp op t x => exact eff_case (fun e h K hv => by
        simp only [vcOp, ho] at hv ⊢
        split at hv
        · exact ⟨_, by assumption, hv⟩
        · exact hv.elim) (fun e h K v h1 h2 => by
        rw [ho] at h1
        simp only [vcOp, ho, h1]
        exact h2)
  | fieldAddr t x f => exact eff_case (fun e h K hv => by
        simp only [vcOp, ho] at hv ⊢
        split at hv
        · exact ⟨_, by assumption, hv⟩
        · exact hv.elim) (fun e h K v h1 h2 => by
        rw [ho] at h1
        simp only [vcOp, ho, h1]
        exact h2)
  | field t x f => exact eff_case (fun e h K hv => by
        simp only [vcOp, ho] at hv ⊢
        split at hv
        · exact ⟨_, by assumption, hv⟩
        · exact hv.elim) (fun e h K v h1 h2 => by
        rw [ho] at h1
        simp only [vcOp, ho, h1]
        exact h2)
  | load t x => exact eff_case (fun e h K hv => by
        simp only [vcOp, ho] at hv ⊢
        split at hv
        · exact ⟨_, by assumption, hv⟩
        · exact hv.elim) (fun e h K v h1 h2 => by
        rw [ho] at h1
        simp only [vcOp, ho, h1]
        exact h2)
  | indexAddr t x y => exact eff_case (fun e h K hv => by
        simp only [vcOp, ho] at hv ⊢
        split at hv
        · exact ⟨_, by assumption, hv⟩
        · exact hv.elim) (fun e h K v h1 h2 => by
        rw [ho] at h1
        simp only [vcOp, ho, h1]
        exact h2)
  | index t x y => exact eff_case (fun e h K hv => by
        simp only [vcOp, ho] at hv ⊢
        split at hv
        · exact ⟨_, by assumption, hv⟩
        · exact hv.elim) (fun e h K v h1 h2 => by
        rw [ho] at h1
        simp only [vcOp, ho, h1]
        exact h2)
  | slice t x lo hi mx =>
    exact eff_case (fun e h K hv => by
        simp only [vcOp, ho] at hv ⊢
        split at hv
        · exact ⟨_, by assumption, hv⟩
        · exact hv.elim) (fun e h K v h1 h2 => by
        rw [ho] at h1
        simp only [vcOp, ho, h1]
        exact h2)
  | extract x i => exact eff_case (fun e h K hv => by
        simp only [vcOp, ho] at hv ⊢
        split at hv
        · exact ⟨_, by assumption, hv⟩
        · exact hv.elim) (fun e h K v h1 h2 => by
        rw [ho] at h1
        simp only [vcOp, ho, h1]
        exact h2)
  | makeFunc f x y => exact eff_case (fun e h K hv => by
        simp only [vcOp, ho] at hv ⊢
        split at hv
        · exact ⟨_, by assumption, hv⟩
        · exact hv.elim) (fun e h K v h1 h2 => by
        rw [ho] at h1
        simp only [vcOp, ho, h1]
        exact h2)
  | nilCheck x => exact eff_case (fun e h K hv => by
        simp only [vcOp, ho] at hv ⊢
        split at hv
        · exact ⟨_, by assumption, hv⟩
        · exact hv.elim) (fun e h K v h1 h2 => by
        rw [ho] at h1
        simp only [vcOp, ho, h1]
        exact h2)
  | convert s t x => exact eff_case (fun e h K hv => by
        simp only [vcOp, ho] at hv ⊢
        split at hv
        · exact ⟨_, by assumption, hv⟩
        · exact hv.elim) (fun e h K v h1 h2 => by
        rw [ho] at h1
        simp only [vcOp, ho, h1]
        exact h2)
  | _ => rw [ho] at hp; simp [Z47] at hp
end
end Go.Am
end
section
namespace Go.Am
open Go
section
variable {P:Program}
theorem Zdx {pl:List (Nat × Nat)} {e e1:Env}:∀ {ps:List (Nat × Operand)} {cs:List C},(∀ x ∈ ps.map (·.2),e1.ev x=e.ev x)→fillV pl e1 ps cs=fillV pl e ps cs
 | [],_,_=>rfl
 | (f,x)::r,cs,h=>by
   have hx:=h x (by simp);simp only[fillV,hx];cases pl[f]? with
   | none=>rfl
   | some z=>
     dsimp only
     split
     ·exact Zdx (fun y hy=>h y (by simp only[List.map_cons,List.mem_cons];exact .inr hy))
     ·rfl
theorem Zcl {e e1:Env} {n:Nat}:∀ {ps:List (Nat × Operand)} {k:Nat},(∀ x ∈ ps.map (·.2),e1.ev x=e.ev x)→elemsV e1 n ps k=elemsV e n ps k
 | [],_,_=>rfl
 | (f,x)::r,k,h=>by
   have hx:=h x (by simp);simp only[elemsV,hx];rw[Zcl (ps:=r) (fun y hy=>h y (by simp only[List.map_cons,List.mem_cons];exact .inr hy))]
theorem Zcn {e e1:Env} {n:Nat}:∀ {ps:List (Nat × Operand)} {k:Nat},(∀ x ∈ ps.map (·.2),e1.ev x=e.ev x)→cellsV e1 n ps k=cellsV e n ps k
 | [],_,_=>rfl
 | (f,x)::r,k,h=>by
   have hx:=h x (by simp);simp only[cellsV,hx];rw[Zcn (ps:=r) (fun y hy=>h y (by simp only[List.map_cons,List.mem_cons];exact .inr hy))]
theorem Zjc {op:BinOp} {t:TypeId} {c:C} {K K1:V→Prop} (hK:∀ v,K v→K1 v) (hv:vcNil P op t c K):vcNil P op t c K1:=by
 obtain⟨h1,hv⟩:=hv;refine⟨h1,?_⟩;split at hv
 ·exact hK _ hv
 ·exact hK _ hv
 ·split at hv
  ·exact fun b hb=>hK _ (hv b hb)
  ·exact hv
theorem Zf6 {t:TypeId} {c x:C} {d:Nat} {h:HS} {K K1:V→HS→Prop} (hK:∀ v h',K v h'→K1 v h') (hv:Z66 P t c x d h K):Z66 P t c x d h K1:=by
 unfold Z66 at hv ⊢;split at hv
 ·split at hv
  ·exact⟨hv.1,hK _ _ hv.2⟩
  ·exact hv
 ·exact hv
theorem Zee {t:TypeId} {c x:C} {d:Nat} {h:HS} {K K1:V→HS→Prop} (hK:∀ v h',K v h'→K1 v h') (hv:Z5f P t c x d h K):Z5f P t c x d h K1:=by
 unfold Z5f at hv ⊢;split at hv
 ·split at hv
  ·obtain⟨h1,h2,h3,h4⟩:=hv;refine⟨h1,fun q=>hK _ _ (h2 q),fun q r l off hp=>?_,fun q r cap' hc=>hK _ _ (h4 q r cap' hc)⟩;obtain⟨cs,h5,h6,h7⟩:=h3 q r l off hp;exact⟨cs,h5,h6,hK _ _ h7⟩
  ·exact hv
 ·exact hv
theorem Zed {t t':TypeId} {c x:C} {d:Nat} {h:HS} {K K1:V→HS→Prop} (hK:∀ v h',K v h'→K1 v h') (hv:Z7u P t t' c x d h K):Z7u P t t' c x d h K1:=by
 unfold Z7u at hv ⊢;obtain⟨h1,hv⟩:=hv;refine⟨h1,?_⟩;split at hv
 ·split at hv
  ·exact⟨hv.1,fun c hc=>hK _ _ (hv.2 c hc)⟩
  ·split at hv
   ·exact⟨hv.1,fun c hc=>hK _ _ (hv.2 c hc)⟩
   ·exact hv
  ·exact hv
 ·exact hv
theorem Zh9 {t:TypeId} {c x:C} {d:Nat} {h:HS} {K K1:V→HS→Prop} (hK:∀ v h',K v h'→K1 v h') (hv:vcCopy P t c x d h K):vcCopy P t c x d h K1:=by
 unfold vcCopy at hv ⊢;split at hv
 ·split at hv
  ·split at hv
   ·exact⟨hv.1,hK _ _ hv.2⟩
   ·exact hv
  ·exact hv
 ·exact hv
theorem Zg4 {t:TypeId} {c:C} {d:Nat} {h:HS} {K K1:V→HS→Prop} (hK:∀ v h',K v h'→K1 v h') (hv:Z8w P t c d h K):Z8w P t c d h K1:=by
 unfold Z8w at hv ⊢;split at hv
 ·split at hv
  ·split at hv
   ·exact⟨hv.1,hK _ _ hv.2⟩
   ·exact hv
  ·exact hK _ _ hv
  ·exact hK _ _ hv
  ·exact hv
 ·exact hv
theorem Zbj {e:Env} {h:HS} (hr:Real e h) {k:Nat} {cs:List C}:BoxLe h ((h.setBox (h.ep,k) cs).next):=fun l c hl=>by
 have:=hr.fresh hl
 have hne:l≠(h.ep,k):=fun he=>by rw[he] at this;exact absurd this (Nat.lt_irrefl _)
 show (if l=(h.ep,k) then some cs else h.box l)=some c;rw[if_neg hne];exact hl
theorem Zla {h:HS} {c:C}:(C.useUp h c).box=h.box:=by cases c<;>rfl
def callKind:Op→Bool
 | .call c=>match c.callee with
   | .value _=>true
   | _=>false
 | _=>false
theorem Z6x {op:Op} (h:Z47 op=true):callKind op=false:=by
 cases op<;>simp_all [Z47,callKind];rename_i c;cases hc:c.callee<;>simp_all
theorem Zbl {o:Oper} {e e1:Env} {h:HS} {K K1:Env→HS→Prop} (hr:Real e h) (ho:∀ x ∈ o.op.operands,e1.ev x=e.ev x)
  (hK:∀ v h',(storeKind o.op=false→callKind o.op=false→BoxLe h h')→K (e.put o.dst v) h'→K1 (e1.put o.dst v) h') (hv:vcOp P o e h K):vcOp P o e1 h K1:=by
 have eff_case:(∀ (e:Env) (h:HS) (K:Env→HS→Prop),vcOp P o e h K→∃ v,eff P o.op e h=some v∧K (e.put o.dst v) h) →
   (∀ (e:Env) (h:HS) (K:Env→HS→Prop) v,eff P o.op e h=some v→K (e.put o.dst v) h→vcOp P o e h K)→vcOp P o e1 h K1:=fun h1 h2=>by
  obtain⟨v,hve,hk⟩:=h1 _ _ _ hv;exact h2 _ _ _ v (Ziv ho (fun _=>BoxLe.refl h) hve) (hK _ _ (fun _ _=>BoxLe.refl h) hk)
 cases hop:o.op with
 | store t x y=>
   rw[hop] at ho hK;have hx:=ho x (by simp[Op.operands]);have hy:=ho y (by simp[Op.operands]);simp only[vcOp,hop,hx,hy] at hv ⊢;split at hv
   ·split at hv
    ·split at hv
     ·exact⟨hv.1,hK _ _ (fun hs _=>by simp[storeKind] at hs) hv.2⟩
     ·exact hv
    ·exact hv
   ·exact hv
 | box t x=>
   rw[hop] at ho;have hx:=ho x (by simp[Op.operands]);simp only[vcOp,hop,hx] at hv ⊢;exact⟨hv.1,hK _ _ (fun _ _=>Zbj hr) hv.2⟩
 | alloc t=>
   simp only[vcOp,hop] at hv ⊢;split at hv
   ·exact hK _ _ (fun _ _=>Zbj hr) hv
   ·exact hv
 | build t ps=>
   rw[hop] at ho;have hps:∀ x ∈ ps.toList.map (·.2),e1.ev x=e.ev x:=fun x hx=>ho x (by simpa[Op.operands] using hx);simp only[vcOp,hop,Zdx hps] at hv ⊢;split at hv
   ·split at hv
    ·exact hK _ _ (fun _ _=>BoxLe.refl h) hv
    ·exact hv
   ·exact hv
 | buildSlice t len ps=>
   rw[hop] at ho;have hps:∀ x ∈ ps.toList.map (·.2),e1.ev x=e.ev x:=fun x hx=>ho x (by simpa[Op.operands] using hx);simp only[vcOp,hop,Zcl hps] at hv ⊢;split at hv
   ·split at hv
    ·exact hv.imp (fun hv=>⟨hv.1,hK _ _ (fun _ _=>fun l c hl=>hl) hv.2⟩) (fun hv=>⟨hv.1,hK _ _ (fun _ _=>BoxLe.refl h) hv.2⟩)
    ·rw[Zcn hps];split at hv
     ·exact⟨hv.1,hK _ _ (fun _ _=>Zbj hr) hv.2⟩
     ·exact hv
   ·exact hv
 | makeSlice t x y=>
   rw[hop] at ho;have hx:=ho x (by simp[Op.operands]);have hy:=ho y (by simp[Op.operands]);simp only[vcOp,hop,hx,hy] at hv ⊢;unfold vcMake at hv ⊢;split at hv
   ·split at hv
    ·rename_i h1 h2 h3;simp only[h1,h2,h3];exact⟨hv.1,hK _ _ (fun _ _=>Zbj hr) hv.2⟩
    ·exact hv.elim
   ·exact hv.elim
 | binOp op t x y t'=>
   have ho':=ho;rw[hop] at ho;have hx:=ho x (by simp[Op.operands]);have hy:=ho y (by simp[Op.operands]);simp only[vcOp,hop,hx,hy] at hv ⊢
   by_cases hnil:isNilConst y=true
   ·rw[if_pos hnil] at hv ⊢;unfold vcNilV at hv ⊢;split at hv
    ·exact Zjc (fun v hk=>hK v h (fun _ _=>BoxLe.refl h) hk) hv
    ·exact hv
   rw[if_neg hnil] at hv ⊢;split at hv
   ·split at hv
    ·exact⟨hv.1,hK _ _ (fun _ _=>BoxLe.refl h) hv.2⟩
    ·exact hv
   ·rename_i hn;split at hv
    ·rename_i r hrr
     have:=hK _ _ (fun _ _=>BoxLe.refl h) hv
     generalize e.ev x=X at *;generalize e.ev y=Y at *;cases X with
     | agg cs=>cases Y with
       | agg cs'=>exact (hn cs cs' rfl rfl).elim
       | _=>first
         | exact this
         | (simp only[hrr];exact this)
     | _=>first
       | exact this
       | (simp only[hrr];exact this)
    ·exact hv.elim
 | call c=>
   rw[hop] at ho;have ha:∀ x ∈ c.args.toList,e1.ev x=e.ev x:=fun x hx=>ho x (by simp[Op.operands,Call.operands];exact .inr (by simpa using hx));have hm:c.args.toList.map e1.ev=c.args.toList.map e.ev:=List.map_congr_left ha;cases hc:c.callee with
   | value f=>
     have hf:e1.ev f=e.ev f:=ho f (by simp[Op.operands,Call.operands,hc]);simp only[vcOp,hop,hc,hf,hm] at hv ⊢;have hck:callKind o.op=true:=by rw[hop];simp[callKind,hc]
     split at hv
     ·rcases hv with ⟨ars,cs,has,hcs,r,hs,hk⟩ | hv | ⟨v,hx,hk⟩
      ·exact .inl ⟨ars,cs,has,hcs,r,hs,hK _ _ (fun _ hq=>by rw[hck] at hq;cases hq) hk⟩
      ·exact .inr (.inl ⟨hv.1,fun Γ μ w vals hI hR=>(hv.2 Γ μ w vals hI hR).mono fun en w' ⟨u,v,h',μ',h1,h2,h3⟩=>⟨u,v,h',μ',h1,hK _ _ (fun _ hq=>by rw[hck] at hq;cases hq) h2,h3⟩⟩)
      ·exact .inr (.inr ⟨v,hx,hK _ _ (fun _ hq=>by rw[hck] at hq;cases hq) hk⟩)
     ·exact hv
   | invoke r m=>simp only[vcOp,hop,hc,eff] at hv
   | builtin b=>
     cases b with
     | len=>
       simp only[vcOp,hop,hc,hm] at hv ⊢;split at hv
       ·unfold vcLen at hv ⊢;split at hv
        ·split at hv
         ·exact hK _ _ (fun _ _=>BoxLe.refl h) hv
         ·exact hv
        ·split at hv
         ·exact hK _ _ (fun _ _=>BoxLe.refl h) hv
         ·split at hv
          ·exact fun hb=>hK _ _ (fun _ _=>BoxLe.refl h) (hv hb)
          ·exact hv
        ·exact hv
       ·exact hv
     | append=>
       have hst:storeKind o.op=true:=by rw[hop];simp[storeKind,hc]
       simp only[vcOp,hop,hc,hm] at hv ⊢;split at hv
       ·have hKK:∀ v h',K (e.put o.dst v) h'→K1 (e1.put o.dst v) h':=fun v h' hk=>hK v h' (fun hq=>by rw[hst] at hq;cases hq) hk;exact hv.imp (fun hv=>⟨hv.1,hv.2.imp (Zf6 hKK) (Zee hKK)⟩) (Zed hKK)
       ·exact hv
     | cap=>
       simp only[vcOp,hop,hc,hm] at hv ⊢;split at hv
       ·obtain⟨h1,hv⟩:=hv;refine⟨h1,?_⟩;split at hv<;>first | exact hK _ _ (fun _ _=>BoxLe.refl h) hv | exact hv
       ·exact hv
     | copy=>
       have hst:storeKind o.op=true:=by rw[hop];simp[storeKind,hc]
       simp only[vcOp,hop,hc,hm] at hv ⊢;split at hv
       ·exact⟨hv.1,Zh9 (fun v h' hk=>hK v h' (fun hq=>by rw[hst] at hq;cases hq) hk) hv.2⟩
       ·exact hv
     | clear=>
       have hst:storeKind o.op=true:=by rw[hop];simp[storeKind,hc]
       simp only[vcOp,hop,hc,hm] at hv ⊢;split at hv
       ·exact Zg4 (fun v h' hk=>hK v h' (fun hq=>by rw[hst] at hq;cases hq) hk) hv
       ·exact hv
     | max=>exact eff_case (fun e h K hv=>by
       simp only[vcOp,hop,hc] at hv ⊢;split at hv
       ·exact⟨_,by assumption,hv⟩
       ·exact hv.elim) (fun e h K v h1 h2=>by
       rw[hop] at h1;simp only[vcOp,hop,hc,h1];exact h2)
     | min=>exact eff_case (fun e h K hv=>by
       simp only[vcOp,hop,hc] at hv ⊢;split at hv
       ·exact⟨_,by assumption,hv⟩
       ·exact hv.elim) (fun e h K v h1 h2=>by
       rw[hop] at h1;simp only[vcOp,hop,hc,h1];exact h2)
     | _=>simp only[vcOp,hop,hc,eff] at hv
 | _=>exact eff_case (fun e h K hv=>by
     simp only[vcOp,hop] at hv ⊢;split at hv
     ·exact⟨_,by assumption,hv⟩
     ·exact hv.elim) (fun e h K v h1 h2=>by
     rw[hop] at h1;simp only[vcOp,hop,h1];exact h2)
def vcG (P:Program) (all:List Oper) (o:Oper) (e:Env) (h:HS) (K:Env→HS→Prop):Prop:=dstOK o e ∧
    match o.guard with
    | none=>vcOp P o e h K
    | some (j,want)=>match Z5t all e j with
      | .one (.d (.bool b))=>(b=want→vcOp P o e h K)∧(b≠want→K (e.put o.dst .undef) h)
      | .undef=>K (e.put o.dst .undef) h
      | _=>False
theorem Zfr {ops:Array Oper} {o:Oper} {e e1:Env} (h:∀ t ∈ o.looksAt ops,e1.get t=e.get t):∀ x ∈ o.op.operands,e1.ev x=e.ev x:=fun x hx=>by
 cases x with
 | tmp t=>exact h t (List.mem_append_left _ (List.mem_filterMap.2 ⟨.tmp t,by simpa using hx,rfl⟩))
 | _=>rfl
theorem Z71 {ops:Array Oper} {o:Oper} {e e1:Env} (h:∀ t ∈ o.looksAt ops,e1.get t=e.get t) {j:Nat} {want:Bool} (hg:o.guard=some (j,want)):Z5t ops.toList e1 j=Z5t ops.toList e j:=by
 unfold Z5t;cases hj:ops.toList[j]? with
 | none=>rfl
 | some oj=>
   dsimp only
   cases hd:oj.dst with
   | none=>rfl
   | some d=>
     have hj':ops[j]?=some oj:=by simpa using hj
     exact h d (by simp[Oper.looksAt,hg,hj',hd])
theorem Zg3 {ops:Array Oper} {Γ:Ctx} {Q:Exit→Act→World→Prop} {i:Nat} {o:Oper} (hi:ops[i]?=some o) {e:Env} {h:HS} {μ:Mem} {a:Act} {w:World} {K:Env→HS→Prop} {N:Act→World→Prop}
  (hI:Inv Γ h μ w) (hE:EnvRel μ e a) (hN:∀ e' h' μ' a' w',K e' h'→Inv Γ h' μ' w'→EnvRel μ' e' a'→Mem.Le μ μ'→N a' w') (hv:vcG P ops.toList o e h K):wpOp P ops Q i N a w:=by
 obtain⟨hd,hv⟩:=hv;unfold wpOp;simp only[hi];have skip:K (e.put o.dst .undef) h→N (a.put o.dst undef) w:=fun hs=>hN _ _ _ _ _ hs hI (hE.put (dst_lt hd) (v:=.undef) rfl) (.refl μ);have go:vcOp P o e h K→o.wp P a w N Q:=fun hs=>Zmh hI hE hd hs _ _ hN;split at hv
 ·rename_i hg;rw[if_pos (by simp[Region.wanted,hg])];exact .inl (go hv)
 ·rename_i j want hg;split at hv
  ·rename_i b hy;have hy':=Zen hE hy
   by_cases hb:b=want
   ·rw[if_pos (by simp[Region.wanted,hg,hy',hb])];exact .inl (go (hv.1 hb))
   ·rw[if_neg (by simp[Region.wanted,hg,hy',hb])];exact skip (hv.2 hb)
  ·rename_i hy;have hy':=Zaq hE hy;rw[if_neg (by simp[Region.wanted,hg,hy'])];exact skip hv
  ·exact hv.elim
def vcAny (P:Program) (md:Region.Mode) (ops:Array Oper) (K:Env→HS→Prop):Nat→Array Bool→Env→HS→Prop
 | 0,listed,e,h=>Region.ready md ops listed=[]∧(Real e h→K e h)
 | f+1,listed,e,h=>Real e h→(Region.ready md ops listed=[]→K e h) ∧
     ∀ i ∈ Region.ready md ops listed,∃ o,ops[i]?=some o∧vcG P ops.toList o e h (fun e' h'=>(callKind o.op=true→BoxLe h h')∧vcAny P md ops K f (listed.setIfInBounds i true) e' h')
theorem Za9 {md:Region.Mode} {ops:Array Oper} {Γ:Ctx} {Q:Exit→Act→World→Prop} {K:Env→HS→Prop} {μ0:Mem} (hN:∀ e' h' μ' a' w',K e' h'→Inv Γ h' μ' w'→EnvRel μ' e' a'→Mem.Le μ0 μ'→Q .normal a' w') :
  ∀ (f:Nat) (listed:Array Bool) {e:Env} {h:HS} {μ:Mem} {a:Act} {w:World},Inv Γ h μ w→EnvRel μ e a→Mem.Le μ0 μ→vcAny P md ops K f listed e h→wpAny P md ops Q f listed a w
 | 0,listed,e,h,μ,a,w,hI,hE,hle,hv=>⟨hv.1,hN _ _ _ _ _ (hv.2 ⟨_,_,_,_,hI,hE⟩) hI hE hle⟩
 | f+1,listed,e,h,μ,a,w,hI,hE,hle,hv=>by
   obtain⟨h0,h1⟩:=hv ⟨_,_,_,_,hI,hE⟩;refine⟨fun hr=>hN _ _ _ _ _ (h0 hr) hI hE hle,fun i hi=>?_⟩;obtain⟨o,ho,hg⟩:=h1 i hi;exact Zg3 ho hI hE (fun e' h' μ' a' w' hk hI' hE' hle'=>Za9 hN f _ hI' hE' (hle.trans hle') hk.2) hg
def GivesG (P:Program) (ops:Array Oper) (o:Oper) (e:Env) (h:HS) (v:V):Prop:=
 ∀ e1 h1 (K:Env→HS→Prop),e1.n=e.n→(∀ t ∈ o.looksAt ops,e1.get t=e.get t)→(loadKind o.op=true→BoxLe h h1)→K (e1.put o.dst v) h1→vcG P ops.toList o e1 h1 K
theorem GivesG.step {ops:Array Oper} {o:Oper} {e e1:Env} {h h1:HS} {v:V} (hg:GivesG P ops o e h v) (hn:e1.n=e.n) (he:∀ t ∈ o.looksAt ops,e1.get t=e.get t) (hb:loadKind o.op=true→BoxLe h h1):GivesG P ops o e1 h1 v:=
 fun e2 h2 K hn2 he2 hb2 hk=>hg e2 h2 K (hn2.trans hn) (fun t ht=>(he2 t ht).trans (he t ht)) (fun hl l c hl'=>hb2 hl l c (hb hl l c hl')) hk
theorem Zc4 {o:Oper} {e e1:Env} (hn:e1.n=e.n) (hd:dstOK o e):dstOK o e1:=by
 unfold dstOK at *;split at hd
 ·trivial
 ·rw[hn];exact hd
theorem put_n' {e:Env} {d:Option Nat} {v:V}:(e.put d v).n=e.n:=by cases d<;>rfl
theorem Z9k {ops:Array Oper} {o:Oper} {e:Env} {h:HS} {K:Env→HS→Prop} (hp:Z47 o.op=true) (hr:Real e h) (hv:vcG P ops.toList o e h K) :
  ∃ v,K (e.put o.dst v) h∧Real (e.put o.dst v) h∧GivesG P ops o e h v:=by
 obtain⟨hd,hv⟩:=hv;have skip:K (e.put o.dst .undef) h→(∀ e1:Env,∀ h1 (K:Env→HS→Prop),e1.n=e.n→(∀ t ∈ o.looksAt ops,e1.get t=e.get t)→K (e1.put o.dst .undef) h1→vcG P ops.toList o e1 h1 K) →
   ∃ v,K (e.put o.dst v) h∧Real (e.put o.dst v) h∧GivesG P ops o e h v:=fun hk hall=>
  ⟨.undef,hk,Zb4 hr (dst_lt hd) (fun _ _ _ _ _ _=>⟨undef,rfl⟩),fun e1 h1 K1 hn he hb hk=>hall e1 h1 K1 hn he hk⟩
 have go:vcOp P o e h K→(∀ e1:Env,∀ h1 (K:Env→HS→Prop),e1.n=e.n→(∀ t ∈ o.looksAt ops,e1.get t=e.get t)→vcOp P o e1 h1 K→vcG P ops.toList o e1 h1 K) →
   ∃ v,K (e.put o.dst v) h∧Real (e.put o.dst v) h∧GivesG P ops o e h v:=fun hs hall=>by
  obtain⟨v,hk,hr',hg⟩:=Zme hp hr hd hs;exact⟨v,hk,hr',fun e1 h1 K1 hn he hb hk=>hall e1 h1 K1 hn he (hg e1 h1 K1 (Zfr he) hb hk)⟩
 cases hg:o.guard with
 | none=>
   simp only[hg] at hv;exact go hv (fun e1 h1 K1 hn he hs=>⟨Zc4 hn hd,by simp only[hg];exact hs⟩)
 | some gw=>
   obtain⟨j,want⟩:=gw;simp only[hg] at hv;split at hv
   ·rename_i b hy
    by_cases hb:b=want
    ·exact go (hv.1 hb) (fun e1 h1 K1 hn he hs=>⟨Zc4 hn hd,by
      simp only[hg,Z71 he hg,hy];exact⟨fun _=>hs,fun hne=>absurd hb hne⟩⟩)
    ·exact skip (hv.2 hb) (fun e1 h1 K1 hn he hs=>⟨Zc4 hn hd,by
      simp only[hg,Z71 he hg,hy];exact⟨fun hq=>absurd hq hb,fun _=>hs⟩⟩)
   ·rename_i hy;exact skip hv (fun e1 h1 K1 hn he hs=>⟨Zc4 hn hd,by
      simp only[hg,Z71 he hg,hy];exact hs⟩)
   ·exact hv.elim
theorem Zgb {e:Env} {x y:Option Nat} {v u:V} (h:∀ d,x=some d→y≠some d):(e.put x v).put y u=(e.put y u).put x v:=by
 cases x with
 | none=>rfl
 | some d=>
   cases y with
   | none=>rfl
   | some d'=>
     have hne:d≠d':=fun he=>h d rfl (he ▸ rfl);simp only[Env.put,Env.mk.injEq,true_and]
     funext k
     by_cases h1:k=d'<;>by_cases h2:k=d<;>simp_all
theorem Zcx {e:Env} {x:Option Nat} {v:V} {t:Nat} (h:∀ d,x=some d→d≠t):(e.put x v).get t=e.get t:=by
 cases x with
 | none=>rfl
 | some d=>
   have:=h d rfl
   show (if t=d then v else e.get t)=e.get t;rw[if_neg (Ne.symm this)]
theorem Zn8 {ops:Array Oper} {oi oj:Oper} {e:Env} {h:HS} {v:V} {K:Env→HS→Prop} (hap:oi.apart ops oj=true) (hst:storeKind oj.op=false∨loadKind oi.op=false) (hr:Real (e.put oi.dst v) h)
  (hv:vcG P ops.toList oj (e.put oi.dst v) h (fun e' h'=>(callKind oj.op=true→BoxLe h h')∧K e' h')) :
  vcG P ops.toList oj e h (fun e' h'=>(callKind oj.op=true→BoxLe h h')∧e'.n=e.n∧(∀ t ∈ oi.looksAt ops,e'.get t=e.get t)∧(loadKind oi.op=true→BoxLe h h')∧K (e'.put oi.dst v) h'):=by
 obtain⟨h1,h2,h3⟩:=Oper.apart_spec hap;have hag:∀ t ∈ oj.looksAt ops,e.get t=(e.put oi.dst v).get t:=fun t ht=>(Zcx (fun d hd he=>h1 d hd (he ▸ ht))).symm;have fin:∀ u h',(storeKind oj.op=false→callKind oj.op=false→BoxLe h h')→((callKind oj.op=true→BoxLe h h')∧K ((e.put oi.dst v).put oj.dst u) h') →
   (callKind oj.op=true→BoxLe h h')∧(e.put oj.dst u).n=e.n∧(∀ t ∈ oi.looksAt ops,(e.put oj.dst u).get t=e.get t)∧(loadKind oi.op=true→BoxLe h h')∧K ((e.put oj.dst u).put oi.dst v) h':=fun u h' hb hk=>
  ⟨hk.1,put_n',fun t ht=>Zcx (fun d hd he=>h3 d hd (he ▸ ht)),fun hl=>by
   cases hc:callKind oj.op with
   | true=>exact hk.1 hc
   | false=>exact hb (hst.resolve_right (by simp[hl])) hc,by rw[← Zgb h2];exact hk.2⟩
 obtain⟨hd,hv⟩:=hv;refine⟨Zc4 put_n'.symm hd,?_⟩;have go:vcOp P oj (e.put oi.dst v) h (fun e' h'=>(callKind oj.op=true→BoxLe h h')∧K e' h')→vcOp P oj e h (fun e' h'=>(callKind oj.op=true→BoxLe h h')∧e'.n=e.n∧(∀ t ∈ oi.looksAt ops,e'.get t=e.get t)∧(loadKind oi.op=true→BoxLe h h')∧K (e'.put oi.dst v) h'):=fun hs=>
  Zbl hr (Zfr hag) (fun u h' hb hk=>fin u h' hb hk) hs
 cases hg:oj.guard with
 | none=>simp only[hg] at hv ⊢;exact go hv
 | some gw=>
   obtain⟨j,want⟩:=gw;simp only[hg] at hv ⊢;rw[Z71 hag hg];split at hv
   ·exact⟨fun hb=>go (hv.1 hb),fun hb=>fin _ _ (fun _ _=>BoxLe.refl h) (hv.2 hb)⟩
   ·exact fin _ _ (fun _ _=>BoxLe.refl h) hv
   ·exact hv.elim
theorem Z21 {all:List Oper} {o:Oper} {e:Env} {h:HS} {K K1:Env→HS→Prop} (hr:Real e h) (hK:∀ e' h',K e' h'→K1 e' h') (hv:vcG P all o e h K):vcG P all o e h K1:=by
 obtain⟨hd,hv⟩:=hv;refine⟨hd,?_⟩;have go:vcOp P o e h K→vcOp P o e h K1:=fun hs=>Zbl hr (fun _ _=>rfl) (fun u h' _ hk=>hK _ _ hk) hs;split at hv
 ·rename_i hg;exact go hv
 ·rename_i j want hg;split at hv
  ·rename_i hy;exact⟨fun hb=>go (hv.1 hb),fun hb=>hK _ _ (hv.2 hb)⟩
  ·exact hK _ _ hv
  ·exact hv.elim
theorem GivesG.real {ops:Array Oper} {o:Oper} {e:Env} {h:HS} {v:V} (hp:Z47 o.op=true) (hr:Real e h) (hg:GivesG P ops o e h v):Real (e.put o.dst v) h:=by
 obtain⟨v',h1,h2,_⟩:=Z9k hp hr (hg e h (fun e2 h2=>e2=e.put o.dst v∧h2=h) rfl (fun _ _=>rfl) (fun _=>BoxLe.refl h) ⟨rfl,rfl⟩);rw[← h1.1];exact h2
theorem Zd8 {md:Region.Mode} {ops:Array Oper} {K:Env→HS→Prop} {i:Nat} {oi:Oper} {v:V} (W:Nat→Bool) (hi:ops[i]?=some oi) (hp:Z47 oi.op=true)
  (hW:∀ j,W j=true→∃ oj,ops[j]?=some oj∧∃ x ∈ oj.after,Region.binds md x=true∧(x.on=i∨W x.on=true)) :
  ∀ (f:Nat) (listed:Array Bool) (e:Env) (h:HS),(∀ j,W j=true→listed.getD j true=false) →
    (∀ j oj,ops[j]?=some oj→j≠i→listed.getD j true=false→W j=false→oi.apart ops oj=true∧(storeKind oj.op=false∨loadKind oi.op=false)) →
    i ∈ Region.ready md ops listed→GivesG P ops oi e h v →
    vcAny P md ops K f (listed.setIfInBounds i true) (e.put oi.dst v) h→vcAny P md ops K (f+1) listed e h:=by
 intro f
 induction f with
 | zero=>
   intro listed e h _ _ hr hg H hR;refine⟨fun h=>(by rw[h] at hr;cases hr),fun j hj=>?_⟩
   by_cases hji:j=i
   ·subst hji;exact⟨oi,hi,hg e h _ rfl (fun _ _=>rfl) (fun _=>BoxLe.refl h) ⟨fun hc=>(by rw[Z6x hp] at hc;cases hc),H⟩⟩
   ·have:=ready_mono hj hji
    rw[H.1] at this;cases this
 | succ f ih=>
   intro listed e h hWl hfree hr hg H hR;have hR':=hg.real hp hR;refine⟨fun h=>(by rw[h] at hr;cases hr),fun j hj=>?_⟩
   by_cases hji:j=i
   ·subst hji;exact⟨oi,hi,hg e h _ rfl (fun _ _=>rfl) (fun _=>BoxLe.refl h) ⟨fun hc=>(by rw[Z6x hp] at hc;cases hc),H⟩⟩
   ·obtain⟨oj,hoj,h1⟩:=(H hR').2 j (ready_mono hj hji);obtain⟨hjun,oj',hoj',hall⟩:=mem_ready.1 hj
    have:oj'=oj:=Option.some.inj (hoj'.symm.trans hoj)
    subst this;have unl:∀ k,listed.getD k true=false→listed.getD k false=true→False:=fun k h1 h2=>by
     rcases Nat.lt_or_ge k listed.size with h' | h'
     ·simp[h'] at h1 h2;rw[h1] at h2;cases h2
     ·simp[Array.getElem?_eq_none h'] at h2
    have hnot:W j=false:=by
     cases hw:W j with
     | false=>rfl
     | true=>
       obtain⟨ok,hok,x,hx,hb,hon⟩:=hW j hw
       have:ok=oj':=Option.some.inj (hok.symm.trans hoj)
       subst this;have h1:=hall x hx hb;rcases hon with hon | hon
       ·rw[hon] at h1;exact (unl i (mem_ready.1 hr).1 h1).elim
       ·exact (unl _ (hWl _ hon) h1).elim
    obtain⟨hap,hst⟩:=hfree j oj' hoj hji hjun hnot;have hfree':∀ k ok,ops[k]?=some ok→k≠i→(listed.setIfInBounds j true).getD k true=false →
      W k=false→oi.apart ops ok=true∧(storeKind ok.op=false∨loadKind oi.op=false):=fun k ok hk hki hun hno=>by
     refine hfree k ok hk hki ?_ hno
     by_cases hjk:j=k
     ·subst hjk;exact hjun
     ·rw[getD_set_ne true hjk] at hun;exact hun
    have hWl':∀ k,W k=true→(listed.setIfInBounds j true).getD k true=false:=fun k hk=>by
     have hjk:j≠k:=by rintro rfl;rw[hnot] at hk;cases hk
     rw[getD_set_ne true hjk];exact hWl k hk
    refine⟨oj',hoj,Z21 hR (fun e' h' hk=>?_) (Zn8 hap hst hR' h1)⟩;obtain⟨hcb,hn,hag,hb,hk⟩:=hk;refine⟨hcb,?_⟩;refine ih (listed.setIfInBounds j true) e' h' hWl' hfree' (ready_mono hr (Ne.symm hji)) (hg.step hn hag hb) ?_
    ·rw[Array.setIfInBounds_comm _ _ hji];exact hk
def waitsN (md:Region.Mode) (ops:Array Oper) (i:Nat):Nat→List Nat→List Nat
 | 0,w=>w
 | n+1,w=>waitsN md ops i n ((List.range ops.size).filter fun j=>match ops[j]? with
   | some o=>o.after.any fun x=>Region.binds md x && (x.on == i || w.contains x.on)
   | none=>false)
def waitsB (md:Region.Mode) (ops:Array Oper) (i:Nat) (w:List Nat):Bool:=w.all fun j=>match ops[j]? with
    | some o=>o.after.any fun x=>Region.binds md x && (x.on == i || w.contains x.on)
    | none=>false
def firstB (md:Region.Mode) (ops:Array Oper) (listed:Array Bool) (i:Nat):Bool:=
 match ops[i]? with
 | none=>false
 | some oi=>
   let w:=waitsN md ops i ops.size []
   Z47 oi.op && (Region.ready md ops listed).contains i && waitsB md ops i w && w.all (fun j=>!listed.getD j true) && (List.range ops.size).all fun j=>j == i || listed.getD j true || w.contains j || match ops[j]? with
    | some oj=>oi.apart ops oj && (!storeKind oj.op || !loadKind oi.op)
    | none=>true
inductive Plan where
 | done
 | one (i:Nat) (p:Plan)
 | two (i j:Nat) (p q:Plan)
 | three (i j k:Nat) (p q r:Plan)
 | four (i j k l:Nat) (p q r s:Plan)
def planB (md:Region.Mode) (ops:Array Oper):Plan→Nat→Array Bool→Bool
 | .done,f,listed=>f == 0 && (Region.ready md ops listed).isEmpty
 | .one _ _,0,_=>false
 | .one i p,f+1,listed=>(Region.ready md ops listed == [i] || firstB md ops listed i) && planB md ops p f (listed.setIfInBounds i true)
 | .two _ _ _ _,0,_=>false
 | .two i j p q,f+1,listed=>Region.ready md ops listed == [i,j] && planB md ops p f (listed.setIfInBounds i true) && planB md ops q f (listed.setIfInBounds j true)
 | .three _ _ _ _ _ _,0,_=>false
 | .three i j k p q r,f+1,listed=>Region.ready md ops listed == [i,j,k] && planB md ops p f (listed.setIfInBounds i true) && planB md ops q f (listed.setIfInBounds j true) && planB md ops r f (listed.setIfInBounds k true)
 | .four _ _ _ _ _ _ _ _,0,_=>false
 | .four i j k l p q r s,f+1,listed=>Region.ready md ops listed == [i,j,k,l] && planB md ops p f (listed.setIfInBounds i true) && planB md ops q f (listed.setIfInBounds j true) && planB md ops r f (listed.setIfInBounds k true) && planB md ops s f (listed.setIfInBounds l true)
def Plan.then_:List Nat→Plan→Plan
 | [],p=>p
 | i::r,p=>.one i (Plan.then_ r p)
def Z01 (ops:List Oper):List Nat→List Oper
 | []=>[]
 | i::r=>match ops[i]? with
   | some o=>o::Z01 ops r
   | none=>Z01 ops r
def Z00 (ops:List Oper) (i:Nat):Bool:=
 match ops[i]? with
 | some o=>callKind o.op
 | none=>false
def vcPlan (P:Program) (ops:List Oper) (K:Env→HS→Prop):Plan→Env→HS→Prop
 | .done,e,h=>K e h
 | .one i p,e,h=>vcOps P ops (Z01 ops [i]) e h (fun e' h'=>(Z00 ops i=true→BoxLe h h')∧vcPlan P ops K p e' h')
 | .two i j p q,e,h=>vcOps P ops (Z01 ops [i]) e h (fun e' h'=>(Z00 ops i=true→BoxLe h h')∧vcPlan P ops K p e' h')∧vcOps P ops (Z01 ops [j]) e h (fun e' h'=>(Z00 ops j=true→BoxLe h h')∧vcPlan P ops K q e' h')
 | .four i j k l p q r s,e,h=>vcOps P ops (Z01 ops [i]) e h (fun e' h'=>(Z00 ops i=true→BoxLe h h')∧vcPlan P ops K p e' h')∧vcOps P ops (Z01 ops [j]) e h (fun e' h'=>(Z00 ops j=true→BoxLe h h')∧vcPlan P ops K q e' h')∧vcOps P ops (Z01 ops [k]) e h (fun e' h'=>(Z00 ops k=true→BoxLe h h')∧vcPlan P ops K r e' h')∧vcOps P ops (Z01 ops [l]) e h (fun e' h'=>(Z00 ops l=true→BoxLe h h')∧vcPlan P ops K s e' h')
 | .three i j k p q r,e,h=>vcOps P ops (Z01 ops [i]) e h (fun e' h'=>(Z00 ops i=true→BoxLe h h')∧vcPlan P ops K p e' h')∧vcOps P ops (Z01 ops [j]) e h (fun e' h'=>(Z00 ops j=true→BoxLe h h')∧vcPlan P ops K q e' h')∧vcOps P ops (Z01 ops [k]) e h (fun e' h'=>(Z00 ops k=true→BoxLe h h')∧vcPlan P ops K r e' h')
theorem Z1j {md:Region.Mode} {ops:Array Oper} {listed:Array Bool} {i:Nat} (hm:i ∈ Region.ready md ops listed) {e:Env} {h:HS} {l:List Nat} {K:Env→HS→Prop} (hv:vcOps P ops.toList (Z01 ops.toList (i::l)) e h K) :
  ∃ o,ops[i]?=some o∧Z00 ops.toList i=callKind o.op∧vcG P ops.toList o e h (fun e h=>vcOps P ops.toList (Z01 ops.toList l) e h K):=by
 obtain⟨_,o,ho,_⟩:=mem_ready.1 hm;have ho':ops.toList[i]?=some o:=by simpa using ho
 refine⟨o,ho,by simp only[Z00,ho'],?_⟩;simp only[Z01,ho'] at hv;exact hv
theorem Z22 {md:Region.Mode} {ops:Array Oper} {K:Env→HS→Prop}:∀ (p:Plan) (f:Nat) (listed:Array Bool) (e:Env) (h:HS),planB md ops p f listed=true →
  vcPlan P ops.toList K p e h→vcAny P md ops K f listed e h
 | .done,f,listed,e,h,hB,hv=>by
   unfold planB at hB;simp only[Bool.and_eq_true,beq_iff_eq] at hB;obtain⟨rfl,hB⟩:=hB;exact⟨by simpa using hB,fun _=>hv⟩
 | .one i p,0,listed,e,h,hB,hv=>by unfold planB at hB;cases hB
 | .one i p,f+1,listed,e,h,hB,hv=>by
   unfold planB at hB;simp only[Bool.and_eq_true,Bool.or_eq_true] at hB;obtain⟨hB,hrest⟩:=hB;have ih:=fun e h=>Z22 (K:=K) p f (listed.setIfInBounds i true) e h hrest;have hmem:i ∈ Region.ready md ops listed:=by
    rcases hB with hB | hB
    ·rw[eq_of_beq hB];simp
    ·unfold firstB at hB;split at hB
     ·cases hB
     ·simp only[Bool.and_eq_true] at hB;simpa using hB.1.1.1.2
   obtain⟨o,ho,hck,hv'⟩:=Z1j hmem hv;rw[hck] at hv'
   by_cases hR:Real e h
   ·rcases hB with hB | hB
    ·intro _;refine⟨fun h0=>(by rw[h0] at hmem;cases hmem),fun j hj=>?_⟩;rw[eq_of_beq hB] at hj
     have:j=i:=by simpa using hj
     subst this;exact⟨o,ho,Z21 hR (fun e' h' hk=>⟨hk.1,ih e' h' hk.2⟩) hv'⟩
    ·unfold firstB at hB;simp only[ho,Bool.and_eq_true] at hB;obtain⟨⟨⟨⟨hp,_⟩,hwB⟩,hwl⟩,hall⟩:=hB;obtain⟨v,hk,hR',hg⟩:=Z9k hp hR hv';generalize waitsN md ops i ops.size []=w at hwB hwl hall;refine Zd8 (fun j=>w.contains j) ho hp (fun j hj=>?_) f listed e h (fun j hj=>?_) (fun j oj hj hne hun hno=>?_) hmem hg (ih _ _ hk.2)
     ·have h1:=List.all_eq_true.1 hwB j (by simpa using hj);split at h1
      ·rename_i o ho';obtain⟨x,hx,hb⟩:=Array.any_eq_true'.1 h1;simp only[Bool.and_eq_true,Bool.or_eq_true,beq_iff_eq] at hb;exact⟨o,ho',x,hx,hb.1,hb.2⟩
      ·cases h1
     ·have h1:=List.all_eq_true.1 hwl j (by simpa using hj);simpa using h1
     ·have h1:=List.all_eq_true.1 hall j (List.mem_range.2 (Array.getElem?_eq_some_iff.1 hj).1);simp only[hj,Bool.or_eq_true,beq_iff_eq,hne,false_or,hun,Bool.false_eq_true,hno] at h1;simp only[Bool.and_eq_true,Bool.or_eq_true,Bool.not_eq_true'] at h1;exact h1
   ·exact fun hR'=>absurd hR' hR
 | .two i j p q,0,listed,e,h,hB,hv=>by unfold planB at hB;cases hB
 | .two i j p q,f+1,listed,e,h,hB,hv=>by
   unfold planB at hB;simp only[Bool.and_eq_true] at hB;have hr:Region.ready md ops listed=[i,j]:=eq_of_beq hB.1.1;intro hR;refine⟨fun h0=>(by rw[hr] at h0;cases h0),fun k hk=>?_⟩;have hk':=hk;rw[hr] at hk';simp only[List.mem_cons,List.not_mem_nil,or_false] at hk';rcases hk' with rfl | rfl
   ·obtain⟨o,ho,hck,hv'⟩:=Z1j hk hv.1;rw[hck] at hv';exact⟨o,ho,Z21 hR (fun e' h' hk=>⟨hk.1,Z22 p f _ e' h' hB.1.2 hk.2⟩) hv'⟩
   ·obtain⟨o,ho,hck,hv'⟩:=Z1j hk hv.2;rw[hck] at hv';exact⟨o,ho,Z21 hR (fun e' h' hk=>⟨hk.1,Z22 q f _ e' h' hB.2 hk.2⟩) hv'⟩
 | .three i j l p q r,0,listed,e,h,hB,hv=>by unfold planB at hB;cases hB
 | .three i j l p q r,f+1,listed,e,h,hB,hv=>by
   unfold planB at hB;simp only[Bool.and_eq_true] at hB;have hr:Region.ready md ops listed=[i,j,l]:=eq_of_beq hB.1.1.1;intro hR;refine⟨fun h0=>(by rw[hr] at h0;cases h0),fun k hk=>?_⟩;have hk':=hk;rw[hr] at hk';simp only[List.mem_cons,List.not_mem_nil,or_false] at hk';rcases hk' with rfl | rfl | rfl
   ·obtain⟨o,ho,hck,hv'⟩:=Z1j hk hv.1;rw[hck] at hv';exact⟨o,ho,Z21 hR (fun e' h' hk=>⟨hk.1,Z22 p f _ e' h' hB.1.1.2 hk.2⟩) hv'⟩
   ·obtain⟨o,ho,hck,hv'⟩:=Z1j hk hv.2.1;rw[hck] at hv';exact⟨o,ho,Z21 hR (fun e' h' hk=>⟨hk.1,Z22 q f _ e' h' hB.1.2 hk.2⟩) hv'⟩
   ·obtain⟨o,ho,hck,hv'⟩:=Z1j hk hv.2.2;rw[hck] at hv';exact⟨o,ho,Z21 hR (fun e' h' hk=>⟨hk.1,Z22 r f _ e' h' hB.2 hk.2⟩) hv'⟩
 | .four i j l m p q r s,0,listed,e,h,hB,hv=>by unfold planB at hB;cases hB
 | .four i j l m p q r s,f+1,listed,e,h,hB,hv=>by
   unfold planB at hB;simp only[Bool.and_eq_true] at hB;have hr:Region.ready md ops listed=[i,j,l,m]:=eq_of_beq hB.1.1.1.1;intro hR;refine⟨fun h0=>(by rw[h0] at hr;cases hr),fun k hk=>?_⟩;have hk':=hk;rw[hr] at hk';simp only[List.mem_cons,List.not_mem_nil,or_false] at hk';rcases hk' with rfl | rfl | rfl | rfl
   ·obtain⟨o,ho,hck,hv'⟩:=Z1j hk hv.1;rw[hck] at hv';exact⟨o,ho,Z21 hR (fun e' h' hk=>⟨hk.1,Z22 p f _ e' h' hB.1.1.1.2 hk.2⟩) hv'⟩
   ·obtain⟨o,ho,hck,hv'⟩:=Z1j hk hv.2.1;rw[hck] at hv';exact⟨o,ho,Z21 hR (fun e' h' hk=>⟨hk.1,Z22 q f _ e' h' hB.1.1.2 hk.2⟩) hv'⟩
   ·obtain⟨o,ho,hck,hv'⟩:=Z1j hk hv.2.2.1;rw[hck] at hv';exact⟨o,ho,Z21 hR (fun e' h' hk=>⟨hk.1,Z22 r f _ e' h' hB.1.2 hk.2⟩) hv'⟩
   ·obtain⟨o,ho,hck,hv'⟩:=Z1j hk hv.2.2.2;rw[hck] at hv';exact⟨o,ho,Z21 hR (fun e' h' hk=>⟨hk.1,Z22 s f _ e' h' hB.2 hk.2⟩) hv'⟩
theorem SWP.draw {id:Nat} {ops:Array Oper} {Q:Exit→Env→HS→Prop} {e:Env} {h:HS} (plan:Plan) (hm:P.follows .mixedOrders=true)
  (hB:planB .any ops plan ops.size (Array.replicate ops.size false)=true) (hv:vcPlan P ops.toList (Q .normal) plan e h):SWP P (.region id ops true) Q e h:=by
 intro Γ a w μ hI hE;exact wp_region_any hm (Za9 (Γ:=Γ) (fun e' h' μ' a' w' hk hI' hE' hle=>⟨e',h',μ',hk,hI',hE',hle⟩) ops.size _ (hI.drew) hE (.refl μ) (Z22 plan _ _ e h hB hv))
end
end Go.Am
end
section
namespace Go.Am
open Go
open Go.RowKit (Below)
section
variable {P:Program} {w:World} {a:Act} {e:Env} {h:HS} {μ:Mem} {Γ:Ctx}
inductive Frz (h:HS):C→D→Prop
 | data {c:C} {x:D} (hx:c.toD=some x):Frz h c x
 | mrow {l:Lab} {off cap es:Nat} {xs:List (List D)} {cs:List C} (f:Nat→Nat→C) (hb:h.box l=some cs) (hl:xs.length≤LIM) (hes:∀ x ∈ xs,x.length=es)
   (hc:∀ (i:Nat) x,xs[i]?=some x→∀ (j:Nat) d,x[j]?=some d→cs[off+(i * es+j)]?=some (f i j))
   (hf:∀ (i:Nat) x,xs[i]?=some x→∀ (j:Nat) d,x[j]?=some d→Frz h (f i j) d):Frz h (.mrow l off xs.length cap) (.sl xs)
theorem Zhu (hI:Inv Γ h μ w) {m:CM} (hs:Sub μ.cell m) (hm:∀ l cs b n o u,h.box l=some cs→μ.loc l=some (some b,n)→w.cell? ⟨b,o,none⟩=some u→m b o=some u)
  {c:C} {x:D} (hf:Frz h c x):∀ {v:Value},RepC μ c v→RepD m x v:=by
 induction hf with
 | data hx=>intro v hc;exact (Z5b hc hx).mono hs
 | @mrow l off cap es xs cs f hb hl hes hc hf ih=>
   intro v hv;obtain⟨b,k,hloc,rfl,hcap⟩:=hv;obtain⟨b',n,T,conc,h1,_,h3,h4,_⟩:=hI.box l cs hb;rw[hloc] at h1;simp only[Option.some.injEq,Prod.mk.injEq] at h1;obtain⟨rfl,_⟩:=h1;refine .sl xs _ cap es b off (fun i j=>conc.getD (off+(i * es+j)) undef) hl hcap hes (fun _=>rfl) (fun i x hx j d hd=>?_) (fun i x hx j d hd=>?_)
   ·obtain⟨u,hu,_⟩:=h4.2 _ _ (hc i x hx j d hd);refine hm l cs b k _ _ hb hloc ?_;simp[World.cell?,h3,hu,Array.getD_eq_getD_getElem?]
   ·obtain⟨u,hu,hr⟩:=h4.2 _ _ (hc i x hx j d hd)
    have:conc.getD (off+(i * es+j)) undef=u:=by rw[Array.getD_eq_getD_getElem?,hu];rfl
    simp only[this];exact ih i x hx j d hd hr
def FrzCs (h:HS):List C→List D→Prop
 | [],[]=>True
 | c::cs,x::xs=>Frz h c x∧FrzCs h cs xs
 | _,_=>False
theorem FrzCs.get:∀ {cs:List C} {xs:List D},FrzCs h cs xs→cs.length=xs.length∧∀ (i:Nat) x,xs[i]?=some x→∃ c,cs[i]?=some c∧Frz h c x
 | [],[],_=>⟨rfl,fun i x hi=>by simp at hi⟩
 | c::cs,y::xs,hr=>by
   obtain⟨h1,h2⟩:=FrzCs.get hr.2;refine⟨by simp[h1],fun i x hi=>?_⟩;cases i with
   | zero=>simp at hi;subst hi;exact⟨c,by simp,hr.1⟩
   | succ i=>obtain⟨c',h3,h4⟩:=h2 i x (by simpa using hi);exact⟨c',by simpa using h3,h4⟩
 | [],_::_,hr=>hr.elim
 | _::_,[],hr=>hr.elim
def notTup:V→Bool
 | .tup _=>false
 | _=>true
def retH (P:Program) (rs:List ResultVar) (K:V→HS→Prop):Exit→Env→HS→Prop:=fun x e h=>
 match x with
 | .normal | .ret=>match resVs P e h rs with
   | some [v]=>K v h
   | some vs=>vs.all notTup=true∧K (.tup vs) h
   | none=>False
 | _=>False
def envV (n:Nat) (vs:List V):Env:={ n,get:=fun k=>(vs[k]?).getD .undef }
theorem HSpec.mono {f:FuncId} {vs:List V} {K K':V→HS→Prop} (hs:HSpec P f vs h K) (hk:∀ v h',K v h'→K' v h'):HSpec P f vs h K':=
 ⟨hs.1,fun Γ μ w vals hI hR=>(hs.2 Γ μ w vals hI hR).mono fun en w' ⟨u,v,h',μ',h1,h2,h3⟩=>⟨u,v,h',μ',h1,hk _ _ h2,h3⟩⟩
theorem HSpec.of_vc {f:FuncId} {fn:Func} {c:Code} {n:Nat} {vs:List V} {K:V→HS→Prop} (hf:P.funcs[f]?=some fn) (hb:fn.body=some c) (hnm:(fn.name == "runtime.NumGoroutine")=false) (hn:fn.ntmps=n) {rs:List ResultVar} (hrs:fn.results.toList=rs) (has:vs.length≤n)
  (hv:vc P c (retH P rs K) (envV n vs) h):HSpec P f vs h K:=by
 subst hrs;refine⟨⟨fn,hf,hnm,by rw[hb];rfl⟩,fun Γ μ w vals hI hargs=>?_⟩;have hE:EnvRel μ (envV n vs) { tmps:=vals++Array.replicate (fn.ntmps - vals.size) undef,defers:=[] }:=by
  refine⟨rfl,?_,fun k=>?_⟩
  ·simp[envV,hargs.1,hn];omega
  ·simp only[envV];cases hk:vs[k]? with
   | some x=>
     obtain⟨u,hu,hr⟩:=hargs.2 k x hk;have hlt:k < vals.size:=(Array.getElem?_eq_some_iff.1 hu).1
     have:(vals++Array.replicate (fn.ntmps - vals.size) undef).getD k undef=u:=by
      rw[Array.getD_eq_getD_getElem?,Array.getElem?_append_left hlt,hu];rfl
     simp only[this,Option.getD_some];exact hr
   | none=>
     have hge:vals.size≤k:=by rw[hargs.1];exact List.getElem?_eq_none_iff.1 hk
     show (vals++Array.replicate (fn.ntmps - vals.size) undef).getD k undef=undef;rw[Array.getD_eq_getD_getElem?,Array.getElem?_append_right hge];cases hx:(Array.replicate (fn.ntmps - vals.size) undef)[k - vals.size]? with
     | none=>rfl
     | some u=>
       obtain⟨_,he⟩:=Array.getElem?_eq_some_iff.1 hx;simp at he;simp[he]
 refine calls_of_wp hf hb (Code.wp_mono ?_ (Z50 c _ _ _ hv Γ _ w _ hI hE));rintro ex a' w' ⟨e',h',μ',hq,hI',hE',hle⟩;have fin:(match resVs P e' h' fn.results.toList with
  | some [v]=>K v h'
  | some vs=>vs.all notTup=true∧K (.tup vs) h'
  | none=>False)→a'.defers=[]∧∃ v,(results fn a'.tmps).run P w'=.ok v w'∧∃ u v' h'' μ'',Ending.returned v=.returned u∧K v' h''∧Inv Γ h'' μ'' w'∧RepV μ'' v' u∧Mem.Le μ μ'':=by
  intro hret;cases hvs:resVs P e' h' fn.results.toList with
  | none=>rw[hvs] at hret;exact hret.elim
  | some vs'=>
    rw[hvs] at hret;obtain⟨us,hrun,hlen,hR⟩:=Zhf (P:=P) hI' hE' fn.results.toList vs' hvs;have hres:(results fn a'.tmps).run P w'=.ok (if hh:us.toArray.size=1 then us.toArray[0] else .tuple us.toArray) w':=by
     rw[Zeq,Sem.run_bind,Array.mapM_eq_mapM_toList];have hrun':(Functor.map List.toArray (fn.results.toList.mapM (resF a'.tmps))).run P w'=.ok us.toArray w':=by
      rw[Sem.run_map,hrun];rfl
     rw[hrun'];rfl
    refine⟨hE'.1,_,hres,?_⟩
    by_cases h1:∃ v,vs'=[v]
    ·obtain⟨v,rfl⟩:=h1;obtain⟨u,hu,hru⟩:=hR 0 v (by simp);obtain⟨u',rfl⟩:∃ u',us=[u']:=by
      match us,hlen with
      | [u'],_=>exact⟨u',rfl⟩
     obtain rfl:u'=u:=by simpa using hu
     exact⟨u',v,h',μ',rfl,hret,hI',hru,hle⟩
    ·have hne:¬ us.toArray.size=1:=by
      simp only[List.size_toArray,hlen];intro hq;exact h1 (by
       match vs',hq with
       | [v],_=>exact⟨v,rfl⟩)
     rw[dif_neg hne];have hret':vs'.all notTup=true∧K (.tup vs') h':=by
      clear hR hvs hlen hne
      revert h1 hret
      match vs' with
      | []=>exact fun hret _=>hret
      | [v]=>exact fun _ h1=>(h1 ⟨v,rfl⟩).elim
      | _::_::_=>exact fun hret _=>hret
     refine⟨_,.tup vs',h',μ',rfl,hret'.2,hI',⟨us.toArray,rfl,by simp[hlen],fun i x hi=>?_⟩,hle⟩;obtain⟨u,hu,hru⟩:=hR i x hi;refine⟨u,by simpa using hu,?_⟩;have hx:=List.all_eq_true.1 hret'.1 x (List.mem_of_getElem? hi);cases x with
     | tup _=>simp[notTup] at hx
     | _=>exact hru
 cases ex with
 | normal=>exact fin hq
 | ret=>exact fin hq
 | exit id=>exact hq.elim
 | goto l=>exact hq.elim
 | panic ch=>exact hq.elim
 | outgrown=>exact hq.elim
def FrzRs (h:HS):List C→List RC→Prop
 | [],[]=>True
 | c::cs,.d x::rs=>Frz h c x∧FrzRs h cs rs
 | _,_=>False
def FrzV1 (h:HS) (v:V):RV→Prop
 | .one (.d x)=>match v with
   | .one c=>Frz h c x
   | _=>False
 | .agg rs=>match v with
   | .agg cs=>FrzRs h cs rs
   | _=>False
 | _=>False
def FrzVs (h:HS):List V→List RV→Prop
 | [],[]=>True
 | v::vs,r::rs=>FrzV1 h v r∧FrzVs h vs rs
 | _,_=>False
def FrzFin (h:HS) (v:V):RV→Prop
 | .tup rs=>match v with
   | .tup vs=>FrzVs h vs rs
   | _=>False
 | r=>FrzV1 h v r
theorem FrzRs.get:∀ {cs:List C} {rs:List RC},FrzRs h cs rs→cs.length=rs.length∧∀ (i:Nat) r,rs[i]?=some r→∃ c x,cs[i]?=some c∧r=.d x∧Frz h c x
 | [],[],_=>⟨rfl,fun i r hi=>by simp at hi⟩
 | c::cs,.d x::rs,hr=>by
   obtain⟨h1,h2⟩:=FrzRs.get hr.2;refine⟨by simp[h1],fun i r hi=>?_⟩;cases i with
   | zero=>simp at hi;subst hi;exact⟨c,x,by simp,rfl,hr.1⟩
   | succ i=>obtain⟨c',x',h3,h4⟩:=h2 i r (by simpa using hi);exact⟨c',x',by simpa using h3,h4⟩
 | [],_::_,hr=>hr.elim
 | _::_,[],hr=>hr.elim
 | _::_,.fresh _ _ _::_,hr=>hr.elim
theorem FrzVs.get:∀ {vs:List V} {rs:List RV},FrzVs h vs rs→vs.length=rs.length∧∀ (i:Nat) r,rs[i]?=some r→∃ v,vs[i]?=some v∧FrzV1 h v r
 | [],[],_=>⟨rfl,fun i r hi=>by simp at hi⟩
 | c::cs,r::rs,hr=>by
   obtain⟨h1,h2⟩:=FrzVs.get hr.2;refine⟨by simp[h1],fun i r' hi=>?_⟩;cases i with
   | zero=>simp at hi;subst hi;exact⟨c,by simp,hr.1⟩
   | succ i=>obtain⟨c',h3,h4⟩:=h2 i r' (by simpa using hi);exact⟨c',by simpa using h3,h4⟩
 | [],_::_,hr=>hr.elim
 | _::_,[],hr=>hr.elim
theorem FrzRs.fr:∀ {cs:List C} {rs:List RC},FrzRs h cs rs→rs.flatMap RC.fr=[]
 | [],[],_=>rfl
 | c::cs,.d x::rs,hr=>by rw[List.flatMap_cons,FrzRs.fr hr.2];rfl
 | [],_::_,hr=>hr.elim
 | _::_,[],hr=>hr.elim
 | _::_,.fresh _ _ _::_,hr=>hr.elim
theorem FrzV1.fr {v:V} {r:RV} (hr:FrzV1 h v r):RV1.fr r=[]:=by
 cases r with
 | one c=>cases c with
   | d x=>rfl
   | fresh j es xs=>exact hr.elim
 | agg rs=>cases v<;>first | exact hr.elim | exact FrzRs.fr hr
 | tup rs=>exact hr.elim
theorem FrzVs.fr:∀ {vs:List V} {rs:List RV},FrzVs h vs rs→rs.flatMap RV1.fr=[]
 | [],[],_=>rfl
 | v::vs,r::rs,hr=>by rw[List.flatMap_cons,FrzVs.fr hr.2,FrzV1.fr hr.1];rfl
 | [],_::_,hr=>hr.elim
 | _::_,[],hr=>hr.elim
theorem FrzFin.fr {v:V} {r:RV} (hr:FrzFin h v r):r.fr=[]:=by
 cases r with
 | tup rs=>cases v<;>first | exact hr.elim | exact FrzVs.fr hr
 | one c=>exact FrzV1.fr (r:=.one c) hr
 | agg rs=>exact FrzV1.fr (r:=.agg rs) hr
theorem Zdv {m:CM} {blk:Nat→Option Nat × Nat} (key:∀ {c:C} {x:D} {v:Value},Frz h c x→RepC μ c v→RepD m x v) {v:V} {r:RV} {u:Value} (hv:RepV μ v u) (hr:FrzV1 h v r):RepRV1 m blk r u:=by
 cases r with
 | one c=>
   cases c with
   | d x=>cases v<;>first | exact hr.elim | exact key hr hv
   | fresh j es xs=>exact hr.elim
 | agg rs=>
   cases v with
   | agg cs=>
     obtain⟨vs,h1,h2⟩:=hv;obtain⟨h3,h4⟩:=FrzRs.get hr;refine⟨vs,h1,by rw[h2.1,h3],fun i r hi=>?_⟩;obtain⟨c,x,h5,rfl,h6⟩:=h4 i r hi;obtain⟨u',h7,h8⟩:=h2.2 i c h5;exact⟨u',h7,key h6 h8⟩
   | _=>exact hr.elim
 | tup rs=>exact hr.elim
theorem RepV.one1 {μ:Mem} {v:V} {u:Value} (hn:∀ vs,v≠.tup vs) (hv:RepV1 μ v u):RepV μ v u:=by
 cases v with
 | tup vs=>exact (hn vs rfl).elim
 | _=>exact hv
theorem Zkt {m:CM} {blk:Nat→Option Nat × Nat} (key:∀ {c:C} {x:D} {v:Value},Frz h c x→RepC μ c v→RepD m x v) {v:V} {r:RV} {u:Value} (hv:RepV μ v u) (hr:FrzFin h v r):RepRV m blk r u:=by
 cases r with
 | tup rs=>
   cases v with
   | tup vs=>
     obtain⟨us,h1,h2,h3⟩:=hv;obtain⟨h4,h5⟩:=FrzVs.get hr;refine⟨us,h1,by rw[h2,h4],fun i r hi=>?_⟩;obtain⟨v,h6,h7⟩:=h5 i r hi;obtain⟨u',h8,h9⟩:=h3 i v h6;refine⟨u',h8,Zdv key (RepV.one1 (fun vs he=>by subst he;exact h9.elim) h9) h7⟩
   | _=>exact hr.elim
 | one c=>exact Zdv (r:=.one c) key hv hr
 | agg rs=>exact Zdv (r:=.agg rs) key hv hr
theorem PSpec.of_heap {f:FuncId} {ars:List AV} {r:RV} (hs:HSpec P f (ars.map AV.toV) HS.init (fun v h=>FrzFin h v r)):PSpec P f ars r:=by
 refine⟨hs.1,fun w m t vals hg hm ht hargs=>?_⟩;have hI:Inv ⟨w,m,t,hg⟩ HS.init { cell:=m,tmp:=t,loc:=fun _=>none } w:=
  ⟨hm,rfl,ht,fun b o v hv=>ht.lt hv,Sub.refl _,fun _ _ _ _ h=>h,Below.refl _ _,fun l cs hl=>by simp[HS.init] at hl,fun l es n hl=>by simp[HS.init] at hl,
   fun l l' b n n' hl=>by rcases hl with hl | hl<;>simp[HS.init] at hl,fun l hl=>absurd rfl hl,fun l hl=>by simp[HS.init] at hl⟩
 refine (hs.2 ⟨w,m,t,hg⟩ _ w vals hI ⟨by simp[hargs.1],fun i v hi=>?_⟩).mono ?_
 ·rw[List.getElem?_map] at hi;cases hx:ars[i]? with
  | none=>simp[hx] at hi
  | some x=>
    simp[hx] at hi;subst hi;obtain⟨u,hu,hr⟩:=hargs.2 i x hx;exact⟨u,hu,AV_rep hr⟩
 ·rintro en w' ⟨u,v,h',μ',rfl,hfr,hI',hru,hle⟩
  let m':CM:=fun b o=>match μ'.cell b o with
   | some v=>some v
   | none=>if w.heap.size≤b then w'.cell? ⟨b,o,none⟩ else none
  have hsub:Sub μ'.cell m':=fun b o v hv=>by show (match μ'.cell b o with | some v=>some v | none=>_)=some v;rw[hv]
  have hcell:Cells m' w':=fun b o v hv=>by
   have hv':(match μ'.cell b o with | some v=>some v | none=>if w.heap.size≤b then w'.cell? ⟨b,o,none⟩ else none)=some v:=hv;cases hx:μ'.cell b o with
   | some y=>rw[hx] at hv';injection hv' with hv';subst hv';exact hI'.cell _ _ _ hx
   | none=>
     rw[hx] at hv';simp only at hv';split at hv'
     ·exact hv'
     ·cases hv'
  refine⟨u,m',fun _=>(none,0),rfl,fun b o v hv=>hsub _ _ _ (hI'.ext _ _ _ hv),fun b o v hb hv=>?_,hcell,hI'.below,?_,?_⟩
  ·have hv':(match μ'.cell b o with | some v=>some v | none=>if w.heap.size≤b then w'.cell? ⟨b,o,none⟩ else none)=some v:=hv;cases hx:μ'.cell b o with
   | some y=>rw[hx] at hv';injection hv' with hv';subst hv';exact hI'.old _ _ _ hb hx
   | none=>rw[hx] at hv';simp only at hv';rw[if_neg (by omega)] at hv';cases hv'
  ·refine Zkt (fun hf hc=>Zhu hI' hsub (fun l cs b n o u hb hl hu=>?_) hf hc) hru hfr;obtain⟨b',n',T,conc,h1,h2,h3,_,h5⟩:=hI'.box l cs hb;rw[hl] at h1;simp only[Option.some.injEq,Prod.mk.injEq] at h1;obtain⟨rfl,_⟩:=h1;show (match μ'.cell b o with | some v=>some v | none=>if w.heap.size≤b then w'.cell? ⟨b,o,none⟩ else none)=some u;rw[h5 o];simp only;rw[if_pos h2];exact hu
  ·rw[hfr.fr];exact⟨fun x hx=>by simp at hx,fun x hx=>by simp at hx⟩
end
end Go.Am
end
section
namespace Go.Am
open Go
open Go.RowKit (Below)
section
variable {P:Program} {w:World} {a:Act} {e:Env} {h:HS} {μ:Mem} {Γ:Ctx}
inductive LendC (h:HS):C→A→Prop
 | frz {c:C} {x:D} (hf:Frz h c x):LendC h c (.d x)
 | ptr {l:Lab} {off:Nat} {cs:List C} {ds:List D} (hb:h.box l=some cs) (hf:FrzCs h (cs.drop off) ds):LendC h (.ptr l off) (.rp ds)
 | rp {cs:List D}:LendC h (.rp cs) (.rp cs)
 | fn {f:FuncId} {caps:List Cap} {dss:List (List D)} (hl:caps.length=dss.length) (hc:∀ (i:Nat) c ds,caps[i]?=some c→dss[i]?=some ds→match c with
   | .lab l=>∃ cs,h.box l=some cs∧FrzCs h cs ds
   | .rp cs=>cs=ds):LendC h (.fn f caps) (.fn f dss)
inductive LendV (h:HS):V→AV→Prop
 | one {c:C} {x:A} (hc:LendC h c x):LendV h (.one c) (.one x)
 | agg {cs:List C} {ds:List D} (hc:FrzCs h cs ds):LendV h (.agg cs) (.agg ds)
def LendVs (h:HS):List V→List AV→Prop
 | [],[]=>True
 | v::vs,x::xs=>LendV h v x∧LendVs h vs xs
 | _,_=>False
theorem LendVs.get:∀ {vs:List V} {xs:List AV},LendVs h vs xs→vs.length=xs.length∧∀ (i:Nat) x,xs[i]?=some x→∃ v,vs[i]?=some v∧LendV h v x
 | [],[],_=>⟨rfl,fun i x hi=>by simp at hi⟩
 | c::cs,y::xs,hr=>by
   obtain⟨h1,h2⟩:=LendVs.get hr.2;refine⟨by simp[h1],fun i x hi=>?_⟩;cases i with
   | zero=>simp at hi;subst hi;exact⟨c,by simp,hr.1⟩
   | succ i=>obtain⟨c',h3,h4⟩:=h2 i x (by simpa using hi);exact⟨c',by simpa using h3,h4⟩
 | [],_::_,hr=>hr.elim
 | _::_,[],hr=>hr.elim
theorem Zfa (hI:Inv Γ h μ w) {c:C} {x:D} {v:Value} (hf:Frz h c x) (hc:RepC μ c v):RepD (snap w) x v:=
 Zhu hI hI.cell (fun _ _ _ _ _ _ _ _ hu=>hu) hf hc
theorem Zii (hI:Inv Γ h μ w) {l:Lab} {cs:List C} {off:Nat} {ds:List D} (hb:h.box l=some cs) (hf:FrzCs h (cs.drop off) ds) {b n:Nat} (hl:μ.loc l=some (some b,n)):RepP (snap w) (snap w) ds (.pointer (some ⟨b,off,none⟩)):=by
 obtain⟨b',n',T,conc,h1,_,h3,h4,_⟩:=hI.box l cs hb;rw[hl] at h1;simp only[Option.some.injEq,Prod.mk.injEq] at h1;obtain⟨rfl,_⟩:=h1;obtain⟨_,hg⟩:=hf.get;refine⟨b,off,rfl,fun j c hj=>?_⟩;obtain⟨c',hc',hfz⟩:=hg j c hj;rw[List.getElem?_drop] at hc';obtain⟨u,hu,hr⟩:=h4.2 _ _ hc';refine⟨u,.inl ?_,Zfa hI hfz hr⟩;show w.cell? ⟨b,off+j,none⟩=some u;simp[World.cell?,h3,hu]
theorem Zm7 (hI:Inv Γ h μ w) {cs:List D} {v:Value} (hr:RepP μ.cell μ.tmp cs v):RepP (snap w) (snap w) cs v:=by
 obtain⟨b,off,rfl,hc⟩:=hr;refine⟨b,off,rfl,fun j c hj=>?_⟩;obtain⟨u,hu,hrr⟩:=hc j c hj;refine⟨u,.inl ?_,hrr.mono hI.cell⟩;rcases hu with hu | hu
 ·exact hI.cell _ _ _ hu
 ·rw[hI.tmp] at hu;exact hI.tcell _ _ _ hu
theorem Zmm (hI:Inv Γ h μ w) {c:C} {x:A} {v:Value} (hl:LendC h c x) (hc:RepC μ c v):RepA (snap w) (snap w) x v:=by
 cases hl with
 | frz hf=>exact Zfa hI hf hc
 | ptr hb hf=>obtain⟨b,n,hl,rfl⟩:=hc;exact Zii hI hb hf hl
 | rp=>exact Zm7 hI hc
 | fn hlen hcs=>
   obtain⟨vs,h1,h2,h3⟩:=hc;refine⟨vs,h1,by rw[h2,hlen],fun i ds hi=>?_⟩;rename_i f caps dss;have hlt:i < caps.length:=by rw[hlen];exact (List.getElem?_eq_some_iff.1 hi).1
   have hci:caps[i]?=some caps[i]:=List.getElem?_eq_getElem hlt;obtain⟨u,hu,hr⟩:=h3 i _ hci;refine⟨u,hu,?_⟩
   have:=hcs i _ ds hci hi
   generalize caps[i]=cp at this hr;cases cp with
   | lab l=>
     obtain⟨cs,hb,hf⟩:=this;obtain⟨b,n,hl,rfl⟩:=hr;exact Zii (off:=0) hI hb (by simpa using hf) hl
   | rp cs=>subst this;exact Zm7 hI hr
theorem Zgk (hI:Inv Γ h μ w) {v:V} {x:AV} {u:Value} (hl:LendV h v x) (hv:RepV μ v u):RepAV (snap w) (snap w) x u:=by
 cases hl with
 | one hc=>exact Zmm hI hc hv
 | agg hc=>
   obtain⟨vs,h1,h2⟩:=hv;obtain⟨h3,h4⟩:=hc.get;refine⟨vs,h1,by rw[h2.1,h3],fun i x hi=>?_⟩;obtain⟨c,h5,h6⟩:=h4 i x hi;obtain⟨u',h7,h8⟩:=h2.2 i c h5;exact⟨u',h7,Zfa hI h6 h8⟩
def D.flat:D→Bool
 | .sl _=>false
 | _=>true
def RC.flat:RC→Bool
 | .d x=>x.flat
 | .fresh _ _ xs=>xs.all fun y=>y.all D.flat
def RV1.flat:RV→Bool
 | .one c=>c.flat
 | .agg cs=>cs.all RC.flat
 | .tup _=>true
def RV.flat:RV→Bool
 | .tup vs=>vs.all RV1.flat
 | v=>RV1.flat v
theorem Zfp {m m':CM} {x:D} {v:Value} (hf:x.flat=true) (h:RepD m x v):RepD m' x v:=by
 cases h with
 | int k n=>exact .int k n
 | bool b=>exact .bool b
 | str s=>exact .str s
 | raw v h=>exact .raw v h
 | sl=>simp[D.flat] at hf
theorem HSpec.of_lend {f:FuncId} {vs:List V} {ars:List AV} {r:RV} {K:V→HS→Prop} (hs:PSpec P f ars r) (hl:LendVs h vs ars) (hflat:r.flat=true) (hk:K (r.toV h.ep 0) ((h.addFr 0 r.fr).next)):HSpec P f vs h K:=by
 refine⟨hs.1,fun Γ μ w vals hI hR=>?_⟩;obtain⟨hlen,hget⟩:=hl.get;have hargs:Zap (snap w) (snap w) ars vals:=⟨by rw[hR.1,hlen],fun i x hi=>by
  obtain⟨v,hv,hlv⟩:=hget i x hi;obtain⟨u,hu,hr⟩:=hR.2 i v hv;exact⟨u,hu,Zgk hI hlv hr⟩⟩
 refine (hs.2 w (snap w) (snap w) vals hI.glob (Z6y w) (Z6y w) hargs).mono ?_;rintro en w' ⟨v,m',blk,rfl,hsub,hold,hcell,hb,hr,hfr⟩
 let m2:CM:=fun b o=>match μ.cell b o with
  | some v=>some v
  | none=>if w.heap.size≤b then m' b o else none
 have e2:∀ b o,m2 b o=match μ.cell b o with
  | some v=>some v
  | none=>if w.heap.size≤b then m' b o else none:=fun _ _=>rfl
 have hsub1:Sub μ.cell m2:=fun b o v hv=>by rw[e2,hv]
 have hsub2:Sub m2 m':=fun b o v hv=>by
  rw[e2] at hv;cases hx:μ.cell b o with
  | some y=>rw[hx] at hv;injection hv with hv;subst hv;exact hsub _ _ _ (hI.cell _ _ _ hx)
  | none=>
    rw[hx] at hv;simp only at hv;split at hv
    ·exact hv
    ·cases hv
 have hnew:∀ b o,w.heap.size≤b→m2 b o=m' b o:=fun b o hb=>by
  rw[e2];cases hx:μ.cell b o with
  | some y=>have:=hI.cell.lt hx;omega
  | none=>simp only;rw[if_pos hb]
 have hold2:∀ b o u,b < w.heap.size→m2 b o=some u→μ.cell b o=some u:=fun b o u hb hu=>by
  rw[e2] at hu;cases hx:μ.cell b o with
  | some y=>rw[hx] at hu;exact hu
  | none=>rw[hx] at hu;simp only at hu;rw[if_neg (by omega)] at hu;cases hu
 have hcell2:Cells m2 w':=fun b o v hv=>hcell _ _ _ (hsub2 _ _ _ hv);have hfr2:Zcd m2 w w' blk r.fr:=⟨fun x hx=>by
  have h1:=hfr.1 x hx;refine⟨h1.1,fun g hg=>?_⟩;obtain⟨h2,T,cur,h3,h4,h5,h6,h7⟩:=h1.2 g hg;exact⟨h2,T,cur,h3,h4,h5,h6,fun o ho=>by rw[hnew g o h2];exact h7 o ho⟩,hfr.2⟩
 have rc:∀ (c:RC) (u:Value),c.flat=true→(∀ x ∈ c.fr,x ∈ r.fr)→RepRC m' blk c u→RepRC m2 blk c u:=fun c u hf hin hc=>by
  cases c with
  | d x=>exact Zfp hf hc
  | fresh j es xs=>
    obtain⟨h1,h2⟩:=hc;refine⟨?_,h2⟩;have hrow:=hfr.1 (j,es,xs.length) (hin _ (by simp[RC.fr]));generalize hv:u=uu at h1;cases h1 with
    | sl xs ad cap es' b off f hl hc hes ha hcl hrep=>
      subst hv;refine .sl xs ad cap es' b off f hl hc hes ha (fun i x hx j' d hd=>?_) (fun i x hx j' d hd=>Zfp ?_ (hrep i x hx j' d hd))
      ·have hne:xs≠[]:=by rintro rfl;simp at hx
       have had:=ha hne;rw[had] at h2;simp only[hdr,Value.slice.injEq] at h2;obtain⟨h3,_⟩:=h2;cases hg:(blk j).1 with
       | none=>rw[hg] at h3;cases h3
       | some g=>
         rw[hg] at h3;simp only[Option.map_some,Option.some.injEq,Addr.mk.injEq] at h3;obtain⟨rfl,_⟩:=h3
         have:=(hrow.2 b hg).1
         rw[hnew b _ this];exact hcl i x hx j' d hd
      ·simp only[RC.flat] at hf;have h4:=List.all_eq_true.1 hf x (List.mem_of_getElem? hx);exact List.all_eq_true.1 h4 d (List.mem_of_getElem? hd)
 have rv1:∀ (c:RV) (u:Value),RV1.flat c=true→(∀ x ∈ RV1.fr c,x ∈ r.fr)→RepRV1 m' blk c u→RepRV1 m2 blk c u:=fun c u hf hin hc=>by
  cases c with
  | one c=>exact rc c u hf hin hc
  | agg cs=>
    obtain⟨us,h1,h2,h3⟩:=hc;refine⟨us,h1,h2,fun i c hi=>?_⟩;obtain⟨u',h4,h5⟩:=h3 i c hi;refine⟨u',h4,rc c u' (List.all_eq_true.1 hf c (List.mem_of_getElem? hi)) (fun x hx=>hin x ?_) h5⟩;exact List.mem_flatMap.2 ⟨c,List.mem_of_getElem? hi,hx⟩
  | tup vs=>exact hc.elim
 have hr2:RepRV m2 blk r v:=by
  cases r with
  | tup rs=>
    obtain⟨us,h1,h2,h3⟩:=hr;refine⟨us,h1,h2,fun i c hi=>?_⟩;obtain⟨u',h4,h5⟩:=h3 i c hi;refine⟨u',h4,rv1 c u' (List.all_eq_true.1 hflat c (List.mem_of_getElem? hi)) (fun x hx=>?_) h5⟩;exact List.mem_flatMap.2 ⟨c,List.mem_of_getElem? hi,hx⟩
  | one c=>exact rv1 (.one c) v hflat (fun x hx=>hx) hr
  | agg cs=>exact rv1 (.agg cs) v hflat (fun x hx=>hx) hr
 have hle:Mem.Le μ (relab μ h.ep 0 m2 blk):=⟨hsub1,rfl,fun l x hl=>by
  have:=hI.lt l (by rw[hl];simp)
  simp only[relab];rw[if_neg (by omega)];exact hl⟩
 exact⟨v,_,_,relab μ h.ep 0 m2 blk,rfl,hk,hI.call 0 hsub1 hold2 hcell2 hb hfr2,RV_rep hr2 h.ep 0,hle⟩
end
end Go.Am
end
section
namespace Go.Am
open Go
class Hid (α:Type) where
 out:α
def optV {α:Type} (x:Option α) [k:Hid (α→Prop)]:Prop:=
 match x with
 | some v=>k.out v
 | none=>False
@[simp] theorem Zsa {α:Type} {v:α} {f:α→Prop}:optV (some v) (k:=⟨f⟩)=f v:=rfl
@[simp] theorem Zsb {α:Type} {k:Hid (α→Prop)}:optV none (k:=k)=False:=rfl
def ptrV (x:V) [k:Hid (Lab→Nat→Prop)]:Prop:=
 match x with
 | .one (.ptr l off)=>k.out l off
 | _=>False
@[simp] theorem Zt6 {l:Lab} {off:Nat} {f:Lab→Nat→Prop}:ptrV (.one (.ptr l off)) (k:=⟨f⟩)=f l off:=rfl
def fnV (x:V) [k:Hid (FuncId→List Cap→Prop)]:Prop:=
 match x with
 | .one (.fn f caps)=>k.out f caps
 | _=>False
@[simp] theorem fnV_fn {g:FuncId} {caps:List Cap} {f:FuncId→List Cap→Prop}:fnV (.one (.fn g caps)) (k:=⟨f⟩)=f g caps:=rfl
def oneV (x:V) [k:Hid (C→Prop)]:Prop:=
 match x with
 | .one c=>k.out c
 | _=>False
@[simp] theorem Zt7 {c:C} {f:C→Prop}:oneV (.one c) (k:=⟨f⟩)=f c:=rfl
def condV (x:V) [p:Hid (Unit→Prop)] [q:Hid (Bool→Prop)]:Prop:=
 match x with
 | .one (.d (.bool t))=>(t=true→p.out ())∧(t=false→q.out true)
 | _=>False
@[simp] theorem Zrt {f:Unit→Prop} {q:Hid (Bool→Prop)}:condV (.one (.d (.bool true))) (p:=⟨f⟩) (q:=q)=f ():=by simp[condV]
@[simp] theorem Zqz {p:Hid (Unit→Prop)} {g:Bool→Prop}:condV (.one (.d (.bool false))) (p:=p) (q:=⟨g⟩)=g true:=by simp[condV]
theorem Z6b {t:Bool} {f:Unit→Prop} {g:Bool→Prop} (h1:t=true→f ()) (h2:t=false→g true):condV (.one (.d (.bool t))) (p:=⟨f⟩) (q:=⟨g⟩):=⟨h1,h2⟩
theorem Z10 {a:Prop} [Decidable a] {f:Unit→Prop} {g:Bool→Prop} (h1:a→f ()) (h2:¬ a→g true):condV (.one (.d (.bool (decide a)))) (p:=⟨f⟩) (q:=⟨g⟩):=
 ⟨fun h=>h1 (of_decide_eq_true h),fun h=>h2 (of_decide_eq_false h)⟩
def guardV (x:V) (want:Bool) [p:Hid (Unit→Prop)] [q:Hid (Bool→Prop)]:Prop:=
 match x with
 | .one (.d (.bool b))=>(b=want→p.out ())∧(b≠want→q.out true)
 | .undef=>q.out true
 | _=>False
@[simp] theorem Zsl {f:Unit→Prop} {q:Hid (Bool→Prop)}:guardV (.one (.d (.bool true))) true (p:=⟨f⟩) (q:=q)=f ():=by simp[guardV]
@[simp] theorem Zso {f:Unit→Prop} {q:Hid (Bool→Prop)}:guardV (.one (.d (.bool false))) false (p:=⟨f⟩) (q:=q)=f ():=by simp[guardV]
@[simp] theorem Zsm {p:Hid (Unit→Prop)} {g:Bool→Prop}:guardV (.one (.d (.bool true))) false (p:=p) (q:=⟨g⟩)=g true:=by simp[guardV]
@[simp] theorem Zsn {p:Hid (Unit→Prop)} {g:Bool→Prop}:guardV (.one (.d (.bool false))) true (p:=p) (q:=⟨g⟩)=g true:=by simp[guardV]
@[simp] theorem Zp8 {want:Bool} {p:Hid (Unit→Prop)} {g:Bool→Prop}:guardV .undef want (p:=p) (q:=⟨g⟩)=g true:=rfl
def binK (P:Program) (op:BinOp) (t:TypeId) (x y:V) [k:Hid (V→Prop)]:Prop:=
 match x,y with
 | .agg cs,.agg cs'=>match toDs cs,toDs cs' with
   | some a,some b=>(isCmp op=true∧a.map kdOf=b.map kdOf∧Kd.other ∉ a.map kdOf∧EqT P t (a.map kdOf))∧k.out (dbool (if op=.neq then !(eqDs a b) else eqDs a b))
   | _,_=>False
 | u,v=>match binV (Zag P t) op u v with
   | some r=>k.out r
   | none=>False
@[simp] theorem Ztp {P:Program} {op:BinOp} {t:TypeId} {c c':C} {f:V→Prop}:binK P op t (.one c) (.one c') (k:=⟨f⟩)=optV (binV (Zag P t) op (.one c) (.one c')) (k:=⟨f⟩):=by
 unfold binK;dsimp only;split<;>simp_all [optV]
@[simp] theorem Ztq {P:Program} {op:BinOp} {t:TypeId} {cs cs':List C} {f:V→Prop}:binK P op t (.agg cs) (.agg cs') (k:=⟨f⟩) =
  optV (toDs cs) (k:=⟨fun a=>optV (toDs cs') (k:=⟨fun b=>(isCmp op=true∧a.map kdOf=b.map kdOf∧Kd.other ∉ a.map kdOf∧EqT P t (a.map kdOf))∧f (dbool (if op=.neq then !(eqDs a b) else eqDs a b))⟩)⟩):=by
 simp only[binK];cases toDs cs<;>cases toDs cs'<;>rfl
def bldV (a:Option (List (List D))) (b:Option (List C)) [k:Hid (List (List D)→Prop)] [q:Hid (List C→Prop)]:Prop:=
 match a with
 | some xs=>k.out xs
 | none=>match b with
   | some cs=>q.out cs
   | none=>False
@[simp] theorem Zsq {xs:List (List D)} {b:Option (List C)} {f:List (List D)→Prop} {q:Hid (List C→Prop)}:bldV (some xs) b (k:=⟨f⟩) (q:=q)=f xs:=rfl
@[simp] theorem Zsr {cs:List C} {k:Hid (List (List D)→Prop)} {f:List C→Prop}:bldV none (some cs) (k:=k) (q:=⟨f⟩)=f cs:=rfl
def makV (x y:V) [k:Hid (Int→Int→Prop)]:Prop:=
 match x,y with
 | .one (.d (.int _ a)),.one (.d (.int _ b))=>k.out a b
 | _,_=>False
@[simp] theorem Zta {i j:IntKind} {a b:Int} {f:Int→Int→Prop}:makV (.one (.d (.int i a))) (.one (.d (.int j b))) (k:=⟨f⟩)=f a b:=rfl
def binN (b:Bool) [p:Hid (Unit→Prop)] [q:Hid (Bool→Prop)]:Prop:=
 match b with
 | true=>p.out ()
 | false=>q.out true
@[simp] theorem Zss {f:Unit→Prop} {q:Hid (Bool→Prop)}:binN true (p:=⟨f⟩) (q:=q)=f ():=rfl
@[simp] theorem Zrv {p:Hid (Unit→Prop)} {g:Bool→Prop}:binN false (p:=p) (q:=⟨g⟩)=g true:=rfl
def nilV (x:V) [k:Hid (C→Prop)]:Prop:=
 match x with
 | .one c=>k.out c
 | _=>False
def Wait (P:Program) [c:Hid Code] [Q:Hid (Exit→Env→HS→Prop)] (e:Env) (h:HS):Prop:=SWP P c.out Q.out e h
theorem Wait.of {P:Program} {c:Code} {Q:Exit→Env→HS→Prop} {e:Env} {h:HS} (hs:SWP P c Q e h):Wait P (c:=⟨c⟩) (Q:=⟨Q⟩) e h:=hs
theorem Wait.loop {P:Program} {c:Code} {Q:Exit→Env→HS→Prop} {e:Env} {h:HS} (I:Nat→Env→HS→Prop) (n:Nat) (h0:I n e h)
  (round:∀ n e h,I n e h→vc P c (thenQ (fun e' h'=>∃ n',n' < n∧I n' e' h') Q) e h):Wait P (c:=⟨.loop c⟩) (Q:=⟨Q⟩) e h:=SWP.loop I n h0 round
def Back [I:Hid (Nat→Env→HS→Prop)] (n:Nat) (e:Env) (h:HS):Prop:=∃ n',n' < n∧I.out n' e h
theorem Back.of {I:Nat→Env→HS→Prop} {n n':Nat} {e:Env} {h:HS} (hn:n' < n) (hI:I n' e h):Back (I:=⟨I⟩) n e h:=⟨n',hn,hI⟩
theorem Wait.rounds {P:Program} {c:Code} {Q:Exit→Env→HS→Prop} {e:Env} {h:HS} (I:Nat→Env→HS→Prop) (n:Nat) (h0:I n e h)
  (round:∀ n e h,I n e h→vc P c (thenQ (fun e' h'=>Back (I:=⟨I⟩) n e' h') Q) e h):Wait P (c:=⟨.loop c⟩) (Q:=⟨Q⟩) e h:=SWP.loop I n h0 round
def lenK (c:C) [k:Hid (Nat→Prop)]:Prop:=
 match c with
 | .mrow _ _ n _=>k.out n
 | c=>match c.list? with
   | some xs=>xs.length≤LIM→k.out xs.length
   | none=>False
@[simp] theorem Zsc {l:Lab} {off n cap:Nat} {f:Nat→Prop}:lenK (.mrow l off n cap) (k:=⟨f⟩)=f n:=rfl
@[simp] theorem Ztd {l:Lab} {xs:List (List D)} {f:Nat→Prop}:lenK (.own l xs) (k:=⟨f⟩)=(xs.length≤LIM→f xs.length):=rfl
@[simp] theorem Zu6 {xs:List (List D)} {f:Nat→Prop}:lenK (.d (.sl xs)) (k:=⟨f⟩)=(xs.length≤LIM→f xs.length):=rfl
@[simp] theorem Zte {f:Nat→Prop}:lenK .nil (k:=⟨f⟩)=f 0:=by simp[lenK,C.list?]
@[simp] theorem lenK_z {f:Nat→Prop}:lenK .z (k:=⟨f⟩)=f 0:=by simp[lenK,C.list?]
theorem Z8d {c:C} {xs:List (List D)} {f:Nat→Prop} (hc:c.list?=some xs) (hk:xs.length≤LIM→f xs.length):lenK c (k:=⟨f⟩):=by
 unfold lenK;split
 ·simp[C.list?] at hc
 ·rw[hc];exact hk
def C.str?:C→Option ByteArray
 | .d (.str s)=>some s
 | _=>none
@[simp] theorem str_d {s:ByteArray}:C.str? (.d (.str s))=some s:=rfl
section
variable {P:Program} {Q:Exit→Env→HS→Prop} {N:Env→HS→Prop} {K:Env→HS→Prop} {e:Env} {h:HS}
@[simp ↓] theorem Zts:vc P .skip Q e h=Q .normal e h:=rfl
@[simp ↓] theorem Zrw {id:Nat} {l:List Oper}:vc P (.region id l.toArray false) Q e h=vcOps P l l e h (Q .normal):=rfl
@[simp ↓] theorem vc_seq {a b:Code}:vc P (.seq a b) Q e h=vc P a (thenQ (fun e h=>vc P b Q e h) Q) e h:=rfl
@[simp ↓] theorem Ztw {c:Operand} {a b:Code}:vc P (.cond c a b) Q e h=condV (e.ev c) (p:=⟨fun _=>vc P a Q e h⟩) (q:=⟨fun _=>vc P b Q e h⟩):=rfl
@[simp ↓] theorem Zst {id:Nat} {c:Code}:vc P (.block id c) Q e h=vc P c (blockQ id Q) e h:=rfl
@[simp ↓] theorem Ztu {id:Nat}:vc P (.exit id) Q e h=Q (.exit id) e h:=rfl
@[simp ↓] theorem vc_ret:vc P .ret Q e h=Q .ret e h:=rfl
@[simp ↓] theorem Ztt {c:Code}:vc P (.loop c) Q e h=Wait P (c:=⟨.loop c⟩) (Q:=⟨Q⟩) e h:=rfl
@[simp ↓] theorem Ztv {id:Nat} {l:Array Oper}:vc P (.region id l true) Q e h=Wait P (c:=⟨.region id l true⟩) (Q:=⟨Q⟩) e h:=rfl
@[simp ↓] theorem Zp5:thenQ N Q .normal e h=N e h:=rfl
@[simp ↓] theorem Zs7:thenQ N Q .ret e h=Q .ret e h:=rfl
@[simp ↓] theorem Zrd {id:Nat}:thenQ N Q (.exit id) e h=Q (.exit id) e h:=rfl
@[simp ↓] theorem Zoy {id:Nat}:blockQ id Q .normal e h=Q .normal e h:=rfl
@[simp ↓] theorem Zru {id:Nat}:blockQ id Q .ret e h=Q .ret e h:=rfl
@[simp ↓] theorem Zl1 {id:Nat}:blockQ id Q (.exit id) e h=Q .normal e h:=by simp[blockQ]
@[simp ↓] theorem Zt3 {rs:List ResultVar} {r:RV}:retQ P rs r .ret e h=retOK P rs r e h:=rfl
@[simp ↓] theorem Zqp {rs:List ResultVar} {r:RV}:retQ P rs r .normal e h=retOK P rs r e h:=rfl
@[simp ↓] theorem Zrx {all:List Oper}:vcOps P all [] e h K=K e h:=rfl
@[simp ↓] theorem Zpd {all:List Oper} {d:Option Nat} {op:Op} {t:TypeId} {p:String} {af:Array Edge} {os:List Oper}:vcOps P all ({ dst:=d,op:=op,type:=t,pos:=p,after:=af,guard:=none }::os) e h K =
  (dstOK { dst:=d,op:=op,type:=t,pos:=p,after:=af,guard:=none } e∧vcOp P { dst:=d,op:=op,type:=t,pos:=p,after:=af,guard:=none } e h fun e h=>vcOps P all os e h K):=rfl
@[simp ↓] theorem Zpe {all:List Oper} {d:Option Nat} {op:Op} {t:TypeId} {p:String} {af:Array Edge} {j:Nat} {want:Bool} {os:List Oper}:vcOps P all ({ dst:=d,op:=op,type:=t,pos:=p,after:=af,guard:=some (j,want) }::os) e h K =
  (dstOK { dst:=d,op:=op,type:=t,pos:=p,after:=af,guard:=some (j,want) } e∧guardV (Z5t all e j) want (p:=⟨fun _=>vcOp P { dst:=d,op:=op,type:=t,pos:=p,after:=af,guard:=some (j,want) } e h fun e h=>vcOps P all os e h K⟩) (q:=⟨fun _=>vcOps P all os (e.put d .undef) h K⟩)):=rfl
section
variable {d:Option Nat} {t:TypeId} {p:String} {af:Array Edge} {g:Option (Nat × Bool)}
@[simp] theorem Zrr {k:Nat} {op:Op}:dstOK { dst:=some k,op:=op,type:=t,pos:=p,after:=af,guard:=g } e=(k < e.n):=rfl
@[simp] theorem Zrs {op:Op}:dstOK { dst:=none,op:=op,type:=t,pos:=p,after:=af,guard:=g } e=True:=rfl
@[simp ↓] theorem Zs0 {x:Operand}:vcOp P { dst:=d,op:=.move x,type:=t,pos:=p,after:=af,guard:=g } e h K=K (e.put d (e.ev x)) h:=rfl
@[simp ↓] theorem Zpf {x:Operand}:vcOp P { dst:=d,op:=.assign x,type:=t,pos:=p,after:=af,guard:=g } e h K=K (e.put d (e.ev x)) h:=rfl
@[simp ↓] theorem Zrz {c x y:Operand}:vcOp P { dst:=d,op:=.pick c x y,type:=t,pos:=p,after:=af,guard:=g } e h K=optV (eff P (.pick c x y) e h) (k:=⟨fun v=>K (e.put d v) h⟩):=by
 unfold vcOp;dsimp only;split<;>simp_all [optV]
@[simp ↓] theorem Zry {op:UnOp} {ty:TypeId} {x:Operand}:vcOp P { dst:=d,op:=.unOp op ty x,type:=t,pos:=p,after:=af,guard:=g } e h K=optV (eff P (.unOp op ty x) e h) (k:=⟨fun v=>K (e.put d v) h⟩):=by
 unfold vcOp;dsimp only;split<;>simp_all [optV]
@[simp ↓] theorem Zn3 {ty f:Nat} {x:Operand}:vcOp P { dst:=d,op:=.fieldAddr ty x f,type:=t,pos:=p,after:=af,guard:=g } e h K=optV (eff P (.fieldAddr ty x f) e h) (k:=⟨fun v=>K (e.put d v) h⟩):=by
 unfold vcOp;dsimp only;split<;>simp_all [optV]
@[simp ↓] theorem Zr6 {ty f:Nat} {x:Operand}:vcOp P { dst:=d,op:=.field ty x f,type:=t,pos:=p,after:=af,guard:=g } e h K=optV (eff P (.field ty x f) e h) (k:=⟨fun v=>K (e.put d v) h⟩):=by
 unfold vcOp;dsimp only;split<;>simp_all [optV]
@[simp ↓] theorem Zs2 {ty:Nat} {x:Operand}:vcOp P { dst:=d,op:=.load ty x,type:=t,pos:=p,after:=af,guard:=g } e h K=optV (eff P (.load ty x) e h) (k:=⟨fun v=>K (e.put d v) h⟩):=by
 unfold vcOp;dsimp only;split<;>simp_all [optV]
@[simp ↓] theorem Zec {ty:Nat} {x i:Operand}:vcOp P { dst:=d,op:=.indexAddr ty x i,type:=t,pos:=p,after:=af,guard:=g } e h K=optV (eff P (.indexAddr ty x i) e h) (k:=⟨fun v=>K (e.put d v) h⟩):=by
 unfold vcOp;dsimp only;split<;>simp_all [optV]
@[simp ↓] theorem Zr5 {ty:Nat} {x:Operand} {lo hi mx:Option Operand}:vcOp P { dst:=d,op:=.slice ty x lo hi mx,type:=t,pos:=p,after:=af,guard:=g } e h K=optV (eff P (.slice ty x lo hi mx) e h) (k:=⟨fun v=>K (e.put d v) h⟩):=by
 unfold vcOp;dsimp only;split<;>simp_all [optV]
@[simp ↓] theorem Zp3 {i:Nat} {x:Operand}:vcOp P { dst:=d,op:=.extract x i,type:=t,pos:=p,after:=af,guard:=g } e h K=optV (eff P (.extract x i) e h) (k:=⟨fun v=>K (e.put d v) h⟩):=by
 unfold vcOp;dsimp only;split<;>simp_all [optV]
@[simp ↓] theorem Zn7 {fn:Fn} {x y:Array Operand}:vcOp P { dst:=d,op:=.makeFunc fn x y,type:=t,pos:=p,after:=af,guard:=g } e h K=optV (eff P (.makeFunc fn x y) e h) (k:=⟨fun v=>K (e.put d v) h⟩):=by
 unfold vcOp;dsimp only;split<;>simp_all [optV]
@[simp ↓] theorem Zn6 {x:Operand}:vcOp P { dst:=d,op:=.nilCheck x,type:=t,pos:=p,after:=af,guard:=g } e h K=optV (eff P (.nilCheck x) e h) (k:=⟨fun v=>K (e.put d v) h⟩):=by
 unfold vcOp;dsimp only;split<;>simp_all [optV]
@[simp ↓] theorem Zr4 {ty:TypeId} {x y:Operand}:vcOp P { dst:=d,op:=.store ty x y,type:=t,pos:=p,after:=af,guard:=g } e h K=optV (ldT P ty) (k:=⟨fun z=>ptrV (e.ev x) (k:=⟨fun l off=>optV (h.box l) (k:=⟨fun cs=>
  ((e.ev y).cells.length=z.2∧0 < z.2∧off+z.2≤cs.length)∧K (e.put d .undef) (h.setBox l (Z03 cs off (e.ev y).cells))⟩)⟩)⟩):=by
 simp only[vcOp,optV,ptrV];cases ldT P ty with
 | none=>rfl
 | some z=>
   dsimp only
   generalize e.ev x=X;cases X with
   | one c=>cases c with
     | ptr l off=>dsimp only;cases h.box l<;>rfl
     | _=>rfl
   | _=>rfl
@[simp ↓] theorem Zsy {ty:TypeId} {x:Operand} {k:Nat}:vcOp P { dst:=some k,op:=.box ty x,type:=t,pos:=p,after:=af,guard:=g } e h K =
  ((e.ev x).cells≠[]∧K (e.put (some k) (.one (.ptr (h.ep,16 * k) 0))) ((h.setBox (h.ep,16 * k) (e.ev x).cells).next)):=rfl
@[simp ↓] theorem Zrc {ty:TypeId} {k:Nat}:vcOp P { dst:=some k,op:=.alloc ty,type:=t,pos:=p,after:=af,guard:=g } e h K=optV (zeT P ty) (k:=⟨fun cs=>K (e.put (some k) (.one (.ptr (h.ep,16 * k) 0))) ((h.setBox (h.ep,16 * k) cs).next)⟩):=by
 simp only[vcOp,optV];cases zeT P ty<;>rfl
@[simp ↓] theorem Zra {ty:TypeId} {ps:List (Nat × Operand)}:vcOp P { dst:=d,op:=.build ty ps.toArray,type:=t,pos:=p,after:=af,guard:=g } e h K=optV (zeT P ty) (k:=⟨fun z=>optV (stT P ty) (k:=⟨fun pl=>optV (fillV pl e ps z) (k:=⟨fun cs=>K (e.put d (.agg cs)) h⟩)⟩)⟩):=by
 simp only[vcOp,optV];cases zeT P ty with
 | none=>rfl
 | some z=>cases stT P ty with
   | none=>rfl
   | some pl=>dsimp only;cases fillV pl e ps z<;>rfl
def emptyK (n:Nat) (d:Nat) (h:HS) [K:Hid (V→HS→Prop)]:Prop:=(0 < n∧n≤64)∧(K.out (.one (.own (h.ep,16 * d) [])) ((h.setArr (h.ep,16 * d) (some (0,n))).next)∨K.out (.one .z) h)
theorem Z6z {n d:Nat} {f:V→HS→Prop} (h0:0 < n∧n≤64) (hk:f (.one (.own (h.ep,16 * d) [])) ((h.setArr (h.ep,16 * d) (some (0,n))).next)):emptyK n d h (K:=⟨f⟩):=⟨h0,.inl hk⟩
theorem Z9o {n d:Nat} {f:V→HS→Prop} (h0:0 < n∧n≤64) (hk:f (.one .z) h):emptyK n d h (K:=⟨f⟩):=⟨h0,.inr hk⟩
theorem Zh8 {ty:TypeId} {k:Nat}:vcOp P { dst:=some k,op:=.buildSlice ty 0 [].toArray,type:=t,pos:=p,after:=af,guard:=g } e h K=optV (elT P ty) (k:=⟨fun z=>emptyK z.2.1 k h (K:=⟨fun v h'=>K (e.put (some k) v) h'⟩)⟩):=by
 simp only[vcOp,optV];cases elT P ty with
 | none=>rfl
 | some z=>
   simp only[elemsV,emptyK,List.length_nil,true_and,Nat.zero_le];apply propext
   constructor
   ·rintro (⟨⟨h1,h2⟩,h3⟩ | ⟨⟨h1,h2⟩,h3⟩)
    ·exact⟨⟨h1,h2⟩,.inl h3⟩
    ·exact⟨⟨h1,h2⟩,.inr h3⟩
   ·rintro⟨⟨h1,h2⟩,h3 | h3⟩
    ·exact .inl ⟨⟨h1,h2⟩,h3⟩
    ·exact .inr ⟨⟨h1,h2⟩,h3⟩
@[simp ↓] theorem Zr7 {ty:TypeId} {k:Nat}:vcOp P { dst:=some k,op:=.buildSlice ty 0 #[],type:=t,pos:=p,after:=af,guard:=g } e h K=optV (elT P ty) (k:=⟨fun z=>emptyK z.2.1 k h (K:=⟨fun v h'=>K (e.put (some k) v) h'⟩)⟩):=Zh8
@[simp ↓] theorem Zl7 {ty:TypeId} {len k:Nat} {q:Nat × Operand} {ps:List (Nat × Operand)}:vcOp P { dst:=some k,op:=.buildSlice ty len (q::ps).toArray,type:=t,pos:=p,after:=af,guard:=g } e h K=optV (elT P ty) (k:=⟨fun z=>bldV (elemsV e z.2.1 (q::ps) 0) (cellsV e z.2.1 (q::ps) 0)
  (k:=⟨fun xs=>(xs.length=len∧0 < z.2.1∧len≤64∧z.2.1≤64)∧K (e.put (some k) (.one (.own (h.ep,16 * k) xs))) ((h.setArr (h.ep,16 * k) (some (len,z.2.1))).next)⟩)
  (q:=⟨fun cs=>((q::ps).length=len∧0 < z.2.1∧len≤64∧z.2.1≤64)∧K (e.put (some k) (.one (.mrow (h.ep,16 * k) 0 len len))) ((h.setBox (h.ep,16 * k) cs).next)⟩)⟩):=by
 simp only[vcOp,optV,bldV];cases elT P ty with
 | none=>rfl
 | some z=>
   dsimp only
   cases elemsV e z.2.1 (q::ps) 0 with
   | some xs=>simp[dstN]
   | none=>cases cellsV e z.2.1 (q::ps) 0<;>rfl
@[simp ↓] theorem Zs1 {ty:TypeId} {x y:Operand} {k:Nat}:vcOp P { dst:=some k,op:=.makeSlice ty x y,type:=t,pos:=p,after:=af,guard:=g } e h K=optV (elT P ty) (k:=⟨fun z=>optV (zeT P z.1) (k:=⟨fun zc=>makV (e.ev x) (e.ev y) (k:=⟨fun a b=>
  (0≤a∧a≤b∧b≤LIM∧z.2.2≤4096∧0 < z.2.1∧z.2.1≤8)∧K (e.put (some k) (.one (.mrow (h.ep,16 * k) 0 a.toNat b.toNat))) ((h.setBox (h.ep,16 * k) (List.replicate b.toNat zc).flatten).next)⟩)⟩)⟩):=by
 simp only[vcOp,vcMake,optV,makV];cases elT P ty with
 | none=>rfl
 | some z=>
   obtain⟨el,n,b⟩:=z
   dsimp only
   cases zeT P el with
   | none=>rfl
   | some zc=>
     dsimp only
     generalize e.ev x=X;generalize e.ev y=Y;cases X with
     | one c=>cases c with
       | d u=>cases u with
         | int k a=>cases Y with
           | one c=>cases c with
             | d u=>cases u<;>rfl
             | _=>rfl
           | _=>rfl
         | _=>rfl
       | _=>rfl
     | _=>rfl
@[simp ↓] theorem Zrb {op:BinOp} {ty ty':TypeId} {x y:Operand}:vcOp P { dst:=d,op:=.binOp op ty x y ty',type:=t,pos:=p,after:=af,guard:=g } e h K =
  binN (isNilConst y) (p:=⟨fun _=>nilV (e.ev x) (k:=⟨fun c=>vcNil P op ty c (fun v=>K (e.put d v) h)⟩)⟩) (q:=⟨fun _=>binK P op ty (e.ev x) (e.ev y) (k:=⟨fun v=>K (e.put d v) h⟩)⟩):=by
 simp only[vcOp,binK,binN,nilV];cases hn:isNilConst y with
 | true=>simp only[if_true,vcNilV];cases e.ev x<;>rfl
 | false=>
   simp only[Bool.false_eq_true,if_false];generalize e.ev x=X;generalize e.ev y=Y;cases X<;>cases Y<;>rfl
def nilK (P:Program) (op:BinOp) (ty:TypeId) (c:C) [K:Hid (V→Prop)]:Prop:=vcNil P op ty c K.out
def capK (P:Program) (ty:TypeId) (c:C) [K:Hid (V→Prop)]:Prop:=vcCap P ty c K.out
@[simp ↓] theorem Zsx {x:Operand} {ty:TypeId}:vcOp P { dst:=d,op:=.call { callee:=.builtin .cap,args:=[x].toArray,argTypes:=[ty].toArray },type:=t,pos:=p,after:=af,guard:=g } e h K =
  oneV (e.ev x) (k:=⟨fun c=>capK P ty c (K:=⟨fun v=>K (e.put d v) h⟩)⟩):=by
 simp only[vcOp,oneV,List.map_cons,List.map_nil,capK];cases e.ev x<;>rfl
theorem Z89 {ty el n b:Nat} (h:elT P ty=some (el,n,b)):∃ el,P.underlying ty=some (.slice el):=by
 obtain⟨i,z,hu,_⟩:=Z5l h;exact⟨_,hu⟩
@[simp] theorem Zt8 {op:BinOp} {ty:TypeId} {c:C} {f:V→Prop}:nilV (.one c) (k:=⟨fun c=>vcNil P op ty c f⟩)=nilK P op ty c (K:=⟨f⟩):=rfl
theorem Z7y {op:BinOp} {ty:TypeId} {z:TypeId × Nat × Nat} {c:C} {f:V→Prop} (hel:elT P ty=some z) (hop:isCmp op=true) {xs:List (List D)} (hc:c.list?=some xs) (hk:∀ b:Bool,(xs≠[]→b=false)→f (dbool (if op=.neq then !b else b))):nilK P op ty c (K:=⟨f⟩):=by
 refine⟨⟨hop,Z89 hel⟩,?_⟩;split
 ·simp[C.list?] at hc
  have:=hk true (fun h=>by subst hc;exact absurd rfl h)
  simpa using this
 ·simp[C.list?] at hc
 ·rw[hc];exact hk
theorem Zmj {op:BinOp} {ty:TypeId} {z:TypeId × Nat × Nat} {l:Lab} {off n cap:Nat} {f:V→Prop} (hel:elT P ty=some z) (hop:isCmp op=true) (hk:f (dbool (if op=.neq then true else false))):nilK P op ty (.mrow l off n cap) (K:=⟨f⟩):=⟨⟨hop,Z89 hel⟩,hk⟩
theorem Z9r {ty:TypeId} {z:TypeId × Nat × Nat} {f:V→Prop} (hel:elT P ty=some z) (hk:f (dint .i64 0)):capK P ty .nil (K:=⟨f⟩):=⟨Z89 hel,hk⟩
theorem Zmw {ty:TypeId} {z:TypeId × Nat × Nat} {l:Lab} {off n cap:Nat} {f:V→Prop} (hel:elT P ty=some z) (hk:f (dint .i64 cap)):capK P ty (.mrow l off n cap) (K:=⟨f⟩):=⟨Z89 hel,hk⟩
def callK (P:Program) (f:FuncId) (caps:List Cap) (vs:List V) (d:Nat) (e:Env) (h:HS) [K:Hid (Env→HS→Prop)]:Prop:=
 (∃ ars cs,toAs h vs=some ars∧capsA h caps=some cs∧∃ r,PSpec P f (ars++capsOf cs) r∧K.out (e.put (some d) (r.toV h.ep d)) ((h.addFr d r.fr).next)) ∨
 HSpec P f (vs++caps.map capV) h (fun v h'=>K.out (e.put (some d) v) h') ∨
 ∃ v,XSpec P f (vs++caps.map capV) h v∧K.out (e.put (some d) v) h
theorem Zr1 {f:FuncId} {vs:List V} {d:Nat} {v:V} (hx:XSpec P f vs h v) (hk:K (e.put (some d) v) h):callK P f [] vs d e h (K:=⟨K⟩):=.inr (.inr ⟨v,by simpa using hx,hk⟩)
theorem Zow {f:FuncId} {caps:List Cap} {vs:List V} {av:List AV} {cs:List (List D)} {d:Nat} {r:RV} (has:toAs h vs=some av) (hcs:capsA h caps=some cs) (hs:PSpec P f (av++capsOf cs) r)
  (hk:K (e.put (some d) (r.toV h.ep d)) ((h.addFr d r.fr).next)):callK P f caps vs d e h (K:=⟨K⟩):=.inl ⟨av,cs,has,hcs,r,hs,hk⟩
theorem Z09 {f:FuncId} {vs:List V} {av:List AV} {d:Nat} {r:RV} (hs:PSpec P f av r) (has:toAs h vs=some av)
  (hk:K (e.put (some d) (r.toV h.ep d)) ((h.addFr d r.fr).next)):callK P f [] vs d e h (K:=⟨K⟩):=.inl ⟨av,[],has,rfl,r,by simpa[capsOf] using hs,hk⟩
theorem Z02 {f:FuncId} {caps:List Cap} {vs:List V} {d:Nat} (hs:HSpec P f (vs++caps.map capV) h (fun v h'=>K (e.put (some d) v) h')):callK P f caps vs d e h (K:=⟨K⟩):=.inr (.inl hs)
@[simp ↓] theorem Zs4 {f:Operand} {args:List Operand} {ts:Array TypeId} {k:Nat}:vcOp P { dst:=some k,op:=.call { callee:=.value f,args:=args.toArray,argTypes:=ts },type:=t,pos:=p,after:=af,guard:=g } e h K =
  fnV (e.ev f) (k:=⟨fun fn caps=>callK P fn caps (args.map e.ev) k e h (K:=⟨K⟩)⟩):=by
 simp only[vcOp,fnV,callK];generalize e.ev f=X;cases X with
 | one c=>cases c<;>rfl
 | _=>rfl
@[simp ↓] theorem Zsw {x:Operand} {ty:TypeId}:vcOp P { dst:=d,op:=.call { callee:=.builtin .len,args:=[x].toArray,argTypes:=[ty].toArray },type:=t,pos:=p,after:=af,guard:=g } e h K =
  optV (lenT P ty) (k:=⟨fun s=>oneV (e.ev x) (k:=⟨fun c=>match s with
   | true=>optV c.str? (k:=⟨fun s=>K (e.put d (dint .i64 s.size)) h⟩)
   | false=>lenK c (k:=⟨fun n=>K (e.put d (dint .i64 n)) h⟩)⟩)⟩):=by
 simp only[vcOp,optV,oneV,List.map_cons,List.map_nil];cases hl:lenT P ty with
 | none=>cases e.ev x<;>simp[vcLen,hl]
 | some s=>
   cases e.ev x with
   | one c=>cases s with
     | true=>
       simp only[vcLen,hl];cases c with
       | d x=>cases x<;>rfl
       | _=>rfl
     | false=>
       simp only[vcLen,hl];cases c with
       | mrow l off n cap=>rfl
       | d x=>cases x<;>rfl
       | _=>rfl
   | _=>rfl
@[simp ↓] theorem Zsv {x y:Operand} {ts:Array TypeId}:vcOp P { dst:=d,op:=.call { callee:=.builtin .max,args:=[x,y].toArray,argTypes:=ts },type:=t,pos:=p,after:=af,guard:=g } e h K =
  optV (eff P (.call { callee:=.builtin .max,args:=[x,y].toArray,argTypes:=ts }) e h) (k:=⟨fun v=>K (e.put d v) h⟩):=by
 unfold vcOp;dsimp only;split<;>simp_all [optV]
@[simp ↓] theorem Zsu {x y:Operand} {ts:Array TypeId}:vcOp P { dst:=d,op:=.call { callee:=.builtin .min,args:=[x,y].toArray,argTypes:=ts },type:=t,pos:=p,after:=af,guard:=g } e h K =
  optV (eff P (.call { callee:=.builtin .min,args:=[x,y].toArray,argTypes:=ts }) e h) (k:=⟨fun v=>K (e.put d v) h⟩):=by
 unfold vcOp;dsimp only;split<;>simp_all [optV]
def appK (P:Program) (ty:TypeId) (c x:C) (d:Nat) (h:HS) [K:Hid (V→HS→Prop)]:Prop:=Z66 P ty c x d h K.out∨Z5f P ty c x d h K.out
def copyK (P:Program) (ty:TypeId) (c x:C) (h:HS) [K:Hid (V→HS→Prop)]:Prop:=vcCopy P ty c x 0 h K.out
def clearK (P:Program) (ty:TypeId) (c:C) (h:HS) [K:Hid (V→HS→Prop)]:Prop:=Z8w P ty c 0 h K.out
def Grows (h:HS) (es:Nat) (c:C) (xs:List (List D)):Prop:=((c=.nil∧xs=[])∨∃ l,c=.own l xs∧h.arr l=some (xs.length,es)∧l.1 < h.ep)∧∀ y ∈ xs,y.length=es
theorem Grows.nil {h:HS} {es:Nat}:Grows h es .nil []:=⟨.inl ⟨rfl,rfl⟩,by simp⟩
theorem Grows.own {h:HS} {es:Nat} {l:Lab} {xs:List (List D)} (ha:h.arr l=some (xs.length,es)) (hl:l.1 < h.ep) (hy:∀ y ∈ xs,y.length=es):Grows h es (.own l xs) xs:=⟨.inr ⟨l,rfl,ha,hl⟩,hy⟩
theorem Grows.next {h:HS} {es:Nat} {c:C} {xs:List (List D)} (g:Grows h es c xs):Grows h.next es c xs:=by
 refine⟨?_,g.2⟩;rcases g.1 with h1 | ⟨l,h1,h2,h3⟩
 ·exact .inl h1
 ·exact .inr ⟨l,h1,h2,Nat.lt_succ_of_lt h3⟩
theorem Grows.setBox {h:HS} {es:Nat} {c:C} {xs:List (List D)} {k:Lab} {cs:List C} (g:Grows h es c xs):Grows (h.setBox k cs) es c xs:=g
theorem Grows.setArr {h:HS} {es:Nat} {c:C} {xs:List (List D)} {k:Lab} {x:Option (Nat × Nat)} (g:Grows h es c xs) (hk:h.ep≤k.1):Grows (h.setArr k x) es c xs:=by
 refine⟨?_,g.2⟩;rcases g.1 with h1 | ⟨l,h1,h2,h3⟩
 ·exact .inl h1
 ·refine .inr ⟨l,h1,?_,h3⟩
  have:l≠k:=fun he=>by rw[he] at h3;omega
  simp only[HS.setArr,this,if_false,h2]
theorem Grows.list {h:HS} {es:Nat} {c:C} {xs:List (List D)} (g:Grows h es c xs):c.list?=some xs:=by
 rcases g.1 with ⟨h1,h2⟩ | ⟨l,h1,h2,h3⟩
 ·rw[h1,h2];rfl
 ·rw[h1];rfl
theorem Grows.toD {h:HS} {es:Nat} {c:C} {xs:List (List D)} (g:Grows h es c xs):c.toD=some (.sl xs):=by
 rcases g.1 with ⟨h1,h2⟩ | ⟨l,h1,h2,h3⟩
 ·rw[h1,h2];rfl
 ·rw[h1];rfl
theorem Grows.toA {h:HS} {es:Nat} {c:C} {xs:List (List D)} (g:Grows h es c xs) (h':HS):c.toA h'=some (.d (.sl xs)):=by
 rcases g.1 with ⟨h1,h2⟩ | ⟨l,h1,h2,h3⟩
 ·rw[h1,h2];rfl
 ·rw[h1];rfl
theorem Grows.can {h:HS} {es:Nat} {c:C} {xs:List (List D)} (g:Grows h es c xs):canApp h es c=true:=by
 rcases g.1 with ⟨h1,h2⟩ | ⟨l,h1,h2,h3⟩
 ·rw[h1];rfl
 ·rw[h1];simp[canApp,h2]
theorem Zcc {ty el:TypeId} {es by_ d:Nat} {c x:C} {K:V→HS→Prop} {xs ys:List (List D)} (hel:elT P ty=some (el,es,by_)) (hc:Grows h es c xs) (hx:x.list?=some ys) (h0:0 < es) (hb:by_≤4096) (hy:∀ y ∈ ys,y.length=es) (hl:xs.length+ys.length≤LIM)
  (hk:K (.one (.own (h.ep,16 * d) (xs++ys))) (((c.useUp h).setArr (h.ep,16 * d) (some ((xs++ys).length,es))).next)):appK P ty c x d h (K:=⟨K⟩):=by
 refine .inl ?_;unfold Z66;rw[hel];simp only;rw[hc.list,hx];simp only;rw[List.length_append] at hk;exact⟨⟨hc.can,h0,hb,hc.2,hy,hl⟩,hk⟩
theorem Z59 {ty el:TypeId} {n by_ d k cap m:Nat} {s x:C} {K:V→HS→Prop} {old new:List C} {pl:Option (Lab × Nat)} (hel:elT P ty=some (el,n,by_)) (hs:appHdr h n s=some (k,cap,old,pl)) (hx:Z0i h n x=some new) (hm:cLen x=some m)
  (hz:(zeT P el).isSome=true) (h0:0 < n) (hb:by_≤4096) (hl:k+m≤LIM) (hnew:new.length=m * n) (hold:old.length=k * n)
  (hk0:m=0→K (.one s) h)
  (hk1:0 < m→k+m≤cap→∀ l off,pl=some (l,off)→∃ cs,h.box l=some cs∧off+(k+m) * n≤cs.length∧K (.one (.mrow l off (k+m) cap)) (h.setBox l (Z03 cs (off+k * n) new)))
  (hk2:0 < m→cap < k+m→∀ cap',k+m≤cap'→K (.one (.mrow (h.ep,16 * d) 0 (k+m) cap')) ((h.setBox (h.ep,16 * d) (old++new++List.replicate ((cap' - (k+m)) * n) .any)).next)):appK P ty s x d h (K:=⟨K⟩):=by
 refine .inr ?_;unfold Z5f;rw[hel];simp only;rw[hs,hx,hm];exact⟨⟨hz,h0,hb,hl,hnew,hold⟩,hk0,hk1,hk2⟩
theorem Grows.app {h:HS} {es:Nat} {l:Lab} {xs:List (List D)} (hl:l.1=h.ep) (hy:∀ y ∈ xs,y.length=es):Grows ((h.setArr l (some (xs.length,es))).next) es (.own l xs) xs:=
 Grows.own (by simp[HS.setArr,HS.next]) (by show l.1 < h.ep+1;omega) hy
@[simp ↓] theorem Zpg {x y:Operand} {ty:TypeId} {k:Nat}:vcOp P { dst:=some k,op:=.call { callee:=.builtin .append,args:=[x,y].toArray,argTypes:=[ty,ty].toArray },type:=t,pos:=p,after:=af,guard:=g } e h K =
  oneV (e.ev x) (k:=⟨fun c=>oneV (e.ev y) (k:=⟨fun c'=>appK P ty c c' k h (K:=⟨fun v h'=>K (e.put (some k) v) h'⟩)⟩)⟩):=by
 simp only[vcOp,oneV,List.map_cons,List.map_nil,appK];cases e.ev x with
 | one c=>
   cases e.ev y with
   | one c'=>
     simp only[true_or,true_and];exact propext ⟨fun h=>h.elim id fun h=>absurd rfl h.1.1,.inl⟩
   | _=>rfl
 | _=>rfl
def zerosK (P:Program) (ty ty':TypeId) (c x:C) (d:Nat) (h:HS) [K:Hid (V→HS→Prop)]:Prop:=(slT P ty'=true∧(Z66 P ty c x d h K.out∨Z5f P ty c x d h K.out))∨Z7u P ty ty' c x d h K.out
@[simp ↓] theorem Zp4 {x y:Operand} {ty ty':TypeId} {k:Nat} (hne:ty≠ty'):vcOp P { dst:=some k,op:=.call { callee:=.builtin .append,args:=[x,y].toArray,argTypes:=[ty,ty'].toArray },type:=t,pos:=p,after:=af,guard:=g } e h K =
  oneV (e.ev x) (k:=⟨fun c=>oneV (e.ev y) (k:=⟨fun c'=>zerosK P ty ty' c c' k h (K:=⟨fun v h'=>K (e.put (some k) v) h'⟩)⟩)⟩):=by
 simp only[vcOp,oneV,List.map_cons,List.map_nil,zerosK];cases e.ev x with
 | one c=>
   cases e.ev y with
   | one c'=>simp only[hne,false_or];rfl
   | _=>rfl
 | _=>rfl
theorem Zl2 {ty ty' el:TypeId} {n by_ d k cap off:Nat} {l:Lab} {m:Int} {kk ki:IntKind} {old:List C} {K:V→HS→Prop} (hel:elT P ty=some (el,n,by_)) (hne:ty≠ty') (hu:P.underlying ty'=some (.int kk)) (hz:(zeT P el).isSome=true) (h0:0 < n) (hb:by_≤4096) (h1:0 < m) (h2:k+m≤LIM) (hc:cap < k+m.toNat)
  (ho:Z0i h n (.mrow l off k cap)=some old) (hol:old.length=k * n)
  (hk:∀ cap',k+m.toNat≤cap'→K (.one (.mrow (h.ep,16 * d) 0 (k+m.toNat) cap')) ((h.setBox (h.ep,16 * d) (old++List.replicate ((cap' - k) * n) .any)).next)):zerosK P ty ty' (.mrow l off k cap) (.d (.int ki m)) d h (K:=⟨K⟩):=by
 refine .inr ⟨⟨hne,_,hu⟩,?_⟩;rw[hel];simp only[ho];exact⟨⟨hz,h0,hb,h1,h2,hc,hol⟩,hk⟩
theorem Zcz {ty ty' el:TypeId} {n by_ d:Nat} {m:Int} {k kk:IntKind} {K:V→HS→Prop} (hel:elT P ty=some (el,n,by_)) (hne:ty≠ty') (hu:P.underlying ty'=some (.int kk)) (hz:(zeT P el).isSome=true) (h0:0 < n) (hb:by_≤4096) (h1:0 < m) (h2:m≤LIM)
  (hk:∀ cap',m.toNat≤cap'→K (.one (.mrow (h.ep,16 * d) 0 m.toNat cap')) ((h.setBox (h.ep,16 * d) (List.replicate (cap' * n) .any)).next)):zerosK P ty ty' .nil (.d (.int k m)) d h (K:=⟨K⟩):=by
 refine .inr ⟨⟨hne,_,hu⟩,?_⟩;rw[hel];exact⟨⟨hz,h0,hb,h1,h2⟩,hk⟩
@[simp ↓] theorem Zs3 {x y:Operand} {ty:TypeId}:vcOp P { dst:=d,op:=.call { callee:=.builtin .copy,args:=[x,y].toArray,argTypes:=[ty,ty].toArray },type:=t,pos:=p,after:=af,guard:=g } e h K =
  oneV (e.ev x) (k:=⟨fun c=>oneV (e.ev y) (k:=⟨fun c'=>copyK P ty c c' h (K:=⟨fun v h'=>K (e.put d v) h'⟩)⟩)⟩):=by
 simp only[vcOp,oneV,List.map_cons,List.map_nil,copyK];cases e.ev x with
 | one c=>
   cases e.ev y with
   | one c'=>simp only[true_or,true_and];rfl
   | _=>rfl
 | _=>rfl
def copyK2 (P:Program) (ty ty':TypeId) (c x:C) (h:HS) [K:Hid (V→HS→Prop)]:Prop:=slT P ty'=true∧vcCopy P ty c x 0 h K.out
@[simp ↓] theorem Zr8 {x y:Operand} {ty ty':TypeId} (hne:ty≠ty'):vcOp P { dst:=d,op:=.call { callee:=.builtin .copy,args:=[x,y].toArray,argTypes:=[ty,ty'].toArray },type:=t,pos:=p,after:=af,guard:=g } e h K =
  oneV (e.ev x) (k:=⟨fun c=>oneV (e.ev y) (k:=⟨fun c'=>copyK2 P ty ty' c c' h (K:=⟨fun v h'=>K (e.put d v) h'⟩)⟩)⟩):=by
 simp only[vcOp,oneV,List.map_cons,List.map_nil,copyK2];cases e.ev x with
 | one c=>
   cases e.ev y with
   | one c'=>simp only[hne,false_or];rfl
   | _=>rfl
 | _=>rfl
@[simp ↓] theorem Zr9 {x:Operand} {ty:TypeId}:vcOp P { dst:=d,op:=.call { callee:=.builtin .clear,args:=[x].toArray,argTypes:=[ty].toArray },type:=t,pos:=p,after:=af,guard:=g } e h K =
  oneV (e.ev x) (k:=⟨fun c=>clearK P ty c h (K:=⟨fun v h'=>K (e.put d v) h'⟩)⟩):=by
 simp only[vcOp,oneV,List.map_cons,List.map_nil,clearK];cases e.ev x<;>rfl
end
end
@[simp] theorem Zu4 {e:Env} {d k:Nat} {v:V}:(e.put (some d) v).get k=if k=d then v else e.get k:=rfl
@[simp] theorem Zt5 {e:Env} {v:V}:e.put none v=e:=rfl
@[simp] theorem put_n {e:Env} {d:Option Nat} {v:V}:(e.put d v).n=e.n:=by cases d<;>rfl
@[simp] theorem env0_n {n:Nat} {ars:List AV}:(env0 n ars).n=n:=rfl
@[simp] theorem Ztn {n k:Nat} {ars:List AV}:(env0 n ars).get k=(ars[k]?.map AV.toV).getD .undef:=by
 simp only[env0];cases ars[k]?<;>rfl
@[simp] theorem Z5z {h:HS} {l k:Lab} {cs:List C}:(h.setBox l cs).box k=if k=l then some cs else h.box k:=rfl
@[simp] theorem Zrg {h:HS} {l k:Lab} {cs:List C}:(h.setBox l cs).arr k=h.arr k:=rfl
@[simp] theorem Zb2 {h:HS} {l:Lab} {cs:List C}:(h.setBox l cs).ep=h.ep:=by cases h;exact id rfl
@[simp] theorem Zri {h:HS} {l k:Lab} {x:Option (Nat × Nat)}:(h.setArr l x).arr k=if k=l then x else h.arr k:=rfl
@[simp] theorem Zrh {h:HS} {l k:Lab} {x:Option (Nat × Nat)}:(h.setArr l x).box k=h.box k:=rfl
@[simp] theorem Zs8 {h:HS} {l:Lab} {x:Option (Nat × Nat)}:(h.setArr l x).ep=h.ep:=by cases h;exact id rfl
@[simp] theorem Zff {h:HS} {k:Lab}:h.next.box k=h.box k:=rfl
@[simp] theorem Zt9 {h:HS} {k:Lab}:h.next.arr k=h.arr k:=rfl
@[simp] theorem Zmk {h:HS}:h.next.ep=h.ep+1:=by cases h;exact id rfl
@[simp] theorem Zth {k:Lab}:HS.init.box k=none:=rfl
@[simp] theorem Zti {k:Lab}:HS.init.arr k=none:=rfl
@[simp] theorem Zu9:HS.init.ep=0:=rfl
@[simp] theorem ev_tmp {e:Env} {t:Nat}:e.ev (.tmp t)=e.get t:=rfl
@[simp] theorem Zua {e:Env} {f:Nat}:e.ev (.func f)=.one (.fn f []):=rfl
@[simp] theorem ev_int {e:Env} {k:IntKind} {n:Int}:e.ev (.const (.int k n))=dint k n:=rfl
@[simp] theorem Zub {e:Env} {b:Bool}:e.ev (.const (.bool b))=dbool b:=rfl
@[simp] theorem ev_str {e:Env} {s:ByteArray}:e.ev (.const (.string s))=dstr s:=rfl
@[simp] theorem ev_nil {e:Env}:e.ev (.const (.slice none 0 0))=.one .nil:=rfl
@[simp] theorem ev_agg {e:Env} {cs:Array Value}:e.ev (.const (.agg cs))=if cs.all Value.oneCell' then .agg (cs.toList.map constC) else .top:=rfl
@[simp] theorem toV_d {x:D}:AV.toV (.one (.d x))=.one (.d x):=rfl
@[simp] theorem toV_rp {x:List D}:AV.toV (.one (.rp x))=.one (.rp x):=rfl
@[simp] theorem toV_fn {f:FuncId} {x:List (List D)}:AV.toV (.one (.fn f x))=.one (.fn f (x.map Cap.rp)):=rfl
@[simp] theorem Ztx {x:List D}:AV.toV (.agg x)=.agg (x.map C.d):=rfl
@[simp] theorem Zs5 {h:HS} {l:Lab} {xs:List (List D)}:C.useUp h (.own l xs)=h.setArr l none:=rfl
@[simp] theorem Zs6 {h:HS}:C.useUp h .nil=h:=rfl
@[simp] theorem Ztb {l:Lab} {xs:List (List D)}:C.list? (.own l xs)=some xs:=rfl
@[simp] theorem Ztc:C.list? .nil=some []:=rfl
@[simp] theorem list_z:C.list? .z=some []:=rfl
@[simp] theorem toD_z:C.toD .z=some (.sl []):=rfl
@[simp] theorem Zu5 {xs:List (List D)}:C.list? (.d (.sl xs))=some xs:=rfl
@[simp] theorem Zty {l:Lab} {xs:List (List D)}:C.toD (.own l xs)=some (.sl xs):=rfl
@[simp] theorem Ztz:C.toD .nil=some (.sl []):=rfl
@[simp] theorem toD_d {x:D}:C.toD (.d x)=some x:=rfl
@[simp] theorem Zt0 {l:Lab} {off n cap:Nat}:C.toD (.mrow l off n cap)=none:=rfl
@[simp] theorem Zsz:toDs []=some []:=rfl
@[simp] theorem Zrk {t:Nat}:isNilConst (.tmp t)=false:=rfl
@[simp] theorem Zqr {t:Nat}:isNilConst (.func t)=false:=rfl
@[simp] theorem Zrn {k:IntKind} {n:Int}:isNilConst (.const (.int k n))=false:=rfl
@[simp] theorem Zqs {b:Bool}:isNilConst (.const (.bool b))=false:=rfl
@[simp] theorem Zrl {s:ByteArray}:isNilConst (.const (.string s))=false:=rfl
@[simp] theorem Zro {s:Array Value}:isNilConst (.const (.agg s))=false:=rfl
@[simp] theorem Zrm:isNilConst (.const (.slice none 0 0))=true:=rfl
@[simp] theorem toA_d {h:HS} {x:D}:C.toA h (.d x)=some (.d x):=rfl
@[simp] theorem Zu1 {h:HS} {l:Lab} {xs:List (List D)}:C.toA h (.own l xs)=some (.d (.sl xs)):=rfl
@[simp] theorem Zu2 {h:HS}:C.toA h .nil=some (.d (.sl [])):=rfl
@[simp] theorem toA_z {h:HS}:C.toA h .z=some (.d (.sl [])):=rfl
@[simp] theorem Zt2 {h:HS} {l:Lab} {off n cap:Nat}:C.toA h (.mrow l off n cap)=none:=rfl
@[simp] theorem Zu3 {h:HS}:C.toA h .any=none:=rfl
@[simp] theorem Zu0 {h:HS} {l:Lab}:C.toA h (.ptr l 0)=match h.box l with
  | some cs=>(toDs cs).map A.rp
  | none=>none:=rfl
@[simp] theorem Zt1 {h:HS} {l:Lab} {k:Nat}:C.toA h (.ptr l (k+1))=none:=rfl
@[simp] theorem toA_rp {h:HS} {cs:List D}:C.toA h (.rp cs)=some (.rp cs):=rfl
@[simp] theorem toA_fn {h:HS} {f:FuncId} {caps:List Cap}:C.toA h (.fn f caps)=(capsA h caps).map (A.fn f):=rfl
@[simp] theorem Zre {cs:List C}:takeN 0 cs=some []:=by simp[takeN]
@[simp] theorem Zrf {n:Nat} {c:C} {cs:List C}:takeN (n+1) (c::cs)=(takeN n cs).map (c::·):=by
 simp only[takeN,List.length_cons,Nat.add_le_add_iff_right,List.take_succ_cons]
 split<;>rfl
@[simp] theorem Zp7 {cs:List C}:Z03 cs 0 []=cs:=by simp[Z03]
@[simp] theorem Zo9 {c v:C} {cs vs:List C}:Z03 (c::cs) 0 (v::vs)=v::Z03 cs 0 vs:=by simp[Z03]
@[simp] theorem Zoa {c:C} {cs vs:List C} {k:Nat}:Z03 (c::cs) (k+1) vs=c::Z03 cs k vs:=by
 simp only[Z03,List.take_succ_cons,List.cons_append,Nat.add_right_comm k 1,List.drop_succ_cons]
attribute [simp] boundV sliceC Z0i appHdr cLen cellsV constC V.cells toDs mkV dint dbool dstr intBin strBin binV readAt fillV elemsV canApp HS.addFr capA capsA V.toA toAs RC.toC RV1.toV RV.toV RC.fr RV1.fr RV.fr capsOf Z5t resVs resV isCmp kdOf eqD eqDs RetAll RetV1 RetVs RetC RetCs
@[simp] theorem Zto {P:Program} {c x y:Operand} {e:Env} {h:HS}:eff P (.pick c x y) e h=match e.ev c with
  | .one (.d (.bool t))=>some (if t then e.ev x else e.ev y)
  | _=>none:=rfl
attribute [simp] eff
theorem ret0 {P:Program} {rs:List ResultVar} {r:RV} {e:Env} {h:HS} {vs:List V} (hv:resVs P e h rs=some vs) (hr:RetAll h (fun _=>none) vs r):retOK P rs r e h:=by
 simp only[retOK,hv];exact⟨fun _=>none,fun _ _ _ hj _=>(by cases hj),hr⟩
theorem ret1 {P:Program} {rs:List ResultVar} {r:RV} {e:Env} {h:HS} {vs:List V} (o:Option Lab) (hv:resVs P e h rs=some vs) (hr:RetAll h (fun j=>if j=0 then o else none) vs r):retOK P rs r e h:=by
 simp only[retOK,hv];refine⟨fun j=>if j=0 then o else none,fun j j' l hj hj'=>?_,hr⟩
 by_cases h1:j=0
 ·by_cases h2:j'=0
  ·rw[h1,h2]
  ·simp[h2] at hj'
 ·simp[h1] at hj
theorem RetC.grows {h:HS} {es:Nat} {c:C} {xs:List (List D)} (g:Grows h es c xs):∃ o,∀ ren:Nat→Option Lab,ren 0=o→RetC h ren c (.fresh 0 es xs):=by
 rcases g.1 with ⟨h1,h2⟩ | ⟨l,h1,h2,h3⟩
 ·exact⟨none,fun ren hr=>by simp only[RetC,hr];exact⟨h1,h2⟩⟩
 ·exact⟨some l,fun ren hr=>by simp only[RetC,hr];exact⟨h1,h2⟩⟩
theorem Zmb {P:Program} {k es:Nat} {e:Env} {h:HS} {c:C} {xs:List (List D)} (hv:e.get k=.one c) (g:Grows h es c xs):retOK P [.tmp k] (.one (.fresh 0 es xs)) e h:=by
 obtain⟨o,ho⟩:=RetC.grows g;refine ret1 o (vs:=[.one c]) (by simp[hv]) ?_;simp only[RetAll,RetV1];exact ho _ rfl
def GrowsV (h:HS) (es:Nat) (v:V) (xs:List (List D)):Prop:=∃ c,v=.one c∧Grows h es c xs
theorem GrowsV.nil {h:HS} {es:Nat}:GrowsV h es (.one .nil) []:=⟨_,rfl,Grows.nil⟩
theorem GrowsV.app {h:HS} {es n:Nat} {l:Lab} {xs ys:List (List D)} (hl:l.1=h.ep) (hn:n=xs.length) (hy:∀ y ∈ ys,y.length=es) (he:xs=ys):GrowsV ((h.setArr l (some (n,es))).next) es (.one (.own l xs)) ys:=by
 subst he hn;exact⟨_,rfl,Grows.app hl hy⟩
theorem Zf7 {h:HS} {c:C}:(C.useUp h c).ep=h.ep:=by cases c<;>rfl
attribute [simp] Zf7
theorem Z3g {P:Program} {k es:Nat} {e:Env} {h:HS} {xs:List (List D)} (g:GrowsV h es (e.get k) xs):retOK P [.tmp k] (.one (.fresh 0 es xs)) e h:=by
 obtain⟨c,hv,g⟩:=g;exact Zmb hv g
theorem ret_d {P:Program} {k:Nat} {e:Env} {h:HS} {x:D} {c:C} (hv:e.get k=.one c) (hx:c.toD=some x):retOK P [.tmp k] (.one (.d x)) e h:=
 ret0 (vs:=[.one c]) (by simp[hv]) (by simpa[RetAll,RetV1] using hx)
theorem Zov {h:HS} {caps:List (List D)}:capsA h (caps.map Cap.rp)=some caps:=by
 induction caps with
 | nil=>rfl
 | cons x xs ih=>simp[capsA,capA,ih]
attribute [simp] Zov
end Go.Am
end
section
namespace Go.Am
open Go
section
variable {ρ α β σ:Type}
def Is (m:Option ρ) (r:ρ):Prop:=m=some r
def bindK (m:Option α) (K:α→Option ρ):Option ρ:=match m with
 | some x=>K x
 | none=>none
def getK (xs:List α) (i:Int) (K:α→Option ρ):Option ρ:=if 0≤i then bindK xs[i.toNat]? K else none
def chkK (b:Prop) [Decidable b] (m:Option ρ):Option ρ:=if b then m else none
def okI (n:Int):Prop:=-9223372036854775808≤n∧n≤9223372036854775807
instance (n:Int):Decidable (okI n):=inferInstanceAs (Decidable (_∧_))
def appK2 (xs ys:List α) (K:List α→Option ρ):Option ρ:=chkK (xs.length+ys.length≤LIM) (K (xs++ys))
def chrK (s:ByteArray) (i:Int) (K:Int→Option ρ):Option ρ:=if 0≤i then (match s[i.toNat]? with
 | some b=>K b.toNat
 | none=>none) else none
def forK (body:Nat→α→σ→(σ→Option ρ)→Option ρ) (k:σ→Option ρ):List α→Nat→σ→Option ρ
 | [],_,s=>k s
 | x::xs,i,s=>body i x s fun s'=>forK body k xs (i+1) s'
def countK (body:Nat→σ→(σ→Option ρ)→Option ρ) (k:σ→Option ρ):Nat→Nat→σ→Option ρ
 | 0,_,s=>k s
 | n+1,i,s=>body i s fun s'=>countK body k n (i+1) s'
def whileK (body:σ→(σ→Option ρ)→Option ρ):Nat→σ→Option ρ
 | 0,_=>none
 | n+1,s=>body s fun s'=>whileK body n s'
theorem r_ret {v r:ρ} (h:Is (some v) r):v=r:=Option.some.inj h
theorem Is.bind {m:Option α} {K:α→Option ρ} {r:ρ} (h:Is (bindK m K) r):∃ x,Is m x∧Is (K x) r:=by
 unfold bindK at h;cases m with
 | some x=>exact⟨x,rfl,h⟩
 | none=>cases h
theorem Is.get {xs:List α} {i:Int} {K:α→Option ρ} {r:ρ} (h:Is (getK xs i K) r):∃ x,0≤i∧xs[i.toNat]?=some x∧Is (K x) r:=by
 unfold getK at h
 by_cases h0:0≤i
 ·rw[if_pos h0] at h;obtain⟨x,hx,h⟩:=h.bind;exact⟨x,h0,hx,h⟩
 ·rw[if_neg h0] at h;cases h
theorem Is.getN {xs:List α} {i:Nat} {K:α→Option ρ} {r:ρ} (h:Is (getK xs i K) r):∃ x,xs[i]?=some x∧Is (K x) r:=by
 obtain⟨x,_,hx,h⟩:=h.get;exact⟨x,by simpa using hx,h⟩
theorem Is.chk {b:Prop} [Decidable b] {m:Option ρ} {r:ρ} (h:Is (chkK b m) r):b∧Is m r:=by
 unfold chkK at h
 by_cases hb:b
 ·rw[if_pos hb] at h;exact⟨hb,h⟩
 ·rw[if_neg hb] at h;cases h
theorem Zl3 {n:Int} (h:okI n):IntKind.i64.wrap n=n:=IntWalk.i64_in _ ⟨h.1,h.2⟩
theorem Is.app {xs ys:List α} {K:List α→Option ρ} {r:ρ} (h:Is (appK2 xs ys K) r):xs.length+ys.length≤LIM∧Is (K (xs++ys)) r:=Is.chk h
theorem Is.chr {s:ByteArray} {i:Int} {K:Int→Option ρ} {r:ρ} (h:Is (chrK s i K) r):∃ b,0≤i∧s[i.toNat]?=some b∧Is (K b.toNat) r:=by
 unfold chrK at h
 by_cases h0:0≤i
 ·rw[if_pos h0] at h;cases hs:s[i.toNat]? with
  | some b=>rw[hs] at h;exact⟨b,h0,rfl,h⟩
  | none=>rw[hs] at h;cases h
 ·rw[if_neg h0] at h;cases h
theorem r_cond {b:Bool} {A B:Option ρ} {r:ρ} {f:Unit→Prop} {g:Bool→Prop} (hm:Is (cond b A B) r) (h1:b=true→Is A r→f ()) (h2:b=false→Is B r→g true):condV (.one (.d (.bool b))) (p:=⟨f⟩) (q:=⟨g⟩):=by
 cases b with
 | true=>exact Z6b (fun _=>h1 rfl hm) (fun h=>by cases h)
 | false=>exact Z6b (fun h=>by cases h) (fun _=>h2 rfl hm)
theorem Zod {b:Bool} {A B:Option ρ} {r:ρ} {f:Unit→Prop} {g:Bool→Prop} (hm:Is (cond b A B) r) (h1:b=true→Is A r→f ()) (h2:b=false→Is B r→g true):guardV (.one (.d (.bool b))) true (p:=⟨f⟩) (q:=⟨g⟩):=by
 cases b with
 | true=>simp;exact h1 rfl hm
 | false=>simp;exact h2 rfl hm
theorem Zcw {b:Bool} {A B:Option ρ} {r:ρ} {f:Unit→Prop} {g:Bool→Prop} (hm:Is (cond b A B) r) (h1:b=true→Is A r→g true) (h2:b=false→Is B r→f ()):guardV (.one (.d (.bool b))) false (p:=⟨f⟩) (q:=⟨g⟩):=by
 cases b with
 | true=>simp;exact h1 rfl hm
 | false=>simp;exact h2 rfl hm
theorem r_call {P:Program} {f:FuncId} {vs:List V} {av:List AV} {d:Nat} {e:Env} {h:HS} {Kc:Env→HS→Prop} {er:α→RV} {m:Option α} {K:α→Option ρ} {r:ρ} (hm:Is (bindK m K) r) (hs:∀ v,Is m v→PSpec P f av (er v)) (has:toAs h vs=some av)
  (hk:∀ v,Is m v→Is (K v) r→Kc (e.put (some d) ((er v).toV h.ep d)) ((h.addFr d (er v).fr).next)):callK P f [] vs d e h (K:=⟨Kc⟩):=by
 obtain⟨x,hx,hm⟩:=hm.bind;exact Z09 (hs x hx) has (hk x hx hm)
theorem Zmc {P:Program} {f:FuncId} {vs:List V} {av:List AV} {caps:List Cap} {cs:List (List D)} {d:Nat} {e:Env} {h:HS} {Kc:Env→HS→Prop} {er:α→RV} {m:Option α} {K:α→Option ρ} {r:ρ} (hm:Is (bindK m K) r) (hs:∀ v,Is m v→PSpec P f (av++capsOf cs) (er v)) (has:toAs h vs=some av) (hcs:capsA h caps=some cs)
  (hk:∀ v,Is m v→Is (K v) r→Kc (e.put (some d) ((er v).toV h.ep d)) ((h.addFr d (er v).fr).next)):callK P f caps vs d e h (K:=⟨Kc⟩):=by
 obtain⟨x,hx,hm⟩:=hm.bind;exact Zow has hcs (hs x hx) (hk x hx hm)
theorem r_app {P:Program} {ty el:TypeId} {es by_ d:Nat} {c x:C} {h:HS} {Kc:V→HS→Prop} {K:List α→Option ρ} {r:ρ} {enc:α→List D} {xs ys:List α} (hm:Is (appK2 xs ys K) r) (hel:elT P ty=some (el,es,by_)) (hc:Grows h es c (xs.map enc)) (hx:x.list?=some (ys.map enc))
  (h0:0 < es) (hb:by_≤4096) (hy:∀ y:α,(enc y).length=es)
  (hk:xs.length+ys.length≤LIM→Is (K (xs++ys)) r→Grows (((c.useUp h).setArr (h.ep,16 * d) (some ((xs++ys).length,es))).next) es (.own (h.ep,16 * d) ((xs++ys).map enc)) ((xs++ys).map enc) →
   Kc (.one (.own (h.ep,16 * d) ((xs++ys).map enc))) (((c.useUp h).setArr (h.ep,16 * d) (some ((xs++ys).length,es))).next)):appK P ty c x d h (K:=⟨Kc⟩):=by
 obtain⟨hl,hm⟩:=hm.app;have hall:∀ y ∈ (xs++ys).map enc,y.length=es:=by
  intro y hy';obtain⟨z,_,rfl⟩:=List.mem_map.1 hy';exact hy z
 refine Zcc hel hc hx h0 hb ?_ (by simpa using hl) ?_
 ·intro y hy';obtain⟨z,_,rfl⟩:=List.mem_map.1 hy';exact hy z
 ·have e1:xs.map enc++ys.map enc=(xs++ys).map enc:=by simp
  rw[e1];have g:Grows (((c.useUp h).setArr (h.ep,16 * d) (some (((xs++ys).map enc).length,es))).next) es (.own (h.ep,16 * d) ((xs++ys).map enc)) ((xs++ys).map enc):=
   Grows.own (by simp[HS.setArr,HS.next]) (by show h.ep < (C.useUp h c).ep+1;rw[Zf7];omega) hall
  simp only[List.length_map] at g ⊢;exact hk hl hm g
def CutK [J:Hid (Env→HS→Prop)] (e:Env) (h:HS):Prop:=J.out e h
theorem CutK.of {J:Env→HS→Prop} {e:Env} {h:HS} (hJ:J e h):CutK (J:=⟨J⟩) e h:=hJ
theorem Wait.cut {P:Program} {id:Nat} {ops:Array Oper} {Q:Exit→Env→HS→Prop} {e:Env} {h:HS} (plan:Plan) (hm:P.follows .mixedOrders=true)
  (hB:planB .any ops plan ops.size (Array.replicate ops.size false)=true) (J:Env→HS→Prop) (h1:vcPlan P ops.toList (fun e h=>CutK (J:=⟨J⟩) e h) plan e h) (h2:∀ e h,J e h→Q .normal e h) :
  Wait P (c:=⟨.region id ops true⟩) (Q:=⟨Q⟩) e h:=by
 refine SWP.mono (Q:=fun x e h=>match x with | .normal=>J e h | _=>False) (SWP.draw plan hm hB h1) ?_;intro x e h hq;cases x with
 | normal=>exact h2 e h hq
 | _=>exact hq.elim
def BackF {σ:Type} [I:Hid (σ→Env→HS→Prop)] (e:Env) (h:HS):Prop:=∃ s,I.out s e h
theorem BackF.of {σ:Type} {I:σ→Env→HS→Prop} {e:Env} {h:HS} (s:σ) (hI:I s e h):BackF (I:=⟨I⟩) e h:=⟨s,hI⟩
def Never:Prop:=False
theorem SWP.loopS {P:Program} {c:Code} {Q:Exit→Env→HS→Prop} {e:Env} {h:HS} (I:Nat→Env→HS→Prop) (n:Nat) (h0:I n e h)
  (round:∀ n e h,I n e h→SWP P c (thenQ (fun e' h'=>∃ n',n' < n∧I n' e' h') Q) e h):SWP P (.loop c) Q e h:=by
 intro Γ a w μ hI hE;intro b k cs;have key:∀ n e h a w μ,I n e h→Inv Γ h μ w→EnvRel μ e a →
   ∃ ex a' w',(∃ e' h' μ',Q ex e' h'∧Inv Γ h' μ' w'∧EnvRel μ' e' a'∧Mem.Le μ μ')∧Arrives P (lone (b.at a (.code c::.inLoop c::k)) cs w) b k cs ex a' w':=by
  intro n
  induction n using Nat.strongRecOn with
  | _ n ih=>
    intro e h a w μ hIn hI hE;obtain⟨ex,a₁,w₁,⟨e₁,h₁,μ₁,hq,hI₁,hE₁,hle₁⟩,harr⟩:=(round n e h hIn) Γ a w μ hI hE b (.inLoop c::k) cs;cases ex with
    | normal=>
      obtain⟨n',hlt,hIn'⟩:=hq;obtain⟨e₂,a₂,w₂,⟨e₃,h₃,μ₃,q1,q2,q3,q4⟩,harr₂⟩:=ih n' hlt e₁ h₁ a₁ w₁ μ₁ hIn' hI₁ hE₁;exact⟨e₂,a₂,w₂,⟨e₃,h₃,μ₃,q1,q2,q3,hle₁.trans q4⟩,.of_steps (Steps.trans harr (.one step_inLoop)) harr₂⟩
    | exit id=>exact⟨_,a₁,w₁,⟨e₁,h₁,μ₁,hq,hI₁,hE₁,hle₁⟩,.pass (x:=.inLoop c) rfl (fun _ _=>.inl (by simp)) harr⟩
    | goto l=>exact⟨_,a₁,w₁,⟨e₁,h₁,μ₁,hq,hI₁,hE₁,hle₁⟩,.pass (x:=.inLoop c) rfl (fun _ _=>.inl (by simp)) harr⟩
    | ret=>exact⟨_,a₁,w₁,⟨e₁,h₁,μ₁,hq,hI₁,hE₁,hle₁⟩,.pass (x:=.inLoop c) rfl (fun _ _=>.inl (by simp)) harr⟩
    | panic ch=>exact⟨_,a₁,w₁,⟨e₁,h₁,μ₁,hq,hI₁,hE₁,hle₁⟩,.pass (x:=.inLoop c) rfl (fun _ _=>.inl (by simp)) harr⟩
    | outgrown=>exact⟨_,a₁,w₁,⟨e₁,h₁,μ₁,hq,hI₁,hE₁,hle₁⟩,.pass (x:=.inLoop c) rfl (fun _ _=>.inl (by simp)) harr⟩
 obtain⟨ex,a',w',hq,harr⟩:=key n e h a w μ h0 hI hE;exact⟨ex,a',w',hq,.of_steps (.one step_loop) harr⟩
theorem Z7v {N N':Env→HS→Prop} {Q:Exit→Env→HS→Prop} (hN:∀ e h,N e h→N' e h):∀ x e h,thenQ N Q x e h→thenQ N' Q x e h
 | .normal,e,h,hq=>hN e h hq
 | .exit _,_,_,hq=>hq
 | .goto _,_,_,hq=>hq
 | .ret,_,_,hq=>hq
 | .panic _,_,_,hq=>hq
 | .outgrown,_,_,hq=>hq
theorem Wait.for {P:Program} {c:Code} {Q:Exit→Env→HS→Prop} {e:Env} {h:HS} {xs:List α} {s0:σ} {body:Nat→α→σ→(σ→Option ρ)→Option ρ} {k:σ→Option ρ} {r:ρ} (R:Nat→σ→Env→HS→Prop)
  (hm:Is (forK body k xs 0 s0) r) (h0:R 0 s0 e h)
  (round:∀ (i:Nat) (s:σ) (e:Env) (h:HS),R i s e h→∀ hlt:i < xs.length,Is (body i xs[i] s (fun s'=>forK body k (xs.drop (i+1)) (i+1) s')) r →
   vc P c (thenQ (fun e' h'=>BackF (I:=⟨fun s' e h=>R (i+1) s' e h∧Is (forK body k (xs.drop (i+1)) (i+1) s') r⟩) e' h') Q) e h)
  (fin:∀ (s:σ) (e:Env) (h:HS),R xs.length s e h→Is (k s) r→vc P c (thenQ (fun _ _=>Never) Q) e h) :
  Wait P (c:=⟨.loop c⟩) (Q:=⟨Q⟩) e h:=by
 refine SWP.loopS (fun n e h=>∃ i s,i≤xs.length∧n=xs.length - i∧R i s e h∧Is (forK body k (xs.drop i) i s) r) xs.length ⟨0,s0,by omega,by omega,h0,by simpa using hm⟩ ?_;rintro n e h ⟨i,s,hi,rfl,hR,hm⟩;rcases Nat.lt_or_ge i xs.length with hlt | hge
 ·rw[List.drop_eq_getElem_cons hlt] at hm;refine (Z50 _ _ _ _ (round i s e h hR hlt hm)).mono (Z7v ?_);rintro e' h' ⟨s',hR',hm'⟩;exact⟨xs.length - (i+1),by omega,i+1,s',by omega,rfl,hR',hm'⟩
 ·obtain rfl:i=xs.length:=by omega
  rw[List.drop_eq_nil_of_le (Nat.le_refl _)] at hm;exact (Z50 _ _ _ _ (fin s e h hR hm)).mono (Z7v fun _ _ hf=>(hf:False).elim)
theorem Wait.count {P:Program} {c:Code} {Q:Exit→Env→HS→Prop} {e:Env} {h:HS} {N:Int} {s0:σ} {body:Nat→σ→(σ→Option ρ)→Option ρ} {k:σ→Option ρ} {r:ρ} (R:Nat→σ→Env→HS→Prop)
  (hm:Is (countK body k N.toNat 0 s0) r) (h0:R 0 s0 e h)
  (round:∀ (i:Nat) (s:σ) (e:Env) (h:HS),R i s e h→(i:Int) < N→Is (body i s (fun s'=>countK body k (N.toNat - (i+1)) (i+1) s')) r →
   vc P c (thenQ (fun e' h'=>BackF (I:=⟨fun s' e h=>R (i+1) s' e h∧Is (countK body k (N.toNat - (i+1)) (i+1) s') r⟩) e' h') Q) e h)
  (fin:∀ (i:Nat) (s:σ) (e:Env) (h:HS),R i s e h→¬ (i:Int) < N→Is (k s) r→vc P c (thenQ (fun _ _=>Never) Q) e h) :
  Wait P (c:=⟨.loop c⟩) (Q:=⟨Q⟩) e h:=by
 refine SWP.loopS (fun n e h=>∃ i s,i≤N.toNat∧n=N.toNat - i∧R i s e h∧Is (countK body k (N.toNat - i) i s) r) N.toNat ⟨0,s0,by omega,by omega,h0,by simpa using hm⟩ ?_;rintro n e h ⟨i,s,hi,rfl,hR,hm⟩;rcases Nat.lt_or_ge i N.toNat with hlt | hge
 ·obtain⟨j,hj⟩:∃ j,N.toNat - i=j+1:=⟨N.toNat - i - 1,by omega⟩;rw[hj] at hm;have hj':j=N.toNat - (i+1):=by omega
  subst hj';refine (Z50 _ _ _ _ (round i s e h hR (by omega) hm)).mono (Z7v ?_);rintro e' h' ⟨s',hR',hm'⟩;exact⟨N.toNat - (i+1),by omega,i+1,s',by omega,rfl,hR',hm'⟩
 ·obtain rfl:i=N.toNat:=by omega
  rw[Nat.sub_self] at hm;exact (Z50 _ _ _ _ (fin N.toNat s e h hR (by omega) hm)).mono (Z7v fun _ _ hf=>(hf:False).elim)
theorem Wait.while {P:Program} {c:Code} {Q:Exit→Env→HS→Prop} {e:Env} {h:HS} {m:Nat} {s0:σ} {body:σ→(σ→Option ρ)→Option ρ} {r:ρ} (R:σ→Env→HS→Prop)
  (hm:Is (whileK body m s0) r) (h0:R s0 e h)
  (round:∀ (n:Nat) (s:σ) (e:Env) (h:HS),R s e h→Is (body s (fun s'=>whileK body n s')) r →
   vc P c (thenQ (fun e' h'=>BackF (I:=⟨fun s' e h=>R s' e h∧Is (whileK body n s') r⟩) e' h') Q) e h) :
  Wait P (c:=⟨.loop c⟩) (Q:=⟨Q⟩) e h:=by
 refine SWP.loopS (fun n e h=>∃ s,R s e h∧Is (whileK body n s) r) m ⟨s0,h0,hm⟩ ?_;rintro n e h ⟨s,hR,hm⟩;cases n with
 | zero=>cases hm
 | succ n=>
   refine (Z50 _ _ _ _ (round n s e h hR hm)).mono (Z7v ?_);rintro e' h' ⟨s',hR',hm'⟩;exact⟨n,by omega,s',hR',hm'⟩
end
def AllLen (es:Nat) (xs:List (List D)):Prop:=∀ y ∈ xs,y.length=es
theorem Grows.setArr' {h:HS} {es:Nat} {c:C} {xs:List (List D)} {a b:Nat} {x:Option (Nat × Nat)} (g:Grows h es c xs) (hk:h.ep≤a):Grows (h.setArr (a,b) x) es c xs:=g.setArr hk
theorem Zkz {es:Nat}:AllLen es []=True:=by simp[AllLen]
theorem Zi3 {es:Nat} {y:List D} {ys:List (List D)}:AllLen es (y::ys)=(y.length=es∧AllLen es ys):=by simp[AllLen]
theorem Zfy {es:Nat} {xs ys:List (List D)}:AllLen es (xs++ys)=(AllLen es xs∧AllLen es ys):=by
 simp only[AllLen,List.mem_append,eq_iff_iff];exact⟨fun h=>⟨fun y hy=>h y (.inl hy),fun y hy=>h y (.inr hy)⟩,fun h y hy=>hy.elim (h.1 y) (h.2 y)⟩
theorem Zl0 {α:Type} {f:α→List D} {es:Nat} {xs:List α} (h:∀ a,(f a).length=es):AllLen es (xs.map f)=True:=by
 refine eq_true ?_;intro y hy;obtain⟨a,_,rfl⟩:=List.mem_map.1 hy;exact h a
theorem Zmq {h:HS} {es:Nat} {l:Lab} {xs ys:List (List D)}:Grows h es (.own l xs) ys=(xs=ys∧h.arr l=some (xs.length,es)∧l.1 < h.ep∧AllLen es xs):=by
 apply propext
 constructor
 ·rintro⟨h1 | ⟨l',h1,h2,h3⟩,hy⟩
  ·cases h1.1
  ·injection h1 with e1 e2
   subst e1 e2;exact⟨rfl,h2,h3,hy⟩
 ·rintro⟨rfl,h2,h3,hy⟩;exact Grows.own h2 h3 hy
def Apart (c c':C):Prop:=∀ l xs ys,c=.own l xs→c'=.own l ys→False
theorem Apart.symm {c c':C} (h:Apart c c'):Apart c' c:=fun l xs ys h1 h2=>h l ys xs h2 h1
theorem Zmz {c:C}:Apart .nil c=True:=eq_true fun _ _ _ h _=>by cases h
theorem Zky {c:C}:Apart c .nil=True:=eq_true fun _ _ _ _ h=>by cases h
theorem Zmy {l l':Lab} {xs ys:List (List D)}:Apart (.own l xs) (.own l' ys)=(l≠l'):=by
 apply propext
 constructor
 ·rintro h rfl;exact h _ _ _ rfl rfl
 ·intro h k _ _ h1 h2
  injection h1 with a _
  injection h2 with b _
  exact h (a.trans b.symm)
theorem Grows.apart {h:HS} {es:Nat} {c:C} {xs ys:List (List D)} (g:Grows h es c xs) {l:Lab} (hl:h.ep≤l.1):Apart (.own l ys) c:=by
 intro k _ _ h1 h2
 injection h1 with a _
 rcases g.1 with ⟨h3,_⟩ | ⟨l',h3,_,h5⟩
 ·rw[h3] at h2;cases h2
 ·rw[h3] at h2
  injection h2 with b _
  rw[b,← a] at h5;omega
theorem Grows.useUp_arr {h:HS} {es:Nat} {c:C} {xs:List (List D)} (g:Grows h es c xs):∀ (h':HS) (l:Lab),h.ep≤l.1→(C.useUp h' c).arr l=h'.arr l:=by
 intro h' l hl;rcases g.1 with ⟨h3,_⟩ | ⟨l',h3,_,h5⟩
 ·rw[h3];rfl
 ·rw[h3]
  have:l≠l':=by rintro rfl;omega
  simp[C.useUp,HS.setArr,this]
theorem Grows.useUp {h:HS} {es:Nat} {c c':C} {xs:List (List D)} (g:Grows h es c' xs) (ha:Apart c c'):Grows (C.useUp h c) es c' xs:=by
 refine⟨?_,g.2⟩;rcases g.1 with h3 | ⟨l',h3,h4,h5⟩
 ·exact .inl h3
 ·refine .inr ⟨l',h3,?_,by rw[Zf7];exact h5⟩;cases c with
  | own l ys=>
    have:l'≠l:=by rintro rfl;exact ha _ _ _ rfl h3
    simp[C.useUp,HS.setArr,this,h4]
  | _=>exact h4
theorem Grows.useUp' {h:HS} {es:Nat} {c c':C} {xs:List (List D)} (g:Grows h es c' xs) (ha:Apart c' c):Grows (C.useUp h c) es c' xs:=g.useUp ha.symm
theorem Zmr {h:HS} {es:Nat} {ys:List (List D)}:Grows h es .nil ys=(ys=[]):=by
 apply propext
 constructor
 ·rintro⟨h1 | ⟨l',h1,h2,h3⟩,hy⟩
  ·exact h1.2
  ·cases h1
 ·rintro rfl;exact Grows.nil
def idxE (z:Option (TypeId × Nat × Nat)) (x i:V):Option V:=
 match z with
 | some (_,n,_)=>match x,i with
   | .one c,.one (.d (.int _ k))=>match c.list? with
     | some xs=>if 0≤k then match xs[k.toNat]? with
       | some y=>if y.length=n∧0 < n then some (.one (.rp y)) else none
       | none=>none
      else none
     | none=>match c with
       | .mrow l off m _=>if 0≤k∧k.toNat < m∧0 < n then some (.one (.ptr l (off+k.toNat * n))) else none
       | _=>none
   | _,_=>none
 | none=>none
def idxA (z:Option (TypeId × Nat × Nat)) (ar:Option (Nat × Nat)) (x i:V):Option V:=
 match z with
 | some z=>idxE (some z) x i
 | none=>match ar with
   | some (len,n)=>match x,i with
     | .one (.ptr l off),.one (.d (.int _ k))=>if 0≤k∧k < len then some (.one (.ptr l (off+k.toNat * n))) else none
     | _,_=>none
   | none=>none
@[simp] theorem Zsk {z:TypeId × Nat × Nat} {ar:Option (Nat × Nat)} {x i:V}:idxA (some z) ar x i=idxE (some z) x i:=rfl
@[simp] theorem Ztk {len n off:Nat} {l:Lab} {kk:IntKind} {k:Int}:idxA none (some (len,n)) (.one (.ptr l off)) (.one (.d (.int kk k)))=if 0≤k∧k < len then some (.one (.ptr l (off+k.toNat * n))) else none:=rfl
@[simp high] theorem Zft {P:Program} {t:TypeId} {x i:Operand} {e:Env} {h:HS}:eff P (.indexAddr t x i) e h=idxA (elT P t) (arT P t) (e.ev x) (e.ev i):=by
 simp only[eff,idxA,idxE];cases elT P t with
 | none=>rfl
 | some z=>
   obtain⟨a,n,b⟩:=z
   dsimp only
   generalize e.ev x=X;generalize e.ev i=I;cases X with
   | one c=>cases I with
     | one c'=>cases c' with
       | d y=>cases y with
         | int k j=>cases c with
           | d z=>cases z<;>rfl
           | _=>rfl
         | _=>cases c<;>rfl
       | _=>cases c<;>rfl
     | _=>cases c<;>rfl
   | _=>rfl
@[simp] theorem Ztj {a n b:Nat} {c:C} {k:IntKind} {j:Int}:idxE (some (a,n,b)) (.one c) (.one (.d (.int k j)))=match c.list? with
   | some xs=>if 0≤j then match xs[j.toNat]? with
     | some y=>if y.length=n∧0 < n then some (.one (.rp y)) else none
     | none=>none
    else none
   | none=>match c with
     | .mrow l off m _=>if 0≤j∧j.toNat < m∧0 < n then some (.one (.ptr l (off+j.toNat * n))) else none
     | _=>none:=rfl
def Rd (c:C) (xs:List (List D)):Prop:=c.list?=some xs∧c.toD=some (.sl xs)∧∀ h,c.toA h=some (.d (.sl xs))
theorem Grows.rd {h:HS} {es:Nat} {c:C} {xs:List (List D)} (g:Grows h es c xs):Rd c xs:=⟨g.list,g.toD,g.toA⟩
theorem Rd.d {xs:List (List D)}:Rd (.d (.sl xs)) xs:=⟨rfl,rfl,fun _=>rfl⟩
theorem Rd.own {l:Lab} {xs:List (List D)}:Rd (.own l xs) xs:=⟨rfl,rfl,fun _=>rfl⟩
theorem Rd.nil:Rd .nil []:=⟨rfl,rfl,fun _=>rfl⟩
attribute [simp] Zmq Zmr Grows.next Grows.setBox Grows.setArr' Grows.useUp Grows.useUp' Zkz Zi3 Zfy Zl0 Zmz Zky Zmy
end Go.Am
end
namespace Go.Am
section
open Go
def eqKs (rec:TypeId→Option (List Kd)):List Field→Nat→Option (List Kd)
 | [],_=>some []
 | f::fs,off=>if f.name ≠ "_" ∧ f.offset=off then
     match rec f.type with
     | some ks=>match eqKs rec fs (off+ks.length) with
       | some r=>some (ks++r)
       | none=>none
     | none=>none
  else none
def eqK (P:Program):Nat→TypeId→Option (List Kd)
 | 0,_=>none
 | d+1,t=>match P.underlying t with
   | some (.int k)=>some [.int k]
   | some .bool=>some [.bool]
   | some .string=>some [.str]
   | some (.struct fs)=>if P.stoodInHeld t=true then none else
     match eqKs (eqK P d) fs.toList 0 with
     | some ks=>match P.info? t with
       | some i=>if i.size=ks.length then some ks else none
       | none=>none
     | none=>none
   | _=>none
theorem Z5u:∀ {ks ls:List Kd} {vs:List Value},Shaped (ks++ls) vs→∃ a b,vs=a++b∧Shaped ks a∧Shaped ls b∧a.length=ks.length
 | [],ls,vs,h=>⟨[],vs,rfl,trivial,h,rfl⟩
 | k::ks,ls,[],h=>by cases k<;>exact h.elim
 | k::ks,ls,v::vs,h=>by
   cases k with
   | int i=>
     obtain⟨hv,h⟩:=h;obtain⟨a,b,rfl,h1,h2,h3⟩:=Z5u (ks:=ks) (ls:=ls) h;exact⟨v::a,b,rfl,⟨hv,h1⟩,h2,by simp[h3]⟩
   | bool=>
     obtain⟨hv,h⟩:=h;obtain⟨a,b,rfl,h1,h2,h3⟩:=Z5u (ks:=ks) (ls:=ls) h;exact⟨v::a,b,rfl,⟨hv,h1⟩,h2,by simp[h3]⟩
   | str=>
     obtain⟨hv,h⟩:=h;obtain⟨a,b,rfl,h1,h2,h3⟩:=Z5u (ks:=ks) (ls:=ls) h;exact⟨v::a,b,rfl,⟨hv,h1⟩,h2,by simp[h3]⟩
   | other=>exact h.elim
theorem Zax:∀ {a b x y:List Value},a.length=x.length→valsEq (a++b) (x++y)=(valsEq a x && valsEq b y)
 | [],b,[],y,_=>rfl
 | u::a,b,v::x,y,h=>by
   simp only[List.cons_append,valsEq];rw[Zax (a:=a) (x:=x) (by simpa using h),Bool.and_assoc]
 | [],_,_::_,_,h=>by cases h
 | _::_,_,[],_,h=>by cases h
theorem Z9j:∀ {ks:List Kd} {vs:List Value},Shaped ks vs→vs.length=ks.length
 | [],[],_=>rfl
 | [],_::_,h=>h.elim
 | k::ks,[],h=>by cases k<;>exact h.elim
 | k::ks,v::vs,h=>by
   cases k with
   | int i=>simp[Z9j h.2]
   | bool=>simp[Z9j h.2]
   | str=>simp[Z9j h.2]
   | other=>exact h.elim
def asVal (P:Program) (t:TypeId) (vs:List Value) (v:Value):Prop:=
 match P.underlying t with
 | some d=>if aggD d=true then v=.agg vs.toArray else vs=[v]
 | none=>False
theorem Zeo {P:Program} {d:Nat} {t:TypeId} {ks:List Kd} (hk:eqK P d t=some ks) {cs a rest:List Value} {off:Nat} (hc:cs.drop off=a++rest) (ha:Shaped ks a) (w:World) :
  ∃ v,(part t cs.toArray off).run P w=.ok v w∧asVal P t a v:=by
 have hlen:=Z9j ha;cases d with
 | zero=>cases hk
 | succ d=>
   unfold eqK at hk;have leaf:∀ k v,P.underlying t=some k→aggD k=false→a=[v]→∃ u,(part t cs.toArray off).run P w=.ok u w∧asVal P t a u:=by
    intro k v hu hg hav;subst hav;have hget:cs[off]?=some v:=by
     have:(cs.drop off)[0]?=some v:=by rw[hc];rfl
     simpa using this
    exact⟨v,by simp[part,Z6e hu,hg,hget],by simp[asVal,hu,hg]⟩
   split at hk
   ·rename_i k hu;cases hk;obtain⟨v,rfl⟩:∃ v,a=[v]:=by
     match a,hlen with
     | [v],_=>exact⟨v,rfl⟩
    exact leaf _ v hu rfl rfl
   ·rename_i hu;cases hk;obtain⟨v,rfl⟩:∃ v,a=[v]:=by
     match a,hlen with
     | [v],_=>exact⟨v,rfl⟩
    exact leaf _ v hu rfl rfl
   ·rename_i hu;cases hk;obtain⟨v,rfl⟩:∃ v,a=[v]:=by
     match a,hlen with
     | [v],_=>exact⟨v,rfl⟩
    exact leaf _ v hu rfl rfl
   ·rename_i fs hu;split at hk
    ·cases hk
    ·split at hk
     ·rename_i ks' _;split at hk
      ·rename_i i hi;split at hk
       ·rename_i hsz;cases hk;have hex:(cs.drop off).take i.size=a:=by
         rw[hsz,← hlen,hc];simp
        exact⟨.agg a.toArray,by simp[part,Z6e hu,aggD,sizeOf,typeInfo,hi,hex],by simp[asVal,hu,aggD]⟩
       ·cases hk
      ·cases hk
     ·cases hk
   ·cases hk
theorem Zgs {P:Program}:∀ (d:Nat) (t:TypeId) (ks:List Kd),eqK P d t=some ks→∀ (D:Nat),d≤D→∀ (vs us:List Value) (v u:Value) (w:World),Shaped ks vs→Shaped ks us→asVal P t vs v→asVal P t us u →
  (Op.equalIn D t v u).run P w=.ok (valsEq vs us) w
 | 0,t,ks,hk=>by cases hk
 | d+1,t,ks,hk=>by
   intro D hD vs us v u w hv hu av au;obtain⟨D,rfl⟩:∃ n,D=n+1:=⟨D - 1,by omega⟩;unfold eqK at hk;split at hk
   ·rename_i k hun;cases hk;simp only[asVal,hun,aggD,Bool.false_eq_true,if_false] at av au;subst av au;obtain⟨⟨n,rfl⟩,_⟩:=hv;obtain⟨⟨m,rfl⟩,_⟩:=hu;rw[run_equalIn_int w D t k k n m hun];simp[valsEq,valEq]
   ·rename_i hun;cases hk;simp only[asVal,hun,aggD,Bool.false_eq_true,if_false] at av au;subst av au;obtain⟨⟨n,rfl⟩,_⟩:=hv;obtain⟨⟨m,rfl⟩,_⟩:=hu;rw[run_equalIn_bool' w D t n m hun];simp[valsEq,valEq]
   ·rename_i hun;cases hk;simp only[asVal,hun,aggD,Bool.false_eq_true,if_false] at av au;subst av au;obtain⟨⟨n,rfl⟩,_⟩:=hv;obtain⟨⟨m,rfl⟩,_⟩:=hu;rw[run_equalIn_string w D t n m hun,← beq_toListBytes];simp[valsEq,valEq]
   ·rename_i fs hun;split at hk
    ·cases hk
    ·rename_i hst;split at hk
     ·rename_i ks' hks;split at hk
      ·rename_i i hi;split at hk
       ·cases hk;simp only[asVal,hun,aggD,if_true] at av au;subst av au;have hf:P.fieldsOf t=fs:=by simp[Program.fieldsOf,hun]
        rw[run_equalIn_agg w D t _ _ (by rw[hf];exact hun) (by simpa using hst),hf];have key:∀ (l:List Field) (off:Nat) (ls:List Kd) (a b:List Value),eqKs (eqK P d) l off=some ls→vs.drop off=a→us.drop off=b→Shaped ls a→Shaped ls b→∀ w,(Op.eqFields D vs.toArray us.toArray l).run P w=.ok (valsEq a b) w:=by
         intro l
         induction l with
         | nil=>
           intro off ls a b hl ha hb sa sb w;cases hl;have ea:a=[]:=by cases a with | nil=>rfl | cons _ _=>exact sa.elim
           have eb:b=[]:=by cases b with | nil=>rfl | cons _ _=>exact sb.elim
           subst ea eb;simp[Op.eqFields,valsEq]
         | cons f l ih=>
           intro off ls a b hl ha hb sa sb w;unfold eqKs at hl;split at hl
           ·rename_i hc;split at hl
            ·rename_i k1 hk1;split at hl
             ·rename_i r hr;cases hl;obtain⟨a1,a2,rfl,s1,s2,l1⟩:=Z5u sa;obtain⟨b1,b2,rfl,t1,t2,m1⟩:=Z5u sb;obtain⟨v1,hv1,av1⟩:=Zeo hk1 (cs:=vs) ha s1 w;obtain⟨u1,hu1,au1⟩:=Zeo hk1 (cs:=us) hb t1 w;have he:=Zgs d f.type k1 hk1 D (by omega) a1 b1 v1 u1 w s1 t1 av1 au1;have hrest:=ih (off+k1.length) r a2 b2 hr (by rw[← List.drop_drop,ha,← l1];simp) (by rw[← List.drop_drop,hb,← m1];simp) s2 t2 w;rw[← hc.2] at hv1 hu1;simp only[Op.eqFields,hc.1,ne_eq,not_false_eq_true,if_true,Sem.run_bind,hv1,hu1,Result.andThen_ok,he];rw[Zax (by omega)];cases hb1:valsEq a1 b1 with
              | true=>simpa using hrest
              | false=>simp
             ·cases hl
            ·cases hl
           ·cases hl
        exact key fs.toList 0 _ vs us hks rfl rfl hv hu w
       ·cases hk
      ·cases hk
     ·cases hk
   ·cases hk
theorem eqT_of {P:Program} {t:TypeId} {ks:List Kd} {fs:Array Field} (hu:P.underlying t=some (.struct fs)) (hg:P.eqGuardType P.depth t=false) (hk:eqK P 20 t=some ks):EqT P t ks:=by
 intro op vs us w x y hop hv hus;have he:=Zgs 20 t ks hk 10000 (by omega) vs us (.agg vs.toArray) (.agg us.toArray) w hv hus (by simp[asVal,hu,aggD]) (by simp[asVal,hu,aggD]);simp only[Sem.run_bind,run_eqGuard_agg w op t x y _ _ hg,Result.andThen_ok];cases op with
 | eql=>rw[run_eql_struct,he];simp
 | neq=>rw[run_neq_struct,he];simp
 | _=>cases hop
end
end Go.Am
namespace Go.Proofs.YthiojhcimecdgaaGreatDoor
section
open Go.Am
theorem ty_ld3:ldT Tryz.prog 3=some (false,1):=by kernel_rfl
theorem ty_ze3:zeT Tryz.prog 3=some [.d (.int .i64 0)]:=by kernel_rfl
theorem ty_ld4:ldT Tryz.prog 4=some (false,1):=by kernel_rfl
theorem ty_bt4:Zag Tryz.prog 4=true:=by kernel_rfl
theorem ty_ld9:ldT Tryz.prog 9=some (false,1):=by kernel_rfl
theorem Zpz:lenT Tryz.prog 9=some true:=by kernel_rfl
theorem Zql:ldT Tryz.prog 22=some (false,1):=by kernel_rfl
theorem Zab:elT Tryz.prog 22=some (39,1,24):=by kernel_rfl
theorem Znv:lenT Tryz.prog 22=some false:=by kernel_rfl
theorem Zqk:ldT Tryz.prog 23=some (false,1):=by kernel_rfl
theorem Zhc:elT Tryz.prog 23=some (22,1,24):=by kernel_rfl
theorem Znu:lenT Tryz.prog 23=some false:=by kernel_rfl
theorem Zqj:ldT Tryz.prog 25=some (true,2):=by kernel_rfl
theorem Zm1:fdT Tryz.prog 25 0=some (0,false,1):=by kernel_rfl
theorem Zm0:fdT Tryz.prog 25 1=some (1,false,1):=by kernel_rfl
theorem Zpx:stT Tryz.prog 25=some [(0,1),(1,1)]:=by kernel_rfl
theorem Zpp:zeT Tryz.prog 25=some [.nil,.nil]:=by kernel_rfl
theorem Zqi:ldT Tryz.prog 28=some (false,1):=by kernel_rfl
theorem Z87:elT Tryz.prog 28=some (66,3,64):=by kernel_rfl
theorem Znt:lenT Tryz.prog 28=some false:=by kernel_rfl
theorem Zqh:ldT Tryz.prog 29=some (false,1):=by kernel_rfl
theorem Z86:elT Tryz.prog 29=some (116,3,56):=by kernel_rfl
theorem Zns:lenT Tryz.prog 29=some false:=by kernel_rfl
theorem Zqg:ldT Tryz.prog 30=some (false,1):=by kernel_rfl
theorem Z6n:elT Tryz.prog 30=some (114,7,80):=by kernel_rfl
theorem Znr:lenT Tryz.prog 30=some false:=by kernel_rfl
theorem Zqf:ldT Tryz.prog 32=some (true,3):=by kernel_rfl
theorem Zlz:fdT Tryz.prog 32 0=some (0,false,1):=by kernel_rfl
theorem Zly:fdT Tryz.prog 32 1=some (1,false,1):=by kernel_rfl
theorem Zlx:fdT Tryz.prog 32 2=some (2,false,1):=by kernel_rfl
theorem Zpw:stT Tryz.prog 32=some [(0,1),(1,1),(2,1)]:=by kernel_rfl
theorem Zpo:zeT Tryz.prog 32=some [.nil,.nil,.nil]:=by kernel_rfl
theorem Zqe:ldT Tryz.prog 33=some (false,1):=by kernel_rfl
theorem Zm4:elT Tryz.prog 33=some (122,2,32):=by kernel_rfl
theorem Znq:lenT Tryz.prog 33=some false:=by kernel_rfl
theorem Zqd:ldT Tryz.prog 35=some (true,4):=by kernel_rfl
theorem Zlw:fdT Tryz.prog 35 0=some (0,true,3):=by kernel_rfl
theorem Zlv:fdT Tryz.prog 35 1=some (3,false,1):=by kernel_rfl
theorem Zpv:stT Tryz.prog 35=some [(0,3),(3,1)]:=by kernel_rfl
theorem Zpn:zeT Tryz.prog 35=some [.nil,.nil,.nil,.nil]:=by kernel_rfl
theorem Zm3:elT Tryz.prog 38=some (42,2,40):=by kernel_rfl
theorem Zqc:ldT Tryz.prog 39=some (false,1):=by kernel_rfl
theorem Z85:elT Tryz.prog 39=some (42,2,40):=by kernel_rfl
theorem Znp:lenT Tryz.prog 39=some false:=by kernel_rfl
theorem Zpm:zeT Tryz.prog 39=some [.nil]:=by kernel_rfl
theorem Zqb:ldT Tryz.prog 40=some (false,1):=by kernel_rfl
theorem Z45:elT Tryz.prog 40=some (44,1,24):=by kernel_rfl
theorem Zno:lenT Tryz.prog 40=some false:=by kernel_rfl
theorem Zqa:ldT Tryz.prog 42=some (true,2):=by kernel_rfl
theorem Zlu:fdT Tryz.prog 42 0=some (0,false,1):=by kernel_rfl
theorem Zlt:fdT Tryz.prog 42 1=some (1,false,1):=by kernel_rfl
theorem Zpu:stT Tryz.prog 42=some [(0,1),(1,1)]:=by kernel_rfl
theorem Zpl:zeT Tryz.prog 42=some [.d (.str ByteArray.empty),.nil]:=by kernel_rfl
theorem Zm2:elT Tryz.prog 43=some (46,3,32):=by kernel_rfl
theorem Znn:lenT Tryz.prog 43=some false:=by kernel_rfl
theorem Zpy:slT Tryz.prog 43=true:=by kernel_rfl
theorem Zq9:ldT Tryz.prog 44=some (false,1):=by kernel_rfl
theorem Zbn:elT Tryz.prog 44=some (46,3,32):=by kernel_rfl
theorem Znm:lenT Tryz.prog 44=some false:=by kernel_rfl
theorem Zf8:zeT Tryz.prog 44=some [.nil]:=by kernel_rfl
theorem Zq8:ldT Tryz.prog 46=some (true,3):=by kernel_rfl
theorem Zls:fdT Tryz.prog 46 0=some (0,false,1):=by kernel_rfl
theorem Zlr:fdT Tryz.prog 46 1=some (1,false,1):=by kernel_rfl
theorem Zlq:fdT Tryz.prog 46 2=some (2,false,1):=by kernel_rfl
theorem Zpt:stT Tryz.prog 46=some [(0,1),(1,1),(2,1)]:=by kernel_rfl
theorem Zpk:zeT Tryz.prog 46=some [.d (.int .i64 0),.d (.int .i64 0),.d (.str ByteArray.empty)]:=by kernel_rfl
theorem Zq7:ldT Tryz.prog 49=some (false,1):=by kernel_rfl
theorem Z84:elT Tryz.prog 49=some (9,1,16):=by kernel_rfl
theorem Znl:lenT Tryz.prog 49=some false:=by kernel_rfl
theorem Zq6:ldT Tryz.prog 50=some (false,1):=by kernel_rfl
theorem Z8y:elT Tryz.prog 50=some (54,4,72):=by kernel_rfl
theorem Znk:lenT Tryz.prog 50=some false:=by kernel_rfl
theorem Zq5:ldT Tryz.prog 52=some (true,4):=by kernel_rfl
theorem Zlp:fdT Tryz.prog 52 0=some (0,false,1):=by kernel_rfl
theorem Zlo:fdT Tryz.prog 52 1=some (1,false,1):=by kernel_rfl
theorem Zln:fdT Tryz.prog 52 2=some (2,false,1):=by kernel_rfl
theorem Zlm:fdT Tryz.prog 52 3=some (3,false,1):=by kernel_rfl
theorem Zps:stT Tryz.prog 52=some [(0,1),(1,1),(2,1),(3,1)]:=by kernel_rfl
theorem Zpj:zeT Tryz.prog 52=some [.d (.int .i64 0),.nil,.nil,.nil]:=by kernel_rfl
theorem Zq4:ldT Tryz.prog 54=some (true,4):=by kernel_rfl
theorem Zll:fdT Tryz.prog 54 0=some (0,false,1):=by kernel_rfl
theorem Zlk:fdT Tryz.prog 54 1=some (1,false,1):=by kernel_rfl
theorem Zlj:fdT Tryz.prog 54 2=some (2,false,1):=by kernel_rfl
theorem Zli:fdT Tryz.prog 54 3=some (3,false,1):=by kernel_rfl
theorem Zpr:stT Tryz.prog 54=some [(0,1),(1,1),(2,1),(3,1)]:=by kernel_rfl
theorem Zpi:zeT Tryz.prog 54=some [.d (.int .i64 0),.d (.str ByteArray.empty),.nil,.nil]:=by kernel_rfl
theorem Zq3:ldT Tryz.prog 55=some (false,1):=by kernel_rfl
theorem Zq2:ldT Tryz.prog 63=some (false,1):=by kernel_rfl
theorem Z8x:elT Tryz.prog 63=some (111,3,32):=by kernel_rfl
theorem Znj:lenT Tryz.prog 63=some false:=by kernel_rfl
theorem Zq1:ldT Tryz.prog 64=some (false,1):=by kernel_rfl
theorem Zaa:elT Tryz.prog 64=some (3,1,8):=by kernel_rfl
theorem Zni:lenT Tryz.prog 64=some false:=by kernel_rfl
theorem Zq0:ldT Tryz.prog 66=some (true,3):=by kernel_rfl
theorem Zlh:fdT Tryz.prog 66 0=some (0,false,1):=by kernel_rfl
theorem Zlg:fdT Tryz.prog 66 1=some (1,false,1):=by kernel_rfl
theorem Zlf:fdT Tryz.prog 66 2=some (2,false,1):=by kernel_rfl
theorem Zpq:stT Tryz.prog 66=some [(0,1),(1,1),(2,1)]:=by kernel_rfl
theorem Zda:zeT Tryz.prog 66=some [.d (.str ByteArray.empty),.nil,.nil]:=by kernel_rfl
theorem Z9h:elT Tryz.prog 100=some (32,3,72):=by kernel_rfl
theorem Zle:lenT Tryz.prog 100=some false:=by kernel_rfl
theorem Zie:elT Tryz.prog 107=some (50,1,24):=by kernel_rfl
theorem Zld:lenT Tryz.prog 107=some false:=by kernel_rfl
theorem Zo1:ldT Tryz.prog 111=some (true,3):=by kernel_rfl
theorem Zka:fdT Tryz.prog 111 0=some (0,false,1):=by kernel_rfl
theorem Zk9:fdT Tryz.prog 111 1=some (1,false,1):=by kernel_rfl
theorem Zk8:fdT Tryz.prog 111 2=some (2,false,1):=by kernel_rfl
theorem Znh:stT Tryz.prog 111=some [(0,1),(1,1),(2,1)]:=by kernel_rfl
theorem Znc:zeT Tryz.prog 111=some [.d (.str ByteArray.empty),.d (.int .i64 0),.d (.bool false)]:=by kernel_rfl
theorem Zo0:ldT Tryz.prog 114=some (true,7):=by kernel_rfl
theorem Zk7:fdT Tryz.prog 114 0=some (0,false,1):=by kernel_rfl
theorem Zk6:fdT Tryz.prog 114 1=some (1,false,1):=by kernel_rfl
theorem Zk5:fdT Tryz.prog 114 2=some (2,false,1):=by kernel_rfl
theorem Zk4:fdT Tryz.prog 114 3=some (3,false,1):=by kernel_rfl
theorem Zk3:fdT Tryz.prog 114 4=some (4,true,3):=by kernel_rfl
theorem Zaz:zeT Tryz.prog 114=some [.d (.str ByteArray.empty),.d (.int .i64 0),.d (.str ByteArray.empty),.d (.int .i64 0),.d (.int .i64 0),.d (.int .i64 0),.d (.str ByteArray.empty)]:=by kernel_rfl
theorem Znz:ldT Tryz.prog 116=some (true,3):=by kernel_rfl
theorem Zk2:fdT Tryz.prog 116 0=some (0,false,1):=by kernel_rfl
theorem Zk1:fdT Tryz.prog 116 1=some (1,false,1):=by kernel_rfl
theorem Zk0:fdT Tryz.prog 116 2=some (2,false,1):=by kernel_rfl
theorem Zng:stT Tryz.prog 116=some [(0,1),(1,1),(2,1)]:=by kernel_rfl
theorem Zay:zeT Tryz.prog 116=some [.d (.str ByteArray.empty),.nil,.d (.str ByteArray.empty)]:=by kernel_rfl
theorem Zny:ldT Tryz.prog 118=some (true,24):=by kernel_rfl
theorem Zjz:fdT Tryz.prog 118 0=some (0,false,1):=by kernel_rfl
theorem Zjy:fdT Tryz.prog 118 1=some (1,false,1):=by kernel_rfl
theorem Zjx:fdT Tryz.prog 118 2=some (2,false,1):=by kernel_rfl
theorem Zjw:fdT Tryz.prog 118 3=some (3,false,1):=by kernel_rfl
theorem Zjv:fdT Tryz.prog 118 4=some (4,false,1):=by kernel_rfl
theorem Zju:fdT Tryz.prog 118 5=some (5,false,1):=by kernel_rfl
theorem Zjt:fdT Tryz.prog 118 6=some (6,false,1):=by kernel_rfl
theorem Zjs:fdT Tryz.prog 118 7=some (7,false,1):=by kernel_rfl
theorem Zjr:fdT Tryz.prog 118 8=some (8,true,3):=by kernel_rfl
theorem Zjq:fdT Tryz.prog 118 9=some (11,true,3):=by kernel_rfl
theorem Zhb:fdT Tryz.prog 118 10=some (14,true,7):=by kernel_rfl
theorem Zha:fdT Tryz.prog 118 11=some (21,true,3):=by kernel_rfl
theorem Znf:stT Tryz.prog 118=some [(0,1),(1,1),(2,1),(3,1),(4,1),(5,1),(6,1),(7,1),(8,3),(11,3),(14,7),(21,3)]:=by kernel_rfl
theorem Znb:zeT Tryz.prog 118=some [.d (.int .i64 0),.d (.str ByteArray.empty),.d (.str ByteArray.empty),.d (.str ByteArray.empty),.d (.str ByteArray.empty),.d (.int .i64 0),.nil,.d (.str ByteArray.empty),.d (.int .i64 0),.d (.int .i64 0),.d (.str ByteArray.empty),.d (.str ByteArray.empty),.nil,.nil,.d (.str ByteArray.empty),.d (.int .i64 0),.d (.str ByteArray.empty),.d (.int .i64 0),.d (.int .i64 0),.d (.int .i64 0),.d (.str ByteArray.empty),.d (.str ByteArray.empty),.nil,.d (.str ByteArray.empty)]:=by kernel_rfl
theorem Zid:elT Tryz.prog 119=some (118,24,352):=by kernel_rfl
theorem Znx:ldT Tryz.prog 120=some (false,1):=by kernel_rfl
theorem Zic:elT Tryz.prog 120=some (118,24,352):=by kernel_rfl
theorem Zlc:lenT Tryz.prog 120=some false:=by kernel_rfl
theorem Znw:ldT Tryz.prog 122=some (true,2):=by kernel_rfl
theorem Zjp:fdT Tryz.prog 122 0=some (0,false,1):=by kernel_rfl
theorem Zjo:fdT Tryz.prog 122 1=some (1,false,1):=by kernel_rfl
theorem Zne:stT Tryz.prog 122=some [(0,1),(1,1)]:=by kernel_rfl
theorem Zna:zeT Tryz.prog 122=some [.d (.int .i64 0),.nil]:=by kernel_rfl
theorem Zib:elT Tryz.prog 126=some (55,1,8):=by kernel_rfl
theorem Zia:elT Tryz.prog 142=some (4,1,1):=by kernel_rfl
theorem Zi9:elT Tryz.prog 149=some (49,1,24):=by kernel_rfl
theorem Zlb:lenT Tryz.prog 149=some false:=by kernel_rfl
theorem Zi8:elT Tryz.prog 173=some (177,2,16):=by kernel_rfl
theorem Zi7:elT Tryz.prog 227=some (5,1,1):=by kernel_rfl
theorem Zjn:fdT Tryz.prog 241 0=some (0,true,24):=by kernel_rfl
theorem Zjm:fdT Tryz.prog 241 1=some (24,false,1):=by kernel_rfl
theorem Zjl:fdT Tryz.prog 241 2=some (25,true,3):=by kernel_rfl
theorem Zjk:fdT Tryz.prog 241 3=some (28,true,3):=by kernel_rfl
theorem Zjj:fdT Tryz.prog 241 4=some (31,true,3):=by kernel_rfl
theorem Zji:fdT Tryz.prog 241 5=some (34,false,1):=by kernel_rfl
theorem Zjh:fdT Tryz.prog 241 6=some (35,false,1):=by kernel_rfl
theorem Zjg:fdT Tryz.prog 241 7=some (36,false,1):=by kernel_rfl
theorem Zjf:fdT Tryz.prog 241 8=some (37,false,1):=by kernel_rfl
theorem Zje:fdT Tryz.prog 241 9=some (38,false,1):=by kernel_rfl
theorem Znd:stT Tryz.prog 241=some [(0,24),(24,1),(25,3),(28,3),(31,3),(34,1),(35,1),(36,1),(37,1),(38,1)]:=by kernel_rfl
theorem Zn9:zeT Tryz.prog 241=some [.d (.int .i64 0),.d (.str ByteArray.empty),.d (.str ByteArray.empty),.d (.str ByteArray.empty),.d (.str ByteArray.empty),.d (.int .i64 0),.nil,.d (.str ByteArray.empty),.d (.int .i64 0),.d (.int .i64 0),.d (.str ByteArray.empty),.d (.str ByteArray.empty),.nil,.nil,.d (.str ByteArray.empty),.d (.int .i64 0),.d (.str ByteArray.empty),.d (.int .i64 0),.d (.int .i64 0),.d (.int .i64 0),.d (.str ByteArray.empty),.d (.str ByteArray.empty),.nil,.d (.str ByteArray.empty),.d (.bool false),.nil,.nil,.nil,.nil,.nil,.nil,.nil,.nil,.nil,.nil,.nil,.nil,.nil,.d (.int .i64 0)]:=by kernel_rfl
attribute [simp] ty_ld3 ty_ze3 ty_ld4 ty_bt4 ty_ld9 Zpz Zql Zab Znv Zqk Zhc Znu Zqj Zm1 Zm0 Zpx Zpp Zqi Z87 Znt Zqh Z86 Zns Zqg Z6n Znr Zqf Zlz Zly Zlx Zpw Zpo Zqe Zm4 Znq Zqd Zlw Zlv Zpv Zpn Zm3 Zqc Z85 Znp Zpm Zqb Z45 Zno Zqa Zlu Zlt Zpu Zpl Zm2 Znn Zpy Zq9 Zbn Znm Zf8 Zq8 Zls Zlr Zlq Zpt Zpk Zq7 Z84 Znl Zq6 Z8y Znk Zq5 Zlp Zlo Zln Zlm Zps Zpj Zq4 Zll Zlk Zlj Zli Zpr Zpi Zq3 Zq2 Z8x Znj Zq1 Zaa Zni Zq0 Zlh Zlg Zlf Zpq Zda Z9h Zle Zie Zld Zo1 Zka Zk9 Zk8 Znh Znc Zo0 Zk7 Zk6 Zk5 Zk4 Zk3 Zaz Znz Zk2 Zk1 Zk0 Zng Zay Zny Zjz Zjy Zjx Zjw Zjv Zju Zjt Zjs Zjr Zjq Zhb Zha Znf Znb Zid Znx Zic Zlc Znw Zjp Zjo Zne Zna Zib Zia Zi9 Zlb Zi8 Zi7 Zjn Zjm Zjl Zjk Zjj Zji Zjh Zjg Zjf Zje Znd Zn9
theorem follows:Tryz.prog.follows .mixedOrders=true:=by kernel_rfl
structure GV where
 kind:Int
 int:Int
 text:ByteArray
def GV.enc (v:GV):List D:=[.int .i64 v.kind,.int .i64 v.int,.str v.text]
def GV.zero:GV:=⟨0,0,ByteArray.empty⟩
def encI (n:Int):List D:=[.int .i64 n]
structure Col where
 name:ByteArray
 kind:Int
 nullable:Bool
def Col.enc (c:Col):List D:=[.str c.name,.int .i64 c.kind,.bool c.nullable]
structure Tbl where
 name:ByteArray
 cols:List Col
 pk:List Int
def Tbl.enc (t:Tbl):List D:=[.str t.name,.sl (t.cols.map Col.enc),.sl (t.pk.map encI)]
structure Fk where
 table:ByteArray
 cols:List Int
 ref:ByteArray
def Fk.enc (k:Fk):List D:=[.str k.table,.sl (k.cols.map encI),.str k.ref]
structure Cons where
 table:ByteArray
 left:Int
 op:ByteArray
 right:Int
 value:GV
def Cons.enc (c:Cons):List D:=[.str c.table,.int .i64 c.left,.str c.op,.int .i64 c.right,.int .i64 c.value.kind,.int .i64 c.value.int,.str c.value.text]
structure Sch where
 tables:List Tbl
 fks:List Fk
 cons:List Cons
def Sch.enc (s:Sch):List D:=[.sl (s.tables.map Tbl.enc),.sl (s.fks.map Fk.enc),.sl (s.cons.map Cons.enc)]
@[simp] theorem GV.enc_length {v:GV}:v.enc.length=3:=rfl
@[simp] theorem Zqy {v:Int}:(encI v).length=1:=rfl
@[simp] theorem Col.enc_length {v:Col}:v.enc.length=3:=rfl
@[simp] theorem Tbl.enc_length {v:Tbl}:v.enc.length=3:=rfl
@[simp] theorem Fk.enc_length {v:Fk}:v.enc.length=3:=rfl
@[simp] theorem Cons.enc_length {v:Cons}:v.enc.length=7:=rfl
@[simp] theorem Sch.enc_length {v:Sch}:v.enc.length=3:=rfl
def encB (b:Bool):List D:=[.bool b]
def encS (b:ByteArray):List D:=[.str b]
def encL {α:Type} (f:α→List D) (xs:List α):List D:=[.sl (xs.map f)]
structure Rel where
 table:ByteArray
 rows:List (List GV)
def Rel.enc (x:Rel):List D:=[.str x.table,.sl (x.rows.map (encL GV.enc))]
structure Chg where
 kind:Int
 table:ByteArray
 key:List GV
 row:List GV
def Chg.enc (x:Chg):List D:=[.int .i64 x.kind,.str x.table,.sl (x.key.map GV.enc),.sl (x.row.map GV.enc)]
structure Stp where
 kind:Int
 table:ByteArray
 other:ByteArray
 column:ByteArray
 newName:ByteArray
 type:Int
 cols:List Int
 op:ByteArray
 value:GV
 newTable:Tbl
 cons:Cons
 fk:Fk
def Stp.enc (x:Stp):List D:=[.int .i64 x.kind,.str x.table,.str x.other,.str x.column,.str x.newName,.int .i64 x.type,.sl (x.cols.map encI),.str x.op,
 .int .i64 x.value.kind,.int .i64 x.value.int,.str x.value.text,.str x.newTable.name,.sl (x.newTable.cols.map Col.enc),.sl (x.newTable.pk.map encI),
 .str x.cons.table,.int .i64 x.cons.left,.str x.cons.op,.int .i64 x.cons.right,.int .i64 x.cons.value.kind,.int .i64 x.cons.value.int,.str x.cons.value.text,
 .str x.fk.table,.sl (x.fk.cols.map encI),.str x.fk.ref]
structure Edg where
 parent:Int
 script:List Stp
def Edg.enc (x:Edg):List D:=[.int .i64 x.parent,.sl (x.script.map Stp.enc)]
structure Gr where
 base:Sch
 edges:List Edg
def Gr.enc (x:Gr):List D:=[.sl (x.base.tables.map Tbl.enc),.sl (x.base.fks.map Fk.enc),.sl (x.base.cons.map Cons.enc),.sl (x.edges.map Edg.enc)]
structure Db where
 insts:List (List Rel)
 comps:List (List (List Rel))
def Db.enc (x:Db):List D:=[.sl (x.insts.map (encL Rel.enc)),.sl (x.comps.map (encL (encL Rel.enc)))]
structure Rule where
 user:ByteArray
 version:Int
 table:ByteArray
 cols:List Int
 preds:List Cons
 write:Bool
def Rule.enc (x:Rule):List D:=[.str x.user,.int .i64 x.version,.str x.table,.sl (x.cols.map encI),.sl (x.preds.map Cons.enc),.bool x.write]
structure Hop where
 edge:Int
 back:Bool
def Hop.enc (x:Hop):List D:=[.int .i64 x.edge,.bool x.back]
structure Rej where
 version:Int
 err:Int
def Rej.enc (x:Rej):List D:=[.int .i64 x.version,.int .i64 x.err]
structure Wr where
 version:Int
 changes:List Chg
def Wr.enc (x:Wr):List D:=[.int .i64 x.version,.sl (x.changes.map Chg.enc)]
structure Mp where
 step:Stp
 fwd:Bool
 src:Sch
 dst:Sch
 cs:Sch
 inp:List Rel
 comp:List Rel
 out:List Rel
 nc:List Rel
 err:Int
def Mp.enc (m:Mp):List D:=m.step.enc++[.bool m.fwd,.sl (m.src.tables.map Tbl.enc),.sl (m.src.fks.map Fk.enc),.sl (m.src.cons.map Cons.enc),.sl (m.dst.tables.map Tbl.enc),.sl (m.dst.fks.map Fk.enc),.sl (m.dst.cons.map Cons.enc),
 .sl (m.cs.tables.map Tbl.enc),.sl (m.cs.fks.map Fk.enc),.sl (m.cs.cons.map Cons.enc),.sl (m.inp.map Rel.enc),.sl (m.comp.map Rel.enc)]
structure Txn where
 version:Int
 snapshot:List Rel
 tables:List ByteArray
 changes:List Chg
def Txn.enc (x:Txn):List D:=[.int .i64 x.version,.sl (x.snapshot.map Rel.enc),.sl (x.tables.map encS),.sl (x.changes.map Chg.enc)]
attribute [simp] Txn.enc encI encB encS encL Hop.enc Rej.enc Wr.enc Mp.enc GV.enc Col.enc Tbl.enc Fk.enc Cons.enc Sch.enc Rel.enc Chg.enc Stp.enc Edg.enc Gr.enc Db.enc Rule.enc
@[simp] theorem Ztr:({ data:=#[] }:ByteArray)=ByteArray.empty:=rfl
attribute [simp] Zla
@[simp] theorem lim_eq {n:Nat}:(n≤LIM)=(n≤2097152):=rfl
@[simp] theorem Ztl:EqT Tryz.prog 46 [.int .i64,.int .i64,.str]:=eqT_of (fs:=Tryz.prog.fieldsOf 46) (by kernel_rfl) (by kernel_rfl) (by kernel_rfl)
@[simp] theorem Zsp:EqT Tryz.prog 111 [.str,.int .i64,.bool]:=eqT_of (fs:=Tryz.prog.fieldsOf 111) (by kernel_rfl) (by kernel_rfl) (by kernel_rfl)
@[simp] theorem Zuc:EqT Tryz.prog 114 [.str,.int .i64,.str,.int .i64,.int .i64,.int .i64,.str]:=eqT_of (fs:=Tryz.prog.fieldsOf 114) (by kernel_rfl) (by kernel_rfl) (by kernel_rfl)
theorem bound1 {P:Program} {f:FuncId} {xs:List (List D)} {rest:List AV} {r:RV} (hf:FnOK P f) (h:xs.length≤LIM→PSpec P f (.one (.d (.sl xs))::rest) r):PSpec P f (.one (.d (.sl xs))::rest) r:=by
 refine⟨hf,fun w m t vals hg hm ht hargs=>?_⟩;obtain⟨u,_,hr⟩:=hargs.2 0 _ rfl;have hr':RepD m (.sl xs) u:=hr;obtain⟨_,_,_,_,hl⟩:=hr'.slice;exact (h hl).2 w m t vals hg hm ht hargs
theorem Zao (a b:ByteArray) (w:World) :
  Calls Tryz.prog 153 #[.string a,.string b] w fun e w'=>e=.returned (.int .i64 (Lib.compareBytes a.data.toList b.data.toList))∧w'=w:=by
 go_enter Tryz.func153,Tryz.ntmps153
 go_wp2
 rw[run_callFunc_extern Tryz.func173 (by kernel_rfl) (by kernel_rfl) (by kernel_rfl) (e:=Extern.BytealgCompare.compare) (by kernel_rfl),Lib.run_compareString];simp only[Result.andThen];rw[Oper.upon_value]
 go_wp2
 go_ret
 exact⟨rfl,rfl⟩
def cmpS (a b:ByteArray):Int:=Lib.compareBytes a.data.toList b.data.toList
theorem Zfw (a b:ByteArray):PSpec Tryz.prog 153 [.one (.d (.str a)),.one (.d (.str b))] (.one (.d (.int .i64 (cmpS a b)))):=by
 refine⟨⟨_,Tryz.func153,by kernel_rfl,by kernel_rfl⟩,fun w m t vals hgok hm ht hargs=>?_⟩;obtain⟨hs,hg⟩:=hargs;obtain⟨u0,h0,r0⟩:=hg 0 _ rfl;obtain⟨u1,h1,r1⟩:=hg 1 _ rfl;have e0:u0=.string a:=RepD.str_inv (m:=m) r0;have e1:u1=.string b:=RepD.str_inv (m:=m) r1;subst e0 e1;have hv:vals=#[.string a,.string b]:=by
  apply Array.ext_getElem?;intro i
  match i with
  | 0=>simpa using h0
  | 1=>simpa using h1
  | i+2=>rw[Array.getElem?_eq_none (by simp at hs;omega)];simp
 subst hv;refine (Zao a b w).mono ?_;rintro e w' ⟨rfl,rfl⟩;exact⟨_,m,fun _=>(none,0),rfl,Sub.refl _,fun _ _ _ _ h=>h,hm,Go.RowKit.Below.refl _ _,RepD.int _ _,⟨fun x hx=>by simp[RV.fr,RV1.fr,RC.fr] at hx,fun x hx=>by simp[RV.fr,RV1.fr,RC.fr] at hx⟩⟩
theorem Zef (a b:ByteArray):PSpec Tryz.prog 134 [.one (.d (.str a)),.one (.d (.str b))] (.one (.d (.int .i64 (cmpS a b)))):=by
 refine PSpec.of_vc Tryz.func134 rfl (by kernel_rfl) (n:=8) rfl rfl (by simp) ?_;simp;refine Z09 (Zfw a b) (by simp) ?_;simp;exact ret_d (by simp;rfl) rfl
def Z36 (a b:ByteArray):Option Int:=some (cmpS a b)
theorem Zc7 (a b:ByteArray) (r:Int) (hm:Is (Z36 a b) r):PSpec Tryz.prog 134 [.one (.d (.str a)),.one (.d (.str b))] (.one (.d (.int .i64 r))):=by
 obtain rfl:=r_ret hm;exact Zef a b
end
section
open Go Go.Am
theorem Zqm {P:Program} {B n:Nat} {t:TypeId} {ds:List D} (hu:P.underlying t=some (.int .i64)) (h:tyD P B n t ds):∃ v:Int,ds=encI v:=by
 cases n with
 | zero=>cases h
 | succ n=>simp only[tyD,hu] at h;obtain⟨v,h1,_⟩:=h;exact⟨v,h1⟩
theorem Zo2 {P:Program} {B n:Nat} {t:TypeId} {ds:List D} (hu:P.underlying t=some .bool) (h:tyD P B n t ds):∃ v:Bool,ds=encB v:=by
 cases n with
 | zero=>cases h
 | succ n=>simp only[tyD,hu] at h;exact h
theorem Zkb {P:Program} {B n:Nat} {t:TypeId} {ds:List D} (hu:P.underlying t=some .string) (h:tyD P B n t ds):∃ v:ByteArray,ds=encS v:=by
 cases n with
 | zero=>cases h
 | succ n=>simp only[tyD,hu] at h;exact h
theorem Z4e {P:Program} {B n:Nat} {t e:TypeId} {ds:List D} (hu:P.underlying t=some (.slice e)) (h:tyD P B n t ds):∃ m xs,ds=[.sl xs]∧xs.length≤B∧∀ x ∈ xs,tyD P B m e x:=by
 cases n with
 | zero=>cases h
 | succ n=>simp only[tyD,hu] at h;obtain⟨xs,h1,h2,h3⟩:=h;exact⟨n,xs,h1,h2,h3⟩
theorem Z3f {P:Program} {B n:Nat} {t:TypeId} {fs:Array Field} {ds:List D} (hu:P.underlying t=some (.struct fs)) (h:tyD P B n t ds):∃ m,tyFs (tyD P B m) fs.toList ds:=by
 cases n with
 | zero=>cases h
 | succ n=>simp only[tyD,hu] at h;exact⟨n,h⟩
theorem Z57 {α:Type} {enc:α→List D} {S:α→Prop}:∀ {xs:List (List D)},(∀ x ∈ xs,∃ v,x=enc v∧S v)→∃ vs:List α,xs=vs.map enc∧vs.length=xs.length∧∀ v ∈ vs,S v
 | [],_=>⟨[],rfl,rfl,by simp⟩
 | x::xs,h=>by
   obtain⟨v,h1,h2⟩:=h x (by simp);obtain⟨vs,h3,h4,h5⟩:=Z57 fun y hy=>h y (List.mem_cons_of_mem _ hy);exact⟨v::vs,by simp[h1,← h3],by simp[h4],by simpa using⟨h2,h5⟩⟩
theorem dec3 {B n:Nat} {ds:List D} (h:tyD Tryz.prog B n 3 ds):∃ v:Int,ds=encI v∧True:=by
 obtain⟨v,hv⟩:=Zqm Tryz.underlying3 h;exact⟨v,hv,trivial⟩
theorem dec9 {B n:Nat} {ds:List D} (h:tyD Tryz.prog B n 9 ds):∃ v:ByteArray,ds=encS v∧True:=by
 obtain⟨v,hv⟩:=Zkb Tryz.underlying9 h;exact⟨v,hv,trivial⟩
def bd46 (B:Nat) (x:GV):Prop:=True∧True∧True
theorem dec46 {B n:Nat} {ds:List D} (h:tyD Tryz.prog B n 46 ds):∃ v:GV,ds=v.enc∧bd46 B v:=by
 obtain⟨m,hm⟩:=Z3f Tryz.underlying46 h;obtain⟨a0,r0,e0,t0,hm⟩:=hm;obtain⟨v0,w0,b0⟩:=dec3 t0;obtain⟨a1,r1,e1,t1,hm⟩:=hm;obtain⟨v1,w1,b1⟩:=dec3 t1;obtain⟨a2,r2,e2,t2,hm⟩:=hm;obtain⟨v2,w2,b2⟩:=dec9 t2;have e3:r2=[]:=hm;subst w0 w1 w2;refine⟨⟨v0,v1,v2⟩,?_,b0,b1,b2⟩;rw[e0,e1,e2,e3];rfl
theorem dec4 {B n:Nat} {ds:List D} (h:tyD Tryz.prog B n 4 ds):∃ v:Bool,ds=encB v∧True:=by
 obtain⟨v,hv⟩:=Zo2 Tryz.underlying4 h;exact⟨v,hv,trivial⟩
def bd111 (B:Nat) (x:Col):Prop:=True∧True∧True
theorem dec111 {B n:Nat} {ds:List D} (h:tyD Tryz.prog B n 111 ds):∃ v:Col,ds=v.enc∧bd111 B v:=by
 obtain⟨m,hm⟩:=Z3f Tryz.underlying111 h;obtain⟨a0,r0,e0,t0,hm⟩:=hm;obtain⟨v0,w0,b0⟩:=dec9 t0;obtain⟨a1,r1,e1,t1,hm⟩:=hm;obtain⟨v1,w1,b1⟩:=dec3 t1;obtain⟨a2,r2,e2,t2,hm⟩:=hm;obtain⟨v2,w2,b2⟩:=dec4 t2;have e3:r2=[]:=hm;subst w0 w1 w2;refine⟨⟨v0,v1,v2⟩,?_,b0,b1,b2⟩;rw[e0,e1,e2,e3];rfl
def bd63 (B:Nat) (xs:List Col):Prop:=xs.length≤B∧∀ x ∈ xs,bd111 B x
theorem dec63 {B n:Nat} {ds:List D} (h:tyD Tryz.prog B n 63 ds):∃ v:List Col,ds=[.sl (v.map Col.enc)]∧bd63 B v:=by
 obtain⟨m,xs,rfl,hl,hx⟩:=Z4e Tryz.underlying63 h;obtain⟨vs,rfl,h1,h2⟩:=Z57 (enc:=Col.enc) (S:=fun x=>bd111 B x) fun x hx1=>dec111 (hx x hx1);exact⟨vs,rfl,by simpa using hl,h2⟩
def bd64 (B:Nat) (xs:List Int):Prop:=xs.length≤B∧∀ x ∈ xs,True
theorem dec64 {B n:Nat} {ds:List D} (h:tyD Tryz.prog B n 64 ds):∃ v:List Int,ds=[.sl (v.map encI)]∧bd64 B v:=by
 obtain⟨m,xs,rfl,hl,hx⟩:=Z4e Tryz.underlying64 h;obtain⟨vs,rfl,h1,h2⟩:=Z57 (enc:=encI) (S:=fun x=>True) fun x hx1=>dec3 (hx x hx1);exact⟨vs,rfl,by simpa using hl,h2⟩
def bd66 (B:Nat) (x:Tbl):Prop:=True∧bd63 B x.cols∧bd64 B x.pk
theorem dec66 {B n:Nat} {ds:List D} (h:tyD Tryz.prog B n 66 ds):∃ v:Tbl,ds=v.enc∧bd66 B v:=by
 obtain⟨m,hm⟩:=Z3f Tryz.underlying66 h;obtain⟨a0,r0,e0,t0,hm⟩:=hm;obtain⟨v0,w0,b0⟩:=dec9 t0;obtain⟨a1,r1,e1,t1,hm⟩:=hm;obtain⟨v1,w1,b1⟩:=dec63 t1;obtain⟨a2,r2,e2,t2,hm⟩:=hm;obtain⟨v2,w2,b2⟩:=dec64 t2;have e3:r2=[]:=hm;subst w0 w1 w2;refine⟨⟨v0,v1,v2⟩,?_,b0,b1,b2⟩;rw[e0,e1,e2,e3];rfl
def bd116 (B:Nat) (x:Fk):Prop:=True∧bd64 B x.cols∧True
theorem dec116 {B n:Nat} {ds:List D} (h:tyD Tryz.prog B n 116 ds):∃ v:Fk,ds=v.enc∧bd116 B v:=by
 obtain⟨m,hm⟩:=Z3f Tryz.underlying116 h;obtain⟨a0,r0,e0,t0,hm⟩:=hm;obtain⟨v0,w0,b0⟩:=dec9 t0;obtain⟨a1,r1,e1,t1,hm⟩:=hm;obtain⟨v1,w1,b1⟩:=dec64 t1;obtain⟨a2,r2,e2,t2,hm⟩:=hm;obtain⟨v2,w2,b2⟩:=dec9 t2;have e3:r2=[]:=hm;subst w0 w1 w2;refine⟨⟨v0,v1,v2⟩,?_,b0,b1,b2⟩;rw[e0,e1,e2,e3];rfl
def bd114 (B:Nat) (x:Cons):Prop:=True∧True∧True∧True∧bd46 B x.value
theorem dec114 {B n:Nat} {ds:List D} (h:tyD Tryz.prog B n 114 ds):∃ v:Cons,ds=v.enc∧bd114 B v:=by
 obtain⟨m,hm⟩:=Z3f Tryz.underlying114 h;obtain⟨a0,r0,e0,t0,hm⟩:=hm;obtain⟨v0,w0,b0⟩:=dec9 t0;obtain⟨a1,r1,e1,t1,hm⟩:=hm;obtain⟨v1,w1,b1⟩:=dec3 t1;obtain⟨a2,r2,e2,t2,hm⟩:=hm;obtain⟨v2,w2,b2⟩:=dec9 t2;obtain⟨a3,r3,e3,t3,hm⟩:=hm;obtain⟨v3,w3,b3⟩:=dec3 t3;obtain⟨a4,r4,e4,t4,hm⟩:=hm;obtain⟨v4,w4,b4⟩:=dec46 t4;have e5:r4=[]:=hm;subst w0 w1 w2 w3 w4;refine⟨⟨v0,v1,v2,v3,v4⟩,?_,b0,b1,b2,b3,b4⟩;rw[e0,e1,e2,e3,e4,e5];rfl
def bd28 (B:Nat) (xs:List Tbl):Prop:=xs.length≤B∧∀ x ∈ xs,bd66 B x
theorem dec28 {B n:Nat} {ds:List D} (h:tyD Tryz.prog B n 28 ds):∃ v:List Tbl,ds=[.sl (v.map Tbl.enc)]∧bd28 B v:=by
 obtain⟨m,xs,rfl,hl,hx⟩:=Z4e Tryz.underlying28 h;obtain⟨vs,rfl,h1,h2⟩:=Z57 (enc:=Tbl.enc) (S:=fun x=>bd66 B x) fun x hx1=>dec66 (hx x hx1);exact⟨vs,rfl,by simpa using hl,h2⟩
def bd29 (B:Nat) (xs:List Fk):Prop:=xs.length≤B∧∀ x ∈ xs,bd116 B x
theorem dec29 {B n:Nat} {ds:List D} (h:tyD Tryz.prog B n 29 ds):∃ v:List Fk,ds=[.sl (v.map Fk.enc)]∧bd29 B v:=by
 obtain⟨m,xs,rfl,hl,hx⟩:=Z4e Tryz.underlying29 h;obtain⟨vs,rfl,h1,h2⟩:=Z57 (enc:=Fk.enc) (S:=fun x=>bd116 B x) fun x hx1=>dec116 (hx x hx1);exact⟨vs,rfl,by simpa using hl,h2⟩
def bd30 (B:Nat) (xs:List Cons):Prop:=xs.length≤B∧∀ x ∈ xs,bd114 B x
theorem dec30 {B n:Nat} {ds:List D} (h:tyD Tryz.prog B n 30 ds):∃ v:List Cons,ds=[.sl (v.map Cons.enc)]∧bd30 B v:=by
 obtain⟨m,xs,rfl,hl,hx⟩:=Z4e Tryz.underlying30 h;obtain⟨vs,rfl,h1,h2⟩:=Z57 (enc:=Cons.enc) (S:=fun x=>bd114 B x) fun x hx1=>dec114 (hx x hx1);exact⟨vs,rfl,by simpa using hl,h2⟩
def bd32 (B:Nat) (x:Sch):Prop:=bd28 B x.tables∧bd29 B x.fks∧bd30 B x.cons
theorem dec32 {B n:Nat} {ds:List D} (h:tyD Tryz.prog B n 32 ds):∃ v:Sch,ds=v.enc∧bd32 B v:=by
 obtain⟨m,hm⟩:=Z3f Tryz.underlying32 h;obtain⟨a0,r0,e0,t0,hm⟩:=hm;obtain⟨v0,w0,b0⟩:=dec28 t0;obtain⟨a1,r1,e1,t1,hm⟩:=hm;obtain⟨v1,w1,b1⟩:=dec29 t1;obtain⟨a2,r2,e2,t2,hm⟩:=hm;obtain⟨v2,w2,b2⟩:=dec30 t2;have e3:r2=[]:=hm;subst w0 w1 w2;refine⟨⟨v0,v1,v2⟩,?_,b0,b1,b2⟩;rw[e0,e1,e2,e3];rfl
def bd118 (B:Nat) (x:Stp):Prop:=True∧True∧True∧True∧True∧True∧bd64 B x.cols∧True∧bd46 B x.value∧bd66 B x.newTable∧bd114 B x.cons∧bd116 B x.fk
theorem dec118 {B n:Nat} {ds:List D} (h:tyD Tryz.prog B n 118 ds):∃ v:Stp,ds=v.enc∧bd118 B v:=by
 obtain⟨m,hm⟩:=Z3f Tryz.underlying118 h;obtain⟨a0,r0,e0,t0,hm⟩:=hm;obtain⟨v0,w0,b0⟩:=dec3 t0;obtain⟨a1,r1,e1,t1,hm⟩:=hm;obtain⟨v1,w1,b1⟩:=dec9 t1;obtain⟨a2,r2,e2,t2,hm⟩:=hm;obtain⟨v2,w2,b2⟩:=dec9 t2;obtain⟨a3,r3,e3,t3,hm⟩:=hm;obtain⟨v3,w3,b3⟩:=dec9 t3;obtain⟨a4,r4,e4,t4,hm⟩:=hm;obtain⟨v4,w4,b4⟩:=dec9 t4;obtain⟨a5,r5,e5,t5,hm⟩:=hm;obtain⟨v5,w5,b5⟩:=dec3 t5;obtain⟨a6,r6,e6,t6,hm⟩:=hm;obtain⟨v6,w6,b6⟩:=dec64 t6;obtain⟨a7,r7,e7,t7,hm⟩:=hm;obtain⟨v7,w7,b7⟩:=dec9 t7;obtain⟨a8,r8,e8,t8,hm⟩:=hm;obtain⟨v8,w8,b8⟩:=dec46 t8;obtain⟨a9,r9,e9,t9,hm⟩:=hm;obtain⟨v9,w9,b9⟩:=dec66 t9;obtain⟨a10,r10,e10,t10,hm⟩:=hm;obtain⟨v10,w10,b10⟩:=dec114 t10;obtain⟨a11,r11,e11,t11,hm⟩:=hm;obtain⟨v11,w11,b11⟩:=dec116 t11;have e12:r11=[]:=hm;subst w0 w1 w2 w3 w4 w5 w6 w7 w8 w9 w10 w11;refine⟨⟨v0,v1,v2,v3,v4,v5,v6,v7,v8,v9,v10,v11⟩,?_,b0,b1,b2,b3,b4,b5,b6,b7,b8,b9,b10,b11⟩;rw[e0,e1,e2,e3,e4,e5,e6,e7,e8,e9,e10,e11,e12];rfl
def bd120 (B:Nat) (xs:List Stp):Prop:=xs.length≤B∧∀ x ∈ xs,bd118 B x
theorem dec120 {B n:Nat} {ds:List D} (h:tyD Tryz.prog B n 120 ds):∃ v:List Stp,ds=[.sl (v.map Stp.enc)]∧bd120 B v:=by
 obtain⟨m,xs,rfl,hl,hx⟩:=Z4e Tryz.underlying120 h;obtain⟨vs,rfl,h1,h2⟩:=Z57 (enc:=Stp.enc) (S:=fun x=>bd118 B x) fun x hx1=>dec118 (hx x hx1);exact⟨vs,rfl,by simpa using hl,h2⟩
def bd122 (B:Nat) (x:Edg):Prop:=True∧bd120 B x.script
theorem dec122 {B n:Nat} {ds:List D} (h:tyD Tryz.prog B n 122 ds):∃ v:Edg,ds=v.enc∧bd122 B v:=by
 obtain⟨m,hm⟩:=Z3f Tryz.underlying122 h;obtain⟨a0,r0,e0,t0,hm⟩:=hm;obtain⟨v0,w0,b0⟩:=dec3 t0;obtain⟨a1,r1,e1,t1,hm⟩:=hm;obtain⟨v1,w1,b1⟩:=dec120 t1;have e2:r1=[]:=hm;subst w0 w1;refine⟨⟨v0,v1⟩,?_,b0,b1⟩;rw[e0,e1,e2];rfl
def bd33 (B:Nat) (xs:List Edg):Prop:=xs.length≤B∧∀ x ∈ xs,bd122 B x
theorem dec33 {B n:Nat} {ds:List D} (h:tyD Tryz.prog B n 33 ds):∃ v:List Edg,ds=[.sl (v.map Edg.enc)]∧bd33 B v:=by
 obtain⟨m,xs,rfl,hl,hx⟩:=Z4e Tryz.underlying33 h;obtain⟨vs,rfl,h1,h2⟩:=Z57 (enc:=Edg.enc) (S:=fun x=>bd122 B x) fun x hx1=>dec122 (hx x hx1);exact⟨vs,rfl,by simpa using hl,h2⟩
def bd35 (B:Nat) (x:Gr):Prop:=bd32 B x.base∧bd33 B x.edges
theorem dec35 {B n:Nat} {ds:List D} (h:tyD Tryz.prog B n 35 ds):∃ v:Gr,ds=v.enc∧bd35 B v:=by
 obtain⟨m,hm⟩:=Z3f Tryz.underlying35 h;obtain⟨a0,r0,e0,t0,hm⟩:=hm;obtain⟨v0,w0,b0⟩:=dec32 t0;obtain⟨a1,r1,e1,t1,hm⟩:=hm;obtain⟨v1,w1,b1⟩:=dec33 t1;have e2:r1=[]:=hm;subst w0 w1;refine⟨⟨v0,v1⟩,?_,b0,b1⟩;rw[e0,e1,e2];rfl
def bd44 (B:Nat) (xs:List GV):Prop:=xs.length≤B∧∀ x ∈ xs,bd46 B x
theorem dec44 {B n:Nat} {ds:List D} (h:tyD Tryz.prog B n 44 ds):∃ v:List GV,ds=[.sl (v.map GV.enc)]∧bd44 B v:=by
 obtain⟨m,xs,rfl,hl,hx⟩:=Z4e Tryz.underlying44 h;obtain⟨vs,rfl,h1,h2⟩:=Z57 (enc:=GV.enc) (S:=fun x=>bd46 B x) fun x hx1=>dec46 (hx x hx1);exact⟨vs,rfl,by simpa using hl,h2⟩
def bd40 (B:Nat) (xs:List (List GV)):Prop:=xs.length≤B∧∀ x ∈ xs,bd44 B x
theorem dec40 {B n:Nat} {ds:List D} (h:tyD Tryz.prog B n 40 ds):∃ v:List (List GV),ds=[.sl (v.map (encL GV.enc))]∧bd40 B v:=by
 obtain⟨m,xs,rfl,hl,hx⟩:=Z4e Tryz.underlying40 h;obtain⟨vs,rfl,h1,h2⟩:=Z57 (enc:=(encL GV.enc)) (S:=fun x=>bd44 B x) fun x hx1=>dec44 (hx x hx1);exact⟨vs,rfl,by simpa using hl,h2⟩
def bd42 (B:Nat) (x:Rel):Prop:=True∧bd40 B x.rows
theorem dec42 {B n:Nat} {ds:List D} (h:tyD Tryz.prog B n 42 ds):∃ v:Rel,ds=v.enc∧bd42 B v:=by
 obtain⟨m,hm⟩:=Z3f Tryz.underlying42 h;obtain⟨a0,r0,e0,t0,hm⟩:=hm;obtain⟨v0,w0,b0⟩:=dec9 t0;obtain⟨a1,r1,e1,t1,hm⟩:=hm;obtain⟨v1,w1,b1⟩:=dec40 t1;have e2:r1=[]:=hm;subst w0 w1;refine⟨⟨v0,v1⟩,?_,b0,b1⟩;rw[e0,e1,e2];rfl
def bd54 (B:Nat) (x:Chg):Prop:=True∧True∧bd44 B x.key∧bd44 B x.row
theorem dec54 {B n:Nat} {ds:List D} (h:tyD Tryz.prog B n 54 ds):∃ v:Chg,ds=v.enc∧bd54 B v:=by
 obtain⟨m,hm⟩:=Z3f Tryz.underlying54 h;obtain⟨a0,r0,e0,t0,hm⟩:=hm;obtain⟨v0,w0,b0⟩:=dec3 t0;obtain⟨a1,r1,e1,t1,hm⟩:=hm;obtain⟨v1,w1,b1⟩:=dec9 t1;obtain⟨a2,r2,e2,t2,hm⟩:=hm;obtain⟨v2,w2,b2⟩:=dec44 t2;obtain⟨a3,r3,e3,t3,hm⟩:=hm;obtain⟨v3,w3,b3⟩:=dec44 t3;have e4:r3=[]:=hm;subst w0 w1 w2 w3;refine⟨⟨v0,v1,v2,v3⟩,?_,b0,b1,b2,b3⟩;rw[e0,e1,e2,e3,e4];rfl
def bd39 (B:Nat) (xs:List Rel):Prop:=xs.length≤B∧∀ x ∈ xs,bd42 B x
theorem dec39 {B n:Nat} {ds:List D} (h:tyD Tryz.prog B n 39 ds):∃ v:List Rel,ds=[.sl (v.map Rel.enc)]∧bd39 B v:=by
 obtain⟨m,xs,rfl,hl,hx⟩:=Z4e Tryz.underlying39 h;obtain⟨vs,rfl,h1,h2⟩:=Z57 (enc:=Rel.enc) (S:=fun x=>bd42 B x) fun x hx1=>dec42 (hx x hx1);exact⟨vs,rfl,by simpa using hl,h2⟩
def bd49 (B:Nat) (xs:List ByteArray):Prop:=xs.length≤B∧∀ x ∈ xs,True
theorem dec49 {B n:Nat} {ds:List D} (h:tyD Tryz.prog B n 49 ds):∃ v:List ByteArray,ds=[.sl (v.map encS)]∧bd49 B v:=by
 obtain⟨m,xs,rfl,hl,hx⟩:=Z4e Tryz.underlying49 h;obtain⟨vs,rfl,h1,h2⟩:=Z57 (enc:=encS) (S:=fun x=>True) fun x hx1=>dec9 (hx x hx1);exact⟨vs,rfl,by simpa using hl,h2⟩
def bd50 (B:Nat) (xs:List Chg):Prop:=xs.length≤B∧∀ x ∈ xs,bd54 B x
theorem dec50 {B n:Nat} {ds:List D} (h:tyD Tryz.prog B n 50 ds):∃ v:List Chg,ds=[.sl (v.map Chg.enc)]∧bd50 B v:=by
 obtain⟨m,xs,rfl,hl,hx⟩:=Z4e Tryz.underlying50 h;obtain⟨vs,rfl,h1,h2⟩:=Z57 (enc:=Chg.enc) (S:=fun x=>bd54 B x) fun x hx1=>dec54 (hx x hx1);exact⟨vs,rfl,by simpa using hl,h2⟩
def bd52 (B:Nat) (x:Txn):Prop:=True∧bd39 B x.snapshot∧bd49 B x.tables∧bd50 B x.changes
theorem dec52 {B n:Nat} {ds:List D} (h:tyD Tryz.prog B n 52 ds):∃ v:Txn,ds=v.enc∧bd52 B v:=by
 obtain⟨m,hm⟩:=Z3f Tryz.underlying52 h;obtain⟨a0,r0,e0,t0,hm⟩:=hm;obtain⟨v0,w0,b0⟩:=dec3 t0;obtain⟨a1,r1,e1,t1,hm⟩:=hm;obtain⟨v1,w1,b1⟩:=dec39 t1;obtain⟨a2,r2,e2,t2,hm⟩:=hm;obtain⟨v2,w2,b2⟩:=dec49 t2;obtain⟨a3,r3,e3,t3,hm⟩:=hm;obtain⟨v3,w3,b3⟩:=dec50 t3;have e4:r3=[]:=hm;subst w0 w1 w2 w3;refine⟨⟨v0,v1,v2,v3⟩,?_,b0,b1,b2,b3⟩;rw[e0,e1,e2,e3,e4];rfl
theorem Z7z {P:Program} {w:World}:∀ {l:List (String × DataW Unit)} {ps:List MemPlace},DataW.LaidVars P w l ps→∀ n d,(n,d) ∈ l →
  ∃ g t cs fuel p,P.globalNamed n=some g∧(P.globals[g]?).map (·.type)=some t∧w.var? P n=some cs∧DataW.trod (fun _=>()) P w 0 (fun _=>true) false fuel t cs.toList=some (d,p)
 | [],_,_,_,_,hm=>by cases hm
 | (n',d')::r,ps,h,n,d,hm=>by
   obtain⟨g,t,cs,fuel,p,q,h1,h2,h3,h4,h5,_⟩:=h;rcases List.mem_cons.1 hm with e | e
   ·cases e;exact⟨g,t,cs,fuel,p,h1,h2,h3,h4⟩
   ·exact Z7z h5 n d e
theorem Zaw {P:Program} {w:World} {n:String} {g:Nat} {cs:Array Value} (hg:P.globalNamed n=some g) (h:w.var? P n=some cs):∃ T l,w.heap[g]?=some (.cells cs T l):=by
 unfold World.var? at h;rw[hg] at h;simp only[Option.bind_some] at h;split at h
 ·cases h;exact⟨_,_,by assumption⟩
 ·cases h
theorem Zez {w:World} {g:Nat} {v:Value} {T:TypeId} {l:Nat × Nat} {cs:Array Value} (h:w.heap[g]?=some (.cells cs T l)) (hc:cs.toList=[v]):w.cell? ⟨g,0,none⟩=some v:=by
 have:cs[0]?=some v:=by rw[← Array.getElem?_toList,hc];rfl
 unfold World.cell?;simp[h,this]
theorem Zac {α:Type} {x:Option α} {a b:α} (h:x=some a) (k:x=some b):b=a:=Option.some.inj (k.symm.trans h)
theorem gok_of {W:World} {l:List (String × DataW Unit)} (hl:l=Rows.databaseCloneIsIndependentUptoRow.laid) (hL:laidMetH Tryz.prog l W) (hsh:W.ShapedOpen Tryz.prog):GOK W:=by
 subst hl;rw[MakeChecks.laidMetH_plain _ _ _ (by kernel_rfl)] at hL;obtain⟨_,hv,_⟩:=hL;obtain⟨ga,ta,ca,_,_,a1,_,a3,_⟩:=Z7z hv _ _ (.tail _ (.head _));obtain rfl:=Zac (a:=3) (by kernel_rfl) a1;obtain⟨Ta,la,a5⟩:=Zaw a1 a3;obtain⟨gb,tb,cb,fb,pb,b1,b2,b3,b4⟩:=Z7z hv _ _ (.tail _ (.tail _ (.head _)));obtain rfl:=Zac (a:=1) (by kernel_rfl) b1;obtain rfl:=Zac (a:=322) (by kernel_rfl) b2;obtain⟨Tb,lb,b5⟩:=Zaw b1 b3;have hb:=Lib.cells_of_tab (zs:=Lib.pow10Tab) Tryz.underlying322 Tryz.underlying198 (by kernel_rfl) (by kernel_rfl) b4;obtain⟨gc,tc,cc,fc,pc,c1,c2,c3,c4⟩:=Z7z hv _ _ (.tail _ (.tail _ (.tail _ (.tail _ (.head _)))));obtain rfl:=Zac (a:=4) (by kernel_rfl) c1;obtain rfl:=Zac (a:=327) (by kernel_rfl) c2;obtain⟨Tc,lc,c5⟩:=Zaw c1 c3;obtain⟨_,uc,vc,hc,_⟩:=iface_of_trod Tryz.underlying327 c4;obtain⟨gd,td,cd,fd,pd,d1,d2,d3,d4⟩:=Z7z hv _ _ (.tail _ (.tail _ (.tail _ (.head _))));obtain rfl:=Zac (a:=5) (by kernel_rfl) d1;obtain rfl:=Zac (a:=327) (by kernel_rfl) d2;obtain⟨Td,ld,d5⟩:=Zaw d1 d3;obtain⟨_,ud,vd,hd,_⟩:=iface_of_trod Tryz.underlying327 d4;obtain⟨m,hm⟩:=cell_of_shapedOpen_int (P:=Tryz.prog) (g:=0) (t:=3) (zero:=#[.int .i64 0]) hsh (of_decide_eq_true (by kernel_rfl)) (by kernel_rfl) rfl (by kernel_rfl) (by kernel_rfl) Tryz.underlying3;have hsz:6≤W.heap.size:=by
  have:=(Array.getElem?_eq_some_iff.1 a5).1
  have:=(Array.getElem?_eq_some_iff.1 c5).1
  have:=(Array.getElem?_eq_some_iff.1 d5).1
  omega
 refine⟨hsz,⟨Tb,lb,?_⟩,⟨uc,vc,Zez c5 hc⟩,⟨ud,vd,Zez d5 hd⟩,⟨m,hm⟩⟩;rw[b5,← hb]
end
end Go.Proofs.YthiojhcimecdgaaGreatDoor
namespace Go.Am
section
open Go
def rowBox (xs:List (List C)) (sp:List C):List C:=xs.flatten++sp
def AllC (n:Nat) (xs:List (List C)):Prop:=∀ x ∈ xs,x.length=n
theorem AllC.nil {n:Nat}:AllC n []:=by simp[AllC]
theorem AllC.cons {n:Nat} {x:List C} {xs:List (List C)}:AllC n (x::xs)↔x.length=n∧AllC n xs:=by simp[AllC]
theorem AllC.append {n:Nat} {xs ys:List (List C)}:AllC n (xs++ys)↔AllC n xs∧AllC n ys:=by
 simp only[AllC,List.mem_append];exact⟨fun h=>⟨fun y hy=>h y (.inl hy),fun y hy=>h y (.inr hy)⟩,fun h y hy=>hy.elim (h.1 y) (h.2 y)⟩
theorem AllC.take {n k:Nat} {xs:List (List C)} (h:AllC n xs):AllC n (xs.take k):=fun x hx=>h x (List.mem_of_mem_take hx)
theorem AllC.drop {n k:Nat} {xs:List (List C)} (h:AllC n xs):AllC n (xs.drop k):=fun x hx=>h x (List.mem_of_mem_drop hx)
theorem AllC.set {n k:Nat} {xs:List (List C)} {x:List C} (h:AllC n xs) (hx:x.length=n):AllC n (xs.set k x):=fun y hy=>by
 rcases List.mem_or_eq_of_mem_set hy with h1 | rfl
 ·exact h y h1
 ·exact hx
theorem AllC.get {n k:Nat} {xs:List (List C)} {x:List C} (h:AllC n xs) (hx:xs[k]?=some x):x.length=n:=h x (List.mem_of_getElem? hx)
theorem AllC.flatten {n:Nat}:∀ {xs:List (List C)},AllC n xs→xs.flatten.length=xs.length * n
 | [],_=>by simp
 | x::xs,h=>by
   obtain⟨h1,h2⟩:=AllC.cons.1 h;simp[AllC.flatten h2,h1,Nat.add_mul];omega
theorem Z04 {n:Nat} {xs:List (List C)} {sp:List C} (h:AllC n xs):(rowBox xs sp).length=xs.length * n+sp.length:=by simp[rowBox,h.flatten]
theorem Z5q {n:Nat}:∀ {k:Nat} {xs:List (List C)} {sp:List C},AllC n xs→k≤xs.length→(rowBox xs sp).drop (k * n)=rowBox (xs.drop k) sp
 | 0,xs,sp,_,_=>by simp
 | k+1,[],sp,_,hk=>by simp at hk
 | k+1,x::xs,sp,h,hk=>by
   obtain⟨h1,h2⟩:=AllC.cons.1 h;have e:(k+1) * n=x.length+k * n:=by rw[h1,Nat.add_mul];omega
   rw[e];simp only[rowBox,List.flatten_cons,List.append_assoc,List.drop_append_of_le_length,List.drop_succ_cons];rw[← List.drop_drop,List.drop_left];exact Z5q (xs:=xs) (sp:=sp) h2 (by simpa using hk)
theorem Z6f {n:Nat}:∀ {k:Nat} {xs:List (List C)} {sp:List C},AllC n xs→k≤xs.length→(rowBox xs sp).take (k * n)=(xs.take k).flatten
 | 0,xs,sp,_,_=>by simp
 | k+1,[],sp,_,hk=>by simp at hk
 | k+1,x::xs,sp,h,hk=>by
   obtain⟨h1,h2⟩:=AllC.cons.1 h;have e:(k+1) * n=x.length+k * n:=by rw[h1,Nat.add_mul];omega
   rw[e];simp only[rowBox,List.flatten_cons,List.append_assoc,List.take_succ_cons];rw[List.take_length_add_append]
   congr 1
   exact Z6f (xs:=xs) (sp:=sp) h2 (by simpa using hk)
theorem Zcv {n k f:Nat} {xs:List (List C)} {sp x:List C} (h:AllC n xs) (hx:xs[k]?=some x) (hf:f≤n):(rowBox xs sp).drop (k * n+f)=x.drop f++rowBox (xs.drop (k+1)) sp:=by
 have hk:=(List.getElem?_eq_some_iff.1 hx).1;have hxl:=h.get hx;rw[← List.drop_drop,Z5q h (by omega),List.drop_eq_getElem_cons hk]
 have:xs[k]=x:=(List.getElem?_eq_some_iff.1 hx).2
 rw[this];simp only[rowBox,List.flatten_cons,List.append_assoc];rw[List.drop_append_of_le_length (by omega)]
theorem Z5j {n k f m:Nat} {xs:List (List C)} {sp x:List C} (h:AllC n xs) (hx:xs[k]?=some x) (hf:f+m≤n):takeN m ((rowBox xs sp).drop (k * n+f))=takeN m (x.drop f):=by
 have hxl:=h.get hx;rw[Zcv h hx (by omega)];have h1:m≤(x.drop f).length:=by simp;omega
 simp only[takeN,h1,if_true,List.length_append];rw[if_pos (by omega),List.take_append_of_le_length h1]
theorem Zad {n k:Nat} {xs:List (List C)} {sp x:List C} (h:AllC n xs) (hx:xs[k]?=some x):takeN n ((rowBox xs sp).drop (k * n))=some x:=by
 have h1:=Z5j (sp:=sp) (f:=0) (m:=n) h hx (by omega);simp only[Nat.add_zero,List.drop_zero] at h1;rw[h1,← h.get hx];simp[takeN]
theorem Z88 {α:Type} {xs:List α} {a:Nat} {x:α} (h:a < xs.length):(xs.set a x).take (a+1)=xs.take a++[x]:=by
 rw[List.take_succ_eq_append_getElem (by simpa using h),List.getElem_set_self,List.take_set_of_le (Nat.le_refl a)]
theorem Z6o {n k:Nat} {xs:List (List C)} {sp:List C} (h:AllC n xs) (hk:k < xs.length):k * n+n≤(rowBox xs sp).length:=by
 rw[Z04 h]
 have:(k+1) * n≤xs.length * n:=Nat.mul_le_mul_right n (by omega)
 rw[Nat.add_mul] at this;omega
theorem Z60 {n k f:Nat} {xs:List (List C)} {sp x vs:List C} (h:AllC n xs) (hx:xs[k]?=some x) (hf:f+vs.length≤n):Z03 (rowBox xs sp) (k * n+f) vs=rowBox (xs.set k (Z03 x f vs)) sp:=by
 have hk:=(List.getElem?_eq_some_iff.1 hx).1;have hxl:=h.get hx;have e1:(rowBox xs sp).take (k * n+f)=(xs.take k).flatten++x.take f:=by
  rw[List.take_add,Z6f h (by omega),Z5q h (by omega),List.drop_eq_getElem_cons hk]
  have:xs[k]=x:=(List.getElem?_eq_some_iff.1 hx).2
  rw[this];simp only[rowBox,List.flatten_cons,List.append_assoc];rw[List.take_append_of_le_length (by omega)]
 have e2:(rowBox xs sp).drop (k * n+f+vs.length)=x.drop (f+vs.length)++rowBox (xs.drop (k+1)) sp:=by
  rw[Nat.add_assoc,Zcv h hx (by omega)]
 have e3:xs.set k (Z03 x f vs)=xs.take k++Z03 x f vs::xs.drop (k+1):=List.set_eq_take_append_cons_drop.trans (by rw[if_pos hk]);rw[Z03,e1,e2,e3];simp[rowBox,Z03]
def MR (h:HS) (n:Nat) (c:C) (xs:List (List C)):Prop:=
 AllC n xs∧xs.length≤LIM∧((xs=[]∧(c=.nil∨c=.z))∨∃ l cap sp,c=.mrow l 0 xs.length cap∧h.box l=some (rowBox xs sp)∧(rowBox xs sp).length=cap * n)
def labs:C→List Lab
 | .mrow l _ _ _=>[l]
 | _=>[]
theorem MR.frame {h h':HS} {n:Nat} {c:C} {xs:List (List C)} (m:MR h n c xs) (hb:∀ l ∈ labs c,h'.box l=h.box l):MR h' n c xs:=by
 refine⟨m.1,m.2.1,?_⟩;rcases m.2.2 with h1 | ⟨l,cap,sp,h1,h2,h3⟩
 ·exact .inl h1
 ·exact .inr ⟨l,cap,sp,h1,by rw[hb l (by simp[h1,labs])];exact h2,h3⟩
theorem MR.nil {h:HS} {n:Nat}:MR h n .nil []:=⟨AllC.nil,by simp,.inl ⟨rfl,.inl rfl⟩⟩
theorem MR.z {h:HS} {n:Nat}:MR h n .z []:=⟨AllC.nil,by simp,.inl ⟨rfl,.inr rfl⟩⟩
theorem MR.block {h:HS} {n:Nat} {c:C} {xs:List (List C)} (m:MR h n c xs) (h0:0 < xs.length):∃ l cap sp,c=.mrow l 0 xs.length cap∧h.box l=some (rowBox xs sp)∧(rowBox xs sp).length=cap * n:=by
 rcases m.2.2 with h1 | h1
 ·rw[h1.1] at h0;simp at h0
 ·exact h1
theorem Z4f {n off k:Nat} {h:HS} {l:Lab} {xs:List (List C)} {sp:List C} {cap:Nat} (h0:AllC n xs) (hb:h.box l=some (rowBox xs sp)) (hk:off+k≤xs.length):Z0i h n (.mrow l (off * n) k cap)=some (((xs.drop off).take k).flatten):=by
 simp only[Z0i,hb];rw[Z5q h0 (by omega)];have h1:=Z6f (n:=n) (k:=k) (xs:=xs.drop off) (sp:=sp) h0.drop (by simp;omega);have h2:k * n≤(rowBox (xs.drop off) sp).length:=by
  rw[Z04 h0.drop]
  have:k * n≤(xs.drop off).length * n:=Nat.mul_le_mul_right n (by simp;omega)
  omega
 simp only[takeN,h2,if_true,h1]
theorem Zbr {n i:Nat} {xs ys:List (List C)} {sp:List C} (h0:AllC n xs) (h1:AllC n ys) (hi:i≤xs.length):Z03 (rowBox xs sp) (i * n) ys.flatten=rowBox (xs.take i++ys) ((rowBox xs sp).drop ((i+ys.length) * n)):=by
 rw[Z03,Z6f h0 hi,h1.flatten,← Nat.add_mul];simp[rowBox]
theorem Z46 {n:Nat} {xs:List (List C)} {sp vs:List C} (h0:AllC n xs):Z03 (rowBox xs sp) (xs.length * n) vs=rowBox xs (Z03 sp 0 vs):=by
 have e1:(rowBox xs sp).take (xs.length * n)=xs.flatten:=by rw[Z6f h0 (Nat.le_refl _)];simp
 have e2:(rowBox xs sp).drop (xs.length * n+vs.length)=sp.drop vs.length:=by
  rw[← List.drop_drop,Z5q h0 (Nat.le_refl _)];simp[rowBox]
 rw[Z03,e1,e2];simp[rowBox,Z03]
theorem Z06 {cs vs:List C} {o:Nat} (h:o+vs.length≤cs.length):(Z03 cs o vs).length=cs.length:=by
 simp[Z03];omega
theorem Z2g {P:Program} {ty el:TypeId} {n by_:Nat} {l:Lab} {off k cap:Nat} {h:HS} {cs z:List C} {f:V→HS→Prop} (hel:elT P ty=some (el,n,by_)) (hz:zeT P el=some z) (hb:h.box l=some cs) (h0:0 < n) (hle:off+k * n≤cs.length)
  (hk:f .top (h.setBox l (Z03 cs off (List.replicate k z).flatten))):clearK P ty (.mrow l off k cap) h (K:=⟨f⟩):=by
 unfold clearK Z8w;simp only[hel,hz,hb];exact⟨⟨h0,hle⟩,hk⟩
def Same (h h':HS) (ls:List Lab):Prop:=h.ep≤h'.ep∧∀ k:Lab,k.1 < h.ep→k ∉ ls→h'.box k=h.box k
theorem Same.refl {h:HS} {ls:List Lab}:Same h h ls:=⟨Nat.le_refl _,fun _ _ _=>rfl⟩
theorem Same.trans {h h1 h2:HS} {ls:List Lab} (a:Same h h1 ls) (b:Same h1 h2 ls):Same h h2 ls:=⟨Nat.le_trans a.1 b.1,fun k hk hn=>(b.2 k (by have:=a.1;omega) hn).trans (a.2 k hk hn)⟩
theorem Same.next {h h':HS} {ls:List Lab} (a:Same h h' ls):Same h h'.next ls:=⟨by have:=a.1;simp;omega,fun k hk hn=>a.2 k hk hn⟩
theorem Same.setArr {h h':HS} {ls:List Lab} {l:Lab} {x:Option (Nat × Nat)} (a:Same h h' ls):Same h (h'.setArr l x) ls:=⟨by simpa using a.1,fun k hk hn=>a.2 k hk hn⟩
theorem Same.setBox {h h':HS} {ls:List Lab} {l:Lab} {cs:List C} (a:Same h h' ls) (hl:l ∈ ls∨h.ep≤l.1):Same h (h'.setBox l cs) ls:=⟨by simpa using a.1,fun k hk hn=>by
 have:k≠l:=by
  rintro rfl;rcases hl with hl | hl
  ·exact hn hl
  ·omega
 simp[this,a.2 k hk hn]⟩
def keep (p:List D→Bool):List (List C)→List (List D)→List (List C)
 | x::xs,t::ts=>if p t then keep p xs ts else x::keep p xs ts
 | _,_=>[]
theorem AllC.keep {n:Nat} {p:List D→Bool}:∀ {xs:List (List C)} {ts:List (List D)},AllC n xs→AllC n (keep p xs ts)
 | [],_,_=>by simp[Go.Am.keep,AllC]
 | _::_,[],_=>by simp[Go.Am.keep,AllC]
 | x::xs,t::ts,h=>by
   obtain⟨h1,h2⟩:=AllC.cons.1 h;unfold Go.Am.keep;split
   ·exact AllC.keep h2
   ·exact AllC.cons.2 ⟨h1,AllC.keep h2⟩
theorem Z78 {p:List D→Bool}:∀ {j:Nat} {xs:List (List C)} {ts:List (List D)} {x:List C} {t:List D},xs[j]?=some x→ts[j]?=some t →
  keep p (xs.take (j+1)) (ts.take (j+1))=if p t then keep p (xs.take j) (ts.take j) else keep p (xs.take j) (ts.take j)++[x]
 | 0,x::xs,t::ts,_,_,hx,ht=>by
   simp at hx ht;subst hx ht;simp[keep]
 | j+1,x::xs,t::ts,y,u,hx,ht=>by
   have ih:=Z78 (p:=p) (j:=j) (xs:=xs) (ts:=ts) (x:=y) (t:=u) (by simpa using hx) (by simpa using ht);simp only[List.take_succ_cons,keep] at ih ⊢;rw[ih]
   split<;>split<;>rfl
 | _,[],_,_,_,hx,_=>by simp at hx
 | _,_::_,[],_,_,_,ht=>by simp at ht
theorem Zfj {p:List D→Bool}:∀ {xs:List (List C)} {ts:List (List D)},(keep p xs ts).length≤xs.length
 | [],_=>by simp[keep]
 | _::_,[]=>by simp[keep]
 | x::xs,t::ts=>by
   unfold keep
   have:=Zfj (p:=p) (xs:=xs) (ts:=ts)
   split<;>simp<;>omega
theorem Z8e {p:List D→Bool}:∀ {xs:List (List C)} {ts:List (List D)},xs.length=ts.length→(∀ t ∈ ts,p t=false)→keep p xs ts=xs
 | [],_,_,_=>by simp[keep]
 | _::_,[],h,_=>by simp at h
 | x::xs,t::ts,h,hp=>by
   unfold keep;rw[hp t (by simp),Z8e (by simpa using h) (fun u hu=>hp u (by simp[hu]))];simp
theorem MR.frz {h:HS} {n:Nat} {c:C} {xs:List (List C)} {ts:List (List D)} (m:MR h n c xs) (hl:xs.length=ts.length) (ht:∀ t ∈ ts,t.length=n) (hf:∀ (i:Nat) (x:List C) (t:List D),xs[i]?=some x→ts[i]?=some t→FrzCs h x t):Frz h c (.sl ts):=by
 rcases m.2.2 with ⟨h1,h2⟩ | ⟨l,cap,sp,rfl,hb,hcap⟩
 ·subst h1
  have:ts=[]:=List.eq_nil_of_length_eq_zero (by simpa using hl.symm)
  subst this;rcases h2 with rfl | rfl
  ·exact .data rfl
  ·exact .data rfl
 ·rw[hl];refine Frz.mrow (es:=n) (f:=fun i j=>((xs[i]?).getD [])[j]?.getD .nil) hb (by rw[← hl];exact m.2.1) ht (fun i t hi j d hd=>?_) (fun i t hi j d hd=>?_)
  ·have hlt:i < xs.length:=by rw[hl];exact (List.getElem?_eq_some_iff.1 hi).1
   have hx:xs[i]?=some xs[i]:=List.getElem?_eq_getElem hlt;have hj:j < n:=by rw[← ht t (List.mem_of_getElem? hi)];exact (List.getElem?_eq_some_iff.1 hd).1
   have hxl:=m.1.get hx
   have:=Zcv (sp:=sp) m.1 hx (f:=j) (by omega)
   have h2:((rowBox xs sp).drop (i * n+j))[0]?=xs[i][j]?:=by
    rw[this,List.getElem?_append_left (by simp;omega)];simp
   simp only[List.getElem?_drop,Nat.add_zero] at h2;rw[Nat.zero_add,h2,hx];simp[List.getElem?_eq_getElem (show j < xs[i].length by omega)]
  ·have hlt:i < xs.length:=by rw[hl];exact (List.getElem?_eq_some_iff.1 hi).1
   have hx:xs[i]?=some xs[i]:=List.getElem?_eq_getElem hlt;obtain⟨_,hg⟩:=(hf i _ _ hx hi).get;obtain⟨c,hc,hfc⟩:=hg j d hd;simp only[hx,Option.getD_some,hc];exact hfc
@[simp] theorem envV_n {n:Nat} {vs:List V}:(envV n vs).n=n:=rfl
@[simp] theorem Ztm {n k:Nat} {vs:List V}:(envV n vs).get k=(vs[k]?).getD .undef:=rfl
@[simp] theorem Zt4 {P:Program} {k:Nat} {K:V→HS→Prop} {e:Env} {h:HS}:retH P [.tmp k] K .ret e h=K (e.get k) h:=rfl
@[simp] theorem Zs9 {P:Program} {k:Nat} {K:V→HS→Prop} {e:Env} {h:HS}:retH P [.tmp k] K .normal e h=K (e.get k) h:=rfl
@[simp] theorem Zrj {P:Program} {K:V→HS→Prop} {e:Env} {h:HS}:retH P [] K .normal e h=K (.tup []) h:=by simp[retH,resVs]
theorem Z1l {a b:Prop} [Decidable a] [Decidable b] {c d:C} {f:V→Prop} (ha:a) (h1:b→f (.one c)) (h2:¬ b→f (.one d)):optV (Option.map V.one (if a then (if b then some c else some d) else none)) (k:=⟨f⟩):=by
 rw[if_pos ha]
 by_cases hb:b
 ·rw[if_pos hb];exact h1 hb
 ·rw[if_neg hb];exact h2 hb
end
end Go.Am
namespace Go.Proofs.YthiojhcimecdgaaGreatDoor
section
open Go Go.Am
def innerS {α:Type} (lt:α→α→Bool):Nat→List α→List α
 | 0,ws=>ws
 | j+1,ws=>match ws[j+1]?,ws[j]? with
   | some x,some y=>if lt x y then innerS lt j ((ws.set (j+1) y).set j x) else ws
   | _,_=>ws
def outerS {α:Type} (lt:α→α→Bool):Nat→Nat→List α→List α
 | 0,_,ws=>ws
 | k+1,i,ws=>outerS lt k (i+1) (innerS lt i ws)
theorem Zde {α:Type}:∀ {us:List α} {j:Nat} {x y:α},us[j+1]?=some x→us[j]?=some y→((us.set (j+1) y).set j x).Perm us
 | [],_,_,_,h,_=>by simp at h
 | [_],j,_,_,h,_=>by simp at h
 | a::b::us,0,x,y,h,h2=>by
   simp at h h2;subst h h2;simp[List.set];exact .swap _ _ _
 | a::us,j+1,x,y,h,h2=>by
   simp only[List.set_cons_succ];exact .cons _ (Zde (by simpa using h) (by simpa using h2))
theorem Zdo {α:Type} (lt:α→α→Bool):∀ (j:Nat) (ws:List α),(innerS lt j ws).Perm ws
 | 0,ws=>.refl _
 | j+1,ws=>by
   unfold innerS;split
   ·rename_i x y hx hy;split
    ·refine (Zdo lt j _).trans ?_;exact Zde hx hy
    ·exact .refl _
   ·exact .refl _
theorem Zep {n k:Nat} {xs:List (List C)} {sp v:List C} (h:AllC n xs) (hk:k < xs.length) (hv:v.length=n):Z03 (rowBox xs sp) (k * n) v=rowBox (xs.set k v) sp:=by
 have h1:=Z60 (sp:=sp) (f:=0) (vs:=v) h (List.getElem?_eq_getElem hk) (by omega);have h2:=h.get (List.getElem?_eq_getElem hk);have h3:Z03 xs[k] 0 v=v:=by
  rw[Z03];simp[h2,hv]
 rw[h3] at h1;simpa using h1
def cmpLt (cmp:List D→List D→Int) (x y:List C × List D):Bool:=decide (cmp x.2 y.2 < 0)
theorem Z99 (h:HS) (c:C) (qs:List (List C × List D)) (g:FuncId) (caps:List Cap) (dss:List (List D)) (cmp:List D→List D→Int) (hm:MR h 3 c (qs.map (·.1))) (hlab:∀ k ∈ labs c,k.1 < h.ep)
  (hf:∀ h',Same h h' (labs c)→∀ q ∈ qs,FrzCs h' q.1 q.2) (hcv:∀ h',Same h h' (labs c)→LendVs h' (caps.map capV) (capsOf dss))
  (hp:∀ q ∈ qs,∀ q' ∈ qs,PSpec Tryz.prog g (.agg q.2::.agg q'.2::capsOf dss) (.one (.d (.int .i64 (cmp q.2 q'.2))))) (K:V→HS→Prop)
  (hk:∀ h',MR h' 3 c ((outerS (cmpLt cmp) (qs.length - 1) 1 qs).map (·.1))→Same h h' (labs c)→K (.tup []) h') :
  HSpec Tryz.prog 252 [.one c,.one (.d (.int .i64 0)),.one (.d (.int .i64 (qs.length:Int))),.one (.fn g caps)] h K:=by
 refine HSpec.of_vc Tryz.func252 rfl (by kernel_rfl) (n:=53) rfl rfl (by simp) ?_;simp;have hlim:qs.length≤2097152:=by simpa using hm.2.1
 refine Wait.rounds (fun n e h'=>∃ (i:Nat) (ws:List (List C × List D)),n=qs.length - i∧1≤i∧ws.Perm qs∧outerS (cmpLt cmp) (qs.length - i) i ws=outerS (cmpLt cmp) (qs.length - 1) 1 qs ∧
  e.n=53∧e.get 0=.one c∧e.get 1=.one (.d (.int .i64 0))∧e.get 2=.one (.d (.int .i64 (qs.length:Int)))∧e.get 3=.one (.fn g caps)∧e.get 8=.one (.d (.int .i64 (i:Int)))∧Same h h' (labs c)∧MR h' 3 c (ws.map (·.1))) (qs.length - 1)
  ⟨1,qs,rfl,by omega,.refl _,rfl,by simp,by simp,by simp,by simp,by simp,by simp;exact (IntWalk.i64_in _ (by omega)),Same.refl,hm⟩ ?_
 rintro n e h' ⟨i,ws,rfl,hi1,hperm,hout,hn,h0,h1,h2,h3,h8,hs,hm'⟩;simp[h0,h1,h2,h3,h8,hn];refine Z10 (fun hlt=>?_) (fun hge=>?_)
 ·simp[h0,h1,h2,h3,h8,hn];refine Wait.rounds (fun n e h'=>∃ (j:Nat) (us:List (List C × List D)),n=j∧j≤i∧us.Perm qs∧innerS (cmpLt cmp) j us=innerS (cmpLt cmp) i ws ∧
   e.n=53∧e.get 0=.one c∧e.get 1=.one (.d (.int .i64 0))∧e.get 2=.one (.d (.int .i64 (qs.length:Int)))∧e.get 3=.one (.fn g caps)∧e.get 8=.one (.d (.int .i64 (i:Int)))∧e.get 9=.one (.d (.int .i64 (j:Int)))∧Same h h' (labs c)∧MR h' 3 c (us.map (·.1))) i
   ⟨i,ws,rfl,by omega,hperm,rfl,by simp[hn],by simp[h0],by simp[h1],by simp[h2],by simp[h3],by simp[h8],by simp,hs,hm'⟩ ?_
  clear h0 h1 h2 h3 h8 hn hm' hs;rintro j e h' ⟨_,us,rfl,hji,hpu,hin,hn,h0,h1,h2,h3,h8,h9,hs,hm'⟩;have hD:Same h (h'.next) (labs c):=hs.next;cases j with
  | zero=>
    refine Wait.cut (Plan.then_ [0,1,2,3,4,5,6,7,8,9,10,11,12,13,14,15,16] .done) follows (by kernel_rfl) (fun e1 h1'=>h1'=h'∧e1.n=53∧e1.get 0=.one c∧e1.get 1=.one (.d (.int .i64 0))∧e1.get 2=.one (.d (.int .i64 (qs.length:Int)))∧e1.get 3=.one (.fn g caps)∧e1.get 8=.one (.d (.int .i64 (i:Int)))∧e1.get 34=.one (.d (.bool false))) ?_ ?_
    ·simp[*,Plan.then_,vcPlan,Z01,Z00,callKind];exact⟨fun _ x y=>y,CutK.of (by simp[*])⟩
    ·rintro e1 h1' ⟨rfl,hn1,h01,h11,h21,h31,h81,h34⟩;simp[*];refine Back.of (n':=qs.length - (i+1)) (by omega) ⟨i+1,us,rfl,by omega,hpu,?_,by simp[hn1],by simp[h01],by simp[h11],by simp[h21],by simp[h31],?_,hs,hm'⟩
     ·rw[← hout];have e1:qs.length - i=(qs.length - (i+1))+1:=by omega
      rw[e1,outerS,← hin,innerS]
     ·have:=IntWalk.i64_in ((i:Int)+1) (by omega)
      simp[this]
  | succ j=>
    have hul:us.length=qs.length:=hpu.length_eq;have hml:=hm'.2.1;have hall:=hm'.1;obtain⟨l,cap,sp,hc,hb,hcap⟩:=hm'.block (by simp;omega);simp only[List.length_map,hul] at hc;subst hc;have hx1:us[j+1]?=some us[j+1]:=List.getElem?_eq_getElem (by omega);have hx0:us[j]?=some us[j]:=List.getElem?_eq_getElem (by omega);generalize us[j+1]=q1 at hx1;generalize us[j]=q0 at hx0;have hq1:q1 ∈ qs:=hpu.mem_iff.1 (List.mem_of_getElem? hx1);have hq0:q0 ∈ qs:=hpu.mem_iff.1 (List.mem_of_getElem? hx0);obtain⟨k1,t1⟩:=q1;obtain⟨k0,t0⟩:=q0;have hy1:(us.map (·.1))[j+1]?=some k1:=by simp[hx1]
    have hy0:(us.map (·.1))[j]?=some k0:=by simp[hx0]
    have hl1:=hall.get hy1;have hl0:=hall.get hy0;have hr1:=Zad (sp:=sp) hall hy1;have hr0:=Zad (sp:=sp) hall hy0;have hwj:IntKind.i64.wrap (j:Int)=(j:Int):=IntWalk.i64_in _ (by omega);have hj1:j+1 < qs.length:=by omega
    have hj0:j < qs.length:=by omega
    have hz:(0:Int)≤(j:Int)+1:=by omega
    refine Wait.cut (Plan.then_ [0,1,2,3,4,5,6,7,8,9,10,11,12,13,14,15,16] .done) follows (by kernel_rfl) (fun e1 h1'=>Same h h1' [l]∧h1'.box l=h'.box l∧e1.n=53∧e1.get 0=.one (.mrow l 0 qs.length cap)∧e1.get 1=.one (.d (.int .i64 0))∧e1.get 2=.one (.d (.int .i64 (qs.length:Int)))∧e1.get 3=.one (.fn g caps)∧e1.get 8=.one (.d (.int .i64 (i:Int)))∧e1.get 9=.one (.d (.int .i64 ((j+1:Nat):Int)))∧e1.get 34=.one (.d (.bool (decide (cmp t1 t0 < 0))))) ?_ ?_
    ·simp[h0,h1,h2,h3,h8,h9,hn,hz,hj1,hj0,hwj,hb,hr1,hr0,Plan.then_,vcPlan,Z01,Z00,callKind];refine Z02 (HSpec.of_lend (hp _ hq1 _ hq0) ⟨.agg (hf _ hs _ hq1),.agg (hf _ hs _ hq0),hcv _ hs⟩ rfl ?_);simp[h0,h1,h2,h3,h8,h9,hn,hz,hj1,hj0,hwj,hb,hr1,hr0,Plan.then_,vcPlan,Z01,Z00,callKind];have hsn:Same h h'.next [l]:=hs.next;exact⟨fun _ _ x=>x,CutK.of (by simp[h0,h1,h2,h3,h8,h9,hn,hsn])⟩
    ·rintro e1 h1' ⟨hs1,hb1,hn1,h01,h11,h21,h31,h81,h91,h34⟩;rw[hb] at hb1;simp[h01,h11,h21,h31,h81,h91,h34,hn1];have hst1:cmp t1 t0 < 0→innerS (cmpLt cmp) j ((us.set (j+1) (k0,t0)).set j (k1,t1))=innerS (cmpLt cmp) i ws:=fun hx=>by rw[← hin];simp[innerS,hx1,hx0,cmpLt,hx]
     have hst2:¬ cmp t1 t0 < 0→us=innerS (cmpLt cmp) i ws:=fun hx=>by rw[← hin];simp[innerS,hx1,hx0,cmpLt,hx]
     refine Z10 (fun hlt2=>?_) (fun hge2=>?_)
     ·simp[hn1];refine Wait.cut (Plan.then_ [0,1,2,3,4,5,6,7,8,9,10,11,12,13,14,15,16,17] .done) follows (by kernel_rfl) (fun e2 h2'=>Same h h2' [l]∧e2.n=53∧e2.get 0=.one (.mrow l 0 qs.length cap)∧e2.get 1=.one (.d (.int .i64 0))∧e2.get 2=.one (.d (.int .i64 (qs.length:Int)))∧e2.get 3=.one (.fn g caps)∧e2.get 8=.one (.d (.int .i64 (i:Int)))∧e2.get 9=.one (.d (.int .i64 ((j+1:Nat):Int)))∧h2'.box l=some (rowBox (((us.set (j+1) (k0,t0)).set j (k1,t1)).map (·.1)) sp)) ?_ ?_
      ·simp[h01,h11,h21,h31,h81,h91,h34,hn1,hz,hj1,hj0,hwj,hb1,hr1,hr0,Plan.then_,vcPlan,Z01,Z00,callKind];rw[Zep hall (by simp;omega) hl0,Zep (hall.set hl0) (by simp;omega) hl1];refine⟨⟨hl0,Z6o hall (by simp;omega)⟩,⟨hl1,Z6o (hall.set hl0) (by simp;omega)⟩,CutK.of ?_⟩;simp[h01,h11,h21,h31,h81,h91,hn1];exact (hs1.setBox (.inl (by simp))).setBox (.inl (by simp))
      ·rintro e2 h2' ⟨hs2,hn2,h02,h12,h22,h32,h82,h92,hb2⟩;simp[h02,h12,h22,h32,h82,h92,hn2,hwj];have hpm:((us.set (j+1) (k0,t0)).set j (k1,t1)).Perm us:=Zde hx1 hx0;have hfin:=hpm.trans hpu;refine Back.of (n':=j) (by omega) ⟨j,_,rfl,by omega,hfin,hst1 hlt2,by simp[hn2],by simp[h02],by simp[h12],by simp[h22],by simp[h32],by simp[h82],by simp,hs2,?_⟩;have e1:((us.set (j+1) (k0,t0)).set j (k1,t1)).map (·.1)=((us.map (·.1)).set (j+1) k0).set j k1:=by simp[List.map_set]
       refine⟨by rw[e1];exact (hall.set hl0).set hl1,by simpa using hml,.inr ⟨l,cap,sp,by simp[hul],hb2,?_⟩⟩;rw[e1,Z04 ((hall.set hl0).set hl1),List.length_set,List.length_set,← Z04 (sp:=sp) hall,hcap]
     ·have hst3:=hst2 hge2;simp[h01,h11,h21,h31,h81,h91,h34,hn1];refine Back.of (n':=qs.length - (i+1)) (by omega) ⟨i+1,us,rfl,by omega,hpu,?_,by simp[hn1],by simp[h01],by simp[h11],by simp[h21],by simp[h31],?_,hs1,hm'.frame (by intro k hk;simp[labs] at hk;subst hk;rw[hb1,hb])⟩
      ·rw[← hout];have e1:qs.length - i=(qs.length - (i+1))+1:=by omega
       rw[e1,outerS,← hst3]
      ·have:=IntWalk.i64_in ((i:Int)+1) (by omega)
       simp[this]
 ·simp[hn]
  have:qs.length - i=0:=by omega
  rw[this] at hout;simp only[outerS] at hout;exact hk _ (by rw[← hout];exact hm') hs
def sortS (cmp:List D→List D→Int) (qs:List (List C × List D)):List (List C × List D):=outerS (cmpLt cmp) (qs.length - 1) 1 qs
theorem Z96 (h:HS) (c:C) (qs:List (List C × List D)) (g:FuncId) (caps:List Cap) (dss:List (List D)) (cmp:List D→List D→Int) (hm:MR h 3 c (qs.map (·.1))) (hlab:∀ k ∈ labs c,k.1 < h.ep) (hq:qs.length < 20)
  (hf:∀ h',Same h h' (labs c)→∀ q ∈ qs,FrzCs h' q.1 q.2) (hcv:∀ h',Same h h' (labs c)→LendVs h' (caps.map capV) (capsOf dss))
  (hp:∀ q ∈ qs,∀ q' ∈ qs,PSpec Tryz.prog g (.agg q.2::.agg q'.2::capsOf dss) (.one (.d (.int .i64 (cmp q.2 q'.2))))) (K:V→HS→Prop)
  (hk:∀ h',MR h' 3 c ((sortS cmp qs).map (·.1))→Same h h' (labs c)→K (.tup []) h') :
  HSpec Tryz.prog 231 [.one c,.one (.d (.int .i64 (qs.length:Int))),.one (.fn g caps)] h K:=by
 refine HSpec.of_vc Tryz.func231 rfl (by kernel_rfl) (n:=63) rfl rfl (by simp) ?_;simp;refine Wait.rounds (fun n e h'=>h'=h∧e.n=63∧e.get 0=.one c∧e.get 1=.one (.d (.int .i64 (qs.length:Int)))∧e.get 2=.one (.fn g caps)∧e.get 6=.one (.d (.int .i64 20))∧e.get 7=.one (.d (.int .i64 0))∧e.get 8=.one (.d (.int .i64 20))) 0
  ⟨rfl,by simp,by simp,by simp,by simp,by simp,by simp,by simp⟩ ?_
 rintro n e h' ⟨rfl,hn,h0,h1,h2,h6,h7,h8⟩;simp[h0,h1,h2,h6,h7,h8,hn];refine Z10 (fun hlt=>absurd hlt (by omega)) (fun hge=>?_);simp[h0,h1,h2,h6,h7,h8,hn];refine Z02 (Z99 h' c qs g caps dss cmp hm hlab hf hcv hp _ (fun h1' hm' hs'=>?_));simp[h0,h1,h2,h6,h7,h8,hn];refine Wait.rounds (fun n e h2'=>h2'=h1'∧e.n=63∧e.get 1=.one (.d (.int .i64 (qs.length:Int)))∧e.get 6=.one (.d (.int .i64 20))) 0
  ⟨rfl,by simp[hn],by simp[h1],by simp[h6]⟩ ?_
 clear hn h0 h1 h2 h6 h7 h8;rintro n e h2' ⟨rfl,hn,h1,h6⟩;simp[h1,h6,hn];refine Z10 (fun hlt=>absurd hlt (by omega)) (fun hge=>?_);simp[h1,h6,hn];exact hk _ hm' hs'
theorem Z8t (h:HS) (c:C) (qs:List (List C × List D)) (g:FuncId) (caps:List Cap) (dss:List (List D)) (cmp:List D→List D→Int) (hm:MR h 3 c (qs.map (·.1))) (hlab:∀ k ∈ labs c,k.1 < h.ep) (hq:qs.length < 20)
  (hf:∀ h',Same h h' (labs c)→∀ q ∈ qs,FrzCs h' q.1 q.2) (hcv:∀ h',Same h h' (labs c)→LendVs h' (caps.map capV) (capsOf dss))
  (hp:∀ q ∈ qs,∀ q' ∈ qs,PSpec Tryz.prog g (.agg q.2::.agg q'.2::capsOf dss) (.one (.d (.int .i64 (cmp q.2 q'.2))))) (K:V→HS→Prop)
  (hk:∀ h',MR h' 3 c ((sortS cmp qs).map (·.1))→Same h h' (labs c)→K (.tup []) h') :
  HSpec Tryz.prog 203 [.one c,.one (.fn g caps)] h K:=by
 refine HSpec.of_vc Tryz.func203 rfl (by kernel_rfl) (n:=9) rfl rfl (by simp) ?_;simp;have key:∀ (n:Int) (K1:V→HS→Prop),n=(qs.length:Int)→(∀ h',MR h' 3 c ((sortS cmp qs).map (·.1))→Same h h' (labs c)→K1 (.tup []) h')→HSpec Tryz.prog 231 [.one c,.one (.d (.int .i64 n)),.one (.fn g caps)] h K1:=
  fun n K1 hn hk1=>by subst hn;exact Z96 h c qs g caps dss cmp hm hlab hq hf hcv hp K1 hk1
 rcases hm.2.2 with ⟨h1,rfl | rfl⟩ | ⟨l,cap,sp,rfl,_,_⟩
 ·have h2:qs.length=0:=by simpa using congrArg List.length h1
  simp;refine Z02 (key _ _ (by omega) (fun h' hm' hs'=>?_));simp;exact hk _ hm' hs'
 ·have h2:qs.length=0:=by simpa using congrArg List.length h1
  simp;refine Z02 (key _ _ (by omega) (fun h' hm' hs'=>?_));simp;exact hk _ hm' hs'
 ·simp only[List.length_map] at key hm hk ⊢;simp;refine Z02 (key _ _ rfl (fun h' hm' hs'=>?_));simp;exact hk _ hm' hs'
end
end Go.Proofs.YthiojhcimecdgaaGreatDoor
namespace Go.Am
section
open Go
def RowAt (h:HS) (n:Nat) (c:C) (xs:List (List C)):Prop:=Z0i h n c=some xs.flatten∧cLen c=some xs.length∧AllC n xs∧xs.length≤LIM
theorem MR.rd {h:HS} {n:Nat} {c:C} {xs:List (List C)} (m:MR h n c xs):RowAt h n c xs:=by
 refine⟨?_,?_,m.1,m.2.1⟩
 ·rcases m.2.2 with ⟨h1,rfl | rfl⟩ | ⟨l,cap,sp,rfl,hb,hcap⟩
  ·subst h1;simp[Z0i,C.list?]
  ·subst h1;simp[Z0i,C.list?]
  ·have:=Z4f (n:=n) (off:=0) (k:=xs.length) (cap:=cap) m.1 hb (by simp)
   simpa using this
 ·rcases m.2.2 with ⟨h1,rfl | rfl⟩ | ⟨l,cap,sp,rfl,hb,hcap⟩
  ·subst h1;simp[cLen,C.list?]
  ·subst h1;simp[cLen,C.list?]
  ·simp[cLen]
theorem RowAt.data {h:HS} {n:Nat} {ts:List (List D)} (ht:∀ t ∈ ts,t.length=n) (hl:ts.length≤LIM):RowAt h n (.d (.sl ts)) (ts.map (·.map C.d)):=by
 refine⟨?_,by simp[cLen,C.list?],?_,by simpa using hl⟩
 ·show (if ∀ x ∈ ts,x.length=n then some (ts.flatten.map C.d) else none)=_;rw[if_pos ht,List.map_flatten]
 ·intro x hx;simp at hx;obtain⟨t,h1,rfl⟩:=hx;simpa using ht t h1
theorem Zbv {P:Program} {ty:TypeId} {z:TypeId × Nat × Nat} {h:HS} {n:Nat} {c:C} {xs:List (List C)} {f:V→Prop} (hel:elT P ty=some z) (hr:RowAt h n c xs) (h1:xs=[]→f (dbool true)) (h2:f (dbool false)):nilK P .eql ty c (K:=⟨f⟩):=by
 have hlen:=hr.2.1;have key:∀ ys,c.list?=some ys→cLen c=some ys.length→nilK P .eql ty c (K:=⟨f⟩):=fun ys hy hc=>by
  refine Z7y hel rfl hy (fun b hb=>?_);cases b with
  | false=>exact h2
  | true=>
    have:ys=[]:=Classical.byContradiction fun h=>by simpa using hb h
    subst this;rw[hc] at hlen;exact h1 (List.eq_nil_of_length_eq_zero (by simpa using hlen.symm))
 match c,hlen with
 | .d (.sl ys),_=>exact key ys rfl rfl
 | .own _ ys,_=>exact key ys rfl rfl
 | .nil,_=>exact key [] rfl rfl
 | .z,_=>exact key [] rfl rfl
 | .mrow _ _ _ _,_=>exact Zmj hel rfl h2
theorem Zp1 {h:HS} {n:Nat}:appHdr h n .z=some (0,0,[],none):=rfl
theorem Zcb {P:Program} {ty el:TypeId} {n by_ d:Nat} {h:HS} {x:C} {xs:List (List C)} {K:V→HS→Prop} (hel:elT P ty=some (el,n,by_)) (hz:(zeT P el).isSome=true) (h0:0 < n) (hb:by_≤4096) (hr:RowAt h n x xs)
  (hk:∀ c' h',MR h' n c' xs→Same h h' []→(∀ l ∈ labs c',h.ep≤l.1∧l.1 < h'.ep)→K (.one c') h'):appK P ty .z x d h (K:=⟨K⟩):=by
 obtain⟨hc,hl,ha,hm⟩:=hr;refine Z59 hel Zp1 hc hl hz h0 hb (by simpa using hm) ha.flatten (by simp) (fun h1=>?_) (fun h1 h2=>by omega) (fun h1 h2 cap' hcap=>?_)
 ·have:xs=[]:=List.eq_nil_of_length_eq_zero h1
  subst this;exact hk _ _ MR.z .refl (by simp[labs])
 ·refine hk _ _ ⟨ha,hm,.inr ⟨(h.ep,16 * d),cap',List.replicate ((cap' - xs.length) * n) .any,by simp,by simp[rowBox],?_⟩⟩ ((Same.refl.setBox (.inr (Nat.le_refl _))).next) (by simp[labs]);rw[Z04 ha,List.length_replicate,← Nat.add_mul]
  congr 1
  omega
inductive Sh where
 | d
 | r (es:List Sh)
inductive Ow (h:HS):List Sh→List C→List D→List Lab→Prop where
 | nil:Ow h [] [] [] []
 | data {c:C} {x:D} {ss:List Sh} {cs:List C} {ds:List D} {ls:List Lab} (hx:c.toD=some x) (hr:Ow h ss cs ds ls):Ow h (.d::ss) (c::cs) (x::ds) ls
 | emp {es:List Sh} {c:C} {ss:List Sh} {cs:List C} {ds:List D} {ls:List Lab} (hx:c.toD=some (.sl [])) (hr:Ow h ss cs ds ls):Ow h (.r es::ss) (c::cs) (.sl []::ds) ls
 | row {es:List Sh} {c:C} {qs:List (List C × List D × List Lab)} {ss:List Sh} {cs:List C} {ds:List D} {ls:List Lab} (hm:MR h es.length c (qs.map (·.1))) (hq:∀ q ∈ qs,Ow h es q.1 q.2.1 q.2.2)
   (hr:Ow h ss cs ds ls):Ow h (.r es::ss) (c::cs) (.sl (qs.map (·.2.1))::ds) (labs c++qs.flatMap (·.2.2)++ls)
theorem Ow.len {h:HS} {ss:List Sh} {cs:List C} {ds:List D} {ls:List Lab} (o:Ow h ss cs ds ls):cs.length=ss.length∧ds.length=ss.length:=by
 induction o with
 | nil=>simp
 | data hx hr ih=>simp[ih]
 | emp hx hr ih=>simp[ih]
 | row hm hq hr ihq ih=>simp[ih]
theorem Ow.frame {h h':HS} {ss:List Sh} {cs:List C} {ds:List D} {ls:List Lab} (o:Ow h ss cs ds ls) (hb:∀ l ∈ ls,h'.box l=h.box l):Ow h' ss cs ds ls:=by
 induction o with
 | nil=>exact .nil
 | data hx hr ih=>exact .data hx (ih hb)
 | emp hx hr ih=>exact .emp hx (ih hb)
 | @row es c qs ss cs ds ls hm hq hr ihq ih=>
   refine .row (hm.frame fun l hl=>hb l (by simp[hl])) (fun q hqm=>ihq q hqm fun l hl=>hb l ?_) (ih fun l hl=>hb l (by simp[hl]));simp only[List.mem_append,List.mem_flatMap];exact .inl (.inr ⟨q,hqm,hl⟩)
theorem Ow.frz {h:HS} {ss:List Sh} {cs:List C} {ds:List D} {ls:List Lab} (o:Ow h ss cs ds ls):FrzCs h cs ds:=by
 induction o with
 | nil=>trivial
 | data hx hr ih=>exact⟨.data hx,ih⟩
 | emp hx hr ih=>exact⟨.data hx,ih⟩
 | @row es c qs ss cs ds ls hm hq hr ihq ih=>
   refine⟨hm.frz (by simp) (fun t ht=>?_) (fun i x t hx ht=>?_),ih⟩
   ·obtain⟨q,hqm,rfl⟩:=List.mem_map.1 ht;exact (hq q hqm).len.2
   ·rw[List.getElem?_map] at hx ht;cases hqi:qs[i]? with
    | none=>rw[hqi] at hx;simp at hx
    | some q=>
      rw[hqi] at hx ht;simp only[Option.map_some,Option.some.injEq] at hx ht;subst hx ht;exact ihq q (List.mem_of_getElem? hqi)
theorem Ow.inv_nil {h:HS} {cs:List C} {ds:List D} {ls:List Lab} (o:Ow h [] cs ds ls):cs=[]∧ds=[]∧ls=[]:=by
 cases o;exact⟨rfl,rfl,rfl⟩
theorem Ow.inv_d {h:HS} {ss:List Sh} {cs:List C} {ds:List D} {ls:List Lab} (o:Ow h (.d::ss) cs ds ls):∃ c x cs' ds',cs=c::cs'∧ds=x::ds'∧c.toD=some x∧Ow h ss cs' ds' ls:=by
 cases o with
 | data hx hr=>exact⟨_,_,_,_,rfl,rfl,hx,hr⟩
theorem Ow.inv_r {h:HS} {es ss:List Sh} {cs:List C} {ds:List D} {ls:List Lab} (o:Ow h (.r es::ss) cs ds ls):(∃ (c:C) (cs':List C) (ds':List D),cs=c::cs'∧ds=.sl []::ds'∧c.toD=some (.sl [])∧Ow h ss cs' ds' ls) ∨
  ∃ (c:C) (qs:List (List C × List D × List Lab)) (cs':List C) (ds':List D) (ls':List Lab),cs=c::cs'∧ds=.sl (qs.map (·.2.1))::ds'∧ls=labs c++qs.flatMap (·.2.2)++ls' ∧
  MR h es.length c (qs.map (·.1))∧(∀ q ∈ qs,Ow h es q.1 q.2.1 q.2.2)∧Ow h ss cs' ds' ls':=by
 cases o with
 | emp hx hr=>exact .inl ⟨_,_,_,rfl,rfl,hx,hr⟩
 | row hm hq hr=>exact .inr ⟨_,_,_,_,_,rfl,rfl,rfl,hm,hq,hr⟩
def OwB (h:HS) (l:Lab) (ss:List Sh) (ds:List D) (ls:List Lab):Prop:=∃ cs,h.box l=some cs∧Ow h ss cs ds ls∧(l::ls).Nodup∧∀ k ∈ l::ls,k.1 < h.ep
theorem OwB.frame {h h':HS} {l:Lab} {ss:List Sh} {ds:List D} {ls lx:List Lab} (o:OwB h l ss ds ls) (hs:Same h h' lx) (hd:∀ k ∈ l::ls,k ∉ lx):OwB h' l ss ds ls:=by
 obtain⟨cs,hb,ho,hn,hl⟩:=o;have hk:∀ k ∈ l::ls,h'.box k=h.box k:=fun k hk=>hs.2 k (hl k hk) (hd k hk);exact⟨cs,by rw[hk l (by simp)];exact hb,ho.frame fun k hk'=>hk k (by simp[hk']),hn,fun k hk'=>Nat.lt_of_lt_of_le (hl k hk') hs.1⟩
theorem Same.mono {h h':HS} {ls ls':List Lab} (s:Same h h' ls) (hl:∀ k ∈ ls,k ∈ ls'):Same h h' ls':=⟨s.1,fun k hk hn=>s.2 k hk fun hm=>hn (hl k hm)⟩
theorem Same.drop {h h':HS} {ls ls':List Lab} (s:Same h h' ls) (hl:∀ k ∈ ls,k ∈ ls'∨h.ep≤k.1):Same h h' ls':=⟨s.1,fun k hk hn=>s.2 k hk fun hm=>(hl k hm).elim hn fun he=>absurd hk (by omega)⟩
theorem Same.trans' {h h1 h2:HS} {ls ls1:List Lab} (a:Same h h1 ls) (b:Same h1 h2 ls1) (hl:∀ k ∈ ls1,k ∈ ls∨h.ep≤k.1):Same h h2 ls:=
 ⟨Nat.le_trans a.1 b.1,fun k hk hn=>(b.2 k (by have:=a.1;omega) fun hm=>(hl k hm).elim hn fun he=>absurd hk (by omega)).trans (a.2 k hk hn)⟩
theorem Ow.datas {h:HS}:∀ {ds:List D},Ow h (ds.map fun _=>Sh.d) (ds.map C.d) ds []
 | []=>.nil
 | _::_=>.data rfl Ow.datas
def Good (h:HS):Prop:=∀ l cs,h.box l=some cs→l.1 < h.ep
theorem HSpec.good {P:Program} {h:HS} {f:FuncId} {fn:Func} {c:Code} {vs:List V} {K:V→HS→Prop} (hf:P.funcs[f]?=some fn) (hb:fn.body=some c) (hnm:(fn.name == "runtime.NumGoroutine")=false) (hg:Good h→HSpec P f vs h K):HSpec P f vs h K:=
 ⟨⟨fn,hf,hnm,by rw[hb];rfl⟩,fun Γ μ w vals hI hR=>(hg fun l cs hl=>by
  obtain⟨b,n,T,conc,h1,_⟩:=hI.box l cs hl;exact hI.lt l (by rw[h1];simp)).2 Γ μ w vals hI hR⟩
theorem Same.boxLe {h h':HS} (s:Same h h' []) (g:Good h):BoxLe h h':=fun l cs hl=>by rw[s.2 l (g l cs hl) (by simp),hl]
theorem Zm6 {a b:Nat} {xs u v:List C} (h1:takeN a xs=some u) (h2:takeN b (xs.drop a)=some v):takeN (a+b) xs=some (u++v):=by
 unfold takeN at *;split at h1
 ·split at h2
  ·rename_i h3 h4;simp only[List.length_drop] at h4;rw[if_pos (by omega),List.take_add];simp only[Option.some.injEq] at h1 h2;rw[h1,h2]
  ·cases h2
 ·cases h1
theorem Zo6 {cs l:List C} (h:∀ i,i < l.length→cs[i]?=l[i]?):takeN l.length cs=some l:=by
 have hl:l.length≤cs.length:=by
  by_cases h0:l.length=0
  ·omega
  ·have:=h (l.length - 1) (by omega)
   rw[List.getElem?_eq_getElem (show l.length - 1 < l.length by omega)] at this
   have:=(List.getElem?_eq_some_iff.1 this).1
   omega
 unfold takeN;rw[if_pos hl]
 congr 1
 refine List.ext_getElem? fun i=>?_
 by_cases hi:i < l.length
 ·rw[List.getElem?_take_of_lt hi,h i hi]
 ·rw[List.getElem?_eq_none (by simp;omega),List.getElem?_eq_none (by omega)]
theorem Zex {n:Nat} {cs:List C}:∀ {ts:List (List D)} {off:Nat},(∀ t ∈ ts,t.length=n)→(∀ (i:Nat) x,ts[i]?=some x→∀ (j:Nat) d,x[j]?=some d→cs[off+(i * n+j)]?=some (.d d)) →
  takeN (ts.length * n) (cs.drop off)=some (ts.map (·.map C.d)).flatten∨(ts.length * n=0∧ts.flatten=[])
 | [],off,_,_=>.inr (by simp)
 | t::ts,off,ht,hc=>by
   have h0:=ht t (by simp);refine .inl ?_;have h1:takeN n (cs.drop off)=some (t.map C.d):=by
    have:=Zo6 (cs:=cs.drop off) (l:=t.map C.d) (fun i hi=>by
     simp only[List.length_map] at hi
     have:=hc 0 t (by simp) i t[i] (List.getElem?_eq_getElem hi)
     rw[List.getElem?_drop,List.getElem?_map,List.getElem?_eq_getElem hi];simpa using this)
    rw[List.length_map,h0] at this;exact this
   have ih:=Zex (cs:=cs) (ts:=ts) (off:=off+n) (fun x hx=>ht x (by simp[hx])) (fun i x hx j d hd=>by
    have:=hc (i+1) x (by simpa using hx) j d hd
    rw[show off+n+(i * n+j)=off+((i+1) * n+j) by rw[Nat.add_mul];omega];exact this)
   have h2:takeN (ts.length * n) ((cs.drop off).drop n)=some (ts.map (·.map C.d)).flatten:=by
    rw[List.drop_drop];rcases ih with h | ⟨h,h'⟩
    ·exact h
    ·rw[h]
     have:(ts.map (·.map C.d)).flatten=[]:=by rw[← List.map_flatten,h'];rfl
     rw[this];simp[takeN]
   have:=Zm6 h1 h2
   rw[show (t::ts).length * n=n+ts.length * n by simp[Nat.add_mul];omega];simpa using this
theorem Frz.flat {h:HS} {c:C} {x:D} (f:Frz h c x) (hx:x.flat=true):c=.d x:=by
 cases f with
 | data h1=>
   cases c<;>simp[C.toD] at h1
   ·rw[h1]
   all_goals (subst h1;simp[D.flat] at hx)
 | mrow=>simp[D.flat] at hx
theorem Frz.rowAt {h:HS} {c:C} {ts:List (List D)} {n:Nat} (f:Frz h c (.sl ts)) (ht:∀ t ∈ ts,t.length=n∧∀ d ∈ t,d.flat=true) (hl:ts.length≤LIM):RowAt h n c (ts.map (·.map C.d)):=by
 have hall:AllC n (ts.map (·.map C.d)):=by
  intro x hx;obtain⟨t,h1,rfl⟩:=List.mem_map.1 hx;simpa using (ht t h1).1
 have key:∀ c,c.list?=some ts→RowAt h n c (ts.map (·.map C.d)):=by
  intro c hc;have h1:∀ x ∈ ts,x.length=n:=fun x hx=>(ht x hx).1;have h2:ts.flatten.map C.d=(ts.map (·.map C.d)).flatten:=List.map_flatten;cases c<;>simp[C.list?] at hc
  all_goals exact⟨by simp only[Z0i,C.list?,hc];first | (rw[if_pos h1,h2]) | (subst hc;simp),by simp[cLen,C.list?,hc],hall,by simpa using hl⟩
 cases f with
 | data h1=>
   refine key c ?_;cases c<;>simp[C.toD] at h1
   ·subst h1;rfl
   ·subst h1;rfl
   ·subst h1;rfl
   ·subst h1;rfl
 | @mrow l off cap es xs cs g hb hl hes hc hf=>
   refine⟨?_,by simp[cLen],hall,by simpa using hl⟩;simp only[Z0i,hb];have h1:∀ t ∈ ts,t.length=n:=fun t h=>(ht t h).1
   have:=Zex (n:=n) (cs:=cs) (ts:=ts) (off:=off) h1 (fun i x hx j d hd=>by
    have hxm:=List.mem_of_getElem? hx;have e:es=n:=(hes x hxm).symm.trans (h1 x hxm);have h3:=hc i x hx j d hd;rw[e] at h3;rw[h3,(hf i x hx j d hd).flat ((ht x hxm).2 d (List.mem_of_getElem? hd))])
   rcases this with h | ⟨h,h'⟩
   ·exact h
   ·rw[h]
    have:(ts.map (·.map C.d)).flatten=[]:=by rw[← List.map_flatten,h'];rfl
    rw[this];simp[takeN]
end
end Go.Am
section
namespace Go.Am
open Go
theorem AllC.app {n:Nat} {xs ys:List (List C)} (h1:AllC n xs) (h2:AllC n ys):AllC n (xs++ys):=AllC.append.2 ⟨h1,h2⟩
theorem app_mr {P:Program} {ty el:TypeId} {n by_ d:Nat} {h:HS} {c x:C} {xs ys:List (List C)} {K:V→HS→Prop} (hel:elT P ty=some (el,n,by_)) (hz:(zeT P el).isSome=true) (h0:0 < n) (hb:by_≤4096) (hm:MR h n c xs) (hr:RowAt h n x ys) (hl:xs.length+ys.length≤LIM)
  (hk:∀ c' h',MR h' n c' (xs++ys)→Same h h' (labs c)→(∀ k ∈ labs c',k ∈ labs c∨(h.ep≤k.1∧k.1 < h'.ep))→K (.one c') h'):appK P ty c x d h (K:=⟨K⟩):=by
 obtain⟨hc,hln,ha,_⟩:=hr;have hal:=hm.1;have key:∀ cap',(xs++ys).length≤cap'→∀ h',h'.box (h.ep,16 * d)=some (rowBox (xs++ys) (List.replicate ((cap' - (xs++ys).length) * n) .any))→MR h' n (.mrow (h.ep,16 * d) 0 (xs++ys).length cap') (xs++ys):=fun cap' hcap h' hbx=>by
  refine⟨hal.app ha,by simpa using hl,.inr ⟨_,cap',_,rfl,hbx,?_⟩⟩;rw[Z04 (hal.app ha),List.length_replicate,← Nat.add_mul]
  congr 1
  omega
 rcases hm.2.2 with ⟨rfl,hcz⟩ | ⟨l,cap,sp,rfl,hbx,hcap⟩
 ·have hh:appHdr h n c=some (0,0,[],none):=by rcases hcz with rfl | rfl<;>rfl
  refine Z59 hel hh hc hln hz h0 hb (by simpa using hl) ha.flatten (by simp) (fun h1=>?_) (fun h1 h2=>by omega) (fun h1 h2 cap' hcap=>?_)
  ·have:ys=[]:=List.eq_nil_of_length_eq_zero h1
   subst this;exact hk _ _ (by simpa using hm) .refl (fun k hk=>.inl hk)
  ·simp only[Nat.zero_add] at hcap ⊢;refine hk _ _ (key cap' (by simpa using hcap) _ ?_) ((Same.refl.setBox (.inr (Nat.le_refl _))).next) (by simp[labs]);simp[rowBox]
 ·have hrc:=Z4f (n:=n) (off:=0) (k:=xs.length) (cap:=cap) hal hbx (by simp);have hh:appHdr h n (.mrow l 0 xs.length cap)=some (xs.length,cap,xs.flatten,some (l,0)):=by
   simp only[Nat.zero_mul,List.drop_zero,List.take_length] at hrc;show (match Z0i h n (.mrow l 0 xs.length cap) with | some cs=>_ | none=>_)=_;rw[hrc]
  refine Z59 hel hh hc hln hz h0 hb hl ha.flatten hal.flatten (fun h1=>?_) (fun h1 h2 l' off he=>?_) (fun h1 h2 cap' hcap'=>?_)
  ·have:ys=[]:=List.eq_nil_of_length_eq_zero h1
   subst this;exact hk _ _ (by simpa using hm) .refl (fun k hk=>.inl hk)
  ·simp only[Option.some.injEq,Prod.mk.injEq] at he;obtain⟨rfl,rfl⟩:=he;have hle:(xs.length+ys.length) * n≤cap * n:=Nat.mul_le_mul_right n h2;refine⟨_,hbx,by rw[hcap];omega,?_⟩;have hput:=Zbr (sp:=sp) (i:=xs.length) hal ha (Nat.le_refl _);rw[List.take_length] at hput;rw[Nat.zero_add,hput];refine hk _ _ ⟨hal.app ha,by simpa using hl,.inr ⟨l,cap,(rowBox xs sp).drop ((xs.length+ys.length) * n),by simp,by simp,?_⟩⟩ (Same.refl.setBox (.inl (by simp[labs]))) (fun k hk=>.inl hk);rw[Z04 (hal.app ha),List.length_drop,hcap,List.length_append];omega
  ·have hk2:=key cap' (by simpa using hcap') (((h.setBox (h.ep,16 * d) (xs.flatten++ys.flatten++List.replicate ((cap' - (xs.length+ys.length)) * n) .any)).next)) (by simp[rowBox]);rw[List.length_append] at hk2;refine hk _ _ hk2 ((Same.refl.setBox (.inr (Nat.le_refl _))).next) (by simp[labs])
theorem Zi2 {P:Program} {ty el:TypeId} {n by_ d:Nat} {h:HS} {c x:C} {xs ys:List (List C)} {K:V→HS→Prop} (hel:elT P ty=some (el,n,by_)) (hz:(zeT P el).isSome=true) (h0:0 < n) (hb:by_≤4096) (hm:MR h n c xs) (hr:RowAt h n x ys) (hl:xs.length+ys.length≤LIM)
  (hk:∀ c' h',MR h' n c' (xs++ys)→((Same h h' (labs c)∧labs c'=labs c)∨(Same h h' []∧∀ k ∈ labs c',h.ep≤k.1∧k.1 < h'.ep))→K (.one c') h'):appK P ty c x d h (K:=⟨K⟩):=by
 obtain⟨hc,hln,ha,_⟩:=hr;have hal:=hm.1;have key:∀ cap',(xs++ys).length≤cap'→∀ h',h'.box (h.ep,16 * d)=some (rowBox (xs++ys) (List.replicate ((cap' - (xs++ys).length) * n) .any))→MR h' n (.mrow (h.ep,16 * d) 0 (xs++ys).length cap') (xs++ys):=fun cap' hcap h' hbx=>by
  refine⟨hal.app ha,by simpa using hl,.inr ⟨_,cap',_,rfl,hbx,?_⟩⟩;rw[Z04 (hal.app ha),List.length_replicate,← Nat.add_mul]
  congr 1
  omega
 rcases hm.2.2 with ⟨rfl,hcz⟩ | ⟨l,cap,sp,rfl,hbx,hcap⟩
 ·have hh:appHdr h n c=some (0,0,[],none):=by rcases hcz with rfl | rfl<;>rfl
  refine Z59 hel hh hc hln hz h0 hb (by simpa using hl) ha.flatten (by simp) (fun h1=>?_) (fun h1 h2=>by omega) (fun h1 h2 cap' hcap=>?_)
  ·have:ys=[]:=List.eq_nil_of_length_eq_zero h1
   subst this;exact hk _ _ (by simpa using hm) (.inl ⟨.refl,rfl⟩)
  ·simp only[Nat.zero_add] at hcap ⊢;refine hk _ _ (key cap' (by simpa using hcap) _ ?_) (.inr ⟨(Same.refl.setBox (.inr (Nat.le_refl _))).next,by simp[labs]⟩);simp[rowBox]
 ·have hrc:=Z4f (n:=n) (off:=0) (k:=xs.length) (cap:=cap) hal hbx (by simp);have hh:appHdr h n (.mrow l 0 xs.length cap)=some (xs.length,cap,xs.flatten,some (l,0)):=by
   simp only[Nat.zero_mul,List.drop_zero,List.take_length] at hrc;show (match Z0i h n (.mrow l 0 xs.length cap) with | some cs=>_ | none=>_)=_;rw[hrc]
  refine Z59 hel hh hc hln hz h0 hb hl ha.flatten hal.flatten (fun h1=>?_) (fun h1 h2 l' off he=>?_) (fun h1 h2 cap' hcap'=>?_)
  ·have:ys=[]:=List.eq_nil_of_length_eq_zero h1
   subst this;exact hk _ _ (by simpa using hm) (.inl ⟨.refl,rfl⟩)
  ·simp only[Option.some.injEq,Prod.mk.injEq] at he;obtain⟨rfl,rfl⟩:=he;have hle:(xs.length+ys.length) * n≤cap * n:=Nat.mul_le_mul_right n h2;refine⟨_,hbx,by rw[hcap];omega,?_⟩;have hput:=Zbr (sp:=sp) (i:=xs.length) hal ha (Nat.le_refl _);rw[List.take_length] at hput;rw[Nat.zero_add,hput];refine hk _ _ ⟨hal.app ha,by simpa using hl,.inr ⟨l,cap,(rowBox xs sp).drop ((xs.length+ys.length) * n),by simp,by simp,?_⟩⟩ (.inl ⟨Same.refl.setBox (.inl (by simp[labs])),rfl⟩);rw[Z04 (hal.app ha),List.length_drop,hcap,List.length_append];omega
  ·have hk2:=key cap' (by simpa using hcap') (((h.setBox (h.ep,16 * d) (xs.flatten++ys.flatten++List.replicate ((cap' - (xs.length+ys.length)) * n) .any)).next)) (by simp[rowBox]);rw[List.length_append] at hk2;refine hk _ _ hk2 (.inr ⟨(Same.refl.setBox (.inr (Nat.le_refl _))).next,by simp[labs]⟩)
end Go.Am
namespace Go.Proofs.YthiojhcimecdgaaGreatDoor
open Go Go.Am
theorem Zdh {α:Type} (lt:α→α→Bool):∀ (k i:Nat) (ws:List α),(outerS lt k i ws).Perm ws
 | 0,_,ws=>.refl _
 | k+1,i,ws=>(Zdh lt k (i+1) _).trans (Zdo lt i ws)
theorem Zeu {α β:Type} {lt:α→α→Bool} {lt':β→β→Bool} {f:α→β} (hl:∀ x y,lt' (f x) (f y)=lt x y):∀ (j:Nat) (ws:List α),innerS lt' j (ws.map f)=(innerS lt j ws).map f
 | 0,ws=>rfl
 | j+1,ws=>by
   unfold innerS;rw[List.getElem?_map,List.getElem?_map];cases h1:ws[j+1]? with
   | none=>rfl
   | some x=>
     cases h2:ws[j]? with
     | none=>rfl
     | some y=>
       simp only[Option.map_some,hl];cases lt x y with
       | false=>rfl
       | true=>
         simp only[if_true];rw[← Zeu hl j,List.map_set,List.map_set]
theorem Z9l {α β:Type} {lt:α→α→Bool} {lt':β→β→Bool} {f:α→β} (hl:∀ x y,lt' (f x) (f y)=lt x y):∀ (k i:Nat) (ws:List α),outerS lt' k i (ws.map f)=(outerS lt k i ws).map f
 | 0,_,ws=>rfl
 | k+1,i,ws=>by
   simp only[outerS];rw[Zeu hl,Z9l hl k]
end Go.Proofs.YthiojhcimecdgaaGreatDoor
end
