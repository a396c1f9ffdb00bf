/- joined by a program out of 39 texts -/
import Derived.Test.YtbcejndfbklikaaGreatDoorJ1
import Derived.Orders
import Derived.IntWalk
import Derived.Laws.StructEq
import Derived.Test.YtbcejndfbklikaaGreatDoorProg
import Derived.KernelRfl
import Derived.Lib.Bytealg
import Derived.Test.YtbcejndfbklikaaGreatDoorCards
import Derived.LaidLaws
import Derived.MakeChecks
import Derived.Shelf.Vars
import Derived.Lib.LaidTab
import Derived.WalkKit
import Derived.LoopTactic
import Derived.Lib.ConvBytes
import Derived.Lib.Hide
set_option linter.unusedVariables false
set_option linter.unusedSimpArgs false
set_option maxRecDepth 20000
open Go.Proofs.Tryz(prog)
open ByteArray(empty)
section
namespace Go.Am
open Go
def Real (e : Env) (h : HS) : Prop := ∃ (Γ : Ctx) (μ : Mem) (w : World) (a : Act), Inv Γ h μ w ∧ EnvRel μ e a
def BoxLe (h h1 : HS) : Prop := ∀ l cs, h.box l = some cs → h1.box l = some cs
theorem BoxLe.refl (h : HS) : BoxLe h h := fun _ _ x => x
theorem Real.fresh {e : Env} {h : HS} (hr : Real e h) {l : Lab} {cs : List C} (hl : h.box l = some cs) : l.1 < h.ep := by
  obtain ⟨Γ, μ, w, a, hI, hE⟩ := hr
  exact hI.live_loc (.inl (by simp [hl]))
section
variable {P : Program}
theorem Zi2 {h h1 : HS} (hb : BoxLe h h1) {c : C} {n : Nat} {l : List C} (hr : readAt h c n = some l) : readAt h1 c n = some l := by
  cases c with
  | ptr k off =>
    simp only [readAt] at hr ⊢
    cases hk : h.box k with
    | none => simp [hk] at hr
    | some cs => rw [hb k cs hk]; simpa [hk] using hr
  | rp cs => exact hr
  | _ => cases hr
theorem Zdd {α β : Type} {f g : α → Option β} : ∀ {l : List α}, (∀ x ∈ l, f x = g x) → l.mapM f = l.mapM g
  | [], _ => rfl
  | x :: l, h => by
    rw [List.mapM_cons, List.mapM_cons, h x (by simp), Zdd (l := l) (fun y hy => h y (by simp [hy]))]
def loadKind : Op → Bool
  | .load _ _ => true
  | _ => false
theorem Zjh {op : Op} {e e1 : Env} {h h1 : HS} (ho : ∀ x ∈ op.operands, e1.ev x = e.ev x) (hb : loadKind op = true → BoxLe h h1) {v : V} (hv : eff P op e h = some v) : eff P op e1 h1 = some v := by
  cases op with
  | load t x =>
    have h1' := ho x (by simp [Op.operands])
    simp only [eff] at hv ⊢
    rw [h1']
    cases hl : ldT P t with
    | none => simp [hl] at hv
    | some z =>
      obtain ⟨ag, n⟩ := z
      simp only [hl] at hv ⊢
      cases hx : e.ev x with
      | one c =>
        simp only [hx] at hv ⊢
        cases hr : readAt h c n with
        | none => simp [hr] at hv
        | some l => rw [Zi2 (hb rfl) hr]; simpa [hr] using hv
      | _ => simp [hx] at hv
  | makeFunc fn first caps =>
    cases fn with
    | func f =>
      simp only [eff] at hv ⊢
      have hm : caps.toList.mapM (fun x => match e1.ev x with | .one (.ptr l 0) => some (Cap.lab l) | .one (.rp cs) => some (Cap.rp cs) | _ => none) =
          caps.toList.mapM (fun x => match e.ev x with | .one (.ptr l 0) => some (Cap.lab l) | .one (.rp cs) => some (Cap.rp cs) | _ => none) :=
        Zdd fun x hx => by rw [ho x (by simp [Op.operands]; exact .inr (by simpa using hx))]
      cases hemp : first.isEmpty with
      | false => simp [hemp] at hv
      | true =>
        simp only [hemp, if_true] at hv ⊢
        exact (congrArg (fun z : Option (List Cap) => match z with | some l => some (V.one (C.fn f l)) | none => none) hm).trans hv
    | _ => simp [eff] at hv
  | call c =>
    simp only [eff] at hv ⊢
    have ha : ∀ x ∈ c.args.toList, e1.ev x = e.ev x := fun x hx => ho x (by simp [Op.operands, Call.operands]; exact .inr (by simpa using hx))
    split at hv
    · rename_i x y hc hl
      rw [hl] at ha
      simp only [ha x (by simp), ha y (by simp)]
      exact hv
    · rename_i x y hc hl
      rw [hl] at ha
      simp only [ha x (by simp), ha y (by simp)]
      exact hv
    · cases hv
  | slice t x lo hi mx =>
    have hx := ho x (by simp [Op.operands])
    have hb : ∀ y : Option Operand, (∀ z, y = some z → z ∈ (Op.slice t x lo hi mx).operands) → boundV e1 y = boundV e y := fun y hy => by
      cases y with
      | none => rfl
      | some z => simp only [boundV, ho z (hy z rfl)]
    simp only [eff, hx, hb lo (fun z hz => by simp [Op.operands, hz]), hb hi (fun z hz => by simp [Op.operands, hz]), hb mx (fun z hz => by simp [Op.operands, hz])] at hv ⊢
    cases hi with
    | none => cases lo <;> cases mx <;> exact hv
    | some y =>
      have hy := ho y (by simp [Op.operands])
      cases lo <;> cases mx <;> first | exact hv | (simp only [hy] at hv ⊢; exact hv)
  | _ => simp only [Op.operands] at ho; simp only [eff] at hv ⊢; simp_all
def Z55 : Op → Bool
  | .move _ => true
  | .assign _ => true
  | .pick _ _ _ => true
  | .unOp _ _ _ => true
  | .fieldAddr _ _ _ => true
  | .field _ _ _ => true
  | .load _ _ => true
  | .indexAddr _ _ _ => true
  | .index _ _ _ => true
  | .extract _ _ => true
  | .slice _ _ _ _ _ => true
  | .makeFunc _ _ _ => true
  | .nilCheck _ => true
  | .convert _ _ _ => true
  | .binOp _ _ _ y _ => !isNilConst y
  | .call c => match c.callee with
    | .builtin .len => true
    | .builtin .max => true
    | .builtin .min => true
    | _ => false
  | _ => false
def storeKind : Op → Bool
  | .store _ _ _ => true
  | .call c => match c.callee with
    | .builtin .append => true
    | .builtin .copy => true
    | .builtin .clear => true
    | _ => false
  | _ => false
def Gives1 (P : Program) (o : Oper) (e : Env) (h : HS) (v : V) : Prop :=
  ∀ e1 h1 (K : Env → HS → Prop), (∀ x ∈ o.op.operands, e1.ev x = e.ev x) → (loadKind o.op = true → BoxLe h h1) → K (e1.put o.dst v) h1 → vcOp P o e1 h1 K
theorem Zb4 {e : Env} {h : HS} {d : Option Nat} {v : V} (hr : Real e h) (hd : ∀ k, d = some k → k < e.n) (hv : ∀ Γ μ w a, Inv Γ h μ w → EnvRel μ e a → ∃ u, RepV μ v u) : Real (e.put d v) h := by
  obtain ⟨Γ, μ, w, a, hI, hE⟩ := hr
  obtain ⟨u, hu⟩ := hv Γ μ w a hI hE
  exact ⟨Γ, μ, w, _, hI, hE.put hd hu⟩
theorem dst_lt {o : Oper} {e : Env} (hd : dstOK o e) : ∀ k, o.dst = some k → k < e.n := fun k hk => by
  unfold dstOK at hd; rw [hk] at hd; exact hd
theorem Zpq {o : Oper} {e : Env} {h : HS} {K : Env → HS → Prop} {v : V} (hr : Real e h) (hd : dstOK o e) (hv : eff P o.op e h = some v) (hK : K (e.put o.dst v) h)
    (hvc : ∀ e1 h1 (K1 : Env → HS → Prop), eff P o.op e1 h1 = some v → K1 (e1.put o.dst v) h1 → vcOp P o e1 h1 K1) :
    ∃ v, K (e.put o.dst v) h ∧ Real (e.put o.dst v) h ∧ Gives1 P o e h v :=
  ⟨v, hK, Zb4 hr (dst_lt hd) (fun Γ μ w a hI hE => by obtain ⟨u, _, hu⟩ := Zdo (o := o) hI hE hv; exact ⟨u, hu⟩),
    fun e1 h1 K1 ho hb hk => hvc e1 h1 K1 (Zjh ho hb hv) hk⟩
theorem Zla {e : Env} {h : HS} (hr : Real e h) {x : Operand} {c : C} {xs : List (List D)} (hx : e.ev x = .one c) (hc : c.list? = some xs) : xs.length ≤ LIM := by
  obtain ⟨Γ, μ, w, a, hI, hE⟩ := hr
  have hv := ev_rep hE x
  rw [hx] at hv
  cases c with
  | d y =>
    cases y with
    | sl ys =>
      simp [C.list?] at hc
      subst hc
      have hv' : RepD μ.cell (.sl ys) (a.eval x) := hv
      generalize a.eval x = u at hv'
      cases hv' with
      | sl _ _ _ _ _ _ _ hl => exact hl
    | _ => simp [C.list?] at hc
  | own l ys =>
    simp [C.list?] at hc
    subst hc
    have hv' : RepD μ.cell (.sl ys) (a.eval x) := hv.1
    generalize a.eval x = u at hv'
    cases hv' with
    | sl _ _ _ _ _ _ _ hl => exact hl
  | nil => simp [C.list?] at hc; subst hc; simp
  | z => simp [C.list?] at hc; subst hc; simp
  | _ => simp [C.list?] at hc
theorem Zn1 {o : Oper} {e : Env} {h : HS} {K : Env → HS → Prop} (hp : Z55 o.op = true) (hr : Real e h) (hd : dstOK o e) (hv : vcOp P o e h K) :
    ∃ v, K (e.put o.dst v) h ∧ Real (e.put o.dst v) h ∧ Gives1 P o e h v := by
  have eff_case : (∀ (e : Env) (h : HS) (K : Env → HS → Prop), vcOp P o e h K → ∃ v, eff P o.op e h = some v ∧ K (e.put o.dst v) h) →
      (∀ (e : Env) (h : HS) (K : Env → HS → Prop) v, eff P o.op e h = some v → K (e.put o.dst v) h → vcOp P o e h K) → ∃ v, K (e.put o.dst v) h ∧ Real (e.put o.dst v) h ∧ Gives1 P o e h v := fun h1 h2 => by
    obtain ⟨v, hve, hk⟩ := h1 _ _ _ hv
    exact Zpq hr hd hve hk (fun e1 h1 K1 h3 h4 => h2 _ _ _ _ h3 h4)
  cases ho : o.op with
  | binOp op t x y t' =>
    have hnil : isNilConst y = false := by rw [ho] at hp; simpa [Z55] using hp
    simp only [vcOp, ho, hnil, Y1k, if_false] at hv
    split at hv
    · rename_i cs cs' hx hy
      split at hv
      · rename_i a b ha hb
        refine ⟨_, hv.2, Zb4 hr (dst_lt hd) (fun Γ μ w a hI hE => ⟨_, RepD.bool _⟩), fun e1 h1 K1 h2 h3 h4 => ?_⟩
        rw [ho] at h2
        simp only [vcOp, ho, hnil, Y1k, if_false, h2 x (by simp [Op.operands]), h2 y (by simp [Op.operands]), hx, hy, ha, hb]
        exact ⟨hv.1, h4⟩
      · exact hv.elim
    · rename_i hn
      split at hv
      · rename_i r hrr
        have he : eff P o.op e h = some r := by rw [ho]; exact hrr
        refine ⟨r, hv, Zb4 hr (dst_lt hd) (fun Γ μ w a hI hE => by obtain ⟨u, _, hu⟩ := Zdo (o := o) hI hE he; exact ⟨u, hu⟩), fun e1 h1 K1 h2 h3 h4 => ?_⟩
        rw [ho] at h2
        simp only [vcOp, ho, hnil, Y1k, if_false, h2 x (by simp [Op.operands]), h2 y (by simp [Op.operands])]
        generalize e.ev x = X at *
        generalize e.ev y = Y at *
        cases X with
        | agg cs => cases Y with
          | agg cs' => exact (hn cs cs' rfl rfl).elim
          | _ => simp only [hrr]; exact h4
        | _ => simp only [hrr]; exact h4
      · exact hv.elim
  | call c =>
    rw [ho] at hp
    cases hc : c.callee with
    | value f => simp [Z55, hc] at hp
    | invoke r m => simp [Z55, hc] at hp
    | builtin b =>
      cases b with
      | len =>
        simp only [vcOp, ho, hc] at hv
        split at hv
        · rename_i x t hx ht
          obtain ⟨y, hy, hey⟩ := Zfr hx
          have key : ∃ n : Nat, K (e.put o.dst (dint .i64 n)) h ∧ ∀ e1 h1 (K1 : Env → HS → Prop), K1 (e1.put o.dst (dint .i64 n)) h1 → vcLen P t x o e1 h1 K1 := by
            unfold vcLen at hv ⊢
            cases hl : lenT P t with
            | none => simp [hl] at hv
            | some s =>
              cases s with
              | true =>
                simp only [hl] at hv ⊢
                split at hv
                · exact ⟨_, hv, fun e1 h1 K1 hk => hk⟩
                · exact hv.elim
              | false =>
                simp only [hl] at hv ⊢
                split at hv
                · exact ⟨_, hv, fun e1 h1 K1 hk => hk⟩
                · split at hv
                  · rename_i xs hxs
                    refine ⟨xs.length, hv (Zla hr hey hxs), fun e1 h1 K1 hk => ?_⟩
                    exact fun _ => hk
                  · exact hv.elim
          obtain ⟨n, hk, hall⟩ := key
          refine ⟨_, hk, Zb4 hr (dst_lt hd) (fun Γ μ w a hI hE => ⟨_, RepD.int _ _⟩), fun e1 h1 K1 h2 h3 h4 => ?_⟩
          rw [ho] at h2
          have h2' : e1.ev y = e.ev y := h2 y (by simp [Op.operands, Call.operands, hc]; have : y ∈ c.args.toList := by rw [hy]; simp
                                                  simpa using this)
          simp only [vcOp, ho, hc, hy, ht, Y0d, Y0g, h2', hey]
          exact hall e1 h1 K1 h4
        · exact hv.elim
      | max => exact eff_case (fun e h K hv => by
        simp only [vcOp, ho, hc] at hv ⊢
        split at hv
        · exact ⟨_, by assumption, hv⟩
        · exact hv.elim) (fun e h K v h1 h2 => by
        rw [ho] at h1
        simp only [vcOp, ho, hc, h1]
        exact h2)
      | min => exact eff_case (fun e h K hv => by
        simp only [vcOp, ho, hc] at hv ⊢
        split at hv
        · exact ⟨_, by assumption, hv⟩
        · exact hv.elim) (fun e h K v h1 h2 => by
        rw [ho] at h1
        simp only [vcOp, ho, hc, h1]
        exact h2)
      | _ => simp [Z55, hc] at hp
  | move x => exact eff_case (fun e h K hv => by
        simp only [vcOp, ho] at hv ⊢
        split at hv
        · exact ⟨_, by assumption, hv⟩
        · exact hv.elim) (fun e h K v h1 h2 => by
        rw [ho] at h1
        simp only [vcOp, ho, h1]
        exact h2)
  | assign x => exact eff_case (fun e h K hv => by
        simp only [vcOp, ho] at hv ⊢
        split at hv
        · exact ⟨_, by assumption, hv⟩
        · exact hv.elim) (fun e h K v h1 h2 => by
        rw [ho] at h1
        simp only [vcOp, ho, h1]
        exact h2)
  | pick x y z => exact eff_case (fun e h K hv => by
        simp only [vcOp, ho] at hv ⊢
        split at hv
        · exact ⟨_, by assumption, hv⟩
        · exact hv.elim) (fun e h K v h1 h2 => by
        rw [ho] at h1
        simp only [vcOp, ho, h1]
        exact h2)
  | unOp op t x => exact eff_case (fun e h K hv => by
        simp only [vcOp, ho] at hv ⊢
        split at hv
        · exact ⟨_, by assumption, hv⟩
        · exact hv.elim) (fun e h K v h1 h2 => by
        rw [ho] at h1
        simp only [vcOp, ho, h1]
        exact h2)
  | fieldAddr t x f => exact eff_case (fun e h K hv => by
        simp only [vcOp, ho] at hv ⊢
        split at hv
        · exact ⟨_, by assumption, hv⟩
        · exact hv.elim) (fun e h K v h1 h2 => by
        rw [ho] at h1
        simp only [vcOp, ho, h1]
        exact h2)
  | field t x f => exact eff_case (fun e h K hv => by
        simp only [vcOp, ho] at hv ⊢
        split at hv
        · exact ⟨_, by assumption, hv⟩
        · exact hv.elim) (fun e h K v h1 h2 => by
        rw [ho] at h1
        simp only [vcOp, ho, h1]
        exact h2)
  | load t x => exact eff_case (fun e h K hv => by
        simp only [vcOp, ho] at hv ⊢
        split at hv
        · exact ⟨_, by assumption, hv⟩
        · exact hv.elim) (fun e h K v h1 h2 => by
        rw [ho] at h1
        simp only [vcOp, ho, h1]
        exact h2)
  | indexAddr t x y => exact eff_case (fun e h K hv => by
        simp only [vcOp, ho] at hv ⊢
        split at hv
        · exact ⟨_, by assumption, hv⟩
        · exact hv.elim) (fun e h K v h1 h2 => by
        rw [ho] at h1
        simp only [vcOp, ho, h1]
        exact h2)
  | index t x y => exact eff_case (fun e h K hv => by
        simp only [vcOp, ho] at hv ⊢
        split at hv
        · exact ⟨_, by assumption, hv⟩
        · exact hv.elim) (fun e h K v h1 h2 => by
        rw [ho] at h1
        simp only [vcOp, ho, h1]
        exact h2)
  | slice t x lo hi mx =>
    exact eff_case (fun e h K hv => by
        simp only [vcOp, ho] at hv ⊢
        split at hv
        · exact ⟨_, by assumption, hv⟩
        · exact hv.elim) (fun e h K v h1 h2 => by
        rw [ho] at h1
        simp only [vcOp, ho, h1]
        exact h2)
  | extract x i => exact eff_case (fun e h K hv => by
        simp only [vcOp, ho] at hv ⊢
        split at hv
        · exact ⟨_, by assumption, hv⟩
        · exact hv.elim) (fun e h K v h1 h2 => by
        rw [ho] at h1
        simp only [vcOp, ho, h1]
        exact h2)
  | makeFunc f x y => exact eff_case (fun e h K hv => by
        simp only [vcOp, ho] at hv ⊢
        split at hv
        · exact ⟨_, by assumption, hv⟩
        · exact hv.elim) (fun e h K v h1 h2 => by
        rw [ho] at h1
        simp only [vcOp, ho, h1]
        exact h2)
  | nilCheck x => exact eff_case (fun e h K hv => by
        simp only [vcOp, ho] at hv ⊢
        split at hv
        · exact ⟨_, by assumption, hv⟩
        · exact hv.elim) (fun e h K v h1 h2 => by
        rw [ho] at h1
        simp only [vcOp, ho, h1]
        exact h2)
  | convert s t x => exact eff_case (fun e h K hv => by
        simp only [vcOp, ho] at hv ⊢
        split at hv
        · exact ⟨_, by assumption, hv⟩
        · exact hv.elim) (fun e h K v h1 h2 => by
        rw [ho] at h1
        simp only [vcOp, ho, h1]
        exact h2)
  | _ => rw [ho] at hp; simp [Z55] at hp
end
end Go.Am
end
section
namespace Go.Am
open Go
section
variable {P:Program}
theorem Zds {pl:List (Nat × Nat)} {e e1:Env}:∀ {ps:List (Nat × Operand)} {cs:List C},(∀ x ∈ ps.map (·.2),e1.ev x=e.ev x)->fillV pl e1 ps cs=fillV pl e ps cs
 | [],_,_=>rfl
 | (f,x)::r,cs,h=>by
   have hx:=h x (by simp);simp only[fillV,hx];cases pl[f]? with
   | none=>rfl
   | some z=>
     dsimp only
     split
     .exact Zds (fun y hy=>h y (by simp only[Y0d,Y08];exact .inr hy))
     .rfl
theorem Zcd {e e1:Env} {n:Nat}:∀ {ps:List (Nat × Operand)} {k:Nat},(∀ x ∈ ps.map (·.2),e1.ev x=e.ev x)->elemsV e1 n ps k=elemsV e n ps k
 | [],_,_=>rfl
 | (f,x)::r,k,h=>by
   have hx:=h x (by simp);simp only[elemsV,hx];rw[Zcd (ps:=r) (fun y hy=>h y (by simp only[Y0d,Y08];exact .inr hy))]
theorem Zcf {e e1:Env} {n:Nat}:∀ {ps:List (Nat × Operand)} {k:Nat},(∀ x ∈ ps.map (·.2),e1.ev x=e.ev x)->cellsV e1 n ps k=cellsV e n ps k
 | [],_,_=>rfl
 | (f,x)::r,k,h=>by
   have hx:=h x (by simp);simp only[cellsV,hx];rw[Zcf (ps:=r) (fun y hy=>h y (by simp only[Y0d,Y08];exact .inr hy))]
theorem Zjt {op:BinOp} {t:TypeId} {c:C} {K K1:V->Prop} (hK:∀ v,K v->K1 v) (hv:vcNil P op t c K):vcNil P op t c K1:=by
 obtain⟨h1,hv⟩:=hv;refine⟨h1,?_⟩;split at hv
 .exact hK _ hv
 .exact hK _ hv
 .split at hv
  .exact fun b hb=>hK _ (hv b hb)
  .exact hv
theorem Zfa {t:TypeId} {c x:C} {d:Nat} {h:HS} {K K1:V->HS->Prop} (hK:∀ v h',K v h'->K1 v h') (hv:Z6i P t c x d h K):Z6i P t c x d h K1:=by
 unfold Z6i at hv |-;split at hv
 .split at hv
  .exact⟨hv.1,hK _ _ hv.2⟩
  .exact hv
 .exact hv
theorem Ze7 {t:TypeId} {c x:C} {d:Nat} {h:HS} {K K1:V->HS->Prop} (hK:∀ v h',K v h'->K1 v h') (hv:Z5t P t c x d h K):Z5t P t c x d h K1:=by
 unfold Z5t at hv |-;split at hv
 .split at hv
  .obtain⟨h1,h2,h3,h4⟩:=hv;refine⟨h1,fun q=>hK _ _ (h2 q),fun q r l off hp=>?_,fun q r cap' hc=>hK _ _ (h4 q r cap' hc)⟩;obtain⟨cs,h5,h6,h7⟩:=h3 q r l off hp;exact⟨cs,h5,h6,hK _ _ h7⟩
  .exact hv
 .exact hv
theorem Ze6 {t t':TypeId} {c x:C} {d:Nat} {h:HS} {K K1:V->HS->Prop} (hK:∀ v h',K v h'->K1 v h') (hv:Z8d P t t' c x d h K):Z8d P t t' c x d h K1:=by
 unfold Z8d at hv |-;obtain⟨h1,hv⟩:=hv;refine⟨h1,?_⟩;split at hv
 .split at hv
  .exact⟨hv.1,fun c hc=>hK _ _ (hv.2 c hc)⟩
  .split at hv
   .exact⟨hv.1,fun c hc=>hK _ _ (hv.2 c hc)⟩
   .exact hv
  .exact hv
 .exact hv
theorem Zhu {t:TypeId} {c x:C} {d:Nat} {h:HS} {K K1:V->HS->Prop} (hK:∀ v h',K v h'->K1 v h') (hv:vcCopy P t c x d h K):vcCopy P t c x d h K1:=by
 unfold vcCopy at hv |-;split at hv
 .split at hv
  .split at hv
   .exact⟨hv.1,hK _ _ hv.2⟩
   .exact hv
  .exact hv
 .exact hv
theorem Zgn {t:TypeId} {c:C} {d:Nat} {h:HS} {K K1:V->HS->Prop} (hK:∀ v h',K v h'->K1 v h') (hv:Z95 P t c d h K):Z95 P t c d h K1:=by
 unfold Z95 at hv |-;split at hv
 .split at hv
  .split at hv
   .exact⟨hv.1,hK _ _ hv.2⟩
   .exact hv
  .exact hK _ _ hv
  .exact hK _ _ hv
  .exact hv
 .exact hv
theorem Zbg {e:Env} {h:HS} (hr:Real e h) {k:Nat} {cs:List C}:BoxLe h ((h.setBox (h.ep,k) cs).next):=fun l c hl=>by
 have:=hr.fresh hl
 have hne:l≠(h.ep,k):=fun he=>by rw[he] at this;exact absurd this (Nat.lt_irrefl _)
 show (if l=(h.ep,k) then some cs else h.box l)=some c;rw[if_neg hne];exact hl
theorem Zm1 {h:HS} {c:C}:(C.useUp h c).box=h.box:=by cases c<;>rfl
def callKind:Op->Bool
 | .call c=>match c.callee with
   | .value _=>true
   | _=>false
 | _=>false
theorem Z7a {op:Op} (h:Z55 op=true):callKind op=false:=by
 cases op<;>simp_all [Z55,callKind];rename_i c;cases hc:c.callee<;>simp_all
theorem Zbi {o:Oper} {e e1:Env} {h:HS} {K K1:Env->HS->Prop} (hr:Real e h) (ho:∀ x ∈ o.op.operands,e1.ev x=e.ev x)
  (hK:∀ v h',(storeKind o.op=false->callKind o.op=false->BoxLe h h')->K (e.put o.dst v) h'->K1 (e1.put o.dst v) h') (hv:vcOp P o e h K):vcOp P o e1 h K1:=by
 have eff_case:(∀ (e:Env) (h:HS) (K:Env->HS->Prop),vcOp P o e h K->∃ v,eff P o.op e h=some v/\K (e.put o.dst v) h) ->
   (∀ (e:Env) (h:HS) (K:Env->HS->Prop) v,eff P o.op e h=some v->K (e.put o.dst v) h->vcOp P o e h K)->vcOp P o e1 h K1:=fun h1 h2=>by
  obtain⟨v,hve,hk⟩:=h1 _ _ _ hv;exact h2 _ _ _ v (Zjh ho (fun _=>BoxLe.refl h) hve) (hK _ _ (fun _ _=>BoxLe.refl h) hk)
 cases hop:o.op with
 | store t x y=>
   rw[hop] at ho hK;have hx:=ho x (by simp[Op.operands]);have hy:=ho y (by simp[Op.operands]);simp only[vcOp,hop,hx,hy] at hv |-;split at hv
   .split at hv
    .split at hv
     .exact⟨hv.1,hK _ _ (fun hs _=>by simp[storeKind] at hs) hv.2⟩
     .exact hv
    .exact hv
   .exact hv
 | box t x=>
   rw[hop] at ho;have hx:=ho x (by simp[Op.operands]);simp only[vcOp,hop,hx] at hv |-;exact⟨hv.1,hK _ _ (fun _ _=>Zbg hr) hv.2⟩
 | alloc t=>
   simp only[vcOp,hop] at hv |-;split at hv
   .exact hK _ _ (fun _ _=>Zbg hr) hv
   .exact hv
 | build t ps=>
   rw[hop] at ho;have hps:∀ x ∈ ps.toList.map (·.2),e1.ev x=e.ev x:=fun x hx=>ho x (by simpa[Op.operands] using hx);simp only[vcOp,hop,Zds hps] at hv |-;split at hv
   .split at hv
    .exact hK _ _ (fun _ _=>BoxLe.refl h) hv
    .exact hv
   .exact hv
 | buildSlice t len ps=>
   rw[hop] at ho;have hps:∀ x ∈ ps.toList.map (·.2),e1.ev x=e.ev x:=fun x hx=>ho x (by simpa[Op.operands] using hx);simp only[vcOp,hop,Zcd hps] at hv |-;split at hv
   .split at hv
    .exact hv.imp (fun hv=>⟨hv.1,hK _ _ (fun _ _=>fun l c hl=>hl) hv.2⟩) (fun hv=>⟨hv.1,hK _ _ (fun _ _=>BoxLe.refl h) hv.2⟩)
    .rw[Zcf hps];split at hv
     .exact⟨hv.1,hK _ _ (fun _ _=>Zbg hr) hv.2⟩
     .exact hv
   .exact hv
 | makeSlice t x y=>
   rw[hop] at ho;have hx:=ho x (by simp[Op.operands]);have hy:=ho y (by simp[Op.operands]);simp only[vcOp,hop,hx,hy] at hv |-;unfold vcMake at hv |-;split at hv
   .split at hv
    .rename_i h1 h2 h3;simp only[h1,h2,h3];exact⟨hv.1,hK _ _ (fun _ _=>Zbg hr) hv.2⟩
    .exact hv.elim
   .exact hv.elim
 | binOp op t x y t'=>
   have ho':=ho;rw[hop] at ho;have hx:=ho x (by simp[Op.operands]);have hy:=ho y (by simp[Op.operands]);simp only[vcOp,hop,hx,hy] at hv |-
   by_cases hnil:isNilConst y=true
   .rw[if_pos hnil] at hv |-;unfold vcNilV at hv |-;split at hv
    .exact Zjt (fun v hk=>hK v h (fun _ _=>BoxLe.refl h) hk) hv
    .exact hv
   rw[if_neg hnil] at hv |-;split at hv
   .split at hv
    .exact⟨hv.1,hK _ _ (fun _ _=>BoxLe.refl h) hv.2⟩
    .exact hv
   .rename_i hn;split at hv
    .rename_i r hrr
     have:=hK _ _ (fun _ _=>BoxLe.refl h) hv
     generalize e.ev x=X at *;generalize e.ev y=Y at *;cases X with
     | agg cs=>cases Y with
       | agg cs'=>exact (hn cs cs' rfl rfl).elim
       | _=>first
         | exact this
         | (simp only[hrr];exact this)
     | _=>first
       | exact this
       | (simp only[hrr];exact this)
    .exact hv.elim
 | call c=>
   rw[hop] at ho;have ha:∀ x ∈ c.args.toList,e1.ev x=e.ev x:=fun x hx=>ho x (by simp[Op.operands,Call.operands];exact .inr (by simpa using hx));have hm:c.args.toList.map e1.ev=c.args.toList.map e.ev:=Y2y ha;cases hc:c.callee with
   | value f=>
     have hf:e1.ev f=e.ev f:=ho f (by simp[Op.operands,Call.operands,hc]);simp only[vcOp,hop,hc,hf,hm] at hv |-;have hck:callKind o.op=true:=by rw[hop];simp[callKind,hc]
     split at hv
     .rcases hv with ⟨ars,cs,has,hcs,r,hs,hk⟩ | hv | ⟨v,hx,hk⟩
      .exact .inl ⟨ars,cs,has,hcs,r,hs,hK _ _ (fun _ hq=>by rw[hck] at hq;cases hq) hk⟩
      .exact .inr (.inl ⟨hv.1,fun Γ μ w vals hI hR=>(hv.2 Γ μ w vals hI hR).mono fun en w' ⟨u,v,h',μ',h1,h2,h3⟩=>⟨u,v,h',μ',h1,hK _ _ (fun _ hq=>by rw[hck] at hq;cases hq) h2,h3⟩⟩)
      .exact .inr (.inr ⟨v,hx,hK _ _ (fun _ hq=>by rw[hck] at hq;cases hq) hk⟩)
     .exact hv
   | invoke r m=>simp only[vcOp,hop,hc,eff] at hv
   | builtin b=>
     cases b with
     | len=>
       simp only[vcOp,hop,hc,hm] at hv |-;split at hv
       .unfold vcLen at hv |-;split at hv
        .split at hv
         .exact hK _ _ (fun _ _=>BoxLe.refl h) hv
         .exact hv
        .split at hv
         .exact hK _ _ (fun _ _=>BoxLe.refl h) hv
         .split at hv
          .exact fun hb=>hK _ _ (fun _ _=>BoxLe.refl h) (hv hb)
          .exact hv
        .exact hv
       .exact hv
     | append=>
       have hst:storeKind o.op=true:=by rw[hop];simp[storeKind,hc]
       simp only[vcOp,hop,hc,hm] at hv |-;split at hv
       .have hKK:∀ v h',K (e.put o.dst v) h'->K1 (e1.put o.dst v) h':=fun v h' hk=>hK v h' (fun hq=>by rw[hst] at hq;cases hq) hk;exact hv.imp (fun hv=>⟨hv.1,hv.2.imp (Zfa hKK) (Ze7 hKK)⟩) (Ze6 hKK)
       .exact hv
     | cap=>
       simp only[vcOp,hop,hc,hm] at hv |-;split at hv
       .obtain⟨h1,hv⟩:=hv;refine⟨h1,?_⟩;split at hv<;>first | exact hK _ _ (fun _ _=>BoxLe.refl h) hv | exact hv
       .exact hv
     | copy=>
       have hst:storeKind o.op=true:=by rw[hop];simp[storeKind,hc]
       simp only[vcOp,hop,hc,hm] at hv |-;split at hv
       .exact⟨hv.1,Zhu (fun v h' hk=>hK v h' (fun hq=>by rw[hst] at hq;cases hq) hk) hv.2⟩
       .exact hv
     | clear=>
       have hst:storeKind o.op=true:=by rw[hop];simp[storeKind,hc]
       simp only[vcOp,hop,hc,hm] at hv |-;split at hv
       .exact Zgn (fun v h' hk=>hK v h' (fun hq=>by rw[hst] at hq;cases hq) hk) hv
       .exact hv
     | max=>exact eff_case (fun e h K hv=>by
       simp only[vcOp,hop,hc] at hv |-;split at hv
       .exact⟨_,by assumption,hv⟩
       .exact hv.elim) (fun e h K v h1 h2=>by
       rw[hop] at h1;simp only[vcOp,hop,hc,h1];exact h2)
     | min=>exact eff_case (fun e h K hv=>by
       simp only[vcOp,hop,hc] at hv |-;split at hv
       .exact⟨_,by assumption,hv⟩
       .exact hv.elim) (fun e h K v h1 h2=>by
       rw[hop] at h1;simp only[vcOp,hop,hc,h1];exact h2)
     | _=>simp only[vcOp,hop,hc,eff] at hv
 | _=>exact eff_case (fun e h K hv=>by
     simp only[vcOp,hop] at hv |-;split at hv
     .exact⟨_,by assumption,hv⟩
     .exact hv.elim) (fun e h K v h1 h2=>by
     rw[hop] at h1;simp only[vcOp,hop,h1];exact h2)
def vcG (P:Program) (all:List Oper) (o:Oper) (e:Env) (h:HS) (K:Env->HS->Prop):Prop:=dstOK o e /\
    match o.guard with
    | none=>vcOp P o e h K
    | some (j,want)=>match Z64 all e j with
      | .one (.d (.bool b))=>(b=want->vcOp P o e h K)/\(b≠want->K (e.put o.dst .undef) h)
      | .undef=>K (e.put o.dst .undef) h
      | _=>False
theorem Zg5 {ops:Array Oper} {o:Oper} {e e1:Env} (h:∀ t ∈ o.looksAt ops,e1.get t=e.get t):∀ x ∈ o.op.operands,e1.ev x=e.ev x:=fun x hx=>by
 cases x with
 | tmp t=>exact h t (Y21 _ (List.mem_filterMap.2 ⟨.tmp t,by simpa using hx,rfl⟩))
 | _=>rfl
theorem Z7i {ops:Array Oper} {o:Oper} {e e1:Env} (h:∀ t ∈ o.looksAt ops,e1.get t=e.get t) {j:Nat} {want:Bool} (hg:o.guard=some (j,want)):Z64 ops.toList e1 j=Z64 ops.toList e j:=by
 unfold Z64;cases hj:ops.toList[j]? with
 | none=>rfl
 | some oj=>
   dsimp only
   cases hd:oj.dst with
   | none=>rfl
   | some d=>
     have hj':ops[j]? = some oj:=by simpa using hj
     exact h d (by simp[Oper.looksAt,hg,hj',hd])
theorem Zgm {ops:Array Oper} {Γ:Ctx} {Q:Exit->Act->World->Prop} {i:Nat} {o:Oper} (hi:ops[i]? = some o) {e:Env} {h:HS} {μ:Mem} {a:Act} {w:World} {K:Env->HS->Prop} {N:Act->World->Prop}
  (hI:Inv Γ h μ w) (hE:EnvRel μ e a) (hN:∀ e' h' μ' a' w',K e' h'->Inv Γ h' μ' w'->EnvRel μ' e' a'->Mem.Le μ μ'->N a' w') (hv:vcG P ops.toList o e h K):wpOp P ops Q i N a w:=by
 obtain⟨hd,hv⟩:=hv;unfold wpOp;simp only[hi];have skip:K (e.put o.dst .undef) h->N (a.put o.dst undef) w:=fun hs=>hN _ _ _ _ _ hs hI (hE.put (dst_lt hd) (v:=.undef) rfl) (.refl μ);have go:vcOp P o e h K->o.wp P a w N Q:=fun hs=>Zn3 hI hE hd hs _ _ hN;split at hv
 .rename_i hg;rw[if_pos (by simp[Region.wanted,hg])];exact .inl (go hv)
 .rename_i j want hg;split at hv
  .rename_i b hy;have hy':=Zei hE hy
   by_cases hb:b=want
   .rw[if_pos (by simp[Region.wanted,hg,hy',hb])];exact .inl (go (hv.1 hb))
   .rw[if_neg (by simp[Region.wanted,hg,hy',hb])];exact skip (hv.2 hb)
  .rename_i hy;have hy':=Zaq hE hy;rw[if_neg (by simp[Region.wanted,hg,hy'])];exact skip hv
  .exact hv.elim
def vcAny (P:Program) (md:Region.Mode) (ops:Array Oper) (K:Env->HS->Prop):Nat->Array Bool->Env->HS->Prop
 | 0,listed,e,h=>Region.ready md ops listed=[]/\(Real e h->K e h)
 | f+1,listed,e,h=>Real e h->(Region.ready md ops listed=[]->K e h) /\
     ∀ i ∈ Region.ready md ops listed,∃ o,ops[i]? = some o/\vcG P ops.toList o e h (fun e' h'=>(callKind o.op=true->BoxLe h h')/\vcAny P md ops K f (listed.setIfInBounds i true) e' h')
theorem Zd2 {md:Region.Mode} {ops:Array Oper} {Γ:Ctx} {Q:Exit->Act->World->Prop} {K:Env->HS->Prop} {μ0:Mem} (hN:∀ e' h' μ' a' w',K e' h'->Inv Γ h' μ' w'->EnvRel μ' e' a'->Mem.Le μ0 μ'->Q .normal a' w') :
  ∀ (f:Nat) (listed:Array Bool) {e:Env} {h:HS} {μ:Mem} {a:Act} {w:World},Inv Γ h μ w->EnvRel μ e a->Mem.Le μ0 μ->vcAny P md ops K f listed e h->wpAny P md ops Q f listed a w
 | 0,listed,e,h,μ,a,w,hI,hE,hle,hv=>⟨hv.1,hN _ _ _ _ _ (hv.2 ⟨_,_,_,_,hI,hE⟩) hI hE hle⟩
 | f+1,listed,e,h,μ,a,w,hI,hE,hle,hv=>by
   obtain⟨h0,h1⟩:=hv ⟨_,_,_,_,hI,hE⟩;refine⟨fun hr=>hN _ _ _ _ _ (h0 hr) hI hE hle,fun i hi=>?_⟩;obtain⟨o,ho,hg⟩:=h1 i hi;exact Zgm ho hI hE (fun e' h' μ' a' w' hk hI' hE' hle'=>Zd2 hN f _ hI' hE' (hle.trans hle') hk.2) hg
def GivesG (P:Program) (ops:Array Oper) (o:Oper) (e:Env) (h:HS) (v:V):Prop:=
 ∀ e1 h1 (K:Env->HS->Prop),e1.n=e.n->(∀ t ∈ o.looksAt ops,e1.get t=e.get t)->(loadKind o.op=true->BoxLe h h1)->K (e1.put o.dst v) h1->vcG P ops.toList o e1 h1 K
theorem GivesG.step {ops:Array Oper} {o:Oper} {e e1:Env} {h h1:HS} {v:V} (hg:GivesG P ops o e h v) (hn:e1.n=e.n) (he:∀ t ∈ o.looksAt ops,e1.get t=e.get t) (hb:loadKind o.op=true->BoxLe h h1):GivesG P ops o e1 h1 v:=
 fun e2 h2 K hn2 he2 hb2 hk=>hg e2 h2 K (hn2.trans hn) (fun t ht=>(he2 t ht).trans (he t ht)) (fun hl l c hl'=>hb2 hl l c (hb hl l c hl')) hk
theorem Zc0 {o:Oper} {e e1:Env} (hn:e1.n=e.n) (hd:dstOK o e):dstOK o e1:=by
 unfold dstOK at *;split at hd
 .trivial
 .rw[hn];exact hd
theorem put_n' {e:Env} {d:Option Nat} {v:V}:(e.put d v).n=e.n:=by cases d<;>rfl
theorem Zbn {ops:Array Oper} {o:Oper} {e:Env} {h:HS} {K:Env->HS->Prop} (hp:Z55 o.op=true) (hr:Real e h) (hv:vcG P ops.toList o e h K) :
  ∃ v,K (e.put o.dst v) h/\Real (e.put o.dst v) h/\GivesG P ops o e h v:=by
 obtain⟨hd,hv⟩:=hv;have skip:K (e.put o.dst .undef) h->(∀ e1:Env,∀ h1 (K:Env->HS->Prop),e1.n=e.n->(∀ t ∈ o.looksAt ops,e1.get t=e.get t)->K (e1.put o.dst .undef) h1->vcG P ops.toList o e1 h1 K) ->
   ∃ v,K (e.put o.dst v) h/\Real (e.put o.dst v) h/\GivesG P ops o e h v:=fun hk hall=>
  ⟨.undef,hk,Zb4 hr (dst_lt hd) (fun _ _ _ _ _ _=>⟨undef,rfl⟩),fun e1 h1 K1 hn he hb hk=>hall e1 h1 K1 hn he hk⟩
 have go:vcOp P o e h K->(∀ e1:Env,∀ h1 (K:Env->HS->Prop),e1.n=e.n->(∀ t ∈ o.looksAt ops,e1.get t=e.get t)->vcOp P o e1 h1 K->vcG P ops.toList o e1 h1 K) ->
   ∃ v,K (e.put o.dst v) h/\Real (e.put o.dst v) h/\GivesG P ops o e h v:=fun hs hall=>by
  obtain⟨v,hk,hr',hg⟩:=Zn1 hp hr hd hs;exact⟨v,hk,hr',fun e1 h1 K1 hn he hb hk=>hall e1 h1 K1 hn he (hg e1 h1 K1 (Zg5 he) hb hk)⟩
 cases hg:o.guard with
 | none=>
   simp only[hg] at hv;exact go hv (fun e1 h1 K1 hn he hs=>⟨Zc0 hn hd,by simp only[hg];exact hs⟩)
 | some gw=>
   obtain⟨j,want⟩:=gw;simp only[hg] at hv;split at hv
   .rename_i b hy
    by_cases hb:b=want
    .exact go (hv.1 hb) (fun e1 h1 K1 hn he hs=>⟨Zc0 hn hd,by
      simp only[hg,Z7i he hg,hy];exact⟨fun _=>hs,fun hne=>absurd hb hne⟩⟩)
    .exact skip (hv.2 hb) (fun e1 h1 K1 hn he hs=>⟨Zc0 hn hd,by
      simp only[hg,Z7i he hg,hy];exact⟨fun hq=>absurd hq hb,fun _=>hs⟩⟩)
   .rename_i hy;exact skip hv (fun e1 h1 K1 hn he hs=>⟨Zc0 hn hd,by
      simp only[hg,Z7i he hg,hy];exact hs⟩)
   .exact hv.elim
theorem Zgv {e:Env} {x y:Option Nat} {v u:V} (h:∀ d,x=some d->y≠some d):(e.put x v).put y u=(e.put y u).put x v:=by
 cases x with
 | none=>rfl
 | some d=>
   cases y with
   | none=>rfl
   | some d'=>
     have hne:d≠d':=fun he=>h d rfl (he ▸ rfl);simp only[Env.put,Env.mk.injEq,true_and]
     funext k
     by_cases h1:k=d'<;>by_cases h2:k=d<;>simp_all
theorem Zcu {e:Env} {x:Option Nat} {v:V} {t:Nat} (h:∀ d,x=some d->d≠t):(e.put x v).get t=e.get t:=by
 cases x with
 | none=>rfl
 | some d=>
   have:=h d rfl
   show (if t=d then v else e.get t)=e.get t;rw[if_neg (Ne.symm this)]
theorem Zo2 {ops:Array Oper} {oi oj:Oper} {e:Env} {h:HS} {v:V} {K:Env->HS->Prop} (hap:oi.apart ops oj=true) (hst:storeKind oj.op=false\/loadKind oi.op=false) (hr:Real (e.put oi.dst v) h)
  (hv:vcG P ops.toList oj (e.put oi.dst v) h (fun e' h'=>(callKind oj.op=true->BoxLe h h')/\K e' h')) :
  vcG P ops.toList oj e h (fun e' h'=>(callKind oj.op=true->BoxLe h h')/\e'.n=e.n/\(∀ t ∈ oi.looksAt ops,e'.get t=e.get t)/\(loadKind oi.op=true->BoxLe h h')/\K (e'.put oi.dst v) h'):=by
 obtain⟨h1,h2,h3⟩:=Oper.apart_spec hap;have hag:∀ t ∈ oj.looksAt ops,e.get t=(e.put oi.dst v).get t:=fun t ht=>(Zcu (fun d hd he=>h1 d hd (he ▸ ht))).symm;have fin:∀ u h',(storeKind oj.op=false->callKind oj.op=false->BoxLe h h')->((callKind oj.op=true->BoxLe h h')/\K ((e.put oi.dst v).put oj.dst u) h') ->
   (callKind oj.op=true->BoxLe h h')/\(e.put oj.dst u).n=e.n/\(∀ t ∈ oi.looksAt ops,(e.put oj.dst u).get t=e.get t)/\(loadKind oi.op=true->BoxLe h h')/\K ((e.put oj.dst u).put oi.dst v) h':=fun u h' hb hk=>
  ⟨hk.1,put_n',fun t ht=>Zcu (fun d hd he=>h3 d hd (he ▸ ht)),fun hl=>by
   cases hc:callKind oj.op with
   | true=>exact hk.1 hc
   | false=>exact hb (hst.resolve_right (by simp[hl])) hc,by rw[<- Zgv h2];exact hk.2⟩
 obtain⟨hd,hv⟩:=hv;refine⟨Zc0 put_n'.symm hd,?_⟩;have go:vcOp P oj (e.put oi.dst v) h (fun e' h'=>(callKind oj.op=true->BoxLe h h')/\K e' h')->vcOp P oj e h (fun e' h'=>(callKind oj.op=true->BoxLe h h')/\e'.n=e.n/\(∀ t ∈ oi.looksAt ops,e'.get t=e.get t)/\(loadKind oi.op=true->BoxLe h h')/\K (e'.put oi.dst v) h'):=fun hs=>
  Zbi hr (Zg5 hag) (fun u h' hb hk=>fin u h' hb hk) hs
 cases hg:oj.guard with
 | none=>simp only[hg] at hv |-;exact go hv
 | some gw=>
   obtain⟨j,want⟩:=gw;simp only[hg] at hv |-;rw[Z7i hag hg];split at hv
   .exact⟨fun hb=>go (hv.1 hb),fun hb=>fin _ _ (fun _ _=>BoxLe.refl h) (hv.2 hb)⟩
   .exact fin _ _ (fun _ _=>BoxLe.refl h) hv
   .exact hv.elim
theorem Z2l {all:List Oper} {o:Oper} {e:Env} {h:HS} {K K1:Env->HS->Prop} (hr:Real e h) (hK:∀ e' h',K e' h'->K1 e' h') (hv:vcG P all o e h K):vcG P all o e h K1:=by
 obtain⟨hd,hv⟩:=hv;refine⟨hd,?_⟩;have go:vcOp P o e h K->vcOp P o e h K1:=fun hs=>Zbi hr (fun _ _=>rfl) (fun u h' _ hk=>hK _ _ hk) hs;split at hv
 .rename_i hg;exact go hv
 .rename_i j want hg;split at hv
  .rename_i hy;exact⟨fun hb=>go (hv.1 hb),fun hb=>hK _ _ (hv.2 hb)⟩
  .exact hK _ _ hv
  .exact hv.elim
theorem GivesG.real {ops:Array Oper} {o:Oper} {e:Env} {h:HS} {v:V} (hp:Z55 o.op=true) (hr:Real e h) (hg:GivesG P ops o e h v):Real (e.put o.dst v) h:=by
 obtain⟨v',h1,h2,_⟩:=Zbn hp hr (hg e h (fun e2 h2=>e2=e.put o.dst v/\h2=h) rfl (fun _ _=>rfl) (fun _=>BoxLe.refl h) ⟨rfl,rfl⟩);rw[<- h1.1];exact h2
theorem Zhv {md:Region.Mode} {ops:Array Oper} {K:Env->HS->Prop} {i:Nat} {oi:Oper} {v:V} (W:Nat->Bool) (hi:ops[i]? = some oi) (hp:Z55 oi.op=true)
  (hW:∀ j,W j=true->∃ oj,ops[j]? = some oj/\∃ x ∈ oj.after,Region.binds md x=true/\(x.on=i\/W x.on=true)) :
  ∀ (f:Nat) (listed:Array Bool) (e:Env) (h:HS),(∀ j,W j=true->listed.getD j true=false) ->
    (∀ j oj,ops[j]? = some oj->j≠i->listed.getD j true=false->W j=false->oi.apart ops oj=true/\(storeKind oj.op=false\/loadKind oi.op=false)) ->
    i ∈ Region.ready md ops listed->GivesG P ops oi e h v ->
    vcAny P md ops K f (listed.setIfInBounds i true) (e.put oi.dst v) h->vcAny P md ops K (f+1) listed e h:=by
 intro f
 induction f with
 | zero=>
   intro listed e h _ _ hr hg H hR;refine⟨fun h=>(by rw[h] at hr;cases hr),fun j hj=>?_⟩
   by_cases hji:j=i
   .subst hji;exact⟨oi,hi,hg e h _ rfl (fun _ _=>rfl) (fun _=>BoxLe.refl h) ⟨fun hc=>(by rw[Z7a hp] at hc;cases hc),H⟩⟩
   .have:=ready_mono hj hji
    rw[H.1] at this;cases this
 | succ f ih=>
   intro listed e h hWl hfree hr hg H hR;have hR':=hg.real hp hR;refine⟨fun h=>(by rw[h] at hr;cases hr),fun j hj=>?_⟩
   by_cases hji:j=i
   .subst hji;exact⟨oi,hi,hg e h _ rfl (fun _ _=>rfl) (fun _=>BoxLe.refl h) ⟨fun hc=>(by rw[Z7a hp] at hc;cases hc),H⟩⟩
   .obtain⟨oj,hoj,h1⟩:=(H hR').2 j (ready_mono hj hji);obtain⟨hjun,oj',hoj',hall⟩:=mem_ready.1 hj
    have:oj'=oj:=Option.some.inj (hoj'.symm.trans hoj)
    subst this;have unl:∀ k,listed.getD k true=false->listed.getD k false=true->False:=fun k h1 h2=>by
     rcases Y0t k listed.size with h' | h'
     .simp[h'] at h1 h2;rw[h1] at h2;cases h2
     .simp[Y1r h'] at h2
    have hnot:W j=false:=by
     cases hw:W j with
     | false=>rfl
     | true=>
       obtain⟨ok,hok,x,hx,hb,hon⟩:=hW j hw
       have:ok=oj':=Option.some.inj (hok.symm.trans hoj)
       subst this;have h1:=hall x hx hb;rcases hon with hon | hon
       .rw[hon] at h1;exact (unl i (mem_ready.1 hr).1 h1).elim
       .exact (unl _ (hWl _ hon) h1).elim
    obtain⟨hap,hst⟩:=hfree j oj' hoj hji hjun hnot;have hfree':∀ k ok,ops[k]? = some ok->k≠i->(listed.setIfInBounds j true).getD k true=false ->
      W k=false->oi.apart ops ok=true/\(storeKind ok.op=false\/loadKind oi.op=false):=fun k ok hk hki hun hno=>by
     refine hfree k ok hk hki ?_ hno
     by_cases hjk:j=k
     .subst hjk;exact hjun
     .rw[getD_set_ne true hjk] at hun;exact hun
    have hWl':∀ k,W k=true->(listed.setIfInBounds j true).getD k true=false:=fun k hk=>by
     have hjk:j≠k:=by rintro rfl;rw[hnot] at hk;cases hk
     rw[getD_set_ne true hjk];exact hWl k hk
    refine⟨oj',hoj,Z2l hR (fun e' h' hk=>?_) (Zo2 hap hst hR' h1)⟩;obtain⟨hcb,hn,hag,hb,hk⟩:=hk;refine⟨hcb,?_⟩;refine ih (listed.setIfInBounds j true) e' h' hWl' hfree' (ready_mono hr (Ne.symm hji)) (hg.step hn hag hb) ?_
    .rw[Array.setIfInBounds_comm _ _ hji];exact hk
def waitsN (md:Region.Mode) (ops:Array Oper) (i:Nat):Nat->List Nat->List Nat
 | 0,w=>w
 | n+1,w=>waitsN md ops i n ((List.range ops.size).filter fun j=>match ops[j]? with
   | some o=>o.after.any fun x=>Region.binds md x && (x.on == i || w.contains x.on)
   | none=>false)
def waitsB (md:Region.Mode) (ops:Array Oper) (i:Nat) (w:List Nat):Bool:=w.all fun j=>match ops[j]? with
    | some o=>o.after.any fun x=>Region.binds md x && (x.on == i || w.contains x.on)
    | none=>false
def firstB (md:Region.Mode) (ops:Array Oper) (listed:Array Bool) (i:Nat):Bool:=
 match ops[i]? with
 | none=>false
 | some oi=>
   let w:=waitsN md ops i ops.size []
   Z55 oi.op && (Region.ready md ops listed).contains i && waitsB md ops i w && w.all (fun j=>!listed.getD j true) && (List.range ops.size).all fun j=>j == i || listed.getD j true || w.contains j || match ops[j]? with
    | some oj=>oi.apart ops oj && (!storeKind oj.op || !loadKind oi.op)
    | none=>true
inductive Plan where
 | done
 | one (i:Nat) (p:Plan)
 | two (i j:Nat) (p q:Plan)
 | three (i j k:Nat) (p q r:Plan)
 | four (i j k l:Nat) (p q r s:Plan)
def planB (md:Region.Mode) (ops:Array Oper):Plan->Nat->Array Bool->Bool
 | .done,f,listed=>f == 0 && (Region.ready md ops listed).isEmpty
 | .one _ _,0,_=>false
 | .one i p,f+1,listed=>(Region.ready md ops listed == [i] || firstB md ops listed i) && planB md ops p f (listed.setIfInBounds i true)
 | .two _ _ _ _,0,_=>false
 | .two i j p q,f+1,listed=>Region.ready md ops listed == [i,j] && planB md ops p f (listed.setIfInBounds i true) && planB md ops q f (listed.setIfInBounds j true)
 | .three _ _ _ _ _ _,0,_=>false
 | .three i j k p q r,f+1,listed=>Region.ready md ops listed == [i,j,k] && planB md ops p f (listed.setIfInBounds i true) && planB md ops q f (listed.setIfInBounds j true) && planB md ops r f (listed.setIfInBounds k true)
 | .four _ _ _ _ _ _ _ _,0,_=>false
 | .four i j k l p q r s,f+1,listed=>Region.ready md ops listed == [i,j,k,l] && planB md ops p f (listed.setIfInBounds i true) && planB md ops q f (listed.setIfInBounds j true) && planB md ops r f (listed.setIfInBounds k true) && planB md ops s f (listed.setIfInBounds l true)
def Plan.then_:List Nat->Plan->Plan
 | [],p=>p
 | i::r,p=>.one i (Plan.then_ r p)
def planOps (ops:List Oper):List Nat->List Oper
 | []=>[]
 | i::r=>match ops[i]? with
   | some o=>o::planOps ops r
   | none=>planOps ops r
def isCallAt (ops:List Oper) (i:Nat):Bool:=
 match ops[i]? with
 | some o=>callKind o.op
 | none=>false
def vcPlan (P:Program) (ops:List Oper) (K:Env->HS->Prop):Plan->Env->HS->Prop
 | .done,e,h=>K e h
 | .one i p,e,h=>vcOps P ops (planOps ops [i]) e h (fun e' h'=>(isCallAt ops i=true->BoxLe h h')/\vcPlan P ops K p e' h')
 | .two i j p q,e,h=>vcOps P ops (planOps ops [i]) e h (fun e' h'=>(isCallAt ops i=true->BoxLe h h')/\vcPlan P ops K p e' h')/\vcOps P ops (planOps ops [j]) e h (fun e' h'=>(isCallAt ops j=true->BoxLe h h')/\vcPlan P ops K q e' h')
 | .four i j k l p q r s,e,h=>vcOps P ops (planOps ops [i]) e h (fun e' h'=>(isCallAt ops i=true->BoxLe h h')/\vcPlan P ops K p e' h')/\vcOps P ops (planOps ops [j]) e h (fun e' h'=>(isCallAt ops j=true->BoxLe h h')/\vcPlan P ops K q e' h')/\vcOps P ops (planOps ops [k]) e h (fun e' h'=>(isCallAt ops k=true->BoxLe h h')/\vcPlan P ops K r e' h')/\vcOps P ops (planOps ops [l]) e h (fun e' h'=>(isCallAt ops l=true->BoxLe h h')/\vcPlan P ops K s e' h')
 | .three i j k p q r,e,h=>vcOps P ops (planOps ops [i]) e h (fun e' h'=>(isCallAt ops i=true->BoxLe h h')/\vcPlan P ops K p e' h')/\vcOps P ops (planOps ops [j]) e h (fun e' h'=>(isCallAt ops j=true->BoxLe h h')/\vcPlan P ops K q e' h')/\vcOps P ops (planOps ops [k]) e h (fun e' h'=>(isCallAt ops k=true->BoxLe h h')/\vcPlan P ops K r e' h')
theorem Z24 {md:Region.Mode} {ops:Array Oper} {listed:Array Bool} {i:Nat} (hm:i ∈ Region.ready md ops listed) {e:Env} {h:HS} {l:List Nat} {K:Env->HS->Prop} (hv:vcOps P ops.toList (planOps ops.toList (i::l)) e h K) :
  ∃ o,ops[i]? = some o/\isCallAt ops.toList i=callKind o.op/\vcG P ops.toList o e h (fun e h=>vcOps P ops.toList (planOps ops.toList l) e h K):=by
 obtain⟨_,o,ho,_⟩:=mem_ready.1 hm;have ho':ops.toList[i]? = some o:=by simpa using ho
 refine⟨o,ho,by simp only[isCallAt,ho'],?_⟩;simp only[planOps,ho'] at hv;exact hv
theorem Z2c {md:Region.Mode} {ops:Array Oper} {K:Env->HS->Prop}:∀ (p:Plan) (f:Nat) (listed:Array Bool) (e:Env) (h:HS),planB md ops p f listed=true ->
  vcPlan P ops.toList K p e h->vcAny P md ops K f listed e h
 | .done,f,listed,e,h,hB,hv=>by
   unfold planB at hB;simp only[Y0q,beq_iff_eq] at hB;obtain⟨rfl,hB⟩:=hB;exact⟨by simpa using hB,fun _=>hv⟩
 | .one i p,0,listed,e,h,hB,hv=>by unfold planB at hB;cases hB
 | .one i p,f+1,listed,e,h,hB,hv=>by
   unfold planB at hB;simp only[Y0q,Y1o] at hB;obtain⟨hB,hrest⟩:=hB;have ih:=fun e h=>Z2c (K:=K) p f (listed.setIfInBounds i true) e h hrest;have hmem:i ∈ Region.ready md ops listed:=by
    rcases hB with hB | hB
    .rw[eq_of_beq hB];simp
    .unfold firstB at hB;split at hB
     .cases hB
     .simp only[Y0q] at hB;simpa using hB.1.1.1.2
   obtain⟨o,ho,hck,hv'⟩:=Z24 hmem hv;rw[hck] at hv'
   by_cases hR:Real e h
   .rcases hB with hB | hB
    .intro _;refine⟨fun h0=>(by rw[h0] at hmem;cases hmem),fun j hj=>?_⟩;rw[eq_of_beq hB] at hj
     have:j=i:=by simpa using hj
     subst this;exact⟨o,ho,Z2l hR (fun e' h' hk=>⟨hk.1,ih e' h' hk.2⟩) hv'⟩
    .unfold firstB at hB;simp only[ho,Y0q] at hB;obtain⟨⟨⟨⟨hp,_⟩,hwB⟩,hwl⟩,hall⟩:=hB;obtain⟨v,hk,hR',hg⟩:=Zbn hp hR hv';generalize waitsN md ops i ops.size []=w at hwB hwl hall;refine Zhv (fun j=>w.contains j) ho hp (fun j hj=>?_) f listed e h (fun j hj=>?_) (fun j oj hj hne hun hno=>?_) hmem hg (ih _ _ hk.2)
     .have h1:=Y1a.1 hwB j (by simpa using hj);split at h1
      .rename_i o ho';obtain⟨x,hx,hb⟩:=Array.any_eq_true'.1 h1;simp only[Y0q,Y1o,beq_iff_eq] at hb;exact⟨o,ho',x,hx,hb.1,hb.2⟩
      .cases h1
     .have h1:=Y1a.1 hwl j (by simpa using hj);simpa using h1
     .have h1:=Y1a.1 hall j (List.mem_range.2 (Y0u.1 hj).1);simp only[hj,Y1o,beq_iff_eq,hne,false_or,hun,Y1k,hno] at h1;simp only[Y0q,Y1o,Bool.not_eq_true'] at h1;exact h1
   .exact fun hR'=>absurd hR' hR
 | .two i j p q,0,listed,e,h,hB,hv=>by unfold planB at hB;cases hB
 | .two i j p q,f+1,listed,e,h,hB,hv=>by
   unfold planB at hB;simp only[Y0q] at hB;have hr:Region.ready md ops listed=[i,j]:=eq_of_beq hB.1.1;intro hR;refine⟨fun h0=>(by rw[hr] at h0;cases h0),fun k hk=>?_⟩;have hk':=hk;rw[hr] at hk';simp only[Y08,Y1x,or_false] at hk';rcases hk' with rfl | rfl
   .obtain⟨o,ho,hck,hv'⟩:=Z24 hk hv.1;rw[hck] at hv';exact⟨o,ho,Z2l hR (fun e' h' hk=>⟨hk.1,Z2c p f _ e' h' hB.1.2 hk.2⟩) hv'⟩
   .obtain⟨o,ho,hck,hv'⟩:=Z24 hk hv.2;rw[hck] at hv';exact⟨o,ho,Z2l hR (fun e' h' hk=>⟨hk.1,Z2c q f _ e' h' hB.2 hk.2⟩) hv'⟩
 | .three i j l p q r,0,listed,e,h,hB,hv=>by unfold planB at hB;cases hB
 | .three i j l p q r,f+1,listed,e,h,hB,hv=>by
   unfold planB at hB;simp only[Y0q] at hB;have hr:Region.ready md ops listed=[i,j,l]:=eq_of_beq hB.1.1.1;intro hR;refine⟨fun h0=>(by rw[hr] at h0;cases h0),fun k hk=>?_⟩;have hk':=hk;rw[hr] at hk';simp only[Y08,Y1x,or_false] at hk';rcases hk' with rfl | rfl | rfl
   .obtain⟨o,ho,hck,hv'⟩:=Z24 hk hv.1;rw[hck] at hv';exact⟨o,ho,Z2l hR (fun e' h' hk=>⟨hk.1,Z2c p f _ e' h' hB.1.1.2 hk.2⟩) hv'⟩
   .obtain⟨o,ho,hck,hv'⟩:=Z24 hk hv.2.1;rw[hck] at hv';exact⟨o,ho,Z2l hR (fun e' h' hk=>⟨hk.1,Z2c q f _ e' h' hB.1.2 hk.2⟩) hv'⟩
   .obtain⟨o,ho,hck,hv'⟩:=Z24 hk hv.2.2;rw[hck] at hv';exact⟨o,ho,Z2l hR (fun e' h' hk=>⟨hk.1,Z2c r f _ e' h' hB.2 hk.2⟩) hv'⟩
 | .four i j l m p q r s,0,listed,e,h,hB,hv=>by unfold planB at hB;cases hB
 | .four i j l m p q r s,f+1,listed,e,h,hB,hv=>by
   unfold planB at hB;simp only[Y0q] at hB;have hr:Region.ready md ops listed=[i,j,l,m]:=eq_of_beq hB.1.1.1.1;intro hR;refine⟨fun h0=>(by rw[h0] at hr;cases hr),fun k hk=>?_⟩;have hk':=hk;rw[hr] at hk';simp only[Y08,Y1x,or_false] at hk';rcases hk' with rfl | rfl | rfl | rfl
   .obtain⟨o,ho,hck,hv'⟩:=Z24 hk hv.1;rw[hck] at hv';exact⟨o,ho,Z2l hR (fun e' h' hk=>⟨hk.1,Z2c p f _ e' h' hB.1.1.1.2 hk.2⟩) hv'⟩
   .obtain⟨o,ho,hck,hv'⟩:=Z24 hk hv.2.1;rw[hck] at hv';exact⟨o,ho,Z2l hR (fun e' h' hk=>⟨hk.1,Z2c q f _ e' h' hB.1.1.2 hk.2⟩) hv'⟩
   .obtain⟨o,ho,hck,hv'⟩:=Z24 hk hv.2.2.1;rw[hck] at hv';exact⟨o,ho,Z2l hR (fun e' h' hk=>⟨hk.1,Z2c r f _ e' h' hB.1.2 hk.2⟩) hv'⟩
   .obtain⟨o,ho,hck,hv'⟩:=Z24 hk hv.2.2.2;rw[hck] at hv';exact⟨o,ho,Z2l hR (fun e' h' hk=>⟨hk.1,Z2c s f _ e' h' hB.2 hk.2⟩) hv'⟩
theorem SWP.draw {id:Nat} {ops:Array Oper} {Q:Exit->Env->HS->Prop} {e:Env} {h:HS} (plan:Plan) (hm:P.follows .mixedOrders=true)
  (hB:planB .any ops plan ops.size (Array.replicate ops.size false)=true) (hv:vcPlan P ops.toList (Q .normal) plan e h):SWP P (.region id ops true) Q e h:=by
 intro Γ a w μ hI hE;exact wp_region_any hm (Zd2 (Γ:=Γ) (fun e' h' μ' a' w' hk hI' hE' hle=>⟨e',h',μ',hk,hI',hE',hle⟩) ops.size _ (hI.drew) hE (.refl μ) (Z2c plan _ _ e h hB hv))
end
end Go.Am
end
section
namespace Go.Am
open Go
open Go.RowKit (Below)
section
variable {P:Program} {w:World} {a:Act} {e:Env} {h:HS} {μ:Mem} {Γ:Ctx}
inductive Frz (h:HS):C->D->Prop
 | data {c:C} {x:D} (hx:c.toD=some x):Frz h c x
 | mrow {l:Lab} {off cap es:Nat} {xs:List (List D)} {cs:List C} (f:Nat->Nat->C) (hb:h.box l=some cs) (hl:xs.length<=LIM) (hes:∀ x ∈ xs,x.length=es)
   (hc:∀ (i:Nat) x,xs[i]? = some x->∀ (j:Nat) d,x[j]? = some d->cs[off+(i * es+j)]? = some (f i j))
   (hf:∀ (i:Nat) x,xs[i]? = some x->∀ (j:Nat) d,x[j]? = some d->Frz h (f i j) d):Frz h (.mrow l off xs.length cap) (.sl xs)
theorem Zii (hI:Inv Γ h μ w) {m:CM} (hs:Sub μ.cell m) (hm:∀ l cs b n o u,h.box l=some cs->μ.loc l=some (some b,n)->w.cell? ⟨b,o,none⟩=some u->m b o=some u)
  {c:C} {x:D} (hf:Frz h c x):∀ {v:Value},RepC μ c v->RepD m x v:=by
 induction hf with
 | data hx=>intro v hc;exact (Z5l hc hx).mono hs
 | @mrow l off cap es xs cs f hb hl hes hc hf ih=>
   intro v hv;obtain⟨b,k,hloc,rfl,hcap⟩:=hv;obtain⟨b',n,T,conc,h1,_,h3,h4,_⟩:=hI.box l cs hb;rw[hloc] at h1;simp only[Y06,Y07] at h1;obtain⟨rfl,_⟩:=h1;refine .sl xs _ cap es b off (fun i j=>conc.getD (off+(i * es+j)) undef) hl hcap hes (fun _=>rfl) (fun i x hx j d hd=>?_) (fun i x hx j d hd=>?_)
   .obtain⟨u,hu,_⟩:=h4.2 _ _ (hc i x hx j d hd);refine hm l cs b k _ _ hb hloc ?_;simp[World.cell?,h3,hu,Y18]
   .obtain⟨u,hu,hr⟩:=h4.2 _ _ (hc i x hx j d hd)
    have:conc.getD (off+(i * es+j)) undef=u:=by rw[Y18,hu];rfl
    simp only[this];exact ih i x hx j d hd hr
def FrzCs (h:HS):List C->List D->Prop
 | [],[]=>True
 | c::cs,x::xs=>Frz h c x/\FrzCs h cs xs
 | _,_=>False
theorem FrzCs.get:∀ {cs:List C} {xs:List D},FrzCs h cs xs->cs.length=xs.length/\∀ (i:Nat) x,xs[i]? = some x->∃ c,cs[i]? = some c/\Frz h c x
 | [],[],_=>⟨rfl,fun i x hi=>by simp at hi⟩
 | c::cs,y::xs,hr=>by
   obtain⟨h1,h2⟩:=FrzCs.get hr.2;refine⟨by simp[h1],fun i x hi=>?_⟩;cases i with
   | zero=>simp at hi;subst hi;exact⟨c,by simp,hr.1⟩
   | succ i=>obtain⟨c',h3,h4⟩:=h2 i x (by simpa using hi);exact⟨c',by simpa using h3,h4⟩
 | [],_::_,hr=>hr.elim
 | _::_,[],hr=>hr.elim
def notTup:V->Bool
 | .tup _=>false
 | _=>true
def retH (P:Program) (rs:List ResultVar) (K:V->HS->Prop):Exit->Env->HS->Prop:=fun x e h=>
 match x with
 | .normal | .ret=>match resVs P e h rs with
   | some [v]=>K v h
   | some vs=>vs.all notTup=true/\K (.tup vs) h
   | none=>False
 | _=>False
def envV (n:Nat) (vs:List V):Env:={ n,get:=fun k=>(vs[k]?).getD .undef }
theorem HSpec.of_vc {f:FuncId} {fn:Func} {c:Code} {n:Nat} {vs:List V} {K:V->HS->Prop} (hf:P.funcs[f]? = some fn) (hb:fn.body=some c) (hnm:(fn.name == "runtime.NumGoroutine")=false) (hn:fn.ntmps=n) {rs:List ResultVar} (hrs:fn.results.toList=rs) (has:vs.length<=n)
  (hv:vc P c (retH P rs K) (envV n vs) h):HSpec P f vs h K:=by
 subst hrs;refine⟨⟨fn,hf,hnm,by rw[hb];rfl⟩,fun Γ μ w vals hI hargs=>?_⟩;have hE:EnvRel μ (envV n vs) { tmps:=vals++Array.replicate (fn.ntmps - vals.size) undef,defers:=[] }:=by
  refine⟨rfl,?_,fun k=>?_⟩
  .simp[envV,hargs.1,hn];omega
  .simp only[envV];cases hk:vs[k]? with
   | some x=>
     obtain⟨u,hu,hr⟩:=hargs.2 k x hk;have hlt:k < vals.size:=(Y0u.1 hu).1
     have:(vals++Array.replicate (fn.ntmps - vals.size) undef).getD k undef=u:=by
      rw[Y18,Y1w hlt,hu];rfl
     simp only[this,Option.getD_some];exact hr
   | none=>
     have hge:vals.size<=k:=by rw[hargs.1];exact List.getElem?_eq_none_iff.1 hk
     show (vals++Array.replicate (fn.ntmps - vals.size) undef).getD k undef=undef;rw[Y18,Y1s hge];cases hx:(Array.replicate (fn.ntmps - vals.size) undef)[k - vals.size]? with
     | none=>rfl
     | some u=>
       obtain⟨_,he⟩:=Y0u.1 hx;simp at he;simp[he]
 refine calls_of_wp hf hb (Code.wp_mono ?_ (Z53 c _ _ _ hv Γ _ w _ hI hE));rintro ex a' w' ⟨e',h',μ',hq,hI',hE',hle⟩;have fin:(match resVs P e' h' fn.results.toList with
  | some [v]=>K v h'
  | some vs=>vs.all notTup=true/\K (.tup vs) h'
  | none=>False)->a'.defers=[]/\∃ v,(results fn a'.tmps).run P w'=.ok v w'/\∃ u v' h'' μ'',Ending.returned v=.returned u/\K v' h''/\Inv Γ h'' μ'' w'/\RepV μ'' v' u/\Mem.Le μ μ'':=by
  intro hret;cases hvs:resVs P e' h' fn.results.toList with
  | none=>rw[hvs] at hret;exact hret.elim
  | some vs'=>
    rw[hvs] at hret;obtain⟨us,hrun,hlen,hR⟩:=Zi0 (P:=P) hI' hE' fn.results.toList vs' hvs;have hres:(results fn a'.tmps).run P w'=.ok (if hh:us.toArray.size=1 then us.toArray[0] else .tuple us.toArray) w':=by
     rw[Zep,Sem.run_bind,Array.mapM_eq_mapM_toList];have hrun':(Functor.map List.toArray (fn.results.toList.mapM (resF a'.tmps))).run P w'=.ok us.toArray w':=by
      rw[Sem.run_map,hrun];rfl
     rw[hrun'];rfl
    refine⟨hE'.1,_,hres,?_⟩
    by_cases h1:∃ v,vs'=[v]
    .obtain⟨v,rfl⟩:=h1;obtain⟨u,hu,hru⟩:=hR 0 v (by simp);obtain⟨u',rfl⟩:∃ u',us=[u']:=by
      match us,hlen with
      | [u'],_=>exact⟨u',rfl⟩
     obtain rfl:u'=u:=by simpa using hu
     exact⟨u',v,h',μ',rfl,hret,hI',hru,hle⟩
    .have hne:¬ us.toArray.size=1:=by
      simp only[Y2p,hlen];intro hq;exact h1 (by
       match vs',hq with
       | [v],_=>exact⟨v,rfl⟩)
     rw[dif_neg hne];have hret':vs'.all notTup=true/\K (.tup vs') h':=by
      clear hR hvs hlen hne
      revert h1 hret
      match vs' with
      | []=>exact fun hret _=>hret
      | [v]=>exact fun _ h1=>(h1 ⟨v,rfl⟩).elim
      | _::_::_=>exact fun hret _=>hret
     refine⟨_,.tup vs',h',μ',rfl,hret'.2,hI',⟨us.toArray,rfl,by simp[hlen],fun i x hi=>?_⟩,hle⟩;obtain⟨u,hu,hru⟩:=hR i x hi;refine⟨u,by simpa using hu,?_⟩;have hx:=Y1a.1 hret'.1 x (Y03 hi);cases x with
     | tup _=>simp[notTup] at hx
     | _=>exact hru
 cases ex with
 | normal=>exact fin hq
 | ret=>exact fin hq
 | exit id=>exact hq.elim
 | goto l=>exact hq.elim
 | panic ch=>exact hq.elim
 | outgrown=>exact hq.elim
def FrzRs (h:HS):List C->List RC->Prop
 | [],[]=>True
 | c::cs,.d x::rs=>Frz h c x/\FrzRs h cs rs
 | _,_=>False
def FrzV1 (h:HS) (v:V):RV->Prop
 | .one (.d x)=>match v with
   | .one c=>Frz h c x
   | _=>False
 | .agg rs=>match v with
   | .agg cs=>FrzRs h cs rs
   | _=>False
 | _=>False
def FrzVs (h:HS):List V->List RV->Prop
 | [],[]=>True
 | v::vs,r::rs=>FrzV1 h v r/\FrzVs h vs rs
 | _,_=>False
def FrzFin (h:HS) (v:V):RV->Prop
 | .tup rs=>match v with
   | .tup vs=>FrzVs h vs rs
   | _=>False
 | r=>FrzV1 h v r
theorem FrzRs.get:∀ {cs:List C} {rs:List RC},FrzRs h cs rs->cs.length=rs.length/\∀ (i:Nat) r,rs[i]? = some r->∃ c x,cs[i]? = some c/\r=.d x/\Frz h c x
 | [],[],_=>⟨rfl,fun i r hi=>by simp at hi⟩
 | c::cs,.d x::rs,hr=>by
   obtain⟨h1,h2⟩:=FrzRs.get hr.2;refine⟨by simp[h1],fun i r hi=>?_⟩;cases i with
   | zero=>simp at hi;subst hi;exact⟨c,x,by simp,rfl,hr.1⟩
   | succ i=>obtain⟨c',x',h3,h4⟩:=h2 i r (by simpa using hi);exact⟨c',x',by simpa using h3,h4⟩
 | [],_::_,hr=>hr.elim
 | _::_,[],hr=>hr.elim
 | _::_,.fresh _ _ _::_,hr=>hr.elim
theorem FrzVs.get:∀ {vs:List V} {rs:List RV},FrzVs h vs rs->vs.length=rs.length/\∀ (i:Nat) r,rs[i]? = some r->∃ v,vs[i]? = some v/\FrzV1 h v r
 | [],[],_=>⟨rfl,fun i r hi=>by simp at hi⟩
 | c::cs,r::rs,hr=>by
   obtain⟨h1,h2⟩:=FrzVs.get hr.2;refine⟨by simp[h1],fun i r' hi=>?_⟩;cases i with
   | zero=>simp at hi;subst hi;exact⟨c,by simp,hr.1⟩
   | succ i=>obtain⟨c',h3,h4⟩:=h2 i r' (by simpa using hi);exact⟨c',by simpa using h3,h4⟩
 | [],_::_,hr=>hr.elim
 | _::_,[],hr=>hr.elim
theorem FrzRs.fr:∀ {cs:List C} {rs:List RC},FrzRs h cs rs->rs.flatMap RC.fr=[]
 | [],[],_=>rfl
 | c::cs,.d x::rs,hr=>by rw[Y0r,FrzRs.fr hr.2];rfl
 | [],_::_,hr=>hr.elim
 | _::_,[],hr=>hr.elim
 | _::_,.fresh _ _ _::_,hr=>hr.elim
theorem FrzV1.fr {v:V} {r:RV} (hr:FrzV1 h v r):RV1.fr r=[]:=by
 cases r with
 | one c=>cases c with
   | d x=>rfl
   | fresh j es xs=>exact hr.elim
 | agg rs=>cases v<;>first | exact hr.elim | exact FrzRs.fr hr
 | tup rs=>exact hr.elim
theorem FrzVs.fr:∀ {vs:List V} {rs:List RV},FrzVs h vs rs->rs.flatMap RV1.fr=[]
 | [],[],_=>rfl
 | v::vs,r::rs,hr=>by rw[Y0r,FrzVs.fr hr.2,FrzV1.fr hr.1];rfl
 | [],_::_,hr=>hr.elim
 | _::_,[],hr=>hr.elim
theorem FrzFin.fr {v:V} {r:RV} (hr:FrzFin h v r):r.fr=[]:=by
 cases r with
 | tup rs=>cases v<;>first | exact hr.elim | exact FrzVs.fr hr
 | one c=>exact FrzV1.fr (r:=.one c) hr
 | agg rs=>exact FrzV1.fr (r:=.agg rs) hr
theorem Zdq {m:CM} {blk:Nat->Option Nat × Nat} (key:∀ {c:C} {x:D} {v:Value},Frz h c x->RepC μ c v->RepD m x v) {v:V} {r:RV} {u:Value} (hv:RepV μ v u) (hr:FrzV1 h v r):RepRV1 m blk r u:=by
 cases r with
 | one c=>
   cases c with
   | d x=>cases v<;>first | exact hr.elim | exact key hr hv
   | fresh j es xs=>exact hr.elim
 | agg rs=>
   cases v with
   | agg cs=>
     obtain⟨vs,h1,h2⟩:=hv;obtain⟨h3,h4⟩:=FrzRs.get hr;refine⟨vs,h1,by rw[h2.1,h3],fun i r hi=>?_⟩;obtain⟨c,x,h5,rfl,h6⟩:=h4 i r hi;obtain⟨u',h7,h8⟩:=h2.2 i c h5;exact⟨u',h7,key h6 h8⟩
   | _=>exact hr.elim
 | tup rs=>exact hr.elim
theorem RepV.one1 {μ:Mem} {v:V} {u:Value} (hn:∀ vs,v≠.tup vs) (hv:RepV1 μ v u):RepV μ v u:=by
 cases v with
 | tup vs=>exact (hn vs rfl).elim
 | _=>exact hv
theorem Zli {m:CM} {blk:Nat->Option Nat × Nat} (key:∀ {c:C} {x:D} {v:Value},Frz h c x->RepC μ c v->RepD m x v) {v:V} {r:RV} {u:Value} (hv:RepV μ v u) (hr:FrzFin h v r):RepRV m blk r u:=by
 cases r with
 | tup rs=>
   cases v with
   | tup vs=>
     obtain⟨us,h1,h2,h3⟩:=hv;obtain⟨h4,h5⟩:=FrzVs.get hr;refine⟨us,h1,by rw[h2,h4],fun i r hi=>?_⟩;obtain⟨v,h6,h7⟩:=h5 i r hi;obtain⟨u',h8,h9⟩:=h3 i v h6;refine⟨u',h8,Zdq key (RepV.one1 (fun vs he=>by subst he;exact h9.elim) h9) h7⟩
   | _=>exact hr.elim
 | one c=>exact Zdq (r:=.one c) key hv hr
 | agg rs=>exact Zdq (r:=.agg rs) key hv hr
theorem PSpec.of_heap {f:FuncId} {ars:List AV} {r:RV} (hs:HSpec P f (ars.map AV.toV) HS.init (fun v h=>FrzFin h v r)):PSpec P f ars r:=by
 refine⟨hs.1,fun w m t vals hg hm ht hargs=>?_⟩;have hI:Inv ⟨w,m,t,hg⟩ HS.init { cell:=m,tmp:=t,loc:=fun _=>none } w:=
  ⟨hm,rfl,ht,fun b o v hv=>ht.lt hv,Sub.refl _,fun _ _ _ _ h=>h,Below.refl _ _,fun l cs hl=>by simp[HS.init] at hl,fun l es n hl=>by simp[HS.init] at hl,
   fun l l' b n n' hl=>by rcases hl with hl | hl<;>simp[HS.init] at hl,fun l hl=>absurd rfl hl,fun l hl=>by simp[HS.init] at hl⟩
 refine (hs.2 ⟨w,m,t,hg⟩ _ w vals hI ⟨by simp[hargs.1],fun i v hi=>?_⟩).mono ?_
 .rw[Y0b] at hi;cases hx:ars[i]? with
  | none=>simp[hx] at hi
  | some x=>
    simp[hx] at hi;subst hi;obtain⟨u,hu,hr⟩:=hargs.2 i x hx;exact⟨u,hu,AV_rep hr⟩
 .rintro en w' ⟨u,v,h',μ',rfl,hfr,hI',hru,hle⟩
  let m':CM:=fun b o=>match μ'.cell b o with
   | some v=>some v
   | none=>if w.heap.size<=b then w'.cell? ⟨b,o,none⟩ else none
  have hsub:Sub μ'.cell m':=fun b o v hv=>by show (match μ'.cell b o with | some v=>some v | none=>_)=some v;rw[hv]
  have hcell:Cells m' w':=fun b o v hv=>by
   have hv':(match μ'.cell b o with | some v=>some v | none=>if w.heap.size<=b then w'.cell? ⟨b,o,none⟩ else none)=some v:=hv;cases hx:μ'.cell b o with
   | some y=>rw[hx] at hv';injection hv' with hv';subst hv';exact hI'.cell _ _ _ hx
   | none=>
     rw[hx] at hv';simp only at hv';split at hv'
     .exact hv'
     .cases hv'
  refine⟨u,m',fun _=>(none,0),rfl,fun b o v hv=>hsub _ _ _ (hI'.ext _ _ _ hv),fun b o v hb hv=>?_,hcell,hI'.below,?_,?_⟩
  .have hv':(match μ'.cell b o with | some v=>some v | none=>if w.heap.size<=b then w'.cell? ⟨b,o,none⟩ else none)=some v:=hv;cases hx:μ'.cell b o with
   | some y=>rw[hx] at hv';injection hv' with hv';subst hv';exact hI'.old _ _ _ hb hx
   | none=>rw[hx] at hv';simp only at hv';rw[if_neg (by omega)] at hv';cases hv'
  .refine Zli (fun hf hc=>Zii hI' hsub (fun l cs b n o u hb hl hu=>?_) hf hc) hru hfr;obtain⟨b',n',T,conc,h1,h2,h3,_,h5⟩:=hI'.box l cs hb;rw[hl] at h1;simp only[Y06,Y07] at h1;obtain⟨rfl,_⟩:=h1;show (match μ'.cell b o with | some v=>some v | none=>if w.heap.size<=b then w'.cell? ⟨b,o,none⟩ else none)=some u;rw[h5 o];simp only;rw[if_pos h2];exact hu
  .rw[hfr.fr];exact⟨fun x hx=>by simp at hx,fun x hx=>by simp at hx⟩
end
end Go.Am
end
section
namespace Go.Am
open Go
open Go.RowKit (Below)
section
variable {P:Program} {w:World} {a:Act} {e:Env} {h:HS} {μ:Mem} {Γ:Ctx}
inductive LendC (h:HS):C->A->Prop
 | frz {c:C} {x:D} (hf:Frz h c x):LendC h c (.d x)
 | ptr {l:Lab} {off:Nat} {cs:List C} {ds:List D} (hb:h.box l=some cs) (hf:FrzCs h (cs.drop off) ds):LendC h (.ptr l off) (.rp ds)
 | rp {cs:List D}:LendC h (.rp cs) (.rp cs)
 | fn {f:FuncId} {caps:List Cap} {dss:List (List D)} (hl:caps.length=dss.length) (hc:∀ (i:Nat) c ds,caps[i]? = some c->dss[i]? = some ds->match c with
   | .lab l=>∃ cs,h.box l=some cs/\FrzCs h cs ds
   | .rp cs=>cs=ds):LendC h (.fn f caps) (.fn f dss)
inductive LendV (h:HS):V->AV->Prop
 | one {c:C} {x:A} (hc:LendC h c x):LendV h (.one c) (.one x)
 | agg {cs:List C} {ds:List D} (hc:FrzCs h cs ds):LendV h (.agg cs) (.agg ds)
def LendVs (h:HS):List V->List AV->Prop
 | [],[]=>True
 | v::vs,x::xs=>LendV h v x/\LendVs h vs xs
 | _,_=>False
theorem LendVs.get:∀ {vs:List V} {xs:List AV},LendVs h vs xs->vs.length=xs.length/\∀ (i:Nat) x,xs[i]? = some x->∃ v,vs[i]? = some v/\LendV h v x
 | [],[],_=>⟨rfl,fun i x hi=>by simp at hi⟩
 | c::cs,y::xs,hr=>by
   obtain⟨h1,h2⟩:=LendVs.get hr.2;refine⟨by simp[h1],fun i x hi=>?_⟩;cases i with
   | zero=>simp at hi;subst hi;exact⟨c,by simp,hr.1⟩
   | succ i=>obtain⟨c',h3,h4⟩:=h2 i x (by simpa using hi);exact⟨c',by simpa using h3,h4⟩
 | [],_::_,hr=>hr.elim
 | _::_,[],hr=>hr.elim
theorem Zfk (hI:Inv Γ h μ w) {c:C} {x:D} {v:Value} (hf:Frz h c x) (hc:RepC μ c v):RepD (snap w) x v:=
 Zii hI hI.cell (fun _ _ _ _ _ _ _ _ hu=>hu) hf hc
theorem Zj0 (hI:Inv Γ h μ w) {l:Lab} {cs:List C} {off:Nat} {ds:List D} (hb:h.box l=some cs) (hf:FrzCs h (cs.drop off) ds) {b n:Nat} (hl:μ.loc l=some (some b,n)):RepP (snap w) (snap w) ds (.pointer (some ⟨b,off,none⟩)):=by
 obtain⟨b',n',T,conc,h1,_,h3,h4,_⟩:=hI.box l cs hb;rw[hl] at h1;simp only[Y06,Y07] at h1;obtain⟨rfl,_⟩:=h1;obtain⟨_,hg⟩:=hf.get;refine⟨b,off,rfl,fun j c hj=>?_⟩;obtain⟨c',hc',hfz⟩:=hg j c hj;rw[Y16] at hc';obtain⟨u,hu,hr⟩:=h4.2 _ _ hc';refine⟨u,.inl ?_,Zfk hI hfz hr⟩;show w.cell? ⟨b,off+j,none⟩=some u;simp[World.cell?,h3,hu]
theorem Zmu (hI:Inv Γ h μ w) {cs:List D} {v:Value} (hr:RepP μ.cell μ.tmp cs v):RepP (snap w) (snap w) cs v:=by
 obtain⟨b,off,rfl,hc⟩:=hr;refine⟨b,off,rfl,fun j c hj=>?_⟩;obtain⟨u,hu,hrr⟩:=hc j c hj;refine⟨u,.inl ?_,hrr.mono hI.cell⟩;rcases hu with hu | hu
 .exact hI.cell _ _ _ hu
 .rw[hI.tmp] at hu;exact hI.tcell _ _ _ hu
theorem Zn9 (hI:Inv Γ h μ w) {c:C} {x:A} {v:Value} (hl:LendC h c x) (hc:RepC μ c v):RepA (snap w) (snap w) x v:=by
 cases hl with
 | frz hf=>exact Zfk hI hf hc
 | ptr hb hf=>obtain⟨b,n,hl,rfl⟩:=hc;exact Zj0 hI hb hf hl
 | rp=>exact Zmu hI hc
 | fn hlen hcs=>
   obtain⟨vs,h1,h2,h3⟩:=hc;refine⟨vs,h1,by rw[h2,hlen],fun i ds hi=>?_⟩;rename_i f caps dss;have hlt:i < caps.length:=by rw[hlen];exact (Y00.1 hi).1
   have hci:caps[i]? = some caps[i]:=Y01 hlt;obtain⟨u,hu,hr⟩:=h3 i _ hci;refine⟨u,hu,?_⟩
   have:=hcs i _ ds hci hi
   generalize caps[i]=cp at this hr;cases cp with
   | lab l=>
     obtain⟨cs,hb,hf⟩:=this;obtain⟨b,n,hl,rfl⟩:=hr;exact Zj0 (off:=0) hI hb (by simpa using hf) hl
   | rp cs=>subst this;exact Zmu hI hr
theorem Zn8 (hI:Inv Γ h μ w) {v:V} {x:AV} {u:Value} (hl:LendV h v x) (hv:RepV μ v u):RepAV (snap w) (snap w) x u:=by
 cases hl with
 | one hc=>exact Zn9 hI hc hv
 | agg hc=>
   obtain⟨vs,h1,h2⟩:=hv;obtain⟨h3,h4⟩:=hc.get;refine⟨vs,h1,by rw[h2.1,h3],fun i x hi=>?_⟩;obtain⟨c,h5,h6⟩:=h4 i x hi;obtain⟨u',h7,h8⟩:=h2.2 i c h5;exact⟨u',h7,Zfk hI h6 h8⟩
def D.flat:D->Bool
 | .sl _=>false
 | _=>true
def RC.flat:RC->Bool
 | .d x=>x.flat
 | .fresh _ _ xs=>xs.all fun y=>y.all D.flat
def RV1.flat:RV->Bool
 | .one c=>c.flat
 | .agg cs=>cs.all RC.flat
 | .tup _=>true
def RV.flat:RV->Bool
 | .tup vs=>vs.all RV1.flat
 | v=>RV1.flat v
theorem Zjf {m m':CM} {x:D} {v:Value} (hf:x.flat=true) (h:RepD m x v):RepD m' x v:=by
 cases h with
 | int k n=>exact .int k n
 | bool b=>exact .bool b
 | str s=>exact .str s
 | raw v h=>exact .raw v h
 | sl=>simp[D.flat] at hf
theorem HSpec.of_lend {f:FuncId} {vs:List V} {ars:List AV} {r:RV} {K:V->HS->Prop} (hs:PSpec P f ars r) (hl:LendVs h vs ars) (hflat:r.flat=true) (hk:K (r.toV h.ep 0) ((h.addFr 0 r.fr).next)):HSpec P f vs h K:=by
 refine⟨hs.1,fun Γ μ w vals hI hR=>?_⟩;obtain⟨hlen,hget⟩:=hl.get;have hargs:Zc6 (snap w) (snap w) ars vals:=⟨by rw[hR.1,hlen],fun i x hi=>by
  obtain⟨v,hv,hlv⟩:=hget i x hi;obtain⟨u,hu,hr⟩:=hR.2 i v hv;exact⟨u,hu,Zn8 hI hlv hr⟩⟩
 refine (hs.2 w (snap w) (snap w) vals hI.glob (Z9v w) (Z9v w) hargs).mono ?_;rintro en w' ⟨v,m',blk,rfl,hsub,hold,hcell,hb,hr,hfr⟩
 let m2:CM:=fun b o=>match μ.cell b o with
  | some v=>some v
  | none=>if w.heap.size<=b then m' b o else none
 have e2:∀ b o,m2 b o=match μ.cell b o with
  | some v=>some v
  | none=>if w.heap.size<=b then m' b o else none:=fun _ _=>rfl
 have hsub1:Sub μ.cell m2:=fun b o v hv=>by rw[e2,hv]
 have hsub2:Sub m2 m':=fun b o v hv=>by
  rw[e2] at hv;cases hx:μ.cell b o with
  | some y=>rw[hx] at hv;injection hv with hv;subst hv;exact hsub _ _ _ (hI.cell _ _ _ hx)
  | none=>
    rw[hx] at hv;simp only at hv;split at hv
    .exact hv
    .cases hv
 have hnew:∀ b o,w.heap.size<=b->m2 b o=m' b o:=fun b o hb=>by
  rw[e2];cases hx:μ.cell b o with
  | some y=>have:=hI.cell.lt hx;omega
  | none=>simp only;rw[if_pos hb]
 have hold2:∀ b o u,b < w.heap.size->m2 b o=some u->μ.cell b o=some u:=fun b o u hb hu=>by
  rw[e2] at hu;cases hx:μ.cell b o with
  | some y=>rw[hx] at hu;exact hu
  | none=>rw[hx] at hu;simp only at hu;rw[if_neg (by omega)] at hu;cases hu
 have hcell2:Cells m2 w':=fun b o v hv=>hcell _ _ _ (hsub2 _ _ _ hv);have hfr2:Zc7 m2 w w' blk r.fr:=⟨fun x hx=>by
  have h1:=hfr.1 x hx;refine⟨h1.1,fun g hg=>?_⟩;obtain⟨h2,T,cur,h3,h4,h5,h6,h7⟩:=h1.2 g hg;exact⟨h2,T,cur,h3,h4,h5,h6,fun o ho=>by rw[hnew g o h2];exact h7 o ho⟩,hfr.2⟩
 have rc:∀ (c:RC) (u:Value),c.flat=true->(∀ x ∈ c.fr,x ∈ r.fr)->RepRC m' blk c u->RepRC m2 blk c u:=fun c u hf hin hc=>by
  cases c with
  | d x=>exact Zjf hf hc
  | fresh j es xs=>
    obtain⟨h1,h2⟩:=hc;refine⟨?_,h2⟩;have hrow:=hfr.1 (j,es,xs.length) (hin _ (by simp[RC.fr]));generalize hv:u=uu at h1;cases h1 with
    | sl xs ad cap es' b off f hl hc hes ha hcl hrep=>
      subst hv;refine .sl xs ad cap es' b off f hl hc hes ha (fun i x hx j' d hd=>?_) (fun i x hx j' d hd=>Zjf ?_ (hrep i x hx j' d hd))
      .have hne:xs≠[]:=by rintro rfl;simp at hx
       have had:=ha hne;rw[had] at h2;simp only[hdr,Value.slice.injEq] at h2;obtain⟨h3,_⟩:=h2;cases hg:(blk j).1 with
       | none=>rw[hg] at h3;cases h3
       | some g=>
         rw[hg] at h3;simp only[Y0h,Y06,Addr.mk.injEq] at h3;obtain⟨rfl,_⟩:=h3
         have:=(hrow.2 b hg).1
         rw[hnew b _ this];exact hcl i x hx j' d hd
      .simp only[RC.flat] at hf;have h4:=Y1a.1 hf x (Y03 hx);exact Y1a.1 h4 d (Y03 hd)
 have rv1:∀ (c:RV) (u:Value),RV1.flat c=true->(∀ x ∈ RV1.fr c,x ∈ r.fr)->RepRV1 m' blk c u->RepRV1 m2 blk c u:=fun c u hf hin hc=>by
  cases c with
  | one c=>exact rc c u hf hin hc
  | agg cs=>
    obtain⟨us,h1,h2,h3⟩:=hc;refine⟨us,h1,h2,fun i c hi=>?_⟩;obtain⟨u',h4,h5⟩:=h3 i c hi;refine⟨u',h4,rc c u' (Y1a.1 hf c (Y03 hi)) (fun x hx=>hin x ?_) h5⟩;exact Y0w.2 ⟨c,Y03 hi,hx⟩
  | tup vs=>exact hc.elim
 have hr2:RepRV m2 blk r v:=by
  cases r with
  | tup rs=>
    obtain⟨us,h1,h2,h3⟩:=hr;refine⟨us,h1,h2,fun i c hi=>?_⟩;obtain⟨u',h4,h5⟩:=h3 i c hi;refine⟨u',h4,rv1 c u' (Y1a.1 hflat c (Y03 hi)) (fun x hx=>?_) h5⟩;exact Y0w.2 ⟨c,Y03 hi,hx⟩
  | one c=>exact rv1 (.one c) v hflat (fun x hx=>hx) hr
  | agg cs=>exact rv1 (.agg cs) v hflat (fun x hx=>hx) hr
 have hle:Mem.Le μ (relab μ h.ep 0 m2 blk):=⟨hsub1,rfl,fun l x hl=>by
  have:=hI.lt l (by rw[hl];simp)
  simp only[relab];rw[if_neg (by omega)];exact hl⟩
 exact⟨v,_,_,relab μ h.ep 0 m2 blk,rfl,hk,hI.call 0 hsub1 hold2 hcell2 hb hfr2,RV_rep hr2 h.ep 0,hle⟩
end
end Go.Am
end
section
namespace Go.Am
open Go
class Hid (α:Type) where
 out:α
def optV {α:Type} (x:Option α) [k:Hid (α->Prop)]:Prop:=
 match x with
 | some v=>k.out v
 | none=>False
@[simp] theorem Ztb {α:Type} {v:α} {f:α->Prop}:optV (some v) (k:=⟨f⟩)=f v:=rfl
@[simp] theorem Ztc {α:Type} {k:Hid (α->Prop)}:optV none (k:=k)=False:=rfl
def ptrV (x:V) [k:Hid (Lab->Nat->Prop)]:Prop:=
 match x with
 | .one (.ptr l off)=>k.out l off
 | _=>False
@[simp] theorem Zu7 {l:Lab} {off:Nat} {f:Lab->Nat->Prop}:ptrV (.one (.ptr l off)) (k:=⟨f⟩)=f l off:=rfl
def fnV (x:V) [k:Hid (FuncId->List Cap->Prop)]:Prop:=
 match x with
 | .one (.fn f caps)=>k.out f caps
 | _=>False
@[simp] theorem fnV_fn {g:FuncId} {caps:List Cap} {f:FuncId->List Cap->Prop}:fnV (.one (.fn g caps)) (k:=⟨f⟩)=f g caps:=rfl
def oneV (x:V) [k:Hid (C->Prop)]:Prop:=
 match x with
 | .one c=>k.out c
 | _=>False
@[simp] theorem Zu8 {c:C} {f:C->Prop}:oneV (.one c) (k:=⟨f⟩)=f c:=rfl
def condV (x:V) [p:Hid (Unit->Prop)] [q:Hid (Bool->Prop)]:Prop:=
 match x with
 | .one (.d (.bool t))=>(t=true->p.out ())/\(t=false->q.out true)
 | _=>False
@[simp] theorem Zst {f:Unit->Prop} {q:Hid (Bool->Prop)}:condV (.one (.d (.bool true))) (p:=⟨f⟩) (q:=q)=f ():=by simp[condV]
@[simp] theorem Zrz {p:Hid (Unit->Prop)} {g:Bool->Prop}:condV (.one (.d (.bool false))) (p:=p) (q:=⟨g⟩)=g true:=by simp[condV]
theorem Z79 {t:Bool} {f:Unit->Prop} {g:Bool->Prop} (h1:t=true->f ()) (h2:t=false->g true):condV (.one (.d (.bool t))) (p:=⟨f⟩) (q:=⟨g⟩):=⟨h1,h2⟩
theorem Z4d {a:Prop} [Decidable a] {f:Unit->Prop} {g:Bool->Prop} (h1:a->f ()) (h2:¬ a->g true):condV (.one (.d (.bool (decide a)))) (p:=⟨f⟩) (q:=⟨g⟩):=
 ⟨fun h=>h1 (of_decide_eq_true h),fun h=>h2 (of_decide_eq_false h)⟩
def guardV (x:V) (want:Bool) [p:Hid (Unit->Prop)] [q:Hid (Bool->Prop)]:Prop:=
 match x with
 | .one (.d (.bool b))=>(b=want->p.out ())/\(b≠want->q.out true)
 | .undef=>q.out true
 | _=>False
@[simp] theorem Ztm {f:Unit->Prop} {q:Hid (Bool->Prop)}:guardV (.one (.d (.bool true))) true (p:=⟨f⟩) (q:=q)=f ():=by simp[guardV]
@[simp] theorem Ztp {f:Unit->Prop} {q:Hid (Bool->Prop)}:guardV (.one (.d (.bool false))) false (p:=⟨f⟩) (q:=q)=f ():=by simp[guardV]
@[simp] theorem Ztn {p:Hid (Unit->Prop)} {g:Bool->Prop}:guardV (.one (.d (.bool true))) false (p:=p) (q:=⟨g⟩)=g true:=by simp[guardV]
@[simp] theorem Zto {p:Hid (Unit->Prop)} {g:Bool->Prop}:guardV (.one (.d (.bool false))) true (p:=p) (q:=⟨g⟩)=g true:=by simp[guardV]
@[simp] theorem Zq9 {want:Bool} {p:Hid (Unit->Prop)} {g:Bool->Prop}:guardV .undef want (p:=p) (q:=⟨g⟩)=g true:=rfl
def binK (P:Program) (op:BinOp) (t:TypeId) (x y:V) [k:Hid (V->Prop)]:Prop:=
 match x,y with
 | .agg cs,.agg cs'=>match toDs cs,toDs cs' with
   | some a,some b=>(isCmp op=true/\a.map kdOf=b.map kdOf/\Kd.other ∉ a.map kdOf/\EqT P t (a.map kdOf))/\k.out (dbool (if op=.neq then !(eqDs a b) else eqDs a b))
   | _,_=>False
 | u,v=>match binV (Zaj P t) op u v with
   | some r=>k.out r
   | none=>False
@[simp] theorem Zuq {P:Program} {op:BinOp} {t:TypeId} {c c':C} {f:V->Prop}:binK P op t (.one c) (.one c') (k:=⟨f⟩)=optV (binV (Zaj P t) op (.one c) (.one c')) (k:=⟨f⟩):=by
 unfold binK;dsimp only;split<;>simp_all [optV]
@[simp] theorem Zur {P:Program} {op:BinOp} {t:TypeId} {cs cs':List C} {f:V->Prop}:binK P op t (.agg cs) (.agg cs') (k:=⟨f⟩) =
  optV (toDs cs) (k:=⟨fun a=>optV (toDs cs') (k:=⟨fun b=>(isCmp op=true/\a.map kdOf=b.map kdOf/\Kd.other ∉ a.map kdOf/\EqT P t (a.map kdOf))/\f (dbool (if op=.neq then !(eqDs a b) else eqDs a b))⟩)⟩):=by
 simp only[binK];cases toDs cs<;>cases toDs cs'<;>rfl
def bldV (a:Option (List (List D))) (b:Option (List C)) [k:Hid (List (List D)->Prop)] [q:Hid (List C->Prop)]:Prop:=
 match a with
 | some xs=>k.out xs
 | none=>match b with
   | some cs=>q.out cs
   | none=>False
@[simp] theorem Ztr {xs:List (List D)} {b:Option (List C)} {f:List (List D)->Prop} {q:Hid (List C->Prop)}:bldV (some xs) b (k:=⟨f⟩) (q:=q)=f xs:=rfl
@[simp] theorem Zts {cs:List C} {k:Hid (List (List D)->Prop)} {f:List C->Prop}:bldV none (some cs) (k:=k) (q:=⟨f⟩)=f cs:=rfl
def makV (x y:V) [k:Hid (Int->Int->Prop)]:Prop:=
 match x,y with
 | .one (.d (.int _ a)),.one (.d (.int _ b))=>k.out a b
 | _,_=>False
@[simp] theorem Zub {i j:IntKind} {a b:Int} {f:Int->Int->Prop}:makV (.one (.d (.int i a))) (.one (.d (.int j b))) (k:=⟨f⟩)=f a b:=rfl
def binN (b:Bool) [p:Hid (Unit->Prop)] [q:Hid (Bool->Prop)]:Prop:=
 match b with
 | true=>p.out ()
 | false=>q.out true
@[simp] theorem Ztt {f:Unit->Prop} {q:Hid (Bool->Prop)}:binN true (p:=⟨f⟩) (q:=q)=f ():=rfl
@[simp] theorem Zsv {p:Hid (Unit->Prop)} {g:Bool->Prop}:binN false (p:=p) (q:=⟨g⟩)=g true:=rfl
def nilV (x:V) [k:Hid (C->Prop)]:Prop:=
 match x with
 | .one c=>k.out c
 | _=>False
def Wait (P:Program) [c:Hid Code] [Q:Hid (Exit->Env->HS->Prop)] (e:Env) (h:HS):Prop:=SWP P c.out Q.out e h
theorem Wait.of {P:Program} {c:Code} {Q:Exit->Env->HS->Prop} {e:Env} {h:HS} (hs:SWP P c Q e h):Wait P (c:=⟨c⟩) (Q:=⟨Q⟩) e h:=hs
theorem Wait.loop {P:Program} {c:Code} {Q:Exit->Env->HS->Prop} {e:Env} {h:HS} (I:Nat->Env->HS->Prop) (n:Nat) (h0:I n e h)
  (round:∀ n e h,I n e h->vc P c (thenQ (fun e' h'=>∃ n',n' < n/\I n' e' h') Q) e h):Wait P (c:=⟨.loop c⟩) (Q:=⟨Q⟩) e h:=SWP.loop I n h0 round
def Back [I:Hid (Nat->Env->HS->Prop)] (n:Nat) (e:Env) (h:HS):Prop:=∃ n',n' < n/\I.out n' e h
theorem Back.of {I:Nat->Env->HS->Prop} {n n':Nat} {e:Env} {h:HS} (hn:n' < n) (hI:I n' e h):Back (I:=⟨I⟩) n e h:=⟨n',hn,hI⟩
theorem Wait.rounds {P:Program} {c:Code} {Q:Exit->Env->HS->Prop} {e:Env} {h:HS} (I:Nat->Env->HS->Prop) (n:Nat) (h0:I n e h)
  (round:∀ n e h,I n e h->vc P c (thenQ (fun e' h'=>Back (I:=⟨I⟩) n e' h') Q) e h):Wait P (c:=⟨.loop c⟩) (Q:=⟨Q⟩) e h:=SWP.loop I n h0 round
def lenK (c:C) [k:Hid (Nat->Prop)]:Prop:=
 match c with
 | .mrow _ _ n _=>k.out n
 | c=>match c.list? with
   | some xs=>xs.length<=LIM->k.out xs.length
   | none=>False
@[simp] theorem Ztd {l:Lab} {off n cap:Nat} {f:Nat->Prop}:lenK (.mrow l off n cap) (k:=⟨f⟩)=f n:=rfl
@[simp] theorem Zue {l:Lab} {xs:List (List D)} {f:Nat->Prop}:lenK (.own l xs) (k:=⟨f⟩)=(xs.length<=LIM->f xs.length):=rfl
@[simp] theorem Zv7 {xs:List (List D)} {f:Nat->Prop}:lenK (.d (.sl xs)) (k:=⟨f⟩)=(xs.length<=LIM->f xs.length):=rfl
@[simp] theorem Zuf {f:Nat->Prop}:lenK .nil (k:=⟨f⟩)=f 0:=by simp[lenK,C.list?]
@[simp] theorem lenK_z {f:Nat->Prop}:lenK .z (k:=⟨f⟩)=f 0:=by simp[lenK,C.list?]
theorem Zfv {c:C} {xs:List (List D)} {f:Nat->Prop} (hc:c.list? = some xs) (hk:xs.length<=LIM->f xs.length):lenK c (k:=⟨f⟩):=by
 unfold lenK;split
 .simp[C.list?] at hc
 .rw[hc];exact hk
def C.str?:C->Option ByteArray
 | .d (.str s)=>some s
 | _=>none
@[simp] theorem str_d {s:ByteArray}:C.str? (.d (.str s))=some s:=rfl
section
variable {P:Program} {Q:Exit->Env->HS->Prop} {N:Env->HS->Prop} {K:Env->HS->Prop} {e:Env} {h:HS}
@[simp ↓] theorem Zut:vc P .skip Q e h=Q .normal e h:=rfl
@[simp ↓] theorem Zsw {id:Nat} {l:List Oper}:vc P (.region id l.toArray false) Q e h=vcOps P l l e h (Q .normal):=rfl
@[simp ↓] theorem vc_seq {a b:Code}:vc P (.seq a b) Q e h=vc P a (thenQ (fun e h=>vc P b Q e h) Q) e h:=rfl
@[simp ↓] theorem Zux {c:Operand} {a b:Code}:vc P (.cond c a b) Q e h=condV (e.ev c) (p:=⟨fun _=>vc P a Q e h⟩) (q:=⟨fun _=>vc P b Q e h⟩):=rfl
@[simp ↓] theorem Ztu {id:Nat} {c:Code}:vc P (.block id c) Q e h=vc P c (blockQ id Q) e h:=rfl
@[simp ↓] theorem Zuv {id:Nat}:vc P (.exit id) Q e h=Q (.exit id) e h:=rfl
@[simp ↓] theorem vc_ret:vc P .ret Q e h=Q .ret e h:=rfl
@[simp ↓] theorem Zuu {c:Code}:vc P (.loop c) Q e h=Wait P (c:=⟨.loop c⟩) (Q:=⟨Q⟩) e h:=rfl
@[simp ↓] theorem Zuw {id:Nat} {l:Array Oper}:vc P (.region id l true) Q e h=Wait P (c:=⟨.region id l true⟩) (Q:=⟨Q⟩) e h:=rfl
@[simp ↓] theorem Zq6:thenQ N Q .normal e h=N e h:=rfl
@[simp ↓] theorem Zt7:thenQ N Q .ret e h=Q .ret e h:=rfl
@[simp ↓] theorem Zsd {id:Nat}:thenQ N Q (.exit id) e h=Q (.exit id) e h:=rfl
@[simp ↓] theorem Zpz {id:Nat}:blockQ id Q .normal e h=Q .normal e h:=rfl
@[simp ↓] theorem Zsu {id:Nat}:blockQ id Q .ret e h=Q .ret e h:=rfl
@[simp ↓] theorem Zlo {id:Nat}:blockQ id Q (.exit id) e h=Q .normal e h:=by simp[blockQ]
@[simp ↓] theorem Zu4 {rs:List ResultVar} {r:RV}:retQ P rs r .ret e h=retOK P rs r e h:=rfl
@[simp ↓] theorem Zrp {rs:List ResultVar} {r:RV}:retQ P rs r .normal e h=retOK P rs r e h:=rfl
@[simp ↓] theorem Zsx {all:List Oper}:vcOps P all [] e h K=K e h:=rfl
@[simp ↓] theorem Zqg {all:List Oper} {d:Option Nat} {op:Op} {t:TypeId} {p:String} {af:Array Edge} {os:List Oper}:vcOps P all ({ dst:=d,op:=op,type:=t,pos:=p,after:=af,guard:=none }::os) e h K =
  (dstOK { dst:=d,op:=op,type:=t,pos:=p,after:=af,guard:=none } e/\vcOp P { dst:=d,op:=op,type:=t,pos:=p,after:=af,guard:=none } e h fun e h=>vcOps P all os e h K):=rfl
@[simp ↓] theorem Zqh {all:List Oper} {d:Option Nat} {op:Op} {t:TypeId} {p:String} {af:Array Edge} {j:Nat} {want:Bool} {os:List Oper}:vcOps P all ({ dst:=d,op:=op,type:=t,pos:=p,after:=af,guard:=some (j,want) }::os) e h K =
  (dstOK { dst:=d,op:=op,type:=t,pos:=p,after:=af,guard:=some (j,want) } e/\guardV (Z64 all e j) want (p:=⟨fun _=>vcOp P { dst:=d,op:=op,type:=t,pos:=p,after:=af,guard:=some (j,want) } e h fun e h=>vcOps P all os e h K⟩) (q:=⟨fun _=>vcOps P all os (e.put d .undef) h K⟩)):=rfl
section
variable {d:Option Nat} {t:TypeId} {p:String} {af:Array Edge} {g:Option (Nat × Bool)}
@[simp] theorem Zsr {k:Nat} {op:Op}:dstOK { dst:=some k,op:=op,type:=t,pos:=p,after:=af,guard:=g } e=(k < e.n):=rfl
@[simp] theorem Zss {op:Op}:dstOK { dst:=none,op:=op,type:=t,pos:=p,after:=af,guard:=g } e=True:=rfl
@[simp ↓] theorem Zt0 {x:Operand}:vcOp P { dst:=d,op:=.move x,type:=t,pos:=p,after:=af,guard:=g } e h K=K (e.put d (e.ev x)) h:=rfl
@[simp ↓] theorem Zqi {x:Operand}:vcOp P { dst:=d,op:=.assign x,type:=t,pos:=p,after:=af,guard:=g } e h K=K (e.put d (e.ev x)) h:=rfl
@[simp ↓] theorem Zsz {c x y:Operand}:vcOp P { dst:=d,op:=.pick c x y,type:=t,pos:=p,after:=af,guard:=g } e h K=optV (eff P (.pick c x y) e h) (k:=⟨fun v=>K (e.put d v) h⟩):=by
 unfold vcOp;dsimp only;split<;>simp_all [optV]
@[simp ↓] theorem Zsy {op:UnOp} {ty:TypeId} {x:Operand}:vcOp P { dst:=d,op:=.unOp op ty x,type:=t,pos:=p,after:=af,guard:=g } e h K=optV (eff P (.unOp op ty x) e h) (k:=⟨fun v=>K (e.put d v) h⟩):=by
 unfold vcOp;dsimp only;split<;>simp_all [optV]
@[simp ↓] theorem Znx {ty f:Nat} {x:Operand}:vcOp P { dst:=d,op:=.fieldAddr ty x f,type:=t,pos:=p,after:=af,guard:=g } e h K=optV (eff P (.fieldAddr ty x f) e h) (k:=⟨fun v=>K (e.put d v) h⟩):=by
 unfold vcOp;dsimp only;split<;>simp_all [optV]
@[simp ↓] theorem Zs6 {ty f:Nat} {x:Operand}:vcOp P { dst:=d,op:=.field ty x f,type:=t,pos:=p,after:=af,guard:=g } e h K=optV (eff P (.field ty x f) e h) (k:=⟨fun v=>K (e.put d v) h⟩):=by
 unfold vcOp;dsimp only;split<;>simp_all [optV]
@[simp ↓] theorem Zt2 {ty:Nat} {x:Operand}:vcOp P { dst:=d,op:=.load ty x,type:=t,pos:=p,after:=af,guard:=g } e h K=optV (eff P (.load ty x) e h) (k:=⟨fun v=>K (e.put d v) h⟩):=by
 unfold vcOp;dsimp only;split<;>simp_all [optV]
@[simp ↓] theorem Ze5 {ty:Nat} {x i:Operand}:vcOp P { dst:=d,op:=.indexAddr ty x i,type:=t,pos:=p,after:=af,guard:=g } e h K=optV (eff P (.indexAddr ty x i) e h) (k:=⟨fun v=>K (e.put d v) h⟩):=by
 unfold vcOp;dsimp only;split<;>simp_all [optV]
@[simp ↓] theorem Zs5 {ty:Nat} {x:Operand} {lo hi mx:Option Operand}:vcOp P { dst:=d,op:=.slice ty x lo hi mx,type:=t,pos:=p,after:=af,guard:=g } e h K=optV (eff P (.slice ty x lo hi mx) e h) (k:=⟨fun v=>K (e.put d v) h⟩):=by
 unfold vcOp;dsimp only;split<;>simp_all [optV]
@[simp ↓] theorem Zq4 {i:Nat} {x:Operand}:vcOp P { dst:=d,op:=.extract x i,type:=t,pos:=p,after:=af,guard:=g } e h K=optV (eff P (.extract x i) e h) (k:=⟨fun v=>K (e.put d v) h⟩):=by
 unfold vcOp;dsimp only;split<;>simp_all [optV]
@[simp ↓] theorem Zo1 {fn:Fn} {x y:Array Operand}:vcOp P { dst:=d,op:=.makeFunc fn x y,type:=t,pos:=p,after:=af,guard:=g } e h K=optV (eff P (.makeFunc fn x y) e h) (k:=⟨fun v=>K (e.put d v) h⟩):=by
 unfold vcOp;dsimp only;split<;>simp_all [optV]
@[simp ↓] theorem Zo0 {x:Operand}:vcOp P { dst:=d,op:=.nilCheck x,type:=t,pos:=p,after:=af,guard:=g } e h K=optV (eff P (.nilCheck x) e h) (k:=⟨fun v=>K (e.put d v) h⟩):=by
 unfold vcOp;dsimp only;split<;>simp_all [optV]
@[simp ↓] theorem Zs4 {ty:TypeId} {x y:Operand}:vcOp P { dst:=d,op:=.store ty x y,type:=t,pos:=p,after:=af,guard:=g } e h K=optV (ldT P ty) (k:=⟨fun z=>ptrV (e.ev x) (k:=⟨fun l off=>optV (h.box l) (k:=⟨fun cs=>
  ((e.ev y).cells.length=z.2/\0 < z.2/\off+z.2<=cs.length)/\K (e.put d .undef) (h.setBox l (Z01 cs off (e.ev y).cells))⟩)⟩)⟩):=by
 simp only[vcOp,optV,ptrV];cases ldT P ty with
 | none=>rfl
 | some z=>
   dsimp only
   generalize e.ev x=X;cases X with
   | one c=>cases c with
     | ptr l off=>dsimp only;cases h.box l<;>rfl
     | _=>rfl
   | _=>rfl
@[simp ↓] theorem Ztz {ty:TypeId} {x:Operand} {k:Nat}:vcOp P { dst:=some k,op:=.box ty x,type:=t,pos:=p,after:=af,guard:=g } e h K =
  ((e.ev x).cells≠[]/\K (e.put (some k) (.one (.ptr (h.ep,16 * k) 0))) ((h.setBox (h.ep,16 * k) (e.ev x).cells).next)):=rfl
@[simp ↓] theorem Zsc {ty:TypeId} {k:Nat}:vcOp P { dst:=some k,op:=.alloc ty,type:=t,pos:=p,after:=af,guard:=g } e h K=optV (zeT P ty) (k:=⟨fun cs=>K (e.put (some k) (.one (.ptr (h.ep,16 * k) 0))) ((h.setBox (h.ep,16 * k) cs).next)⟩):=by
 simp only[vcOp,optV];cases zeT P ty<;>rfl
@[simp ↓] theorem Zsa {ty:TypeId} {ps:List (Nat × Operand)}:vcOp P { dst:=d,op:=.build ty ps.toArray,type:=t,pos:=p,after:=af,guard:=g } e h K=optV (zeT P ty) (k:=⟨fun z=>optV (stT P ty) (k:=⟨fun pl=>optV (fillV pl e ps z) (k:=⟨fun cs=>K (e.put d (.agg cs)) h⟩)⟩)⟩):=by
 simp only[vcOp,optV];cases zeT P ty with
 | none=>rfl
 | some z=>cases stT P ty with
   | none=>rfl
   | some pl=>dsimp only;cases fillV pl e ps z<;>rfl
def emptyK (n:Nat) (d:Nat) (h:HS) [K:Hid (V->HS->Prop)]:Prop:=(0 < n/\n<=64)/\(K.out (.one (.own (h.ep,16 * d) [])) ((h.setArr (h.ep,16 * d) (some (0,n))).next)\/K.out (.one .z) h)
theorem Z7g {n d:Nat} {f:V->HS->Prop} (h0:0 < n/\n<=64) (hk:f (.one (.own (h.ep,16 * d) [])) ((h.setArr (h.ep,16 * d) (some (0,n))).next)):emptyK n d h (K:=⟨f⟩):=⟨h0,.inl hk⟩
theorem Zpp {n d:Nat} {f:V->HS->Prop} (h0:0 < n/\n<=64) (hk:f (.one .z) h):emptyK n d h (K:=⟨f⟩):=⟨h0,.inr hk⟩
theorem Zht {ty:TypeId} {k:Nat}:vcOp P { dst:=some k,op:=.buildSlice ty 0 [].toArray,type:=t,pos:=p,after:=af,guard:=g } e h K=optV (elT P ty) (k:=⟨fun z=>emptyK z.2.1 k h (K:=⟨fun v h'=>K (e.put (some k) v) h'⟩)⟩):=by
 simp only[vcOp,optV];cases elT P ty with
 | none=>rfl
 | some z=>
   simp only[elemsV,emptyK,List.length_nil,true_and,Nat.zero_le];apply propext
   constructor
   .rintro (⟨⟨h1,h2⟩,h3⟩ | ⟨⟨h1,h2⟩,h3⟩)
    .exact⟨⟨h1,h2⟩,.inl h3⟩
    .exact⟨⟨h1,h2⟩,.inr h3⟩
   .rintro⟨⟨h1,h2⟩,h3 | h3⟩
    .exact .inl ⟨⟨h1,h2⟩,h3⟩
    .exact .inr ⟨⟨h1,h2⟩,h3⟩
@[simp ↓] theorem Zs7 {ty:TypeId} {k:Nat}:vcOp P { dst:=some k,op:=.buildSlice ty 0 #[],type:=t,pos:=p,after:=af,guard:=g } e h K=optV (elT P ty) (k:=⟨fun z=>emptyK z.2.1 k h (K:=⟨fun v h'=>K (e.put (some k) v) h'⟩)⟩):=Zht
@[simp ↓] theorem Zly {ty:TypeId} {len k:Nat} {q:Nat × Operand} {ps:List (Nat × Operand)}:vcOp P { dst:=some k,op:=.buildSlice ty len (q::ps).toArray,type:=t,pos:=p,after:=af,guard:=g } e h K=optV (elT P ty) (k:=⟨fun z=>bldV (elemsV e z.2.1 (q::ps) 0) (cellsV e z.2.1 (q::ps) 0)
  (k:=⟨fun xs=>(xs.length=len/\0 < z.2.1/\len<=64/\z.2.1<=64)/\K (e.put (some k) (.one (.own (h.ep,16 * k) xs))) ((h.setArr (h.ep,16 * k) (some (len,z.2.1))).next)⟩)
  (q:=⟨fun cs=>((q::ps).length=len/\0 < z.2.1/\len<=64/\z.2.1<=64)/\K (e.put (some k) (.one (.mrow (h.ep,16 * k) 0 len len))) ((h.setBox (h.ep,16 * k) cs).next)⟩)⟩):=by
 simp only[vcOp,optV,bldV];cases elT P ty with
 | none=>rfl
 | some z=>
   dsimp only
   cases elemsV e z.2.1 (q::ps) 0 with
   | some xs=>simp[dstN]
   | none=>cases cellsV e z.2.1 (q::ps) 0<;>rfl
@[simp ↓] theorem Zt1 {ty:TypeId} {x y:Operand} {k:Nat}:vcOp P { dst:=some k,op:=.makeSlice ty x y,type:=t,pos:=p,after:=af,guard:=g } e h K=optV (elT P ty) (k:=⟨fun z=>optV (zeT P z.1) (k:=⟨fun zc=>makV (e.ev x) (e.ev y) (k:=⟨fun a b=>
  (0<=a/\a<=b/\b<=LIM/\z.2.2<=4096/\0 < z.2.1/\z.2.1<=8)/\K (e.put (some k) (.one (.mrow (h.ep,16 * k) 0 a.toNat b.toNat))) ((h.setBox (h.ep,16 * k) (List.replicate b.toNat zc).flatten).next)⟩)⟩)⟩):=by
 simp only[vcOp,vcMake,optV,makV];cases elT P ty with
 | none=>rfl
 | some z=>
   obtain⟨el,n,b⟩:=z
   dsimp only
   cases zeT P el with
   | none=>rfl
   | some zc=>
     dsimp only
     generalize e.ev x=X;generalize e.ev y=Y;cases X with
     | one c=>cases c with
       | d u=>cases u with
         | int k a=>cases Y with
           | one c=>cases c with
             | d u=>cases u<;>rfl
             | _=>rfl
           | _=>rfl
         | _=>rfl
       | _=>rfl
     | _=>rfl
@[simp ↓] theorem Zsb {op:BinOp} {ty ty':TypeId} {x y:Operand}:vcOp P { dst:=d,op:=.binOp op ty x y ty',type:=t,pos:=p,after:=af,guard:=g } e h K =
  binN (isNilConst y) (p:=⟨fun _=>nilV (e.ev x) (k:=⟨fun c=>vcNil P op ty c (fun v=>K (e.put d v) h)⟩)⟩) (q:=⟨fun _=>binK P op ty (e.ev x) (e.ev y) (k:=⟨fun v=>K (e.put d v) h⟩)⟩):=by
 simp only[vcOp,binK,binN,nilV];cases hn:isNilConst y with
 | true=>simp only[if_true,vcNilV];cases e.ev x<;>rfl
 | false=>
   simp only[Y1k,if_false];generalize e.ev x=X;generalize e.ev y=Y;cases X<;>cases Y<;>rfl
def nilK (P:Program) (op:BinOp) (ty:TypeId) (c:C) [K:Hid (V->Prop)]:Prop:=vcNil P op ty c K.out
def capK (P:Program) (ty:TypeId) (c:C) [K:Hid (V->Prop)]:Prop:=vcCap P ty c K.out
@[simp ↓] theorem Zty {x:Operand} {ty:TypeId}:vcOp P { dst:=d,op:=.call { callee:=.builtin .cap,args:=[x].toArray,argTypes:=[ty].toArray },type:=t,pos:=p,after:=af,guard:=g } e h K =
  oneV (e.ev x) (k:=⟨fun c=>capK P ty c (K:=⟨fun v=>K (e.put d v) h⟩)⟩):=by
 simp only[vcOp,oneV,Y0d,Y0g,capK];cases e.ev x<;>rfl
theorem Zae {ty el n b:Nat} (h:elT P ty=some (el,n,b)):∃ el,P.underlying ty=some (.slice el):=by
 obtain⟨i,z,hu,_⟩:=Z5h h;exact⟨_,hu⟩
@[simp] theorem Zu9 {op:BinOp} {ty:TypeId} {c:C} {f:V->Prop}:nilV (.one c) (k:=⟨fun c=>vcNil P op ty c f⟩)=nilK P op ty c (K:=⟨f⟩):=rfl
theorem Z9d {op:BinOp} {ty:TypeId} {z:TypeId × Nat × Nat} {c:C} {f:V->Prop} (hel:elT P ty=some z) (hop:isCmp op=true) {xs:List (List D)} (hc:c.list? = some xs) (hk:∀ b:Bool,(xs≠[]->b=false)->f (dbool (if op=.neq then !b else b))):nilK P op ty c (K:=⟨f⟩):=by
 refine⟨⟨hop,Zae hel⟩,?_⟩;split
 .simp[C.list?] at hc
  have:=hk true (fun h=>by subst hc;exact absurd rfl h)
  simpa using this
 .simp[C.list?] at hc
 .rw[hc];exact hk
theorem Zn5 {op:BinOp} {ty:TypeId} {z:TypeId × Nat × Nat} {l:Lab} {off n cap:Nat} {f:V->Prop} (hel:elT P ty=some z) (hop:isCmp op=true) (hk:f (dbool (if op=.neq then true else false))):nilK P op ty (.mrow l off n cap) (K:=⟨f⟩):=⟨⟨hop,Zae hel⟩,hk⟩
theorem Zhe {ty:TypeId} {z:TypeId × Nat × Nat} {l:Lab} {off n cap:Nat} {f:V->Prop} (hel:elT P ty=some z) (hk:f (dint .i64 cap)):capK P ty (.mrow l off n cap) (K:=⟨f⟩):=⟨Zae hel,hk⟩
def callK (P:Program) (f:FuncId) (caps:List Cap) (vs:List V) (d:Nat) (e:Env) (h:HS) [K:Hid (Env->HS->Prop)]:Prop:=
 (∃ ars cs,toAs h vs=some ars/\capsA h caps=some cs/\∃ r,PSpec P f (ars++capsOf cs) r/\K.out (e.put (some d) (r.toV h.ep d)) ((h.addFr d r.fr).next)) \/
 HSpec P f (vs++caps.map capV) h (fun v h'=>K.out (e.put (some d) v) h') \/
 ∃ v,XSpec P f (vs++caps.map capV) h v/\K.out (e.put (some d) v) h
theorem Znr {f:FuncId} {vs:List V} {d:Nat} {v:V} (hx:XSpec P f vs h v) (hk:K (e.put (some d) v) h):callK P f [] vs d e h (K:=⟨K⟩):=.inr (.inr ⟨v,by simpa using hx,hk⟩)
theorem Zpx {f:FuncId} {caps:List Cap} {vs:List V} {av:List AV} {cs:List (List D)} {d:Nat} {r:RV} (has:toAs h vs=some av) (hcs:capsA h caps=some cs) (hs:PSpec P f (av++capsOf cs) r)
  (hk:K (e.put (some d) (r.toV h.ep d)) ((h.addFr d r.fr).next)):callK P f caps vs d e h (K:=⟨K⟩):=.inl ⟨av,cs,has,hcs,r,hs,hk⟩
theorem Z08 {f:FuncId} {vs:List V} {av:List AV} {d:Nat} {r:RV} (hs:PSpec P f av r) (has:toAs h vs=some av)
  (hk:K (e.put (some d) (r.toV h.ep d)) ((h.addFr d r.fr).next)):callK P f [] vs d e h (K:=⟨K⟩):=.inl ⟨av,[],has,rfl,r,by simpa[capsOf] using hs,hk⟩
theorem Z00 {f:FuncId} {caps:List Cap} {vs:List V} {d:Nat} (hs:HSpec P f (vs++caps.map capV) h (fun v h'=>K (e.put (some d) v) h')):callK P f caps vs d e h (K:=⟨K⟩):=.inr (.inl hs)
@[simp ↓] theorem Zt4 {f:Operand} {args:List Operand} {ts:Array TypeId} {k:Nat}:vcOp P { dst:=some k,op:=.call { callee:=.value f,args:=args.toArray,argTypes:=ts },type:=t,pos:=p,after:=af,guard:=g } e h K =
  fnV (e.ev f) (k:=⟨fun fn caps=>callK P fn caps (args.map e.ev) k e h (K:=⟨K⟩)⟩):=by
 simp only[vcOp,fnV,callK];generalize e.ev f=X;cases X with
 | one c=>cases c<;>rfl
 | _=>rfl
@[simp ↓] theorem Ztx {x:Operand} {ty:TypeId}:vcOp P { dst:=d,op:=.call { callee:=.builtin .len,args:=[x].toArray,argTypes:=[ty].toArray },type:=t,pos:=p,after:=af,guard:=g } e h K =
  optV (lenT P ty) (k:=⟨fun s=>oneV (e.ev x) (k:=⟨fun c=>match s with
   | true=>optV c.str? (k:=⟨fun s=>K (e.put d (dint .i64 s.size)) h⟩)
   | false=>lenK c (k:=⟨fun n=>K (e.put d (dint .i64 n)) h⟩)⟩)⟩):=by
 simp only[vcOp,optV,oneV,Y0d,Y0g];cases hl:lenT P ty with
 | none=>cases e.ev x<;>simp[vcLen,hl]
 | some s=>
   cases e.ev x with
   | one c=>cases s with
     | true=>
       simp only[vcLen,hl];cases c with
       | d x=>cases x<;>rfl
       | _=>rfl
     | false=>
       simp only[vcLen,hl];cases c with
       | mrow l off n cap=>rfl
       | d x=>cases x<;>rfl
       | _=>rfl
   | _=>rfl
@[simp ↓] theorem Ztw {x y:Operand} {ts:Array TypeId}:vcOp P { dst:=d,op:=.call { callee:=.builtin .max,args:=[x,y].toArray,argTypes:=ts },type:=t,pos:=p,after:=af,guard:=g } e h K =
  optV (eff P (.call { callee:=.builtin .max,args:=[x,y].toArray,argTypes:=ts }) e h) (k:=⟨fun v=>K (e.put d v) h⟩):=by
 unfold vcOp;dsimp only;split<;>simp_all [optV]
@[simp ↓] theorem Ztv {x y:Operand} {ts:Array TypeId}:vcOp P { dst:=d,op:=.call { callee:=.builtin .min,args:=[x,y].toArray,argTypes:=ts },type:=t,pos:=p,after:=af,guard:=g } e h K =
  optV (eff P (.call { callee:=.builtin .min,args:=[x,y].toArray,argTypes:=ts }) e h) (k:=⟨fun v=>K (e.put d v) h⟩):=by
 unfold vcOp;dsimp only;split<;>simp_all [optV]
def appK (P:Program) (ty:TypeId) (c x:C) (d:Nat) (h:HS) [K:Hid (V->HS->Prop)]:Prop:=Z6i P ty c x d h K.out\/Z5t P ty c x d h K.out
def copyK (P:Program) (ty:TypeId) (c x:C) (h:HS) [K:Hid (V->HS->Prop)]:Prop:=vcCopy P ty c x 0 h K.out
def clearK (P:Program) (ty:TypeId) (c:C) (h:HS) [K:Hid (V->HS->Prop)]:Prop:=Z95 P ty c 0 h K.out
def Grows (h:HS) (es:Nat) (c:C) (xs:List (List D)):Prop:=((c=.nil/\xs=[])\/∃ l,c=.own l xs/\h.arr l=some (xs.length,es)/\l.1 < h.ep)/\∀ y ∈ xs,y.length=es
theorem Grows.nil {h:HS} {es:Nat}:Grows h es .nil []:=⟨.inl ⟨rfl,rfl⟩,by simp⟩
theorem Grows.own {h:HS} {es:Nat} {l:Lab} {xs:List (List D)} (ha:h.arr l=some (xs.length,es)) (hl:l.1 < h.ep) (hy:∀ y ∈ xs,y.length=es):Grows h es (.own l xs) xs:=⟨.inr ⟨l,rfl,ha,hl⟩,hy⟩
theorem Grows.next {h:HS} {es:Nat} {c:C} {xs:List (List D)} (g:Grows h es c xs):Grows h.next es c xs:=by
 refine⟨?_,g.2⟩;rcases g.1 with h1 | ⟨l,h1,h2,h3⟩
 .exact .inl h1
 .exact .inr ⟨l,h1,h2,Nat.lt_succ_of_lt h3⟩
theorem Grows.setBox {h:HS} {es:Nat} {c:C} {xs:List (List D)} {k:Lab} {cs:List C} (g:Grows h es c xs):Grows (h.setBox k cs) es c xs:=g
theorem Grows.setArr {h:HS} {es:Nat} {c:C} {xs:List (List D)} {k:Lab} {x:Option (Nat × Nat)} (g:Grows h es c xs) (hk:h.ep<=k.1):Grows (h.setArr k x) es c xs:=by
 refine⟨?_,g.2⟩;rcases g.1 with h1 | ⟨l,h1,h2,h3⟩
 .exact .inl h1
 .refine .inr ⟨l,h1,?_,h3⟩
  have:l≠k:=fun he=>by rw[he] at h3;omega
  simp only[HS.setArr,this,if_false,h2]
theorem Grows.list {h:HS} {es:Nat} {c:C} {xs:List (List D)} (g:Grows h es c xs):c.list? = some xs:=by
 rcases g.1 with ⟨h1,h2⟩ | ⟨l,h1,h2,h3⟩
 .rw[h1,h2];rfl
 .rw[h1];rfl
theorem Grows.toD {h:HS} {es:Nat} {c:C} {xs:List (List D)} (g:Grows h es c xs):c.toD=some (.sl xs):=by
 rcases g.1 with ⟨h1,h2⟩ | ⟨l,h1,h2,h3⟩
 .rw[h1,h2];rfl
 .rw[h1];rfl
theorem Grows.toA {h:HS} {es:Nat} {c:C} {xs:List (List D)} (g:Grows h es c xs) (h':HS):c.toA h'=some (.d (.sl xs)):=by
 rcases g.1 with ⟨h1,h2⟩ | ⟨l,h1,h2,h3⟩
 .rw[h1,h2];rfl
 .rw[h1];rfl
theorem Grows.can {h:HS} {es:Nat} {c:C} {xs:List (List D)} (g:Grows h es c xs):canApp h es c=true:=by
 rcases g.1 with ⟨h1,h2⟩ | ⟨l,h1,h2,h3⟩
 .rw[h1];rfl
 .rw[h1];simp[canApp,h2]
theorem Z8b {ty el:TypeId} {es by_ d:Nat} {c x:C} {K:V->HS->Prop} {xs ys:List (List D)} (hel:elT P ty=some (el,es,by_)) (hc:Grows h es c xs) (hx:x.list? = some ys) (h0:0 < es) (hb:by_<=4096) (hy:∀ y ∈ ys,y.length=es) (hl:xs.length+ys.length<=LIM)
  (hk:K (.one (.own (h.ep,16 * d) (xs++ys))) (((c.useUp h).setArr (h.ep,16 * d) (some ((xs++ys).length,es))).next)):appK P ty c x d h (K:=⟨K⟩):=by
 refine .inl ?_;unfold Z6i;rw[hel];simp only;rw[hc.list,hx];simp only;rw[Y0f] at hk;exact⟨⟨hc.can,h0,hb,hc.2,hy,hl⟩,hk⟩
theorem Z8s {ty el:TypeId} {n by_ d k cap m:Nat} {s x:C} {K:V->HS->Prop} {old new:List C} {pl:Option (Lab × Nat)} (hel:elT P ty=some (el,n,by_)) (hs:appHdr h n s=some (k,cap,old,pl)) (hx:Z0x h n x=some new) (hm:cLen x=some m)
  (hz:(zeT P el).isSome=true) (h0:0 < n) (hb:by_<=4096) (hl:k+m<=LIM) (hnew:new.length=m * n) (hold:old.length=k * n)
  (hk0:m=0->K (.one s) h)
  (hk1:0 < m->k+m<=cap->∀ l off,pl=some (l,off)->∃ cs,h.box l=some cs/\off+(k+m) * n<=cs.length/\K (.one (.mrow l off (k+m) cap)) (h.setBox l (Z01 cs (off+k * n) new)))
  (hk2:0 < m->cap < k+m->∀ cap',k+m<=cap'->K (.one (.mrow (h.ep,16 * d) 0 (k+m) cap')) ((h.setBox (h.ep,16 * d) (old++new++List.replicate ((cap' - (k+m)) * n) .any)).next)):appK P ty s x d h (K:=⟨K⟩):=by
 refine .inr ?_;unfold Z5t;rw[hel];simp only;rw[hs,hx,hm];exact⟨⟨hz,h0,hb,hl,hnew,hold⟩,hk0,hk1,hk2⟩
theorem Grows.app {h:HS} {es:Nat} {l:Lab} {xs:List (List D)} (hl:l.1=h.ep) (hy:∀ y ∈ xs,y.length=es):Grows ((h.setArr l (some (xs.length,es))).next) es (.own l xs) xs:=
 Grows.own (by simp[HS.setArr,HS.next]) (by show l.1 < h.ep+1;omega) hy
@[simp ↓] theorem Zqj {x y:Operand} {ty:TypeId} {k:Nat}:vcOp P { dst:=some k,op:=.call { callee:=.builtin .append,args:=[x,y].toArray,argTypes:=[ty,ty].toArray },type:=t,pos:=p,after:=af,guard:=g } e h K =
  oneV (e.ev x) (k:=⟨fun c=>oneV (e.ev y) (k:=⟨fun c'=>appK P ty c c' k h (K:=⟨fun v h'=>K (e.put (some k) v) h'⟩)⟩)⟩):=by
 simp only[vcOp,oneV,Y0d,Y0g,appK];cases e.ev x with
 | one c=>
   cases e.ev y with
   | one c'=>
     simp only[true_or,true_and];exact propext ⟨fun h=>h.elim id fun h=>absurd rfl h.1.1,.inl⟩
   | _=>rfl
 | _=>rfl
def zerosK (P:Program) (ty ty':TypeId) (c x:C) (d:Nat) (h:HS) [K:Hid (V->HS->Prop)]:Prop:=(slT P ty'=true/\(Z6i P ty c x d h K.out\/Z5t P ty c x d h K.out))\/Z8d P ty ty' c x d h K.out
theorem Zeh {ty ty':TypeId} {c x:C} {d:Nat} {K:V->HS->Prop} (hs:slT P ty'=true) (hk:appK P ty c x d h (K:=⟨K⟩)):zerosK P ty ty' c x d h (K:=⟨K⟩):=.inl ⟨hs,hk⟩
@[simp ↓] theorem Zq5 {x y:Operand} {ty ty':TypeId} {k:Nat} (hne:ty≠ty'):vcOp P { dst:=some k,op:=.call { callee:=.builtin .append,args:=[x,y].toArray,argTypes:=[ty,ty'].toArray },type:=t,pos:=p,after:=af,guard:=g } e h K =
  oneV (e.ev x) (k:=⟨fun c=>oneV (e.ev y) (k:=⟨fun c'=>zerosK P ty ty' c c' k h (K:=⟨fun v h'=>K (e.put (some k) v) h'⟩)⟩)⟩):=by
 simp only[vcOp,oneV,Y0d,Y0g,zerosK];cases e.ev x with
 | one c=>
   cases e.ev y with
   | one c'=>simp only[hne,false_or];rfl
   | _=>rfl
 | _=>rfl
theorem Zgf {ty ty' el:TypeId} {n by_ d k cap off:Nat} {l:Lab} {m:Int} {kk ki:IntKind} {old:List C} {K:V->HS->Prop} (hel:elT P ty=some (el,n,by_)) (hne:ty≠ty') (hu:P.underlying ty'=some (.int kk)) (hz:(zeT P el).isSome=true) (h0:0 < n) (hb:by_<=4096) (h1:0 < m) (h2:k+m<=LIM) (hc:cap < k+m.toNat)
  (ho:Z0x h n (.mrow l off k cap)=some old) (hol:old.length=k * n)
  (hk:∀ cap',k+m.toNat<=cap'->K (.one (.mrow (h.ep,16 * d) 0 (k+m.toNat) cap')) ((h.setBox (h.ep,16 * d) (old++List.replicate ((cap' - k) * n) .any)).next)):zerosK P ty ty' (.mrow l off k cap) (.d (.int ki m)) d h (K:=⟨K⟩):=by
 refine .inr ⟨⟨hne,_,hu⟩,?_⟩;rw[hel];simp only[ho];exact⟨⟨hz,h0,hb,h1,h2,hc,hol⟩,hk⟩
@[simp ↓] theorem Zt3 {x y:Operand} {ty:TypeId}:vcOp P { dst:=d,op:=.call { callee:=.builtin .copy,args:=[x,y].toArray,argTypes:=[ty,ty].toArray },type:=t,pos:=p,after:=af,guard:=g } e h K =
  oneV (e.ev x) (k:=⟨fun c=>oneV (e.ev y) (k:=⟨fun c'=>copyK P ty c c' h (K:=⟨fun v h'=>K (e.put d v) h'⟩)⟩)⟩):=by
 simp only[vcOp,oneV,Y0d,Y0g,copyK];cases e.ev x with
 | one c=>
   cases e.ev y with
   | one c'=>simp only[true_or,true_and];rfl
   | _=>rfl
 | _=>rfl
def copyK2 (P:Program) (ty ty':TypeId) (c x:C) (h:HS) [K:Hid (V->HS->Prop)]:Prop:=slT P ty'=true/\vcCopy P ty c x 0 h K.out
theorem Zhd {ty ty':TypeId} {c x:C} {K:V->HS->Prop} (hs:slT P ty'=true) (hk:copyK P ty c x h (K:=⟨K⟩)):copyK2 P ty ty' c x h (K:=⟨K⟩):=⟨hs,hk⟩
@[simp ↓] theorem Zs8 {x y:Operand} {ty ty':TypeId} (hne:ty≠ty'):vcOp P { dst:=d,op:=.call { callee:=.builtin .copy,args:=[x,y].toArray,argTypes:=[ty,ty'].toArray },type:=t,pos:=p,after:=af,guard:=g } e h K =
  oneV (e.ev x) (k:=⟨fun c=>oneV (e.ev y) (k:=⟨fun c'=>copyK2 P ty ty' c c' h (K:=⟨fun v h'=>K (e.put d v) h'⟩)⟩)⟩):=by
 simp only[vcOp,oneV,Y0d,Y0g,copyK2];cases e.ev x with
 | one c=>
   cases e.ev y with
   | one c'=>simp only[hne,false_or];rfl
   | _=>rfl
 | _=>rfl
@[simp ↓] theorem Zs9 {x:Operand} {ty:TypeId}:vcOp P { dst:=d,op:=.call { callee:=.builtin .clear,args:=[x].toArray,argTypes:=[ty].toArray },type:=t,pos:=p,after:=af,guard:=g } e h K =
  oneV (e.ev x) (k:=⟨fun c=>clearK P ty c h (K:=⟨fun v h'=>K (e.put d v) h'⟩)⟩):=by
 simp only[vcOp,oneV,Y0d,Y0g,clearK];cases e.ev x<;>rfl
end
end
@[simp] theorem Zv5 {e:Env} {d k:Nat} {v:V}:(e.put (some d) v).get k=if k=d then v else e.get k:=rfl
@[simp] theorem Zu6 {e:Env} {v:V}:e.put none v=e:=rfl
@[simp] theorem put_n {e:Env} {d:Option Nat} {v:V}:(e.put d v).n=e.n:=by cases d<;>rfl
@[simp] theorem env0_n {n:Nat} {ars:List AV}:(env0 n ars).n=n:=rfl
@[simp] theorem Zuo {n k:Nat} {ars:List AV}:(env0 n ars).get k=(ars[k]?.map AV.toV).getD .undef:=by
 simp only[env0];cases ars[k]? <;> rfl
@[simp] theorem Zbk {h:HS} {l k:Lab} {cs:List C}:(h.setBox l cs).box k=if k=l then some cs else h.box k:=rfl
@[simp] theorem Zsg {h:HS} {l k:Lab} {cs:List C}:(h.setBox l cs).arr k=h.arr k:=rfl
@[simp] theorem Zb2 {h:HS} {l:Lab} {cs:List C}:(h.setBox l cs).ep=h.ep:=by cases h;exact id rfl
@[simp] theorem Zsi {h:HS} {l k:Lab} {x:Option (Nat × Nat)}:(h.setArr l x).arr k=if k=l then x else h.arr k:=rfl
@[simp] theorem Zsh {h:HS} {l k:Lab} {x:Option (Nat × Nat)}:(h.setArr l x).box k=h.box k:=rfl
@[simp] theorem Zt8 {h:HS} {l:Lab} {x:Option (Nat × Nat)}:(h.setArr l x).ep=h.ep:=by cases h;exact id rfl
@[simp] theorem Zfs {h:HS} {k:Lab}:h.next.box k=h.box k:=rfl
@[simp] theorem Zua {h:HS} {k:Lab}:h.next.arr k=h.arr k:=rfl
@[simp] theorem Zn6 {h:HS}:h.next.ep=h.ep+1:=by cases h;exact id rfl
@[simp] theorem Zui {k:Lab}:HS.init.box k=none:=rfl
@[simp] theorem Zuj {k:Lab}:HS.init.arr k=none:=rfl
@[simp] theorem Zva:HS.init.ep=0:=rfl
@[simp] theorem ev_tmp {e:Env} {t:Nat}:e.ev (.tmp t)=e.get t:=rfl
@[simp] theorem Zvb {e:Env} {f:Nat}:e.ev (.func f)=.one (.fn f []):=rfl
@[simp] theorem ev_int {e:Env} {k:IntKind} {n:Int}:e.ev (.const (.int k n))=dint k n:=rfl
@[simp] theorem Zvc {e:Env} {b:Bool}:e.ev (.const (.bool b))=dbool b:=rfl
@[simp] theorem ev_str {e:Env} {s:ByteArray}:e.ev (.const (.string s))=dstr s:=rfl
@[simp] theorem ev_nil {e:Env}:e.ev (.const (.slice none 0 0))=.one .nil:=rfl
@[simp] theorem ev_agg {e:Env} {cs:Array Value}:e.ev (.const (.agg cs))=if cs.all Value.oneCell' then .agg (cs.toList.map constC) else .top:=rfl
@[simp] theorem toV_d {x:D}:AV.toV (.one (.d x))=.one (.d x):=rfl
@[simp] theorem toV_rp {x:List D}:AV.toV (.one (.rp x))=.one (.rp x):=rfl
@[simp] theorem toV_fn {f:FuncId} {x:List (List D)}:AV.toV (.one (.fn f x))=.one (.fn f (x.map Cap.rp)):=rfl
@[simp] theorem Zuy {x:List D}:AV.toV (.agg x)=.agg (x.map C.d):=rfl
@[simp] theorem Zt5 {h:HS} {l:Lab} {xs:List (List D)}:C.useUp h (.own l xs)=h.setArr l none:=rfl
@[simp] theorem Zt6 {h:HS}:C.useUp h .nil=h:=rfl
@[simp] theorem Zuc {l:Lab} {xs:List (List D)}:C.list? (.own l xs)=some xs:=rfl
@[simp] theorem Zud:C.list? .nil=some []:=rfl
@[simp] theorem list_z:C.list? .z=some []:=rfl
@[simp] theorem toD_z:C.toD .z=some (.sl []):=rfl
@[simp] theorem Zv6 {xs:List (List D)}:C.list? (.d (.sl xs))=some xs:=rfl
@[simp] theorem Zuz {l:Lab} {xs:List (List D)}:C.toD (.own l xs)=some (.sl xs):=rfl
@[simp] theorem Zv0:C.toD .nil=some (.sl []):=rfl
@[simp] theorem toD_d {x:D}:C.toD (.d x)=some x:=rfl
@[simp] theorem Zu1 {l:Lab} {off n cap:Nat}:C.toD (.mrow l off n cap)=none:=rfl
@[simp] theorem Zu0:toDs []=some []:=rfl
@[simp] theorem Zsk {t:Nat}:isNilConst (.tmp t)=false:=rfl
@[simp] theorem Zrq {t:Nat}:isNilConst (.func t)=false:=rfl
@[simp] theorem Zsn {k:IntKind} {n:Int}:isNilConst (.const (.int k n))=false:=rfl
@[simp] theorem Zrr {b:Bool}:isNilConst (.const (.bool b))=false:=rfl
@[simp] theorem Zsl {s:ByteArray}:isNilConst (.const (.string s))=false:=rfl
@[simp] theorem Zso {s:Array Value}:isNilConst (.const (.agg s))=false:=rfl
@[simp] theorem Zsm:isNilConst (.const (.slice none 0 0))=true:=rfl
@[simp] theorem toA_d {h:HS} {x:D}:C.toA h (.d x)=some (.d x):=rfl
@[simp] theorem Zv2 {h:HS} {l:Lab} {xs:List (List D)}:C.toA h (.own l xs)=some (.d (.sl xs)):=rfl
@[simp] theorem Zv3 {h:HS}:C.toA h .nil=some (.d (.sl [])):=rfl
@[simp] theorem toA_z {h:HS}:C.toA h .z=some (.d (.sl [])):=rfl
@[simp] theorem Zu3 {h:HS} {l:Lab} {off n cap:Nat}:C.toA h (.mrow l off n cap)=none:=rfl
@[simp] theorem Zv4 {h:HS}:C.toA h .any=none:=rfl
@[simp] theorem Zv1 {h:HS} {l:Lab}:C.toA h (.ptr l 0)=match h.box l with
  | some cs=>(toDs cs).map A.rp
  | none=>none:=rfl
@[simp] theorem Zu2 {h:HS} {l:Lab} {k:Nat}:C.toA h (.ptr l (k+1))=none:=rfl
@[simp] theorem toA_rp {h:HS} {cs:List D}:C.toA h (.rp cs)=some (.rp cs):=rfl
@[simp] theorem toA_fn {h:HS} {f:FuncId} {caps:List Cap}:C.toA h (.fn f caps)=(capsA h caps).map (A.fn f):=rfl
@[simp] theorem Zse {cs:List C}:takeN 0 cs=some []:=by simp[takeN]
@[simp] theorem Zsf {n:Nat} {c:C} {cs:List C}:takeN (n+1) (c::cs)=(takeN n cs).map (c::·):=by
 simp only[takeN,Y22,Nat.add_le_add_iff_right,Y2z]
 split<;>rfl
@[simp] theorem Zq8 {cs:List C}:Z01 cs 0 []=cs:=by simp[Z01]
@[simp] theorem Zp9 {c v:C} {cs vs:List C}:Z01 (c::cs) 0 (v::vs)=v::Z01 cs 0 vs:=by simp[Z01]
@[simp] theorem Zpa {c:C} {cs vs:List C} {k:Nat}:Z01 (c::cs) (k+1) vs=c::Z01 cs k vs:=by
 simp only[Z01,Y2z,Y0s,Nat.add_right_comm k 1,List.drop_succ_cons]
attribute [simp] boundV sliceC Z0x appHdr cLen cellsV constC V.cells toDs mkV dint dbool dstr intBin strBin binV readAt fillV elemsV canApp HS.addFr capA capsA V.toA toAs RC.toC RV1.toV RV.toV RC.fr RV1.fr RV.fr capsOf Z64 resVs resV isCmp kdOf eqD eqDs RetAll RetV1 RetVs RetC RetCs
@[simp] theorem Zup {P:Program} {c x y:Operand} {e:Env} {h:HS}:eff P (.pick c x y) e h=match e.ev c with
  | .one (.d (.bool t))=>some (if t then e.ev x else e.ev y)
  | _=>none:=rfl
attribute [simp] eff
theorem ret0 {P:Program} {rs:List ResultVar} {r:RV} {e:Env} {h:HS} {vs:List V} (hv:resVs P e h rs=some vs) (hr:RetAll h (fun _=>none) vs r):retOK P rs r e h:=by
 simp only[retOK,hv];exact⟨fun _=>none,fun _ _ _ hj _=>(by cases hj),hr⟩
theorem ret1 {P:Program} {rs:List ResultVar} {r:RV} {e:Env} {h:HS} {vs:List V} (o:Option Lab) (hv:resVs P e h rs=some vs) (hr:RetAll h (fun j=>if j=0 then o else none) vs r):retOK P rs r e h:=by
 simp only[retOK,hv];refine⟨fun j=>if j=0 then o else none,fun j j' l hj hj'=>?_,hr⟩
 by_cases h1:j=0
 .by_cases h2:j'=0
  .rw[h1,h2]
  .simp[h2] at hj'
 .simp[h1] at hj
theorem RetC.grows {h:HS} {es:Nat} {c:C} {xs:List (List D)} (g:Grows h es c xs):∃ o,∀ ren:Nat->Option Lab,ren 0=o->RetC h ren c (.fresh 0 es xs):=by
 rcases g.1 with ⟨h1,h2⟩ | ⟨l,h1,h2,h3⟩
 .exact⟨none,fun ren hr=>by simp only[RetC,hr];exact⟨h1,h2⟩⟩
 .exact⟨some l,fun ren hr=>by simp only[RetC,hr];exact⟨h1,h2⟩⟩
theorem Zmx {P:Program} {k es:Nat} {e:Env} {h:HS} {c:C} {xs:List (List D)} (hv:e.get k=.one c) (g:Grows h es c xs):retOK P [.tmp k] (.one (.fresh 0 es xs)) e h:=by
 obtain⟨o,ho⟩:=RetC.grows g;refine ret1 o (vs:=[.one c]) (by simp[hv]) ?_;simp only[RetAll,RetV1];exact ho _ rfl
def GrowsV (h:HS) (es:Nat) (v:V) (xs:List (List D)):Prop:=∃ c,v=.one c/\Grows h es c xs
theorem GrowsV.nil {h:HS} {es:Nat}:GrowsV h es (.one .nil) []:=⟨_,rfl,Grows.nil⟩
theorem GrowsV.app {h:HS} {es n:Nat} {l:Lab} {xs ys:List (List D)} (hl:l.1=h.ep) (hn:n=xs.length) (hy:∀ y ∈ ys,y.length=es) (he:xs=ys):GrowsV ((h.setArr l (some (n,es))).next) es (.one (.own l xs)) ys:=by
 subst he hn;exact⟨_,rfl,Grows.app hl hy⟩
theorem Z9t {h:HS} {c:C}:(C.useUp h c).ep=h.ep:=by cases c<;>rfl
attribute [simp] Z9t
theorem Z4u {P:Program} {k es:Nat} {e:Env} {h:HS} {xs:List (List D)} (g:GrowsV h es (e.get k) xs):retOK P [.tmp k] (.one (.fresh 0 es xs)) e h:=by
 obtain⟨c,hv,g⟩:=g;exact Zmx hv g
theorem ret_d {P:Program} {k:Nat} {e:Env} {h:HS} {x:D} {c:C} (hv:e.get k=.one c) (hx:c.toD=some x):retOK P [.tmp k] (.one (.d x)) e h:=
 ret0 (vs:=[.one c]) (by simp[hv]) (by simpa[RetAll,RetV1] using hx)
theorem Zpw {h:HS} {caps:List (List D)}:capsA h (caps.map Cap.rp)=some caps:=by
 induction caps with
 | nil=>rfl
 | cons x xs ih=>simp[capsA,capA,ih]
attribute [simp] Zpw
end Go.Am
end
section
namespace Go.Am
open Go
section
variable {ρ α β σ:Type}
def Is (m:Option ρ) (r:ρ):Prop:=m=some r
def bindK (m:Option α) (K:α->Option ρ):Option ρ:=match m with
 | some x=>K x
 | none=>none
def getK (xs:List α) (i:Int) (K:α->Option ρ):Option ρ:=if 0<=i then bindK xs[i.toNat]? K else none
def chkK (b:Prop) [Decidable b] (m:Option ρ):Option ρ:=if b then m else none
def okI (n:Int):Prop:=-9223372036854775808<=n/\n<=9223372036854775807
instance (n:Int):Decidable (okI n):=inferInstanceAs (Decidable (_/\_))
def appK2 (xs ys:List α) (K:List α->Option ρ):Option ρ:=chkK (xs.length+ys.length<=LIM) (K (xs++ys))
def chrK (s:ByteArray) (i:Int) (K:Int->Option ρ):Option ρ:=if 0<=i then (match s[i.toNat]? with
 | some b=>K b.toNat
 | none=>none) else none
def forK (body:Nat->α->σ->(σ->Option ρ)->Option ρ) (k:σ->Option ρ):List α->Nat->σ->Option ρ
 | [],_,s=>k s
 | x::xs,i,s=>body i x s fun s'=>forK body k xs (i+1) s'
def countK (body:Nat->σ->(σ->Option ρ)->Option ρ) (k:σ->Option ρ):Nat->Nat->σ->Option ρ
 | 0,_,s=>k s
 | n+1,i,s=>body i s fun s'=>countK body k n (i+1) s'
def whileK (body:σ->(σ->Option ρ)->Option ρ):Nat->σ->Option ρ
 | 0,_=>none
 | n+1,s=>body s fun s'=>whileK body n s'
abbrev FUEL:Nat:=16777216
theorem r_ret {v r:ρ} (h:Is (some v) r):v=r:=Option.some.inj h
theorem Is.bind {m:Option α} {K:α->Option ρ} {r:ρ} (h:Is (bindK m K) r):∃ x,Is m x/\Is (K x) r:=by
 unfold bindK at h;cases m with
 | some x=>exact⟨x,rfl,h⟩
 | none=>cases h
theorem Is.get {xs:List α} {i:Int} {K:α->Option ρ} {r:ρ} (h:Is (getK xs i K) r):∃ x,0<=i/\xs[i.toNat]? = some x/\Is (K x) r:=by
 unfold getK at h
 by_cases h0:0<=i
 .rw[if_pos h0] at h;obtain⟨x,hx,h⟩:=h.bind;exact⟨x,h0,hx,h⟩
 .rw[if_neg h0] at h;cases h
theorem Is.getN {xs:List α} {i:Nat} {K:α->Option ρ} {r:ρ} (h:Is (getK xs i K) r):∃ x,xs[i]? = some x/\Is (K x) r:=by
 obtain⟨x,_,hx,h⟩:=h.get;exact⟨x,by simpa using hx,h⟩
theorem Is.chk {b:Prop} [Decidable b] {m:Option ρ} {r:ρ} (h:Is (chkK b m) r):b/\Is m r:=by
 unfold chkK at h
 by_cases hb:b
 .rw[if_pos hb] at h;exact⟨hb,h⟩
 .rw[if_neg hb] at h;cases h
theorem Zf4 {n:Int} (h:okI n):IntKind.i64.wrap n=n:=Y0a _ ⟨h.1,h.2⟩
theorem Is.app {xs ys:List α} {K:List α->Option ρ} {r:ρ} (h:Is (appK2 xs ys K) r):xs.length+ys.length<=LIM/\Is (K (xs++ys)) r:=Is.chk h
theorem Is.chr {s:ByteArray} {i:Int} {K:Int->Option ρ} {r:ρ} (h:Is (chrK s i K) r):∃ b,0<=i/\s[i.toNat]? = some b/\Is (K b.toNat) r:=by
 unfold chrK at h
 by_cases h0:0<=i
 .rw[if_pos h0] at h;cases hs:s[i.toNat]? with
  | some b=>rw[hs] at h;exact⟨b,h0,rfl,h⟩
  | none=>rw[hs] at h;cases h
 .rw[if_neg h0] at h;cases h
theorem r_cond {b:Bool} {A B:Option ρ} {r:ρ} {f:Unit->Prop} {g:Bool->Prop} (hm:Is (cond b A B) r) (h1:b=true->Is A r->f ()) (h2:b=false->Is B r->g true):condV (.one (.d (.bool b))) (p:=⟨f⟩) (q:=⟨g⟩):=by
 cases b with
 | true=>exact Z79 (fun _=>h1 rfl hm) (fun h=>by cases h)
 | false=>exact Z79 (fun h=>by cases h) (fun _=>h2 rfl hm)
theorem Zj2 {b:Bool} {A B:Option ρ} {r:ρ} {f:Unit->Prop} {g:Bool->Prop} (hm:Is (cond b A B) r) (h1:b=true->Is A r->f ()) (h2:b=false->Is B r->g true):guardV (.one (.d (.bool b))) true (p:=⟨f⟩) (q:=⟨g⟩):=by
 cases b with
 | true=>simp;exact h1 rfl hm
 | false=>simp;exact h2 rfl hm
theorem Zb5 {b:Bool} {A B:Option ρ} {r:ρ} {f:Unit->Prop} {g:Bool->Prop} (hm:Is (cond b A B) r) (h1:b=true->Is A r->g true) (h2:b=false->Is B r->f ()):guardV (.one (.d (.bool b))) false (p:=⟨f⟩) (q:=⟨g⟩):=by
 cases b with
 | true=>simp;exact h1 rfl hm
 | false=>simp;exact h2 rfl hm
theorem r_call {P:Program} {f:FuncId} {vs:List V} {av:List AV} {d:Nat} {e:Env} {h:HS} {Kc:Env->HS->Prop} {er:α->RV} {m:Option α} {K:α->Option ρ} {r:ρ} (hm:Is (bindK m K) r) (hs:∀ v,Is m v->PSpec P f av (er v)) (has:toAs h vs=some av)
  (hk:∀ v,Is m v->Is (K v) r->Kc (e.put (some d) ((er v).toV h.ep d)) ((h.addFr d (er v).fr).next)):callK P f [] vs d e h (K:=⟨Kc⟩):=by
 obtain⟨x,hx,hm⟩:=hm.bind;exact Z08 (hs x hx) has (hk x hx hm)
theorem Zn0 {P:Program} {f:FuncId} {vs:List V} {av:List AV} {caps:List Cap} {cs:List (List D)} {d:Nat} {e:Env} {h:HS} {Kc:Env->HS->Prop} {er:α->RV} {m:Option α} {K:α->Option ρ} {r:ρ} (hm:Is (bindK m K) r) (hs:∀ v,Is m v->PSpec P f (av++capsOf cs) (er v)) (has:toAs h vs=some av) (hcs:capsA h caps=some cs)
  (hk:∀ v,Is m v->Is (K v) r->Kc (e.put (some d) ((er v).toV h.ep d)) ((h.addFr d (er v).fr).next)):callK P f caps vs d e h (K:=⟨Kc⟩):=by
 obtain⟨x,hx,hm⟩:=hm.bind;exact Zpx has hcs (hs x hx) (hk x hx hm)
theorem r_app {P:Program} {ty el:TypeId} {es by_ d:Nat} {c x:C} {h:HS} {Kc:V->HS->Prop} {K:List α->Option ρ} {r:ρ} {enc:α->List D} {xs ys:List α} (hm:Is (appK2 xs ys K) r) (hel:elT P ty=some (el,es,by_)) (hc:Grows h es c (xs.map enc)) (hx:x.list? = some (ys.map enc))
  (h0:0 < es) (hb:by_<=4096) (hy:∀ y:α,(enc y).length=es)
  (hk:xs.length+ys.length<=LIM->Is (K (xs++ys)) r->Grows (((c.useUp h).setArr (h.ep,16 * d) (some ((xs++ys).length,es))).next) es (.own (h.ep,16 * d) ((xs++ys).map enc)) ((xs++ys).map enc) ->
   Kc (.one (.own (h.ep,16 * d) ((xs++ys).map enc))) (((c.useUp h).setArr (h.ep,16 * d) (some ((xs++ys).length,es))).next)):appK P ty c x d h (K:=⟨Kc⟩):=by
 obtain⟨hl,hm⟩:=hm.app;have hall:∀ y ∈ (xs++ys).map enc,y.length=es:=by
  intro y hy';obtain⟨z,_,rfl⟩:=Y0m.1 hy';exact hy z
 refine Z8b hel hc hx h0 hb ?_ (by simpa using hl) ?_
 .intro y hy';obtain⟨z,_,rfl⟩:=Y0m.1 hy';exact hy z
 .have e1:xs.map enc++ys.map enc=(xs++ys).map enc:=by simp
  rw[e1];have g:Grows (((c.useUp h).setArr (h.ep,16 * d) (some (((xs++ys).map enc).length,es))).next) es (.own (h.ep,16 * d) ((xs++ys).map enc)) ((xs++ys).map enc):=
   Grows.own (by simp[HS.setArr,HS.next]) (by show h.ep < (C.useUp h c).ep+1;rw[Z9t];omega) hall
  simp only[Y0z] at g |-;exact hk hl hm g
def CutK [J:Hid (Env->HS->Prop)] (e:Env) (h:HS):Prop:=J.out e h
theorem CutK.of {J:Env->HS->Prop} {e:Env} {h:HS} (hJ:J e h):CutK (J:=⟨J⟩) e h:=hJ
theorem Wait.cut {P:Program} {id:Nat} {ops:Array Oper} {Q:Exit->Env->HS->Prop} {e:Env} {h:HS} (plan:Plan) (hm:P.follows .mixedOrders=true)
  (hB:planB .any ops plan ops.size (Array.replicate ops.size false)=true) (J:Env->HS->Prop) (h1:vcPlan P ops.toList (fun e h=>CutK (J:=⟨J⟩) e h) plan e h) (h2:∀ e h,J e h->Q .normal e h) :
  Wait P (c:=⟨.region id ops true⟩) (Q:=⟨Q⟩) e h:=by
 refine SWP.mono (Q:=fun x e h=>match x with | .normal=>J e h | _=>False) (SWP.draw plan hm hB h1) ?_;intro x e h hq;cases x with
 | normal=>exact h2 e h hq
 | _=>exact hq.elim
def BackF {σ:Type} [I:Hid (σ->Env->HS->Prop)] (e:Env) (h:HS):Prop:=∃ s,I.out s e h
theorem BackF.of {σ:Type} {I:σ->Env->HS->Prop} {e:Env} {h:HS} (s:σ) (hI:I s e h):BackF (I:=⟨I⟩) e h:=⟨s,hI⟩
def Never:Prop:=False
theorem SWP.loopS {P:Program} {c:Code} {Q:Exit->Env->HS->Prop} {e:Env} {h:HS} (I:Nat->Env->HS->Prop) (n:Nat) (h0:I n e h)
  (round:∀ n e h,I n e h->SWP P c (thenQ (fun e' h'=>∃ n',n' < n/\I n' e' h') Q) e h):SWP P (.loop c) Q e h:=by
 intro Γ a w μ hI hE;intro b k cs;have key:∀ n e h a w μ,I n e h->Inv Γ h μ w->EnvRel μ e a ->
   ∃ ex a' w',(∃ e' h' μ',Q ex e' h'/\Inv Γ h' μ' w'/\EnvRel μ' e' a'/\Mem.Le μ μ')/\Arrives P (lone (b.at a (.code c::.inLoop c::k)) cs w) b k cs ex a' w':=by
  intro n
  induction n using Nat.strongRecOn with
  | _ n ih=>
    intro e h a w μ hIn hI hE;obtain⟨ex,a₁,w₁,⟨e₁,h₁,μ₁,hq,hI₁,hE₁,hle₁⟩,harr⟩:=(round n e h hIn) Γ a w μ hI hE b (.inLoop c::k) cs;cases ex with
    | normal=>
      obtain⟨n',hlt,hIn'⟩:=hq;obtain⟨e₂,a₂,w₂,⟨e₃,h₃,μ₃,q1,q2,q3,q4⟩,harr₂⟩:=ih n' hlt e₁ h₁ a₁ w₁ μ₁ hIn' hI₁ hE₁;exact⟨e₂,a₂,w₂,⟨e₃,h₃,μ₃,q1,q2,q3,hle₁.trans q4⟩,.of_steps (Steps.trans harr (.one step_inLoop)) harr₂⟩
    | exit id=>exact⟨_,a₁,w₁,⟨e₁,h₁,μ₁,hq,hI₁,hE₁,hle₁⟩,.pass (x:=.inLoop c) rfl (fun _ _=>.inl (by simp)) harr⟩
    | goto l=>exact⟨_,a₁,w₁,⟨e₁,h₁,μ₁,hq,hI₁,hE₁,hle₁⟩,.pass (x:=.inLoop c) rfl (fun _ _=>.inl (by simp)) harr⟩
    | ret=>exact⟨_,a₁,w₁,⟨e₁,h₁,μ₁,hq,hI₁,hE₁,hle₁⟩,.pass (x:=.inLoop c) rfl (fun _ _=>.inl (by simp)) harr⟩
    | panic ch=>exact⟨_,a₁,w₁,⟨e₁,h₁,μ₁,hq,hI₁,hE₁,hle₁⟩,.pass (x:=.inLoop c) rfl (fun _ _=>.inl (by simp)) harr⟩
    | outgrown=>exact⟨_,a₁,w₁,⟨e₁,h₁,μ₁,hq,hI₁,hE₁,hle₁⟩,.pass (x:=.inLoop c) rfl (fun _ _=>.inl (by simp)) harr⟩
 obtain⟨ex,a',w',hq,harr⟩:=key n e h a w μ h0 hI hE;exact⟨ex,a',w',hq,.of_steps (.one step_loop) harr⟩
theorem Z7b {N N':Env->HS->Prop} {Q:Exit->Env->HS->Prop} (hN:∀ e h,N e h->N' e h):∀ x e h,thenQ N Q x e h->thenQ N' Q x e h
 | .normal,e,h,hq=>hN e h hq
 | .exit _,_,_,hq=>hq
 | .goto _,_,_,hq=>hq
 | .ret,_,_,hq=>hq
 | .panic _,_,_,hq=>hq
 | .outgrown,_,_,hq=>hq
theorem Wait.for {P:Program} {c:Code} {Q:Exit->Env->HS->Prop} {e:Env} {h:HS} {xs:List α} {s0:σ} {body:Nat->α->σ->(σ->Option ρ)->Option ρ} {k:σ->Option ρ} {r:ρ} (R:Nat->σ->Env->HS->Prop)
  (hm:Is (forK body k xs 0 s0) r) (h0:R 0 s0 e h)
  (round:∀ (i:Nat) (s:σ) (e:Env) (h:HS),R i s e h->∀ hlt:i < xs.length,Is (body i xs[i] s (fun s'=>forK body k (xs.drop (i+1)) (i+1) s')) r ->
   vc P c (thenQ (fun e' h'=>BackF (I:=⟨fun s' e h=>R (i+1) s' e h/\Is (forK body k (xs.drop (i+1)) (i+1) s') r⟩) e' h') Q) e h)
  (fin:∀ (s:σ) (e:Env) (h:HS),R xs.length s e h->Is (k s) r->vc P c (thenQ (fun _ _=>Never) Q) e h) :
  Wait P (c:=⟨.loop c⟩) (Q:=⟨Q⟩) e h:=by
 refine SWP.loopS (fun n e h=>∃ i s,i<=xs.length/\n=xs.length - i/\R i s e h/\Is (forK body k (xs.drop i) i s) r) xs.length ⟨0,s0,by omega,by omega,h0,by simpa using hm⟩ ?_;rintro n e h ⟨i,s,hi,rfl,hR,hm⟩;rcases Y0t i xs.length with hlt | hge
 .rw[Y14 hlt] at hm;refine (Z53 _ _ _ _ (round i s e h hR hlt hm)).mono (Z7b ?_);rintro e' h' ⟨s',hR',hm'⟩;exact⟨xs.length - (i+1),by omega,i+1,s',by omega,rfl,hR',hm'⟩
 .obtain rfl:i=xs.length:=by omega
  rw[Y23 (Y09 _)] at hm;exact (Z53 _ _ _ _ (fin s e h hR hm)).mono (Z7b fun _ _ hf=>(hf:False).elim)
theorem Wait.count {P:Program} {c:Code} {Q:Exit->Env->HS->Prop} {e:Env} {h:HS} {N:Int} {s0:σ} {body:Nat->σ->(σ->Option ρ)->Option ρ} {k:σ->Option ρ} {r:ρ} (R:Nat->σ->Env->HS->Prop)
  (hm:Is (countK body k N.toNat 0 s0) r) (h0:R 0 s0 e h)
  (round:∀ (i:Nat) (s:σ) (e:Env) (h:HS),R i s e h->(i:Int) < N->Is (body i s (fun s'=>countK body k (N.toNat - (i+1)) (i+1) s')) r ->
   vc P c (thenQ (fun e' h'=>BackF (I:=⟨fun s' e h=>R (i+1) s' e h/\Is (countK body k (N.toNat - (i+1)) (i+1) s') r⟩) e' h') Q) e h)
  (fin:∀ (i:Nat) (s:σ) (e:Env) (h:HS),R i s e h->¬ (i:Int) < N->Is (k s) r->vc P c (thenQ (fun _ _=>Never) Q) e h) :
  Wait P (c:=⟨.loop c⟩) (Q:=⟨Q⟩) e h:=by
 refine SWP.loopS (fun n e h=>∃ i s,i<=N.toNat/\n=N.toNat - i/\R i s e h/\Is (countK body k (N.toNat - i) i s) r) N.toNat ⟨0,s0,by omega,by omega,h0,by simpa using hm⟩ ?_;rintro n e h ⟨i,s,hi,rfl,hR,hm⟩;rcases Y0t i N.toNat with hlt | hge
 .obtain⟨j,hj⟩:∃ j,N.toNat - i=j+1:=⟨N.toNat - i - 1,by omega⟩;rw[hj] at hm;have hj':j=N.toNat - (i+1):=by omega
  subst hj';refine (Z53 _ _ _ _ (round i s e h hR (by omega) hm)).mono (Z7b ?_);rintro e' h' ⟨s',hR',hm'⟩;exact⟨N.toNat - (i+1),by omega,i+1,s',by omega,rfl,hR',hm'⟩
 .obtain rfl:i=N.toNat:=by omega
  rw[Nat.sub_self] at hm;exact (Z53 _ _ _ _ (fin N.toNat s e h hR (by omega) hm)).mono (Z7b fun _ _ hf=>(hf:False).elim)
theorem Wait.while {P:Program} {c:Code} {Q:Exit->Env->HS->Prop} {e:Env} {h:HS} {m:Nat} {s0:σ} {body:σ->(σ->Option ρ)->Option ρ} {r:ρ} (R:σ->Env->HS->Prop)
  (hm:Is (whileK body m s0) r) (h0:R s0 e h)
  (round:∀ (n:Nat) (s:σ) (e:Env) (h:HS),R s e h->Is (body s (fun s'=>whileK body n s')) r ->
   vc P c (thenQ (fun e' h'=>BackF (I:=⟨fun s' e h=>R s' e h/\Is (whileK body n s') r⟩) e' h') Q) e h) :
  Wait P (c:=⟨.loop c⟩) (Q:=⟨Q⟩) e h:=by
 refine SWP.loopS (fun n e h=>∃ s,R s e h/\Is (whileK body n s) r) m ⟨s0,h0,hm⟩ ?_;rintro n e h ⟨s,hR,hm⟩;cases n with
 | zero=>cases hm
 | succ n=>
   refine (Z53 _ _ _ _ (round n s e h hR hm)).mono (Z7b ?_);rintro e' h' ⟨s',hR',hm'⟩;exact⟨n,by omega,s',hR',hm'⟩
end
def AllLen (es:Nat) (xs:List (List D)):Prop:=∀ y ∈ xs,y.length=es
theorem Grows.setArr' {h:HS} {es:Nat} {c:C} {xs:List (List D)} {a b:Nat} {x:Option (Nat × Nat)} (g:Grows h es c xs) (hk:h.ep<=a):Grows (h.setArr (a,b) x) es c xs:=g.setArr hk
theorem Zlm {es:Nat}:AllLen es []=True:=by simp[AllLen]
theorem Zin {es:Nat} {y:List D} {ys:List (List D)}:AllLen es (y::ys)=(y.length=es/\AllLen es ys):=by simp[AllLen]
theorem Zgd {es:Nat} {xs ys:List (List D)}:AllLen es (xs++ys)=(AllLen es xs/\AllLen es ys):=by
 simp only[AllLen,Y02,eq_iff_iff];exact⟨fun h=>⟨fun y hy=>h y (.inl hy),fun y hy=>h y (.inr hy)⟩,fun h y hy=>hy.elim (h.1 y) (h.2 y)⟩
theorem Zln {α:Type} {f:α->List D} {es:Nat} {xs:List α} (h:∀ a,(f a).length=es):AllLen es (xs.map f)=True:=by
 refine eq_true ?_;intro y hy;obtain⟨a,_,rfl⟩:=Y0m.1 hy;exact h a
theorem Zng {h:HS} {es:Nat} {l:Lab} {xs ys:List (List D)}:Grows h es (.own l xs) ys=(xs=ys/\h.arr l=some (xs.length,es)/\l.1 < h.ep/\AllLen es xs):=by
 apply propext
 constructor
 .rintro⟨h1 | ⟨l',h1,h2,h3⟩,hy⟩
  .cases h1.1
  .injection h1 with e1 e2
   subst e1 e2;exact⟨rfl,h2,h3,hy⟩
 .rintro⟨rfl,h2,h3,hy⟩;exact Grows.own h2 h3 hy
def Apart (c c':C):Prop:=∀ l xs ys,c=.own l xs->c'=.own l ys->False
theorem Apart.symm {c c':C} (h:Apart c c'):Apart c' c:=fun l xs ys h1 h2=>h l ys xs h2 h1
theorem Znt {c:C}:Apart .nil c=True:=eq_true fun _ _ _ h _=>by cases h
theorem Zf3 {c:C}:Apart c .nil=True:=eq_true fun _ _ _ _ h=>by cases h
theorem Zns {l l':Lab} {xs ys:List (List D)}:Apart (.own l xs) (.own l' ys)=(l≠l'):=by
 apply propext
 constructor
 .rintro h rfl;exact h _ _ _ rfl rfl
 .intro h k _ _ h1 h2
  injection h1 with a _
  injection h2 with b _
  exact h (a.trans b.symm)
theorem Grows.apart {h:HS} {es:Nat} {c:C} {xs ys:List (List D)} (g:Grows h es c xs) {l:Lab} (hl:h.ep<=l.1):Apart (.own l ys) c:=by
 intro k _ _ h1 h2
 injection h1 with a _
 rcases g.1 with ⟨h3,_⟩ | ⟨l',h3,_,h5⟩
 .rw[h3] at h2;cases h2
 .rw[h3] at h2
  injection h2 with b _
  rw[b,<- a] at h5;omega
theorem Grows.useUp_arr {h:HS} {es:Nat} {c:C} {xs:List (List D)} (g:Grows h es c xs):∀ (h':HS) (l:Lab),h.ep<=l.1->(C.useUp h' c).arr l=h'.arr l:=by
 intro h' l hl;rcases g.1 with ⟨h3,_⟩ | ⟨l',h3,_,h5⟩
 .rw[h3];rfl
 .rw[h3]
  have:l≠l':=by rintro rfl;omega
  simp[C.useUp,HS.setArr,this]
theorem Grows.useUp {h:HS} {es:Nat} {c c':C} {xs:List (List D)} (g:Grows h es c' xs) (ha:Apart c c'):Grows (C.useUp h c) es c' xs:=by
 refine⟨?_,g.2⟩;rcases g.1 with h3 | ⟨l',h3,h4,h5⟩
 .exact .inl h3
 .refine .inr ⟨l',h3,?_,by rw[Z9t];exact h5⟩;cases c with
  | own l ys=>
    have:l'≠l:=by rintro rfl;exact ha _ _ _ rfl h3
    simp[C.useUp,HS.setArr,this,h4]
  | _=>exact h4
theorem Grows.useUp' {h:HS} {es:Nat} {c c':C} {xs:List (List D)} (g:Grows h es c' xs) (ha:Apart c' c):Grows (C.useUp h c) es c' xs:=g.useUp ha.symm
theorem Znh {h:HS} {es:Nat} {ys:List (List D)}:Grows h es .nil ys=(ys=[]):=by
 apply propext
 constructor
 .rintro⟨h1 | ⟨l',h1,h2,h3⟩,hy⟩
  .exact h1.2
  .cases h1
 .rintro rfl;exact Grows.nil
def idxE (z:Option (TypeId × Nat × Nat)) (x i:V):Option V:=
 match z with
 | some (_,n,_)=>match x,i with
   | .one c,.one (.d (.int _ k))=>match c.list? with
     | some xs=>if 0<=k then match xs[k.toNat]? with
       | some y=>if y.length=n/\0 < n then some (.one (.rp y)) else none
       | none=>none
      else none
     | none=>match c with
       | .mrow l off m _=>if 0<=k/\k.toNat < m/\0 < n then some (.one (.ptr l (off+k.toNat * n))) else none
       | _=>none
   | _,_=>none
 | none=>none
def idxA (z:Option (TypeId × Nat × Nat)) (ar:Option (Nat × Nat)) (x i:V):Option V:=
 match z with
 | some z=>idxE (some z) x i
 | none=>match ar with
   | some (len,n)=>match x,i with
     | .one (.ptr l off),.one (.d (.int _ k))=>if 0<=k/\k < len then some (.one (.ptr l (off+k.toNat * n))) else none
     | _,_=>none
   | none=>none
@[simp] theorem Ztl {z:TypeId × Nat × Nat} {ar:Option (Nat × Nat)} {x i:V}:idxA (some z) ar x i=idxE (some z) x i:=rfl
@[simp] theorem Zul {len n off:Nat} {l:Lab} {kk:IntKind} {k:Int}:idxA none (some (len,n)) (.one (.ptr l off)) (.one (.d (.int kk k)))=if 0<=k/\k < len then some (.one (.ptr l (off+k.toNat * n))) else none:=rfl
@[simp high] theorem Zg7 {P:Program} {t:TypeId} {x i:Operand} {e:Env} {h:HS}:eff P (.indexAddr t x i) e h=idxA (elT P t) (arT P t) (e.ev x) (e.ev i):=by
 simp only[eff,idxA,idxE];cases elT P t with
 | none=>rfl
 | some z=>
   obtain⟨a,n,b⟩:=z
   dsimp only
   generalize e.ev x=X;generalize e.ev i=I;cases X with
   | one c=>cases I with
     | one c'=>cases c' with
       | d y=>cases y with
         | int k j=>cases c with
           | d z=>cases z<;>rfl
           | _=>rfl
         | _=>cases c<;>rfl
       | _=>cases c<;>rfl
     | _=>cases c<;>rfl
   | _=>rfl
@[simp] theorem Zuk {a n b:Nat} {c:C} {k:IntKind} {j:Int}:idxE (some (a,n,b)) (.one c) (.one (.d (.int k j)))=match c.list? with
   | some xs=>if 0<=j then match xs[j.toNat]? with
     | some y=>if y.length=n/\0 < n then some (.one (.rp y)) else none
     | none=>none
    else none
   | none=>match c with
     | .mrow l off m _=>if 0<=j/\j.toNat < m/\0 < n then some (.one (.ptr l (off+j.toNat * n))) else none
     | _=>none:=rfl
def Rd (c:C) (xs:List (List D)):Prop:=c.list? = some xs/\c.toD=some (.sl xs)/\∀ h,c.toA h=some (.d (.sl xs))
theorem Grows.rd {h:HS} {es:Nat} {c:C} {xs:List (List D)} (g:Grows h es c xs):Rd c xs:=⟨g.list,g.toD,g.toA⟩
theorem Rd.d {xs:List (List D)}:Rd (.d (.sl xs)) xs:=⟨rfl,rfl,fun _=>rfl⟩
theorem Rd.own {l:Lab} {xs:List (List D)}:Rd (.own l xs) xs:=⟨rfl,rfl,fun _=>rfl⟩
theorem Rd.nil:Rd .nil []:=⟨rfl,rfl,fun _=>rfl⟩
attribute [simp] Zng Znh Grows.next Grows.setBox Grows.setArr' Grows.useUp Grows.useUp' Zlm Zin Zgd Zln Znt Zf3 Zns
end Go.Am
end
namespace Go.Am
section
open Go
def eqKs (rec:TypeId->Option (List Kd)):List Field->Nat->Option (List Kd)
 | [],_=>some []
 | f::fs,off=>if f.name ≠ "_" /\ f.offset=off then
     match rec f.type with
     | some ks=>match eqKs rec fs (off+ks.length) with
       | some r=>some (ks++r)
       | none=>none
     | none=>none
  else none
def eqK (P:Program):Nat->TypeId->Option (List Kd)
 | 0,_=>none
 | d+1,t=>match P.underlying t with
   | some (.int k)=>some [.int k]
   | some .bool=>some [.bool]
   | some .string=>some [.str]
   | some (.struct fs)=>if P.stoodInHeld t=true then none else
     match eqKs (eqK P d) fs.toList 0 with
     | some ks=>match P.info? t with
       | some i=>if i.size=ks.length then some ks else none
       | none=>none
     | none=>none
   | _=>none
theorem Z65:∀ {ks ls:List Kd} {vs:List Value},Shaped (ks++ls) vs->∃ a b,vs=a++b/\Shaped ks a/\Shaped ls b/\a.length=ks.length
 | [],ls,vs,h=>⟨[],vs,rfl,trivial,h,rfl⟩
 | k::ks,ls,[],h=>by cases k<;>exact h.elim
 | k::ks,ls,v::vs,h=>by
   cases k with
   | int i=>
     obtain⟨hv,h⟩:=h;obtain⟨a,b,rfl,h1,h2,h3⟩:=Z65 (ks:=ks) (ls:=ls) h;exact⟨v::a,b,rfl,⟨hv,h1⟩,h2,by simp[h3]⟩
   | bool=>
     obtain⟨hv,h⟩:=h;obtain⟨a,b,rfl,h1,h2,h3⟩:=Z65 (ks:=ks) (ls:=ls) h;exact⟨v::a,b,rfl,⟨hv,h1⟩,h2,by simp[h3]⟩
   | str=>
     obtain⟨hv,h⟩:=h;obtain⟨a,b,rfl,h1,h2,h3⟩:=Z65 (ks:=ks) (ls:=ls) h;exact⟨v::a,b,rfl,⟨hv,h1⟩,h2,by simp[h3]⟩
   | other=>exact h.elim
theorem Zaz:∀ {a b x y:List Value},a.length=x.length->valsEq (a++b) (x++y)=(valsEq a x && valsEq b y)
 | [],b,[],y,_=>rfl
 | u::a,b,v::x,y,h=>by
   simp only[Y0s,valsEq];rw[Zaz (a:=a) (x:=x) (by simpa using h),Bool.and_assoc]
 | [],_,_::_,_,h=>by cases h
 | _::_,_,[],_,h=>by cases h
theorem Z9w:∀ {ks:List Kd} {vs:List Value},Shaped ks vs->vs.length=ks.length
 | [],[],_=>rfl
 | [],_::_,h=>h.elim
 | k::ks,[],h=>by cases k<;>exact h.elim
 | k::ks,v::vs,h=>by
   cases k with
   | int i=>simp[Z9w h.2]
   | bool=>simp[Z9w h.2]
   | str=>simp[Z9w h.2]
   | other=>exact h.elim
def asVal (P:Program) (t:TypeId) (vs:List Value) (v:Value):Prop:=
 match P.underlying t with
 | some d=>if aggD d=true then v=.agg vs.toArray else vs=[v]
 | none=>False
theorem Zem {P:Program} {d:Nat} {t:TypeId} {ks:List Kd} (hk:eqK P d t=some ks) {cs a rest:List Value} {off:Nat} (hc:cs.drop off=a++rest) (ha:Shaped ks a) (w:World) :
  ∃ v,(part t cs.toArray off).run P w=.ok v w/\asVal P t a v:=by
 have hlen:=Z9w ha;cases d with
 | zero=>cases hk
 | succ d=>
   unfold eqK at hk;have leaf:∀ k v,P.underlying t=some k->aggD k=false->a=[v]->∃ u,(part t cs.toArray off).run P w=.ok u w/\asVal P t a u:=by
    intro k v hu hg hav;subst hav;have hget:cs[off]? = some v:=by
     have:(cs.drop off)[0]? = some v:=by rw[hc];rfl
     simpa using this
    exact⟨v,by simp[part,Z6n hu,hg,hget],by simp[asVal,hu,hg]⟩
   split at hk
   .rename_i k hu;cases hk;obtain⟨v,rfl⟩:∃ v,a=[v]:=by
     match a,hlen with
     | [v],_=>exact⟨v,rfl⟩
    exact leaf _ v hu rfl rfl
   .rename_i hu;cases hk;obtain⟨v,rfl⟩:∃ v,a=[v]:=by
     match a,hlen with
     | [v],_=>exact⟨v,rfl⟩
    exact leaf _ v hu rfl rfl
   .rename_i hu;cases hk;obtain⟨v,rfl⟩:∃ v,a=[v]:=by
     match a,hlen with
     | [v],_=>exact⟨v,rfl⟩
    exact leaf _ v hu rfl rfl
   .rename_i fs hu;split at hk
    .cases hk
    .split at hk
     .rename_i ks' _;split at hk
      .rename_i i hi;split at hk
       .rename_i hsz;cases hk;have hex:(cs.drop off).take i.size=a:=by
         rw[hsz,<- hlen,hc];simp
        exact⟨.agg a.toArray,by simp[part,Z6n hu,aggD,sizeOf,typeInfo,hi,hex],by simp[asVal,hu,aggD]⟩
       .cases hk
      .cases hk
     .cases hk
   .cases hk
theorem Zhc {P:Program}:∀ (d:Nat) (t:TypeId) (ks:List Kd),eqK P d t=some ks->∀ (D:Nat),d<=D->∀ (vs us:List Value) (v u:Value) (w:World),Shaped ks vs->Shaped ks us->asVal P t vs v->asVal P t us u ->
  (Op.equalIn D t v u).run P w=.ok (valsEq vs us) w
 | 0,t,ks,hk=>by cases hk
 | d+1,t,ks,hk=>by
   intro D hD vs us v u w hv hu av au;obtain⟨D,rfl⟩:∃ n,D=n+1:=⟨D - 1,by omega⟩;unfold eqK at hk;split at hk
   .rename_i k hun;cases hk;simp only[asVal,hun,aggD,Y1k,if_false] at av au;subst av au;obtain⟨⟨n,rfl⟩,_⟩:=hv;obtain⟨⟨m,rfl⟩,_⟩:=hu;rw[run_equalIn_int w D t k k n m hun];simp[valsEq,valEq]
   .rename_i hun;cases hk;simp only[asVal,hun,aggD,Y1k,if_false] at av au;subst av au;obtain⟨⟨n,rfl⟩,_⟩:=hv;obtain⟨⟨m,rfl⟩,_⟩:=hu;rw[run_equalIn_bool' w D t n m hun];simp[valsEq,valEq]
   .rename_i hun;cases hk;simp only[asVal,hun,aggD,Y1k,if_false] at av au;subst av au;obtain⟨⟨n,rfl⟩,_⟩:=hv;obtain⟨⟨m,rfl⟩,_⟩:=hu;rw[run_equalIn_string w D t n m hun,<- beq_toListBytes];simp[valsEq,valEq]
   .rename_i fs hun;split at hk
    .cases hk
    .rename_i hst;split at hk
     .rename_i ks' hks;split at hk
      .rename_i i hi;split at hk
       .cases hk;simp only[asVal,hun,aggD,if_true] at av au;subst av au;have hf:P.fieldsOf t=fs:=by simp[Program.fieldsOf,hun]
        rw[run_equalIn_agg w D t _ _ (by rw[hf];exact hun) (by simpa using hst),hf];have key:∀ (l:List Field) (off:Nat) (ls:List Kd) (a b:List Value),eqKs (eqK P d) l off=some ls->vs.drop off=a->us.drop off=b->Shaped ls a->Shaped ls b->∀ w,(Op.eqFields D vs.toArray us.toArray l).run P w=.ok (valsEq a b) w:=by
         intro l
         induction l with
         | nil=>
           intro off ls a b hl ha hb sa sb w;cases hl;have ea:a=[]:=by cases a with | nil=>rfl | cons _ _=>exact sa.elim
           have eb:b=[]:=by cases b with | nil=>rfl | cons _ _=>exact sb.elim
           subst ea eb;simp[Op.eqFields,valsEq]
         | cons f l ih=>
           intro off ls a b hl ha hb sa sb w;unfold eqKs at hl;split at hl
           .rename_i hc;split at hl
            .rename_i k1 hk1;split at hl
             .rename_i r hr;cases hl;obtain⟨a1,a2,rfl,s1,s2,l1⟩:=Z65 sa;obtain⟨b1,b2,rfl,t1,t2,m1⟩:=Z65 sb;obtain⟨v1,hv1,av1⟩:=Zem hk1 (cs:=vs) ha s1 w;obtain⟨u1,hu1,au1⟩:=Zem hk1 (cs:=us) hb t1 w;have he:=Zhc d f.type k1 hk1 D (by omega) a1 b1 v1 u1 w s1 t1 av1 au1;have hrest:=ih (off+k1.length) r a2 b2 hr (by rw[<- Y1p,ha,<- l1];simp) (by rw[<- Y1p,hb,<- m1];simp) s2 t2 w;rw[<- hc.2] at hv1 hu1;simp only[Op.eqFields,hc.1,ne_eq,not_false_eq_true,if_true,Sem.run_bind,hv1,hu1,Result.andThen_ok,he];rw[Zaz (by omega)];cases hb1:valsEq a1 b1 with
              | true=>simpa using hrest
              | false=>simp
             .cases hl
            .cases hl
           .cases hl
        exact key fs.toList 0 _ vs us hks rfl rfl hv hu w
       .cases hk
      .cases hk
     .cases hk
   .cases hk
theorem eqT_of {P:Program} {t:TypeId} {ks:List Kd} {fs:Array Field} (hu:P.underlying t=some (.struct fs)) (hg:P.eqGuardType P.depth t=false) (hk:eqK P 20 t=some ks):EqT P t ks:=by
 intro op vs us w x y hop hv hus;have he:=Zhc 20 t ks hk 10000 (by omega) vs us (.agg vs.toArray) (.agg us.toArray) w hv hus (by simp[asVal,hu,aggD]) (by simp[asVal,hu,aggD]);simp only[Sem.run_bind,run_eqGuard_agg w op t x y _ _ hg,Result.andThen_ok];cases op with
 | eql=>rw[run_eql_struct,he];simp
 | neq=>rw[run_neq_struct,he];simp
 | _=>cases hop
end
end Go.Am
namespace Go.Proofs.YtbcejndfbklikaaGreatDoor
section
open Go.Am
theorem ty_ld3:ldT prog 3=some (false,1):=by kernel_rfl
theorem ty_ze3:zeT prog 3=some [.d (.int .i64 0)]:=by kernel_rfl
theorem ty_ld4:ldT prog 4=some (false,1):=by kernel_rfl
theorem ty_bt4:Zaj prog 4=true:=by kernel_rfl
theorem ty_ze4:zeT prog 4=some [.d (.bool false)]:=by kernel_rfl
theorem ty_ld9:ldT prog 9=some (false,1):=by kernel_rfl
theorem Zr0:lenT prog 9=some true:=by kernel_rfl
theorem Zrj:ldT prog 22=some (false,1):=by kernel_rfl
theorem Zd6:elT prog 22=some (100,3,64):=by kernel_rfl
theorem Zot:lenT prog 22=some false:=by kernel_rfl
theorem Zri:ldT prog 23=some (false,1):=by kernel_rfl
theorem Zd5:elT prog 23=some (120,3,56):=by kernel_rfl
theorem Zos:lenT prog 23=some false:=by kernel_rfl
theorem Zrh:ldT prog 24=some (false,1):=by kernel_rfl
theorem Zac:elT prog 24=some (118,7,80):=by kernel_rfl
theorem Zor:lenT prog 24=some false:=by kernel_rfl
theorem Zrg:ldT prog 26=some (true,3):=by kernel_rfl
theorem Zmj:fdT prog 26 0=some (0,false,1):=by kernel_rfl
theorem Zmi:fdT prog 26 1=some (1,false,1):=by kernel_rfl
theorem Zmh:fdT prog 26 2=some (2,false,1):=by kernel_rfl
theorem Zqz:stT prog 26=some [(0,1),(1,1),(2,1)]:=by kernel_rfl
theorem Zqt:zeT prog 26=some [.nil,.nil,.nil]:=by kernel_rfl
theorem Zrf:ldT prog 27=some (false,1):=by kernel_rfl
theorem Zmq:elT prog 27=some (90,2,32):=by kernel_rfl
theorem Zoq:lenT prog 27=some false:=by kernel_rfl
theorem Zre:ldT prog 29=some (true,4):=by kernel_rfl
theorem Zmg:fdT prog 29 0=some (0,true,3):=by kernel_rfl
theorem Zmf:fdT prog 29 1=some (3,false,1):=by kernel_rfl
theorem Zqy:stT prog 29=some [(0,3),(3,1)]:=by kernel_rfl
theorem Zqs:zeT prog 29=some [.nil,.nil,.nil,.nil]:=by kernel_rfl
theorem Zrd:ldT prog 30=some (false,1):=by kernel_rfl
theorem Zff:elT prog 30=some (45,1,24):=by kernel_rfl
theorem Zop:lenT prog 30=some false:=by kernel_rfl
theorem Zrc:ldT prog 31=some (false,1):=by kernel_rfl
theorem Zfe:elT prog 31=some (30,1,24):=by kernel_rfl
theorem Zoo:lenT prog 31=some false:=by kernel_rfl
theorem Zrb:ldT prog 33=some (true,2):=by kernel_rfl
theorem Zme:fdT prog 33 0=some (0,false,1):=by kernel_rfl
theorem Zmd:fdT prog 33 1=some (1,false,1):=by kernel_rfl
theorem Zqx:stT prog 33=some [(0,1),(1,1)]:=by kernel_rfl
theorem Zqr:zeT prog 33=some [.nil,.nil]:=by kernel_rfl
theorem Zmp:elT prog 34=some (76,4,72):=by kernel_rfl
theorem Zon:lenT prog 34=some false:=by kernel_rfl
theorem Zra:ldT prog 37=some (false,1):=by kernel_rfl
theorem Zqq:zeT prog 37=some [.d (.int .i64 0)]:=by kernel_rfl
theorem Zmo:elT prog 44=some (62,2,40):=by kernel_rfl
theorem Zr9:ldT prog 45=some (false,1):=by kernel_rfl
theorem Zab:elT prog 45=some (62,2,40):=by kernel_rfl
theorem Zom:lenT prog 45=some false:=by kernel_rfl
theorem Zqp:zeT prog 45=some [.nil]:=by kernel_rfl
theorem Zmn:elT prog 52=some (37,1,8):=by kernel_rfl
theorem Zol:lenT prog 52=some false:=by kernel_rfl
theorem Zr8:ldT prog 60=some (false,1):=by kernel_rfl
theorem Z3e:elT prog 60=some (74,1,24):=by kernel_rfl
theorem Zok:lenT prog 60=some false:=by kernel_rfl
theorem Zqo:zeT prog 60=some [.nil]:=by kernel_rfl
theorem Zr7:ldT prog 62=some (true,2):=by kernel_rfl
theorem Zmc:fdT prog 62 0=some (0,false,1):=by kernel_rfl
theorem Zmb:fdT prog 62 1=some (1,false,1):=by kernel_rfl
theorem Zqw:stT prog 62=some [(0,1),(1,1)]:=by kernel_rfl
theorem Zqn:zeT prog 62=some [.d (.str empty),.nil]:=by kernel_rfl
theorem Zmm:elT prog 66=some (70,2,16):=by kernel_rfl
theorem Zhy:elT prog 73=some (115,3,32):=by kernel_rfl
theorem Zoj:lenT prog 73=some false:=by kernel_rfl
theorem Zd4:slT prog 73=true:=by kernel_rfl
theorem Zr6:ldT prog 74=some (false,1):=by kernel_rfl
theorem Z4y:elT prog 74=some (115,3,32):=by kernel_rfl
theorem Zoi:lenT prog 74=some false:=by kernel_rfl
theorem Zm2:zeT prog 74=some [.nil]:=by kernel_rfl
theorem Zr5:ldT prog 76=some (true,4):=by kernel_rfl
theorem Zma:fdT prog 76 0=some (0,false,1):=by kernel_rfl
theorem Zm9:fdT prog 76 1=some (1,false,1):=by kernel_rfl
theorem Zm8:fdT prog 76 2=some (2,false,1):=by kernel_rfl
theorem Zm7:fdT prog 76 3=some (3,false,1):=by kernel_rfl
theorem Zqv:stT prog 76=some [(0,1),(1,1),(2,1),(3,1)]:=by kernel_rfl
theorem Zqm:zeT prog 76=some [.d (.int .i64 0),.d (.str empty),.nil,.nil]:=by kernel_rfl
theorem Zbj:elT prog 83=some (26,3,72):=by kernel_rfl
theorem Zoh:lenT prog 83=some false:=by kernel_rfl
theorem Zml:elT prog 87=some (122,24,352):=by kernel_rfl
theorem Zr4:ldT prog 88=some (false,1):=by kernel_rfl
theorem Zmk:elT prog 88=some (122,24,352):=by kernel_rfl
theorem Zog:lenT prog 88=some false:=by kernel_rfl
theorem Zr3:ldT prog 90=some (true,2):=by kernel_rfl
theorem Zm6:fdT prog 90 0=some (0,false,1):=by kernel_rfl
theorem Zm5:fdT prog 90 1=some (1,false,1):=by kernel_rfl
theorem Zqu:stT prog 90=some [(0,1),(1,1)]:=by kernel_rfl
theorem Zql:zeT prog 90=some [.d (.int .i64 0),.nil]:=by kernel_rfl
theorem Zr2:ldT prog 97=some (false,1):=by kernel_rfl
theorem Z97:elT prog 97=some (113,3,32):=by kernel_rfl
theorem Zof:lenT prog 97=some false:=by kernel_rfl
theorem Zr1:ldT prog 98=some (false,1):=by kernel_rfl
theorem Z96:elT prog 98=some (3,1,8):=by kernel_rfl
theorem Zoe:lenT prog 98=some false:=by kernel_rfl
theorem Zp1:ldT prog 100=some (true,3):=by kernel_rfl
theorem Zkx:fdT prog 100 0=some (0,false,1):=by kernel_rfl
theorem Zkw:fdT prog 100 1=some (1,false,1):=by kernel_rfl
theorem Zkv:fdT prog 100 2=some (2,false,1):=by kernel_rfl
theorem Zod:stT prog 100=some [(0,1),(1,1),(2,1)]:=by kernel_rfl
theorem Zfd:zeT prog 100=some [.d (.str empty),.nil,.nil]:=by kernel_rfl
theorem Ziw:elT prog 106=some (4,1,1):=by kernel_rfl
theorem Zp0:ldT prog 113=some (true,3):=by kernel_rfl
theorem Zku:fdT prog 113 0=some (0,false,1):=by kernel_rfl
theorem Zkt:fdT prog 113 1=some (1,false,1):=by kernel_rfl
theorem Zks:fdT prog 113 2=some (2,false,1):=by kernel_rfl
theorem Zoc:stT prog 113=some [(0,1),(1,1),(2,1)]:=by kernel_rfl
theorem Zo6:zeT prog 113=some [.d (.str empty),.d (.int .i64 0),.d (.bool false)]:=by kernel_rfl
theorem Zoz:ldT prog 115=some (true,3):=by kernel_rfl
theorem Zkr:fdT prog 115 0=some (0,false,1):=by kernel_rfl
theorem Zkq:fdT prog 115 1=some (1,false,1):=by kernel_rfl
theorem Zkp:fdT prog 115 2=some (2,false,1):=by kernel_rfl
theorem Zob:stT prog 115=some [(0,1),(1,1),(2,1)]:=by kernel_rfl
theorem Zit:zeT prog 115=some [.d (.int .i64 0),.d (.int .i64 0),.d (.str empty)]:=by kernel_rfl
theorem Zoy:ldT prog 118=some (true,7):=by kernel_rfl
theorem Zko:fdT prog 118 0=some (0,false,1):=by kernel_rfl
theorem Zkn:fdT prog 118 1=some (1,false,1):=by kernel_rfl
theorem Zkm:fdT prog 118 2=some (2,false,1):=by kernel_rfl
theorem Zkl:fdT prog 118 3=some (3,false,1):=by kernel_rfl
theorem Zkk:fdT prog 118 4=some (4,true,3):=by kernel_rfl
theorem Zfc:zeT prog 118=some [.d (.str empty),.d (.int .i64 0),.d (.str empty),.d (.int .i64 0),.d (.int .i64 0),.d (.int .i64 0),.d (.str empty)]:=by kernel_rfl
theorem Zox:ldT prog 120=some (true,3):=by kernel_rfl
theorem Zkj:fdT prog 120 0=some (0,false,1):=by kernel_rfl
theorem Zki:fdT prog 120 1=some (1,false,1):=by kernel_rfl
theorem Zkh:fdT prog 120 2=some (2,false,1):=by kernel_rfl
theorem Zoa:stT prog 120=some [(0,1),(1,1),(2,1)]:=by kernel_rfl
theorem Zfb:zeT prog 120=some [.d (.str empty),.nil,.d (.str empty)]:=by kernel_rfl
theorem Zow:ldT prog 122=some (true,24):=by kernel_rfl
theorem Zkg:fdT prog 122 0=some (0,false,1):=by kernel_rfl
theorem Zkf:fdT prog 122 1=some (1,false,1):=by kernel_rfl
theorem Zke:fdT prog 122 2=some (2,false,1):=by kernel_rfl
theorem Zkd:fdT prog 122 3=some (3,false,1):=by kernel_rfl
theorem Zkc:fdT prog 122 4=some (4,false,1):=by kernel_rfl
theorem Zkb:fdT prog 122 5=some (5,false,1):=by kernel_rfl
theorem Zka:fdT prog 122 6=some (6,false,1):=by kernel_rfl
theorem Zk9:fdT prog 122 7=some (7,false,1):=by kernel_rfl
theorem Zk8:fdT prog 122 8=some (8,true,3):=by kernel_rfl
theorem Zk7:fdT prog 122 9=some (11,true,3):=by kernel_rfl
theorem Zhx:fdT prog 122 10=some (14,true,7):=by kernel_rfl
theorem Zhw:fdT prog 122 11=some (21,true,3):=by kernel_rfl
theorem Zo9:stT prog 122=some [(0,1),(1,1),(2,1),(3,1),(4,1),(5,1),(6,1),(7,1),(8,3),(11,3),(14,7),(21,3)]:=by kernel_rfl
theorem Zo5:zeT prog 122=some [.d (.int .i64 0),.d (.str empty),.d (.str empty),.d (.str empty),.d (.str empty),.d (.int .i64 0),.nil,.d (.str empty),.d (.int .i64 0),.d (.int .i64 0),.d (.str empty),.d (.str empty),.nil,.nil,.d (.str empty),.d (.int .i64 0),.d (.str empty),.d (.int .i64 0),.d (.int .i64 0),.d (.int .i64 0),.d (.str empty),.d (.str empty),.nil,.d (.str empty)]:=by kernel_rfl
theorem Zcs:elT prog 155=some (159,2,16):=by kernel_rfl
theorem Zm4:lenT prog 155=some false:=by kernel_rfl
theorem Zov:ldT prog 159=some (true,2):=by kernel_rfl
theorem Zk6:fdT prog 159 0=some (0,false,1):=by kernel_rfl
theorem Zk5:fdT prog 159 1=some (1,false,1):=by kernel_rfl
theorem Zo8:stT prog 159=some [(0,1),(1,1)]:=by kernel_rfl
theorem Zo4:zeT prog 159=some [.d (.int .i64 0),.d (.bool false)]:=by kernel_rfl
theorem Zou:ldT prog 188=some (false,1):=by kernel_rfl
theorem Zk4:fdT prog 191 0=some (0,true,24):=by kernel_rfl
theorem Zk3:fdT prog 191 1=some (24,false,1):=by kernel_rfl
theorem Zk2:fdT prog 191 2=some (25,true,3):=by kernel_rfl
theorem Zk1:fdT prog 191 3=some (28,true,3):=by kernel_rfl
theorem Zk0:fdT prog 191 4=some (31,true,3):=by kernel_rfl
theorem Zjz:fdT prog 191 5=some (34,false,1):=by kernel_rfl
theorem Zjy:fdT prog 191 6=some (35,false,1):=by kernel_rfl
theorem Zjx:fdT prog 191 7=some (36,false,1):=by kernel_rfl
theorem Zjw:fdT prog 191 8=some (37,false,1):=by kernel_rfl
theorem Zjv:fdT prog 191 9=some (38,false,1):=by kernel_rfl
theorem Zo7:stT prog 191=some [(0,24),(24,1),(25,3),(28,3),(31,3),(34,1),(35,1),(36,1),(37,1),(38,1)]:=by kernel_rfl
theorem Zo3:zeT prog 191=some [.d (.int .i64 0),.d (.str empty),.d (.str empty),.d (.str empty),.d (.str empty),.d (.int .i64 0),.nil,.d (.str empty),.d (.int .i64 0),.d (.int .i64 0),.d (.str empty),.d (.str empty),.nil,.nil,.d (.str empty),.d (.int .i64 0),.d (.str empty),.d (.int .i64 0),.d (.int .i64 0),.d (.int .i64 0),.d (.str empty),.d (.str empty),.nil,.d (.str empty),.d (.bool false),.nil,.nil,.nil,.nil,.nil,.nil,.nil,.nil,.nil,.nil,.nil,.nil,.nil,.d (.int .i64 0)]:=by kernel_rfl
theorem Ziv:elT prog 194=some (5,1,1):=by kernel_rfl
theorem Ziu:elT prog 248=some (9,1,16):=by kernel_rfl
theorem Zm3:lenT prog 248=some false:=by kernel_rfl
theorem Zp2:elT prog 249=none:=by kernel_rfl
theorem Zp3:arT prog 249=some (2,1):=by kernel_rfl
attribute [simp] ty_ld3 ty_ze3 ty_ld4 ty_bt4 ty_ze4 ty_ld9 Zr0 Zrj Zd6 Zot Zri Zd5 Zos Zrh Zac Zor Zrg Zmj Zmi Zmh Zqz Zqt Zrf Zmq Zoq Zre Zmg Zmf Zqy Zqs Zrd Zff Zop Zrc Zfe Zoo Zrb Zme Zmd Zqx Zqr Zmp Zon Zra Zqq Zmo Zr9 Zab Zom Zqp Zmn Zol Zr8 Z3e Zok Zqo Zr7 Zmc Zmb Zqw Zqn Zmm Zhy Zoj Zd4 Zr6 Z4y Zoi Zm2 Zr5 Zma Zm9 Zm8 Zm7 Zqv Zqm Zbj Zoh Zml Zr4 Zmk Zog Zr3 Zm6 Zm5 Zqu Zql Zr2 Z97 Zof Zr1 Z96 Zoe Zp1 Zkx Zkw Zkv Zod Zfd Ziw Zp0 Zku Zkt Zks Zoc Zo6 Zoz Zkr Zkq Zkp Zob Zit Zoy Zko Zkn Zkm Zkl Zkk Zfc Zox Zkj Zki Zkh Zoa Zfb Zow Zkg Zkf Zke Zkd Zkc Zkb Zka Zk9 Zk8 Zk7 Zhx Zhw Zo9 Zo5 Zcs Zm4 Zov Zk6 Zk5 Zo8 Zo4 Zou Zk4 Zk3 Zk2 Zk1 Zk0 Zjz Zjy Zjx Zjw Zjv Zo7 Zo3 Ziv Ziu Zm3 Zp2 Zp3
theorem follows:prog.follows .mixedOrders=true:=by kernel_rfl
structure GV where
 kind:Int
 int:Int
 text:ByteArray
def GV.enc (v:GV):List D:=[.int .i64 v.kind,.int .i64 v.int,.str v.text]
def GV.zero:GV:=⟨0,0,empty⟩
def encI (n:Int):List D:=[.int .i64 n]
structure Col where
 name:ByteArray
 kind:Int
 nullable:Bool
def Col.enc (c:Col):List D:=[.str c.name,.int .i64 c.kind,.bool c.nullable]
structure Tbl where
 name:ByteArray
 cols:List Col
 pk:List Int
def Tbl.enc (t:Tbl):List D:=[.str t.name,.sl (t.cols.map Col.enc),.sl (t.pk.map encI)]
structure Fk where
 table:ByteArray
 cols:List Int
 ref:ByteArray
def Fk.enc (k:Fk):List D:=[.str k.table,.sl (k.cols.map encI),.str k.ref]
structure Cons where
 table:ByteArray
 left:Int
 op:ByteArray
 right:Int
 value:GV
def Cons.enc (c:Cons):List D:=[.str c.table,.int .i64 c.left,.str c.op,.int .i64 c.right,.int .i64 c.value.kind,.int .i64 c.value.int,.str c.value.text]
structure Sch where
 tables:List Tbl
 fks:List Fk
 cons:List Cons
def Sch.enc (s:Sch):List D:=[.sl (s.tables.map Tbl.enc),.sl (s.fks.map Fk.enc),.sl (s.cons.map Cons.enc)]
@[simp] theorem GV.enc_length {v:GV}:v.enc.length=3:=rfl
@[simp] theorem Zrw {v:Int}:(encI v).length=1:=rfl
@[simp] theorem Col.enc_length {v:Col}:v.enc.length=3:=rfl
@[simp] theorem Tbl.enc_length {v:Tbl}:v.enc.length=3:=rfl
@[simp] theorem Fk.enc_length {v:Fk}:v.enc.length=3:=rfl
@[simp] theorem Cons.enc_length {v:Cons}:v.enc.length=7:=rfl
@[simp] theorem Sch.enc_length {v:Sch}:v.enc.length=3:=rfl
def encB (b:Bool):List D:=[.bool b]
def encS (b:ByteArray):List D:=[.str b]
def encL {α:Type} (f:α->List D) (xs:List α):List D:=[.sl (xs.map f)]
structure Rel where
 table:ByteArray
 rows:List (List GV)
def Rel.enc (x:Rel):List D:=[.str x.table,.sl (x.rows.map (encL GV.enc))]
structure Chg where
 kind:Int
 table:ByteArray
 key:List GV
 row:List GV
def Chg.enc (x:Chg):List D:=[.int .i64 x.kind,.str x.table,.sl (x.key.map GV.enc),.sl (x.row.map GV.enc)]
structure Stp where
 kind:Int
 table:ByteArray
 other:ByteArray
 column:ByteArray
 newName:ByteArray
 type:Int
 cols:List Int
 op:ByteArray
 value:GV
 newTable:Tbl
 cons:Cons
 fk:Fk
def Stp.enc (x:Stp):List D:=[.int .i64 x.kind,.str x.table,.str x.other,.str x.column,.str x.newName,.int .i64 x.type,.sl (x.cols.map encI),.str x.op,
 .int .i64 x.value.kind,.int .i64 x.value.int,.str x.value.text,.str x.newTable.name,.sl (x.newTable.cols.map Col.enc),.sl (x.newTable.pk.map encI),
 .str x.cons.table,.int .i64 x.cons.left,.str x.cons.op,.int .i64 x.cons.right,.int .i64 x.cons.value.kind,.int .i64 x.cons.value.int,.str x.cons.value.text,
 .str x.fk.table,.sl (x.fk.cols.map encI),.str x.fk.ref]
structure Edg where
 parent:Int
 script:List Stp
def Edg.enc (x:Edg):List D:=[.int .i64 x.parent,.sl (x.script.map Stp.enc)]
structure Gr where
 base:Sch
 edges:List Edg
def Gr.enc (x:Gr):List D:=[.sl (x.base.tables.map Tbl.enc),.sl (x.base.fks.map Fk.enc),.sl (x.base.cons.map Cons.enc),.sl (x.edges.map Edg.enc)]
structure Db where
 insts:List (List Rel)
 comps:List (List (List Rel))
def Db.enc (x:Db):List D:=[.sl (x.insts.map (encL Rel.enc)),.sl (x.comps.map (encL (encL Rel.enc)))]
structure Rule where
 user:ByteArray
 version:Int
 table:ByteArray
 cols:List Int
 preds:List Cons
 write:Bool
def Rule.enc (x:Rule):List D:=[.str x.user,.int .i64 x.version,.str x.table,.sl (x.cols.map encI),.sl (x.preds.map Cons.enc),.bool x.write]
structure Hop where
 edge:Int
 back:Bool
def Hop.enc (x:Hop):List D:=[.int .i64 x.edge,.bool x.back]
structure Rej where
 version:Int
 err:Int
def Rej.enc (x:Rej):List D:=[.int .i64 x.version,.int .i64 x.err]
structure Wr where
 version:Int
 changes:List Chg
def Wr.enc (x:Wr):List D:=[.int .i64 x.version,.sl (x.changes.map Chg.enc)]
structure Mp where
 step:Stp
 fwd:Bool
 src:Sch
 dst:Sch
 cs:Sch
 inp:List Rel
 comp:List Rel
 out:List Rel
 nc:List Rel
 err:Int
def Mp.enc (m:Mp):List D:=m.step.enc++[.bool m.fwd,.sl (m.src.tables.map Tbl.enc),.sl (m.src.fks.map Fk.enc),.sl (m.src.cons.map Cons.enc),.sl (m.dst.tables.map Tbl.enc),.sl (m.dst.fks.map Fk.enc),.sl (m.dst.cons.map Cons.enc),
 .sl (m.cs.tables.map Tbl.enc),.sl (m.cs.fks.map Fk.enc),.sl (m.cs.cons.map Cons.enc),.sl (m.inp.map Rel.enc),.sl (m.comp.map Rel.enc)]
structure Txn where
 version:Int
 snapshot:List Rel
 tables:List ByteArray
 changes:List Chg
def Txn.enc (x:Txn):List D:=[.int .i64 x.version,.sl (x.snapshot.map Rel.enc),.sl (x.tables.map encS),.sl (x.changes.map Chg.enc)]
attribute [simp] Txn.enc encI encB encS encL Hop.enc Rej.enc Wr.enc Mp.enc GV.enc Col.enc Tbl.enc Fk.enc Cons.enc Sch.enc Rel.enc Chg.enc Stp.enc Edg.enc Gr.enc Db.enc Rule.enc
@[simp] theorem Zus:({ data:=#[] }:ByteArray)=empty:=rfl
attribute [simp] Zm1
@[simp] theorem lim_eq {n:Nat}:(n<=LIM)=(n<=2097152):=rfl
@[simp] theorem Zum:EqT prog 115 [.int .i64,.int .i64,.str]:=eqT_of (fs:=prog.fieldsOf 115) (by kernel_rfl) (by kernel_rfl) (by kernel_rfl)
@[simp] theorem Ztq:EqT prog 113 [.str,.int .i64,.bool]:=eqT_of (fs:=prog.fieldsOf 113) (by kernel_rfl) (by kernel_rfl) (by kernel_rfl)
@[simp] theorem Zvd:EqT prog 118 [.str,.int .i64,.str,.int .i64,.int .i64,.int .i64,.str]:=eqT_of (fs:=prog.fieldsOf 118) (by kernel_rfl) (by kernel_rfl) (by kernel_rfl)
theorem bound1 {P:Program} {f:FuncId} {xs:List (List D)} {rest:List AV} {r:RV} (hf:FnOK P f) (h:xs.length<=LIM->PSpec P f (.one (.d (.sl xs))::rest) r):PSpec P f (.one (.d (.sl xs))::rest) r:=by
 refine⟨hf,fun w m t vals hg hm ht hargs=>?_⟩;obtain⟨u,_,hr⟩:=hargs.2 0 _ rfl;have hr':RepD m (.sl xs) u:=hr;obtain⟨_,_,_,_,hl⟩:=hr'.slice;exact (h hl).2 w m t vals hg hm ht hargs
theorem Zao (a b:ByteArray) (w:World) :
  Calls prog 125 #[.string a,.string b] w fun e w'=>e=.returned (.int .i64 (Lib.compareBytes a.data.toList b.data.toList))/\w'=w:=by
 go_enter Tryz.func125,Tryz.ntmps125
 go_wp2
 rw[run_callFunc_extern Tryz.func155 (by kernel_rfl) (by kernel_rfl) (by kernel_rfl) (e:=Extern.BytealgCompare.compare) (by kernel_rfl),Lib.run_compareString];simp only[Result.andThen];rw[Oper.upon_value]
 go_wp2
 go_ret
 exact⟨rfl,rfl⟩
def cmpS (a b:ByteArray):Int:=Lib.compareBytes a.data.toList b.data.toList
theorem Zgb (a b:ByteArray):PSpec prog 125 [.one (.d (.str a)),.one (.d (.str b))] (.one (.d (.int .i64 (cmpS a b)))):=by
 refine⟨⟨_,Tryz.func125,by kernel_rfl,by kernel_rfl⟩,fun w m t vals hgok hm ht hargs=>?_⟩;obtain⟨hs,hg⟩:=hargs;obtain⟨u0,h0,r0⟩:=hg 0 _ rfl;obtain⟨u1,h1,r1⟩:=hg 1 _ rfl;have e0:u0=.string a:=RepD.str_inv (m:=m) r0;have e1:u1=.string b:=RepD.str_inv (m:=m) r1;subst e0 e1;have hv:vals=#[.string a,.string b]:=by
  apply Y2m;intro i
  match i with
  | 0=>simpa using h0
  | 1=>simpa using h1
  | i+2=>rw[Y1r (by simp at hs;omega)];simp
 subst hv;refine (Zao a b w).mono ?_;rintro e w' ⟨rfl,rfl⟩;exact⟨_,m,fun _=>(none,0),rfl,Sub.refl _,fun _ _ _ _ h=>h,hm,Go.RowKit.Below.refl _ _,RepD.int _ _,⟨fun x hx=>by simp[RV.fr,RV1.fr,RC.fr] at hx,fun x hx=>by simp[RV.fr,RV1.fr,RC.fr] at hx⟩⟩
theorem Ze8 (a b:ByteArray):PSpec prog 117 [.one (.d (.str a)),.one (.d (.str b))] (.one (.d (.int .i64 (cmpS a b)))):=by
 refine PSpec.of_vc Tryz.func117 rfl (by kernel_rfl) (n:=8) rfl rfl (by simp) ?_;simp;refine Z08 (Zgb a b) (by simp) ?_;simp;exact ret_d (by simp;rfl) rfl
def Z4l (a b:ByteArray):Option Int:=some (cmpS a b)
theorem Zc3 (a b:ByteArray) (r:Int) (hm:Is (Z4l a b) r):PSpec prog 117 [.one (.d (.str a)),.one (.d (.str b))] (.one (.d (.int .i64 r))):=by
 obtain rfl:=r_ret hm;exact Ze8 a b
end
section
open Go Go.Am
theorem Zrk {P:Program} {B n:Nat} {t:TypeId} {ds:List D} (hu:P.underlying t=some (.int .i64)) (h:tyD P B n t ds):∃ v:Int,ds=encI v:=by
 cases n with
 | zero=>cases h
 | succ n=>simp only[tyD,hu] at h;obtain⟨v,h1,_⟩:=h;exact⟨v,h1⟩
theorem Zp4 {P:Program} {B n:Nat} {t:TypeId} {ds:List D} (hu:P.underlying t=some .bool) (h:tyD P B n t ds):∃ v:Bool,ds=encB v:=by
 cases n with
 | zero=>cases h
 | succ n=>simp only[tyD,hu] at h;exact h
theorem Zky {P:Program} {B n:Nat} {t:TypeId} {ds:List D} (hu:P.underlying t=some .string) (h:tyD P B n t ds):∃ v:ByteArray,ds=encS v:=by
 cases n with
 | zero=>cases h
 | succ n=>simp only[tyD,hu] at h;exact h
theorem Z7m {P:Program} {B n:Nat} {t e:TypeId} {ds:List D} (hu:P.underlying t=some (.slice e)) (h:tyD P B n t ds):∃ m xs,ds=[.sl xs]/\xs.length<=B/\∀ x ∈ xs,tyD P B m e x:=by
 cases n with
 | zero=>cases h
 | succ n=>simp only[tyD,hu] at h;obtain⟨xs,h1,h2,h3⟩:=h;exact⟨n,xs,h1,h2,h3⟩
theorem Z5d {P:Program} {B n:Nat} {t:TypeId} {fs:Array Field} {ds:List D} (hu:P.underlying t=some (.struct fs)) (h:tyD P B n t ds):∃ m,tyFs (tyD P B m) fs.toList ds:=by
 cases n with
 | zero=>cases h
 | succ n=>simp only[tyD,hu] at h;exact⟨n,h⟩
theorem Z80 {α:Type} {enc:α->List D} {S:α->Prop}:∀ {xs:List (List D)},(∀ x ∈ xs,∃ v,x=enc v/\S v)->∃ vs:List α,xs=vs.map enc/\vs.length=xs.length/\∀ v ∈ vs,S v
 | [],_=>⟨[],rfl,rfl,by simp⟩
 | x::xs,h=>by
   obtain⟨v,h1,h2⟩:=h x (by simp);obtain⟨vs,h3,h4,h5⟩:=Z80 fun y hy=>h y (Y0c _ hy);exact⟨v::vs,by simp[h1,<- h3],by simp[h4],by simpa using⟨h2,h5⟩⟩
theorem dec3 {B n:Nat} {ds:List D} (h:tyD prog B n 3 ds):∃ v:Int,ds=encI v/\True:=by
 obtain⟨v,hv⟩:=Zrk Tryz.underlying3 h;exact⟨v,hv,trivial⟩
theorem dec9 {B n:Nat} {ds:List D} (h:tyD prog B n 9 ds):∃ v:ByteArray,ds=encS v/\True:=by
 obtain⟨v,hv⟩:=Zky Tryz.underlying9 h;exact⟨v,hv,trivial⟩
def bd115 (B:Nat) (x:GV):Prop:=True/\True/\True
theorem dec115 {B n:Nat} {ds:List D} (h:tyD prog B n 115 ds):∃ v:GV,ds=v.enc/\bd115 B v:=by
 obtain⟨m,hm⟩:=Z5d Tryz.underlying115 h;obtain⟨a0,r0,e0,t0,hm⟩:=hm;obtain⟨v0,w0,b0⟩:=dec3 t0;obtain⟨a1,r1,e1,t1,hm⟩:=hm;obtain⟨v1,w1,b1⟩:=dec3 t1;obtain⟨a2,r2,e2,t2,hm⟩:=hm;obtain⟨v2,w2,b2⟩:=dec9 t2;have e3:r2=[]:=hm;subst w0 w1 w2;refine⟨⟨v0,v1,v2⟩,?_,b0,b1,b2⟩;rw[e0,e1,e2,e3];rfl
theorem dec4 {B n:Nat} {ds:List D} (h:tyD prog B n 4 ds):∃ v:Bool,ds=encB v/\True:=by
 obtain⟨v,hv⟩:=Zp4 Tryz.underlying4 h;exact⟨v,hv,trivial⟩
def bd113 (B:Nat) (x:Col):Prop:=True/\True/\True
theorem dec113 {B n:Nat} {ds:List D} (h:tyD prog B n 113 ds):∃ v:Col,ds=v.enc/\bd113 B v:=by
 obtain⟨m,hm⟩:=Z5d Tryz.underlying113 h;obtain⟨a0,r0,e0,t0,hm⟩:=hm;obtain⟨v0,w0,b0⟩:=dec9 t0;obtain⟨a1,r1,e1,t1,hm⟩:=hm;obtain⟨v1,w1,b1⟩:=dec3 t1;obtain⟨a2,r2,e2,t2,hm⟩:=hm;obtain⟨v2,w2,b2⟩:=dec4 t2;have e3:r2=[]:=hm;subst w0 w1 w2;refine⟨⟨v0,v1,v2⟩,?_,b0,b1,b2⟩;rw[e0,e1,e2,e3];rfl
def bd97 (B:Nat) (xs:List Col):Prop:=xs.length<=B/\∀ x ∈ xs,bd113 B x
theorem dec97 {B n:Nat} {ds:List D} (h:tyD prog B n 97 ds):∃ v:List Col,ds=[.sl (v.map Col.enc)]/\bd97 B v:=by
 obtain⟨m,xs,rfl,hl,hx⟩:=Z7m Tryz.underlying97 h;obtain⟨vs,rfl,h1,h2⟩:=Z80 (enc:=Col.enc) (S:=fun x=>bd113 B x) fun x hx1=>dec113 (hx x hx1);exact⟨vs,rfl,by simpa using hl,h2⟩
def bd98 (B:Nat) (xs:List Int):Prop:=xs.length<=B/\∀ x ∈ xs,True
theorem dec98 {B n:Nat} {ds:List D} (h:tyD prog B n 98 ds):∃ v:List Int,ds=[.sl (v.map encI)]/\bd98 B v:=by
 obtain⟨m,xs,rfl,hl,hx⟩:=Z7m Tryz.underlying98 h;obtain⟨vs,rfl,h1,h2⟩:=Z80 (enc:=encI) (S:=fun x=>True) fun x hx1=>dec3 (hx x hx1);exact⟨vs,rfl,by simpa using hl,h2⟩
def bd100 (B:Nat) (x:Tbl):Prop:=True/\bd97 B x.cols/\bd98 B x.pk
theorem dec100 {B n:Nat} {ds:List D} (h:tyD prog B n 100 ds):∃ v:Tbl,ds=v.enc/\bd100 B v:=by
 obtain⟨m,hm⟩:=Z5d Tryz.underlying100 h;obtain⟨a0,r0,e0,t0,hm⟩:=hm;obtain⟨v0,w0,b0⟩:=dec9 t0;obtain⟨a1,r1,e1,t1,hm⟩:=hm;obtain⟨v1,w1,b1⟩:=dec97 t1;obtain⟨a2,r2,e2,t2,hm⟩:=hm;obtain⟨v2,w2,b2⟩:=dec98 t2;have e3:r2=[]:=hm;subst w0 w1 w2;refine⟨⟨v0,v1,v2⟩,?_,b0,b1,b2⟩;rw[e0,e1,e2,e3];rfl
def bd120 (B:Nat) (x:Fk):Prop:=True/\bd98 B x.cols/\True
theorem dec120 {B n:Nat} {ds:List D} (h:tyD prog B n 120 ds):∃ v:Fk,ds=v.enc/\bd120 B v:=by
 obtain⟨m,hm⟩:=Z5d Tryz.underlying120 h;obtain⟨a0,r0,e0,t0,hm⟩:=hm;obtain⟨v0,w0,b0⟩:=dec9 t0;obtain⟨a1,r1,e1,t1,hm⟩:=hm;obtain⟨v1,w1,b1⟩:=dec98 t1;obtain⟨a2,r2,e2,t2,hm⟩:=hm;obtain⟨v2,w2,b2⟩:=dec9 t2;have e3:r2=[]:=hm;subst w0 w1 w2;refine⟨⟨v0,v1,v2⟩,?_,b0,b1,b2⟩;rw[e0,e1,e2,e3];rfl
def bd118 (B:Nat) (x:Cons):Prop:=True/\True/\True/\True/\bd115 B x.value
theorem dec118 {B n:Nat} {ds:List D} (h:tyD prog B n 118 ds):∃ v:Cons,ds=v.enc/\bd118 B v:=by
 obtain⟨m,hm⟩:=Z5d Tryz.underlying118 h;obtain⟨a0,r0,e0,t0,hm⟩:=hm;obtain⟨v0,w0,b0⟩:=dec9 t0;obtain⟨a1,r1,e1,t1,hm⟩:=hm;obtain⟨v1,w1,b1⟩:=dec3 t1;obtain⟨a2,r2,e2,t2,hm⟩:=hm;obtain⟨v2,w2,b2⟩:=dec9 t2;obtain⟨a3,r3,e3,t3,hm⟩:=hm;obtain⟨v3,w3,b3⟩:=dec3 t3;obtain⟨a4,r4,e4,t4,hm⟩:=hm;obtain⟨v4,w4,b4⟩:=dec115 t4;have e5:r4=[]:=hm;subst w0 w1 w2 w3 w4;refine⟨⟨v0,v1,v2,v3,v4⟩,?_,b0,b1,b2,b3,b4⟩;rw[e0,e1,e2,e3,e4,e5];rfl
def bd22 (B:Nat) (xs:List Tbl):Prop:=xs.length<=B/\∀ x ∈ xs,bd100 B x
theorem dec22 {B n:Nat} {ds:List D} (h:tyD prog B n 22 ds):∃ v:List Tbl,ds=[.sl (v.map Tbl.enc)]/\bd22 B v:=by
 obtain⟨m,xs,rfl,hl,hx⟩:=Z7m Tryz.underlying22 h;obtain⟨vs,rfl,h1,h2⟩:=Z80 (enc:=Tbl.enc) (S:=fun x=>bd100 B x) fun x hx1=>dec100 (hx x hx1);exact⟨vs,rfl,by simpa using hl,h2⟩
def bd23 (B:Nat) (xs:List Fk):Prop:=xs.length<=B/\∀ x ∈ xs,bd120 B x
theorem dec23 {B n:Nat} {ds:List D} (h:tyD prog B n 23 ds):∃ v:List Fk,ds=[.sl (v.map Fk.enc)]/\bd23 B v:=by
 obtain⟨m,xs,rfl,hl,hx⟩:=Z7m Tryz.underlying23 h;obtain⟨vs,rfl,h1,h2⟩:=Z80 (enc:=Fk.enc) (S:=fun x=>bd120 B x) fun x hx1=>dec120 (hx x hx1);exact⟨vs,rfl,by simpa using hl,h2⟩
def bd24 (B:Nat) (xs:List Cons):Prop:=xs.length<=B/\∀ x ∈ xs,bd118 B x
theorem dec24 {B n:Nat} {ds:List D} (h:tyD prog B n 24 ds):∃ v:List Cons,ds=[.sl (v.map Cons.enc)]/\bd24 B v:=by
 obtain⟨m,xs,rfl,hl,hx⟩:=Z7m Tryz.underlying24 h;obtain⟨vs,rfl,h1,h2⟩:=Z80 (enc:=Cons.enc) (S:=fun x=>bd118 B x) fun x hx1=>dec118 (hx x hx1);exact⟨vs,rfl,by simpa using hl,h2⟩
def bd26 (B:Nat) (x:Sch):Prop:=bd22 B x.tables/\bd23 B x.fks/\bd24 B x.cons
theorem dec26 {B n:Nat} {ds:List D} (h:tyD prog B n 26 ds):∃ v:Sch,ds=v.enc/\bd26 B v:=by
 obtain⟨m,hm⟩:=Z5d Tryz.underlying26 h;obtain⟨a0,r0,e0,t0,hm⟩:=hm;obtain⟨v0,w0,b0⟩:=dec22 t0;obtain⟨a1,r1,e1,t1,hm⟩:=hm;obtain⟨v1,w1,b1⟩:=dec23 t1;obtain⟨a2,r2,e2,t2,hm⟩:=hm;obtain⟨v2,w2,b2⟩:=dec24 t2;have e3:r2=[]:=hm;subst w0 w1 w2;refine⟨⟨v0,v1,v2⟩,?_,b0,b1,b2⟩;rw[e0,e1,e2,e3];rfl
def bd122 (B:Nat) (x:Stp):Prop:=True/\True/\True/\True/\True/\True/\bd98 B x.cols/\True/\bd115 B x.value/\bd100 B x.newTable/\bd118 B x.cons/\bd120 B x.fk
theorem dec122 {B n:Nat} {ds:List D} (h:tyD prog B n 122 ds):∃ v:Stp,ds=v.enc/\bd122 B v:=by
 obtain⟨m,hm⟩:=Z5d Tryz.underlying122 h;obtain⟨a0,r0,e0,t0,hm⟩:=hm;obtain⟨v0,w0,b0⟩:=dec3 t0;obtain⟨a1,r1,e1,t1,hm⟩:=hm;obtain⟨v1,w1,b1⟩:=dec9 t1;obtain⟨a2,r2,e2,t2,hm⟩:=hm;obtain⟨v2,w2,b2⟩:=dec9 t2;obtain⟨a3,r3,e3,t3,hm⟩:=hm;obtain⟨v3,w3,b3⟩:=dec9 t3;obtain⟨a4,r4,e4,t4,hm⟩:=hm;obtain⟨v4,w4,b4⟩:=dec9 t4;obtain⟨a5,r5,e5,t5,hm⟩:=hm;obtain⟨v5,w5,b5⟩:=dec3 t5;obtain⟨a6,r6,e6,t6,hm⟩:=hm;obtain⟨v6,w6,b6⟩:=dec98 t6;obtain⟨a7,r7,e7,t7,hm⟩:=hm;obtain⟨v7,w7,b7⟩:=dec9 t7;obtain⟨a8,r8,e8,t8,hm⟩:=hm;obtain⟨v8,w8,b8⟩:=dec115 t8;obtain⟨a9,r9,e9,t9,hm⟩:=hm;obtain⟨v9,w9,b9⟩:=dec100 t9;obtain⟨a10,r10,e10,t10,hm⟩:=hm;obtain⟨v10,w10,b10⟩:=dec118 t10;obtain⟨a11,r11,e11,t11,hm⟩:=hm;obtain⟨v11,w11,b11⟩:=dec120 t11;have e12:r11=[]:=hm;subst w0 w1 w2 w3 w4 w5 w6 w7 w8 w9 w10 w11;refine⟨⟨v0,v1,v2,v3,v4,v5,v6,v7,v8,v9,v10,v11⟩,?_,b0,b1,b2,b3,b4,b5,b6,b7,b8,b9,b10,b11⟩;rw[e0,e1,e2,e3,e4,e5,e6,e7,e8,e9,e10,e11,e12];rfl
def bd88 (B:Nat) (xs:List Stp):Prop:=xs.length<=B/\∀ x ∈ xs,bd122 B x
theorem dec88 {B n:Nat} {ds:List D} (h:tyD prog B n 88 ds):∃ v:List Stp,ds=[.sl (v.map Stp.enc)]/\bd88 B v:=by
 obtain⟨m,xs,rfl,hl,hx⟩:=Z7m Tryz.underlying88 h;obtain⟨vs,rfl,h1,h2⟩:=Z80 (enc:=Stp.enc) (S:=fun x=>bd122 B x) fun x hx1=>dec122 (hx x hx1);exact⟨vs,rfl,by simpa using hl,h2⟩
def bd90 (B:Nat) (x:Edg):Prop:=True/\bd88 B x.script
theorem dec90 {B n:Nat} {ds:List D} (h:tyD prog B n 90 ds):∃ v:Edg,ds=v.enc/\bd90 B v:=by
 obtain⟨m,hm⟩:=Z5d Tryz.underlying90 h;obtain⟨a0,r0,e0,t0,hm⟩:=hm;obtain⟨v0,w0,b0⟩:=dec3 t0;obtain⟨a1,r1,e1,t1,hm⟩:=hm;obtain⟨v1,w1,b1⟩:=dec88 t1;have e2:r1=[]:=hm;subst w0 w1;refine⟨⟨v0,v1⟩,?_,b0,b1⟩;rw[e0,e1,e2];rfl
def bd27 (B:Nat) (xs:List Edg):Prop:=xs.length<=B/\∀ x ∈ xs,bd90 B x
theorem dec27 {B n:Nat} {ds:List D} (h:tyD prog B n 27 ds):∃ v:List Edg,ds=[.sl (v.map Edg.enc)]/\bd27 B v:=by
 obtain⟨m,xs,rfl,hl,hx⟩:=Z7m Tryz.underlying27 h;obtain⟨vs,rfl,h1,h2⟩:=Z80 (enc:=Edg.enc) (S:=fun x=>bd90 B x) fun x hx1=>dec90 (hx x hx1);exact⟨vs,rfl,by simpa using hl,h2⟩
def bd29 (B:Nat) (x:Gr):Prop:=bd26 B x.base/\bd27 B x.edges
theorem dec29 {B n:Nat} {ds:List D} (h:tyD prog B n 29 ds):∃ v:Gr,ds=v.enc/\bd29 B v:=by
 obtain⟨m,hm⟩:=Z5d Tryz.underlying29 h;obtain⟨a0,r0,e0,t0,hm⟩:=hm;obtain⟨v0,w0,b0⟩:=dec26 t0;obtain⟨a1,r1,e1,t1,hm⟩:=hm;obtain⟨v1,w1,b1⟩:=dec27 t1;have e2:r1=[]:=hm;subst w0 w1;refine⟨⟨v0,v1⟩,?_,b0,b1⟩;rw[e0,e1,e2];rfl
theorem Z8h {P:Program} {w:World}:∀ {l:List (String × DataW Unit)} {ps:List MemPlace},DataW.LaidVars P w l ps->∀ n d,(n,d) ∈ l ->
  ∃ g t cs fuel p,P.globalNamed n=some g/\(P.globals[g]?).map (·.type)=some t/\w.var? P n=some cs/\DataW.trod (fun _=>()) P w 0 (fun _=>true) false fuel t cs.toList=some (d,p)
 | [],_,_,_,_,hm=>by cases hm
 | (n',d')::r,ps,h,n,d,hm=>by
   obtain⟨g,t,cs,fuel,p,q,h1,h2,h3,h4,h5,_⟩:=h;rcases Y08.1 hm with e | e
   .cases e;exact⟨g,t,cs,fuel,p,h1,h2,h3,h4⟩
   .exact Z8h h5 n d e
theorem Zay {P:Program} {w:World} {n:String} {g:Nat} {cs:Array Value} (hg:P.globalNamed n=some g) (h:w.var? P n=some cs):∃ T l,w.heap[g]? = some (.cells cs T l):=by
 unfold World.var? at h;rw[hg] at h;simp only[Option.bind_some] at h;split at h
 .cases h;exact⟨_,_,by assumption⟩
 .cases h
theorem Zf2 {w:World} {g:Nat} {v:Value} {T:TypeId} {l:Nat × Nat} {cs:Array Value} (h:w.heap[g]? = some (.cells cs T l)) (hc:cs.toList=[v]):w.cell? ⟨g,0,none⟩=some v:=by
 have:cs[0]? = some v:=by rw[<- Array.getElem?_toList,hc];rfl
 unfold World.cell?;simp[h,this]
theorem Zad {α:Type} {x:Option α} {a b:α} (h:x=some a) (k:x=some b):b=a:=Option.some.inj (k.symm.trans h)
theorem gok_of {W:World} {l:List (String × DataW Unit)} (hl:l=Rows.databaseNewIsValidUptoRow.laid) (hL:laidMetH prog l W) (hsh:W.ShapedOpen prog):GOK W:=by
 subst hl;rw[MakeChecks.laidMetH_plain _ _ _ (by kernel_rfl)] at hL;obtain⟨_,hv,_⟩:=hL;obtain⟨ga,ta,ca,_,_,a1,_,a3,_⟩:=Z8h hv _ _ (.tail _ (.head _));obtain rfl:=Zad (a:=5) (by kernel_rfl) a1;obtain⟨Ta,la,a5⟩:=Zay a1 a3;obtain⟨gb,tb,cb,fb,pb,b1,b2,b3,b4⟩:=Z8h hv _ _ (.tail _ (.tail _ (.head _)));obtain rfl:=Zad (a:=1) (by kernel_rfl) b1;obtain rfl:=Zad (a:=297) (by kernel_rfl) b2;obtain⟨Tb,lb,b5⟩:=Zay b1 b3;have hb:=Lib.cells_of_tab (zs:=Lib.pow10Tab) Tryz.underlying297 Tryz.underlying290 (by kernel_rfl) (by kernel_rfl) b4;obtain⟨gc,tc,cc,fc,pc,c1,c2,c3,c4⟩:=Z8h hv _ _ (.tail _ (.tail _ (.tail _ (.tail _ (.head _)))));obtain rfl:=Zad (a:=2) (by kernel_rfl) c1;obtain rfl:=Zad (a:=285) (by kernel_rfl) c2;obtain⟨Tc,lc,c5⟩:=Zay c1 c3;obtain⟨_,uc,vc,hc,_⟩:=iface_of_trod Tryz.underlying285 c4;obtain⟨gd,td,cd,fd,pd,d1,d2,d3,d4⟩:=Z8h hv _ _ (.tail _ (.tail _ (.tail _ (.head _))));obtain rfl:=Zad (a:=3) (by kernel_rfl) d1;obtain rfl:=Zad (a:=285) (by kernel_rfl) d2;obtain⟨Td,ld,d5⟩:=Zay d1 d3;obtain⟨_,ud,vd,hd,_⟩:=iface_of_trod Tryz.underlying285 d4;obtain⟨m,hm⟩:=cell_of_shapedOpen_int (P:=prog) (g:=0) (t:=3) (zero:=#[.int .i64 0]) hsh (of_decide_eq_true (by kernel_rfl)) (by kernel_rfl) rfl (by kernel_rfl) (by kernel_rfl) Tryz.underlying3;have hsz:6<=W.heap.size:=by
  have:=(Y0u.1 a5).1
  have:=(Y0u.1 c5).1
  have:=(Y0u.1 d5).1
  omega
 refine⟨hsz,⟨Tb,lb,?_⟩,⟨uc,vc,Zf2 c5 hc⟩,⟨ud,vd,Zf2 d5 hd⟩,⟨m,hm⟩⟩;rw[b5,<- hb]
end
end Go.Proofs.YtbcejndfbklikaaGreatDoor
section
namespace Go.Am
open Go
section
variable {ρ α β σ:Type} {Q:ρ->Prop}
def Wp (m:Option ρ) (Q:ρ->Prop):Prop:=∃ r,m=some r/\Q r
theorem Wp.mono {m:Option ρ} {Q Q':ρ->Prop} (h:Wp m Q) (hq:∀ r,m=some r->Q r->Q' r):Wp m Q':=by
 obtain⟨r,h1,h2⟩:=h;exact⟨r,h1,hq r h1 h2⟩
theorem Wp.ret {r:ρ} (h:Q r):Wp (some r) Q:=⟨r,rfl,h⟩
theorem Wp.bind {m:Option α} {K:α->Option ρ} {R:α->Prop} (h:Wp m R) (hk:∀ x,m=some x->R x->Wp (K x) Q):Wp (bindK m K) Q:=by
 obtain⟨x,h1,h2⟩:=h;unfold bindK;subst h1;exact hk x rfl h2
theorem Wp.cond {b:Bool} {A B:Option ρ} (h1:b=true->Wp A Q) (h2:b=false->Wp B Q):Wp (cond b A B) Q:=by
 cases b
 .exact h2 rfl
 .exact h1 rfl
theorem Wp.ite {b:Prop} [Decidable b] {A B:Option ρ} (h1:b->Wp A Q) (h2:¬ b->Wp B Q):Wp (if b then A else B) Q:=by
 by_cases hb:b
 .rw[if_pos hb];exact h1 hb
 .rw[if_neg hb];exact h2 hb
theorem Wp.chk {b:Prop} [Decidable b] {m:Option ρ} (hb:b) (h:Wp m Q):Wp (chkK b m) Q:=by
 unfold chkK;rw[if_pos hb];exact h
theorem Wp.get {xs:List α} {i:Int} {K:α->Option ρ} (h0:0<=i) (h1:i < xs.length) (hk:∀ x,xs[i.toNat]? = some x->x ∈ xs->Wp (K x) Q):Wp (getK xs i K) Q:=by
 have hl:i.toNat < xs.length:=by omega
 unfold getK;rw[if_pos h0,Y01 hl];exact hk _ (Y01 hl) (Y0p hl)
theorem Wp.getN {xs:List α} {i:Nat} {x:α} {K:α->Option ρ} (hx:xs[i]? = some x) (hk:Wp (K x) Q):Wp (getK xs (i:Int) K) Q:=by
 unfold getK;rw[if_pos (by omega),show (i:Int).toNat=i by omega,hx];exact hk
theorem Wp.app {xs ys:List α} {K:List α->Option ρ} (h:xs.length+ys.length<=LIM) (hk:Wp (K (xs++ys)) Q):Wp (appK2 xs ys K) Q:=Wp.chk h hk
theorem Wp.for_at {body:Nat->α->σ->(σ->Option ρ)->Option ρ} {k:σ->Option ρ} (ys:List α) (I:Nat->σ->Prop)
  (step:∀ i x s next,ys[i]? = some x->x ∈ ys->I i s->(∀ s',I (i+1) s'->Wp (next s') Q)->Wp (body i x s next) Q) (fin:∀ s,I ys.length s->Wp (k s) Q) :
  ∀ (n i:Nat) (s:σ),i+n=ys.length->I i s->Wp (forK body k (ys.drop i) i s) Q
 | 0,i,s,hn,h0=>by
   have hi:i=ys.length:=by omega
   subst hi;rw[List.drop_length];exact fin s h0
 | n+1,i,s,hn,h0=>by
   have hi:i < ys.length:=by omega
   rw[Y14 hi];exact step i _ s _ (Y01 hi) (Y0p hi) h0 fun s' hs'=>Wp.for_at ys I step fin n (i+1) s' (by omega) hs'
theorem Wp.for {body:Nat->α->σ->(σ->Option ρ)->Option ρ} {k:σ->Option ρ} {xs:List α} {s0:σ} (I:Nat->σ->Prop) (h0:I 0 s0)
  (step:∀ i x s next,xs[i]? = some x->x ∈ xs->I i s->(∀ s',I (i+1) s'->Wp (next s') Q)->Wp (body i x s next) Q) (fin:∀ s,I xs.length s->Wp (k s) Q):Wp (forK body k xs 0 s0) Q:=by
 have:=Wp.for_at xs I step fin xs.length 0 s0 (by omega) h0
 rwa [Y27] at this
theorem Wp.count_at {body:Nat->σ->(σ->Option ρ)->Option ρ} {k:σ->Option ρ} (N:Nat) (I:Nat->σ->Prop)
  (step:∀ i s next,i < N->I i s->(∀ s',I (i+1) s'->Wp (next s') Q)->Wp (body i s next) Q) (fin:∀ s,I N s->Wp (k s) Q) :
  ∀ (n i:Nat) (s:σ),i+n=N->I i s->Wp (countK body k n i s) Q
 | 0,i,s,hn,h0=>by
   have hi:i=N:=by omega
   subst hi;exact fin s h0
 | n+1,i,s,hn,h0=>step i s _ (by omega) h0 fun s' hs'=>Wp.count_at N I step fin n (i+1) s' (by omega) hs'
theorem Wp.count {body:Nat->σ->(σ->Option ρ)->Option ρ} {k:σ->Option ρ} {N:Nat} {s0:σ} (I:Nat->σ->Prop) (h0:I 0 s0)
  (step:∀ i s next,i < N->I i s->(∀ s',I (i+1) s'->Wp (next s') Q)->Wp (body i s next) Q) (fin:∀ s,I N s->Wp (k s) Q):Wp (countK body k N 0 s0) Q:=
 Wp.count_at N I step fin N 0 s0 (by omega) h0
theorem Wp.while {body:σ->(σ->Option ρ)->Option ρ} (I:σ->Prop) (μ:σ->Nat)
  (step:∀ s next,I s->(∀ s',I s'->μ s' < μ s->Wp (next s') Q)->Wp (body s next) Q):∀ (n:Nat) (s:σ),I s->μ s < n->Wp (whileK body n s) Q
 | 0,s,_,h=>by omega
 | n+1,s,hs,h=>step s _ hs fun s' hs' hlt=>Wp.while I μ step n s' hs' (by omega)
def Zip (xs:List α) (f:α->Option Bool) (k:Int):Prop:=(k=-1/\∀ x ∈ xs,f x=some false)\/∃ (i:Nat) (x:α),k=i/\xs[i]? = some x/\f x=some true
theorem Zip.lt {xs:List α} {f:α->Option Bool} {k:Int} (h:Zip xs f k):-1<=k/\k < xs.length:=by
 rcases h with ⟨rfl,_⟩ | ⟨i,x,rfl,hx,_⟩
 .omega
 .have:=(Y00.1 hx).1
  omega
theorem Wp.index {xs:List α} {f:α->Option Bool} (hf:∀ x ∈ xs,Wp (f x) fun _=>True) :
  Wp (forK (fun (i:Nat) (x:α) (s:Unit) next=>bindK (f x) fun v=>bif v then some (i:Int) else next ()) (fun _=>some (-1)) xs 0 ()) (Zip xs f):=by
 refine Wp.for (fun i _=>∀ (j:Nat) (x:α),j < i->xs[j]? = some x->f x=some false) (by intro j x h;omega) ?_ ?_
 .intro i x s next hx hm hI hn;refine Wp.bind (hf x hm) fun b hb _=>Wp.cond ?_ ?_
  .rintro rfl;exact Wp.ret (.inr ⟨i,x,rfl,hx,hb⟩)
  .rintro rfl;refine hn () fun j y hj hy=>?_;rcases Y0t j i with h1 | h1
   .exact hI j y h1 hy
   .obtain rfl:j=i:=by omega
    rw[hx] at hy;cases hy;exact hb
 .intro s hI;refine Wp.ret (.inl ⟨rfl,fun x hx=>?_⟩);obtain⟨j,hj,rfl⟩:=Y1g hx;exact hI j _ hj (Y01 hj)
end
end Go.Am
end
section
attribute [simp] Go.Am.Plan.then_ Go.Am.vcPlan Go.Am.planOps Go.Am.isCallAt Go.Am.callKind
namespace Go.Am
open Go
@[simp ↓ high] theorem Zlx {P:Program} {e:Env} {h:HS} {K:Env->HS->Prop} {d:Option Nat} {t:TypeId} {p:String} {af:Array Edge} {g:Option (Nat × Bool)} {ty:Nat} {x i:Operand}:vcOp P { dst:=d,op:=.indexAddr ty x i,type:=t,pos:=p,after:=af,guard:=g } e h K=optV (idxA (elT P ty) (arT P ty) (e.ev x) (e.ev i)) (k:=⟨fun v=>K (e.put d v) h⟩):=by
 rw[<- Zg7 (h:=h)];exact Ze5
@[simp] theorem Zq7 {α β:Type} {f:α->β} {xs:List α}:List.take xs.length (xs.map f)=xs.map f:=Y0l (by simp)
@[simp] theorem Zsp {l:Lab} {o n c:Nat}:(C.mrow l o n c).list? = none:=rfl
@[simp] theorem le_a2 {a:Nat}:a<=a+1+1:=by omega
@[simp] theorem lt_a2 {a:Nat}:a < a+1+1:=by omega
@[simp] theorem le_a3 {a:Nat}:a<=a+1+1+1:=by omega
@[simp] theorem lt_a3 {a:Nat}:a < a+1+1+1:=by omega
@[simp] theorem le_a4 {a:Nat}:a<=a+1+1+1+1:=by omega
@[simp] theorem lt_a4 {a:Nat}:a < a+1+1+1+1:=by omega
@[simp] theorem le_a5 {a:Nat}:a<=a+1+1+1+1+1:=by omega
@[simp] theorem lt_a5 {a:Nat}:a < a+1+1+1+1+1:=by omega
@[simp] theorem le_a6 {a:Nat}:a<=a+1+1+1+1+1+1:=by omega
@[simp] theorem lt_a6 {a:Nat}:a < a+1+1+1+1+1+1:=by omega
@[simp] theorem le_a7 {a:Nat}:a<=a+1+1+1+1+1+1+1:=by omega
@[simp] theorem lt_a7 {a:Nat}:a < a+1+1+1+1+1+1+1:=by omega
@[simp] theorem le_a8 {a:Nat}:a<=a+1+1+1+1+1+1+1+1:=by omega
@[simp] theorem lt_a8 {a:Nat}:a < a+1+1+1+1+1+1+1+1:=by omega
@[simp] theorem le_a9 {a:Nat}:a<=a+1+1+1+1+1+1+1+1+1:=by omega
@[simp] theorem lt_a9 {a:Nat}:a < a+1+1+1+1+1+1+1+1+1:=by omega
@[simp] theorem le_a10 {a:Nat}:a<=a+1+1+1+1+1+1+1+1+1+1:=by omega
@[simp] theorem lt_a10 {a:Nat}:a < a+1+1+1+1+1+1+1+1+1+1:=by omega
section
variable {ρ α β γ σ:Type}
class Con (m:Option α) (P:Program) (f:FuncId) (av:outParam (List AV)) (er:outParam (α->RV)):Prop where
 h:∀ v,Is m v->PSpec P f av (er v)
instance {m:Option α} {P:Program} {f:FuncId} {av:List AV} {er:α->RV}:CoeFun (Con m P f av er) (fun _=>∀ v,Is m v->PSpec P f av (er v)):=⟨fun i=>i.h⟩
class ConF (m:α->Option β) (P:Program) (aenc:outParam (α->AV)) (er:outParam (β->RV)) (g:outParam FuncId) (caps:outParam (List (List D))):Prop where
 h:∀ x v,Is (m x) v->PSpec P g (aenc x::capsOf caps) (er v)
class ConG (m:α->β->Option γ) (P:Program) (aenc:outParam (α->AV)) (benc:outParam (β->AV)) (er:outParam (γ->RV)) (g:outParam FuncId) (caps:outParam (List (List D))):Prop where
 h:∀ x y v,Is (m x y) v->PSpec P g (aenc x::benc y::capsOf caps) (er v)
theorem i_call {P:Program} {f:FuncId} {vs:List V} {av:List AV} {d:Nat} {e:Env} {h:HS} {Kc:Env->HS->Prop} {er:α->RV} {m:Option α} {K:α->Option ρ} {r:ρ} (hm:Is (bindK m K) r) [i:Con m P f av er] (has:toAs h vs=some av)
  (hk:∀ v,Is (K v) r->Kc (e.put (some d) ((er v).toV h.ep d)) ((h.addFr d (er v).fr).next)):callK P f [] vs d e h (K:=⟨Kc⟩):=
 r_call hm i.h has fun v _ hm=>hk v hm
theorem Zne {P:Program} {g:FuncId} {vs:List V} {aenc:α->AV} {x:α} {caps:List Cap} {cs:List (List D)} {d:Nat} {e:Env} {h:HS} {Kc:Env->HS->Prop} {er:β->RV} {m:α->Option β} {K:β->Option ρ} {r:ρ} (hm:Is (bindK (m x) K) r) [i:ConF m P aenc er g cs] (has:toAs h vs=some [aenc x]) (hcs:capsA h caps=some cs)
  (hk:∀ v,Is (K v) r->Kc (e.put (some d) ((er v).toV h.ep d)) ((h.addFr d (er v).fr).next)):callK P g caps vs d e h (K:=⟨Kc⟩):=
 Zn0 hm (i.h x) has hcs fun v _ hm=>hk v hm
theorem Znd {P:Program} {g:FuncId} {vs:List V} {aenc:α->AV} {benc:β->AV} {x:α} {y:β} {caps:List Cap} {cs:List (List D)} {d:Nat} {e:Env} {h:HS} {Kc:Env->HS->Prop} {er:γ->RV} {m:α->β->Option γ} {K:γ->Option ρ} {r:ρ} (hm:Is (bindK (m x y) K) r) [i:ConG m P aenc benc er g cs] (has:toAs h vs=some [aenc x,benc y]) (hcs:capsA h caps=some cs)
  (hk:∀ v,Is (K v) r->Kc (e.put (some d) ((er v).toV h.ep d)) ((h.addFr d (er v).fr).next)):callK P g caps vs d e h (K:=⟨Kc⟩):=
 Zn0 hm (i.h x y) has hcs fun v _ hm=>hk v hm
theorem Zj3 {α:Type} {c:Prop} [Decidable c] {v:α} {f:α->Prop} (h:c) (hk:f v):optV (if c then some v else none) (k:=⟨f⟩):=by rw[if_pos h];exact hk
theorem Rd.cases {c:C} {xs:List (List D)} (h:Rd c xs):c=.d (.sl xs)\/(∃ l,c=.own l xs)\/(c=.nil/\xs=[])\/(c=.z/\xs=[]):=by
 have h1:=h.1;cases c with
 | d x=>cases x<;>simp[C.list?] at h1;exact .inl (by rw[h1])
 | own l ys=>simp[C.list?] at h1;exact .inr (.inl ⟨l,by rw[h1]⟩)
 | nil=>simp[C.list?] at h1;exact .inr (.inr (.inl ⟨rfl,h1⟩))
 | z=>simp[C.list?] at h1;exact .inr (.inr (.inr ⟨rfl,h1⟩))
 | _=>simp[C.list?] at h1
def Z4s:List Cap->List Lab
 | []=>[]
 | .lab l::cs=>l::Z4s cs
 | _::cs=>Z4s cs
def labsV:V->List Lab
 | .one (.ptr l _)=>[l]
 | .one (.fn _ cs)=>Z4s cs
 | _=>[]
@[simp] theorem Ztg {l:Lab} {o:Nat}:labsV (.one (.ptr l o))=[l]:=rfl
@[simp] theorem Zuh {f:FuncId} {cs:List Cap}:labsV (.one (.fn f cs))=Z4s cs:=rfl
@[simp] theorem Zv9 {x:D}:labsV (.one (.d x))=[]:=rfl
@[simp] theorem Zth {l:Lab} {xs:List (List D)}:labsV (.one (.own l xs))=[]:=rfl
@[simp] theorem Zti:labsV (.one .nil)=[]:=rfl
@[simp] theorem Zv8:labsV (.one .z)=[]:=rfl
@[simp] theorem Zug {ds:List D}:labsV (.one (.rp ds))=[]:=rfl
@[simp] theorem Ztj:labsV (.one .any)=[]:=rfl
@[simp] theorem Zsq {l:Lab} {o n c:Nat}:labsV (.one (.mrow l o n c))=[]:=rfl
@[simp] theorem Ztk {cs:List C}:labsV (.agg cs)=[]:=rfl
@[simp] theorem Zte {vs:List V}:labsV (.tup vs)=[]:=rfl
@[simp] theorem Ztf:labsV .top=[]:=rfl
@[simp] theorem Zru:labsV .undef=[]:=rfl
theorem Rd.labs {c:C} {xs:List (List D)} (h:Rd c xs):labsV (.one c)=[]:=by
 rcases h.cases with rfl | ⟨l,rfl⟩ | ⟨rfl,_⟩ | ⟨rfl,_⟩<;>rfl
inductive Car (σ:Type) where
 | d (t:Nat) (f:σ->D)
 | g (t n:Nat) (f:σ->List (List D))
 | r (t:Nat) (f:σ->List (List D))
def CarOK (e:Env) (h:HS) (s:σ):List C->List (Car σ)->Prop
 | _,[]=>True
 | p,.d t f::cs=>e.get t=.one (.d (f s))/\CarOK e h s p cs
 | p,.g t n f::cs=>∃ c,e.get t=.one c/\Grows h n c (f s)/\(∀ c' ∈ p,Apart c' c)/\CarOK e h s (c::p) cs
 | p,.r t f::cs=>∃ c,e.get t=.one c/\Rd c (f s)/\CarOK e h s p cs
def CarUse (e:Env) (h:HS) (s:σ):List C->List (Car σ)->Prop
 | _,[]=>True
 | p,.d t f::cs=>e.get t=.one (.d (f s))/\CarUse e h s p cs
 | p,.g t n f::cs=>∃ c,e.get t=.one c/\Rd c (f s)/\Grows h n c (f s)/\c.list? = some (f s)/\c.toD=some (.sl (f s))/\(∀ h,c.toA h=some (.d (.sl (f s))))/\(∀ (h':HS) (l:Lab),h.ep<=l.1->(C.useUp h' c).arr l=h'.arr l)/\labsV (.one c)=[]/\(∀ (l:Lab) (ys:List (List D)),h.ep<=l.1->Apart (.own l ys) c/\Apart c (.own l ys))/\(∀ c' ∈ p,Apart c' c)/\CarUse e h s (c::p) cs
 | p,.r t f::cs=>∃ c,e.get t=.one c/\Rd c (f s)/\c.list? = some (f s)/\c.toD=some (.sl (f s))/\(∀ h,c.toA h=some (.d (.sl (f s))))/\labsV (.one c)=[]/\CarUse e h s p cs
theorem CarOK.use {e:Env} {h:HS} {s:σ}:∀ {cs:List (Car σ)} {p:List C},CarOK e h s p cs->CarUse e h s p cs
 | [],_,_=>trivial
 | .d _ _::_,_,h=>⟨h.1,h.2.use⟩
 | .g _ _ _::_,_,⟨c,h1,h2,h3,h4⟩=>⟨c,h1,h2.rd,h2,h2.list,h2.toD,h2.toA,h2.useUp_arr,h2.rd.labs,fun _ _ hl=>⟨h2.apart hl,(h2.apart hl).symm⟩,h3,h4.use⟩
 | .r _ _::_,_,⟨c,h1,h2,h4⟩=>⟨c,h1,h2,h2.1,h2.2.1,h2.2.2,h2.labs,h4.use⟩
def Keep (e e':Env):List Nat->Prop
 | []=>e'.n=e.n
 | t::ts=>e'.get t=e.get t/\Keep e e' ts
theorem Z3d {caps:List (List D)}:Z4s (caps.map Cap.rp)=[]:=by
 induction caps with
 | nil=>rfl
 | cons c cs ih=>exact ih
def AllL (p:Lab->Prop):List Lab->Prop
 | []=>True
 | l::ls=>p l/\AllL p ls
theorem AllL.imp {p q:Lab->Prop} (h:∀ l,p l->q l):∀ {ls:List Lab},AllL p ls->AllL q ls
 | [],_=>trivial
 | l::_,a=>⟨h l a.1,a.2.imp h⟩
def LtB (e:Env) (h:HS):List Nat->Prop
 | []=>True
 | t::ts=>AllL (fun l=>l.1 < h.ep) (labsV (e.get t))/\LtB e h ts
def KeepB (e:Env) (h h':HS):List Nat->Prop
 | []=>True
 | t::ts=>AllL (fun l=>h'.box l=h.box l) (labsV (e.get t))/\KeepB e h h' ts
theorem LtB.keep {e:Env} {h h':HS} (hb:∀ l:Lab,l.1 < h.ep->h'.box l=h.box l):∀ {ts:List Nat},LtB e h ts->KeepB e h h' ts
 | [],_=>trivial
 | _::_,a=>⟨a.1.imp hb,a.2.keep hb⟩
def HF (h h':HS):Prop:=h.ep<=h'.ep/\∀ l:Lab,l.1 < h.ep->h'.box l=h.box l
theorem HF.refl {h:HS}:HF h h:=⟨Y09 _,fun _ _=>rfl⟩
theorem HF.tr {h0 h1 h:HS} (b:HF h1 h) (a:HF h0 h1):HF h0 h:=⟨Y0y a.1 b.1,fun l hl=>(b.2 l (Y04 hl a.1)).trans (a.2 l hl)⟩
theorem HF.next {h h':HS} (a:HF h h'):HF h h'.next:=⟨Nat.le_succ_of_le a.1,a.2⟩
theorem HF.setArr {h h':HS} {l:Lab} {x:Option (Nat × Nat)} (a:HF h h'):HF h (h'.setArr l x):=a
theorem HF.useUp {h h':HS} {c:C} (a:HF h h'):HF h (C.useUp h' c):=by cases c<;>exact a
theorem HF.addFr {h:HS} {d:Nat}:∀ {x:List (Nat × Nat × Nat)} {h':HS},HF h h'->HF h (h'.addFr d x)
 | [],_,a=>a
 | (j,es,n)::r,h',a=>HF.addFr (x:=r) (h':=h'.setArr (h'.ep,16 * d+j+1) (some (n,es))) a
theorem HF.setBox {h h':HS} {l:Lab} {cs:List C} (a:HF h h') (hl:h.ep<=l.1):HF h (h'.setBox l cs):=⟨a.1,fun k hk=>by
 have:k≠l:=by rintro rfl;omega
 simp[HS.setBox,this];exact a.2 k hk⟩
inductive LH (ctr:Nat) (keep:List Nat) (cars:List (Car σ)):Prop where
 | intro
def ctrOf:Code->Nat
 | .seq a _=>ctrOf a
 | .region _ ops _=>match ops.toList with
   | o::_=>match o.op with
     | .binOp _ _ (.tmp t) _ _=>t
     | _=>0
   | []=>0
 | _=>0
def LR (keep:List Nat) (cars:List (Car σ)) (e:Env) (h:HS) (s:σ) (e':Env) (h':HS):Prop:=Keep e e' keep/\HF h h'/\CarOK e' h' s [] cars
theorem Wait.forH {P:Program} {c:Code} {Q:Exit->Env->HS->Prop} {e:Env} {h:HS} {xs:List α} {s0:σ} {body:Nat->α->σ->(σ->Option ρ)->Option ρ} {k:σ->Option ρ} {r:ρ} {ctr:Nat} {keep:List Nat} {cars:List (Car σ)} (_:LH ctr keep cars)
  (_:ctrOf c=ctr) (hm:Is (forK body k xs 0 s0) r) (hl:xs.length<=LIM) (h1:e.get ctr=.one (.d (.int .i64 0))) (h0:CarOK e h s0 [] cars) (hB:LtB e h keep)
  (round:∀ (i:Nat) (s:σ) (e':Env) (h':HS),Keep e e' keep->e'.get ctr=.one (.d (.int .i64 (i:Int)))->CarUse e' h' s [] cars->KeepB e h h' keep->HF h h'->h.ep<=h'.ep->(∀ l:Lab,l.1 < h.ep->h'.box l=h.box l)->i < xs.length->IntKind.i64.wrap ((i:Int)+1)=(i:Int)+1->∀ hlt:i < xs.length,Is (body i xs[i] s (fun s'=>forK body k (xs.drop (i+1)) (i+1) s')) r ->
   vc P c (thenQ (fun e' h'=>BackF (I:=⟨fun s' e' h'=>(e'.get ctr=.one (.d (.int .i64 ((i+1:Nat):Int)))/\LR keep cars e h s' e' h')/\Is (forK body k (xs.drop (i+1)) (i+1) s') r⟩) e' h') Q) e' h')
  (fin:∀ (s:σ) (e':Env) (h':HS),Keep e e' keep->e'.get ctr=.one (.d (.int .i64 (xs.length:Int)))->CarUse e' h' s [] cars->KeepB e h h' keep->HF h h'->h.ep<=h'.ep->(∀ l:Lab,l.1 < h.ep->h'.box l=h.box l)->Is (k s) r->vc P c (thenQ (fun _ _=>Never) Q) e' h') :
  Wait P (c:=⟨.loop c⟩) (Q:=⟨Q⟩) e h:=by
 have hk:∀ ts,Keep e e ts:=by intro ts;induction ts with | nil=>rfl | cons t ts ih=>exact⟨rfl,ih⟩
 refine Wait.for (fun i s e' h'=>e'.get ctr=.one (.d (.int .i64 (i:Int)))/\LR keep cars e h s e' h') hm ⟨h1,hk _,.refl,h0⟩ ?_ ?_
 .rintro i s e' h' ⟨hc,h2,h3,h4⟩ hlt hm;exact round i s e' h' h2 hc h4.use (hB.keep h3.2) h3 h3.1 h3.2 hlt (Y0a _ (by have hl':xs.length<=2097152:=hl;omega)) hlt hm
 .rintro s e' h' ⟨hc,h2,h3,h4⟩ hm;exact fin s e' h' h2 hc h4.use (hB.keep h3.2) h3 h3.1 h3.2 hm
theorem Wait.countH {P:Program} {c:Code} {Q:Exit->Env->HS->Prop} {e:Env} {h:HS} {N:Int} {s0:σ} {body:Nat->σ->(σ->Option ρ)->Option ρ} {k:σ->Option ρ} {r:ρ} {ctr:Nat} {keep:List Nat} {cars:List (Car σ)} (_:LH ctr keep cars)
  (_:ctrOf c=ctr) (hm:Is (countK body k N.toNat 0 s0) r) (h1:e.get ctr=.one (.d (.int .i64 0))) (h0:CarOK e h s0 [] cars) (hB:LtB e h keep)
  (round:∀ (i:Nat) (s:σ) (e':Env) (h':HS),Keep e e' keep->e'.get ctr=.one (.d (.int .i64 (i:Int)))->CarUse e' h' s [] cars->KeepB e h h' keep->HF h h'->h.ep<=h'.ep->(∀ l:Lab,l.1 < h.ep->h'.box l=h.box l)->(i:Int) < N->Is (body i s (fun s'=>countK body k (N.toNat - (i+1)) (i+1) s')) r ->
   vc P c (thenQ (fun e' h'=>BackF (I:=⟨fun s' e' h'=>(e'.get ctr=.one (.d (.int .i64 ((i+1:Nat):Int)))/\LR keep cars e h s' e' h')/\Is (countK body k (N.toNat - (i+1)) (i+1) s') r⟩) e' h') Q) e' h')
  (fin:∀ (i:Nat) (s:σ) (e':Env) (h':HS),Keep e e' keep->e'.get ctr=.one (.d (.int .i64 (i:Int)))->CarUse e' h' s [] cars->KeepB e h h' keep->HF h h'->h.ep<=h'.ep->(∀ l:Lab,l.1 < h.ep->h'.box l=h.box l)->¬ (i:Int) < N->Is (k s) r->vc P c (thenQ (fun _ _=>Never) Q) e' h') :
  Wait P (c:=⟨.loop c⟩) (Q:=⟨Q⟩) e h:=by
 have hk:∀ ts,Keep e e ts:=by intro ts;induction ts with | nil=>rfl | cons t ts ih=>exact⟨rfl,ih⟩
 refine Wait.count (fun i s e' h'=>e'.get ctr=.one (.d (.int .i64 (i:Int)))/\LR keep cars e h s e' h') hm ⟨h1,hk _,.refl,h0⟩ ?_ ?_
 .rintro i s e' h' ⟨hc,h2,h3,h4⟩ hlt hm;exact round i s e' h' h2 hc h4.use (hB.keep h3.2) h3 h3.1 h3.2 hlt hm
 .rintro i s e' h' ⟨hc,h2,h3,h4⟩ hge hm;exact fin i s e' h' h2 hc h4.use (hB.keep h3.2) h3 h3.1 h3.2 hge hm
theorem Wait.whileH {P:Program} {c:Code} {Q:Exit->Env->HS->Prop} {e:Env} {h:HS} {m:Nat} {s0:σ} {body:σ->(σ->Option ρ)->Option ρ} {r:ρ} {keep:List Nat} {cars:List (Car σ)} (_:LH 0 keep cars)
  (hm:Is (whileK body m s0) r) (h0:CarOK e h s0 [] cars) (hB:LtB e h keep)
  (round:∀ (n:Nat) (s:σ) (e':Env) (h':HS),Keep e e' keep->CarUse e' h' s [] cars->KeepB e h h' keep->HF h h'->h.ep<=h'.ep->(∀ l:Lab,l.1 < h.ep->h'.box l=h.box l)->Is (body s (fun s'=>whileK body n s')) r ->
   vc P c (thenQ (fun e' h'=>BackF (I:=⟨fun s' e' h'=>LR keep cars e h s' e' h'/\Is (whileK body n s') r⟩) e' h') Q) e' h') :
  Wait P (c:=⟨.loop c⟩) (Q:=⟨Q⟩) e h:=by
 have hk:∀ ts,Keep e e ts:=by intro ts;induction ts with | nil=>rfl | cons t ts ih=>exact⟨rfl,ih⟩
 refine Wait.while (fun s e' h'=>LR keep cars e h s e' h') hm ⟨hk _,.refl,h0⟩ ?_;rintro n s e' h' ⟨h2,h3,h4⟩ hm;exact round n s e' h' h2 h4.use (hB.keep h3.2) h3 h3.1 h3.2 hm
theorem BackF.lr {A:σ->Env->HS->Prop} {G:σ->Prop} {s:σ} {e':Env} {h':HS} (hm:G s) (hA:A s e' h'):BackF (I:=⟨fun s e h=>A s e h/\G s⟩) e' h':=⟨s,hA,hm⟩
inductive PH (ids:List Nat) (p:Plan):Prop where
 | intro
theorem Wait.drawH {P:Program} {id:Nat} {ops:Array Oper} {Q:Exit->Env->HS->Prop} {e:Env} {h:HS} {ids:List Nat} {plan:Plan} (_:PH ids plan) (_:id ∈ ids) (hB:planB .any ops plan ops.size (Array.replicate ops.size false)=true) (hm:P.follows .mixedOrders=true)
  (hv:vcPlan P ops.toList (Q .normal) plan e h):Wait P (c:=⟨.region id ops true⟩) (Q:=⟨Q⟩) e h:=Wait.of (SWP.draw plan hm hB hv)
class ElT (P:Program) (ty:TypeId) (el es by_:outParam Nat):Prop where
 h:elT P ty=some (el,es,by_)
class EncE (α:Type) (enc:outParam (α->List D)) (n:outParam Nat):Prop where
 h:∀ y,(enc y).length=n
theorem i_app {P:Program} {ty el:TypeId} {es by_ d:Nat} {c x:C} {h:HS} {Kc:V->HS->Prop} {K:List α->Option ρ} {r:ρ} {enc:α->List D} {xs ys:List α} (hm:Is (appK2 xs ys K) r) [i:ElT P ty el es by_] [j:EncE α enc es] (hc:Grows h es c (xs.map enc)) (hx:x.list? = some (ys.map enc))
  (h0:0 < es/\by_<=4096)
  (hk:xs.length+ys.length<=LIM->Is (K (xs++ys)) r->Grows (((c.useUp h).setArr (h.ep,16 * d) (some ((xs++ys).length,es))).next) es (.own (h.ep,16 * d) ((xs++ys).map enc)) ((xs++ys).map enc) ->
   Kc (.one (.own (h.ep,16 * d) ((xs++ys).map enc))) (((c.useUp h).setArr (h.ep,16 * d) (some ((xs++ys).length,es))).next)):appK P ty c x d h (K:=⟨Kc⟩):=
 r_app hm i.h hc hx h0.1 h0.2 j.h hk
theorem ret_m {P:Program} {rs:List ResultVar} {r:RV} {e:Env} {h:HS} (hm:optV (resVs P e h rs) (k:=⟨fun vs=>RetAll h (fun _=>none) vs r⟩)):retOK P rs r e h:=by
 cases hv:resVs P e h rs with
 | none=>rw[hv] at hm;exact hm.elim
 | some vs=>rw[hv] at hm;exact ret0 hv hm
theorem go {m:Option α} {P:Program} {f:FuncId} {fn:Func} {c:Code} {av:List AV} {er:α->RV} {rs:List ResultVar} (n:Nat) (hf:P.funcs[f]? = some fn) (hb:fn.body=some c) (hnm:(fn.name == "runtime.NumGoroutine")=false) (hn:fn.ntmps=n) (hrs:fn.results.toList=rs) (has:av.length<=n)
  (hv:∀ r,Is m r->vc P c (retQ P rs (er r)) (env0 n av) HS.init:=by
   intro r hm
   try simp (maxSteps:=1000000) [*]
   repeat' (first
    | (with_reducible have hq:=r_ret hm
       obtain rfl:=hq
       first
       | (refine ret_m ?_;simp (maxSteps:=1000000) [*];done)
       | (refine Z4u ?_;simp (maxDischargeDepth:=20) (maxSteps:=1000000) [*,GrowsV];done)
       | (refine Z4u ⟨_,?_,Grows.nil⟩;simp (maxSteps:=1000000) [*];done))
    | ((with_reducible refine r_cond hm ?_ ?_)<;>(clear hm;intro hc hm;try simp (maxSteps:=1000000) [*]))
    | (with_reducible have hq:=Is.bind hm
       clear hq;refine i_call hm ?_ ?_
       .simp (maxSteps:=1000000) [*];done
       clear hm;intro v hm;try simp (maxSteps:=1000000) [*])
    | (with_reducible intro hl
       try simp only[Y0z] at hl
       try simp (maxSteps:=1000000) [*])
    | (with_reducible have hq:=Is.getN hm
       clear hm;obtain⟨x,hx,hm⟩:=hq
       try simp (maxSteps:=1000000) [*])
    | (with_reducible have hq:=Is.get hm
       clear hm;obtain⟨x,h0,hx,hm⟩:=hq
       try simp at h0
       try simp at hx
       try simp (maxSteps:=1000000) [*])
    | (with_reducible have hq:=Is.app hm
       clear hq;refine i_app hm ?_ ?_ ?_ ?_
       .first
        | exact Grows.nil
        | (simp (maxDischargeDepth:=20) (maxSteps:=1000000) [*];done)
       .simp (maxSteps:=1000000) [*];done
       .decide
       clear hm;intro hl hm g;try simp (maxSteps:=1000000) [*])
    | (with_reducible have hq:=Is.chk hm
       clear hm;obtain⟨hw,hm⟩:=hq
       first
       | replace hw:=Zf4 hw
       | (obtain⟨ha,hb,hd⟩:=hw
          have he:=hb
          try simp at he
          have hf:=hd
          try simp at hf)
       | (have hw2:=hw
          try simp at hw2)
       try simp (maxSteps:=1000000) [*])
    | ((with_reducible refine Zj2 hm ?_ ?_)<;>(clear hm;intro hc hm;try simp (maxSteps:=1000000) [*]))
    | ((with_reducible refine Zb5 hm ?_ ?_)<;>(clear hm;intro hc hm;try simp (maxSteps:=1000000) [*]))
    | (with_reducible have hq:=Is.bind hm
       clear hq;refine Zne hm ?_ ?_ ?_
       .simp (maxSteps:=1000000) [*];done
       .simp (maxSteps:=1000000) [*];done
       clear hm;intro v hm;try simp (maxSteps:=1000000) [*])
    | (with_reducible have hq:=Is.bind hm
       clear hq;refine Znd hm ?_ ?_ ?_
       .simp (maxSteps:=1000000) [*];done
       .simp (maxSteps:=1000000) [*];done
       clear hm;intro v hm;try simp (maxSteps:=1000000) [*])
    | (with_reducible have hq:=Is.chr hm
       clear hm;obtain⟨y,h0,hx,hm⟩:=hq
       try simp (maxSteps:=1000000) [*])
    | (refine BackF.lr hm ⟨?_,?_,?_,?_⟩
       .simp (maxSteps:=1000000) [*];done
       .simp (maxSteps:=1000000) [Keep, *];done
       .repeat' (first | with_reducible exact HF.refl | with_reducible refine HF.next ?_ | with_reducible refine HF.setArr ?_ | with_reducible refine HF.useUp ?_ | with_reducible refine HF.addFr ?_ | with_reducible refine HF.setBox ?_ ?_ | assumption | (apply HF.tr;assumption) | (simp (maxSteps:=1000000) [*];done) | (simp (maxSteps:=1000000) [*];omega))
       .simp (maxDischargeDepth:=20) (maxSteps:=1000000) [*,CarOK];done)
    | (refine BackF.lr hm ⟨?_,?_,?_⟩
       .simp (maxSteps:=1000000) [Keep, *];done
       .repeat' (first | with_reducible exact HF.refl | with_reducible refine HF.next ?_ | with_reducible refine HF.setArr ?_ | with_reducible refine HF.useUp ?_ | with_reducible refine HF.addFr ?_ | with_reducible refine HF.setBox ?_ ?_ | assumption | (apply HF.tr;assumption) | (simp (maxSteps:=1000000) [*];done) | (simp (maxSteps:=1000000) [*];omega))
       .simp (maxDischargeDepth:=20) (maxSteps:=1000000) [*,CarOK];done)
    | ((first | refine Wait.forH l1 rfl hm ?_ ?_ ?_ ?_ ?_ ?_ | refine Wait.forH l2 rfl hm ?_ ?_ ?_ ?_ ?_ ?_ | refine Wait.forH l3 rfl hm ?_ ?_ ?_ ?_ ?_ ?_ | refine Wait.forH l4 rfl hm ?_ ?_ ?_ ?_ ?_ ?_ | refine Wait.forH l5 rfl hm ?_ ?_ ?_ ?_ ?_ ?_ | refine Wait.forH l6 rfl hm ?_ ?_ ?_ ?_ ?_ ?_)
       .first | assumption | omega | (simp at *;omega)
       .simp (maxSteps:=1000000) [*];done
       .simp (maxDischargeDepth:=20) (maxSteps:=1000000) [*,CarOK];done
       .simp (maxSteps:=1000000) [LtB,AllL,Z3d,Z4s, *]<;>omega
       all_goals first
        | (skip
           clear hm
           with_reducible intro i s e h hk hct hcu hkb hhf hep hbx hlt0 hw hlt hm
           try simp only[CarUse] at hcu
           repeat obtain⟨_,hcu⟩:=hcu
           try simp only[Keep] at hk
           try simp (maxSteps:=1000000) [*] at hk
           have hep':=hep
           try simp at hep'
           try simp (maxSteps:=1000000) [KeepB,AllL,Z3d,Z4s, *] at hkb
           try simp (maxSteps:=1000000) [*])
        | (skip
           clear hm
           with_reducible intro s e h hk hct hcu hkb hhf hep hbx hm
           try simp only[CarUse] at hcu
           repeat obtain⟨_,hcu⟩:=hcu
           try simp only[Keep] at hk
           try simp (maxSteps:=1000000) [*] at hk
           have hep':=hep
           try simp at hep'
           try simp (maxSteps:=1000000) [KeepB,AllL,Z3d,Z4s, *] at hkb
           try simp (maxSteps:=1000000) [*]))
    | ((first | refine Wait.countH l1 rfl hm ?_ ?_ ?_ ?_ ?_ | refine Wait.countH l2 rfl hm ?_ ?_ ?_ ?_ ?_ | refine Wait.countH l3 rfl hm ?_ ?_ ?_ ?_ ?_ | refine Wait.countH l4 rfl hm ?_ ?_ ?_ ?_ ?_ | refine Wait.countH l5 rfl hm ?_ ?_ ?_ ?_ ?_ | refine Wait.countH l6 rfl hm ?_ ?_ ?_ ?_ ?_)
       .simp (maxSteps:=1000000) [*];done
       .simp (maxDischargeDepth:=20) (maxSteps:=1000000) [*,CarOK];done
       .simp (maxSteps:=1000000) [LtB,AllL,Z3d,Z4s, *]<;>omega
       all_goals
         clear hm
         with_reducible intro i s e h hk hct hcu hkb hhf hep hbx hlt hm
         try simp only[CarUse] at hcu
         repeat obtain⟨_,hcu⟩:=hcu
         try simp only[Keep] at hk
         try simp (maxSteps:=1000000) [*] at hk
         have hep':=hep
         try simp at hep'
         try simp (maxSteps:=1000000) [KeepB,AllL,Z3d,Z4s, *] at hkb
         try simp (maxSteps:=1000000) [*]
         first
         | (have hq:(i:Int) < _:=hlt
            refine Z4d (fun _=>?_) (fun hn=>absurd ?_ hn);rotate_left
            .first | omega | (simp at hlt |-;omega) | (simp at hlt |-;split at hlt<;>split<;>omega)
            simp (maxSteps:=1000000) [*])
         | (have hq:¬ (i:Int) < _:=hlt
            refine Z4d (fun hn=>absurd hn ?_) (fun _=>?_)
            .first | omega | (intro hn;simp at hlt hn;omega) | (intro hn;simp at hlt hn;split at hlt<;>split at hn<;>omega)
            simp (maxSteps:=1000000) [*])
         | skip)
    | ((first | refine Wait.whileH l1 hm ?_ ?_ ?_ | refine Wait.whileH l2 hm ?_ ?_ ?_ | refine Wait.whileH l3 hm ?_ ?_ ?_ | refine Wait.whileH l4 hm ?_ ?_ ?_ | refine Wait.whileH l5 hm ?_ ?_ ?_ | refine Wait.whileH l6 hm ?_ ?_ ?_)
       .simp (maxDischargeDepth:=20) (maxSteps:=1000000) [*,CarOK];done
       .simp (maxSteps:=1000000) [LtB,AllL,Z3d,Z4s, *]<;>omega
       clear hm
       with_reducible intro n s e h hk hcu hkb hhf hep hbx hm
       try simp only[CarUse] at hcu
       repeat obtain⟨_,hcu⟩:=hcu
       try simp only[Keep] at hk
       try simp (maxSteps:=1000000) [*] at hk
       have hep':=hep
       try simp at hep'
       try simp (maxSteps:=1000000) [KeepB,AllL,Z3d,Z4s, *] at hkb
       try simp (maxSteps:=1000000) [*])
    | (first
       | (refine Wait.drawH p1 ?_ (by kernel_rfl) follows ?_
          .decide)
       | (refine Wait.drawH p2 ?_ (by kernel_rfl) follows ?_
          .decide)
       | (refine Wait.drawH p3 ?_ (by kernel_rfl) follows ?_
          .decide)
       | (refine Wait.drawH p4 ?_ (by kernel_rfl) follows ?_
          .decide)
       | (refine Wait.drawH p5 ?_ (by kernel_rfl) follows ?_
          .decide)
       | (refine Wait.drawH p6 ?_ (by kernel_rfl) follows ?_
          .decide)
       | (refine Wait.drawH p7 ?_ (by kernel_rfl) follows ?_
          .decide)
       | (refine Wait.drawH p8 ?_ (by kernel_rfl) follows ?_
          .decide)
       try simp (maxSteps:=1000000) [*])
    | (refine⟨fun (_:Lab) (_:List C) hl=>hl,?_⟩;try simp (maxSteps:=1000000) [*])
    | (refine And.intro ?_ ?_<;>try simp (maxSteps:=1000000) [*])
    | (refine Z7g (by simp) ?_;try simp (maxSteps:=1000000) [*])
    | (refine Zfv (by assumption) (fun hl=>?_);try simp only[Y0z] at hl
       try simp (maxSteps:=1000000) [*])
    | (refine Zj3 ?_ ?_
       .omega
       try simp (maxSteps:=1000000) [*])
    | (rcases Rd.cases (by assumption) with hz | ⟨l,hz⟩ | ⟨hz,hy⟩ | ⟨hz,hy⟩
       all_goals
        subst hz
        first
        | (simp_all;done)
        | (try simp (maxSteps:=1000000) [*])))):Con m P f av er:=
 ⟨fun r hm=>PSpec.of_vc hf hb hnm hn hrs has (hv r hm)⟩
end
end Go.Am
end
namespace Go.Proofs.YtbcejndfbklikaaGreatDoor
section
open Go.Am
instance:ElT prog 22 100 3 64:=⟨Zd6⟩
instance:ElT prog 23 120 3 56:=⟨Zd5⟩
instance:ElT prog 24 118 7 80:=⟨Zac⟩
instance:ElT prog 27 90 2 32:=⟨Zmq⟩
instance:ElT prog 30 45 1 24:=⟨Zff⟩
instance:ElT prog 31 30 1 24:=⟨Zfe⟩
instance:ElT prog 34 76 4 72:=⟨Zmp⟩
instance:ElT prog 44 62 2 40:=⟨Zmo⟩
instance:ElT prog 45 62 2 40:=⟨Zab⟩
instance:ElT prog 52 37 1 8:=⟨Zmn⟩
instance:ElT prog 60 74 1 24:=⟨Z3e⟩
instance:ElT prog 66 70 2 16:=⟨Zmm⟩
instance:ElT prog 73 115 3 32:=⟨Zhy⟩
instance:ElT prog 74 115 3 32:=⟨Z4y⟩
instance:ElT prog 83 26 3 72:=⟨Zbj⟩
instance:ElT prog 87 122 24 352:=⟨Zml⟩
instance:ElT prog 88 122 24 352:=⟨Zmk⟩
instance:ElT prog 97 113 3 32:=⟨Z97⟩
instance:ElT prog 98 3 1 8:=⟨Z96⟩
instance:ElT prog 106 4 1 1:=⟨Ziw⟩
instance:ElT prog 155 159 2 16:=⟨Zcs⟩
instance:ElT prog 194 5 1 1:=⟨Ziv⟩
instance:ElT prog 248 9 1 16:=⟨Ziu⟩
instance:EncE Int encI 1:=⟨fun _=>rfl⟩
instance:EncE Bool encB 1:=⟨fun _=>rfl⟩
instance:EncE ByteArray encS 1:=⟨fun _=>rfl⟩
instance {α:Type} {f:α->List D} {n:Nat} [EncE α f n]:EncE (List α) (encL f) 1:=⟨fun _=>rfl⟩
instance:EncE Sch Sch.enc 3:=⟨fun _=>rfl⟩
instance:EncE Gr Gr.enc 4:=⟨fun _=>rfl⟩
instance:EncE Db Db.enc 2:=⟨fun _=>rfl⟩
instance:EncE Rel Rel.enc 2:=⟨fun _=>rfl⟩
instance:EncE Wr Wr.enc 2:=⟨fun _=>rfl⟩
instance:EncE Rej Rej.enc 2:=⟨fun _=>rfl⟩
instance:EncE Chg Chg.enc 4:=⟨fun _=>rfl⟩
instance:EncE Edg Edg.enc 2:=⟨fun _=>rfl⟩
instance:EncE Tbl Tbl.enc 3:=⟨fun _=>rfl⟩
instance:EncE Col Col.enc 3:=⟨fun _=>rfl⟩
instance:EncE GV GV.enc 3:=⟨fun _=>rfl⟩
instance:EncE Cons Cons.enc 7:=⟨fun _=>rfl⟩
instance:EncE Fk Fk.enc 3:=⟨fun _=>rfl⟩
instance:EncE Stp Stp.enc 24:=⟨fun _=>rfl⟩
instance:EncE Hop Hop.enc 2:=⟨fun _=>rfl⟩
end
section
open Go Go.Am Go.RowKit
def Z6j (c : UInt8) : Bool := (decide (97 ≤ c.toNat) && decide (c.toNat ≤ 122)) || (decide (48 ≤ c.toNat) && decide (c.toNat ≤ 57))
def Z4t (s : ByteArray) : Bool := decide (1 ≤ s.size) && decide (s.size ≤ 12) && !(decide (48 ≤ (s.data.toList.headD 0).toNat) && decide ((s.data.toList.headD 0).toNat ≤ 57)) && s.data.toList.all Z6j
theorem Zil (w : World) (e : TypeId) (s : ByteArray) : Below w.heap.size w (Lib.bytesWorld w e s) := by
  have h1 : (Lib.bytesWorld w e s).heap.size = w.heap.size + 1 := Lib.bytesWorld_size w e s
  refine ⟨?_, ?_, ?_, by omega, fun k hk => Lib.bytesWorld_at_old w e s k hk⟩ <;> simp [Lib.bytesWorld, World.freeze, World.alloc, World.drew, -World.alloc_eq, -World.drew_eq]
theorem Znu {s : ByteArray} {k : Nat} (hk : k < s.size) (hf : Z6j s[k] = false) : s.data.toList.all Z6j = false := by
  rw [List.all_eq_false]
  exact ⟨s[k], by obtain ⟨⟨l⟩⟩ := s; exact Y0p hk, by simpa using hf⟩
theorem Zq3 {s : ByteArray} (h : ∀ k (hk : k < s.size), Z6j s[k] = true) : s.data.toList.all Z6j = true := by
  rw [Y1a]
  intro x hx
  obtain ⟨⟨l⟩⟩ := s
  obtain ⟨k, hk, rfl⟩ := Y1g hx
  exact h k hk
set_option maxRecDepth 100000 in
set_option maxHeartbeats 1000000 in
theorem Zdy (s : ByteArray) (w : World) : Calls prog 95 #[.string s] w fun e w' => e = .returned (.bool (Z4t s)) ∧ Below w.heap.size w w' := by
  have U9 : prog.underlying 9 = some .string := by kernel_rfl
  have U193 : prog.underlying 194 = some (.slice 5) := by kernel_rfl
  have U5 : prog.underlying 5 = some (.int .u8) := by kernel_rfl
  have kc : ∀ w : World, (convert 9 194 (.string s)).run prog w = .ok (.slice (some ⟨w.heap.size, 0, none⟩) s.size (grownCap w s.size 0 5)) (Lib.bytesWorld w 5 s) := fun w => Lib.run_convert_string_bytes w 9 194 5 s U9 U193 U5
  by_cases h1 : (s.size : Int) < 1
  · have hv : Z4t s = false := by simp [Z4t]; omega
    rw [hv]
    go_enter Tryz.func95, Tryz.ntmps95
    go_wp2
    go_ret
    exact ⟨rfl, Below.refl _ _⟩
  by_cases h2 : 12 < (s.size : Int)
  · have hv : Z4t s = false := by simp [Z4t]; omega
    rw [hv]
    go_enter Tryz.func95, Tryz.ntmps95
    go_wp2
    go_ret
    exact ⟨rfl, Below.refl _ _⟩
  have hlt : 0 < s.size := by omega
  have hb : Below w.heap.size w (Lib.bytesWorld w 5 s) := Zil w 5 s
  have hcells : ∀ k (hk : k < s.size), (Lib.bytesWorld w 5 s).cell? ⟨w.heap.size, k, none⟩ = some (.int .u8 s[k].toNat) := fun k hk => by
    rw [Lib.bytesWorld_cell w 5 s k hk]
    simp [List.getD_eq_getElem?_getD, hk]
    rfl
  have hhead : s.data.toList.headD 0 = s[0] := by
    obtain ⟨⟨l⟩⟩ := s
    cases l with
    | nil => simp [ByteArray.size] at hlt
    | cons c l => rfl
  have first : (48 ≤ (s[0].toNat : Int) ∧ (s[0].toNat : Int) ≤ 57) → Z4t s = false := fun h => by
    have h5 : 48 ≤ s[0].toNat ∧ s[0].toNat ≤ 57 := by omega
    simp only [Z4t, hhead, h5.1, h5.2]
    simp
  have rest : ¬ (48 ≤ (s[0].toNat : Int) ∧ (s[0].toNat : Int) ≤ 57) → Z4t s = s.data.toList.all Z6j := fun h => by
    have e1 : decide (1 ≤ s.size) = true := by simp; omega
    have e2 : decide (s.size ≤ 12) = true := by simp; omega
    have e3 : (decide (48 ≤ s[0].toNat) && decide (s[0].toNat ≤ 57)) = false := by
      rw [Bool.and_eq_false_iff]; simp; omega
    simp only [Z4t, hhead, e1, e2, e3]
    simp
  have F := Lib.hid first
  have RS := Lib.hid rest
  have HC := Lib.hid hcells
  have HH := Lib.hid hhead
  have HB := Lib.hid hb
  clear first rest hcells hhead hb
  go_enter Tryz.func95, Tryz.ntmps95
  go_wp2
  · have h5 : 48 ≤ (s[0].toNat : Int) := by assumption
    have h6 : (s[0].toNat : Int) ≤ 57 := by assumption
    have h7 := Lib.hid (F.out ⟨h5, h6⟩)
    go_ret
    exact ⟨by rw [h7.out]; rfl, Below.refl _ _⟩
  all_goals
    have hr := RS.out (by omega)
    have HR := Lib.hid hr
    clear hr
    go_loop [26] (fun i => ∃ k : Nat, k ≤ s.size ∧ i = .int .i64 k ∧ ∀ j (hj : j < s.size), j < k → Z6j s[j] = true) (fun i => s.size - (intOf i).toNat)
    case atStart => exact ⟨0, Nat.zero_le _, rfl, fun j hj h => by omega⟩
    case round =>
      obtain ⟨k, hk, rfl, hall⟩ := hrel
      have HA := Lib.hid hall
      clear hall
      by_cases hlt2 : k < s.size
      · have hc1 := HC.out k hlt2
        go_wp2
        all_goals first
          | (go_round
             case rel => exact ⟨k + 1, by omega, by go_num, fun j hj hjk => by
               rcases Y0t j k with h | h
               · exact HA.out j hj h
               · obtain rfl : j = k := by omega
                 simp only [Z6j]; simp; omega⟩
             case measure => simp [intOf]; omega)
          | (have hf : Z6j s[k] = false := by
               simp only [Z6j, Bool.or_eq_false_iff, Bool.and_eq_false_iff, decide_eq_false_iff_not]; omega
             have hz := HR.out.trans (Znu hlt2 hf)
             go_ret
             exact ⟨by rw [hz]; rfl, HB.out⟩)
      · have hz := HR.out.trans (Zq3 fun j hj => HA.out j hj (by omega))
        have HZ := Lib.hid hz
        clear hz
        go_wp2
        go_ret
        exact ⟨by rw [HZ.out]; rfl, HB.out⟩
def Z43 (s : ByteArray) : Option Bool := some (Z4t s)
theorem Zbd (s : ByteArray) (r : Bool) (hm : Is (Z43 s) r) : PSpec prog 95 [.one (.d (.str s))] (.one (.d (.bool r))) := by
  obtain rfl := r_ret hm
  refine ⟨⟨_, Tryz.func95, by kernel_rfl, by kernel_rfl⟩, fun w m t vals hgok hm ht hargs => ?_⟩
  obtain ⟨hs, hg⟩ := hargs
  obtain ⟨u0, h0, r0⟩ := hg 0 _ rfl
  have e0 : u0 = .string s := RepD.str_inv (m := m) r0
  subst e0
  have hv : vals = #[.string s] := by
    apply Y2m
    intro i
    match i with
    | 0 => simpa using h0
    | i + 1 => rw [Y1r (by simp at hs; omega)]; simp
  subst hv
  refine (Zdy s w).mono ?_
  rintro e w' ⟨rfl, hb⟩
  refine ⟨_, m, fun _ => (none, 0), rfl, Sub.refl _, fun _ _ _ _ h => h, fun b o v hv => ?_, hb, RepD.bool _, ⟨fun x hx => by simp [RV.fr, RV1.fr, RC.fr] at hx, fun x hx => by simp [RV.fr, RV1.fr, RC.fr] at hx⟩⟩
  have h1 := hm b o v hv
  have h2 := World.block_lt_of_cell? w ⟨b, o, none⟩ h1
  rw [hb.cell (p := ⟨b, o, none⟩) h2]
  exact h1
end
section
open Go.Am
instance i_schema_ValidName (s_:ByteArray):Con (Z43 s_) prog 95 [.one (.d (.str s_))] (fun r=>.one (.d (.bool r))):=⟨fun r hm=>Zbd s_ r hm⟩
def Z4e (s_:List Col) (f:Col->Option Bool):Option Int:=
 (forK (fun (i2:Nat) (x2:Col) (s2:Unit) next_2=>(bindK (f x2) fun v3=>(bif v3 then (some (i2:Int)) else (next_2 ())))) (fun (s2:Unit)=>(some (-1))) s_ 0 ())
instance i_slices_IndexFunc_Column (s_:List Col) (f:Col->Option Bool) {g:FuncId} {caps:List (List D)} [ConF f prog (fun x=>.agg x.enc) (fun v=>.one (.d (.bool v))) g caps]:Con (Z4e s_ f) prog 115 [.one (.d (.sl (s_.map Col.enc))),.one (.fn g caps)] (fun r=>.one (.d (.int .i64 r))):=by
 unfold Z4e;have l1:LH (σ:=Unit) 8 [0,1,7] []:=.intro;exact go 19 Tryz.func115 rfl (by kernel_rfl) rfl rfl (by simp)
def Z44 (c:Col) (k0:ByteArray):Option Bool:=
 (some (strEq c.name k0))
instance c_schema_FindColumn_1 (c:Col) (k0:ByteArray):Con (Z44 c k0) prog 116 [.agg c.enc,.one (.rp [.str k0])] (fun r=>.one (.d (.bool r))):=by
 unfold Z44;exact go 8 Tryz.func116 rfl (by kernel_rfl) rfl rfl (by simp)
instance f_schema_FindColumn_1 (k0:ByteArray):ConF (fun x=>Z44 x k0) prog (fun x=>.agg x.enc) (fun r=>.one (.d (.bool r))) 116 [[.str k0]]:=⟨fun x=>(c_schema_FindColumn_1 x k0)⟩
def Z03 (t:Tbl) (name:ByteArray):Option (Int × Bool):=
 (bindK (Z4e t.cols (fun xa_=>Z44 xa_ name)) fun v3=>(some ((if v3 < 0 then 0 else v3),decide (0<=v3))))
instance c_schema_FindColumn (t:Tbl) (name:ByteArray):Con (Z03 t name) prog 96 [.agg t.enc,.one (.d (.str name))] (fun r=>.tup [.one (.d (.int .i64 r.1)),.one (.d (.bool r.2))]):=by
 unfold Z03;exact go 15 Tryz.func96 rfl (by kernel_rfl) rfl rfl (by simp)
def Z0w (t:Tbl):Option Int:=
 (bindK (Z43 t.name) fun v2=>(bif !v2 then (some 23) else (bif ((t.cols.length:Int) == 0) then (some 3) else (bif decide (6 < (t.cols.length:Int)) then (some 2) else (forK (fun (i9:Nat) (x9:Col) (s9:Unit) next_9=>(bindK (Z43 x9.name) fun v11=>(bif !v11 then (some 23) else (bindK (Z03 t x9.name) fun v13=>(bif decide (v13.1 < (i9:Int)) then (some 5) else (bif decide (x9.kind < 1) then (some 7) else (bif decide (3 < x9.kind) then (some 7) else (next_9 ())))))))) (fun (s9:Unit)=>(forK (fun (i18:Nat) (x18:Int) (s18:Unit) next_18=>(bif decide (x18 < 0) then (some 9) else (bif decide ((t.cols.length:Int)<=x18) then (some 9) else (getK t.cols x18 fun x22=>(bif x22.nullable then (some 9) else (bif decide (0 < i18) then (chkK (okI ((i18:Int) - 1)) (getK t.pk ((i18:Int) - 1) fun x26=>(bif decide (x18<=x26) then (some 9) else (next_18 ())))) else (next_18 ()))))))) (fun (s18:Unit)=>(bif ((t.pk.length:Int) == 0) then (some 9) else (some 0))) t.pk 0 ())) t.cols 0 ())))))
instance c_schema_ValidateTable (t:Tbl):Con (Z0w t) prog 61 [.agg t.enc] (fun r=>.one (.d (.int .i64 r))):=by
 unfold Z0w;have l1:LH (σ:=Unit) 24 [1,22,23] []:=.intro;have l2:LH (σ:=Unit) 55 [1,53,54] []:=.intro;exact go 96 Tryz.func61 rfl (by kernel_rfl) rfl rfl (by simp)
def Z39 (s_:List Tbl) (f:Tbl->Option Bool):Option Int:=
 (forK (fun (i2:Nat) (x2:Tbl) (s2:Unit) next_2=>(bindK (f x2) fun v3=>(bif v3 then (some (i2:Int)) else (next_2 ())))) (fun (s2:Unit)=>(some (-1))) s_ 0 ())
instance i_slices_IndexFunc_Table (s_:List Tbl) (f:Tbl->Option Bool) {g:FuncId} {caps:List (List D)} [ConF f prog (fun x=>.agg x.enc) (fun v=>.one (.d (.bool v))) g caps]:Con (Z39 s_ f) prog 73 [.one (.d (.sl (s_.map Tbl.enc))),.one (.fn g caps)] (fun r=>.one (.d (.int .i64 r))):=by
 unfold Z39;have l1:LH (σ:=Unit) 8 [0,1,7] []:=.intro;exact go 19 Tryz.func73 rfl (by kernel_rfl) rfl rfl (by simp)
theorem Z8i (s_:List Tbl) (g:FuncId) (caps:List (List D)) (f:Tbl->Option Bool) (hf:∀ xa v,Is (f xa) v->PSpec prog g (.agg xa.enc::capsOf caps) (.one (.d (.bool v)))) (r:Int) (hm:Is (Z39 s_ f) r):PSpec prog 73 [.one (.d (.sl (s_.map Tbl.enc))),.one (.fn g caps)] (.one (.d (.int .i64 r))):=
 haveI:ConF f prog (fun x=>.agg x.enc) (fun v=>.one (.d (.bool v))) g caps:=⟨hf⟩
 (i_slices_IndexFunc_Table s_ f).h r hm
def Z2i (t:Tbl) (k0:ByteArray):Option Bool:=
 (some (strEq t.name k0))
instance c_schema_FindTable_1 (t:Tbl) (k0:ByteArray):Con (Z2i t k0) prog 74 [.agg t.enc,.one (.rp [.str k0])] (fun r=>.one (.d (.bool r))):=by
 unfold Z2i;exact go 8 Tryz.func74 rfl (by kernel_rfl) rfl rfl (by simp)
instance f_schema_FindTable_1 (k0:ByteArray):ConF (fun x=>Z2i x k0) prog (fun x=>.agg x.enc) (fun r=>.one (.d (.bool r))) 74 [[.str k0]]:=⟨fun x=>(c_schema_FindTable_1 x k0)⟩
def Z02 (s_:Sch) (name:ByteArray):Option (Int × Bool):=
 (bindK (Z39 s_.tables (fun xa_=>Z2i xa_ name)) fun v3=>(some ((if v3 < 0 then 0 else v3),decide (0<=v3))))
instance c_schema_FindTable (s_:Sch) (name:ByteArray):Con (Z02 s_ name) prog 37 [.agg s_.enc,.one (.d (.str name))] (fun r=>.tup [.one (.d (.int .i64 r.1)),.one (.d (.bool r.2))]):=by
 unfold Z02;exact go 15 Tryz.func37 rfl (by kernel_rfl) rfl rfl (by simp)
def Z10 (s_:Sch) (fk:Fk):Option Int:=
 (bindK (Z02 s_ fk.table) fun v3=>(bindK (Z02 s_ fk.ref) fun v4=>(bif !v3.2 then (some 4) else (bif !v4.2 then (some 4) else (getK s_.tables v3.1 fun x7=>(getK s_.tables v4.1 fun x8=>(bif ((fk.cols.length:Int) != (x8.pk.length:Int)) then (some 3) else (forK (fun (i34:Nat) (x34:Int) (s34:Unit) next_34=>(bif decide (x34 < 0) then (some 3) else (bif decide ((x7.cols.length:Int)<=x34) then (some 3) else (getK x7.cols x34 fun x38=>(getK x8.pk (i34:Int) fun x39=>(getK x8.cols x39 fun x40=>(bif (x38.kind != x40.kind) then (some 7) else (next_34 ())))))))) (fun (s34:Unit)=>(some 0)) fk.cols 0 ()))))))))
theorem Z7t (s_:Sch) (fk:Fk) (r:Int) (hm:Is (Z10 s_ fk) r):PSpec prog 62 [.agg s_.enc,.agg fk.enc] (.one (.d (.int .i64 r))):=by
 unfold Z10 at hm;refine PSpec.of_vc Tryz.func62 rfl (by kernel_rfl) (n:=85) rfl rfl (by simp) ?_
 try simp[*]
 refine r_call (av:=[.agg s_.enc,.one (.d (.str fk.table))]) hm (fun v hv=>c_schema_FindTable _ _ v hv) (by simp[*]) ?_;clear hm;intro v3 hvv3 hm
 try simp[*]
 refine r_call (av:=[.agg s_.enc,.one (.d (.str fk.ref))]) hm (fun v hv=>c_schema_FindTable _ _ v hv) (by simp[*]) ?_;clear hm;intro v4 hvv4 hm
 try simp[*]
 refine Zb5 hm ?_ ?_<;>clear hm<;>intro hc5 hm
 .try simp[*]
  obtain rfl:=r_ret hm;exact ret0 (vs:=[_]) (by simp[*];try exact rfl) (by simp[*])
 .try simp[*]
  refine r_cond hm ?_ ?_<;>clear hm<;>intro hc6 hm
  .try simp[*]
   obtain rfl:=r_ret hm;exact ret0 (vs:=[_]) (by simp[*];try exact rfl) (by simp[*])
  .try simp[*]
   replace hm:=hm.get;obtain⟨x7,h0x7,hxx7,hm⟩:=hm;replace hm:=hm.get;obtain⟨x8,h0x8,hxx8,hm⟩:=hm;refine Wait.cut (Plan.then_ [0,1,2,3,4,5,7] (.three 6 10 11 (Plan.then_ [8] (.three 9 10 11 (Plan.then_ [] (.two 10 11 (Plan.then_ [11,12,13] .done) (Plan.then_ [10,12,13] .done))) (Plan.then_ [] (.two 9 11 (Plan.then_ [11,12,13] .done) (Plan.then_ [] (.two 9 12 (Plan.then_ [12,13] .done) (Plan.then_ [9,13] .done))))) (Plan.then_ [] (.two 9 10 (Plan.then_ [10,12,13] .done) (Plan.then_ [] (.two 9 12 (Plan.then_ [12,13] .done) (Plan.then_ [9,13] .done))))))) (Plan.then_ [] (.two 6 11 (Plan.then_ [8] (.two 9 11 (Plan.then_ [11,12,13] .done) (Plan.then_ [] (.two 9 12 (Plan.then_ [12,13] .done) (Plan.then_ [9,13] .done))))) (Plan.then_ [] (.two 6 12 (Plan.then_ [8] (.two 9 12 (Plan.then_ [12,13] .done) (Plan.then_ [9,13] .done))) (Plan.then_ [6,8,9,13] .done))))) (Plan.then_ [] (.two 6 10 (Plan.then_ [8] (.two 9 10 (Plan.then_ [10,12,13] .done) (Plan.then_ [] (.two 9 12 (Plan.then_ [12,13] .done) (Plan.then_ [9,13] .done))))) (Plan.then_ [] (.two 6 12 (Plan.then_ [8] (.two 9 12 (Plan.then_ [12,13] .done) (Plan.then_ [9,13] .done))) (Plan.then_ [6,8,9,13] .done))))))) follows (by kernel_rfl) (fun e11 h11=>∃ n11_b9 n11_b10:Nat,e11.n=85/\e11.get 3=.one (.ptr (1,48) 0)/\e11.get 9=.one (.ptr (n11_b9,144) 0)/\e11.get 10=.one (.ptr (n11_b10,160) 0)/\h11.box (1,48)=some [.d (.str fk.table),.d (.sl (fk.cols.map encI)),.d (.str fk.ref)]/\h11.box (n11_b9,144)=some [.d (.str x7.name),.d (.sl (x7.cols.map Col.enc)),.d (.sl (x7.pk.map encI))]/\h11.box (n11_b10,160)=some [.d (.str x8.name),.d (.sl (x8.cols.map Col.enc)),.d (.sl (x8.pk.map encI))]) ?_ ?_
   .try simp[*]
    repeat' (first | with_reducible refine And.intro ?_ ?_ | (refine CutK.of ⟨4,5,?_⟩;(simp (maxDischargeDepth:=20) [*]);done) | (refine CutK.of ⟨5,4,?_⟩;(simp (maxDischargeDepth:=20) [*]);done))
   .rintro e11 h11 ⟨n11_b9,n11_b10,hn11,h11_3,h11_9,h11_10,hb11_b2,hb11_b9,hb11_b10⟩
    try simp[*]
    intro hl30;replace hl30:fk.cols.length<=2097152:=by simpa using hl30
    intro hl31;replace hl31:x8.pk.length<=2097152:=by simpa using hl31
    refine r_cond hm ?_ ?_<;>clear hm<;>intro hc32 hm
    .try simp[*]
     obtain rfl:=r_ret hm;exact ret0 (vs:=[_]) (by simp[*];try exact rfl) (by simp[*])
    .try simp[*]
     refine Wait.for (xs:=fk.cols) (s0:=()) (fun i34 s34 e34 h34=>e34.n=85/\e34.get 9=.one (.ptr (n11_b9,144) 0)/\e34.get 10=.one (.ptr (n11_b10,160) 0)/\e34.get 51=.one (.d (.sl (fk.cols.map encI)))/\e34.get 52=.one (.d (.int .i64 (fk.cols.length:Int)))/\e34.get 53=.one (.d (.int .i64 (i34:Int)))/\h34.box (n11_b9,144)=some [.d (.str x7.name),.d (.sl (x7.cols.map Col.enc)),.d (.sl (x7.pk.map encI))]/\h34.box (n11_b10,160)=some [.d (.str x8.name),.d (.sl (x8.cols.map Col.enc)),.d (.sl (x8.pk.map encI))]) hm (by simp[*]) ?_ ?_
     .rintro i34 s34 e34 h34 ⟨hn34,h34_9,h34_10,h34_51,h34_52,h34_53,hb34_b9,hb34_b10⟩ hlt34 hm;have hw34:IntKind.i64.wrap ((i34:Int)+1)=(i34:Int)+1:=Y0a _ (by omega)
      try simp[*]
      refine Zb5 hm ?_ ?_<;>clear hm<;>intro hc35 hm
      .try simp[*]
       obtain rfl:=r_ret hm;exact ret0 (vs:=[_]) (by simp[*];try exact rfl) (by simp[*])
      .try simp[*]
       intro hl36;replace hl36:x7.cols.length<=2097152:=by simpa using hl36
       refine r_cond hm ?_ ?_<;>clear hm<;>intro hc37 hm
       .try simp[*]
        obtain rfl:=r_ret hm;exact ret0 (vs:=[_]) (by simp[*];try exact rfl) (by simp[*])
       .try simp[*]
        refine Wait.of (SWP.draw (Plan.then_ [0,1,2,3,4,5,6,7,8,9,10,11,12,13,14,15,16] .done) follows (by kernel_rfl) ?_)
        try simp[*]
        replace hm:=hm.get;obtain⟨x38,h0x38,hxx38,hm⟩:=hm
        try simp[*]
        replace hm:=hm.getN;obtain⟨x39,hxx39,hm⟩:=hm
        try simp[*]
        replace hm:=hm.get;obtain⟨x40,h0x40,hxx40,hm⟩:=hm
        try simp[*]
        refine r_cond hm ?_ ?_<;>clear hm<;>intro hc41 hm
        .try simp[*]
         obtain rfl:=r_ret hm;exact ret0 (vs:=[_]) (by simp[*];try exact rfl) (by simp[*])
        .try simp[*]
         exact BackF.of () ⟨(by simp[*]),hm⟩
     .rintro s34 e34 h34 ⟨hn34,h34_9,h34_10,h34_51,h34_52,h34_53,hb34_b9,hb34_b10⟩ hm
      try simp[*]
      obtain rfl:=r_ret hm;exact ret0 (vs:=[_]) (by simp[*];try exact rfl) (by simp[*])
instance i_schema_validateForeignKey (s_:Sch) (fk:Fk):Con (Z10 s_ fk) prog 62 [.agg s_.enc,.agg fk.enc] (fun r=>.one (.d (.int .i64 r))):=⟨fun r hm=>Z7t s_ fk r hm⟩
def Z0h (s_:List Fk) (f:Fk->Option Bool):Option Int:=
 (forK (fun (i2:Nat) (x2:Fk) (s2:Unit) next_2=>(bindK (f x2) fun v3=>(bif v3 then (some (i2:Int)) else (next_2 ())))) (fun (s2:Unit)=>(some (-1))) s_ 0 ())
instance i_slices_IndexFunc_Foreignkey (s_:List Fk) (f:Fk->Option Bool) {g:FuncId} {caps:List (List D)} [ConF f prog (fun x=>.agg x.enc) (fun v=>.one (.d (.bool v))) g caps]:Con (Z0h s_ f) prog 97 [.one (.d (.sl (s_.map Fk.enc))),.one (.fn g caps)] (fun r=>.one (.d (.int .i64 r))):=by
 unfold Z0h;have l1:LH (σ:=Unit) 8 [0,1,7] []:=.intro;exact go 19 Tryz.func97 rfl (by kernel_rfl) rfl rfl (by simp)
theorem Z3h (s_:List Fk) (g:FuncId) (caps:List (List D)) (f:Fk->Option Bool) (hf:∀ xa v,Is (f xa) v->PSpec prog g (.agg xa.enc::capsOf caps) (.one (.d (.bool v)))) (r:Int) (hm:Is (Z0h s_ f) r):PSpec prog 97 [.one (.d (.sl (s_.map Fk.enc))),.one (.fn g caps)] (.one (.d (.int .i64 r))):=
 haveI:ConF f prog (fun x=>.agg x.enc) (fun v=>.one (.d (.bool v))) g caps:=⟨hf⟩
 (i_slices_IndexFunc_Foreignkey s_ f).h r hm
def Z04 (s_:List Fk) (f:Fk->Option Bool):Option Bool:=
 (bindK (Z0h s_ f) fun v1=>(some (decide (0<=v1))))
instance i_slices_ContainsFunc_Foreignkey (s_:List Fk) (f:Fk->Option Bool) {g:FuncId} {caps:List (List D)} [ConF f prog (fun x=>.agg x.enc) (fun v=>.one (.d (.bool v))) g caps]:Con (Z04 s_ f) prog 63 [.one (.d (.sl (s_.map Fk.enc))),.one (.fn g caps)] (fun r=>.one (.d (.bool r))):=by
 unfold Z04;exact go 9 Tryz.func63 rfl (by kernel_rfl) rfl rfl (by simp)
theorem Z2k (s_:List Fk) (g:FuncId) (caps:List (List D)) (f:Fk->Option Bool) (hf:∀ xa v,Is (f xa) v->PSpec prog g (.agg xa.enc::capsOf caps) (.one (.d (.bool v)))) (r:Bool) (hm:Is (Z04 s_ f) r):PSpec prog 63 [.one (.d (.sl (s_.map Fk.enc))),.one (.fn g caps)] (.one (.d (.bool r))):=
 haveI:ConF f prog (fun x=>.agg x.enc) (fun v=>.one (.d (.bool v))) g caps:=⟨hf⟩
 (i_slices_ContainsFunc_Foreignkey s_ f).h r hm
def Z1g (s1:List Int) (s2:List Int):Option Bool:=
 (bif ((s1.length:Int) != (s2.length:Int)) then (some false) else (forK (fun (i5:Nat) (x5:Int) (s5:Unit) next_5=>(getK s2 (i5:Int) fun x6=>(bif (x5 != x6) then (some false) else (next_5 ())))) (fun (s5:Unit)=>(some true)) s1 0 ()))
instance c_slices_Equal_Int (s1:List Int) (s2:List Int):Con (Z1g s1 s2) prog 98 [.one (.d (.sl (s1.map encI))),.one (.d (.sl (s2.map encI)))] (fun r=>.one (.d (.bool r))):=by
 unfold Z1g;have l1:LH (σ:=Unit) 13 [0,1,12] []:=.intro;have p1:PH [6] (Plan.then_ [0,1,2,3,4,5,6,7,8] .done):=.intro;exact go 26 Tryz.func98 rfl (by kernel_rfl) rfl rfl (by simp)
def Z0b (a:Fk) (b:Fk):Option Bool:=
 (bif strEq a.table b.table then (bindK (Z1g a.cols b.cols) fun v4=>(bif v4 then (some (strEq a.ref b.ref)) else (some false))) else (some false))
instance c_schema_EqualForeignKeys (a:Fk) (b:Fk):Con (Z0b a b) prog 65 [.agg a.enc,.agg b.enc] (fun r=>.one (.d (.bool r))):=by
 unfold Z0b;exact go 24 Tryz.func65 rfl (by kernel_rfl) rfl rfl (by simp)
instance f_schema_EqualForeignKeys  : ConG (fun x y=>Z0b x y) prog (fun x=>.agg x.enc) (fun x=>.agg x.enc) (fun r=>.one (.d (.bool r))) 65 []:=⟨fun x y=>(c_schema_EqualForeignKeys x y)⟩
def Z2t (other:Fk) (k0:Fk):Option Bool:=
 (bindK (Z0b other k0) fun v2=>(some v2))
instance c_schema_Validate_1 (other:Fk) (k0:Fk):Con (Z2t other k0) prog 64 [.agg other.enc,.one (.rp [.str k0.table,.sl (k0.cols.map encI),.str k0.ref])] (fun r=>.one (.d (.bool r))):=by
 unfold Z2t;exact go 7 Tryz.func64 rfl (by kernel_rfl) rfl rfl (by simp)
instance f_schema_Validate_1 (k0:Fk):ConF (fun x=>Z2t x k0) prog (fun x=>.agg x.enc) (fun r=>.one (.d (.bool r))) 64 [[.str k0.table,.sl (k0.cols.map encI),.str k0.ref]]:=⟨fun x=>(c_schema_Validate_1 x k0)⟩
def Z2r (a:Int) (b:Int):Option Int:=
 (bif decide (a < b) then (some (-1)) else (bif decide (b < a) then (some 1) else (some 0)))
instance c_value_compareInts (a:Int) (b:Int):Con (Z2r a b) prog 102 [.one (.d (.int .i64 a)),.one (.d (.int .i64 b))] (fun r=>.one (.d (.int .i64 r))):=by
 unfold Z2r;exact go 13 Tryz.func102 rfl (by kernel_rfl) rfl rfl (by simp)
instance i_strings_Compare (a:ByteArray) (b:ByteArray):Con (Z4l a b) prog 117 [.one (.d (.str a)),.one (.d (.str b))] (fun r=>.one (.d (.int .i64 r))):=⟨fun r hm=>Zc3 a b r hm⟩
def Z35 (a:GV) (b:GV):Option Int:=
 (bindK (Z2r a.kind b.kind) fun v3=>(bif (v3 != 0) then (some v3) else (bindK (Z2r a.int b.int) fun v5=>(bif (v5 != 0) then (some v5) else (bindK (Z4l a.text b.text) fun v7=>(some v7))))))
instance c_value_Compare (a:GV) (b:GV):Con (Z35 a b) prog 101 [.agg a.enc,.agg b.enc] (fun r=>.one (.d (.int .i64 r))):=by
 unfold Z35;exact go 28 Tryz.func101 rfl (by kernel_rfl) rfl rfl (by simp)
def Z1p (a:GV) (op:ByteArray) (b:GV):Option (Bool × Int):=
 (bif !(strEq op ({ data:=#[61] })) then (bif !(strEq op ({ data:=#[60] })) then (bif !(strEq op ({ data:=#[60,61] })) then (some (false,3)) else (bif (a.kind == 0) then (some (true,0)) else (bif (b.kind == 0) then (some (true,0)) else (bindK (Z35 a b) fun v8=>(bif (v8 == 0) then (some (true,0)) else (bif decide (v8 < 0) then (some (!(strEq op ({ data:=#[61] })),0)) else (some (false,0)))))))) else (bif (a.kind == 0) then (some (true,0)) else (bif (b.kind == 0) then (some (true,0)) else (bindK (Z35 a b) fun v13=>(bif (v13 == 0) then (bif decide (v13 < 0) then (some (!(strEq op ({ data:=#[61] })),0)) else (some (false,0))) else (bif decide (v13 < 0) then (some (!(strEq op ({ data:=#[61] })),0)) else (some (false,0)))))))) else (bif (a.kind == 0) then (some (true,0)) else (bif (b.kind == 0) then (some (true,0)) else (bindK (Z35 a b) fun v19=>(bif (v19 == 0) then (bif !(strEq op ({ data:=#[60] })) then (some (true,0)) else (bif decide (v19 < 0) then (some (!(strEq op ({ data:=#[61] })),0)) else (some (false,0)))) else (bif decide (v19 < 0) then (some (!(strEq op ({ data:=#[61] })),0)) else (some (false,0))))))))
instance c_value_Satisfies (a:GV) (op:ByteArray) (b:GV):Con (Z1p a op b) prog 88 [.agg a.enc,.one (.d (.str op)),.agg b.enc] (fun r=>.tup [.one (.d (.bool r.1)),.one (.d (.int .i64 r.2))]):=by
 unfold Z1p;exact go 44 Tryz.func88 rfl (by kernel_rfl) rfl rfl (by simp)
def Z0y (v_:GV):Option Int:=
 (bif (v_.kind == 0) then (bif (v_.int != 0) then (some 3) else (bif !(strEq v_.text empty) then (some 3) else (some 0))) else (bif (v_.kind == 1) then (bif !(strEq v_.text empty) then (some 3) else (bif (v_.kind == 2) then (bif (v_.int != 0) then (bif (v_.int != 1) then (some 1) else (bif decide (v_.int < (-1000000000000)) then (some 1) else (bif decide (1000000000000 < v_.int) then (some 1) else (some 0)))) else (bif decide (v_.int < (-1000000000000)) then (some 1) else (bif decide (1000000000000 < v_.int) then (some 1) else (some 0)))) else (bif decide (v_.int < (-1000000000000)) then (some 1) else (bif decide (1000000000000 < v_.int) then (some 1) else (some 0))))) else (bif (v_.kind == 2) then (bif !(strEq v_.text empty) then (some 3) else (bif (v_.int != 0) then (bif (v_.int != 1) then (some 1) else (bif decide (v_.int < (-1000000000000)) then (some 1) else (bif decide (1000000000000 < v_.int) then (some 1) else (some 0)))) else (bif decide (v_.int < (-1000000000000)) then (some 1) else (bif decide (1000000000000 < v_.int) then (some 1) else (some 0))))) else (bif (v_.kind == 3) then (bif (v_.int != 0) then (some 3) else (bif decide (24 < (v_.text.size:Int)) then (some 2) else (some 0))) else (some 7)))))
instance c_value_Validate (v_:GV):Con (Z0y v_) prog 99 [.agg v_.enc] (fun r=>.one (.d (.int .i64 r))):=by
 unfold Z0y;exact go 53 Tryz.func99 rfl (by kernel_rfl) rfl rfl (by simp)
def Z1l (s_:Sch) (c:Cons):Option Int:=
 (bindK (Z02 s_ c.table) fun v3=>(bif !v3.2 then (some 4) else (getK s_.tables v3.1 fun x5=>(bindK (Z1p (GV.mk 0 0 empty) c.op (GV.mk 0 0 empty)) fun v6=>(bif decide (c.left < 0) then (some 3) else (bif decide ((x5.cols.length:Int)<=c.left) then (some 3) else (bif (v6.2 != 0) then (some 3) else (bif decide (c.right < (-1)) then (some 3) else (bif decide ((x5.cols.length:Int)<=c.right) then (some 3) else (bif decide (0<=c.right) then (bif (!(c.value.kind == 0) || (!(c.value.int == 0) || (!(c.value.text == empty)))) then (some 3) else (getK x5.cols c.left fun x16=>(getK x5.cols c.right fun x17=>(bif (x16.kind != x17.kind) then (some 7) else (some 0))))) else (getK x5.cols c.left fun x19=>(bif (c.value.kind != x19.kind) then (some 7) else (bindK (Z0y c.value) fun v21=>(some v21))))))))))))))
instance c_schema_validateConstraint (s_:Sch) (c:Cons):Con (Z1l s_ c) prog 66 [.agg s_.enc,.agg c.enc] (fun r=>.one (.d (.int .i64 r))):=by
 unfold Z1l;have p1:PH [9] (Plan.then_ [0,1,2,3,4,5,6,7,8,9,10,11,12] .done):=.intro;have p2:PH [12] (Plan.then_ [0,1,2,3,4,5,6,7,8,9] .done):=.intro;exact go 99 Tryz.func66 rfl (by kernel_rfl) rfl rfl (by simp)
def Z1b (s_:List Cons) (v_:Cons):Option Int:=
 (forK (fun (i3:Nat) (x3:Cons) (s3:Unit) next_3=>(bif (v_.table == x3.table && (v_.left == x3.left && (v_.op == x3.op && (v_.right == x3.right && (v_.value.kind == x3.value.kind && (v_.value.int == x3.value.int && (v_.value.text == x3.value.text))))))) then (some (i3:Int)) else (next_3 ()))) (fun (s3:Unit)=>(some (-1))) s_ 0 ())
instance c_slices_Index_Constraint (s_:List Cons) (v_:Cons):Con (Z1b s_ v_) prog 100 [.one (.d (.sl (s_.map Cons.enc))),.agg v_.enc] (fun r=>.one (.d (.int .i64 r))):=by
 unfold Z1b;have l1:LH (σ:=Unit) 8 [0,3,7] []:=.intro;have p1:PH [4] (Plan.then_ [0,1,2,3,4,5] .done):=.intro;exact go 19 Tryz.func100 rfl (by kernel_rfl) rfl rfl (by simp)
def Z1h (s_:List Cons) (v_:Cons):Option Bool:=
 (bindK (Z1b s_ v_) fun v2=>(some (decide (0<=v2))))
instance c_slices_Contains_Constraint (s_:List Cons) (v_:Cons):Con (Z1h s_ v_) prog 67 [.one (.d (.sl (s_.map Cons.enc))),.agg v_.enc] (fun r=>.one (.d (.bool r))):=by
 unfold Z1h;exact go 9 Tryz.func67 rfl (by kernel_rfl) rfl rfl (by simp)
def Z0n (s_:Sch):Option Int:=
 (bif decide (6 < (s_.tables.length:Int)) then (some 2) else (bif decide (8 < (s_.fks.length:Int)) then (some 2) else (bif decide (8 < (s_.cons.length:Int)) then (some 2) else (forK (fun (i9:Nat) (x9:Tbl) (s9:Unit) next_9=>(bindK (Z0w x9) fun v11=>(bif (v11 != 0) then (some v11) else (bif decide (0 < i9) then (chkK (okI ((i9:Int) - 1)) (getK s_.tables ((i9:Int) - 1) fun x15=>(bif (Z6x x9.name x15.name || strEq x9.name x15.name) then (some 6) else (next_9 ())))) else (next_9 ()))))) (fun (s9:Unit)=>(forK (fun (i18:Nat) (x18:Fk) (s18:Unit) next_18=>(bindK (Z10 s_ x18) fun v20=>(bif (v20 != 0) then (some v20) else (chkK (0<=0/\0<=(i18:Int)/\(i18:Int)<=(s_.fks.length:Int)) (bindK (Z04 ((s_.fks.take i18).drop 0) (fun xa_=>Z2t xa_ x18)) fun v23=>(bif v23 then (some 5) else (next_18 ()))))))) (fun (s18:Unit)=>(forK (fun (i26:Nat) (x26:Cons) (s26:Unit) next_26=>(bindK (Z1l s_ x26) fun v28=>(bif (v28 != 0) then (some v28) else (chkK (0<=0/\0<=(i26:Int)/\(i26:Int)<=(s_.cons.length:Int)) (bindK (Z1h ((s_.cons.take i26).drop 0) x26) fun v31=>(bif v31 then (some 5) else (next_26 ()))))))) (fun (s26:Unit)=>(some 0)) s_.cons 0 ())) s_.fks 0 ())) s_.tables 0 ()))))
instance c_schema_Validate (s_:Sch):Con (Z0n s_) prog 33 [.agg s_.enc] (fun r=>.one (.d (.int .i64 r))):=by
 unfold Z0n;have l1:LH (σ:=Unit) 31 [1,29,30] []:=.intro;have l2:LH (σ:=Unit) 59 [1,57,58] []:=.intro;have l3:LH (σ:=Unit) 80 [1,78,79] []:=.intro;have p1:PH [9] (Plan.then_ [0,1,2,3,4,5,6,7,8,9,10,11,12,13] .done):=.intro;have p2:PH [27] (Plan.then_ [0,1,2,3,4,5] .done):=.intro;exact go 98 Tryz.func33 rfl (by kernel_rfl) rfl rfl (by simp)
end
section
open Go Go.Am
theorem Z3q (t:Tbl) (nm:ByteArray):Wp (Z03 t nm) fun v=>0<=v.1/\(v.2=true->v.1 < t.cols.length)/\(v.2=false->v.1=0):=by
 unfold Z03;refine Wp.bind (Wp.index fun x _=>Wp.ret trivial) fun k _ hk=>Wp.ret ?_
 have:=hk.lt
 refine⟨?_,fun h=>?_,fun h=>?_⟩<;>simp at *<;>first | omega | (split<;>omega)
theorem Z1d (S:Sch) (nm:ByteArray):Wp (Z02 S nm) fun v=>0<=v.1/\(v.2=true->v.1 < S.tables.length/\∃ T,S.tables[v.1.toNat]? = some T/\strEq T.name nm=true)/\(v.2=false->∀ T ∈ S.tables,strEq T.name nm=false):=by
 unfold Z02;refine Wp.bind (Wp.index fun x _=>Wp.ret trivial) fun k _ hk=>Wp.ret ?_;have hl:=hk.lt;rcases hk with ⟨rfl,h⟩ | ⟨i,x,rfl,hx,h⟩
 .refine⟨by simp,fun h=>by simp at h,fun _ T hT=>?_⟩
  have:=h T hT
  simpa[Z2i] using this
 .have h1:¬ ((i:Int) < 0):=by omega
  refine⟨by simp[h1],fun _=>⟨by simp[h1];omega,x,by simp[h1,hx],?_⟩,fun h=>by simp at h⟩;simpa[Z2i] using h
structure VT (T:Tbl):Prop where
 cols0:0 < T.cols.length
 cols6:T.cols.length<=6
 pk0:0 < T.pk.length
 pk:∀ v ∈ T.pk,0<=v/\v < T.cols.length
 asc:∀ (i:Nat) (a b:Int),T.pk[i]? = some a->T.pk[i+1]? = some b->a < b
 name:Z4t T.name=true
theorem Zcy (s:ByteArray):Wp (Z43 s) fun b=>b=Z4t s:=Wp.ret rfl
theorem Z93 (T:Tbl):Wp (Z0w T) fun e=>e=0->VT T:=by
 unfold Z0w;refine Wp.bind (Zcy _) fun v _ hv=>Wp.cond (fun _=>Wp.ret (by simp)) fun hv1=>?_;refine Wp.cond (fun _=>Wp.ret (by simp)) fun h1=>Wp.cond (fun _=>Wp.ret (by simp)) fun h2=>?_;have hc0:0 < T.cols.length:=by simp at h1;exact Y2w.2 h1
 have hc6:T.cols.length<=6:=by simp at h2;omega
 refine Wp.for (fun _ _=>True) trivial ?_ ?_
 .intro i x s next hx hm _ hn;refine Wp.bind (Zcy _) fun v _ _=>Wp.cond (fun _=>Wp.ret (by simp)) fun _=>?_;refine Wp.bind (Z3q _ _) fun v _ _=>Wp.cond (fun _=>Wp.ret (by simp)) fun _=>Wp.cond (fun _=>Wp.ret (by simp)) fun _=>Wp.cond (fun _=>Wp.ret (by simp)) fun _=>hn () trivial
 .intro s _;refine Wp.for (fun i _=>(∀ (j:Nat) (v:Int),j < i->T.pk[j]? = some v->0<=v/\v < T.cols.length)/\(∀ (j:Nat) (a b:Int),j+1 < i->T.pk[j]? = some a->T.pk[j+1]? = some b->a < b)/\∀ (j:Nat) (v:Int),j < i->T.pk[j]? = some v->(j:Int)<=v) ⟨by intro j v h;omega,by intro j a b h;omega,by intro j v h;omega⟩ ?_ ?_
  .rintro i x s next hx hm ⟨hI,hJ,hK⟩ hn;refine Wp.cond (fun _=>Wp.ret (by simp)) fun h3=>Wp.cond (fun _=>Wp.ret (by simp)) fun h4=>?_;have h0:0<=x:=by simpa using h3
   have h5:x < T.cols.length:=by simpa using h4
   have hI':∀ (j:Nat) (v:Int),j < i+1->T.pk[j]? = some v->0<=v/\v < T.cols.length:=by
    intro j v hj hv;rcases Y0t j i with h | h
    .exact hI j v h hv
    .obtain rfl:j=i:=by omega
     rw[hx] at hv;cases hv;exact⟨h0,h5⟩
   have hil:=(Y00.1 hx).1;refine Wp.get h0 h5 fun c _ _=>Wp.cond (fun _=>Wp.ret (by simp)) fun _=>Wp.cond (fun h6=>?_) fun h6=>hn () ⟨hI',?_,?_⟩
   .have hi:0 < i:=by simpa using h6
    have hil1:i - 1 < T.pk.length:=by omega
    have hb1:=hI (i - 1) _ (by omega) (Y01 hil1);have hb2:=hK (i - 1) _ (by omega) (Y01 hil1);refine Wp.chk ⟨by omega,by have:=hc6;omega⟩ ?_;refine Wp.get (by omega) (by omega) fun y hy _=>Wp.cond (fun _=>Wp.ret (by simp)) fun h7=>?_;have hyx:y < x:=by simpa using h7
    have hy1:T.pk[i - 1]? = some y:=by rw[<- hy];congr 1;omega
    refine hn () ⟨hI',?_,?_⟩
    .intro j a b hj ha hb;rcases Y0t (j+1) i with h | h
     .exact hJ j a b h ha hb
     .obtain rfl:i=j+1:=by omega
      rw[hx] at hb;cases hb;rw[show j+1 - 1=j by omega,ha] at hy1;cases hy1;exact hyx
    .intro j v hj hv;rcases Y0t j i with h | h
     .exact hK j v h hv
     .obtain rfl:j=i:=by omega
      rw[hx] at hv;cases hv
      have:=hK (j - 1) y (by omega) hy1
      omega
   .intro j a b hj
    have:i=0:=by simpa using h6
    omega
   .intro j v hj hv;have hi0:i=0:=by simpa using h6
    obtain rfl:j=0:=by omega
    subst hi0;rw[hx] at hv;cases hv;omega
  .rintro s ⟨hI,hJ,_⟩;refine Wp.cond (fun _=>Wp.ret (by simp)) fun h3=>Wp.ret fun _=>?_;have hp:0 < T.pk.length:=by simp at h3;exact Y2w.2 h3
   refine⟨hc0,hc6,hp,fun v hv=>?_,fun i a b ha hb=>hJ i a b (Y00.1 hb).1 ha hb,by rw[<- hv];simpa using hv1⟩;obtain⟨j,hj,rfl⟩:=Y1g hv;exact hI j _ hj (Y01 hj)
end
end Go.Proofs.YtbcejndfbklikaaGreatDoor
