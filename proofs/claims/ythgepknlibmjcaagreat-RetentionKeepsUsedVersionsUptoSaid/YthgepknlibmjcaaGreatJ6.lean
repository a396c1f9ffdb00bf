/-
  Part 6 of the proof: joined by a program out of 28 texts.
-/
import Derived.Test.YthgepknlibmjcaaGreatJ5
import Derived.Test.YthgepknlibmjcaaGreatRows
import Derived.WalkKit
import Derived.ProofKit
import Derived.OpenShut
import Derived.JoinedCond
import Derived.Carry
set_option linter.unusedVariables false
set_option linter.unusedSimpArgs false
section
/-
  schema.Clone: a copy that is the call's own.
-/
namespace Go.Proofs.YthgepknlibmjcaaGreat
open Go Go.Am
set_option linter.unusedVariables false
set_option linter.unusedSimpArgs false
theorem Sc.start {g : HS} {p : Lab} {oc : C} {cons : List Cons} (hb : g.box p = some [.nil, .nil, oc]) (mo : MR g 7 oc (cons.map fun c => c.enc.map C.d)) (hp : p.1 < g.ep) (hl : ∀ k ∈ labs oc, k ≠ p ∧ k.1 < g.ep) : Sc g p ⟨[], [], cons⟩ .nil .nil oc [] [] (labs oc) := by
  have e : (cons.map fun c => ((c.enc.map C.d, c.enc, []) : Q)).flatMap (·.2.2) = [] := by rw [List.flatMap_eq_nil_iff]; intro q hq; obtain ⟨c, _, rfl⟩ := List.mem_map.1 hq; rfl
  have pl : plabs oc (cons.map fun c => ((c.enc.map C.d, c.enc, []) : Q)) = labs oc := by rw [plabs, e, List.append_nil]
  refine ⟨[], [], cons.map fun c => (c.enc.map C.d, c.enc, []), rfl, rfl, pl.symm, hb, ⟨MR.nil, rfl, by simp⟩, ⟨MR.nil, rfl, by simp⟩, ⟨by simpa [ConSh, Function.comp_def] using mo, by simp [Function.comp_def], fun q hq => ?_⟩, ?_, ?_⟩
  · obtain ⟨c, _, rfl⟩ := List.mem_map.1 hq
    exact Ow.datas (ds := c.enc)
  · rw [pl]
    simp only [plabs, labs, List.flatMap_nil, List.nil_append, List.append_nil, List.nodup_cons]
    exact ⟨fun h => (hl p h).1 rfl, labs_nodup⟩
  · rw [pl]
    intro k hk
    simp only [plabs, labs, List.flatMap_nil, List.nil_append, List.append_nil, List.mem_cons] at hk
    rcases hk with rfl | hk
    · exact hp
    · exact (hl k hk).2
/-- the copy under way -/
def ClI (h : HS) (p3 : Lab) (S : Sch) (S1 : Sch) (dat : List C) (e : Env) (g : HS) : Prop := ∃ tc fc oc ta fa oa, e.n = 46 ∧ e.get 1 = .one (.ptr (h.ep, 16) 0) ∧ e.get 2 = .one (.ptr (h.ep + 1, 32) 0) ∧ e.get 3 = .one (.ptr p3 0) ∧ g.box (h.ep, 16) = some dat ∧ g.box (h.ep + 1, 32) = some [.nil, .nil, .nil] ∧
  Sc g p3 S1 tc fc oc ta fa oa ∧ (∀ k ∈ ta ++ (fa ++ oa), h.ep + 2 ≤ k.1) ∧ h.ep + 2 ≤ p3.1 ∧ Same h g []
set_option maxRecDepth 20000 in
set_option maxHeartbeats 1000000 in
theorem h_schema_Clone (h : HS) (S : Sch) (hS : schOK S) (K : V → HS → Prop) (hk : NewSch h S K) :
    HSpec Tryz.prog 101 [.agg (S.enc.map C.d)] h K := by
  obtain ⟨⟨l1, l2, l3⟩, l4, l5⟩ := hS
  have l1' : S.tables.length ≤ 2097152 := l1
  have l2' : S.fks.length ≤ 2097152 := l2
  refine HSpec.of_vc Tryz.func101 rfl (by kernel_rfl) (n := 46) rfl rfl (by simp) ?_
  simp
  refine callK_heap (h_slices_Clone_Constraint _ _ _ (RowAt.data (n := 7) (ts := S.cons.map Cons.enc) (by simp) (by simpa using l3)) _ (fun oc g1 mo hs1 hlo hb1 => ?_))
  have hz0 : Same h (((h.setBox (h.ep, 16) (S.enc.map C.d)).next.setBox (h.ep + 1, 32) [.nil, .nil, .nil]).next) [] := (((Same.refl.setBox (.inr (Nat.le_refl _))).next.setBox (.inr (by simp))).next)
  have b1 := hb1 (h.ep, 16) _ (by simp; rfl)
  have b2 := hb1 (h.ep + 1, 32) _ (by simp; rfl)
  have hs1' := hs1.1
  simp only [Sch.enc, List.map_cons, List.map_nil] at hz0
  have hy1 := hz0.trans hs1
  simp at hs1'
  have hn1 := ne_new (l := (h.ep, 16)) (n := g1.ep) (by simp; omega)
  simp (maxDischargeDepth := 12) [b1, hn1, le_s]
  have hz2 : Same g1 ((g1.setBox (g1.ep, 48) [.nil, .nil, .nil]).next.setBox (g1.ep, 48) [.nil, .nil, oc]) [] := ((Same.refl.setBox (.inr (Nat.le_refl _))).next).setBox (.inr (Nat.le_refl _))
  obtain ⟨p3, hp3d⟩ : ∃ p : Lab, p = (g1.ep, 48) := ⟨_, rfl⟩
  have trivF : ∀ (α : Type) (xs : List α) (i : Nat), forK (ρ := Unit) (fun _ (_ : α) (s : Unit) next => next s) (fun _ => some ()) xs i () = some () := fun α xs => by
    induction xs with
    | nil => intro i; rfl
    | cons x xs ih => intro i; exact ih (i + 1)
  intro _
  have hg1 : Same h ((g1.setBox (g1.ep, 48) [.nil, .nil, .nil]).next.setBox (g1.ep, 48) [.nil, .nil, oc]) [] := hy1.trans hz2
  have hlo' : ∀ k ∈ labs oc, h.ep + 2 ≤ k.1 ∧ k.1 < g1.ep := fun k hk => by have := hlo k hk; simp at this; omega
  refine Wait.for (xs := S.tables) (s0 := ()) (k := fun _ => some ()) (body := fun _ _ s next => next s) (r := ()) (fun k _ e g => ClI h p3 S ⟨S.tables.take k, [], S.cons⟩ (S.enc.map C.d) e g ∧ e.get 13 = .one (.d (.sl (S.tables.map Tbl.enc))) ∧ e.get 14 = .one (.d (.int .i64 (S.tables.length : Int))) ∧ e.get 15 = .one (.d (.int .i64 (k : Int)))) (trivF _ _ _) ⟨⟨.nil, .nil, oc, [], [], labs oc, by simp, by simp, by simp, by simp [hp3d], ?_, ?_, ?_, ?_, by rw [hp3d]; simp; omega, hg1⟩, by simp, by simp, by simp⟩ ?_ ?_
  · rw [hz2.2 _ (by simp; omega) (by simp)]; simpa using b1
  · rw [hz2.2 _ (by simp; omega) (by simp)]; exact b2
  · rw [hp3d]
    refine Sc.start (by simp) ?_ (by simp) fun k hk => ⟨fun he => by have := (hlo' k hk).2; rw [he] at this; simp at this, by have := (hlo' k hk).2; simp; omega⟩
    rw [dmap_len]
    exact mo.frame fun k hk => hz2.2 k (hlo' k hk).2 (by simp)
  · simp only [List.nil_append]
    exact fun k hk => (hlo' k hk).1
  · rintro k _ e g ⟨⟨tc, fc, oc, ta, fa, oa, hn, h1', h2', h3', b1, b2, s1, hnew, hp3, hs⟩, h13, h14, h15⟩ hlt hm
    have hw : IntKind.i64.wrap ((k : Int) + 1) = (k : Int) + 1 := IntWalk.i64_in _ (by omega)
    have hT := l4 _ (List.getElem_mem hlt)
    have hgp : h.ep + 2 < g.ep := by have := s1.lt p3 (by simp); omega
    have hz4 : Same g ((g.setBox (g.ep, 80) [C.d (D.str ByteArray.empty), C.nil, C.nil]).next.setBox (g.ep, 80) (S.tables[k].enc.map C.d)) [] := ((Same.refl.setBox (.inr (Nat.le_refl _))).next).setBox (.inr (Nat.le_refl _))
    simp only [Tbl.enc, List.map_cons, List.map_nil] at hz4
    simp [hn, h13, h14, h15, hlt]
    generalize hX : (g.setBox (g.ep, 80) [C.d (D.str ByteArray.empty), C.nil, C.nil]).next.setBox (g.ep, 80) _ = GZ at hz4 ⊢
    have bz5 : GZ.box (g.ep, 80) = some (S.tables[k].enc.map C.d) := by rw [← hX]; simp
    have bz3 : GZ.box p3 = some [tc, fc, oc] := (s1.frame hz4).box
    simp only [Tbl.enc, List.map_cons, List.map_nil] at bz5
    have hg2 := hs.1
    have hgz := hz4.1
    refine Wait.cut (Plan.then_ [0, 1, 2, 3, 4, 5, 6, 7] .done) follows (by kernel_rfl) (fun e g' => ClI h p3 S ⟨S.tables.take (k + 1), [], S.cons⟩ (S.enc.map C.d) e g' ∧ e.get 13 = .one (.d (.sl (S.tables.map Tbl.enc))) ∧ e.get 14 = .one (.d (.int .i64 (S.tables.length : Int))) ∧ e.get 15 = .one (.d (.int .i64 (k : Int)))) ?_ ?_
    · simp [hn, h3', bz5, bz3, Plan.then_, vcPlan, planOps, isCallAt, callKind]
      refine callK_heap (h_schema_CloneTable _ (S.tables[k].enc.map C.d) S.tables[k] (fun h' _ => FrzCs.datas (ds := S.tables[k].enc)) hT _ (fun cs g2 ls2 o2 nd2 hnw0 hs2 hb2 => ?_))
      have hnw : ∀ k ∈ ls2, g.ep ≤ k.1 ∧ k.1 < g2.ep := fun k hk => by have := hnw0 k hk; omega
      obtain ⟨c0, c1, c2, rfl⟩ : ∃ a b c, cs = [a, b, c] := by
        have h9 := o2.len.1
        match cs, h9 with
        | [a, b, c], _ => exact ⟨a, b, c, rfl⟩
      simp [hn]
      refine ⟨hb2, ?_⟩
      have hep2 := hs2.1
      refine bld_ow (x := [c0, c1, c2]) (by simp [toDs]; cases c0.toD <;> cases c1.toD <;> cases c2.toD <;> rfl) (by simp) (fun d hd2 => ?_) (fun hd2 => ?_)
      · obtain ⟨rfl, hT2⟩ := o2.ofD hd2
        have hz5 : Same g2 ((g2.setArr (g2.ep, 16 * 23) (some (1, 3))).next) [] := Same.refl.setArr.next
        simp only [Nat.reduceMul] at hz5
        have s5 := s1.frame ((hz4.trans hs2).trans hz5)
        obtain ⟨ys, my, hly, add⟩ := s5.addT
        simp [hn]
        refine app_mr (by simp; exact ⟨rfl, rfl⟩) (by simp) (by simp) (by simp) my (RowAt.own1 (by simp)) (by rw [hly]; simp at hlt ⊢; omega) (fun c' g' hm' hs6 hl6 => ?_)
        have hep6 := hs6.1
        have hep5 := hz5.1
        have hbl := s5.keep hs6 fun k hk => .inl (s5.hlabs.1 k hk)
        have hlab : ∀ k ∈ labs tc, k ∈ ta := s1.hlabs.1
        obtain ⟨a', s6, ha'⟩ := add g' c' _ _ [] hm' hs6 hl6 (hT2 g') List.nodup_nil (fun k hk => by
          have h9 := hnw k ((fun k (hk : k ∈ []) => by simp at hk) k hk)
          refine ⟨by omega, fun h8 => by have := s1.lt k h8; omega, fun h8 => ?_⟩
          rcases hl6 k h8 with h7 | h7
          · have := s1.lt k (by simp [hlab k h7]); omega
          · omega) S.tables[k] rfl
        have ft : ∀ k : Lab, k.1 < g.ep → k.1 < h.ep + 2 → g'.box k = g.box k := fun k hk hk2 => by
          rw [hs6.2 k (by omega) fun h9 => by have := hnew k (by simp [hlab k h9]); omega]
          exact ((hz4.trans hs2).trans hz5).2 k hk (by simp)
        have hne1 : ((h.ep, 16) : Lab) ≠ p3 := fun he => by rw [← he] at hp3; have h9 : h.ep + 2 ≤ h.ep := hp3; omega
        have hne2 : ((h.ep + 1, 32) : Lab) ≠ p3 := fun he => by rw [← he] at hp3; have h9 : h.ep + 2 ≤ h.ep + 1 := hp3; omega
        simp [hn, h3', hbl]
        refine CutK.of ⟨⟨c', fc, oc, a', fa, oa, by simp [hn], by simp [h1'], by simp [h2'], by simp [h3'], ?_, ?_, by simpa [List.take_append_getElem hlt] using s6, fun k hk => ?_, hp3, ((hs.trans ((hz4.trans hs2).trans hz5)).trans' hs6 fun k hk => .inr (by have := hnew k (by simp [hlab k hk]); omega)).setBox (.inr (by omega))⟩, by simp [h13], by simp [h14], by simp [h15]⟩
        · simpa [hne1, ft (h.ep, 16) (by simp; omega) (by simp)] using b1
        · simpa [hne2, ft (h.ep + 1, 32) (by simp; omega) (by simp)] using b2
        · simp only [List.mem_append] at hk
          rcases hk with hk | hk
          · rcases ha' k hk with h9 | h9 | h9
            · exact hnew k (by simp [h9])
            · have := hnw k ((fun k (hk : k ∈ []) => by simp at hk) k h9); omega
            · omega
          · exact hnew k (by simp only [List.mem_append]; exact .inr hk)
      · skip
        have hz5 : Same g2 ((g2.setBox (g2.ep, 16 * 23) [c0, c1, c2]).next) [] := (Same.refl.setBox (.inr (Nat.le_refl _))).next
        simp only [Nat.reduceMul] at hz5
        have s5 := s1.frame ((hz4.trans hs2).trans hz5)
        obtain ⟨ys, my, hly, add⟩ := s5.addT
        simp [hn]
        refine app_mr (by simp; exact ⟨rfl, rfl⟩) (by simp) (by simp) (by simp) my (RowAt.new1 (x := [c0, c1, c2]) (by simp) (by simp)) (by rw [hly]; simp at hlt ⊢; omega) (fun c' g' hm' hs6 hl6 => ?_)
        have hep6 := hs6.1
        have hep5 := hz5.1
        have hbl := s5.keep hs6 fun k hk => .inl (s5.hlabs.1 k hk)
        have hlab : ∀ k ∈ labs tc, k ∈ ta := s1.hlabs.1
        obtain ⟨a', s6, ha'⟩ := add g' c' _ _ ls2 hm' hs6 hl6 (o2.frame fun k hk => by have h9 := hnw k hk; rw [hs6.2 k (by omega) fun h8 => by have := s1.lt k (by simp [s1.hlabs.1 k h8]); omega]; exact hz5.2 k h9.2 (by simp)) nd2 (fun k hk => by
          have h9 := hnw k ((fun _ h => h) k hk)
          refine ⟨by omega, fun h8 => by have := s1.lt k h8; omega, fun h8 => ?_⟩
          rcases hl6 k h8 with h7 | h7
          · have := s1.lt k (by simp [hlab k h7]); omega
          · omega) S.tables[k] rfl
        have ft : ∀ k : Lab, k.1 < g.ep → k.1 < h.ep + 2 → g'.box k = g.box k := fun k hk hk2 => by
          rw [hs6.2 k (by omega) fun h9 => by have := hnew k (by simp [hlab k h9]); omega]
          exact ((hz4.trans hs2).trans hz5).2 k hk (by simp)
        have hne1 : ((h.ep, 16) : Lab) ≠ p3 := fun he => by rw [← he] at hp3; have h9 : h.ep + 2 ≤ h.ep := hp3; omega
        have hne2 : ((h.ep + 1, 32) : Lab) ≠ p3 := fun he => by rw [← he] at hp3; have h9 : h.ep + 2 ≤ h.ep + 1 := hp3; omega
        simp [hn, h3', hbl]
        refine CutK.of ⟨⟨c', fc, oc, a', fa, oa, by simp [hn], by simp [h1'], by simp [h2'], by simp [h3'], ?_, ?_, by simpa [List.take_append_getElem hlt] using s6, fun k hk => ?_, hp3, ((hs.trans ((hz4.trans hs2).trans hz5)).trans' hs6 fun k hk => .inr (by have := hnew k (by simp [hlab k hk]); omega)).setBox (.inr (by omega))⟩, by simp [h13], by simp [h14], by simp [h15]⟩
        · simpa [hne1, ft (h.ep, 16) (by simp; omega) (by simp)] using b1
        · simpa [hne2, ft (h.ep + 1, 32) (by simp; omega) (by simp)] using b2
        · simp only [List.mem_append] at hk
          rcases hk with hk | hk
          · rcases ha' k hk with h9 | h9 | h9
            · exact hnew k (by simp [h9])
            · have := hnw k ((fun _ h => h) k h9); omega
            · omega
          · exact hnew k (by simp only [List.mem_append]; exact .inr hk)
    · rintro e g' ⟨hI, h13, h14, h15⟩
      have hn := hI
      obtain ⟨_, _, _, _, _, _, hn, h1', h2', h3', -⟩ := hn
      simp [hn, h15, hw]
      obtain ⟨tc2, fc2, oc2, ta2, fa2, oa2, -, -, -, -, q⟩ := hI
      exact BackF.of () ⟨⟨⟨tc2, fc2, oc2, ta2, fa2, oa2, by simp [hn], by simp [h1'], by simp [h2'], by simp [h3'], q⟩, by simp [h13], by simp [h14], by simp⟩, hm⟩
  · rintro _ e g ⟨⟨tc, fc, oc, ta, fa, oa, hn, h1', h2', h3', b1, b2, s1, hnew, hp3, hs⟩, h13, h14, h15⟩ _
    rw [List.take_length] at s1
    simp [hn, h1', h14, h15, b1]
    intro _
    refine Wait.for (xs := S.fks) (s0 := ()) (k := fun _ => some ()) (body := fun _ _ s next => next s) (r := ()) (fun k _ e g => ClI h p3 S ⟨S.tables, S.fks.take k, S.cons⟩ (S.enc.map C.d) e g ∧ e.get 28 = .one (.d (.sl (S.fks.map Fk.enc))) ∧ e.get 29 = .one (.d (.int .i64 (S.fks.length : Int))) ∧ e.get 30 = .one (.d (.int .i64 (k : Int)))) (trivF _ _ _) ⟨⟨tc, fc, oc, ta, fa, oa, by simp [hn], by simp [h1'], by simp [h2'], by simp [h3'], b1, b2, by simpa using s1, hnew, hp3, hs⟩, by simp, by simp, by simp⟩ ?_ ?_
    · rintro k _ e g ⟨⟨tc, fc, oc, ta, fa, oa, hn, h1', h2', h3', b1, b2, s1, hnew, hp3, hs⟩, h28, h29, h30⟩ hlt hm
      have hw : IntKind.i64.wrap ((k : Int) + 1) = (k : Int) + 1 := IntWalk.i64_in _ (by omega)
      have hF := l5 _ (List.getElem_mem hlt)
      have hgp : h.ep + 2 < g.ep := by have := s1.lt p3 (by simp); omega
      simp [hn, h28, h29, h30, hlt]
      refine callK_heap (h_slices_Clone_Int _ _ _ (RowAt.data (n := 1) (ts := S.fks[k].cols.map encI) (by simp) (by simpa using hF)) _ (fun pc g2' mp hs2' hlp hb2 => ?_))
      have hz4' : Same g ((g.setBox (g.ep, 112) [C.d (D.str ByteArray.empty), C.nil, C.d (D.str ByteArray.empty)]).next.setBox (g.ep, 112) (S.fks[k].enc.map C.d)) [] := ((Same.refl.setBox (.inr (Nat.le_refl _))).next).setBox (.inr (Nat.le_refl _))
      have bz7 := hb2 (g.ep, 112) _ (by simp; rfl)
      simp only [Fk.enc, List.map_cons, List.map_nil] at hz4'
      have hep2' := hs2'.1
      simp at hep2' hlp
      have hz4 : Same g (g2'.setBox (g.ep, 112) [.d (.str S.fks[k].table), pc, .d (.str S.fks[k].ref)]) [] := (hz4'.trans hs2').setBox (.inr (Nat.le_refl _))
      have hoF0 : Ow (g2'.setBox (g.ep, 112) [.d (.str S.fks[k].table), pc, .d (.str S.fks[k].ref)]) FkSh [.d (.str S.fks[k].table), pc, .d (.str S.fks[k].ref)] S.fks[k].enc (labs pc) := by
        refine .data rfl ?_
        have := Ow.rowD (es := [.d]) (n := 1) (ts := S.fks[k].cols.map encI) (mp.frame (h' := g2'.setBox (g.ep, 112) [.d (.str S.fks[k].table), pc, .d (.str S.fks[k].ref)]) fun q hq => by
          have h9 := hlp q.1 q.2 hq
          have : q ≠ (g.ep, 112) := fun he => by have h8 : q.1 = g.ep := by rw [he]
                                                 omega
          simp [this]) rfl (by simp) (Ow.data (c := .d (.str S.fks[k].ref)) (x := .str S.fks[k].ref) rfl .nil)
        simpa using this
      have hnw0 : ∀ q ∈ labs pc, g.ep ≤ q.1 ∧ q.1 < g2'.ep := fun q hq => by have := hlp q.1 q.2 hq; omega
      have b70 : (g2'.setBox (g.ep, 112) [.d (.str S.fks[k].table), pc, .d (.str S.fks[k].ref)]).box (g.ep, 112) = some [.d (.str S.fks[k].table), pc, .d (.str S.fks[k].ref)] := by simp
      have hepx : (g2'.setBox (g.ep, 112) [.d (.str S.fks[k].table), pc, .d (.str S.fks[k].ref)]).ep = g2'.ep := by simp
      have bz3 : (g2'.setBox (g.ep, 112) [.d (.str S.fks[k].table), pc, .d (.str S.fks[k].ref)]).box p3 = some [tc, fc, oc] := (s1.frame hz4).box
      try simp at bz7
      simp [hn, bz7]
      have hp3g := s1.lt p3 (by simp)
      have hnp : ¬ p3 = (g.ep, 112) := fun he => by rw [he] at hp3g; simp at hp3g
      have bz3' : g2'.box p3 = some [tc, fc, oc] := (s1.frame (hz4'.trans hs2')).box
      have hs2 : Same (g2'.setBox (g.ep, 112) [.d (.str S.fks[k].table), pc, .d (.str S.fks[k].ref)]) (g2'.setBox (g.ep, 112) [.d (.str S.fks[k].table), pc, .d (.str S.fks[k].ref)]) [] := .refl
      have hnw : ∀ q ∈ labs pc, g.ep ≤ q.1 ∧ q.1 < (g2'.setBox (g.ep, 112) [.d (.str S.fks[k].table), pc, .d (.str S.fks[k].ref)]).ep := fun q hq => by have := hnw0 q hq; omega
      have hg2 := hs.1
      have hgz := hz4.1
      have hep2 := hs2.1
      simp [hn, h3', hnp, bz3']
      refine bld_ow (x := [.d (.str S.fks[k].table), pc, .d (.str S.fks[k].ref)]) (by simp [toDs]; cases pc.toD <;> rfl) (by simp) (fun d hd2 => ?_) (fun hd2 => ?_)
      · obtain ⟨rfl, hT2⟩ := hoF0.ofD hd2
        have hz5 : Same (g2'.setBox (g.ep, 112) [.d (.str S.fks[k].table), pc, .d (.str S.fks[k].ref)]) (((g2'.setBox (g.ep, 112) [.d (.str S.fks[k].table), pc, .d (.str S.fks[k].ref)]).setArr (g2'.ep, 16 * 41) (some (1, 3))).next) [] := Same.refl.setArr.next
        simp only [Nat.reduceMul] at hz5
        have s5 := s1.frame ((hz4.trans hs2).trans hz5)
        obtain ⟨ys, my, hly, add⟩ := s5.addF
        simp [hn]
        refine app_mr (by simp; exact ⟨rfl, rfl⟩) (by simp) (by simp) (by simp) my (RowAt.own1 (by simp)) (by rw [hly]; simp at hlt ⊢; omega) (fun c' g' hm' hs6 hl6 => ?_)
        have hep6 := hs6.1
        have hep5 := hz5.1
        have hbl := s5.keep hs6 fun k hk => .inr (.inl (s5.hlabs.2.1 k hk))
        have hlab : ∀ k ∈ labs fc, k ∈ fa := s1.hlabs.2.1
        obtain ⟨a', s6, ha'⟩ := add g' c' _ _ [] hm' hs6 hl6 (hT2 g') List.nodup_nil (fun k hk => by
          have h9 := hnw k ((fun q (hq : q ∈ []) => by simp at hq) k hk)
          refine ⟨by omega, fun h8 => by have := s1.lt k h8; omega, fun h8 => ?_⟩
          rcases hl6 k h8 with h7 | h7
          · have := s1.lt k (by simp [hlab k h7]); omega
          · omega) S.fks[k] rfl
        have ft : ∀ k : Lab, k.1 < g.ep → k.1 < h.ep + 2 → g'.box k = g.box k := fun k hk hk2 => by
          rw [hs6.2 k (by omega) fun h9 => by have := hnew k (by simp [hlab k h9]); omega]
          exact ((hz4.trans hs2).trans hz5).2 k hk (by simp)
        have hne1 : ((h.ep, 16) : Lab) ≠ p3 := fun he => by rw [← he] at hp3; have h9 : h.ep + 2 ≤ h.ep := hp3; omega
        have hne2 : ((h.ep + 1, 32) : Lab) ≠ p3 := fun he => by rw [← he] at hp3; have h9 : h.ep + 2 ≤ h.ep + 1 := hp3; omega
        simp [hn, h3', hbl, h30, hw]
        refine BackF.of () ⟨⟨⟨tc, c', oc, ta, a', oa, by simp [hn], by simp [h1'], by simp [h2'], by simp [h3'], ?_, ?_, by simpa [List.take_append_getElem hlt] using s6, fun k hk => ?_, hp3, ((hs.trans ((hz4.trans hs2).trans hz5)).trans' hs6 fun k hk => .inr (by have := hnew k (by simp [hlab k hk]); omega)).setBox (.inr (by omega))⟩, by simp [h28], by simp [h29], by simp⟩, hm⟩
        · simpa [hne1, ft (h.ep, 16) (by simp; omega) (by simp)] using b1
        · simpa [hne2, ft (h.ep + 1, 32) (by simp; omega) (by simp)] using b2
        · simp only [List.mem_append] at hk
          rcases hk with hk | hk | hk
          · exact hnew k (by simp [hk])
          · rcases ha' k hk with h9 | h9 | h9
            · exact hnew k (by simp [h9])
            · have := hnw k ((fun q (hq : q ∈ []) => by simp at hq) k h9); omega
            · omega
          · exact hnew k (by simp [hk])
      · skip
        have hz5 : Same (g2'.setBox (g.ep, 112) [.d (.str S.fks[k].table), pc, .d (.str S.fks[k].ref)]) (((g2'.setBox (g.ep, 112) [.d (.str S.fks[k].table), pc, .d (.str S.fks[k].ref)]).setBox (g2'.ep, 16 * 41) [.d (.str S.fks[k].table), pc, .d (.str S.fks[k].ref)]).next) [] := (Same.refl.setBox (.inr (Nat.le_refl _))).next
        simp only [Nat.reduceMul] at hz5
        have s5 := s1.frame ((hz4.trans hs2).trans hz5)
        obtain ⟨ys, my, hly, add⟩ := s5.addF
        simp [hn]
        refine app_mr (by simp; exact ⟨rfl, rfl⟩) (by simp) (by simp) (by simp) my (RowAt.new1 (x := [.d (.str S.fks[k].table), pc, .d (.str S.fks[k].ref)]) (by simp) (by simp)) (by rw [hly]; simp at hlt ⊢; omega) (fun c' g' hm' hs6 hl6 => ?_)
        have hep6 := hs6.1
        have hep5 := hz5.1
        have hbl := s5.keep hs6 fun k hk => .inr (.inl (s5.hlabs.2.1 k hk))
        have hlab : ∀ k ∈ labs fc, k ∈ fa := s1.hlabs.2.1
        obtain ⟨a', s6, ha'⟩ := add g' c' _ _ (labs pc) hm' hs6 hl6 (hoF0.frame fun k hk => by have h9 := hnw k hk; rw [hs6.2 k (by omega) fun h8 => by have := s1.lt k (by simp [s1.hlabs.2.1 k h8]); omega]; exact hz5.2 k h9.2 (by simp)) labs_nodup (fun k hk => by
          have h9 := hnw k ((fun _ h => h) k hk)
          refine ⟨by omega, fun h8 => by have := s1.lt k h8; omega, fun h8 => ?_⟩
          rcases hl6 k h8 with h7 | h7
          · have := s1.lt k (by simp [hlab k h7]); omega
          · omega) S.fks[k] rfl
        have ft : ∀ k : Lab, k.1 < g.ep → k.1 < h.ep + 2 → g'.box k = g.box k := fun k hk hk2 => by
          rw [hs6.2 k (by omega) fun h9 => by have := hnew k (by simp [hlab k h9]); omega]
          exact ((hz4.trans hs2).trans hz5).2 k hk (by simp)
        have hne1 : ((h.ep, 16) : Lab) ≠ p3 := fun he => by rw [← he] at hp3; have h9 : h.ep + 2 ≤ h.ep := hp3; omega
        have hne2 : ((h.ep + 1, 32) : Lab) ≠ p3 := fun he => by rw [← he] at hp3; have h9 : h.ep + 2 ≤ h.ep + 1 := hp3; omega
        simp [hn, h3', hbl, h30, hw]
        refine BackF.of () ⟨⟨⟨tc, c', oc, ta, a', oa, by simp [hn], by simp [h1'], by simp [h2'], by simp [h3'], ?_, ?_, by simpa [List.take_append_getElem hlt] using s6, fun k hk => ?_, hp3, ((hs.trans ((hz4.trans hs2).trans hz5)).trans' hs6 fun k hk => .inr (by have := hnew k (by simp [hlab k hk]); omega)).setBox (.inr (by omega))⟩, by simp [h28], by simp [h29], by simp⟩, hm⟩
        · simpa [hne1, ft (h.ep, 16) (by simp; omega) (by simp)] using b1
        · simpa [hne2, ft (h.ep + 1, 32) (by simp; omega) (by simp)] using b2
        · simp only [List.mem_append] at hk
          rcases hk with hk | hk | hk
          · exact hnew k (by simp [hk])
          · rcases ha' k hk with h9 | h9 | h9
            · exact hnew k (by simp [h9])
            · have := hnw k ((fun _ h => h) k h9); omega
            · omega
          · exact hnew k (by simp [hk])
    · rintro _ e g ⟨⟨tc, fc, oc, ta, fa, oa, hn, h1', h2', h3', b1, b2, s1, hnew, hp3, hs⟩, h28, h29, h30⟩ _
      rw [List.take_length] at s1
      have hb3 := s1.box
      simp [hn, h2', h3', h29, h30, hb3, b2, retH, resVs, resV]
      obtain ⟨qt, qf, qo, rfl, rfl, rfl, sc⟩ := s1
      have hsF : Same h (g.setBox (h.ep + 1, 32) [tc, fc, oc]) [] := hs.setBox (.inr (by simp))
      have kb : ∀ k ∈ plabs tc qt ++ (plabs fc qf ++ plabs oc qo), (g.setBox (h.ep + 1, 32) [tc, fc, oc]).box k = g.box k := fun k hk => by
        have h9 := hnew k hk
        have : k ≠ (h.ep + 1, 32) := fun he => by rw [he] at h9; simp at h9
        simp [this]
      simp only [List.mem_append] at kb
      have hndA := sc.nd
      rw [List.nodup_cons] at hndA
      refine hk tc fc oc qt qf qo _ (sc.t.frame fun k hk => kb k (.inl hk)) (sc.f.frame fun k hk => kb k (.inr (.inl hk))) (sc.o.frame fun k hk => kb k (.inr (.inr hk))) hndA.2 (fun k hk => ⟨by have := hnew k hk; omega, by have := sc.lt k (List.mem_cons_of_mem _ hk); simpa using this⟩) hsF
end Go.Proofs.YthgepknlibmjcaaGreat
end
section
/-
  evolution.apply, in place.
-/
namespace Go.Proofs.YthgepknlibmjcaaGreat
open Go Go.Am
set_option linter.unusedVariables false
set_option linter.unusedSimpArgs false
def m_evolution_apply (S : Sch) (x : Stp) : Option (Sch × Int) :=
  bif x.kind == 13 then chkK (S.cons.length < LIM) (some ({ S with cons := S.cons ++ [x.cons] }, 0)) else
  bif x.kind == 14 then m_evolution_dropConstraint S x.cons else
  bif x.kind == 15 then chkK (S.fks.length < LIM) (some ({ S with fks := S.fks ++ [x.fk] }, 0)) else
  bif x.kind == 16 then m_evolution_dropForeignKey S x.fk else
  bif x.kind == 10 then m_evolution_createTable S x.newTable else
  bindK (m_schema_FindTable S x.table) fun v => bif !v.2 then some (S, 4) else
  bif x.kind == 4 then m_evolution_renameTable S v.1.toNat x.newName else
  bif x.kind == 6 then m_evolution_splitTable S v.1.toNat x else
  bif x.kind == 7 then m_evolution_joinTables S v.1.toNat x.other else
  bif x.kind == 8 then m_evolution_partitionTable S v.1.toNat x else
  bif x.kind == 9 then m_evolution_mergeTables S v.1.toNat x else
  bif x.kind == 11 then m_evolution_dropTable S x.table else
  bif x.kind == 12 then m_evolution_concatColumns S v.1.toNat x else
  bif x.kind == 1 then m_evolution_addColumn S v.1.toNat x else m_evolution_alterColumn S v.1.toNat x
theorem findTable_nn {S : Sch} {nm : ByteArray} {v : Int × Bool} (h : Is (m_schema_FindTable S nm) v) : 0 ≤ v.1 := by
  obtain ⟨k, _, h⟩ := Is.bind h
  have := r_ret h
  rw [← this]
  show 0 ≤ (if k < 0 then 0 else k)
  split <;> omega
theorem KeepS.sub {h : HS} {l : Lab} {ls ls' : List Lab} {S' : Sch} {v : V} {K : V → HS → Prop} (hk : KeepS h l ls S' v K) (hs : ∀ k ∈ ls', k ∈ ls) : KeepS h l ls' S' v K :=
  fun h' lz ho hm hl => hk h' lz ho (hm.mono fun k hk => by simp only [List.mem_cons] at hk ⊢; exact hk.imp_right (hs k)) fun k hk => (hl k hk).imp_left (hs k)
theorem KeepS.to {h : HS} {l : Lab} {ls : List Lab} {S' : Sch} {v : V} {K K' : V → HS → Prop} (hk : KeepS h l ls S' v K) (hs : ∀ h', K v h' → K' v h') : KeepS h l ls S' v K' :=
  fun h' lz ho hm hl => hs _ (hk h' lz ho hm hl)
set_option maxRecDepth 20000 in
set_option maxHeartbeats 2000000 in
theorem h_evolution_apply (h : HS) (l : Lab) (tc fc oc : C) (xs : List C) (ta fa oa lx : List Lab) (S S' : Sch) (x : Stp) (r : Int) (hm : Is (m_evolution_apply S x) (S', r)) (s : Sc h l S tc fc oc ta fa oa) (hx : Ow h StpSh xs x.enc lx) (hd : lx.Nodup ∧ ∀ k ∈ lx, k.1 < h.ep ∧ k ∉ l :: (ta ++ (fa ++ oa))) (K : V → HS → Prop)
    (hk : KeepS h l (ta ++ (fa ++ oa) ++ lx) S' (.one (.d (.int .i64 r))) K) :
    HSpec Tryz.prog 154 [.one (.ptr l 0), .agg xs] h K := by
  refine HSpec.good Tryz.func154 rfl (by kernel_rfl) fun hg => ?_
  obtain ⟨x6, x12, x13, x22, a6, a12, a13, a22, rfl, rfl, -, -, -, -⟩ := hx.stp
  refine HSpec.of_vc Tryz.func154 rfl (by kernel_rfl) (n := 120) rfl rfl (by simp) ?_
  have hnn : stpC x x6 x12 x13 x22 ≠ [] := by simp [stpC]
  have hs0 : Same h ((h.setBox (h.ep, 48) (stpC x x6 x12 x13 x22)).next) [] := (Same.refl.setBox (.inr (Nat.le_refl _))).next
  have s0 := s.frame hs0
  have hb0 := s0.box
  have bx3 : (h.setBox (h.ep, 48) (stpC x x6 x12 x13 x22)).next.box (h.ep, 48) = some (stpC x x6 x12 x13 x22) := by simp
  have hx0 : Ow ((h.setBox (h.ep, 48) (stpC x x6 x12 x13 x22)).next) StpSh (stpC x x6 x12 x13 x22) x.enc (a6 ++ (a12 ++ (a13 ++ a22))) := hx.frame fun k hk => hs0.2 k (hd.2 k hk).1 (by simp)
  have hd0 : ∀ k ∈ a6 ++ (a12 ++ (a13 ++ a22)), k.1 < ((h.setBox (h.ep, 48) (stpC x x6 x12 x13 x22)).next).ep ∧ k ∉ l :: (ta ++ (fa ++ oa)) := fun k hk => ⟨by have := (hd.2 k hk).1; simp; omega, (hd.2 k hk).2⟩
  have hk0 : KeepS ((h.setBox (h.ep, 48) (stpC x x6 x12 x13 x22)).next) l (ta ++ (fa ++ oa) ++ (a6 ++ (a12 ++ (a13 ++ a22)))) S' (.one (.d (.int .i64 r))) K := hk.after hs0
  have hk1 : KeepS ((h.setBox (h.ep, 48) (stpC x x6 x12 x13 x22)).next) l (ta ++ (fa ++ oa)) S' (.one (.d (.int .i64 r))) K := hk0.sub fun k hk => List.mem_append_left _ hk
  have e0 : takeN 1 (stpC x x6 x12 x13 x22) = some [.d (.int .i64 x.kind)] := by simp [stpC]
  have e24 : takeN 24 (stpC x x6 x12 x13 x22) = some (stpC x x6 x12 x13 x22) := by simp [stpC]
  have e1 : takeN 1 ((stpC x x6 x12 x13 x22).drop 1) = some [.d (.str x.table)] := by simp [stpC]
  have e1' : takeN 1 ((stpC x x6 x12 x13 x22).tail) = some [.d (.str x.table)] := by simp [stpC]
  have e2 : takeN 1 ((stpC x x6 x12 x13 x22).drop 2) = some [.d (.str x.other)] := by simp [stpC]
  have e4 : takeN 1 ((stpC x x6 x12 x13 x22).drop 4) = some [.d (.str x.newName)] := by simp [stpC]
  have e11 : takeN 3 ((stpC x x6 x12 x13 x22).drop 11) = some [.d (.str x.newTable.name), x12, x13] := by simp [stpC]
  have e14 : takeN 7 ((stpC x x6 x12 x13 x22).drop 14) = some (x.cons.enc.map C.d) := by simp [stpC]
  have e21 : takeN 3 ((stpC x x6 x12 x13 x22).drop 21) = some [.d (.str x.fk.table), x22, .d (.str x.fk.ref)] := by simp [stpC]
  simp only [Cons.enc, List.map_cons, List.map_nil] at e14
  unfold m_evolution_apply at hm
  simp [hnn, e0]
  cases k13 : x.kind == 13 with
  | true =>
    simp only [k13, cond_true] at hm
    replace hm := hm.chk
    obtain ⟨hlim, hm⟩ := hm
    have e1 := r_ret hm
    simp only [Prod.mk.injEq] at e1
    obtain ⟨rfl, rfl⟩ := e1
    simp [k13]
    generalize (h.setBox (h.ep, 48) (stpC x x6 x12 x13 x22)).next = HX at *
    refine Wait.cut (Plan.then_ [0, 1, 2, 3, 4, 5, 6, 7, 8, 9, 10, 11] .done) follows (by kernel_rfl) (fun e h' => e.n = 120 ∧ ∃ oc' oa', Sc h' l { S with cons := S.cons ++ [x.cons] } tc fc oc' ta fa oa' ∧ Same HX h' (l :: oa) ∧ ∀ k ∈ oa', k ∈ oa ∨ HX.ep ≤ k.1) ?_ ?_
    · simp [hb0, bx3, e14, Plan.then_, vcPlan, planOps, isCallAt, callKind]
      have hz : Same HX ((HX.setArr (HX.ep, 16 * 18) (some (1, 7))).next) [] := Same.refl.setArr.next
      simp only [Nat.reduceMul] at hz
      have s1 := s0.frame hz
      obtain ⟨ys, my, hly, add⟩ := s1.addO
      refine app_mr (by simp; exact ⟨rfl, rfl⟩) (by simp) (by simp) (by simp) my (RowAt.own1 (by simp)) (by rw [hly]; exact hlim) (fun c' h' hm' hs6 hl6 => ?_)
      have hbl := s1.keep hs6 fun k hk => .inr (.inr (s1.hlabs.2.2 k hk))
      obtain ⟨oa', s6, hoa'⟩ := add h' c' x.cons (by simpa using hm') hs6 hl6
      have hepz := hz.1
      simp [hbl]
      exact CutK.of ⟨by simp, c', oa', s6, ((hz.mono (by simp)).trans (hs6.mono fun k hk => List.mem_cons_of_mem _ (s1.hlabs.2.2 k hk))).setBox (.inl (by simp)), fun k hk => (hoa' k hk).imp_right fun h9 => by omega⟩
    · rintro e h' ⟨hn, oc', oa', s6, hs6, hoa'⟩
      simp [hn]
      refine hk1 _ _ s6.ows (hs6.mono fun k hk => by simp only [List.mem_cons, List.mem_append] at hk ⊢; exact hk.imp_right fun h => .inr (.inr h)) fun k hk => ?_
      simp only [List.mem_append] at hk ⊢
      rcases hk with hk | hk | hk
      · exact .inl (.inl hk)
      · exact .inl (.inr (.inl hk))
      · exact (hoa' k hk).imp_left fun h => .inr (.inr h)
  | false =>
  simp only [k13, cond_false] at hm
  cases k14 : x.kind == 14 with
  | true =>
    simp only [k14, cond_true] at hm
    simp [k13, k14, e14]
    refine callK_heap (h_evolution_dropConstraint _ l _ S S' x.cons r hm s0.ows _ (hk1.to fun h' hK => ?_))
    simp
    exact hK
  | false =>
  simp only [k14, cond_false] at hm
  cases k15 : x.kind == 15 with
  | true =>
    simp only [k15, cond_true] at hm
    replace hm := hm.chk
    obtain ⟨hlim, hm⟩ := hm
    have e1 := r_ret hm
    simp only [Prod.mk.injEq] at e1
    obtain ⟨rfl, rfl⟩ := e1
    simp [k13, k14, k15]
    obtain ⟨y6, y12, y13, y22, b6, b12, b13, b22, f1, f2, p6, p12, p13, p22⟩ := hx0.stp
    obtain ⟨rfl, rfl, rfl, rfl⟩ : x6 = y6 ∧ x12 = y12 ∧ x13 = y13 ∧ x22 = y22 := by simpa [stpC] using f1
    have hnd0 := hd.1
    rw [f2] at hd0 hk0 hnd0
    have hoF : Ow ((h.setBox (h.ep, 48) (stpC x x6 x12 x13 x22)).next) FkSh [.d (.str x.fk.table), x22, .d (.str x.fk.ref)] x.fk.enc b22 := by
      have := Ow.data (c := .d (.str x.fk.table)) (x := .str x.fk.table) rfl (p22.join (.data (c := .d (.str x.fk.ref)) (x := .str x.fk.ref) rfl .nil))
      simp only [List.append_nil] at this
      exact this
    have hndb : b22.Nodup := by
      simp only [List.nodup_append] at hnd0
      exact hnd0.2.1.2.1.2.1
    have hdb : ∀ k ∈ b22, k.1 < ((h.setBox (h.ep, 48) (stpC x x6 x12 x13 x22)).next).ep ∧ k ∉ l :: (ta ++ (fa ++ oa)) := fun k hk => hd0 k (by simp [hk])
    have hk2 := hk0.sub (ls' := ta ++ (fa ++ oa) ++ b22) (fun k hk => by simp only [List.mem_append] at hk ⊢; exact hk.imp_right fun h => .inr (.inr (.inr h)))
    clear hk0 hk1 hx0 hd0
    generalize hHX : (h.setBox (h.ep, 48) (stpC x x6 x12 x13 x22)).next = HX at *
    refine Wait.cut (Plan.then_ [0, 1, 2, 3, 4, 5, 6, 7, 8, 9, 10, 11] .done) follows (by kernel_rfl) (fun e h' => e.n = 120 ∧ ∃ fc' fa', Sc h' l { S with fks := S.fks ++ [x.fk] } tc fc' oc ta fa' oa ∧ Same HX h' (l :: fa) ∧ ∀ k ∈ fa', k ∈ fa ∨ k ∈ b22 ∨ HX.ep ≤ k.1) ?_ ?_
    · simp [hb0, bx3, e21, Plan.then_, vcPlan, planOps, isCallAt, callKind]
      refine bld_ow (x := [.d (.str x.fk.table), x22, .d (.str x.fk.ref)]) (by simp [toDs]; cases x22.toD <;> rfl) (by simp) (fun d hd2 => ?_) (fun hd2 => ?_)
      · obtain ⟨rfl, hT2⟩ := hoF.ofD hd2
        have hz : Same HX ((HX.setArr (HX.ep, 16 * 37) (some (1, 3))).next) [] := Same.refl.setArr.next
        simp only [Nat.reduceMul] at hz
        have s1 := s0.frame hz
        obtain ⟨ys, my, hly, add⟩ := s1.addF
        simp
        refine app_mr (by simp; exact ⟨rfl, rfl⟩) (by simp) (by simp) (by simp) my (RowAt.own1 (by simp)) (by rw [hly]; exact hlim) (fun c' h' hm' hs6 hl6 => ?_)
        have hbl := s1.keep hs6 fun k hk => .inr (.inl (s1.hlabs.2.1 k hk))
        obtain ⟨fa', s6, hfa'⟩ := add h' c' _ _ [] hm' hs6 hl6 (hT2 h') List.nodup_nil (by simp) x.fk rfl
        have hepz := hz.1
        simp [hbl]
        exact CutK.of ⟨by simp, c', fa', s6, ((hz.mono (by simp)).trans (hs6.mono fun k hk => List.mem_cons_of_mem _ (s1.hlabs.2.1 k hk))).setBox (.inl (by simp)), fun k hk => (hfa' k hk).imp_right fun h9 => .inr (by rcases h9 with h9 | h9; simp at h9; omega)⟩
      · have hz : Same HX ((HX.setBox (HX.ep, 16 * 37) [.d (.str x.fk.table), x22, .d (.str x.fk.ref)]).next) [] := (Same.refl.setBox (.inr (Nat.le_refl _))).next
        simp only [Nat.reduceMul] at hz
        have s1 := s0.frame hz
        obtain ⟨ys, my, hly, add⟩ := s1.addF
        simp
        refine app_mr (by simp; exact ⟨rfl, rfl⟩) (by simp) (by simp) (by simp) my (RowAt.new1 (x := [.d (.str x.fk.table), x22, .d (.str x.fk.ref)]) (by simp) (by simp)) (by rw [hly]; exact hlim) (fun c' h' hm' hs6 hl6 => ?_)
        have hbl := s1.keep hs6 fun k hk => .inr (.inl (s1.hlabs.2.1 k hk))
        have hepz := hz.1
        have hep6 := hs6.1
        obtain ⟨fa', s6, hfa'⟩ := add h' c' _ _ b22 hm' hs6 hl6 (hoF.frame fun k hk => by
          have h9 := hdb k hk
          simp only [List.mem_cons, List.mem_append, not_or] at h9
          rw [hs6.2 k (by omega) fun h8 => h9.2.2.2.1 (s1.hlabs.2.1 k h8)]
          exact hz.2 k h9.1 (by simp)) hndb (fun k hk => by
          have h9 := hdb k hk
          refine ⟨by omega, h9.2, fun h8 => ?_⟩
          simp only [List.mem_cons, List.mem_append, not_or] at h9
          rcases hl6 k h8 with h7 | h7
          · exact h9.2.2.2.1 (s1.hlabs.2.1 k h7)
          · omega) x.fk rfl
        simp [hbl]
        exact CutK.of ⟨by simp, c', fa', s6, ((hz.mono (by simp)).trans (hs6.mono fun k hk => List.mem_cons_of_mem _ (s1.hlabs.2.1 k hk))).setBox (.inl (by simp)), fun k hk => (hfa' k hk).imp_right fun h9 => h9.imp_right fun h8 => by omega⟩
    · rintro e h' ⟨hn, fc', fa', s6, hs6, hfa'⟩
      simp [hn]
      refine hk2 _ _ s6.ows (hs6.mono fun k hk => by simp only [List.mem_cons, List.mem_append] at hk ⊢; exact hk.imp_right fun h => .inl (.inr (.inl h))) fun k hk => ?_
      simp only [List.mem_append] at hk ⊢
      rcases hk with hk | hk | hk
      · exact .inl (.inl (.inl hk))
      · rcases hfa' k hk with h9 | h9 | h9
        · exact .inl (.inl (.inr (.inl h9)))
        · exact .inl (.inr h9)
        · exact .inr h9
      · exact .inl (.inl (.inr (.inr hk)))
  | false =>
  simp only [k15, cond_false] at hm
  cases k16 : x.kind == 16 with
  | true =>
    simp only [k16, cond_true] at hm
    simp [k13, k14, k15, k16, e21]
    refine callK_heap (h_evolution_dropForeignKey _ l _ S S' x.fk [.d (.str x.fk.table), x22, .d (.str x.fk.ref)] r hm s0.ows (fun h' hs' => ?_) _ (hk1.to fun h' hK => ?_))
    · have := (hx0.frame (h' := h') fun k hk => hs'.2 k (hd0 k hk).1 (by simp)).stp
      obtain ⟨y6, y12, y13, y22, b6, b12, b13, b22, f1, f2, p6, p12, p13, p22⟩ := this
      obtain ⟨rfl, rfl, rfl, rfl⟩ : x6 = y6 ∧ x12 = y12 ∧ x13 = y13 ∧ x22 = y22 := by simpa [stpC] using f1
      exact ⟨.data rfl, p22.nfrz, .data rfl, trivial⟩
    · simp
      exact hK
  | false =>
  simp only [k16, cond_false] at hm
  cases k10 : x.kind == 10 with
  | true =>
    simp only [k10, cond_true] at hm
    simp [k13, k14, k15, k16, k10, e11]
    obtain ⟨y6, y12, y13, y22, b6, b12, b13, b22, f1, f2, p6, p12, p13, p22⟩ := hx0.stp
    obtain ⟨rfl, rfl, rfl, rfl⟩ : x6 = y6 ∧ x12 = y12 ∧ x13 = y13 ∧ x22 = y22 := by simpa [stpC] using f1
    have hnd0 := hd.1
    rw [f2] at hd0 hk0 hnd0
    refine callK_heap (h_evolution_createTable _ l tc fc oc ta fa oa (b12 ++ (b13 ++ [])) S S' x.newTable r _ hm s0 (.data (c := .d (.str x.newTable.name)) (x := .str x.newTable.name) rfl (p12.join (p13.join .nil))) ⟨?_, fun k hk => ?_⟩ _ ((hk0.sub fun k hk => ?_).to fun h' hK => ?_))
    · simp only [List.nodup_append, List.append_nil, List.mem_append] at hnd0 ⊢
      exact ⟨hnd0.2.1.1, hnd0.2.1.2.1.1, fun a ha b hb => hnd0.2.1.2.2 a ha b (.inl hb)⟩
    · exact hd0 k (by simp only [List.append_nil, List.mem_append] at hk ⊢; exact .inr (hk.imp_right .inl))
    · simp only [List.append_nil, List.mem_append] at hk ⊢
      exact hk.imp_right fun h => .inr (h.imp_right .inl)
    · simp
      exact hK
  | false =>
  simp only [k10, cond_false] at hm
  replace hm := hm.bind
  obtain ⟨v, hv, hm⟩ := hm
  obtain ⟨n, hn1⟩ : ∃ n : Nat, v.1 = n := ⟨v.1.toNat, by have := findTable_nn hv; omega⟩
  simp [k13, k14, k15, k16, k10]
  have hepX : h.ep < ((h.setBox (h.ep, 48) (stpC x x6 x12 x13 x22)).next).ep := by simp
  generalize hHX : (h.setBox (h.ep, 48) (stpC x x6 x12 x13 x22)).next = HX at *
  refine Wait.cut (Plan.then_ [0, 1, 2, 3, 4, 5, 6, 7, 8, 9, 10] .done) follows (by kernel_rfl) (fun e h' => e.n = 120 ∧ e.get 0 = .one (.ptr l 0) ∧ e.get 3 = .one (.ptr (h.ep, 48) 0) ∧ e.get 5 = .one (.d (.int .i64 v.1)) ∧ e.get 6 = .one (.d (.bool v.2)) ∧ h' = HX.next) ?_ ?_
  · simp [hb0, bx3, e1', Plan.then_, vcPlan, planOps, isCallAt, callKind]
    refine callK_heap (HSpec.of_lend (c_schema_FindTable S x.table v hv) ⟨.agg s0.frz, .one (.frz (.data rfl)), trivial⟩ rfl ?_)
    simp
    exact ⟨fun _ _ x => x, CutK.of (by simp)⟩
  · rintro e h' ⟨hn, h0, h3, h5, h6, rfl⟩
    have hs1 : Same HX HX.next [] := Same.refl.next
    have s1 := s0.frame hs1
    have bx31 : HX.next.box (h.ep, 48) = some (stpC x x6 x12 x13 x22) := bx3
    have hx1 := hx0.frame (h' := HX.next) fun k hk => hs1.2 k (hd0 k hk).1 (by simp)
    have hd1 : ∀ k ∈ a6 ++ (a12 ++ (a13 ++ a22)), k.1 < HX.next.ep ∧ k ∉ l :: (ta ++ (fa ++ oa)) := fun k hk => ⟨by have := (hd0 k hk).1; simp; omega, (hd0 k hk).2⟩
    have hk2 := hk1.after hs1
    rw [hn1] at h5
    have hvn : v.1.toNat = n := by omega
    rw [hvn] at hm
    simp [hn, h6]
    cases hv2 : v.2 with
    | false =>
      rw [hv2] at hm
      have e1 := r_ret hm
      simp only [Prod.mk.injEq] at e1
      obtain ⟨rfl, rfl⟩ := e1
      simp [hn]
      exact hk2 _ _ s1.ows .refl (fun k hk => .inl hk)
    | true =>
    simp only [hv2, Bool.not_true, cond_false] at hm
    simp at bx31
    simp [hn, h3, bx31, e0]
    cases k4 : x.kind == 4 with
    | true =>
      simp only [k4, cond_true] at hm
      simp [k4, hn, h0, h3, h5, bx31, e4]
      refine callK_heap (h_evolution_renameTable _ l tc fc oc ta fa oa S S' n x.newName r hm s1 _ (hk2.to fun h' hK => ?_))
      simp [hn]
      exact hK
    | false =>
    simp only [k4, cond_false] at hm
    cases k6 : x.kind == 6 with
    | true =>
      simp only [k6, cond_true] at hm
      simp [k4, k6, hn, h0, h3, h5, bx31, e24]
      refine callK_heap (h_evolution_splitTable _ l tc fc oc _ ta fa oa _ S S' n x r hm s1 hx1 hd1 _ (hk2.to fun h' hK => ?_))
      simp [hn]
      exact hK
    | false =>
    simp only [k6, cond_false] at hm
    cases k7 : x.kind == 7 with
    | true =>
      simp only [k7, cond_true] at hm
      simp [k4, k6, k7, hn, h0, h3, h5, bx31, e2]
      refine callK_heap (h_evolution_joinTables _ l tc fc oc ta fa oa S S' n x.other r hm s1 _ (hk2.to fun h' hK => ?_))
      simp [hn]
      exact hK
    | false =>
    simp only [k7, cond_false] at hm
    cases k8 : x.kind == 8 with
    | true =>
      simp only [k8, cond_true] at hm
      simp [k4, k6, k7, k8, hn, h0, h3, h5, bx31, e24]
      refine callK_heap (h_evolution_partitionTable _ l tc fc oc x6 x12 x13 x22 ta fa oa S S' n x r hm s1 _ (hk2.to fun h' hK => ?_))
      simp [hn]
      exact hK
    | false =>
    simp only [k8, cond_false] at hm
    cases k9 : x.kind == 9 with
    | true =>
      simp only [k9, cond_true] at hm
      simp [k4, k6, k7, k8, k9, hn, h0, h3, h5, bx31, e24]
      refine callK_heap (h_evolution_mergeTables _ l tc fc oc x6 x12 x13 x22 ta fa oa S S' n x r hm s1 _ (hk2.to fun h' hK => ?_))
      simp [hn]
      exact hK
    | false =>
    simp only [k9, cond_false] at hm
    cases k11 : x.kind == 11 with
    | true =>
      simp only [k11, cond_true] at hm
      simp [k4, k6, k7, k8, k9, k11, hn, h0, h3, h5, bx31, e1, e1']
      refine callK_heap (h_evolution_dropTable _ l _ S S' x.table r hm s1.ows _ (hk2.to fun h' hK => ?_))
      simp [hn]
      exact hK
    | false =>
    simp only [k11, cond_false] at hm
    cases k12 : x.kind == 12 with
    | true =>
      simp only [k12, cond_true] at hm
      simp [k4, k6, k7, k8, k9, k11, k12, hn, h0, h3, h5, bx31, e24]
      refine callK_heap (h_evolution_concatColumns _ l tc fc oc _ ta fa oa _ S S' n x r hm s1 hx1 hd1 _ (hk2.to fun h' hK => ?_))
      simp [hn]
      exact hK
    | false =>
    simp only [k12, cond_false] at hm
    cases k1 : x.kind == 1 with
    | true =>
      simp only [k1, cond_true] at hm
      simp [k4, k6, k7, k8, k9, k11, k12, k1, hn, h0, h3, h5, bx31, e24]
      refine callK_heap (h_evolution_addColumn _ l tc fc oc x6 x12 x13 x22 ta fa oa S S' n x r hm s1 _ (hk2.to fun h' hK => ?_))
      simp [hn]
      exact hK
    | false =>
    simp only [k1, cond_false] at hm
    simp [k4, k6, k7, k8, k9, k11, k12, k1, hn, h0, h3, h5, bx31, e24]
    refine callK_heap (h_evolution_alterColumn _ l tc fc oc x6 x12 x13 x22 ta fa oa S S' n x r hm s1 _ (hk2.to fun h' hK => ?_))
    simp [hn]
    exact hK
end Go.Proofs.YthgepknlibmjcaaGreat
end
section
namespace Go.Proofs.YthgepknlibmjcaaGreat
open Go.Am
set_option linter.unusedVariables false
set_option linter.unusedSimpArgs false
def m_schema_equalTables (a : Tbl) (b : Tbl) : Option Bool :=
  (bif strEq a.name b.name then (bindK (m_slices_Equal_Column a.cols b.cols) fun v4 => (bif v4 then (bindK (m_slices_Equal_Int a.pk b.pk) fun v6 => (some v6)) else (some false))) else (some false))
set_option maxRecDepth 20000 in
theorem c_schema_equalTables (a : Tbl) (b : Tbl) (r : Bool) (hm : Is (m_schema_equalTables a b) r) : PSpec Tryz.prog 75 [.agg a.enc, .agg b.enc] (.one (.d (.bool r))) := by
  unfold m_schema_equalTables at hm
  refine PSpec.of_vc Tryz.func75 rfl (by kernel_rfl) (n := 24) rfl rfl (by simp) ?_
  try simp [*]
  refine r_guardT hm ?_ ?_ <;> clear hm <;> intro hc3 hm
  · try simp [*]
    refine r_call (av := [.one (.d (.sl (a.cols.map Col.enc))), .one (.d (.sl (b.cols.map Col.enc)))]) hm (fun v hv => c_slices_Equal_Column _ _ v hv) (by simp [*]) ?_
    clear hm; intro v4 hvv4 hm
    try simp [*]
    refine r_guardT hm ?_ ?_ <;> clear hm <;> intro hc5 hm
    · try simp [*]
      refine r_call (av := [.one (.d (.sl (a.pk.map encI))), .one (.d (.sl (b.pk.map encI)))]) hm (fun v hv => c_slices_Equal_Int _ _ v hv) (by simp [*]) ?_
      clear hm; intro v6 hvv6 hm
      try simp [*]
      obtain rfl := r_ret hm
      exact ret0 (vs := [_]) (by simp [*]; try exact rfl) (by simp [*])
    · try simp [*]
      obtain rfl := r_ret hm
      exact ret0 (vs := [_]) (by simp [*]; try exact rfl) (by simp [*])
  · try simp [*]
    obtain rfl := r_ret hm
    exact ret0 (vs := [_]) (by simp [*]; try exact rfl) (by simp [*])
end Go.Proofs.YthgepknlibmjcaaGreat
end
section
namespace Go.Proofs.YthgepknlibmjcaaGreat
open Go.Am
set_option linter.unusedVariables false
set_option linter.unusedSimpArgs false
def m_schema_EqualTables (a : Tbl) (b : Tbl) : Option Bool :=
  (bindK (m_schema_equalTables a b) fun v3 => (some v3))
set_option maxRecDepth 20000 in
theorem c_schema_EqualTables (a : Tbl) (b : Tbl) (r : Bool) (hm : Is (m_schema_EqualTables a b) r) : PSpec Tryz.prog 173 [.agg a.enc, .agg b.enc] (.one (.d (.bool r))) := by
  unfold m_schema_EqualTables at hm
  refine PSpec.of_vc Tryz.func173 rfl (by kernel_rfl) (n := 8) rfl rfl (by simp) ?_
  try simp [*]
  refine r_call (av := [.agg a.enc, .agg b.enc]) hm (fun v hv => c_schema_equalTables _ _ v hv) (by simp [*]) ?_
  clear hm; intro v3 hvv3 hm
  try simp [*]
  obtain rfl := r_ret hm
  exact ret0 (vs := [_]) (by simp [*]; try exact rfl) (by simp [*])
end Go.Proofs.YthgepknlibmjcaaGreat
end
section
namespace Go.Proofs.YthgepknlibmjcaaGreat
open Go.Am
set_option linter.unusedVariables false
set_option linter.unusedSimpArgs false
def m_evolution_Equal (a : Stp) (b : Stp) : Option Bool :=
  (bif (a.kind == b.kind) then (bif strEq a.table b.table then (bif strEq a.other b.other then (bif strEq a.column b.column then (bif strEq a.newName b.newName then (bif (a.type == b.type) then (bindK (m_slices_Equal_Int a.cols b.cols) fun v9 => (bif v9 then (bif strEq a.op b.op then (bif (a.value.kind == b.value.kind && (a.value.int == b.value.int && (a.value.text == b.value.text))) then (bindK (m_schema_EqualTables a.newTable b.newTable) fun v13 => (bif v13 then (bif (a.cons.table == b.cons.table && (a.cons.left == b.cons.left && (a.cons.op == b.cons.op && (a.cons.right == b.cons.right && (a.cons.value.kind == b.cons.value.kind && (a.cons.value.int == b.cons.value.int && (a.cons.value.text == b.cons.value.text))))))) then (bindK (m_schema_EqualForeignKeys a.fk b.fk) fun v16 => (some v16)) else (some false)) else (some false))) else (some false)) else (some false)) else (some false))) else (some false)) else (some false)) else (some false)) else (some false)) else (some false)) else (some false))
set_option maxRecDepth 20000 in
theorem c_evolution_Equal (a : Stp) (b : Stp) (r : Bool) (hm : Is (m_evolution_Equal a b) r) : PSpec Tryz.prog 159 [.agg a.enc, .agg b.enc] (.one (.d (.bool r))) := by
  unfold m_evolution_Equal at hm
  refine PSpec.of_vc Tryz.func159 rfl (by kernel_rfl) (n := 87) rfl rfl (by simp) ?_
  try simp [*]
  refine r_guardT hm ?_ ?_ <;> clear hm <;> intro hc3 hm
  · try simp [*]
    refine r_guardT hm ?_ ?_ <;> clear hm <;> intro hc4 hm
    · try simp [*]
      refine r_guardT hm ?_ ?_ <;> clear hm <;> intro hc5 hm
      · try simp [*]
        refine r_guardT hm ?_ ?_ <;> clear hm <;> intro hc6 hm
        · try simp [*]
          refine r_guardT hm ?_ ?_ <;> clear hm <;> intro hc7 hm
          · try simp [*]
            refine r_guardT hm ?_ ?_ <;> clear hm <;> intro hc8 hm
            · try simp [*]
              refine r_call (av := [.one (.d (.sl (a.cols.map encI))), .one (.d (.sl (b.cols.map encI)))]) hm (fun v hv => c_slices_Equal_Int _ _ v hv) (by simp [*]) ?_
              clear hm; intro v9 hvv9 hm
              try simp [*]
              refine r_guardT hm ?_ ?_ <;> clear hm <;> intro hc10 hm
              · try simp [*]
                refine r_guardT hm ?_ ?_ <;> clear hm <;> intro hc11 hm
                · try simp [*]
                  refine r_guardT hm ?_ ?_ <;> clear hm <;> intro hc12 hm
                  · try simp [*]
                    refine r_call (av := [.agg a.newTable.enc, .agg b.newTable.enc]) hm (fun v hv => c_schema_EqualTables _ _ v hv) (by simp [*]) ?_
                    clear hm; intro v13 hvv13 hm
                    try simp [*]
                    refine r_guardT hm ?_ ?_ <;> clear hm <;> intro hc14 hm
                    · try simp [*]
                      refine r_guardT hm ?_ ?_ <;> clear hm <;> intro hc15 hm
                      · try simp [*]
                        refine r_call (av := [.agg a.fk.enc, .agg b.fk.enc]) hm (fun v hv => c_schema_EqualForeignKeys _ _ v hv) (by simp [*]) ?_
                        clear hm; intro v16 hvv16 hm
                        try simp [*]
                        obtain rfl := r_ret hm
                        exact ret0 (vs := [_]) (by simp [*]; try exact rfl) (by simp [*])
                      · try simp [*]
                        obtain rfl := r_ret hm
                        exact ret0 (vs := [_]) (by simp [*]; try exact rfl) (by simp [*])
                    · try simp [*]
                      obtain rfl := r_ret hm
                      exact ret0 (vs := [_]) (by simp [*]; try exact rfl) (by simp [*])
                  · try simp [*]
                    obtain rfl := r_ret hm
                    exact ret0 (vs := [_]) (by simp [*]; try exact rfl) (by simp [*])
                · try simp [*]
                  obtain rfl := r_ret hm
                  exact ret0 (vs := [_]) (by simp [*]; try exact rfl) (by simp [*])
              · try simp [*]
                obtain rfl := r_ret hm
                exact ret0 (vs := [_]) (by simp [*]; try exact rfl) (by simp [*])
            · try simp [*]
              obtain rfl := r_ret hm
              exact ret0 (vs := [_]) (by simp [*]; try exact rfl) (by simp [*])
          · try simp [*]
            obtain rfl := r_ret hm
            exact ret0 (vs := [_]) (by simp [*]; try exact rfl) (by simp [*])
        · try simp [*]
          obtain rfl := r_ret hm
          exact ret0 (vs := [_]) (by simp [*]; try exact rfl) (by simp [*])
      · try simp [*]
        obtain rfl := r_ret hm
        exact ret0 (vs := [_]) (by simp [*]; try exact rfl) (by simp [*])
    · try simp [*]
      obtain rfl := r_ret hm
      exact ret0 (vs := [_]) (by simp [*]; try exact rfl) (by simp [*])
  · try simp [*]
    obtain rfl := r_ret hm
    exact ret0 (vs := [_]) (by simp [*]; try exact rfl) (by simp [*])
end Go.Proofs.YthgepknlibmjcaaGreat
end
section
namespace Go.Proofs.YthgepknlibmjcaaGreat
open Go.Am
set_option linter.unusedVariables false
set_option linter.unusedSimpArgs false
def m_evolution_normalized (step : Stp) : Option Stp :=
  (bif (step.kind == 1) then (some (Stp.mk step.kind step.table ByteArray.empty step.column ByteArray.empty step.type [] ByteArray.empty step.value (Tbl.mk ByteArray.empty [] []) (Cons.mk ByteArray.empty 0 ByteArray.empty 0 (GV.mk 0 0 ByteArray.empty)) (Fk.mk ByteArray.empty [] ByteArray.empty))) else (bif (step.kind == 2) then (some (Stp.mk step.kind step.table ByteArray.empty step.column ByteArray.empty 0 [] ByteArray.empty step.value (Tbl.mk ByteArray.empty [] []) (Cons.mk ByteArray.empty 0 ByteArray.empty 0 (GV.mk 0 0 ByteArray.empty)) (Fk.mk ByteArray.empty [] ByteArray.empty))) else (bif (step.kind == 3) then (some (Stp.mk step.kind step.table ByteArray.empty step.column step.newName 0 [] ByteArray.empty (GV.mk 0 0 ByteArray.empty) (Tbl.mk ByteArray.empty [] []) (Cons.mk ByteArray.empty 0 ByteArray.empty 0 (GV.mk 0 0 ByteArray.empty)) (Fk.mk ByteArray.empty [] ByteArray.empty))) else (bif (step.kind == 4) then (some (Stp.mk step.kind step.table ByteArray.empty ByteArray.empty step.newName 0 [] ByteArray.empty (GV.mk 0 0 ByteArray.empty) (Tbl.mk ByteArray.empty [] []) (Cons.mk ByteArray.empty 0 ByteArray.empty 0 (GV.mk 0 0 ByteArray.empty)) (Fk.mk ByteArray.empty [] ByteArray.empty))) else (bif (step.kind == 5) then (some (Stp.mk step.kind step.table ByteArray.empty step.column ByteArray.empty step.type [] ByteArray.empty (GV.mk 0 0 ByteArray.empty) (Tbl.mk ByteArray.empty [] []) (Cons.mk ByteArray.empty 0 ByteArray.empty 0 (GV.mk 0 0 ByteArray.empty)) (Fk.mk ByteArray.empty [] ByteArray.empty))) else (bif (step.kind == 6) then (some (Stp.mk step.kind step.table step.other ByteArray.empty ByteArray.empty 0 step.cols ByteArray.empty (GV.mk 0 0 ByteArray.empty) (Tbl.mk ByteArray.empty [] []) (Cons.mk ByteArray.empty 0 ByteArray.empty 0 (GV.mk 0 0 ByteArray.empty)) (Fk.mk ByteArray.empty [] ByteArray.empty))) else (bif (step.kind == 7) then (some (Stp.mk step.kind step.table step.other ByteArray.empty ByteArray.empty 0 [] ByteArray.empty (GV.mk 0 0 ByteArray.empty) (Tbl.mk ByteArray.empty [] []) (Cons.mk ByteArray.empty 0 ByteArray.empty 0 (GV.mk 0 0 ByteArray.empty)) (Fk.mk ByteArray.empty [] ByteArray.empty))) else (bif (step.kind == 8) then (some (Stp.mk step.kind step.table step.other step.column ByteArray.empty 0 [] step.op step.value (Tbl.mk ByteArray.empty [] []) (Cons.mk ByteArray.empty 0 ByteArray.empty 0 (GV.mk 0 0 ByteArray.empty)) (Fk.mk ByteArray.empty [] ByteArray.empty))) else (bif (step.kind == 9) then (some (Stp.mk step.kind step.table step.other step.column ByteArray.empty 0 [] ByteArray.empty (GV.mk 0 0 ByteArray.empty) (Tbl.mk ByteArray.empty [] []) (Cons.mk ByteArray.empty 0 ByteArray.empty 0 (GV.mk 0 0 ByteArray.empty)) (Fk.mk ByteArray.empty [] ByteArray.empty))) else (bif (step.kind == 10) then (some (Stp.mk step.kind ByteArray.empty ByteArray.empty ByteArray.empty ByteArray.empty 0 [] ByteArray.empty (GV.mk 0 0 ByteArray.empty) step.newTable (Cons.mk ByteArray.empty 0 ByteArray.empty 0 (GV.mk 0 0 ByteArray.empty)) (Fk.mk ByteArray.empty [] ByteArray.empty))) else (bif (step.kind == 12) then (some (Stp.mk step.kind step.table ByteArray.empty step.column ByteArray.empty 0 step.cols ByteArray.empty (GV.mk 0 0 ByteArray.empty) (Tbl.mk ByteArray.empty [] []) (Cons.mk ByteArray.empty 0 ByteArray.empty 0 (GV.mk 0 0 ByteArray.empty)) (Fk.mk ByteArray.empty [] ByteArray.empty))) else (bif (step.kind == 13) then (some (Stp.mk step.kind ByteArray.empty ByteArray.empty ByteArray.empty ByteArray.empty 0 [] ByteArray.empty (GV.mk 0 0 ByteArray.empty) (Tbl.mk ByteArray.empty [] []) step.cons (Fk.mk ByteArray.empty [] ByteArray.empty))) else (bif (step.kind == 14) then (some (Stp.mk step.kind ByteArray.empty ByteArray.empty ByteArray.empty ByteArray.empty 0 [] ByteArray.empty (GV.mk 0 0 ByteArray.empty) (Tbl.mk ByteArray.empty [] []) step.cons (Fk.mk ByteArray.empty [] ByteArray.empty))) else (bif (step.kind == 15) then (some (Stp.mk step.kind ByteArray.empty ByteArray.empty ByteArray.empty ByteArray.empty 0 [] ByteArray.empty (GV.mk 0 0 ByteArray.empty) (Tbl.mk ByteArray.empty [] []) (Cons.mk ByteArray.empty 0 ByteArray.empty 0 (GV.mk 0 0 ByteArray.empty)) step.fk)) else (bif (step.kind == 16) then (some (Stp.mk step.kind ByteArray.empty ByteArray.empty ByteArray.empty ByteArray.empty 0 [] ByteArray.empty (GV.mk 0 0 ByteArray.empty) (Tbl.mk ByteArray.empty [] []) (Cons.mk ByteArray.empty 0 ByteArray.empty 0 (GV.mk 0 0 ByteArray.empty)) step.fk)) else (some (Stp.mk step.kind step.table ByteArray.empty ByteArray.empty ByteArray.empty 0 [] ByteArray.empty (GV.mk 0 0 ByteArray.empty) (Tbl.mk ByteArray.empty [] []) (Cons.mk ByteArray.empty 0 ByteArray.empty 0 (GV.mk 0 0 ByteArray.empty)) (Fk.mk ByteArray.empty [] ByteArray.empty))))))))))))))))))
set_option maxRecDepth 20000 in
theorem c_evolution_normalized (step : Stp) (r : Stp) (hm : Is (m_evolution_normalized step) r) : PSpec Tryz.prog 160 [.agg step.enc] (.agg (r.enc.map RC.d)) := by
  unfold m_evolution_normalized at hm
  refine PSpec.of_vc Tryz.func160 rfl (by kernel_rfl) (n := 115) rfl rfl (by simp) ?_
  try simp [*]
  refine r_cond hm ?_ ?_ <;> clear hm <;> intro hc4 hm
  · try simp [*]
    refine Wait.cut (Plan.then_ [0, 1, 2, 4, 6] (.three 3 5 7 (Plan.then_ [] (.two 5 7 (Plan.then_ [7, 8, 9, 10, 11] .done) (Plan.then_ [8] (.two 5 9 (Plan.then_ [9, 10, 11] .done) (Plan.then_ [5, 10, 11] .done))))) (Plan.then_ [] (.two 3 7 (Plan.then_ [7, 8, 9, 10, 11] .done) (Plan.then_ [3, 8, 9, 10, 11] .done))) (Plan.then_ [3, 8] (.two 5 9 (Plan.then_ [9, 10, 11] .done) (Plan.then_ [5, 10, 11] .done))))) follows (by kernel_rfl) (fun e5 h5 => e5.n = 115 ∧ e5.get 2 = .one (.ptr (1, 32) 0) ∧ e5.get 3 = .one (.ptr (2, 48) 0) ∧ h5.box (1, 32) = some [.d (.int .i64 0), .d (.str ByteArray.empty), .d (.str ByteArray.empty), .d (.str ByteArray.empty), .d (.str ByteArray.empty), .d (.int .i64 0), .nil, .d (.str ByteArray.empty), .d (.int .i64 0), .d (.int .i64 0), .d (.str ByteArray.empty), .d (.str ByteArray.empty), .nil, .nil, .d (.str ByteArray.empty), .d (.int .i64 0), .d (.str ByteArray.empty), .d (.int .i64 0), .d (.int .i64 0), .d (.int .i64 0), .d (.str ByteArray.empty), .d (.str ByteArray.empty), .nil, .d (.str ByteArray.empty)] ∧ h5.box (2, 48) = some [.d (.int .i64 step.kind), .d (.str step.table), .d (.str ByteArray.empty), .d (.str step.column), .d (.str ByteArray.empty), .d (.int .i64 step.type), .nil, .d (.str ByteArray.empty), .d (.int .i64 step.value.kind), .d (.int .i64 step.value.int), .d (.str step.value.text), .d (.str ByteArray.empty), .nil, .nil, .d (.str ByteArray.empty), .d (.int .i64 0), .d (.str ByteArray.empty), .d (.int .i64 0), .d (.int .i64 0), .d (.int .i64 0), .d (.str ByteArray.empty), .d (.str ByteArray.empty), .nil, .d (.str ByteArray.empty)]) ?_ ?_
    · try simp [*, Plan.then_, vcPlan, planOps, isCallAt, callKind]
      repeat' (first | with_reducible refine And.intro ?_ ?_ | (refine CutK.of ?_; simp [*]; done))
    · rintro e5 h5 ⟨hn5, h5_2, h5_3, hb5_b2, hb5_b3⟩
      try simp [*]
      obtain rfl := r_ret hm
      exact ret0 (vs := [_]) (by simp [*]; try exact rfl) (by simp [*])
  · try simp [*]
    refine r_cond hm ?_ ?_ <;> clear hm <;> intro hc6 hm
    · try simp [*]
      refine Wait.cut (Plan.then_ [0, 1, 2, 4] (.two 3 5 (Plan.then_ [5, 6, 7] .done) (Plan.then_ [3, 6, 7] .done))) follows (by kernel_rfl) (fun e7 h7 => e7.n = 115 ∧ e7.get 2 = .one (.ptr (1, 32) 0) ∧ e7.get 3 = .one (.ptr (2, 48) 0) ∧ h7.box (1, 32) = some [.d (.int .i64 0), .d (.str ByteArray.empty), .d (.str ByteArray.empty), .d (.str ByteArray.empty), .d (.str ByteArray.empty), .d (.int .i64 0), .nil, .d (.str ByteArray.empty), .d (.int .i64 0), .d (.int .i64 0), .d (.str ByteArray.empty), .d (.str ByteArray.empty), .nil, .nil, .d (.str ByteArray.empty), .d (.int .i64 0), .d (.str ByteArray.empty), .d (.int .i64 0), .d (.int .i64 0), .d (.int .i64 0), .d (.str ByteArray.empty), .d (.str ByteArray.empty), .nil, .d (.str ByteArray.empty)] ∧ h7.box (2, 48) = some [.d (.int .i64 step.kind), .d (.str step.table), .d (.str ByteArray.empty), .d (.str step.column), .d (.str ByteArray.empty), .d (.int .i64 0), .nil, .d (.str ByteArray.empty), .d (.int .i64 step.value.kind), .d (.int .i64 step.value.int), .d (.str step.value.text), .d (.str ByteArray.empty), .nil, .nil, .d (.str ByteArray.empty), .d (.int .i64 0), .d (.str ByteArray.empty), .d (.int .i64 0), .d (.int .i64 0), .d (.int .i64 0), .d (.str ByteArray.empty), .d (.str ByteArray.empty), .nil, .d (.str ByteArray.empty)]) ?_ ?_
      · try simp [*, Plan.then_, vcPlan, planOps, isCallAt, callKind]
        repeat' (first | with_reducible refine And.intro ?_ ?_ | (refine CutK.of ?_; simp [*]; done))
      · rintro e7 h7 ⟨hn7, h7_2, h7_3, hb7_b2, hb7_b3⟩
        try simp [*]
        obtain rfl := r_ret hm
        exact ret0 (vs := [_]) (by simp [*]; try exact rfl) (by simp [*])
    · try simp [*]
      refine r_cond hm ?_ ?_ <;> clear hm <;> intro hc8 hm
      · try simp [*]
        refine Wait.cut (Plan.then_ [0, 1, 2, 4] (.two 3 5 (Plan.then_ [5, 6, 7] .done) (Plan.then_ [3, 6, 7] .done))) follows (by kernel_rfl) (fun e9 h9 => e9.n = 115 ∧ e9.get 2 = .one (.ptr (1, 32) 0) ∧ e9.get 3 = .one (.ptr (2, 48) 0) ∧ h9.box (1, 32) = some [.d (.int .i64 0), .d (.str ByteArray.empty), .d (.str ByteArray.empty), .d (.str ByteArray.empty), .d (.str ByteArray.empty), .d (.int .i64 0), .nil, .d (.str ByteArray.empty), .d (.int .i64 0), .d (.int .i64 0), .d (.str ByteArray.empty), .d (.str ByteArray.empty), .nil, .nil, .d (.str ByteArray.empty), .d (.int .i64 0), .d (.str ByteArray.empty), .d (.int .i64 0), .d (.int .i64 0), .d (.int .i64 0), .d (.str ByteArray.empty), .d (.str ByteArray.empty), .nil, .d (.str ByteArray.empty)] ∧ h9.box (2, 48) = some [.d (.int .i64 step.kind), .d (.str step.table), .d (.str ByteArray.empty), .d (.str step.column), .d (.str step.newName), .d (.int .i64 0), .nil, .d (.str ByteArray.empty), .d (.int .i64 0), .d (.int .i64 0), .d (.str ByteArray.empty), .d (.str ByteArray.empty), .nil, .nil, .d (.str ByteArray.empty), .d (.int .i64 0), .d (.str ByteArray.empty), .d (.int .i64 0), .d (.int .i64 0), .d (.int .i64 0), .d (.str ByteArray.empty), .d (.str ByteArray.empty), .nil, .d (.str ByteArray.empty)]) ?_ ?_
        · try simp [*, Plan.then_, vcPlan, planOps, isCallAt, callKind]
          repeat' (first | with_reducible refine And.intro ?_ ?_ | (refine CutK.of ?_; simp [*]; done))
        · rintro e9 h9 ⟨hn9, h9_2, h9_3, hb9_b2, hb9_b3⟩
          try simp [*]
          obtain rfl := r_ret hm
          exact ret0 (vs := [_]) (by simp [*]; try exact rfl) (by simp [*])
      · try simp [*]
        refine r_cond hm ?_ ?_ <;> clear hm <;> intro hc10 hm
        · try simp [*]
          obtain rfl := r_ret hm
          exact ret0 (vs := [_]) (by simp [*]; try exact rfl) (by simp [*])
        · try simp [*]
          refine r_cond hm ?_ ?_ <;> clear hm <;> intro hc11 hm
          · try simp [*]
            refine Wait.cut (Plan.then_ [0, 1, 2, 4] (.two 3 5 (Plan.then_ [5, 6, 7] .done) (Plan.then_ [3, 6, 7] .done))) follows (by kernel_rfl) (fun e12 h12 => e12.n = 115 ∧ e12.get 2 = .one (.ptr (1, 32) 0) ∧ e12.get 3 = .one (.ptr (2, 48) 0) ∧ h12.box (1, 32) = some [.d (.int .i64 0), .d (.str ByteArray.empty), .d (.str ByteArray.empty), .d (.str ByteArray.empty), .d (.str ByteArray.empty), .d (.int .i64 0), .nil, .d (.str ByteArray.empty), .d (.int .i64 0), .d (.int .i64 0), .d (.str ByteArray.empty), .d (.str ByteArray.empty), .nil, .nil, .d (.str ByteArray.empty), .d (.int .i64 0), .d (.str ByteArray.empty), .d (.int .i64 0), .d (.int .i64 0), .d (.int .i64 0), .d (.str ByteArray.empty), .d (.str ByteArray.empty), .nil, .d (.str ByteArray.empty)] ∧ h12.box (2, 48) = some [.d (.int .i64 step.kind), .d (.str step.table), .d (.str ByteArray.empty), .d (.str step.column), .d (.str ByteArray.empty), .d (.int .i64 step.type), .nil, .d (.str ByteArray.empty), .d (.int .i64 0), .d (.int .i64 0), .d (.str ByteArray.empty), .d (.str ByteArray.empty), .nil, .nil, .d (.str ByteArray.empty), .d (.int .i64 0), .d (.str ByteArray.empty), .d (.int .i64 0), .d (.int .i64 0), .d (.int .i64 0), .d (.str ByteArray.empty), .d (.str ByteArray.empty), .nil, .d (.str ByteArray.empty)]) ?_ ?_
            · try simp [*, Plan.then_, vcPlan, planOps, isCallAt, callKind]
              repeat' (first | with_reducible refine And.intro ?_ ?_ | (refine CutK.of ?_; simp [*]; done))
            · rintro e12 h12 ⟨hn12, h12_2, h12_3, hb12_b2, hb12_b3⟩
              try simp [*]
              obtain rfl := r_ret hm
              exact ret0 (vs := [_]) (by simp [*]; try exact rfl) (by simp [*])
          · try simp [*]
            refine r_cond hm ?_ ?_ <;> clear hm <;> intro hc13 hm
            · try simp [*]
              refine Wait.cut (Plan.then_ [0, 1, 2, 4] (.two 3 5 (Plan.then_ [5, 6, 7] .done) (Plan.then_ [3, 6, 7] .done))) follows (by kernel_rfl) (fun e14 h14 => e14.n = 115 ∧ e14.get 2 = .one (.ptr (1, 32) 0) ∧ e14.get 3 = .one (.ptr (2, 48) 0) ∧ h14.box (1, 32) = some [.d (.int .i64 0), .d (.str ByteArray.empty), .d (.str ByteArray.empty), .d (.str ByteArray.empty), .d (.str ByteArray.empty), .d (.int .i64 0), .nil, .d (.str ByteArray.empty), .d (.int .i64 0), .d (.int .i64 0), .d (.str ByteArray.empty), .d (.str ByteArray.empty), .nil, .nil, .d (.str ByteArray.empty), .d (.int .i64 0), .d (.str ByteArray.empty), .d (.int .i64 0), .d (.int .i64 0), .d (.int .i64 0), .d (.str ByteArray.empty), .d (.str ByteArray.empty), .nil, .d (.str ByteArray.empty)] ∧ h14.box (2, 48) = some [.d (.int .i64 step.kind), .d (.str step.table), .d (.str step.other), .d (.str ByteArray.empty), .d (.str ByteArray.empty), .d (.int .i64 0), .d (.sl (step.cols.map encI)), .d (.str ByteArray.empty), .d (.int .i64 0), .d (.int .i64 0), .d (.str ByteArray.empty), .d (.str ByteArray.empty), .nil, .nil, .d (.str ByteArray.empty), .d (.int .i64 0), .d (.str ByteArray.empty), .d (.int .i64 0), .d (.int .i64 0), .d (.int .i64 0), .d (.str ByteArray.empty), .d (.str ByteArray.empty), .nil, .d (.str ByteArray.empty)]) ?_ ?_
              · try simp [*, Plan.then_, vcPlan, planOps, isCallAt, callKind]
                repeat' (first | with_reducible refine And.intro ?_ ?_ | (refine CutK.of ?_; simp [*]; done))
              · rintro e14 h14 ⟨hn14, h14_2, h14_3, hb14_b2, hb14_b3⟩
                try simp [*]
                obtain rfl := r_ret hm
                exact ret0 (vs := [_]) (by simp [*]; try exact rfl) (by simp [*])
            · try simp [*]
              refine r_cond hm ?_ ?_ <;> clear hm <;> intro hc15 hm
              · try simp [*]
                obtain rfl := r_ret hm
                exact ret0 (vs := [_]) (by simp [*]; try exact rfl) (by simp [*])
              · try simp [*]
                refine r_cond hm ?_ ?_ <;> clear hm <;> intro hc16 hm
                · try simp [*]
                  refine Wait.cut (Plan.then_ [0, 1, 2, 4, 6, 8] (.four 3 5 7 9 (Plan.then_ [] (.three 5 7 9 (Plan.then_ [] (.two 7 9 (Plan.then_ [9, 10, 11, 12, 13, 14, 15] .done) (Plan.then_ [10] (.two 7 11 (Plan.then_ [11, 12, 13, 14, 15] .done) (Plan.then_ [12] (.two 7 13 (Plan.then_ [13, 14, 15] .done) (Plan.then_ [7, 14, 15] .done))))))) (Plan.then_ [] (.two 5 9 (Plan.then_ [9, 10, 11, 12, 13, 14, 15] .done) (Plan.then_ [10] (.two 5 11 (Plan.then_ [11, 12, 13, 14, 15] .done) (Plan.then_ [5, 12, 13, 14, 15] .done))))) (Plan.then_ [10] (.three 5 7 11 (Plan.then_ [] (.two 7 11 (Plan.then_ [11, 12, 13, 14, 15] .done) (Plan.then_ [12] (.two 7 13 (Plan.then_ [13, 14, 15] .done) (Plan.then_ [7, 14, 15] .done))))) (Plan.then_ [] (.two 5 11 (Plan.then_ [11, 12, 13, 14, 15] .done) (Plan.then_ [5, 12, 13, 14, 15] .done))) (Plan.then_ [5, 12] (.two 7 13 (Plan.then_ [13, 14, 15] .done) (Plan.then_ [7, 14, 15] .done))))))) (Plan.then_ [] (.three 3 7 9 (Plan.then_ [] (.two 7 9 (Plan.then_ [9, 10, 11, 12, 13, 14, 15] .done) (Plan.then_ [10] (.two 7 11 (Plan.then_ [11, 12, 13, 14, 15] .done) (Plan.then_ [12] (.two 7 13 (Plan.then_ [13, 14, 15] .done) (Plan.then_ [7, 14, 15] .done))))))) (Plan.then_ [] (.two 3 9 (Plan.then_ [9, 10, 11, 12, 13, 14, 15] .done) (Plan.then_ [3, 10, 11, 12, 13, 14, 15] .done))) (Plan.then_ [3, 10] (.two 7 11 (Plan.then_ [11, 12, 13, 14, 15] .done) (Plan.then_ [12] (.two 7 13 (Plan.then_ [13, 14, 15] .done) (Plan.then_ [7, 14, 15] .done))))))) (Plan.then_ [] (.three 3 5 9 (Plan.then_ [] (.two 5 9 (Plan.then_ [9, 10, 11, 12, 13, 14, 15] .done) (Plan.then_ [10] (.two 5 11 (Plan.then_ [11, 12, 13, 14, 15] .done) (Plan.then_ [5, 12, 13, 14, 15] .done))))) (Plan.then_ [] (.two 3 9 (Plan.then_ [9, 10, 11, 12, 13, 14, 15] .done) (Plan.then_ [3, 10, 11, 12, 13, 14, 15] .done))) (Plan.then_ [3, 10] (.two 5 11 (Plan.then_ [11, 12, 13, 14, 15] .done) (Plan.then_ [5, 12, 13, 14, 15] .done))))) (Plan.then_ [3, 10] (.three 5 7 11 (Plan.then_ [] (.two 7 11 (Plan.then_ [11, 12, 13, 14, 15] .done) (Plan.then_ [12] (.two 7 13 (Plan.then_ [13, 14, 15] .done) (Plan.then_ [7, 14, 15] .done))))) (Plan.then_ [] (.two 5 11 (Plan.then_ [11, 12, 13, 14, 15] .done) (Plan.then_ [5, 12, 13, 14, 15] .done))) (Plan.then_ [5, 12] (.two 7 13 (Plan.then_ [13, 14, 15] .done) (Plan.then_ [7, 14, 15] .done))))))) follows (by kernel_rfl) (fun e17 h17 => e17.n = 115 ∧ e17.get 2 = .one (.ptr (1, 32) 0) ∧ e17.get 3 = .one (.ptr (2, 48) 0) ∧ h17.box (1, 32) = some [.d (.int .i64 0), .d (.str ByteArray.empty), .d (.str ByteArray.empty), .d (.str ByteArray.empty), .d (.str ByteArray.empty), .d (.int .i64 0), .nil, .d (.str ByteArray.empty), .d (.int .i64 0), .d (.int .i64 0), .d (.str ByteArray.empty), .d (.str ByteArray.empty), .nil, .nil, .d (.str ByteArray.empty), .d (.int .i64 0), .d (.str ByteArray.empty), .d (.int .i64 0), .d (.int .i64 0), .d (.int .i64 0), .d (.str ByteArray.empty), .d (.str ByteArray.empty), .nil, .d (.str ByteArray.empty)] ∧ h17.box (2, 48) = some [.d (.int .i64 step.kind), .d (.str step.table), .d (.str step.other), .d (.str step.column), .d (.str ByteArray.empty), .d (.int .i64 0), .nil, .d (.str step.op), .d (.int .i64 step.value.kind), .d (.int .i64 step.value.int), .d (.str step.value.text), .d (.str ByteArray.empty), .nil, .nil, .d (.str ByteArray.empty), .d (.int .i64 0), .d (.str ByteArray.empty), .d (.int .i64 0), .d (.int .i64 0), .d (.int .i64 0), .d (.str ByteArray.empty), .d (.str ByteArray.empty), .nil, .d (.str ByteArray.empty)]) ?_ ?_
                  · try simp [*, Plan.then_, vcPlan, planOps, isCallAt, callKind]
                    repeat' (first | with_reducible refine And.intro ?_ ?_ | (refine CutK.of ?_; simp [*]; done))
                  · rintro e17 h17 ⟨hn17, h17_2, h17_3, hb17_b2, hb17_b3⟩
                    try simp [*]
                    obtain rfl := r_ret hm
                    exact ret0 (vs := [_]) (by simp [*]; try exact rfl) (by simp [*])
                · try simp [*]
                  refine r_cond hm ?_ ?_ <;> clear hm <;> intro hc18 hm
                  · try simp [*]
                    refine Wait.cut (Plan.then_ [0, 1, 2, 4] (.two 3 5 (Plan.then_ [5, 6, 7] .done) (Plan.then_ [3, 6, 7] .done))) follows (by kernel_rfl) (fun e19 h19 => e19.n = 115 ∧ e19.get 2 = .one (.ptr (1, 32) 0) ∧ e19.get 3 = .one (.ptr (2, 48) 0) ∧ h19.box (1, 32) = some [.d (.int .i64 0), .d (.str ByteArray.empty), .d (.str ByteArray.empty), .d (.str ByteArray.empty), .d (.str ByteArray.empty), .d (.int .i64 0), .nil, .d (.str ByteArray.empty), .d (.int .i64 0), .d (.int .i64 0), .d (.str ByteArray.empty), .d (.str ByteArray.empty), .nil, .nil, .d (.str ByteArray.empty), .d (.int .i64 0), .d (.str ByteArray.empty), .d (.int .i64 0), .d (.int .i64 0), .d (.int .i64 0), .d (.str ByteArray.empty), .d (.str ByteArray.empty), .nil, .d (.str ByteArray.empty)] ∧ h19.box (2, 48) = some [.d (.int .i64 step.kind), .d (.str step.table), .d (.str step.other), .d (.str step.column), .d (.str ByteArray.empty), .d (.int .i64 0), .nil, .d (.str ByteArray.empty), .d (.int .i64 0), .d (.int .i64 0), .d (.str ByteArray.empty), .d (.str ByteArray.empty), .nil, .nil, .d (.str ByteArray.empty), .d (.int .i64 0), .d (.str ByteArray.empty), .d (.int .i64 0), .d (.int .i64 0), .d (.int .i64 0), .d (.str ByteArray.empty), .d (.str ByteArray.empty), .nil, .d (.str ByteArray.empty)]) ?_ ?_
                    · try simp [*, Plan.then_, vcPlan, planOps, isCallAt, callKind]
                      repeat' (first | with_reducible refine And.intro ?_ ?_ | (refine CutK.of ?_; simp [*]; done))
                    · rintro e19 h19 ⟨hn19, h19_2, h19_3, hb19_b2, hb19_b3⟩
                      try simp [*]
                      obtain rfl := r_ret hm
                      exact ret0 (vs := [_]) (by simp [*]; try exact rfl) (by simp [*])
                  · try simp [*]
                    refine r_cond hm ?_ ?_ <;> clear hm <;> intro hc20 hm
                    · try simp [*]
                      refine Wait.cut (Plan.then_ [0, 2] (.two 1 3 (Plan.then_ [3, 4, 5] .done) (Plan.then_ [1, 4, 5] .done))) follows (by kernel_rfl) (fun e21 h21 => e21.n = 115 ∧ e21.get 2 = .one (.ptr (1, 32) 0) ∧ e21.get 3 = .one (.ptr (2, 48) 0) ∧ h21.box (1, 32) = some [.d (.int .i64 0), .d (.str ByteArray.empty), .d (.str ByteArray.empty), .d (.str ByteArray.empty), .d (.str ByteArray.empty), .d (.int .i64 0), .nil, .d (.str ByteArray.empty), .d (.int .i64 0), .d (.int .i64 0), .d (.str ByteArray.empty), .d (.str ByteArray.empty), .nil, .nil, .d (.str ByteArray.empty), .d (.int .i64 0), .d (.str ByteArray.empty), .d (.int .i64 0), .d (.int .i64 0), .d (.int .i64 0), .d (.str ByteArray.empty), .d (.str ByteArray.empty), .nil, .d (.str ByteArray.empty)] ∧ h21.box (2, 48) = some [.d (.int .i64 step.kind), .d (.str ByteArray.empty), .d (.str ByteArray.empty), .d (.str ByteArray.empty), .d (.str ByteArray.empty), .d (.int .i64 0), .nil, .d (.str ByteArray.empty), .d (.int .i64 0), .d (.int .i64 0), .d (.str ByteArray.empty), .d (.str step.newTable.name), .d (.sl (step.newTable.cols.map Col.enc)), .d (.sl (step.newTable.pk.map encI)), .d (.str ByteArray.empty), .d (.int .i64 0), .d (.str ByteArray.empty), .d (.int .i64 0), .d (.int .i64 0), .d (.int .i64 0), .d (.str ByteArray.empty), .d (.str ByteArray.empty), .nil, .d (.str ByteArray.empty)]) ?_ ?_
                      · try simp [*, Plan.then_, vcPlan, planOps, isCallAt, callKind]
                        repeat' (first | with_reducible refine And.intro ?_ ?_ | (refine CutK.of ?_; simp [*]; done))
                      · rintro e21 h21 ⟨hn21, h21_2, h21_3, hb21_b2, hb21_b3⟩
                        try simp [*]
                        obtain rfl := r_ret hm
                        exact ret0 (vs := [_]) (by simp [*]; try exact rfl) (by simp [*])
                    · try simp [*]
                      refine r_cond hm ?_ ?_ <;> clear hm <;> intro hc22 hm
                      · try simp [*]
                        refine Wait.cut (Plan.then_ [0, 1, 2, 4] (.two 3 5 (Plan.then_ [5, 6, 7] .done) (Plan.then_ [3, 6, 7] .done))) follows (by kernel_rfl) (fun e23 h23 => e23.n = 115 ∧ e23.get 2 = .one (.ptr (1, 32) 0) ∧ e23.get 3 = .one (.ptr (2, 48) 0) ∧ h23.box (1, 32) = some [.d (.int .i64 0), .d (.str ByteArray.empty), .d (.str ByteArray.empty), .d (.str ByteArray.empty), .d (.str ByteArray.empty), .d (.int .i64 0), .nil, .d (.str ByteArray.empty), .d (.int .i64 0), .d (.int .i64 0), .d (.str ByteArray.empty), .d (.str ByteArray.empty), .nil, .nil, .d (.str ByteArray.empty), .d (.int .i64 0), .d (.str ByteArray.empty), .d (.int .i64 0), .d (.int .i64 0), .d (.int .i64 0), .d (.str ByteArray.empty), .d (.str ByteArray.empty), .nil, .d (.str ByteArray.empty)] ∧ h23.box (2, 48) = some [.d (.int .i64 step.kind), .d (.str step.table), .d (.str ByteArray.empty), .d (.str step.column), .d (.str ByteArray.empty), .d (.int .i64 0), .d (.sl (step.cols.map encI)), .d (.str ByteArray.empty), .d (.int .i64 0), .d (.int .i64 0), .d (.str ByteArray.empty), .d (.str ByteArray.empty), .nil, .nil, .d (.str ByteArray.empty), .d (.int .i64 0), .d (.str ByteArray.empty), .d (.int .i64 0), .d (.int .i64 0), .d (.int .i64 0), .d (.str ByteArray.empty), .d (.str ByteArray.empty), .nil, .d (.str ByteArray.empty)]) ?_ ?_
                        · try simp [*, Plan.then_, vcPlan, planOps, isCallAt, callKind]
                          repeat' (first | with_reducible refine And.intro ?_ ?_ | (refine CutK.of ?_; simp [*]; done))
                        · rintro e23 h23 ⟨hn23, h23_2, h23_3, hb23_b2, hb23_b3⟩
                          try simp [*]
                          obtain rfl := r_ret hm
                          exact ret0 (vs := [_]) (by simp [*]; try exact rfl) (by simp [*])
                      · try simp [*]
                        refine r_cond hm ?_ ?_ <;> clear hm <;> intro hc24 hm
                        · try simp [*]
                          refine Wait.cut (Plan.then_ [0, 2] (.two 1 3 (Plan.then_ [3, 4, 5] .done) (Plan.then_ [1, 4, 5] .done))) follows (by kernel_rfl) (fun e25 h25 => e25.n = 115 ∧ e25.get 2 = .one (.ptr (1, 32) 0) ∧ e25.get 3 = .one (.ptr (2, 48) 0) ∧ h25.box (1, 32) = some [.d (.int .i64 0), .d (.str ByteArray.empty), .d (.str ByteArray.empty), .d (.str ByteArray.empty), .d (.str ByteArray.empty), .d (.int .i64 0), .nil, .d (.str ByteArray.empty), .d (.int .i64 0), .d (.int .i64 0), .d (.str ByteArray.empty), .d (.str ByteArray.empty), .nil, .nil, .d (.str ByteArray.empty), .d (.int .i64 0), .d (.str ByteArray.empty), .d (.int .i64 0), .d (.int .i64 0), .d (.int .i64 0), .d (.str ByteArray.empty), .d (.str ByteArray.empty), .nil, .d (.str ByteArray.empty)] ∧ h25.box (2, 48) = some [.d (.int .i64 step.kind), .d (.str ByteArray.empty), .d (.str ByteArray.empty), .d (.str ByteArray.empty), .d (.str ByteArray.empty), .d (.int .i64 0), .nil, .d (.str ByteArray.empty), .d (.int .i64 0), .d (.int .i64 0), .d (.str ByteArray.empty), .d (.str ByteArray.empty), .nil, .nil, .d (.str step.cons.table), .d (.int .i64 step.cons.left), .d (.str step.cons.op), .d (.int .i64 step.cons.right), .d (.int .i64 step.cons.value.kind), .d (.int .i64 step.cons.value.int), .d (.str step.cons.value.text), .d (.str ByteArray.empty), .nil, .d (.str ByteArray.empty)]) ?_ ?_
                          · try simp [*, Plan.then_, vcPlan, planOps, isCallAt, callKind]
                            repeat' (first | with_reducible refine And.intro ?_ ?_ | (refine CutK.of ?_; simp [*]; done))
                          · rintro e25 h25 ⟨hn25, h25_2, h25_3, hb25_b2, hb25_b3⟩
                            try simp [*]
                            obtain rfl := r_ret hm
                            exact ret0 (vs := [_]) (by simp [*]; try exact rfl) (by simp [*])
                        · try simp [*]
                          refine r_cond hm ?_ ?_ <;> clear hm <;> intro hc26 hm
                          · try simp [*]
                            refine Wait.cut (Plan.then_ [0, 2] (.two 1 3 (Plan.then_ [3, 4, 5] .done) (Plan.then_ [1, 4, 5] .done))) follows (by kernel_rfl) (fun e27 h27 => e27.n = 115 ∧ e27.get 2 = .one (.ptr (1, 32) 0) ∧ e27.get 3 = .one (.ptr (2, 48) 0) ∧ h27.box (1, 32) = some [.d (.int .i64 0), .d (.str ByteArray.empty), .d (.str ByteArray.empty), .d (.str ByteArray.empty), .d (.str ByteArray.empty), .d (.int .i64 0), .nil, .d (.str ByteArray.empty), .d (.int .i64 0), .d (.int .i64 0), .d (.str ByteArray.empty), .d (.str ByteArray.empty), .nil, .nil, .d (.str ByteArray.empty), .d (.int .i64 0), .d (.str ByteArray.empty), .d (.int .i64 0), .d (.int .i64 0), .d (.int .i64 0), .d (.str ByteArray.empty), .d (.str ByteArray.empty), .nil, .d (.str ByteArray.empty)] ∧ h27.box (2, 48) = some [.d (.int .i64 step.kind), .d (.str ByteArray.empty), .d (.str ByteArray.empty), .d (.str ByteArray.empty), .d (.str ByteArray.empty), .d (.int .i64 0), .nil, .d (.str ByteArray.empty), .d (.int .i64 0), .d (.int .i64 0), .d (.str ByteArray.empty), .d (.str ByteArray.empty), .nil, .nil, .d (.str step.cons.table), .d (.int .i64 step.cons.left), .d (.str step.cons.op), .d (.int .i64 step.cons.right), .d (.int .i64 step.cons.value.kind), .d (.int .i64 step.cons.value.int), .d (.str step.cons.value.text), .d (.str ByteArray.empty), .nil, .d (.str ByteArray.empty)]) ?_ ?_
                            · try simp [*, Plan.then_, vcPlan, planOps, isCallAt, callKind]
                              repeat' (first | with_reducible refine And.intro ?_ ?_ | (refine CutK.of ?_; simp [*]; done))
                            · rintro e27 h27 ⟨hn27, h27_2, h27_3, hb27_b2, hb27_b3⟩
                              try simp [*]
                              obtain rfl := r_ret hm
                              exact ret0 (vs := [_]) (by simp [*]; try exact rfl) (by simp [*])
                          · try simp [*]
                            refine r_cond hm ?_ ?_ <;> clear hm <;> intro hc28 hm
                            · try simp [*]
                              refine Wait.cut (Plan.then_ [0, 2] (.two 1 3 (Plan.then_ [3, 4, 5] .done) (Plan.then_ [1, 4, 5] .done))) follows (by kernel_rfl) (fun e29 h29 => e29.n = 115 ∧ e29.get 2 = .one (.ptr (1, 32) 0) ∧ e29.get 3 = .one (.ptr (2, 48) 0) ∧ h29.box (1, 32) = some [.d (.int .i64 0), .d (.str ByteArray.empty), .d (.str ByteArray.empty), .d (.str ByteArray.empty), .d (.str ByteArray.empty), .d (.int .i64 0), .nil, .d (.str ByteArray.empty), .d (.int .i64 0), .d (.int .i64 0), .d (.str ByteArray.empty), .d (.str ByteArray.empty), .nil, .nil, .d (.str ByteArray.empty), .d (.int .i64 0), .d (.str ByteArray.empty), .d (.int .i64 0), .d (.int .i64 0), .d (.int .i64 0), .d (.str ByteArray.empty), .d (.str ByteArray.empty), .nil, .d (.str ByteArray.empty)] ∧ h29.box (2, 48) = some [.d (.int .i64 step.kind), .d (.str ByteArray.empty), .d (.str ByteArray.empty), .d (.str ByteArray.empty), .d (.str ByteArray.empty), .d (.int .i64 0), .nil, .d (.str ByteArray.empty), .d (.int .i64 0), .d (.int .i64 0), .d (.str ByteArray.empty), .d (.str ByteArray.empty), .nil, .nil, .d (.str ByteArray.empty), .d (.int .i64 0), .d (.str ByteArray.empty), .d (.int .i64 0), .d (.int .i64 0), .d (.int .i64 0), .d (.str ByteArray.empty), .d (.str step.fk.table), .d (.sl (step.fk.cols.map encI)), .d (.str step.fk.ref)]) ?_ ?_
                              · try simp [*, Plan.then_, vcPlan, planOps, isCallAt, callKind]
                                repeat' (first | with_reducible refine And.intro ?_ ?_ | (refine CutK.of ?_; simp [*]; done))
                              · rintro e29 h29 ⟨hn29, h29_2, h29_3, hb29_b2, hb29_b3⟩
                                try simp [*]
                                obtain rfl := r_ret hm
                                exact ret0 (vs := [_]) (by simp [*]; try exact rfl) (by simp [*])
                            · try simp [*]
                              refine r_cond hm ?_ ?_ <;> clear hm <;> intro hc30 hm
                              · try simp [*]
                                refine Wait.cut (Plan.then_ [0, 2] (.two 1 3 (Plan.then_ [3, 4, 5] .done) (Plan.then_ [1, 4, 5] .done))) follows (by kernel_rfl) (fun e31 h31 => e31.n = 115 ∧ e31.get 2 = .one (.ptr (1, 32) 0) ∧ e31.get 3 = .one (.ptr (2, 48) 0) ∧ h31.box (1, 32) = some [.d (.int .i64 0), .d (.str ByteArray.empty), .d (.str ByteArray.empty), .d (.str ByteArray.empty), .d (.str ByteArray.empty), .d (.int .i64 0), .nil, .d (.str ByteArray.empty), .d (.int .i64 0), .d (.int .i64 0), .d (.str ByteArray.empty), .d (.str ByteArray.empty), .nil, .nil, .d (.str ByteArray.empty), .d (.int .i64 0), .d (.str ByteArray.empty), .d (.int .i64 0), .d (.int .i64 0), .d (.int .i64 0), .d (.str ByteArray.empty), .d (.str ByteArray.empty), .nil, .d (.str ByteArray.empty)] ∧ h31.box (2, 48) = some [.d (.int .i64 step.kind), .d (.str ByteArray.empty), .d (.str ByteArray.empty), .d (.str ByteArray.empty), .d (.str ByteArray.empty), .d (.int .i64 0), .nil, .d (.str ByteArray.empty), .d (.int .i64 0), .d (.int .i64 0), .d (.str ByteArray.empty), .d (.str ByteArray.empty), .nil, .nil, .d (.str ByteArray.empty), .d (.int .i64 0), .d (.str ByteArray.empty), .d (.int .i64 0), .d (.int .i64 0), .d (.int .i64 0), .d (.str ByteArray.empty), .d (.str step.fk.table), .d (.sl (step.fk.cols.map encI)), .d (.str step.fk.ref)]) ?_ ?_
                                · try simp [*, Plan.then_, vcPlan, planOps, isCallAt, callKind]
                                  repeat' (first | with_reducible refine And.intro ?_ ?_ | (refine CutK.of ?_; simp [*]; done))
                                · rintro e31 h31 ⟨hn31, h31_2, h31_3, hb31_b2, hb31_b3⟩
                                  try simp [*]
                                  obtain rfl := r_ret hm
                                  exact ret0 (vs := [_]) (by simp [*]; try exact rfl) (by simp [*])
                              · try simp [*]
                                obtain rfl := r_ret hm
                                exact ret0 (vs := [_]) (by simp [*]; try exact rfl) (by simp [*])
end Go.Proofs.YthgepknlibmjcaaGreat
end
section
namespace Go.Proofs.YthgepknlibmjcaaGreat
open Go.Am
set_option linter.unusedVariables false
set_option linter.unusedSimpArgs false
def m_evolution_Validate (step : Stp) : Option Int :=
  (bif decide (step.kind < 1) then (some 3) else (bif decide (16 < step.kind) then (some 3) else (bindK (m_evolution_normalized step) fun v4 => (bindK (m_evolution_Equal step v4) fun v5 => (bif !v5 then (some 3) else (some 0))))))
set_option maxRecDepth 20000 in
theorem c_evolution_Validate (step : Stp) (r : Int) (hm : Is (m_evolution_Validate step) r) : PSpec Tryz.prog 153 [.agg step.enc] (.one (.d (.int .i64 r))) := by
  unfold m_evolution_Validate at hm
  refine PSpec.of_vc Tryz.func153 rfl (by kernel_rfl) (n := 18) rfl rfl (by simp) ?_
  try simp [*]
  refine Wait.of (SWP.draw (Plan.then_ [0, 1, 2, 3, 4, 5, 6, 7, 8, 9, 10, 11, 12, 13, 14] .done) follows (by kernel_rfl) ?_)
  try simp [*, Plan.then_, vcPlan, planOps, isCallAt, callKind]
  refine r_guardF hm ?_ ?_ <;> clear hm <;> intro hc2 hm
  · try simp [*, Plan.then_, vcPlan, planOps, isCallAt, callKind]
    try refine ⟨fun (_ : Lab) (_ : List C) hl => hl, ?_⟩
    try simp [*, Plan.then_, vcPlan, planOps, isCallAt, callKind]
    try refine ⟨fun (_ : Lab) (_ : List C) hl => hl, ?_⟩
    try simp [*, Plan.then_, vcPlan, planOps, isCallAt, callKind]
    obtain rfl := r_ret hm
    exact ret0 (vs := [_]) (by simp [*]; try exact rfl) (by simp [*])
  · try simp [*, Plan.then_, vcPlan, planOps, isCallAt, callKind]
    refine r_guardF hm ?_ ?_ <;> clear hm <;> intro hc3 hm
    · try simp [*, Plan.then_, vcPlan, planOps, isCallAt, callKind]
      try refine ⟨fun (_ : Lab) (_ : List C) hl => hl, ?_⟩
      try simp [*, Plan.then_, vcPlan, planOps, isCallAt, callKind]
      try refine ⟨fun (_ : Lab) (_ : List C) hl => hl, ?_⟩
      try simp [*, Plan.then_, vcPlan, planOps, isCallAt, callKind]
      obtain rfl := r_ret hm
      exact ret0 (vs := [_]) (by simp [*]; try exact rfl) (by simp [*])
    · try simp [*, Plan.then_, vcPlan, planOps, isCallAt, callKind]
      refine r_call (av := [.agg step.enc]) hm (fun v hv => c_evolution_normalized _ v hv) (by simp [*]) ?_
      clear hm; intro v4 hvv4 hm
      try simp [*, Plan.then_, vcPlan, planOps, isCallAt, callKind]
      try refine ⟨fun (_ : Lab) (_ : List C) hl => hl, ?_⟩
      refine r_call (av := [.agg step.enc, .agg v4.enc]) hm (fun v hv => c_evolution_Equal _ _ v hv) (by simp [*]) ?_
      clear hm; intro v5 hvv5 hm
      try simp [*, Plan.then_, vcPlan, planOps, isCallAt, callKind]
      try refine ⟨fun (_ : Lab) (_ : List C) hl => hl, ?_⟩
      refine r_cond hm ?_ ?_ <;> clear hm <;> intro hc6 hm
      · try simp [*]
        obtain rfl := r_ret hm
        exact ret0 (vs := [_]) (by simp [*]; try exact rfl) (by simp [*])
      · try simp [*]
        obtain rfl := r_ret hm
        exact ret0 (vs := [_]) (by simp [*]; try exact rfl) (by simp [*])
end Go.Proofs.YthgepknlibmjcaaGreat
end
section
/-
  evolution.Apply: by values.
-/
namespace Go.Proofs.YthgepknlibmjcaaGreat
open Go Go.Am
set_option linter.unusedVariables false
set_option linter.unusedSimpArgs false
def schZ : Sch := ⟨[], [], []⟩
def m_evolution_Apply (S : Sch) (x : Stp) : Option (Sch × Int) :=
  bindK (m_schema_Validate S) fun e => bif e != 0 then some (schZ, e) else bindK (m_evolution_Validate x) fun e2 => bif e2 != 0 then some (schZ, e2) else
  chkK (schOK S ∧ stpOK x) (bindK (m_evolution_apply S x) fun q => bif q.2 != 0 then some (schZ, q.2) else bindK (m_schema_Validate q.1) fun e3 => bif e3 != 0 then some (schZ, e3) else some (q.1, 0))
theorem frz_fin {h : HS} {cs : List C} {S : Sch} {r : Int} (hf : FrzCs h cs S.enc) : FrzFin h (.tup [.agg cs, .one (.d (.int .i64 r))]) (.tup [.agg (S.enc.map RC.d), .one (.d (.int .i64 r))]) := by
  match cs, hf with
  | [a, b, c], hf => exact ⟨⟨hf.1, hf.2.1, hf.2.2.1, trivial⟩, Frz.data rfl, trivial⟩
set_option maxRecDepth 20000 in
set_option maxHeartbeats 1000000 in
theorem c_evolution_Apply (S : Sch) (x : Stp) (r : Sch × Int) (hm : Is (m_evolution_Apply S x) r) : PSpec Tryz.prog 144 [.agg S.enc, .agg x.enc] (.tup [.agg (r.1.enc.map RC.d), .one (.d (.int .i64 r.2))]) := by
  refine PSpec.of_heap ?_
  obtain ⟨R, q⟩ := r
  simp only at hm ⊢
  replace hm := hm.bind
  obtain ⟨ev, hev, hm⟩ := hm
  show HSpec _ _ [.agg (S.enc.map C.d), .agg (x.enc.map C.d)] HS.init _
  refine HSpec.good Tryz.func144 rfl (by kernel_rfl) fun hg => ?_
  refine HSpec.of_vc Tryz.func144 rfl (by kernel_rfl) (n := 39) rfl rfl (by simp) ?_
  simp
  refine callK_heap (HSpec.of_lend (c_schema_Validate S ev hev) ⟨.agg (FrzCs.datas (ds := S.enc)), trivial⟩ rfl ?_)
  simp
  cases hev0 : ev != 0 with
  | true =>
    simp only [hev0, cond_true] at hm
    have e1 := r_ret hm
    simp only [Prod.mk.injEq] at e1
    obtain ⟨rfl, rfl⟩ := e1
    simp [hev0, retH, resVs, resV, notTup]
    exact frz_fin ⟨.data rfl, .data rfl, .data rfl, trivial⟩
  | false =>
    simp only [hev0, cond_false] at hm
    replace hm := hm.bind
    obtain ⟨e2, he2, hm⟩ := hm
    simp [hev0]
    refine callK_heap (HSpec.of_lend (c_evolution_Validate x e2 he2) ⟨.agg (FrzCs.datas (ds := x.enc)), trivial⟩ rfl ?_)
    simp
    cases he20 : e2 != 0 with
    | true =>
      simp only [he20, cond_true] at hm
      have e1 := r_ret hm
      simp only [Prod.mk.injEq] at e1
      obtain ⟨rfl, rfl⟩ := e1
      simp [he20, retH, resVs, resV, notTup]
      exact frz_fin ⟨.data rfl, .data rfl, .data rfl, trivial⟩
    | false =>
      simp only [he20, cond_false] at hm
      replace hm := hm.chk
      obtain ⟨⟨hS, hx⟩, hm⟩ := hm
      replace hm := hm.bind
      obtain ⟨⟨S1, q1⟩, hm1, hm⟩ := hm
      simp only at hm
      simp [he20]
      refine callK_heap (h_schema_Clone _ S hS _ (fun tc fc oc qt qf qo g1 pt pf po nd new hs1 => ?_))
      have b4 := hs1.2 (2, 64) (by simp) (by simp)
      have b3 := hs1.2 (1, 48) (by simp) (by simp)
      have hep1 := hs1.1
      simp at b4 b3 hep1
      simp [b3]
      have hz : Same g1 ((g1.setBox (g1.ep, 128) [.nil, .nil, .nil]).next.setBox (g1.ep, 128) [tc, fc, oc]) [] := ((Same.refl.setBox (.inr (Nat.le_refl _))).next).setBox (.inr (Nat.le_refl _))
      have sB : Sc ((g1.setBox (g1.ep, 128) [.nil, .nil, .nil]).next.setBox (g1.ep, 128) [tc, fc, oc]) (g1.ep, 128) S tc fc oc (plabs tc qt) (plabs fc qf) (plabs oc qo) := by
        refine ⟨qt, qf, qo, rfl, rfl, rfl, by simp, pt.frame fun k hk => hz.2 k (new k (by simp [hk])).2 (by simp), pf.frame fun k hk => hz.2 k (new k (by simp [hk])).2 (by simp), po.frame fun k hk => hz.2 k (new k (by simp [hk])).2 (by simp), ?_, fun k hk => ?_⟩
        · rw [List.nodup_cons]
          exact ⟨fun hk => by have := (new _ hk).2; simp at this, nd⟩
        · rcases List.mem_cons.1 hk with rfl | hk
          · simp
          · have := (new k hk).2; simp; omega
      have b4B : ((g1.setBox (g1.ep, 128) [.nil, .nil, .nil]).next.setBox (g1.ep, 128) [tc, fc, oc]).box (2, 64) = some [.nil, .nil, .nil] := by simp [b4]
      have hepB : g1.ep < ((g1.setBox (g1.ep, 128) [.nil, .nil, .nil]).next.setBox (g1.ep, 128) [tc, fc, oc]).ep := by simp
      have newB : ∀ k ∈ (g1.ep, 128) :: (plabs tc qt ++ (plabs fc qf ++ plabs oc qo)), 5 ≤ k.1 := fun k hk => by
        rcases List.mem_cons.1 hk with rfl | hk
        · exact hep1
        · have := (new k hk).1; simpa using this
      refine callK_heap (h_evolution_Clone _ x hx _ (fun cs g2 lx ox ndx nwx hs2 hb2 => ?_))
      have s2 := sB.frame hs2
      have b42 : g2.box (2, 64) = some [.nil, .nil, .nil] := by rw [hs2.2 _ (by simp; omega) (by simp)]; exact b4B
      simp
      refine callK_heap (h_evolution_apply g2 (g1.ep, 128) tc fc oc cs _ _ _ lx S S1 x q1 hm1 s2 ox ⟨ndx, fun k hk => ⟨(nwx k hk).2, fun h9 => by have := sB.lt k h9; have := (nwx k hk).1; omega⟩⟩ _ ?_)
      intro g3 ls3 ho3 hs3 hl3
      obtain ⟨tc3, fc3, oc3, ta3, fa3, oa3, rfl, s3⟩ := ho3.sc
      have b43 : g3.box (2, 64) = some [.nil, .nil, .nil] := by
        rw [hs3.2 _ (by have := hs2.1; simp at this ⊢; omega) fun h9 => ?_]
        · exact b42
        · simp only [List.mem_cons, List.mem_append] at h9
          rcases h9 with h9 | h9 | h9
          · simp at h9
          · have := newB (2, 64) (by simp only [List.mem_cons, List.mem_append]; exact .inr h9); simp at this
          · have := (nwx _ h9).1; simp at this; omega
      have hb3 := s3.box
      simp
      cases hq0 : q1 != 0 with
      | true =>
        simp only [hq0, cond_true] at hm
        have e1 := r_ret hm
        simp only [Prod.mk.injEq] at e1
        obtain ⟨rfl, rfl⟩ := e1
        simp [hq0, b43, retH, resVs, resV, notTup]
        exact frz_fin ⟨.data rfl, .data rfl, .data rfl, trivial⟩
      | false =>
        simp only [hq0, cond_false] at hm
        replace hm := hm.bind
        obtain ⟨e3, he3, hm⟩ := hm
        simp [hq0, hb3]
        refine callK_heap (HSpec.of_lend (c_schema_Validate S1 e3 he3) ⟨.agg s3.frz, trivial⟩ rfl ?_)
        simp
        cases he30 : e3 != 0 with
        | true =>
          simp only [he30, cond_true] at hm
          have e1 := r_ret hm
          simp only [Prod.mk.injEq] at e1
          obtain ⟨rfl, rfl⟩ := e1
          simp [he30, b43, retH, resVs, resV, notTup]
          exact frz_fin ⟨.data rfl, .data rfl, .data rfl, trivial⟩
        | false =>
          simp only [he30, cond_false] at hm
          have e1 := r_ret hm
          simp only [Prod.mk.injEq] at e1
          obtain ⟨rfl, rfl⟩ := e1
          simp [he30, b43, hb3, retH, resVs, resV, notTup]
          refine frz_fin ((s3.frame2 (lz := [(2, 64)]) (Same.refl.next.setBox (.inl (by simp))) fun k hk h9 => ?_).frz)
          simp at hk
          subst hk
          simp only [List.mem_cons] at h9
          rcases h9 with h9 | h9
          · simp at h9
          · rcases hl3 _ h9 with h8 | h8
            · rcases List.mem_append.1 h8 with h8 | h8
              · have := newB (2, 64) (List.mem_cons_of_mem _ h8); simp at this
              · have := (nwx _ h8).1; simp at this; omega
            · have := hs2.1; simp at this h8; omega
end Go.Proofs.YthgepknlibmjcaaGreat
end
section
namespace Go.Proofs.YthgepknlibmjcaaGreat
open Go.Am
set_option linter.unusedVariables false
set_option linter.unusedSimpArgs false
def m_slices_Clone_Constraint (s_ : List Cons) : Option (List Cons) := some s_
theorem c_slices_Clone_Constraint (s_ : List Cons) (r : List Cons) (hm : Is (m_slices_Clone_Constraint s_) r) : PSpec Tryz.prog 123 [.one (.d (.sl (s_.map Cons.enc)))] (.one (.fresh 0 7 (r.map Cons.enc))) := by
  obtain rfl := r_ret hm
  refine bound1 ⟨_, Tryz.func123, by kernel_rfl, by kernel_rfl⟩ (fun hl => ?_)
  have hxs : ∀ x ∈ s_.map Cons.enc, x.length = 7 := by
    intro x hx
    obtain ⟨y, _, rfl⟩ := List.mem_map.1 hx
    rfl
  generalize s_.map Cons.enc = xs at *
  refine PSpec.of_vc Tryz.func123 rfl (by kernel_rfl) (n := 8) rfl rfl (by simp) ?_
  simp
  refine nilK_list ty_el24 rfl (xs := xs) rfl (fun b hb => ?_)
  cases b with
  | true =>
    have : xs = [] := Classical.byContradiction fun h => by simpa using hb h
    subst this
    simp
    exact ret_growsV (by simpa using GrowsV.nil)
  | false =>
    simp
    refine emptyK_own (by simp) ?_
    simp
    refine appK_of ty_el24 (Grows.own (by simp) (by simp) (by simp)) rfl (by decide) (by decide) hxs (by simpa using hl) ?_
    simp
    exact ret_growsV (by simpa using GrowsV.app (by simp) (by simp) hxs rfl)

end Go.Proofs.YthgepknlibmjcaaGreat
end
section
namespace Go.Proofs.YthgepknlibmjcaaGreat
open Go.Am
set_option linter.unusedVariables false
set_option linter.unusedSimpArgs false
def m_slices_Clone_Int (s_ : List Int) : Option (List Int) := some s_
theorem c_slices_Clone_Int (s_ : List Int) (r : List Int) (hm : Is (m_slices_Clone_Int s_) r) : PSpec Tryz.prog 125 [.one (.d (.sl (s_.map encI)))] (.one (.fresh 0 1 (r.map encI))) := by
  obtain rfl := r_ret hm
  refine bound1 ⟨_, Tryz.func125, by kernel_rfl, by kernel_rfl⟩ (fun hl => ?_)
  have hxs : ∀ x ∈ s_.map encI, x.length = 1 := by
    intro x hx
    obtain ⟨y, _, rfl⟩ := List.mem_map.1 hx
    rfl
  generalize s_.map encI = xs at *
  refine PSpec.of_vc Tryz.func125 rfl (by kernel_rfl) (n := 8) rfl rfl (by simp) ?_
  simp
  refine nilK_list ty_el30 rfl (xs := xs) rfl (fun b hb => ?_)
  cases b with
  | true =>
    have : xs = [] := Classical.byContradiction fun h => by simpa using hb h
    subst this
    simp
    exact ret_growsV (by simpa using GrowsV.nil)
  | false =>
    simp
    refine emptyK_own (by simp) ?_
    simp
    refine appK_of ty_el30 (Grows.own (by simp) (by simp) (by simp)) rfl (by decide) (by decide) hxs (by simpa using hl) ?_
    simp
    exact ret_growsV (by simpa using GrowsV.app (by simp) (by simp) hxs rfl)

end Go.Proofs.YthgepknlibmjcaaGreat
end
section
namespace Go.Proofs.YthgepknlibmjcaaGreat
open Go.Am
set_option linter.unusedVariables false
set_option linter.unusedSimpArgs false
def m_slices_Clone_Column (s_ : List Col) : Option (List Col) := some s_
theorem c_slices_Clone_Column (s_ : List Col) (r : List Col) (hm : Is (m_slices_Clone_Column s_) r) : PSpec Tryz.prog 143 [.one (.d (.sl (s_.map Col.enc)))] (.one (.fresh 0 3 (r.map Col.enc))) := by
  obtain rfl := r_ret hm
  refine bound1 ⟨_, Tryz.func143, by kernel_rfl, by kernel_rfl⟩ (fun hl => ?_)
  have hxs : ∀ x ∈ s_.map Col.enc, x.length = 3 := by
    intro x hx
    obtain ⟨y, _, rfl⟩ := List.mem_map.1 hx
    rfl
  generalize s_.map Col.enc = xs at *
  refine PSpec.of_vc Tryz.func143 rfl (by kernel_rfl) (n := 8) rfl rfl (by simp) ?_
  simp
  refine nilK_list ty_el73 rfl (xs := xs) rfl (fun b hb => ?_)
  cases b with
  | true =>
    have : xs = [] := Classical.byContradiction fun h => by simpa using hb h
    subst this
    simp
    exact ret_growsV (by simpa using GrowsV.nil)
  | false =>
    simp
    refine emptyK_own (by simp) ?_
    simp
    refine appK_of ty_el73 (Grows.own (by simp) (by simp) (by simp)) rfl (by decide) (by decide) hxs (by simpa using hl) ?_
    simp
    exact ret_growsV (by simpa using GrowsV.app (by simp) (by simp) hxs rfl)

end Go.Proofs.YthgepknlibmjcaaGreat
end
section
namespace Go.Proofs.YthgepknlibmjcaaGreat
open Go.Am
set_option linter.unusedVariables false
set_option linter.unusedSimpArgs false
def m_schema_CloneTable (t : Tbl) : Option Tbl :=
  (bindK (m_slices_Clone_Column t.cols) fun v3 => (bindK (m_slices_Clone_Int t.pk) fun v4 => (some (Tbl.mk t.name v3 v4))))
set_option maxRecDepth 20000 in
theorem c_schema_CloneTable (t : Tbl) (r : Tbl) (hm : Is (m_schema_CloneTable t) r) : PSpec Tryz.prog 124 [.agg t.enc] (.agg (r.enc.map RC.d)) := by
  unfold m_schema_CloneTable at hm
  refine PSpec.of_vc Tryz.func124 rfl (by kernel_rfl) (n := 12) rfl rfl (by simp) ?_
  try simp [*]
  refine Wait.of (SWP.draw (Plan.then_ [0, 1, 2, 3, 5, 6, 4, 7, 8, 9] .done) follows (by kernel_rfl) ?_)
  try simp [*, Plan.then_, vcPlan, planOps, isCallAt, callKind]
  refine r_call (av := [.one (.d (.sl (t.cols.map Col.enc)))]) hm (fun v hv => c_slices_Clone_Column _ v hv) (by simp [*]) ?_
  clear hm; intro v3 hvv3 hm
  try simp [*, Plan.then_, vcPlan, planOps, isCallAt, callKind]
  try refine ⟨fun (_ : Lab) (_ : List C) hl => hl, ?_⟩
  refine r_call (av := [.one (.d (.sl (t.pk.map encI)))]) hm (fun v hv => c_slices_Clone_Int _ v hv) (by simp [*]) ?_
  clear hm; intro v4 hvv4 hm
  try simp [*, Plan.then_, vcPlan, planOps, isCallAt, callKind]
  try refine ⟨fun (_ : Lab) (_ : List C) hl => hl, ?_⟩
  obtain rfl := r_ret hm
  exact ret0 (vs := [_]) (by simp [*]; try exact rfl) (by simp [*])
end Go.Proofs.YthgepknlibmjcaaGreat
end
section
namespace Go.Proofs.YthgepknlibmjcaaGreat
open Go.Am
set_option linter.unusedVariables false
set_option linter.unusedSimpArgs false
def m_schema_Clone (s_ : Sch) : Option Sch :=
  (bindK (m_slices_Clone_Constraint s_.cons) fun v3 => (forK (fun (i6 : Nat) (x6 : Tbl) (s6 : (List Tbl)) next_6 => (bindK (m_schema_CloneTable x6) fun v8 => (appK2 s6 [v8] fun _ => (next_6 (s6 ++ [v8]))))) (fun (s6 : (List Tbl)) => (forK (fun (i12 : Nat) (x12 : Fk) (s12 : (List Fk)) next_12 => (bindK (m_slices_Clone_Int x12.cols) fun v14 => (appK2 s12 [(Fk.mk x12.table v14 x12.ref)] fun _ => (next_12 (s12 ++ [(Fk.mk x12.table v14 x12.ref)]))))) (fun (s12 : (List Fk)) => (some (Sch.mk s6 s12 v3))) s_.fks 0 [])) s_.tables 0 []))
set_option maxRecDepth 20000 in
theorem c_schema_Clone (s_ : Sch) (r : Sch) (hm : Is (m_schema_Clone s_) r) : PSpec Tryz.prog 101 [.agg s_.enc] (.agg (r.enc.map RC.d)) := by
  unfold m_schema_Clone at hm
  refine PSpec.of_vc Tryz.func101 rfl (by kernel_rfl) (n := 46) rfl rfl (by simp) ?_
  try simp [*]
  refine r_call (av := [.one (.d (.sl (s_.cons.map Cons.enc)))]) hm (fun v hv => c_slices_Clone_Constraint _ v hv) (by simp [*]) ?_
  clear hm; intro v3 hvv3 hm
  try simp [*]
  intro hl5
  replace hl5 : s_.tables.length ≤ 2097152 := by simpa using hl5
  refine Wait.for (xs := s_.tables) (s0 := []) (fun i6 s6 e6 h6 => ∃ c6_0 c6_bb4_2 : C, (e6.n = 46 ∧ e6.get 1 = .one (.ptr (0, 16) 0) ∧ e6.get 2 = .one (.ptr (1, 32) 0) ∧ e6.get 3 = .one (.ptr (3, 48) 0) ∧ e6.get 13 = .one (.d (.sl (s_.tables.map Tbl.enc))) ∧ e6.get 14 = .one (.d (.int .i64 (s_.tables.length : Int))) ∧ e6.get 15 = .one (.d (.int .i64 (i6 : Int))) ∧ h6.box (0, 16) = some [.d (.sl (s_.tables.map Tbl.enc)), .d (.sl (s_.fks.map Fk.enc)), .d (.sl (s_.cons.map Cons.enc))] ∧ h6.box (1, 32) = some [.nil, .nil, .nil] ∧ h6.box (3, 48) = some [c6_0, .nil, c6_bb4_2] ∧ Grows h6 3 c6_0 (s6.map Tbl.enc) ∧ Grows h6 7 c6_bb4_2 (v3.map Cons.enc)) ∧ Apart c6_0 c6_bb4_2) hm ⟨.nil, .own (2, 161) (v3.map Cons.enc), by simp (maxDischargeDepth := 20) [*], (by simp)⟩ ?_ ?_
  · rintro i6 s6 e6 h6 ⟨c6_0, c6_bb4_2, ⟨hn6, h6_1, h6_2, h6_3, h6_13, h6_14, h6_15, hb6_b1, hb6_b2, hb6_b4, gc6_0, gc6_bb4_2⟩, apc6_0_c6_bb4_2⟩ hlt6 hm
    have hlc6_0 := gc6_0.list
    have hdc6_0 := gc6_0.toD
    have hac6_0 := gc6_0.toA
    have huc6_0 := gc6_0.useUp_arr
    have hlc6_bb4_2 := gc6_bb4_2.list
    have hdc6_bb4_2 := gc6_bb4_2.toD
    have hac6_bb4_2 := gc6_bb4_2.toA
    have huc6_bb4_2 := gc6_bb4_2.useUp_arr
    have hw6 : IntKind.i64.wrap ((i6 : Int) + 1) = (i6 : Int) + 1 := IntWalk.i64_in _ (by omega)
    try simp [*]
    refine Wait.of (SWP.draw (Plan.then_ [0, 1, 2, 3, 4, 5, 6, 7] .done) follows (by kernel_rfl) ?_)
    try simp [*, Plan.then_, vcPlan, planOps, isCallAt, callKind]
    refine r_call (av := [.agg (s_.tables[i6]).enc]) hm (fun v hv => c_schema_CloneTable _ v hv) (by simp [*]) ?_
    clear hm; intro v8 hvv8 hm
    try simp [*, Plan.then_, vcPlan, planOps, isCallAt, callKind]
    try refine ⟨fun (_ : Lab) (_ : List C) hl => hl, ?_⟩
    refine r_app (xs := s6) (ys := [v8]) (enc := Tbl.enc) hm ty_el22 (by first | exact Grows.nil | (simp (maxDischargeDepth := 20) [*]; done) | (simp (maxDischargeDepth := 20) [*]; refine ⟨?_, by omega⟩; intro hq; subst hq; simp at hz2 <;> omega)) (by simp [*]) (by decide) (by decide) (fun _ => rfl) ?_
    clear hm; intro hl10 hm g9
    try simp [*, Plan.then_, vcPlan, planOps, isCallAt, callKind]
    exact BackF.of (s6 ++ [v8]) ⟨⟨.own (h6.ep + 3, 384) ((s6 ++ [v8]).map Tbl.enc), c6_bb4_2, by simp (maxDischargeDepth := 20) [*], (by first | (simp [*]; done) | exact gc6_bb4_2.apart (by simp))⟩, hm⟩
  · rintro s6 e6 h6 ⟨c6_0, c6_bb4_2, ⟨hn6, h6_1, h6_2, h6_3, h6_13, h6_14, h6_15, hb6_b1, hb6_b2, hb6_b4, gc6_0, gc6_bb4_2⟩, apc6_0_c6_bb4_2⟩ hm
    have hlc6_0 := gc6_0.list
    have hdc6_0 := gc6_0.toD
    have hac6_0 := gc6_0.toA
    have huc6_0 := gc6_0.useUp_arr
    have hlc6_bb4_2 := gc6_bb4_2.list
    have hdc6_bb4_2 := gc6_bb4_2.toD
    have hac6_bb4_2 := gc6_bb4_2.toA
    have huc6_bb4_2 := gc6_bb4_2.useUp_arr
    try simp [*]
    intro hl11
    replace hl11 : s_.fks.length ≤ 2097152 := by simpa using hl11
    refine Wait.for (xs := s_.fks) (s0 := []) (fun i12 s12 e12 h12 => ∃ c12_bb4_0 c12_0 c12_bb4_2 : C, (e12.n = 46 ∧ e12.get 2 = .one (.ptr (1, 32) 0) ∧ e12.get 3 = .one (.ptr (3, 48) 0) ∧ e12.get 28 = .one (.d (.sl (s_.fks.map Fk.enc))) ∧ e12.get 29 = .one (.d (.int .i64 (s_.fks.length : Int))) ∧ e12.get 30 = .one (.d (.int .i64 (i12 : Int))) ∧ h12.box (1, 32) = some [.nil, .nil, .nil] ∧ h12.box (3, 48) = some [c12_bb4_0, c12_0, c12_bb4_2] ∧ Grows h12 3 c12_bb4_0 (s6.map Tbl.enc) ∧ Grows h12 3 c12_0 (s12.map Fk.enc) ∧ Grows h12 7 c12_bb4_2 (v3.map Cons.enc)) ∧ Apart c12_bb4_0 c12_0 ∧ Apart c12_bb4_0 c12_bb4_2 ∧ Apart c12_0 c12_bb4_2) hm ⟨c6_0, .nil, c6_bb4_2, by simp (maxDischargeDepth := 20) [*], (by simp), (by first | assumption | exact Apart.symm (by assumption)), (by simp)⟩ ?_ ?_
    · rintro i12 s12 e12 h12 ⟨c12_bb4_0, c12_0, c12_bb4_2, ⟨hn12, h12_2, h12_3, h12_28, h12_29, h12_30, hb12_b2, hb12_b4, gc12_bb4_0, gc12_0, gc12_bb4_2⟩, apc12_bb4_0_c12_0, apc12_bb4_0_c12_bb4_2, apc12_0_c12_bb4_2⟩ hlt12 hm
      have hlc12_bb4_0 := gc12_bb4_0.list
      have hdc12_bb4_0 := gc12_bb4_0.toD
      have hac12_bb4_0 := gc12_bb4_0.toA
      have huc12_bb4_0 := gc12_bb4_0.useUp_arr
      have hlc12_0 := gc12_0.list
      have hdc12_0 := gc12_0.toD
      have hac12_0 := gc12_0.toA
      have huc12_0 := gc12_0.useUp_arr
      have hlc12_bb4_2 := gc12_bb4_2.list
      have hdc12_bb4_2 := gc12_bb4_2.toD
      have hac12_bb4_2 := gc12_bb4_2.toA
      have huc12_bb4_2 := gc12_bb4_2.useUp_arr
      have hw12 : IntKind.i64.wrap ((i12 : Int) + 1) = (i12 : Int) + 1 := IntWalk.i64_in _ (by omega)
      try simp [*]
      refine r_call (av := [.one (.d (.sl ((s_.fks[i12].cols).map encI)))]) hm (fun v hv => c_slices_Clone_Int _ v hv) (by simp [*]) ?_
      clear hm; intro v14 hvv14 hm
      try simp [*]
      refine r_app (xs := s12) (ys := [(Fk.mk s_.fks[i12].table v14 s_.fks[i12].ref)]) (enc := Fk.enc) hm ty_el23 (by first | exact Grows.nil | (simp (maxDischargeDepth := 20) [*]; done) | (simp (maxDischargeDepth := 20) [*]; refine ⟨?_, by omega⟩; intro hq; subst hq; simp at hz2 <;> omega)) (by simp [*]) (by decide) (by decide) (fun _ => rfl) ?_
      clear hm; intro hl16 hm g15
      try simp [*]
      exact BackF.of (s12 ++ [(Fk.mk s_.fks[i12].table v14 s_.fks[i12].ref)]) ⟨⟨c12_bb4_0, .own (h12.ep + 3, 672) ((s12 ++ [(Fk.mk s_.fks[i12].table v14 s_.fks[i12].ref)]).map Fk.enc), c12_bb4_2, by simp (maxDischargeDepth := 20) [*], (by first | (simp [*]; done) | exact (gc12_bb4_0.apart (by simp)).symm), (by first | assumption | exact Apart.symm (by assumption)), (by first | (simp [*]; done) | exact gc12_bb4_2.apart (by simp))⟩, hm⟩
    · rintro s12 e12 h12 ⟨c12_bb4_0, c12_0, c12_bb4_2, ⟨hn12, h12_2, h12_3, h12_28, h12_29, h12_30, hb12_b2, hb12_b4, gc12_bb4_0, gc12_0, gc12_bb4_2⟩, apc12_bb4_0_c12_0, apc12_bb4_0_c12_bb4_2, apc12_0_c12_bb4_2⟩ hm
      have hlc12_bb4_0 := gc12_bb4_0.list
      have hdc12_bb4_0 := gc12_bb4_0.toD
      have hac12_bb4_0 := gc12_bb4_0.toA
      have huc12_bb4_0 := gc12_bb4_0.useUp_arr
      have hlc12_0 := gc12_0.list
      have hdc12_0 := gc12_0.toD
      have hac12_0 := gc12_0.toA
      have huc12_0 := gc12_0.useUp_arr
      have hlc12_bb4_2 := gc12_bb4_2.list
      have hdc12_bb4_2 := gc12_bb4_2.toD
      have hac12_bb4_2 := gc12_bb4_2.toA
      have huc12_bb4_2 := gc12_bb4_2.useUp_arr
      try simp [*]
      obtain rfl := r_ret hm
      exact ret0 (vs := [_]) (by simp [*]; try exact rfl) (by simp [*])
end Go.Proofs.YthgepknlibmjcaaGreat
end
section
/-
  Clones; evolution.Validate comes to an end; the smaller steps of evolution.
-/
namespace Go.Proofs.YthgepknlibmjcaaGreat
open Go Go.Am
set_option linter.unusedVariables false
set_option linter.unusedSimpArgs false
theorem w_clone {α β : Type} {xs : List α} {f : α → β} {Q : List β → Prop} {ρ : Type} {R : ρ → Prop} {body : Nat → α → List β → (List β → Option ρ) → Option ρ} {k : List β → Option ρ} (hl : xs.length ≤ 1048576)
    (hb : ∀ i x s next, s.length < 1048576 → Wp (next (s ++ [f x])) R → Wp (body i x s next) R) (hk : Wp (k (xs.map f)) R) : Wp (forK body k xs 0 []) R := by
  refine Wp.for (fun i s => s = (xs.take i).map f) (by simp) ?_ ?_
  · intro i x s next hx hm hI hn
    have hi := (List.getElem?_eq_some_iff.1 hx).1
    subst hI
    refine hb i x _ next (by simp; omega) (hn _ ?_)
    rw [List.take_add_one, hx]
    simp
  · intro s hs
    rw [hs, List.take_length]
    exact hk
theorem w_schema_Clone (S : Sch) (h1 : S.tables.length ≤ 1048576) (h2 : S.fks.length ≤ 1048576) : Wp (m_schema_Clone S) fun r => r = S := by
  unfold m_schema_Clone
  refine Wp.bind (R := fun r => r = S.cons) (Wp.ret rfl) fun o _ ho => ?_
  subst ho
  refine w_clone (f := id) (Q := fun _ => True) h1 ?_ ?_
  · intro i x s next hs hn
    refine Wp.bind (R := fun r => r = x) (Wp.ret (by cases x; rfl)) fun y _ hy => ?_
    subst hy
    exact Wp.app (by simp; omega) hn
  · refine w_clone (f := id) (Q := fun _ => True) h2 ?_ ?_
    · intro i x s next hs hn
      refine Wp.bind (R := fun r => r = x.cols) (Wp.ret rfl) fun y _ hy => ?_
      subst hy
      exact Wp.app (by simp; omega) (by cases x; exact hn)
    · exact Wp.ret (by cases S; simp)
theorem w_Equal_Column (a b : List Col) : Wp (m_slices_Equal_Column a b) fun _ => True := by
  unfold m_slices_Equal_Column
  refine Wp.cond (fun _ => Wp.ret trivial) fun h => ?_
  have hl : a.length = b.length := by simp at h; omega
  refine Wp.for (fun _ _ => True) trivial (fun i x s next hx _ _ hn => ?_) fun _ _ => Wp.ret trivial
  have hi := (List.getElem?_eq_some_iff.1 hx).1
  exact Wp.get (by omega) (by omega) fun _ _ _ => Wp.cond (fun _ => Wp.ret trivial) fun _ => hn () trivial
theorem w_EqualTables (a b : Tbl) : Wp (m_schema_EqualTables a b) fun _ => True := by
  unfold m_schema_EqualTables m_schema_equalTables
  refine Wp.bind (R := fun _ => True) (Wp.cond (fun _ => Wp.bind (w_Equal_Column _ _) fun _ _ _ => Wp.cond (fun _ => Wp.bind (w_Equal_Int _ _) fun _ _ _ => Wp.ret trivial) fun _ => Wp.ret trivial) fun _ => Wp.ret trivial) fun _ _ _ => Wp.ret trivial
theorem w_evolution_Validate (x : Stp) : Wp (m_evolution_Validate x) fun _ => True := by
  unfold m_evolution_Validate
  refine Wp.cond (fun _ => Wp.ret trivial) fun _ => Wp.cond (fun _ => Wp.ret trivial) fun _ => Wp.bind (R := fun _ => True) ?_ fun y _ _ => Wp.bind (R := fun _ => True) ?_ fun _ _ _ => Wp.cond (fun _ => Wp.ret trivial) fun _ => Wp.ret trivial
  · unfold m_evolution_normalized
    repeat' first | exact Wp.ret trivial | refine Wp.cond (fun _ => ?_) fun _ => ?_
  · unfold m_evolution_Equal
    repeat' first | exact Wp.ret trivial | refine Wp.bind (w_Equal_Int _ _) fun _ _ _ => ?_ | refine Wp.bind (w_EqualTables _ _) fun _ _ _ => ?_ | refine Wp.bind (w_EqualForeignKeys _ _) fun _ _ _ => ?_ | refine Wp.cond (fun _ => ?_) fun _ => ?_
theorem w_Index_Int (xs : List Int) (v : Int) : Wp (m_slices_Index_Int xs v) fun k => (k = -1 ∧ v ∉ xs) ∨ (0 ≤ k ∧ k < xs.length ∧ v ∈ xs) := by
  unfold m_slices_Index_Int
  refine Wp.for (fun i _ => ∀ (j : Nat) (y : Int), j < i → xs[j]? = some y → y ≠ v) (by intro j y h; omega) ?_ ?_
  · intro i x s next hx hm hI hn
    have hi := (List.getElem?_eq_some_iff.1 hx).1
    refine Wp.cond (fun h => Wp.ret (.inr ⟨by omega, by omega, ?_⟩)) fun h => hn () (upto_succ hI hx ?_)
    · have : v = x := by simpa using h
      rw [this]; exact hm
    · intro h0
      simp [h0] at h
  · intro s hI
    exact Wp.ret (.inl ⟨rfl, fun hv => upto_mem hI v hv rfl⟩)
theorem w_Contains_Int (xs : List Int) (v : Int) : Wp (m_slices_Contains_Int xs v) fun b => b = true ↔ v ∈ xs := by
  unfold m_slices_Contains_Int
  refine Wp.bind (w_Index_Int xs v) fun k _ hk => Wp.ret ?_
  rcases hk with ⟨rfl, h⟩ | ⟨h1, _, h⟩
  · simp [h]
  · simp [h, h1]
theorem w_overlap (a b : List Int) (hl : a.length ≤ 2097152) : Wp (m_evolution_overlap a b) fun _ => True := by
  unfold m_evolution_overlap
  refine Wp.for (fun i s => 0 ≤ s ∧ s ≤ i) (by simp) ?_ ?_
  · rintro i x s next hx hm ⟨h0, h1⟩ hn
    have hi := (List.getElem?_eq_some_iff.1 hx).1
    refine Wp.bind (w_Contains_Int _ _) fun _ _ _ => Wp.cond (fun _ => Wp.chk ⟨by omega, by omega⟩ (hn _ ⟨by omega, by omega⟩)) fun _ => hn _ ⟨h0, by omega⟩
  · intro s _
    exact Wp.cond (fun _ => Wp.ret trivial) fun _ => Wp.cond (fun _ => Wp.ret trivial) fun _ => Wp.ret trivial
theorem w_dropConstraint (S : Sch) (c : Cons) : Wp (m_evolution_dropConstraint S c) fun _ => True := by
  unfold m_evolution_dropConstraint m_slices_Index_Constraint
  refine Wp.bind (R := fun k => k < S.cons.length) (Wp.for (fun _ _ => True) trivial (fun i x s next hx _ _ hn => Wp.cond (fun _ => Wp.ret ?_) fun _ => hn () trivial) fun _ _ => Wp.ret (by omega)) fun k _ hk => Wp.ite (fun _ => Wp.ret trivial) fun h => Wp.chk (by omega) (Wp.ret trivial)
  have hi := (List.getElem?_eq_some_iff.1 hx).1
  omega
theorem w_dropForeignKey (S : Sch) (c : Fk) : Wp (m_evolution_dropForeignKey S c) fun q => q.1.tables = S.tables ∧ q.1.cons = S.cons ∧ ∀ f ∈ q.1.fks, f ∈ S.fks := by
  unfold m_evolution_dropForeignKey m_slices_IndexFunc_Foreignkey
  refine Wp.bind (Wp.index fun x _ => ?_) fun k _ hk => Wp.ite (fun _ => Wp.ret ⟨rfl, rfl, fun _ h => h⟩) fun h => Wp.chk (by have := hk.lt; omega) (Wp.ret ⟨rfl, rfl, fun f hf => ?_⟩)
  · unfold m_evolution_dropForeignKey_1
    exact Wp.bind (w_EqualForeignKeys _ _) fun _ _ _ => Wp.ret trivial
  · simp only at hf
    rcases List.mem_append.1 hf with h1 | h1
    · exact List.mem_of_mem_take h1
    · exact List.mem_of_mem_drop h1
theorem w_insertTable (S : Sch) (T : Tbl) (h : S.tables.length < 19) : Wp (m_evolution_insertTable S T) fun S' => S'.fks = S.fks ∧ S'.cons = S.cons := by
  unfold m_evolution_insertTable
  exact Wp.chk h (Wp.ret ⟨rfl, rfl⟩)
theorem w_createTable (S : Sch) (T : Tbl) (h : S.tables.length < 19) : Wp (m_evolution_createTable S T) fun _ => True := by
  unfold m_evolution_createTable
  exact Wp.bind (w_FindTable _ _) fun _ _ _ => Wp.cond (fun _ => Wp.ret trivial) fun _ => Wp.bind (w_insertTable S T h) fun _ _ _ => Wp.ret trivial
theorem w_renameTable (S : Sch) (i : Nat) (nm : ByteArray) (h : S.tables.length < 19) (hi : i < S.tables.length) : Wp (m_evolution_renameTable S i nm) fun _ => True := by
  unfold m_evolution_renameTable
  refine Wp.bind (w_FindTable _ _) fun _ _ _ => Wp.cond (fun _ => Wp.ret trivial) fun _ => Wp.get (by omega) (by omega) fun T _ _ => Wp.bind (w_insertTable _ _ (by simp; omega)) fun S1 _ hS1 => ?_
  refine Wp.count (fun _ (S2 : Sch) => S2.fks.length = S1.fks.length) rfl ?_ ?_
  · intro k S2 next hk hl hn
    refine Wp.get (by omega) (by omega) fun f _ _ => ?_
    repeat' first | exact hn _ (by simpa using hl) | refine Wp.cond (fun _ => ?_) fun _ => ?_
  · intro S2 _
    refine Wp.count (fun _ (S3 : Sch) => S3.cons.length = S2.cons.length) rfl ?_ fun _ _ => Wp.ret trivial
    intro k S3 next hk hl hn
    refine Wp.get (by omega) (by omega) fun f _ _ => ?_
    repeat' first | exact hn _ (by simpa using hl) | refine Wp.cond (fun _ => ?_) fun _ => ?_
end Go.Proofs.YthgepknlibmjcaaGreat
end
section
/-
  The columns of a schema are moved: remapColumns, removeColumns; steps that use them come to an end.
-/
namespace Go.Proofs.YthgepknlibmjcaaGreat
open Go Go.Am
set_option linter.unusedVariables false
set_option linter.unusedSimpArgs false
theorem LIM_eq : LIM = 2097152 := rfl
theorem w_remapColumns (S : Sch) (table : ByteArray) (mr : Int → Option Int) (P : Int → Prop) (hmr : ∀ v, P v → Wp (mr v) fun _ => True)
    (hf : ∀ f ∈ S.fks, strEq f.table table = true → ∀ v ∈ f.cols, P v) (ho : ∀ c ∈ S.cons, strEq c.table table = true → P c.left ∧ (0 ≤ c.right → P c.right)) :
    Wp (m_evolution_remapColumns S table mr) fun S' => S'.tables = S.tables ∧ S'.fks.length = S.fks.length ∧ S'.cons.length = S.cons.length := by
  unfold m_evolution_remapColumns
  refine Wp.count (fun i (S1 : Sch) => S1.tables = S.tables ∧ S1.cons = S.cons ∧ S1.fks.length = S.fks.length ∧ ∀ j, i ≤ j → S1.fks[j]? = S.fks[j]?) ⟨rfl, rfl, rfl, fun _ _ => rfl⟩ ?_ ?_
  · rintro i S1 next hi ⟨h1, h2, h3, h4⟩ hn
    unfold m_remapF
    refine Wp.get (by omega) (by omega) fun f hfx _ => ?_
    have hfx' : S.fks[i]? = some f := by rw [← h4 i (Nat.le_refl _), ← hfx]; congr 1
    refine Wp.cond (fun hst => ?_) fun _ => hn _ ⟨h1, h2, h3, fun j hj => h4 j (by omega)⟩
    have hP := hf f (List.mem_of_getElem? hfx') hst
    refine Wp.count (fun k (S2 : Sch) => S2.tables = S.tables ∧ S2.cons = S.cons ∧ S2.fks.length = S.fks.length ∧ (∀ j, i + 1 ≤ j → S2.fks[j]? = S.fks[j]?) ∧ ∃ f', S2.fks[i]? = some f' ∧ f'.cols.length = f.cols.length ∧ ∀ j, k ≤ j → f'.cols[j]? = f.cols[j]?)
      ⟨h1, h2, h3, fun j hj => h4 j (by omega), f, by rw [← hfx]; congr 1, rfl, fun _ _ => rfl⟩ ?_ ?_
    · rintro k S2 next2 hk ⟨g1, g2, g3, g4, f', g5, g6, g7⟩ hn2
      refine Wp.getN g5 (Wp.get (by omega) (by omega) fun v hv _ => ?_)
      have hv' : f.cols[k]? = some v := by rw [← g7 k (Nat.le_refl _), ← hv]; congr 1
      refine Wp.bind (hmr v (hP v (List.mem_of_getElem? hv'))) fun w _ _ => hn2 _ ⟨g1, g2, by simpa using g3, fun j hj => ?_, ⟨f'.table, f'.cols.set k w, f'.ref⟩, ?_, by simpa using g6, fun j hj => ?_⟩
      · rw [List.getElem?_set_ne (by omega)]; exact g4 j hj
      · rw [List.getElem?_set_self (by omega)]
      · simp only
        rw [List.getElem?_set_ne (by omega)]; exact g7 j (by omega)
    · rintro S2 ⟨g1, g2, g3, g4, _⟩
      exact hn _ ⟨g1, g2, g3, g4⟩
  · rintro S1 ⟨h1, h2, h3, _⟩
    refine Wp.count (fun i (S2 : Sch) => S2.tables = S.tables ∧ S2.fks.length = S.fks.length ∧ S2.cons.length = S.cons.length ∧ ∀ j, i ≤ j → S2.cons[j]? = S.cons[j]?) ⟨h1, h3, by rw [h2], fun _ _ => by rw [h2]⟩ ?_ fun S2 h => Wp.ret ⟨h.1, h.2.1, h.2.2.1⟩
    rintro i S2 next hi ⟨g1, g2, g3, g4⟩ hn
    unfold m_remapO
    have hi' : i < S.cons.length := by rw [← h2]; exact hi
    refine Wp.get (by omega) (by omega) fun c hc _ => ?_
    have hc' : S.cons[i]? = some c := by rw [← g4 i (Nat.le_refl _), ← hc]; congr 1
    refine Wp.cond (fun _ => hn _ ⟨g1, g2, g3, fun j hj => g4 j (by omega)⟩) fun hst => ?_
    have hP := ho c (List.mem_of_getElem? hc') (by simpa using hst)
    have hset : ∀ c', ∀ j, i + 1 ≤ j → (S2.cons.set i c')[j]? = S.cons[j]? := fun c' j hj => by rw [List.getElem?_set_ne (by omega)]; exact g4 j (by omega)
    refine Wp.bind (hmr _ hP.1) fun v _ _ => Wp.cond (fun h => Wp.bind (hmr _ (hP.2 (by simpa using h))) fun w _ _ => hn _ ⟨g1, g2, by simpa using g3, hset _⟩) fun _ => hn _ ⟨g1, g2, by simpa using g3, hset _⟩
theorem w_removeColumns_1 (v : Int) (removed : List Int) (h0 : 0 ≤ v) (h1 : v < 2097152) (hl : removed.length ≤ 2097152) : Wp (m_evolution_removeColumns_1 v removed) fun _ => True := by
  unfold m_evolution_removeColumns_1
  refine Wp.for (fun i s => 0 ≤ s ∧ s ≤ i) (by simp) ?_ ?_
  · rintro i x s next hx hm ⟨h2, h3⟩ hn
    have hi := (List.getElem?_eq_some_iff.1 hx).1
    exact Wp.cond (fun _ => Wp.chk ⟨by omega, by omega⟩ (hn _ ⟨by omega, by omega⟩)) fun _ => hn _ ⟨h2, by omega⟩
  · rintro s ⟨h2, h3⟩
    exact Wp.chk ⟨by omega, by omega⟩ (Wp.ret trivial)
theorem w_removeColumns (S : Sch) (i : Nat) (T : Tbl) (removed : List Int) (hT : S.tables[i]? = some T) (hV : VT T) (hl : removed.length ≤ 2097152)
    (hf : ∀ f ∈ S.fks, strEq f.table T.name = true → ∀ v ∈ f.cols, 0 ≤ v ∧ v < 6) (ho : ∀ c ∈ S.cons, strEq c.table T.name = true → (0 ≤ c.left ∧ c.left < 6) ∧ c.right < 6) :
    Wp (m_evolution_removeColumns S i removed) fun S' => S'.tables.length = S.tables.length ∧ S'.fks.length = S.fks.length ∧ S'.cons.length = S.cons.length ∧
      ∃ T', S'.tables[i]? = some T' ∧ T'.cols.length ≤ T.cols.length ∧ ((∃ k, k < T.cols.length ∧ (k : Int) ∉ removed) → 0 < T'.cols.length) := by
  unfold m_evolution_removeColumns
  have hi := (List.getElem?_eq_some_iff.1 hT).1
  refine Wp.getN hT ?_
  refine Wp.for (fun k (s : List Col) => s.length ≤ k ∧ ((∃ j, j < k ∧ (j : Int) ∉ removed) → 0 < s.length)) ⟨by simp, by rintro ⟨j, h, _⟩; omega⟩ ?_ ?_
  · rintro k c s next hx hm ⟨h1, h2⟩ hn
    unfold m_removeC
    refine Wp.bind (w_Contains_Int _ _) fun b _ hb => Wp.cond (fun h => hn _ ⟨by simp; omega, fun _ => by simp⟩) fun h => hn _ ⟨by omega, ?_⟩
    rintro ⟨j, hj, hr⟩
    refine h2 ⟨j, ?_, hr⟩
    rcases Nat.lt_or_ge j k with h3 | h3
    · exact h3
    · obtain rfl : j = k := by omega
      exact absurd (hb.1 (by simpa using h)) hr
  · rintro cols ⟨h1, h2⟩
    refine Wp.count (fun k (S1 : Sch) => S1.fks = S.fks ∧ S1.cons = S.cons ∧ S1.tables.length = S.tables.length ∧ ∃ T', S1.tables[i]? = some T' ∧ T'.name = T.name ∧ T'.pk.length = T.pk.length ∧ ∀ j, k ≤ j → T'.pk[j]? = T.pk[j]?) ⟨rfl, rfl, rfl, T, hT, rfl, rfl, fun _ _ => rfl⟩ ?_ ?_
    · rintro k S1 next hk ⟨g1, g2, g3, T', g4, g5, g6, g7⟩ hn
      unfold m_removeP
      refine Wp.getN g4 (Wp.get (by omega) (by omega) fun v hv _ => ?_)
      have hv' : T.pk[k]? = some v := by rw [← g7 k (Nat.le_refl _), ← hv]; congr 1
      have hp := hV.pk v (List.mem_of_getElem? hv')
      have h6 := hV.cols6
      refine Wp.bind (w_removeColumns_1 v removed hp.1 (by omega) hl) fun w _ _ => hn _ ⟨g1, g2, by simpa using g3, _, List.getElem?_set_self (by omega), g5, by simpa using g6, fun j hj => ?_⟩
      simp only
      rw [List.getElem?_set_ne (by omega)]; exact g7 j (by omega)
    · rintro S1 ⟨g1, g2, g3, T', g4, g5, g6, _⟩
      refine Wp.getN g4 (Wp.bind (w_remapColumns _ _ _ (fun v => 0 ≤ v ∧ v < 6) (fun v hv => w_removeColumns_1 v removed hv.1 (by omega) hl) ?_ ?_) fun S2 _ hS2 => Wp.ret ?_)
      · simp only [g1, g5]; exact hf
      · simp only [g2, g5]; exact fun c hc he => ⟨(ho c hc he).1, fun h => ⟨h, (ho c hc he).2⟩⟩
      · obtain ⟨k1, k2, k3⟩ := hS2
        refine ⟨by rw [k1]; simpa using g3, by rw [k2]; simp [g1], by rw [k3]; simp [g2], { T' with cols := cols }, by rw [k1]; exact List.getElem?_set_self (by omega), h1, fun h => h2 h⟩
theorem w_checkUnused (S : Sch) (T : Tbl) (v : Int) : Wp (m_evolution_checkUnused S T v) fun e => e = 0 → v ∉ T.pk := by
  unfold m_evolution_checkUnused m_slices_ContainsFunc_Constraint m_slices_IndexFunc_Constraint
  refine Wp.bind (w_Contains_Int _ _) fun b _ hb => Wp.cond (fun _ => Wp.ret (by simp)) fun h1 => ?_
  have hn : v ∉ T.pk := fun h => by rw [hb.2 h] at h1; cases h1
  refine Wp.bind (w_ContainsFunc_Fk _ _ fun x _ => ?_) fun _ _ _ => Wp.cond (fun _ => Wp.ret (by simp)) fun _ => Wp.bind (R := fun _ => True) (Wp.bind (Wp.index fun x _ => ?_) fun _ _ _ => Wp.ret trivial) fun _ _ _ => Wp.cond (fun _ => Wp.ret (by simp)) fun _ => Wp.ret fun _ => hn
  · unfold m_evolution_checkUnused_1
    exact Wp.cond (fun _ => Wp.bind (w_Contains_Int _ _) fun _ _ _ => Wp.ret trivial) fun _ => Wp.ret trivial
  · unfold m_evolution_checkUnused_2
    exact Wp.cond (fun _ => Wp.cond (fun _ => Wp.ret trivial) fun _ => Wp.ret trivial) fun _ => Wp.ret trivial
theorem w_checkDefault (v : GV) (c : Col) : Wp (m_evolution_checkDefault v c) fun _ => True := by
  unfold m_evolution_checkDefault
  refine Wp.bind (w_value_Validate _) fun _ _ _ => ?_
  repeat' first | exact Wp.ret trivial | refine Wp.cond (fun _ => ?_) fun _ => ?_
section
variable {S : Sch} {i : Nat} {T : Tbl}
theorem w_addColumn (x : Stp) (hT : S.tables[i]? = some T) (hV : VT T) : Wp (m_evolution_addColumn S i x) fun _ => True := by
  unfold m_evolution_addColumn
  have h1 := hV.cols0
  have h2 := hV.cols6
  exact Wp.bind (w_checkDefault _ _) fun _ _ _ => Wp.cond (fun _ => Wp.ret trivial) fun _ => Wp.getN hT (Wp.chk ⟨h1, by have := LIM_eq; omega⟩ (Wp.ret trivial))
theorem VS.hf (h : VS S) (nm : ByteArray) : ∀ f ∈ S.fks, strEq f.table nm = true → ∀ v ∈ f.cols, 0 ≤ v ∧ v < 6 := fun f hf _ => (h.fk f hf).2
theorem VS.ho (h : VS S) (nm : ByteArray) : ∀ c ∈ S.cons, strEq c.table nm = true → (0 ≤ c.left ∧ c.left < 6) ∧ c.right < 6 := fun c hc _ => ⟨(h.con c hc).1, (h.con c hc).2.2⟩
theorem w_alterColumn (x : Stp) (hT : S.tables[i]? = some T) (hS : VS S) : Wp (m_evolution_alterColumn S i x) fun _ => True := by
  unfold m_evolution_alterColumn
  have hV := hS.tab T (List.mem_of_getElem? hT)
  refine Wp.getN hT (Wp.bind (w_FindColumn _ _) fun r _ hr => Wp.cond (fun _ => Wp.ret trivial) fun h => ?_)
  have h' : r.2 = true := by simpa using h
  have hr1 := hr.2.1 h'
  refine Wp.cond (fun _ => Wp.bind (w_FindColumn _ _) fun _ _ _ => Wp.cond (fun _ => Wp.ret trivial) fun _ => Wp.get hr.1 hr1 fun _ _ _ => Wp.ret trivial) fun _ => ?_
  refine Wp.bind (w_checkUnused _ _ _) fun _ _ _ => Wp.cond (fun _ => Wp.ret trivial) fun _ => Wp.cond (fun _ => Wp.get hr.1 hr1 fun _ _ _ => Wp.ret trivial) fun _ => Wp.get hr.1 hr1 fun _ _ _ => ?_
  exact Wp.bind (w_checkDefault _ _) fun _ _ _ => Wp.cond (fun _ => Wp.ret trivial) fun _ => Wp.bind (w_removeColumns S i T [r.1] hT hV (by simp) (hS.hf _) (hS.ho _)) fun _ _ _ => Wp.ret trivial
theorem w_concatColumns (x : Stp) (hT : S.tables[i]? = some T) (hS : VS S) : Wp (m_evolution_concatColumns S i x) fun _ => True := by
  unfold m_evolution_concatColumns
  have hV := hS.tab T (List.mem_of_getElem? hT)
  refine Wp.getN hT (Wp.cond (fun _ => Wp.ret trivial) fun h1 => ?_)
  have hl : x.cols.length = 2 := by simp at h1; omega
  obtain ⟨a, b, hab⟩ : ∃ a b, x.cols = [a, b] := by
    match x.cols, hl with
    | [a, b], _ => exact ⟨a, b, rfl⟩
  rw [hab]
  refine Wp.get (by omega) (by simp) fun a' ha _ => Wp.cond (fun _ => Wp.ret trivial) fun h2 => Wp.get (by omega) (by simp) fun b' hb _ => Wp.cond (fun _ => Wp.ret trivial) fun h3 => Wp.cond (fun _ => Wp.ret trivial) fun h4 => ?_
  simp at ha hb h2 h3 h4
  subst ha hb
  refine Wp.for (fun _ _ => True) trivial ?_ fun nul _ => ?_
  · intro j col s next hx hm _ hn
    have hc : col = a ∨ col = b := by simpa using hm
    exact Wp.get (by omega) (by omega) fun _ _ _ => Wp.cond (fun _ => Wp.ret trivial) fun _ => hn _ trivial
  refine Wp.for (fun i _ => ∀ (j : Nat) (y : Int), j < i → ([a, b] : List Int)[j]? = some y → y ∉ T.pk) (by intro j y h; omega) ?_ fun s hI => ?_
  · intro j col s next hx hm hI hn
    exact Wp.bind (w_checkUnused _ _ _) fun e _ he => Wp.cond (fun _ => Wp.ret trivial) fun h => hn () (upto_succ hI hx (he (by simpa using h)))
  · have hU := upto_mem hI
    refine Wp.bind (w_removeColumns S i T [a, b] hT hV (by simp) (hS.hf _) (hS.ho _)) fun S1 _ hS1 => ?_
    obtain ⟨_, _, _, T1, hT1, hc1, hc2⟩ := hS1
    have h6 := hV.cols6
    refine Wp.getN hT1 (Wp.chk ⟨hc2 ?_, by have := LIM_eq; omega⟩ (Wp.ret trivial))
    have hp0 := hV.pk0
    have hp := hV.pk _ (List.getElem_mem hp0)
    refine ⟨(T.pk[0]).toNat, by omega, fun hin => ?_⟩
    rw [show (((T.pk[0]).toNat : Nat) : Int) = T.pk[0] by omega] at hin
    exact hU _ hin (List.getElem_mem hp0)
theorem w_dropTable (nm : ByteArray) : Wp (m_evolution_dropTable S nm) fun _ => True := by
  unfold m_evolution_dropTable
  refine Wp.bind (w_ContainsFunc_Fk _ _ fun x _ => ?_) fun _ _ _ => Wp.ite (fun _ => Wp.ret trivial) fun _ => Wp.ret trivial
  unfold m_evolution_dropTable_1
  exact Wp.cond (fun _ => Wp.ret trivial) fun _ => Wp.ret trivial
end
end Go.Proofs.YthgepknlibmjcaaGreat
end
section
/-
  splitTable, joinTables, partitionTable, mergeTables, evolution.apply and evolution.Apply come to an end.
-/
namespace Go.Proofs.YthgepknlibmjcaaGreat
open Go Go.Am
set_option linter.unusedVariables false
set_option linter.unusedSimpArgs false
theorem strEq_symm {a b : ByteArray} : strEq a b = strEq b a := by
  unfold strEq
  first | exact Bool.beq_comm | exact BEq.comm | exact decide_eq_decide.2 eq_comm
section
variable {S : Sch} {i : Nat} {T : Tbl}
theorem w_checkSplit (x : Stp) (hl : x.cols.length ≤ 1048576) : Wp (m_evolution_checkSplit S T x) fun e => e = 0 → (∀ v ∈ x.cols, 0 ≤ v ∧ v < T.cols.length) ∧ ∀ t ∈ S.tables, strEq t.name x.other = false := by
  have hL := LIM_eq
  unfold m_evolution_checkSplit
  refine Wp.for (fun i _ => ∀ (j : Nat) (y : Int), j < i → x.cols[j]? = some y → 0 ≤ y ∧ y < T.cols.length) (by intro j y h; omega) ?_ ?_
  · intro i y s next hx hm hI hn
    have hi := (List.getElem?_eq_some_iff.1 hx).1
    refine Wp.cond (fun _ => Wp.ret (by simp)) fun h1 => Wp.cond (fun _ => Wp.ret (by simp)) fun h2 => ?_
    have hnx := upto_succ hI hx ⟨by simpa using h1, by simpa using h2⟩
    refine Wp.cond (fun h3 => ?_) fun _ => hn () hnx
    have h3' : 0 < i := by simpa using h3
    exact Wp.chk ⟨by omega, by omega⟩ (Wp.get (by omega) (by omega) fun _ _ _ => Wp.cond (fun _ => Wp.ret (by simp)) fun _ => hn () hnx)
  · intro s hI
    refine Wp.cond (fun _ => Wp.ret (by simp)) fun _ => Wp.bind (w_overlap _ _ (by omega)) fun _ _ _ => Wp.cond (fun _ => Wp.ret (by simp)) fun _ => Wp.bind (w_FindTable _ _) fun v _ hv => Wp.cond (fun _ => Wp.ret (by simp)) fun h => Wp.ret fun _ => ⟨upto_mem hI, hv.2.2 h⟩
theorem w_splitTable_1 (v n : Int) (x : Stp) (hl : x.cols.length ≤ 1048576) (h0 : 0 ≤ n) (h6 : n ≤ 6) : Wp (m_evolution_splitTable_1 v n x) fun _ => True := by
  have hL := LIM_eq
  unfold m_evolution_splitTable_1
  refine Wp.bind (w_Index_Int _ _) fun k _ hk => Wp.chk ?_ (Wp.ret trivial)
  rcases hk with ⟨rfl, _⟩ | ⟨h1, h2, _⟩
  · exact ⟨by omega, by omega⟩
  · exact ⟨by omega, by omega⟩
/-- while foreign keys are moved to the other table -/
def SpF (S : Sch) (other : ByteArray) (S1 : Sch) : Prop := S1.tables = S.tables ∧ S1.cons = S.cons ∧ S1.fks.length = S.fks.length ∧ ∀ f ∈ S1.fks, f.cols.length ≤ 6 ∧ (f.table = other ∨ f ∈ S.fks)
theorem mem_set {α : Type} {xs : List α} {k : Nat} {a b : α} (h : b ∈ xs.set k a) : b ∈ xs ∨ b = a := List.mem_or_eq_of_mem_set h
theorem w_splitTable (x : Stp) (hT : S.tables[i]? = some T) (hS : VS S) (hl : x.cols.length ≤ 1048576) : Wp (m_evolution_splitTable S i x) fun _ => True := by
  have hL := LIM_eq
  have hV := hS.tab T (List.mem_of_getElem? hT)
  have hpk := hV.pk6
  have hc6 := hV.cols6
  unfold m_evolution_splitTable
  refine Wp.getN hT (Wp.bind (w_checkSplit x hl) fun e _ he => Wp.cond (fun _ => Wp.ret trivial) fun he0 => ?_)
  obtain ⟨hcol, hoth⟩ := he (by simpa using he0)
  have hne : strEq x.other T.name = false := by rw [strEq_symm]; exact hoth T (List.mem_of_getElem? hT)
  refine Wp.count (fun _ S1 => SpF S x.other S1) ⟨rfl, rfl, rfl, fun f hf => ⟨(hS.fk f hf).1, .inr hf⟩⟩ ?_ ?_
  · rintro k S1 next hk ⟨h1, h2, h3, h4⟩ hn
    unfold m_splitF
    refine Wp.get (by omega) (by omega) fun f hf hfm => Wp.cond (fun _ => hn _ ⟨h1, h2, h3, h4⟩) fun _ => ?_
    have hf6 := (h4 f hfm).1
    refine Wp.bind (w_overlap _ _ (by omega)) fun o _ _ => Wp.cond (fun _ => Wp.ret trivial) fun _ => Wp.cond (fun _ => ?_) fun _ => hn _ ⟨h1, h2, h3, h4⟩
    refine Wp.count (fun _ S2 => SpF S x.other S2 ∧ ∃ f', S2.fks[k]? = some f' ∧ f'.cols.length = f.cols.length ∧ f'.table = x.other) ⟨⟨h1, h2, by simpa using h3, ?_⟩, ⟨x.other, f.cols, f.ref⟩, List.getElem?_set_self (by omega), rfl, rfl⟩ ?_ fun S2 h => hn _ h.1
    · intro g hg
      rcases mem_set hg with h | rfl
      · exact h4 g h
      · exact ⟨hf6, .inl rfl⟩
    · rintro j S2 next2 hj ⟨⟨g1, g2, g3, g4⟩, f', g5, g6, g7⟩ hn2
      unfold m_splitC
      refine Wp.getN g5 (Wp.get (by omega) (by omega) fun v _ _ => Wp.bind (w_splitTable_1 _ _ _ hl (by omega) (by omega)) fun w _ _ => hn2 _ ⟨⟨g1, g2, by simpa using g3, fun g hg => ?_⟩, ⟨f'.table, f'.cols.set j w, f'.ref⟩, List.getElem?_set_self (by omega), by simpa using g6, g7⟩)
      rcases mem_set hg with h | rfl
      · exact g4 g h
      · exact ⟨by simp; omega, .inl g7⟩
  rintro S1 ⟨h1, h2, h3, h4⟩
  refine Wp.count (fun _ (S2 : Sch) => S2.tables = S.tables ∧ S2.fks = S1.fks ∧ S2.cons.length = S.cons.length ∧ ∀ c ∈ S2.cons, c.table = x.other ∨ c ∈ S.cons) ⟨h1, rfl, by rw [h2], fun c hc => .inr (h2 ▸ hc)⟩ ?_ ?_
  · rintro k S2 next hk ⟨g1, g2, g3, g4⟩ hn
    rw [h2] at hk
    unfold m_splitO
    refine Wp.get (by omega) (by omega) fun c hc hcm => Wp.cond (fun _ => hn _ ⟨g1, g2, g3, g4⟩) fun _ => ?_
    refine Wp.bind (R := fun cc => cc.length ≤ 2) ?_ fun cc _ hcc => Wp.bind (w_overlap _ _ (by omega)) fun o _ _ => Wp.cond (fun _ => Wp.ret trivial) fun _ => Wp.cond (fun _ => ?_) fun _ => hn _ ⟨g1, g2, g3, g4⟩
    · unfold m_evolution_constraintColumns
      exact Wp.cond (fun _ => Wp.ret (by simp)) fun _ => Wp.ret (by simp)
    · have hset : ∀ c' : Cons, c'.table = x.other → ∀ d ∈ S2.cons.set k c', d.table = x.other ∨ d ∈ S.cons := by
        intro c' hc' d hd
        rcases mem_set hd with h | rfl
        · exact g4 d h
        · exact .inl hc'
      refine Wp.bind (w_splitTable_1 _ _ _ hl (by omega) (by omega)) fun v _ _ => Wp.cond (fun _ => Wp.bind (w_splitTable_1 _ _ _ hl (by omega) (by omega)) fun w _ _ => hn _ ⟨g1, g2, by simpa using g3, hset _ rfl⟩) fun _ => hn _ ⟨g1, g2, by simpa using g3, hset _ rfl⟩
  rintro S2 ⟨g1, g2, g3, g4⟩
  refine Wp.chk ?_ (Wp.for (fun _ _ => True) trivial ?_ ?_)
  · omega
  · intro j col s next hx hm _ hn
    unfold m_splitT
    have hb : 0 ≤ col ∧ col < T.cols.length := by
      rcases List.mem_append.1 hm with h | h
      · exact hV.pk col h
      · exact hcol col h
    exact Wp.get hb.1 hb.2 fun _ _ _ => hn _ trivial
  · intro oc _
    unfold m_splitEnd
    refine Wp.bind (w_removeColumns S2 i T x.cols (by rw [g1]; exact hT) hV (by omega) ?_ ?_) fun S3 _ hS3 => Wp.bind (w_insertTable S3 _ ?_) fun S4 _ hS4 => Wp.chk ?_ (Wp.ret trivial)
    · intro f hf hfe
      rw [g2] at hf
      rcases (h4 f hf).2 with h | h
      · rw [h, hne] at hfe; cases hfe
      · exact (hS.fk f h).2
    · intro c hc hce
      rcases g4 c hc with h | h
      · rw [h, hne] at hce; cases hce
      · exact ⟨(hS.con c h).1, (hS.con c h).2.2⟩
    · have := hS.t6; rw [hS3.1, g1]; omega
    · have := hS.f8; rw [hS4.1, hS3.2.1, g2, h3]; omega
end
end Go.Proofs.YthgepknlibmjcaaGreat
end
section
/-
  joinTables, partitionTable, mergeTables, evolution.apply and evolution.Apply come to an end.
-/
namespace Go.Proofs.YthgepknlibmjcaaGreat
open Go Go.Am
set_option linter.unusedVariables false
set_option linter.unusedSimpArgs false
theorem VT.pkle {T : Tbl} (h : VT T) : T.pk.length ≤ T.cols.length := by
  have : ∀ (n : Nat) (v : Int), T.pk[n]? = some v → (n : Int) ≤ v := by
    intro n
    induction n with
    | zero => intro v hv; have := (h.pk v (List.mem_of_getElem? hv)).1; omega
    | succ n ih =>
      intro v hv
      have hn := (List.getElem?_eq_some_iff.1 hv).1
      have h1 := ih _ (List.getElem?_eq_getElem (by omega))
      have h2 := h.asc n _ v (List.getElem?_eq_getElem (by omega)) hv
      omega
  have hp := h.pk0
  have h1 := this (T.pk.length - 1) _ (List.getElem?_eq_getElem (by omega))
  have h2 := (h.pk _ (List.getElem_mem (show T.pk.length - 1 < T.pk.length by omega))).2
  omega
section
variable {S : Sch} {i : Nat} {T : Tbl}
theorem w_joinTables_2 (v : Int) (h0 : 0 ≤ v) (h6 : v < 6) (n : Nat) (hn : n = T.pk.length) (m : Nat) (hm : m ≤ 6) (hn6 : n ≤ 6) : Wp (m_evolution_joinTables_2 v n T m) fun _ => True := by
  subst hn
  unfold m_evolution_joinTables_2
  refine Wp.cond (fun h => ?_) fun _ => Wp.chk ⟨by omega, by omega⟩ (Wp.chk ⟨by omega, by omega⟩ (Wp.ret trivial))
  exact Wp.get h0 (by simpa using h) fun _ _ _ => Wp.ret trivial
theorem w_joinTables (nm : ByteArray) (hT : S.tables[i]? = some T) (hS : VS S) : Wp (m_evolution_joinTables S i nm) fun _ => True := by
  have hL := LIM_eq
  have hV := hS.tab T (List.mem_of_getElem? hT)
  have hpk := hV.pk6
  have hc6 := hV.cols6
  have hc0 := hV.cols0
  have hi := (List.getElem?_eq_some_iff.1 hT).1
  unfold m_evolution_joinTables
  refine Wp.bind (w_FindTable S nm) fun v _ hv => Wp.cond (fun _ => Wp.ret trivial) fun hf => Wp.getN hT (Wp.get hv.1 (hv.2.1 (by simpa using hf)).1 fun O hO hOm => Wp.cond (fun _ => Wp.ret trivial) fun _ => Wp.bind (w_Equal_Int _ _) fun b _ hb => Wp.cond (fun _ => Wp.ret trivial) fun hb1 => ?_)
  have hVO := hS.tab O hOm
  have hOpk : O.pk = seqI T.pk.length := hb (by simpa using hb1)
  have hOl : T.pk.length ≤ O.cols.length := by
    have := hVO.pkle
    rw [hOpk] at this
    simpa [seqI] using this
  have hO6 := hVO.cols6
  have hO0 := hVO.cols0
  refine Wp.for (fun _ _ => True) trivial ?_ fun _ _ => ?_
  · intro j col s next hx hm _ hn
    have hj := (List.getElem?_eq_some_iff.1 hx).1
    have hp := hV.pk col hm
    unfold m_joinK
    exact Wp.get hp.1 hp.2 fun _ _ _ => Wp.get (by omega) (by omega) fun _ _ _ => Wp.cond (fun _ => Wp.ret trivial) fun _ => hn () trivial
  refine Wp.bind (w_dropForeignKey S _) fun q _ hq => Wp.cond (fun _ => Wp.ret trivial) fun _ => Wp.bind (w_ContainsFunc_Fk _ _ fun x _ => Wp.ret trivial) fun _ _ _ => Wp.cond (fun _ => Wp.ret trivial) fun _ => ?_
  refine Wp.bind (w_remapColumns q.1 nm _ (fun v => 0 ≤ v ∧ v < 6) (fun v hv => w_joinTables_2 v hv.1 hv.2 _ rfl _ hc6 hpk) (fun f hf _ => (hS.fk f (hq.2.2 f hf)).2) (fun c hc _ => ?_)) fun S2 _ hS2 => ?_
  · rw [hq.2.1] at hc
    exact ⟨(hS.con c hc).1, fun h => ⟨h, (hS.con c hc).2.2⟩⟩
  refine Wp.count (fun _ (S3 : Sch) => S3.fks.length = S2.fks.length) rfl ?_ fun S3 _ => Wp.count (fun _ (S4 : Sch) => S4.cons.length = S3.cons.length) rfl ?_ fun S4 _ => ?_
  · intro k S3 next hk hl hn
    unfold m_renF1
    exact Wp.get (by omega) (by omega) fun _ _ _ => Wp.cond (fun _ => hn _ (by simpa using hl)) fun _ => hn _ hl
  · intro k S4 next hk hl hn
    unfold m_renO1
    exact Wp.get (by omega) (by omega) fun _ _ _ => Wp.cond (fun _ => hn _ (by simpa using hl)) fun _ => hn _ hl
  · unfold m_joinEnd
    exact Wp.chk ⟨hOl, hO0, hc0, by omega⟩ (Wp.ret trivial)
theorem w_partitionTable (x : Stp) (hT : S.tables[i]? = some T) (hS : VS S) : Wp (m_evolution_partitionTable S i x) fun _ => True := by
  have hL := LIM_eq
  have h6 := hS.t6
  have h8 := hS.f8
  have h9 := hS.o8
  unfold m_evolution_partitionTable
  refine Wp.getN hT (Wp.bind (w_FindColumn _ _) fun v _ hv => Wp.cond (fun _ => Wp.ret trivial) fun h => Wp.bind (w_Satisfies _ _ _) fun _ _ _ => Wp.cond (fun _ => Wp.ret trivial) fun _ => Wp.bind (w_value_Validate _) fun _ _ _ => Wp.cond (fun _ => Wp.ret trivial) fun _ => Wp.get hv.1 (hv.2.1 (by simpa using h)) fun _ _ _ => Wp.cond (fun _ => Wp.ret trivial) fun _ => Wp.bind (w_FindTable _ _) fun _ _ _ => Wp.cond (fun _ => Wp.ret trivial) fun _ => Wp.bind (w_ContainsFunc_Fk _ _ fun x _ => Wp.ret trivial) fun _ _ _ => Wp.cond (fun _ => Wp.ret trivial) fun _ => ?_)
  refine Wp.for (fun k (S1 : Sch) => S1.tables = S.tables ∧ S1.cons = S.cons ∧ S1.fks.length ≤ S.fks.length + k) ⟨rfl, rfl, by omega⟩ ?_ ?_
  · rintro k f S1 next hx hm ⟨h1, h2, h3⟩ hn
    have hk := (List.getElem?_eq_some_iff.1 hx).1
    unfold m_partF
    exact Wp.cond (fun _ => Wp.chk (by omega) (hn _ ⟨h1, h2, by simp; omega⟩)) fun _ => hn _ ⟨h1, h2, by omega⟩
  · rintro S1 ⟨h1, h2, _⟩
    refine Wp.for (fun k (S2 : Sch) => S2.tables = S.tables ∧ S2.cons.length ≤ S.cons.length + k) ⟨h1, by rw [h2]; omega⟩ ?_ ?_
    · rintro k f S2 next hx hm ⟨g1, g2⟩ hn
      have hk := (List.getElem?_eq_some_iff.1 hx).1
      unfold m_partO
      exact Wp.cond (fun _ => Wp.chk (by omega) (hn _ ⟨g1, by simp; omega⟩)) fun _ => hn _ ⟨g1, by omega⟩
    · rintro S2 ⟨g1, _⟩
      exact Wp.bind (w_insertTable _ _ (by rw [g1]; omega)) fun _ _ _ => Wp.ret trivial
theorem w_EqualFunc_Fk (a b : List Fk) : Wp (m_slices_EqualFunc_Foreignkey a b (fun x y => m_schema_EqualForeignKeys x y)) fun _ => True := by
  unfold m_slices_EqualFunc_Foreignkey
  refine Wp.cond (fun _ => Wp.ret trivial) fun h => ?_
  have hl : a.length = b.length := by simp at h; omega
  refine Wp.for (fun _ _ => True) trivial (fun i x s next hx _ _ hn => ?_) fun _ _ => Wp.ret trivial
  have hi := (List.getElem?_eq_some_iff.1 hx).1
  exact Wp.get (by omega) (by omega) fun _ _ _ => Wp.bind (w_EqualForeignKeys _ _) fun _ _ _ => Wp.cond (fun _ => Wp.ret trivial) fun _ => hn () trivial
theorem w_Equal_Cons (a b : List Cons) : Wp (m_slices_Equal_Constraint a b) fun _ => True := by
  unfold m_slices_Equal_Constraint
  refine Wp.cond (fun _ => Wp.ret trivial) fun h => ?_
  have hl : a.length = b.length := by simp at h; omega
  refine Wp.for (fun _ _ => True) trivial (fun i x s next hx _ _ hn => ?_) fun _ _ => Wp.ret trivial
  have hi := (List.getElem?_eq_some_iff.1 hx).1
  exact Wp.get (by omega) (by omega) fun _ _ _ => Wp.cond (fun _ => Wp.ret trivial) fun _ => hn () trivial
theorem w_sameRules (a b : ByteArray) (hS : VS S) : Wp (m_evolution_sameRules S a b) fun _ => True := by
  have hL := LIM_eq
  have h8 := hS.f8
  have h9 := hS.o8
  unfold m_evolution_sameRules
  refine Wp.for (fun k (s : List Fk × List Fk) => s.1.length ≤ k ∧ s.2.length ≤ k) (by simp) ?_ ?_
  · rintro k f s next hx hm ⟨h1, h2⟩ hn
    have hk := (List.getElem?_eq_some_iff.1 hx).1
    refine Wp.cond (fun _ => Wp.ret trivial) fun _ => Wp.cond (fun _ => Wp.ret trivial) fun _ => Wp.cond (fun _ => Wp.app (by simp; omega) (hn _ ⟨by simp; omega, by simp; omega⟩)) fun _ => Wp.cond (fun _ => Wp.app (by simp; omega) (hn _ ⟨by simp; omega, by simp; omega⟩)) fun _ => hn _ ⟨by simp; omega, by simp; omega⟩
  · rintro s _
    refine Wp.bind (w_EqualFunc_Fk _ _) fun _ _ _ => Wp.cond (fun _ => Wp.ret trivial) fun _ => ?_
    refine Wp.for (fun k (s : List Cons × List Cons) => s.1.length ≤ k ∧ s.2.length ≤ k) (by simp) ?_ ?_
    · rintro k f s next hx hm ⟨h1, h2⟩ hn
      have hk := (List.getElem?_eq_some_iff.1 hx).1
      refine Wp.cond (fun _ => Wp.app (by simp; omega) (hn _ ⟨by simp; omega, by simp; omega⟩)) fun _ => Wp.cond (fun _ => Wp.app (by simp; omega) (hn _ ⟨by simp; omega, by simp; omega⟩)) fun _ => hn _ ⟨by simp; omega, by simp; omega⟩
    · rintro s _
      exact Wp.bind (w_Equal_Cons _ _) fun _ _ _ => Wp.cond (fun _ => Wp.ret trivial) fun _ => Wp.ret trivial
theorem w_mergeTables (x : Stp) (hT : S.tables[i]? = some T) (hS : VS S) : Wp (m_evolution_mergeTables S i x) fun _ => True := by
  have hL := LIM_eq
  have hV := hS.tab T (List.mem_of_getElem? hT)
  have hpk := hV.pk6
  have hp0 := hV.pk0
  have hc6 := hV.cols6
  have hc0 := hV.cols0
  unfold m_evolution_mergeTables
  refine Wp.bind (w_FindTable S _) fun v _ hv => Wp.cond (fun _ => Wp.ret trivial) fun hf => Wp.getN hT (Wp.get hv.1 (hv.2.1 (by simpa using hf)).1 fun O hO hOm => Wp.cond (fun _ => Wp.ret trivial) fun _ => Wp.bind (w_Equal_Column _ _) fun _ _ _ => Wp.cond (fun _ => Wp.ret trivial) fun _ => Wp.bind (w_Equal_Int _ _) fun _ _ _ => Wp.cond (fun _ => Wp.ret trivial) fun _ => Wp.bind (w_sameRules _ _ hS) fun _ _ _ => Wp.cond (fun _ => Wp.ret trivial) fun _ => Wp.chk ⟨⟨hp0, by omega⟩, hc0, by omega⟩ (Wp.ret trivial))
end
theorem w_apply (S : Sch) (x : Stp) (hS : VS S) (hl : x.cols.length ≤ 1048576) : Wp (m_evolution_apply S x) fun _ => True := by
  have hL := LIM_eq
  have h6 := hS.t6
  have h8 := hS.f8
  have h9 := hS.o8
  unfold m_evolution_apply
  refine Wp.cond (fun _ => Wp.chk (by omega) (Wp.ret trivial)) fun _ => Wp.cond (fun _ => w_dropConstraint _ _) fun _ => Wp.cond (fun _ => Wp.chk (by omega) (Wp.ret trivial)) fun _ => Wp.cond (fun _ => (w_dropForeignKey _ _).mono fun _ _ _ => trivial) fun _ => Wp.cond (fun _ => w_createTable _ _ (by omega)) fun _ => ?_
  refine Wp.bind (w_FindTable _ _) fun v _ hv => Wp.cond (fun _ => Wp.ret trivial) fun hf => ?_
  obtain ⟨hv1, T, hT, _⟩ := hv.2.1 (by simpa using hf)
  refine Wp.cond (fun _ => w_renameTable _ _ _ (by omega) (by have := hv.1; omega)) fun _ => Wp.cond (fun _ => w_splitTable x hT hS hl) fun _ => Wp.cond (fun _ => w_joinTables _ hT hS) fun _ => Wp.cond (fun _ => w_partitionTable x hT hS) fun _ => Wp.cond (fun _ => w_mergeTables x hT hS) fun _ => Wp.cond (fun _ => w_dropTable _) fun _ => Wp.cond (fun _ => w_concatColumns x hT hS) fun _ => Wp.cond (fun _ => w_addColumn x hT (hS.tab T (List.mem_of_getElem? hT))) fun _ => w_alterColumn x hT hS
/-- a step whose rows are not too long -/
def SmallX (x : Stp) : Prop := x.cols.length ≤ 1048576 ∧ x.newTable.cols.length ≤ 1048576 ∧ x.newTable.pk.length ≤ 1048576 ∧ x.fk.cols.length ≤ 1048576
theorem w_Apply (S : Sch) (x : Stp) (hx : SmallX x) : Wp (m_evolution_Apply S x) fun r => r.2 = 0 → VS r.1 := by
  have hL := LIM_eq
  unfold m_evolution_Apply
  refine Wp.bind (w_schema_Validate S) fun e _ he => Wp.cond (fun h => Wp.ret fun h0 => ?_) fun h1 => Wp.bind (w_evolution_Validate x) fun e2 _ _ => Wp.cond (fun h => Wp.ret fun h0 => ?_) fun _ => ?_
  · simp only at h0; rw [h0] at h; cases h
  · simp only at h0; rw [h0] at h; cases h
  have hS : VS S := he (by simpa using h1)
  refine Wp.chk ⟨⟨⟨by have := hS.t6; omega, by have := hS.f8; omega, by have := hS.o8; omega⟩, fun T hT => ⟨by have := (hS.tab T hT).cols6; omega, by have := (hS.tab T hT).pk6; omega⟩, fun f hf => by have := (hS.fk f hf).1; omega⟩, by obtain ⟨a, b, c, d⟩ := hx; exact ⟨by omega, by omega, by omega, by omega⟩⟩ ?_
  refine Wp.bind (w_apply S x hS hx.1) fun q _ _ => Wp.cond (fun h => Wp.ret fun h0 => ?_) fun _ => Wp.bind (w_schema_Validate q.1) fun e3 _ he3 => Wp.cond (fun h => Wp.ret fun h0 => ?_) fun h3 => Wp.ret fun _ => he3 (by simpa using h3)
  · simp only at h0; rw [h0] at h; cases h
  · simp only at h0; rw [h0] at h; cases h
end Go.Proofs.YthgepknlibmjcaaGreat
end
section
namespace Go.Proofs.YthgepknlibmjcaaGreat
open Go.Am
set_option linter.unusedVariables false
set_option linter.unusedSimpArgs false
def m_script_Schemas (s_ : Sch) (script : List Stp) : Option ((List Sch) × Int) :=
  (bif decide (6 < (script.length : Int)) then (some ([], 2)) else (bindK (m_schema_Validate s_) fun v4 => (bif (v4 != 0) then (some ([], v4)) else (bindK (m_schema_Clone s_) fun v6 => (forK (fun (i8 : Nat) (x8 : Stp) (s8 : (List Sch)) next_8 => (getK s8 (i8 : Int) fun x10 => (bindK (m_evolution_Apply x10 x8) fun v11 => (bif (v11.2 != 0) then (some ([], v11.2)) else (appK2 s8 [v11.1] fun _ => (next_8 (s8 ++ [v11.1]))))))) (fun (s8 : (List Sch)) => (some (s8, 0))) script 0 [v6])))))
set_option maxRecDepth 20000 in
theorem c_script_Schemas (s_ : Sch) (script : List Stp) (r : (List Sch) × Int) (hm : Is (m_script_Schemas s_ script) r) : PSpec Tryz.prog 126 [.agg s_.enc, .one (.d (.sl (script.map Stp.enc)))] (.tup [.one (.d (.sl (r.1.map Sch.enc))), .one (.d (.int .i64 r.2))]) := by
  unfold m_script_Schemas at hm
  refine PSpec.of_vc Tryz.func126 rfl (by kernel_rfl) (n := 48) rfl rfl (by simp) ?_
  try simp [*]
  intro hl2
  replace hl2 : script.length ≤ 2097152 := by simpa using hl2
  refine r_cond hm ?_ ?_ <;> clear hm <;> intro hc3 hm
  · try simp [*]
    obtain rfl := r_ret hm
    exact ret0 (vs := [_, _]) (by simp [*]; try exact ⟨rfl, rfl⟩) (by simp [*])
  · try simp [*]
    refine r_call (av := [.agg s_.enc]) hm (fun v hv => c_schema_Validate _ v hv) (by simp [*]) ?_
    clear hm; intro v4 hvv4 hm
    try simp [*]
    refine r_cond hm ?_ ?_ <;> clear hm <;> intro hc5 hm
    · try simp [*]
      obtain rfl := r_ret hm
      exact ret0 (vs := [_, _]) (by simp [*]; try exact ⟨rfl, rfl⟩) (by simp [*])
    · try simp [*]
      refine r_call (av := [.agg s_.enc]) hm (fun v hv => c_schema_Clone _ v hv) (by simp [*]) ?_
      clear hm; intro v6 hvv6 hm
      try simp [*]
      refine Wait.for (xs := script) (s0 := [v6]) (fun i8 s8 e8 h8 => ∃ c8_0 : C, e8.n = 48 ∧ e8.get 7 = .one c8_0 ∧ e8.get 23 = .one (.d (.sl (script.map Stp.enc))) ∧ e8.get 24 = .one (.d (.int .i64 (script.length : Int))) ∧ e8.get 25 = .one (.d (.int .i64 (i8 : Int))) ∧ Grows h8 3 c8_0 (s8.map Sch.enc)) hm ⟨.own (3, 352) ([v6].map Sch.enc), by simp (maxDischargeDepth := 20) [*]⟩ ?_ ?_
      · rintro i8 s8 e8 h8 ⟨c8_0, hn8, h8_7, h8_23, h8_24, h8_25, gc8_0⟩ hlt8 hm
        have hlc8_0 := gc8_0.list
        have hdc8_0 := gc8_0.toD
        have hac8_0 := gc8_0.toA
        have huc8_0 := gc8_0.useUp_arr
        have hw8 : IntKind.i64.wrap ((i8 : Int) + 1) = (i8 : Int) + 1 := IntWalk.i64_in _ (by omega)
        try simp [*]
        refine Wait.of (SWP.draw (Plan.then_ [0, 1, 2, 3, 4] (.two 5 9 (Plan.then_ [6, 7, 8, 9, 10, 11] .done) (Plan.then_ [5, 6, 7, 8, 10, 11] .done))) follows (by kernel_rfl) ?_)
        try simp [*, Plan.then_, vcPlan, planOps, isCallAt, callKind]
        replace hm := hm.getN
        obtain ⟨x10, hxx10, hm⟩ := hm
        try simp [*, Plan.then_, vcPlan, planOps, isCallAt, callKind]
        rcases gc8_0.1 with ⟨hzc8_0, hzz⟩ | ⟨lc8_0, hzc8_0, hz1, hz2⟩
        · exact absurd hxx10 (by simp at hzz; subst hzz; simp)
        try simp [*, Plan.then_, vcPlan, planOps, isCallAt, callKind]
        refine ⟨?_, ?_⟩
        · try simp [*, Plan.then_, vcPlan, planOps, isCallAt, callKind]
          refine r_call (av := [.agg x10.enc, .agg (script[i8]).enc]) hm (fun v hv => c_evolution_Apply _ _ v hv) (by simp [*]) ?_
          clear hm; intro v11 hvv11 hm
          try simp [*, Plan.then_, vcPlan, planOps, isCallAt, callKind]
          try refine ⟨fun (_ : Lab) (_ : List C) hl => hl, ?_⟩
          refine r_cond hm ?_ ?_ <;> clear hm <;> intro hc13 hm
          · try simp [*]
            obtain rfl := r_ret hm
            exact ret0 (vs := [_, _]) (by simp [*]; try exact ⟨rfl, rfl⟩) (by simp [*])
          · try simp [*]
            refine r_app (xs := s8) (ys := [v11.1]) (enc := Sch.enc) hm ty_el117 (by first | exact Grows.nil | (simp (maxDischargeDepth := 20) [*]; done) | (simp (maxDischargeDepth := 20) [*]; refine ⟨?_, by omega⟩; intro hq; subst hq; simp at hz2 <;> omega)) (by simp [*]) (by decide) (by decide) (fun _ => rfl) ?_
            clear hm; intro hl15 hm g14
            try simp [*]
            exact BackF.of (s8 ++ [v11.1]) ⟨⟨.own (h8.ep + 4, 720) ((s8 ++ [v11.1]).map Sch.enc), by simp (maxDischargeDepth := 20) [*]⟩, hm⟩
        · try simp [*, Plan.then_, vcPlan, planOps, isCallAt, callKind]
          refine r_call (av := [.agg x10.enc, .agg (script[i8]).enc]) hm (fun v hv => c_evolution_Apply _ _ v hv) (by simp [*]) ?_
          clear hm; intro v1012 hvv1012 hm
          try simp [*, Plan.then_, vcPlan, planOps, isCallAt, callKind]
          try refine ⟨fun (_ : Lab) (_ : List C) hl => hl, ?_⟩
          refine r_cond hm ?_ ?_ <;> clear hm <;> intro hc1013 hm
          · try simp [*]
            obtain rfl := r_ret hm
            exact ret0 (vs := [_, _]) (by simp [*]; try exact ⟨rfl, rfl⟩) (by simp [*])
          · try simp [*]
            refine r_app (xs := s8) (ys := [v1012.1]) (enc := Sch.enc) hm ty_el117 (by first | exact Grows.nil | (simp (maxDischargeDepth := 20) [*]; done) | (simp (maxDischargeDepth := 20) [*]; refine ⟨?_, by omega⟩; intro hq; subst hq; simp at hz2 <;> omega)) (by simp [*]) (by decide) (by decide) (fun _ => rfl) ?_
            clear hm; intro hl1015 hm g1014
            try simp [*]
            exact BackF.of (s8 ++ [v1012.1]) ⟨⟨.own (h8.ep + 4, 720) ((s8 ++ [v1012.1]).map Sch.enc), by simp (maxDischargeDepth := 20) [*]⟩, hm⟩
      · rintro s8 e8 h8 ⟨c8_0, hn8, h8_7, h8_23, h8_24, h8_25, gc8_0⟩ hm
        have hlc8_0 := gc8_0.list
        have hdc8_0 := gc8_0.toD
        have hac8_0 := gc8_0.toA
        have huc8_0 := gc8_0.useUp_arr
        try simp [*]
        obtain rfl := r_ret hm
        exact ret0 (vs := [_, _]) (by simp [*]; try exact ⟨rfl, rfl⟩) (by simp [*])
end Go.Proofs.YthgepknlibmjcaaGreat
end
section
namespace Go.Proofs.YthgepknlibmjcaaGreat
open Go.Am
set_option linter.unusedVariables false
set_option linter.unusedSimpArgs false
def m_script_Apply (s_ : Sch) (script : List Stp) : Option (Sch × Int) :=
  (bindK (m_script_Schemas s_ script) fun v3 => (bif (v3.2 != 0) then (some ((Sch.mk [] [] []), v3.2)) else (chkK (okI ((v3.1.length : Int) - 1)) (getK v3.1 ((v3.1.length : Int) - 1) fun x7 => (some (x7, 0))))))
set_option maxRecDepth 20000 in
theorem c_script_Apply (s_ : Sch) (script : List Stp) (r : Sch × Int) (hm : Is (m_script_Apply s_ script) r) : PSpec Tryz.prog 102 [.agg s_.enc, .one (.d (.sl (script.map Stp.enc)))] (.tup [.agg (r.1.enc.map RC.d), .one (.d (.int .i64 r.2))]) := by
  unfold m_script_Apply at hm
  refine PSpec.of_vc Tryz.func102 rfl (by kernel_rfl) (n := 24) rfl rfl (by simp) ?_
  try simp [*]
  refine r_call (av := [.agg s_.enc, .one (.d (.sl (script.map Stp.enc)))]) hm (fun v hv => c_script_Schemas _ _ v hv) (by simp [*]) ?_
  clear hm; intro v3 hvv3 hm
  try simp [*]
  refine r_cond hm ?_ ?_ <;> clear hm <;> intro hc4 hm
  · try simp [*]
    obtain rfl := r_ret hm
    exact ret0 (vs := [_, _]) (by simp [*]; try exact ⟨rfl, rfl⟩) (by simp [*])
  · try simp [*]
    intro hl5
    replace hl5 : v3.1.length ≤ 2097152 := by simpa using hl5
    replace hm := hm.chk
    obtain ⟨hw6, hm⟩ := hm
    replace hw6 := wrap_ok hw6
    try simp [*]
    replace hm := hm.get
    obtain ⟨x7, h0x7, hxx7, hm⟩ := hm
    try simp at h0x7
    try simp at hxx7
    try simp [*]
    obtain rfl := r_ret hm
    exact ret0 (vs := [_, _]) (by simp [*]; try exact ⟨rfl, rfl⟩) (by simp [*])
end Go.Proofs.YthgepknlibmjcaaGreat
end
section
namespace Go.Proofs.YthgepknlibmjcaaGreat
open Go.Am
set_option linter.unusedVariables false
set_option linter.unusedSimpArgs false
def m_versions_Schemas (g_ : Gr) : Option ((List Sch) × Int) :=
  (bif decide (8 ≤ (g_.edges.length : Int)) then (some ([], 2)) else (bindK (m_schema_Validate g_.base) fun v4 => (bif (v4 != 0) then (some ([], v4)) else (bindK (m_schema_Clone g_.base) fun v6 => (forK (fun (i8 : Nat) (x8 : Edg) (s8 : (List Sch)) next_8 => (bif decide (x8.parent < 0) then (some ([], 1)) else (bif decide ((i8 : Int) < x8.parent) then (some ([], 1)) else (getK s8 x8.parent fun x12 => (bindK (m_script_Apply x12 x8.script) fun v13 => (bif (v13.2 != 0) then (some ([], v13.2)) else (appK2 s8 [v13.1] fun _ => (next_8 (s8 ++ [v13.1]))))))))) (fun (s8 : (List Sch)) => (some (s8, 0))) g_.edges 0 [v6])))))
set_option maxRecDepth 20000 in
theorem c_versions_Schemas (g_ : Gr) (r : (List Sch) × Int) (hm : Is (m_versions_Schemas g_) r) : PSpec Tryz.prog 54 [.agg g_.enc] (.tup [.one (.d (.sl (r.1.map Sch.enc))), .one (.d (.int .i64 r.2))]) := by
  unfold m_versions_Schemas at hm
  refine PSpec.of_vc Tryz.func54 rfl (by kernel_rfl) (n := 61) rfl rfl (by simp) ?_
  try simp [*]
  intro hl2
  replace hl2 : g_.edges.length ≤ 2097152 := by simpa using hl2
  refine r_cond hm ?_ ?_ <;> clear hm <;> intro hc3 hm
  · try simp [*]
    obtain rfl := r_ret hm
    exact ret0 (vs := [_, _]) (by simp [*]; try exact ⟨rfl, rfl⟩) (by simp [*])
  · try simp [*]
    refine r_call (av := [.agg g_.base.enc]) hm (fun v hv => c_schema_Validate _ v hv) (by simp [*]) ?_
    clear hm; intro v4 hvv4 hm
    try simp [*]
    refine r_cond hm ?_ ?_ <;> clear hm <;> intro hc5 hm
    · try simp [*]
      obtain rfl := r_ret hm
      exact ret0 (vs := [_, _]) (by simp [*]; try exact ⟨rfl, rfl⟩) (by simp [*])
    · try simp [*]
      refine r_call (av := [.agg g_.base.enc]) hm (fun v hv => c_schema_Clone _ v hv) (by simp [*]) ?_
      clear hm; intro v6 hvv6 hm
      try simp [*]
      refine Wait.for (xs := g_.edges) (s0 := [v6]) (fun i8 s8 e8 h8 => ∃ c8_0 : C, e8.n = 61 ∧ e8.get 5 = .one c8_0 ∧ e8.get 25 = .one (.d (.sl (g_.edges.map Edg.enc))) ∧ e8.get 26 = .one (.d (.int .i64 (g_.edges.length : Int))) ∧ e8.get 27 = .one (.d (.int .i64 (i8 : Int))) ∧ Grows h8 3 c8_0 (s8.map Sch.enc)) hm ⟨.own (3, 368) ([v6].map Sch.enc), by simp (maxDischargeDepth := 20) [*]⟩ ?_ ?_
      · rintro i8 s8 e8 h8 ⟨c8_0, hn8, h8_5, h8_25, h8_26, h8_27, gc8_0⟩ hlt8 hm
        have hlc8_0 := gc8_0.list
        have hdc8_0 := gc8_0.toD
        have hac8_0 := gc8_0.toA
        have huc8_0 := gc8_0.useUp_arr
        have hw8 : IntKind.i64.wrap ((i8 : Int) + 1) = (i8 : Int) + 1 := IntWalk.i64_in _ (by omega)
        try simp [*]
        refine r_guardF hm ?_ ?_ <;> clear hm <;> intro hc10 hm
        · try simp [*]
          obtain rfl := r_ret hm
          exact ret0 (vs := [_, _]) (by simp [*]; try exact ⟨rfl, rfl⟩) (by simp [*])
        · try simp [*]
          refine r_cond hm ?_ ?_ <;> clear hm <;> intro hc11 hm
          · try simp [*]
            obtain rfl := r_ret hm
            exact ret0 (vs := [_, _]) (by simp [*]; try exact ⟨rfl, rfl⟩) (by simp [*])
          · try simp [*]
            refine Wait.of (SWP.draw (Plan.then_ [0, 1, 2, 3, 4, 5, 6] (.two 7 11 (Plan.then_ [8, 9, 10, 11, 12, 13] .done) (Plan.then_ [7, 8, 9, 10, 12, 13] .done))) follows (by kernel_rfl) ?_)
            try simp [*, Plan.then_, vcPlan, planOps, isCallAt, callKind]
            replace hm := hm.get
            obtain ⟨x12, h0x12, hxx12, hm⟩ := hm
            try simp [*, Plan.then_, vcPlan, planOps, isCallAt, callKind]
            rcases gc8_0.1 with ⟨hzc8_0, hzz⟩ | ⟨lc8_0, hzc8_0, hz1, hz2⟩
            · exact absurd hxx12 (by simp at hzz; subst hzz; simp)
            try simp [*, Plan.then_, vcPlan, planOps, isCallAt, callKind]
            refine ⟨?_, ?_⟩
            · try simp [*, Plan.then_, vcPlan, planOps, isCallAt, callKind]
              refine r_call (av := [.agg x12.enc, .one (.d (.sl ((g_.edges[i8].script).map Stp.enc)))]) hm (fun v hv => c_script_Apply _ _ v hv) (by simp [*]) ?_
              clear hm; intro v13 hvv13 hm
              try simp [*, Plan.then_, vcPlan, planOps, isCallAt, callKind]
              try refine ⟨fun (_ : Lab) (_ : List C) hl => hl, ?_⟩
              refine r_cond hm ?_ ?_ <;> clear hm <;> intro hc15 hm
              · try simp [*]
                obtain rfl := r_ret hm
                exact ret0 (vs := [_, _]) (by simp [*]; try exact ⟨rfl, rfl⟩) (by simp [*])
              · try simp [*]
                refine r_app (xs := s8) (ys := [v13.1]) (enc := Sch.enc) hm ty_el117 (by first | exact Grows.nil | (simp (maxDischargeDepth := 20) [*]; done) | (simp (maxDischargeDepth := 20) [*]; refine ⟨?_, by omega⟩; intro hq; subst hq; simp at hz2 <;> omega)) (by simp [*]) (by decide) (by decide) (fun _ => rfl) ?_
                clear hm; intro hl17 hm g16
                try simp [*]
                exact BackF.of (s8 ++ [v13.1]) ⟨⟨.own (h8.ep + 4, 928) ((s8 ++ [v13.1]).map Sch.enc), by simp (maxDischargeDepth := 20) [*]⟩, hm⟩
            · try simp [*, Plan.then_, vcPlan, planOps, isCallAt, callKind]
              refine r_call (av := [.agg x12.enc, .one (.d (.sl ((g_.edges[i8].script).map Stp.enc)))]) hm (fun v hv => c_script_Apply _ _ v hv) (by simp [*]) ?_
              clear hm; intro v1014 hvv1014 hm
              try simp [*, Plan.then_, vcPlan, planOps, isCallAt, callKind]
              try refine ⟨fun (_ : Lab) (_ : List C) hl => hl, ?_⟩
              refine r_cond hm ?_ ?_ <;> clear hm <;> intro hc1015 hm
              · try simp [*]
                obtain rfl := r_ret hm
                exact ret0 (vs := [_, _]) (by simp [*]; try exact ⟨rfl, rfl⟩) (by simp [*])
              · try simp [*]
                refine r_app (xs := s8) (ys := [v1014.1]) (enc := Sch.enc) hm ty_el117 (by first | exact Grows.nil | (simp (maxDischargeDepth := 20) [*]; done) | (simp (maxDischargeDepth := 20) [*]; refine ⟨?_, by omega⟩; intro hq; subst hq; simp at hz2 <;> omega)) (by simp [*]) (by decide) (by decide) (fun _ => rfl) ?_
                clear hm; intro hl1017 hm g1016
                try simp [*]
                exact BackF.of (s8 ++ [v1014.1]) ⟨⟨.own (h8.ep + 4, 928) ((s8 ++ [v1014.1]).map Sch.enc), by simp (maxDischargeDepth := 20) [*]⟩, hm⟩
      · rintro s8 e8 h8 ⟨c8_0, hn8, h8_5, h8_25, h8_26, h8_27, gc8_0⟩ hm
        have hlc8_0 := gc8_0.list
        have hdc8_0 := gc8_0.toD
        have hac8_0 := gc8_0.toA
        have huc8_0 := gc8_0.useUp_arr
        try simp [*]
        obtain rfl := r_ret hm
        exact ret0 (vs := [_, _]) (by simp [*]; try exact ⟨rfl, rfl⟩) (by simp [*])
end Go.Proofs.YthgepknlibmjcaaGreat
end
section
namespace Go.Proofs.YthgepknlibmjcaaGreat
open Go.Am
set_option linter.unusedVariables false
set_option linter.unusedSimpArgs false
def m_versions_Validate (g_ : Gr) : Option Int :=
  (bindK (m_versions_Schemas g_) fun v2 => (some v2.2))
set_option maxRecDepth 20000 in
theorem c_versions_Validate (g_ : Gr) (r : Int) (hm : Is (m_versions_Validate g_) r) : PSpec Tryz.prog 42 [.agg g_.enc] (.one (.d (.int .i64 r))) := by
  unfold m_versions_Validate at hm
  refine PSpec.of_vc Tryz.func42 rfl (by kernel_rfl) (n := 11) rfl rfl (by simp) ?_
  try simp [*]
  refine r_call (av := [.agg g_.enc]) hm (fun v hv => c_versions_Schemas _ v hv) (by simp [*]) ?_
  clear hm; intro v2 hvv2 hm
  try simp [*]
  obtain rfl := r_ret hm
  exact ret0 (vs := [_]) (by simp [*]; try exact rfl) (by simp [*])
end Go.Proofs.YthgepknlibmjcaaGreat
end
section
/-
  retention.Unused: a row of flags that is written in place.
-/
namespace Go.Proofs.YthgepknlibmjcaaGreat
open Go Go.Am
set_option linter.unusedVariables false
set_option linter.unusedSimpArgs false
def flC (b : Bool) : C := .d (.bool b)
theorem fl_take {u : List Bool} {i : Nat} {b : Bool} (h : u[i]? = some b) : takeN 1 ((u.map flC).drop i) = some [flC b] := by
  obtain ⟨h1, h2⟩ := List.getElem?_eq_some_iff.1 h
  rw [List.drop_eq_getElem_cons (by simpa using h1)]
  simp [takeN, h2]
theorem fl_set {u : List Bool} {i : Nat} {b : Bool} (h : i < u.length) : setCells (u.map flC) i [flC b] = (u.set i b).map flC := by
  simp only [setCells, List.map_set, List.length_singleton]
  rw [List.set_eq_take_append_cons_drop]
  simp [h]
def m_retention_walk (g : Gr) {ρ : Type} (k : List Bool → Option ρ) : Nat → Int × List Bool → Option ρ :=
  whileK fun s next => getK s.2 s.1 fun b => bif b then k s.2 else getK g.edges (s.1 - 1) fun e => next (e.parent, s.2.set s.1.toNat true)
def m_retention_Unused (g : Gr) (vs : List Int) : Option (List Int × Int) :=
  bindK (m_versions_Validate g) fun v => bif v != 0 then some ([], v) else
  chkK (g.edges.length + 1 ≤ 2097152) (forK (fun _ x (u : List Bool) next => bif decide (x < 0) then some ([], 4) else bif decide ((g.edges.length : Int) < x) then some ([], 4) else
      m_retention_walk g next (g.edges.length + 2) (x, u))
    (fun u => countK (fun i (s : List Int) next => getK u ((g.edges.length : Int) - i) fun b => bif b then next s else appK2 s [(g.edges.length : Int) - i] fun _ => next (s ++ [(g.edges.length : Int) - i]))
      (fun s => some (s, 0)) g.edges.length 0 []) vs 0 (true :: List.replicate g.edges.length false))
set_option maxRecDepth 20000 in
theorem c_retention_Unused (g : Gr) (vs : List Int) (r : List Int × Int) (hm : Is (m_retention_Unused g vs) r) : PSpec Tryz.prog 12 [.agg g.enc, .one (.d (.sl (vs.map encI)))] (.tup [.one (.d (.sl (r.1.map encI))), .one (.d (.int .i64 r.2))]) := by
  unfold m_retention_Unused at hm
  refine PSpec.of_vc Tryz.func12 rfl (by kernel_rfl) (n := 72) rfl rfl (by simp) ?_
  try simp [*]
  refine r_call (av := [.agg g.enc]) hm (fun v hv => c_versions_Validate _ v hv) (by simp [*]) ?_
  clear hm; intro v4 hvv4 hm
  try simp [*]
  refine r_cond hm ?_ ?_ <;> clear hm <;> intro hc5 hm
  · try simp [*]
    obtain rfl := r_ret hm
    exact ret0 (vs := [_, _]) (by simp [*]; try exact ⟨rfl, rfl⟩) (by simp [*])
  · try simp [*]
    replace hm := hm.chk
    obtain ⟨hlen, hm⟩ := hm
    intro hl0
    have hw1 : IntKind.i64.wrap ((g.edges.length : Int) + 1) = (g.edges.length : Int) + 1 := IntWalk.i64_in _ (by omega)
    have h00 : (0 : Int) < (g.edges.length : Int) + 1 := by omega
    have h02 : (0 : Int) ≤ (g.edges.length : Int) + 1 := by omega
    have h03 : (g.edges.length : Int) + 1 ≤ 2097152 := by omega
    have h01 : ((g.edges.length : Int) + 1).toNat = g.edges.length + 1 := by omega
    simp only [hw1]
    refine ⟨⟨h02, h03⟩, ?_⟩
    simp [hw1, h00, h01, h02, h03]
    intro hlv
    refine Wait.for (xs := vs) (s0 := true :: List.replicate g.edges.length false) (fun i u e h => e.n = 72 ∧ e.get 2 = .one (.ptr (0, 32) 0) ∧ e.get 7 = .one (.mrow (2, 336) 0 (g.edges.length + 1) (g.edges.length + 1)) ∧ e.get 24 = .one (.d (.sl (vs.map encI))) ∧ e.get 25 = .one (.d (.int .i64 (vs.length : Int))) ∧ e.get 26 = .one (.d (.int .i64 (i : Int))) ∧ h.box (0, 32) = some (g.enc.map C.d) ∧ h.box (2, 336) = some (u.map flC) ∧ u.length = g.edges.length + 1 ∧ 3 ≤ h.ep) hm ?_ ?_ ?_
    · simp [hw1, h01, Gr.enc]
      rw [List.replicate_succ]
      simp [setCells, flC]
    · rintro i u e h ⟨hn, h2, h7, h24, h25, h26, hb, hu, hul, hep⟩ hlt hm
      have hw8 : IntKind.i64.wrap ((i : Int) + 1) = (i : Int) + 1 := IntWalk.i64_in _ (by omega)
      try simp [*]
      refine r_guardF hm ?_ ?_ <;> clear hm <;> intro hc1 hm
      · try simp [*]
        obtain rfl := r_ret hm
        exact ret0 (vs := [_, _]) (by simp [*]; try exact ⟨rfl, rfl⟩) (by simp [*])
      · try simp [*]
        refine r_cond hm ?_ ?_ <;> clear hm <;> intro hc2 hm
        · try simp [*]
          obtain rfl := r_ret hm
          exact ret0 (vs := [_, _]) (by simp [*]; try exact ⟨rfl, rfl⟩) (by simp [*])
        · try simp [*]
          have hx0 : 0 ≤ vs[i] := by simpa using hc1
          have hx1 : vs[i] ≤ (g.edges.length : Int) := by simpa using hc2
          unfold m_retention_walk at hm
          refine Wait.while (s0 := (vs[i], u)) (fun s e h => e.n = 72 ∧ e.get 2 = .one (.ptr (0, 32) 0) ∧ e.get 7 = .one (.mrow (2, 336) 0 (g.edges.length + 1) (g.edges.length + 1)) ∧ e.get 24 = .one (.d (.sl (vs.map encI))) ∧ e.get 25 = .one (.d (.int .i64 (vs.length : Int))) ∧ e.get 26 = .one (.d (.int .i64 (i : Int))) ∧ e.get 9 = .one (.d (.int .i64 s.1)) ∧ h.box (0, 32) = some (g.enc.map C.d) ∧ h.box (2, 336) = some (s.2.map flC) ∧ s.2.length = g.edges.length + 1 ∧ 3 ≤ h.ep) hm ?_ ?_
          · simp [*]
          clear hm
          rintro m ⟨y, w⟩ e1 h1 ⟨hn1, h12, h17, h124, h125, h126, h19, hb1, hu1, hul1, hep1⟩ hm
          simp only at h19 hu1 hul1 hm
          replace hm := hm.get
          obtain ⟨b, hy0, hyb, hm⟩ := hm
          have hylt : y.toNat < g.edges.length + 1 := by rw [← hul1]; exact (List.getElem?_eq_some_iff.1 hyb).1
          have htk := fl_take hyb
          simp only [flC] at htk
          cases b with
          | true =>
            simp only [cond_true] at hm
            try simp [*]
            exact BackF.of w ⟨by simp [*], hm⟩
          | false =>
            simp only [cond_false] at hm
            replace hm := hm.get
            obtain ⟨ed, he0, hed, hm⟩ := hm
            have hst := fl_set (b := true) (show y.toNat < w.length by omega)
            simp only [flC] at hst
            have hw3 : IntKind.i64.wrap (y - 1) = y - 1 := IntWalk.i64_in _ (by omega)
            have hyle : y ≤ (g.edges.length : Int) := by omega
            have hy1 : 1 ≤ y := by omega
            have hed1 : g.edges[y.toNat - 1]? = some ed := by rw [← hed]; congr 1; omega
            have hw4 : ¬ (g.edges.length + 1 ≤ y.toNat) := by omega
            try simp [*]
            exact BackF.of (ed.parent, w.set y.toNat true) ⟨by simp [*], hm⟩
    · rintro u e h ⟨hn, h2, h7, h24, h25, h26, hb, hu, hul, hep⟩ hm
      try simp [*]
      refine Wait.count (N := (g.edges.length : Int)) (s0 := []) (fun i s e h => ∃ c : C, i ≤ g.edges.length ∧ e.n = 72 ∧ e.get 7 = .one (.mrow (2, 336) 0 (g.edges.length + 1) (g.edges.length + 1)) ∧ e.get 10 = .one c ∧ e.get 11 = .one (.d (.int .i64 ((g.edges.length : Int) - i))) ∧ h.box (2, 336) = some (u.map flC) ∧ 3 ≤ h.ep ∧ Grows h 1 c (s.map encI)) (by simpa using hm) ⟨.nil, by simp (maxDischargeDepth := 20) [*]⟩ ?_ ?_
      · rintro i s e1 h1 ⟨c, hi, hn1, h17, h110, h111, hu1, hep1, gc⟩ hlt hm
        replace hm := hm.get
        obtain ⟨b, hy0, hyb, hm⟩ := hm
        have hlc := gc.list
        have hdc := gc.toD
        have hac := gc.toA
        have huc := gc.useUp_arr
        have hn0 : ((g.edges.length : Int) - i).toNat = g.edges.length - i := by omega
        have hp : 0 < (g.edges.length : Int) - i := by omega
        have hp2 : (i : Int) < (g.edges.length : Int) := by omega
        have hw5 : IntKind.i64.wrap ((g.edges.length : Int) - i - 1) = (g.edges.length : Int) - i - 1 := IntWalk.i64_in _ (by omega)
        have hw6 : (g.edges.length : Int) - i - 1 = (g.edges.length : Int) - (i + 1) := by omega
        have hw7 : IntKind.i64.wrap ((g.edges.length : Int) - (i + 1)) = (g.edges.length : Int) - (i + 1) := IntWalk.i64_in _ (by omega)
        have hi1 : i + 1 ≤ g.edges.length := by omega
        have hep2 : 1 ≤ h1.ep := by omega
        have htk := fl_take hyb
        simp only [flC, hn0] at htk
        have hylt : g.edges.length - i < g.edges.length + 1 := by omega
        cases b with
        | true =>
          simp only [cond_true] at hm
          try simp [*]
          exact BackF.of s ⟨⟨c, by simp (maxDischargeDepth := 20) [*]⟩, hm⟩
        | false =>
          simp only [cond_false] at hm
          try simp [*]
          refine r_app (xs := s) (ys := [(g.edges.length : Int) - i]) (enc := encI) hm ty_el30 (by first | exact Grows.nil | (simp (maxDischargeDepth := 20) [*]; done)) (by simp [*]) (by decide) (by decide) (fun _ => rfl) ?_
          clear hm; intro hl15 hm g14
          try simp [*]
          exact BackF.of (s ++ [(g.edges.length : Int) - i]) ⟨⟨.own (h1.ep + 1, 1120) ((s ++ [(g.edges.length : Int) - i]).map encI), by simp (maxDischargeDepth := 20) [*]⟩, hm⟩
      · rintro i s e1 h1 ⟨c, hi, hn1, h17, h110, h111, hu1, hep1, gc⟩ hlt hm
        have hx : (g.edges.length : Int) - i = 0 := by omega
        have hlc := gc.list
        have hdc := gc.toD
        have hac := gc.toA
        rw [hx] at h111
        try simp [*]
        obtain rfl := r_ret hm
        exact ret0 (vs := [_, _]) (by simp [*]; try exact ⟨rfl, rfl⟩) (by simp [*])
end Go.Proofs.YthgepknlibmjcaaGreat
end
section
namespace Go.Proofs.YthgepknlibmjcaaGreat
open Go.Am
set_option linter.unusedVariables false
set_option linter.unusedSimpArgs false
def m_stemref1_Int (n : Int) : Option GV :=
  (some (GV.mk 1 n ByteArray.empty))
set_option maxRecDepth 20000 in
theorem c_stemref1_Int (n : Int) (r : GV) (hm : Is (m_stemref1_Int n) r) : PSpec Tryz.prog 44 [.one (.d (.int .i64 n))] (.agg (r.enc.map RC.d)) := by
  unfold m_stemref1_Int at hm
  refine PSpec.of_vc Tryz.func44 rfl (by kernel_rfl) (n := 5) rfl rfl (by simp) ?_
  try simp [*]
  obtain rfl := r_ret hm
  exact ret0 (vs := [_]) (by simp [*]; try exact rfl) (by simp [*])
end Go.Proofs.YthgepknlibmjcaaGreat
end
section
namespace Go.Proofs.YthgepknlibmjcaaGreat
open Go.Am
set_option linter.unusedVariables false
set_option linter.unusedSimpArgs false
def m_stemref1_SampleGraph : Option Gr :=
  (bindK (m_stemref1_Int 5) fun v2 => (some (Gr.mk (Sch.mk [(Tbl.mk ({ data := #[116] }) [(Col.mk ({ data := #[105, 100] }) 1 false), (Col.mk ({ data := #[110] }) 1 false)] [0])] [] []) [(Edg.mk 0 [(Stp.mk 1 ({ data := #[116] }) ByteArray.empty ({ data := #[120] }) ByteArray.empty 1 [] ByteArray.empty v2 (Tbl.mk ByteArray.empty [] []) (Cons.mk ByteArray.empty 0 ByteArray.empty 0 (GV.mk 0 0 ByteArray.empty)) (Fk.mk ByteArray.empty [] ByteArray.empty))])])))
set_option maxRecDepth 20000 in
theorem c_stemref1_SampleGraph  (r : Gr) (hm : Is (m_stemref1_SampleGraph) r) : PSpec Tryz.prog 41 [] (.agg (r.enc.map RC.d)) := by
  unfold m_stemref1_SampleGraph at hm
  refine PSpec.of_vc Tryz.func41 rfl (by kernel_rfl) (n := 16) rfl rfl (by simp) ?_
  try simp [*]
  refine r_call (av := [.one (.d (.int .i64 5))]) hm (fun v hv => c_stemref1_Int _ v hv) (by simp [*]) ?_
  clear hm; intro v2 hvv2 hm
  try simp [*]
  obtain rfl := r_ret hm
  exact ret0 (vs := [_]) (by simp [*]; try exact rfl) (by simp [*])
end Go.Proofs.YthgepknlibmjcaaGreat
end
section
namespace Go.Proofs.YthgepknlibmjcaaGreat
open Go.Am
set_option linter.unusedVariables false
set_option linter.unusedSimpArgs false
def m_stemkeep1_retentionWorks : Option Bool :=
  (bindK (m_stemref1_SampleGraph) fun v1 => (bindK (m_retention_Unused v1 [0]) fun v2 => (bif (v2.2 == 0) then (bindK (m_slices_Equal_Int v2.1 [1]) fun v4 => (some v4)) else (some false))))
set_option maxRecDepth 20000 in
theorem c_stemkeep1_retentionWorks  (r : Bool) (hm : Is (m_stemkeep1_retentionWorks) r) : PSpec Tryz.prog 11 [] (.one (.d (.bool r))) := by
  unfold m_stemkeep1_retentionWorks at hm
  refine PSpec.of_vc Tryz.func11 rfl (by kernel_rfl) (n := 16) rfl rfl (by simp) ?_
  try simp [*]
  refine r_call (av := []) hm (fun v hv => c_stemref1_SampleGraph  v hv) (by simp [*]) ?_
  clear hm; intro v1 hvv1 hm
  try simp [*]
  refine r_call (av := [.agg v1.enc, .one (.d (.sl ([0].map encI)))]) hm (fun v hv => c_retention_Unused _ _ v hv) (by simp [*]) ?_
  clear hm; intro v2 hvv2 hm
  try simp [*]
  refine r_guardT hm ?_ ?_ <;> clear hm <;> intro hc3 hm
  · try simp [*]
    refine r_call (av := [.one (.d (.sl (v2.1.map encI))), .one (.d (.sl ([1].map encI)))]) hm (fun v hv => c_slices_Equal_Int _ _ v hv) (by simp [*]) ?_
    clear hm; intro v4 hvv4 hm
    try simp [*]
    obtain rfl := r_ret hm
    exact ret0 (vs := [_]) (by simp [*]; try exact rfl) (by simp [*])
  · try simp [*]
    obtain rfl := r_ret hm
    exact ret0 (vs := [_]) (by simp [*]; try exact rfl) (by simp [*])
end Go.Proofs.YthgepknlibmjcaaGreat
end
section
namespace Go.Proofs.YthgepknlibmjcaaGreat
open Go.Am
set_option linter.unusedVariables false
set_option linter.unusedSimpArgs false
def m_stemkeep1_RetentionKeepsUsedVersions (g_ : Gr) (used : List Int) : Option Bool :=
  (bindK (m_stemkeep1_retentionWorks) fun v2 => (bif !v2 then (bindK (m_stemkeep1_retentionWorks) fun v4 => (some v4)) else (bif decide (8 < (g_.edges.length : Int)) then (bindK (m_stemkeep1_retentionWorks) fun v7 => (some v7)) else (bif decide (30 < (used.length : Int)) then (bindK (m_stemkeep1_retentionWorks) fun v10 => (some v10)) else (bindK (m_retention_Unused g_ used) fun v11 => (bif (v11.2 != 0) then (some true) else (forK (fun (i14 : Nat) (x14 : Int) (s14 : Unit) next_14 => (whileK (fun (s15 : Int) next_15 => (bindK (m_slices_Contains_Int v11.1 s15) fun v16 => (bif v16 then (some false) else (bif decide (s15 ≤ 0) then (next_14 ()) else (bif decide ((g_.edges.length : Int) < s15) then (next_14 ()) else (chkK (okI (s15 - 1)) (getK g_.edges (s15 - 1) fun x22 => (next_15 x22.parent)))))))) FUEL x14)) (fun (s14 : Unit) => (some true)) used 0 ())))))))
set_option maxRecDepth 20000 in
theorem c_stemkeep1_RetentionKeepsUsedVersions (g_ : Gr) (used : List Int) (r : Bool) (hm : Is (m_stemkeep1_RetentionKeepsUsedVersions g_ used) r) : PSpec Tryz.prog 3 [.agg g_.enc, .one (.d (.sl (used.map encI)))] (.one (.d (.bool r))) := by
  unfold m_stemkeep1_RetentionKeepsUsedVersions at hm
  refine PSpec.of_vc Tryz.func3 rfl (by kernel_rfl) (n := 57) rfl rfl (by simp) ?_
  try simp [*]
  refine r_call (av := []) hm (fun v hv => c_stemkeep1_retentionWorks  v hv) (by simp [*]) ?_
  clear hm; intro v2 hvv2 hm
  try simp [*]
  refine r_guardF hm ?_ ?_ <;> clear hm <;> intro hc3 hm
  · try simp [*]
    refine r_call (av := []) hm (fun v hv => c_stemkeep1_retentionWorks  v hv) (by simp [*]) ?_
    clear hm; intro v4 hvv4 hm
    try simp [*]
    obtain rfl := r_ret hm
    exact ret0 (vs := [_]) (by simp [*]; try exact rfl) (by simp [*])
  · try simp [*]
    intro hl5
    replace hl5 : g_.edges.length ≤ 2097152 := by simpa using hl5
    refine r_guardF hm ?_ ?_ <;> clear hm <;> intro hc6 hm
    · try simp [*]
      refine r_call (av := []) hm (fun v hv => c_stemkeep1_retentionWorks  v hv) (by simp [*]) ?_
      clear hm; intro v7 hvv7 hm
      try simp [*]
      obtain rfl := r_ret hm
      exact ret0 (vs := [_]) (by simp [*]; try exact rfl) (by simp [*])
    · try simp [*]
      intro hl8
      replace hl8 : used.length ≤ 2097152 := by simpa using hl8
      refine r_cond hm ?_ ?_ <;> clear hm <;> intro hc9 hm
      · try simp [*]
        refine r_call (av := []) hm (fun v hv => c_stemkeep1_retentionWorks  v hv) (by simp [*]) ?_
        clear hm; intro v10 hvv10 hm
        try simp [*]
        obtain rfl := r_ret hm
        exact ret0 (vs := [_]) (by simp [*]; try exact rfl) (by simp [*])
      · try simp [*]
        refine r_call (av := [.agg g_.enc, .one (.d (.sl (used.map encI)))]) hm (fun v hv => c_retention_Unused _ _ v hv) (by simp [*]) ?_
        clear hm; intro v11 hvv11 hm
        try simp [*]
        refine r_cond hm ?_ ?_ <;> clear hm <;> intro hc12 hm
        · try simp [*]
          obtain rfl := r_ret hm
          exact ret0 (vs := [_]) (by simp [*]; try exact rfl) (by simp [*])
        · try simp [*]
          refine Wait.for (xs := used) (s0 := ()) (fun i14 s14 e14 h14 => e14.n = 57 ∧ e14.get 2 = .one (.ptr (0, 32) 0) ∧ e14.get 5 = .one (.d (.sl (v11.1.map encI))) ∧ e14.get 31 = .one (.d (.sl (used.map encI))) ∧ e14.get 32 = .one (.d (.int .i64 (used.length : Int))) ∧ e14.get 33 = .one (.d (.int .i64 (i14 : Int))) ∧ h14.box (0, 32) = some [.d (.sl (g_.base.tables.map Tbl.enc)), .d (.sl (g_.base.fks.map Fk.enc)), .d (.sl (g_.base.cons.map Cons.enc)), .d (.sl (g_.edges.map Edg.enc))]) hm (by simp [*]) ?_ ?_
          · rintro i14 s14 e14 h14 ⟨hn14, h14_2, h14_5, h14_31, h14_32, h14_33, hb14_b1⟩ hlt14 hm
            have hw14 : IntKind.i64.wrap ((i14 : Int) + 1) = (i14 : Int) + 1 := IntWalk.i64_in _ (by omega)
            try simp [*]
            refine Wait.while (s0 := used[i14]) (fun s15 e15 h15 => e15.n = 57 ∧ e15.get 2 = .one (.ptr (0, 32) 0) ∧ e15.get 5 = .one (.d (.sl (v11.1.map encI))) ∧ e15.get 8 = .one (.d (.int .i64 s15)) ∧ e15.get 31 = .one (.d (.sl (used.map encI))) ∧ e15.get 32 = .one (.d (.int .i64 (used.length : Int))) ∧ e15.get 33 = .one (.d (.int .i64 (i14 : Int))) ∧ h15.box (0, 32) = some [.d (.sl (g_.base.tables.map Tbl.enc)), .d (.sl (g_.base.fks.map Fk.enc)), .d (.sl (g_.base.cons.map Cons.enc)), .d (.sl (g_.edges.map Edg.enc))]) hm (by simp [*]) ?_
            · rintro n15 s15 e15 h15 ⟨hn15, h15_2, h15_5, h15_8, h15_31, h15_32, h15_33, hb15_b1⟩ hm
              try simp [*]
              refine r_call (av := [.one (.d (.sl (v11.1.map encI))), .one (.d (.int .i64 s15))]) hm (fun v hv => c_slices_Contains_Int _ _ v hv) (by simp [*]) ?_
              clear hm; intro v16 hvv16 hm
              try simp [*]
              refine r_cond hm ?_ ?_ <;> clear hm <;> intro hc17 hm
              · try simp [*]
                obtain rfl := r_ret hm
                exact ret0 (vs := [_]) (by simp [*]; try exact rfl) (by simp [*])
              · try simp [*]
                refine r_guardF hm ?_ ?_ <;> clear hm <;> intro hc18 hm
                · try simp [*]
                  exact BackF.of () ⟨(by simp [*]), hm⟩
                · try simp [*]
                  refine r_cond hm ?_ ?_ <;> clear hm <;> intro hc20 hm
                  · try simp [*]
                    exact BackF.of () ⟨(by simp [*]), hm⟩
                  · try simp [*]
                    replace hm := hm.chk
                    obtain ⟨hw21, hm⟩ := hm
                    replace hw21 := wrap_ok hw21
                    try simp [*]
                    replace hm := hm.get
                    obtain ⟨x22, h0x22, hxx22, hm⟩ := hm
                    try simp at h0x22
                    try simp at hxx22
                    try simp [*]
                    exact BackF.of x22.parent ⟨(by simp [*]), hm⟩
          · rintro s14 e14 h14 ⟨hn14, h14_2, h14_5, h14_31, h14_32, h14_33, hb14_b1⟩ hm
            try simp [*]
            obtain rfl := r_ret hm
            exact ret0 (vs := [_]) (by simp [*]; try exact rfl) (by simp [*])
end Go.Proofs.YthgepknlibmjcaaGreat
end
section
/-
  script, versions, retention come to an end; the law: retention keeps the versions that are used.
-/
namespace Go.Proofs.YthgepknlibmjcaaGreat
open Go Go.Am
set_option linter.unusedVariables false
set_option linter.unusedSimpArgs false
theorem w_script_Schemas (S : Sch) (script : List Stp) (hx : ∀ x ∈ script, SmallX x) : Wp (m_script_Schemas S script) fun r => r.2 = 0 → 0 < r.1.length ∧ r.1.length ≤ 7 ∧ ∀ T ∈ r.1, VS T := by
  have hL := LIM_eq
  unfold m_script_Schemas
  refine Wp.cond (fun _ => Wp.ret (by simp)) fun h6 => Wp.bind (w_schema_Validate S) fun e _ he => Wp.cond (fun h => Wp.ret fun h0 => ?_) fun h1 => ?_
  · simp only at h0; rw [h0] at h; cases h
  have hS : VS S := he (by simpa using h1)
  have hl : script.length ≤ 6 := by simp at h6; omega
  refine Wp.bind (w_schema_Clone S (by have := hS.t6; omega) (by have := hS.f8; omega)) fun S0 _ hS0 => ?_
  subst hS0
  refine Wp.for (fun i (s : List Sch) => s.length = i + 1 ∧ ∀ T ∈ s, VS T) ⟨rfl, by simpa using hS⟩ ?_ ?_
  · rintro i x s next hx1 hm ⟨hs, hv⟩ hn
    have hi := (List.getElem?_eq_some_iff.1 hx1).1
    refine Wp.get (by omega) (by omega) fun y _ _ => Wp.bind (w_Apply y x (hx x hm)) fun r _ hr => Wp.cond (fun h => Wp.ret fun h0 => ?_) fun h2 => Wp.app (by simp; omega) (hn _ ⟨by simp; omega, fun T hT => ?_⟩)
    · simp only at h0; rw [h0] at h; cases h
    · rcases List.mem_append.1 hT with h | h
      · exact hv T h
      · rw [List.mem_singleton.1 h]; exact hr (by simpa using h2)
  · rintro s ⟨hs, hv⟩
    exact Wp.ret fun _ => ⟨by simp only; omega, by simp only; omega, hv⟩
theorem w_script_Apply (S : Sch) (script : List Stp) (hx : ∀ x ∈ script, SmallX x) : Wp (m_script_Apply S script) fun r => r.2 = 0 → VS r.1 := by
  unfold m_script_Apply
  refine Wp.bind (w_script_Schemas S script hx) fun r _ hr => Wp.cond (fun h => Wp.ret fun h0 => ?_) fun h1 => ?_
  · simp only at h0; rw [h0] at h; cases h
  · obtain ⟨h2, h3, h4⟩ := hr (by simpa using h1)
    exact Wp.chk ⟨by omega, by omega⟩ (Wp.get (by omega) (by omega) fun T _ hT => Wp.ret fun _ => h4 T hT)
/-- every edge's parent is an earlier version -/
def EdgesOK (g : Gr) : Prop := ∀ (i : Nat) (e : Edg), g.edges[i]? = some e → 0 ≤ e.parent ∧ e.parent ≤ i
theorem w_versions_Schemas (g : Gr) (hx : ∀ e ∈ g.edges, ∀ x ∈ e.script, SmallX x) : Wp (m_versions_Schemas g) fun r => r.2 = 0 → EdgesOK g ∧ g.edges.length ≤ 7 ∧ r.1.length = g.edges.length + 1 ∧ ∀ T ∈ r.1, VS T := by
  have hL := LIM_eq
  unfold m_versions_Schemas
  refine Wp.cond (fun _ => Wp.ret (by simp)) fun h6 => Wp.bind (w_schema_Validate _) fun e _ he => Wp.cond (fun h => Wp.ret fun h0 => ?_) fun h1 => ?_
  · simp only at h0; rw [h0] at h; cases h
  have hS : VS g.base := he (by simpa using h1)
  have hl : g.edges.length ≤ 7 := by simp at h6; omega
  refine Wp.bind (w_schema_Clone g.base (by have := hS.t6; omega) (by have := hS.f8; omega)) fun S0 _ hS0 => ?_
  rw [hS0]
  refine Wp.for (fun i (s : List Sch) => s.length = i + 1 ∧ (∀ T ∈ s, VS T) ∧ ∀ (j : Nat) (e : Edg), j < i → g.edges[j]? = some e → 0 ≤ e.parent ∧ e.parent ≤ j) ⟨rfl, by simpa using hS, by intro j e h; omega⟩ ?_ ?_
  · rintro i x s next hx1 hm ⟨hs, hv, hI⟩ hn
    have hi := (List.getElem?_eq_some_iff.1 hx1).1
    refine Wp.cond (fun _ => Wp.ret (by simp)) fun h2 => Wp.cond (fun _ => Wp.ret (by simp)) fun h3 => ?_
    have a2 : 0 ≤ x.parent := by simpa using h2
    have a3 : x.parent ≤ i := by simpa using h3
    refine Wp.get (by omega) (by omega) fun y _ _ => Wp.bind (w_script_Apply y x.script (hx x hm)) fun r _ hr => Wp.cond (fun h => Wp.ret fun h0 => ?_) fun h2 => Wp.app (by simp; omega) (hn _ ⟨by simp; omega, fun T hT => ?_, fun j e hj he => ?_⟩)
    · simp only at h0; rw [h0] at h; cases h
    · rcases List.mem_append.1 hT with h | h
      · exact hv T h
      · rw [List.mem_singleton.1 h]; exact hr (by simpa using h2)
    · rcases Nat.lt_or_ge j i with h | h
      · exact hI j e h he
      · obtain rfl : j = i := by omega
        rw [hx1] at he
        cases he
        exact ⟨a2, a3⟩
  · rintro s ⟨hs, hv, hI⟩
    exact Wp.ret fun _ => ⟨fun i e he => hI i e (List.getElem?_eq_some_iff.1 he).1 he, hl, hs, hv⟩
theorem w_versions_Validate (g : Gr) (hx : ∀ e ∈ g.edges, ∀ x ∈ e.script, SmallX x) : Wp (m_versions_Validate g) fun r => r = 0 → EdgesOK g ∧ g.edges.length ≤ 7 := by
  unfold m_versions_Validate
  exact Wp.bind (w_versions_Schemas g hx) fun r _ hr => Wp.ret fun h => ⟨(hr h).1, (hr h).2.1⟩
/-- flags that hold the base, and with each version its parent -/
structure Fl (g : Gr) (u : List Bool) : Prop where
  len : u.length = g.edges.length + 1
  base : u[0]? = some true
  closed : ∀ (j : Nat) (e : Edg), u[j + 1]? = some true → g.edges[j]? = some e → u[e.parent.toNat]? = some true
theorem set_true {w : List Bool} {k j : Nat} (h : w[j]? = some true) : (w.set k true)[j]? = some true := by
  rcases Nat.decEq j k with hne | rfl
  · rw [List.getElem?_set_ne (fun h => hne h.symm)]; exact h
  · exact List.getElem?_set_self (List.getElem?_eq_some_iff.1 h).1
theorem w_walk {ρ : Type} {Q : ρ → Prop} (g : Gr) (hE : EdgesOK g) (x : Int) (u : List Bool) (k : List Bool → Option ρ) (h0 : 0 ≤ x) (h1 : x ≤ g.edges.length) (hu : Fl g u)
    (hk : ∀ w : List Bool, Fl g w → (∀ j : Nat, u[j]? = some true → w[j]? = some true) → w[x.toNat]? = some true → Wp (k w) Q) : Wp (m_retention_walk g k (g.edges.length + 2) (x, u)) Q := by
  unfold m_retention_walk
  refine Wp.while (fun (s : Int × List Bool) => (0 ≤ s.1 ∧ s.1 ≤ g.edges.length) ∧ s.2.length = g.edges.length + 1 ∧ s.2[0]? = some true ∧ (∀ (j : Nat) (e : Edg), s.2[j + 1]? = some true → g.edges[j]? = some e → s.2[e.parent.toNat]? = some true ∨ e.parent = s.1) ∧
    (∀ j : Nat, u[j]? = some true → s.2[j]? = some true) ∧ (s.2[x.toNat]? = some true ∨ x = s.1)) (fun (s : Int × List Bool) => s.1.toNat) ?_ (g.edges.length + 2) (x, u) ⟨⟨h0, h1⟩, hu.len, hu.base, fun j e a b => .inl (hu.closed j e a b), fun _ h => h, .inr rfl⟩ (by simp only; omega)
  rintro ⟨y, w⟩ next ⟨⟨g0, g1⟩, g2, g3, g4, g5, g6⟩ hn
  simp only at g0 g1 g2 g3 g4 g5 g6 ⊢
  refine Wp.get g0 (by omega) fun b hb _ => ?_
  cases b with
  | true =>
    refine hk w ⟨g2, g3, fun j e a c => ?_⟩ g5 ?_
    · rcases g4 j e a c with h | h
      · exact h
      · rw [h]; exact hb
    · rcases g6 with h | rfl
      · exact h
      · exact hb
  | false =>
    have hy : y ≠ 0 := by
      rintro rfl
      rw [show (0 : Int).toNat = 0 from rfl, g3] at hb
      cases hb
    refine Wp.get (by omega) (by omega) fun e he _ => ?_
    have hp := hE _ e he
    have hylt : y.toNat < w.length := by omega
    refine hn (e.parent, w.set y.toNat true) ⟨⟨hp.1, by have := hp.2; simp only; omega⟩, by simpa using g2, set_true g3, fun j e' a c => ?_, fun j h => set_true (g5 j h), .inl ?_⟩ (by simp only; omega)
    · simp only at a ⊢
      rcases Nat.decEq (j + 1) y.toNat with hne | heq
      · rw [List.getElem?_set_ne (fun h => hne h.symm)] at a
        rcases g4 j e' a c with h | h
        · exact .inl (set_true h)
        · rw [h]; exact .inl (List.getElem?_set_self hylt)
      · right
        rw [show (y - 1).toNat = j by omega, c] at he
        cases he
        rfl
    · rcases g6 with h | rfl
      · exact set_true h
      · exact List.getElem?_set_self hylt
theorem w_Unused (g : Gr) (vs : List Int) (hx : ∀ e ∈ g.edges, ∀ x ∈ e.script, SmallX x) : Wp (m_retention_Unused g vs) fun r => r.2 = 0 → EdgesOK g ∧ g.edges.length ≤ 7 ∧
    ∃ u, Fl g u ∧ (∀ x ∈ vs, (0 ≤ x ∧ x ≤ g.edges.length) ∧ u[x.toNat]? = some true) ∧ ∀ y ∈ r.1, u[y.toNat]? = some false := by
  have hL := LIM_eq
  unfold m_retention_Unused
  refine Wp.bind (w_versions_Validate g hx) fun e _ he => Wp.cond (fun h => Wp.ret fun h0 => ?_) fun h1 => ?_
  · simp only at h0; rw [h0] at h; cases h
  obtain ⟨hE, h7⟩ := he (by simpa using h1)
  refine Wp.chk (by omega) (Wp.for (fun i u => Fl g u ∧ ∀ (j : Nat) (x : Int), j < i → vs[j]? = some x → (0 ≤ x ∧ x ≤ g.edges.length) ∧ u[x.toNat]? = some true) ⟨⟨by simp, rfl, fun j e a _ => ?_⟩, by intro j x h; omega⟩ ?_ ?_)
  · rw [List.getElem?_cons_succ, List.getElem?_replicate] at a
    split at a <;> cases a
  · rintro i x u next hx1 hm ⟨hu, hI⟩ hn
    refine Wp.cond (fun _ => Wp.ret (by simp)) fun h2 => Wp.cond (fun _ => Wp.ret (by simp)) fun h3 => ?_
    have a2 : 0 ≤ x := by simpa using h2
    have a3 : x ≤ g.edges.length := by simpa using h3
    refine w_walk g hE x u next a2 a3 hu fun w hw hm hwx => hn w ⟨hw, upto_succ (fun j y hj hy => ⟨(hI j y hj hy).1, hm _ (hI j y hj hy).2⟩) hx1 ⟨⟨a2, a3⟩, hwx⟩⟩
  · rintro u ⟨hu, hI⟩
    refine Wp.count (fun i (s : List Int) => s.length ≤ i ∧ ∀ y ∈ s, u[y.toNat]? = some false) (by simp) ?_ ?_
    · rintro i s next hi ⟨hs, hf⟩ hn
      have hul := hu.len
      refine Wp.get (by omega) (by omega) fun b hb _ => ?_
      cases b with
      | true => exact hn _ ⟨by omega, hf⟩
      | false =>
        refine Wp.app (by simp; omega) (hn _ ⟨by simp; omega, fun y hy => ?_⟩)
        rcases List.mem_append.1 hy with h | h
        · exact hf y h
        · rw [List.mem_singleton.1 h]; exact hb
    · rintro s ⟨_, hf⟩
      exact Wp.ret fun _ => ⟨hE, h7, u, hu, upto_mem hI, hf⟩
set_option maxRecDepth 100000 in
theorem works : m_stemkeep1_retentionWorks = some true := by decide +kernel
/-- THE LAW, over the mirror -/
theorem law (g : Gr) (used : List Int) (hx : ∀ e ∈ g.edges, ∀ x ∈ e.script, SmallX x) : m_stemkeep1_RetentionKeepsUsedVersions g used = some true := by
  have hw : Wp m_stemkeep1_retentionWorks fun b => b = true := ⟨true, works, rfl⟩
  have : Wp (m_stemkeep1_RetentionKeepsUsedVersions g used) fun b => b = true := by
    unfold m_stemkeep1_RetentionKeepsUsedVersions
    refine Wp.bind hw fun b _ hb => ?_
    subst hb
    refine Wp.cond (fun h => by cases h) fun _ => Wp.cond (fun _ => Wp.bind hw fun b _ hb => Wp.ret hb) fun _ => Wp.cond (fun _ => Wp.bind hw fun b _ hb => Wp.ret hb) fun _ => Wp.bind (w_Unused g used hx) fun r _ hr => Wp.cond (fun _ => Wp.ret rfl) fun h0 => ?_
    obtain ⟨hE, h7, u, hu, hus, huf⟩ := hr (by simpa using h0)
    refine Wp.for (fun _ _ => True) trivial ?_ fun _ _ => Wp.ret rfl
    intro i x s next hx1 hm _ hn
    refine Wp.while (fun (y : Int) => (0 ≤ y ∧ y ≤ g.edges.length) ∧ u[y.toNat]? = some true) (fun (y : Int) => y.toNat) ?_ FUEL x (hus x hm) (by have := (hus x hm).1.2; show _ < 16777216; omega)
    rintro y next2 ⟨⟨hy0, hy1⟩, hyu⟩ hn2
    refine Wp.bind (w_Contains_Int _ _) fun b _ hb => Wp.cond (fun h => ?_) fun _ => Wp.cond (fun _ => hn () trivial) fun h2 => Wp.cond (fun _ => hn () trivial) fun h3 => ?_
    · have := huf y (hb.1 h)
      rw [hyu] at this
      cases this
    · have a2 : 0 < y := by simpa using h2
      refine Wp.chk ⟨by omega, by omega⟩ (Wp.get (by omega) (by omega) fun e he _ => ?_)
      have hp := hE _ e he
      refine hn2 _ ⟨⟨hp.1, by omega⟩, hu.closed _ e ?_ he⟩ (by omega)
      rw [show (y - 1).toNat + 1 = y.toNat by omega]
      exact hyu
  obtain ⟨r, h1, h2⟩ := this
  rw [h1, h2]
end Go.Proofs.YthgepknlibmjcaaGreat
end
section
/-
  RetentionKeepsUsedVersions: for every input of bulk at most 1048576 the call returns true and the input reads as it did.
-/
namespace Go.Proofs.YthgepknlibmjcaaGreat.retentionKeepsUsedVersions
open Go Go.Am Go.ChangeShapes Go.WideShapes Go.ChangeAt Go.RowKit
set_option linter.unusedVariables false
theorem own : ownKnob Tryz.prog.godebug = none := by kernel_rfl
theorem laid : laidOutB Tryz.prog = true := by kernel_rfl
def plain : List TypeId := [29, 26, 27, 39, 37, 158, 22, 23, 24, 75, 131, 103, 73, 156, 30, 100, 3, 4, 9]
theorem plain_ok : plainB Tryz.prog plain = true := by kernel_rfl
theorem small {g : Gr} (h : bd29 1048576 g) : ∀ e ∈ g.edges, ∀ x ∈ e.script, SmallX x := by
  intro e he x hx
  have h1 := (h.2.2 e he).2.2 x hx
  obtain ⟨_, _, _, _, _, _, hc, _, _, ht, _, hf⟩ := h1
  exact ⟨hc.1, ht.2.1.1, ht.2.2.1, hf.2.1.1⟩
set_option maxRecDepth 100000 in
theorem contract (H : Type) (enc : TypeId × Value → H) (W : World) (base : Nat) (args : Array Value) (ds gs : List (DataW H)) (before : List MemPlace)
    (hval : ∀ (j : Nat) t v, Tryz.f3.params[j]? = some t → args[j]? = some v → Value.okWide Tryz.prog W .any base t v)
    (hW : DataW.Whole enc Tryz.prog Tryz.f3.params.toList Rows.retentionKeepsUsedVersionsSpec.vars false W args.toList ds gs before) (hk : Rows.uptoSmall H (ds ++ gs) = true) :
    Calls Tryz.prog 3 args W fun e W' => ∃ v, e = .returned v ∧ Rows.retentionKeepsUsedVersionsSpec.post enc Tryz.prog Tryz.f3 false true false false W args v W' := by
  have hW' := hW
  have hlt := hW.lt
  obtain ⟨p, q, hA0, hV, rfl, hfz, hnd⟩ := hW
  have hA : DataW.TrodAll enc Tryz.prog W 0 (fun _ => true) true Tryz.f3.params.toList args.toList ds p := hA0
  rw [Tryz.params3] at hA hval
  obtain ⟨v0, vs0, d0, ds0, p0, q0, hargs, rfl, rfl, h0, r0⟩ := trodAll_cons hA
  obtain ⟨v1, vs1, d1, ds1, p1, q1, rfl, rfl, rfl, h1, r1⟩ := trodAll_cons r0
  obtain ⟨rfl, rfl, rfl⟩ := trodAll_nil r1
  obtain rfl : args = #[v0, v1] := by cases args; simp_all
  obtain ⟨rfl, rfl⟩ := trodVars_none hV
  have hb := of_decide_eq_true hk
  simp only [List.append_nil, Rows.uptoBulkAll] at hb
  obtain ⟨cs0, rfl, _⟩ := okWide_struct Tryz.underlying29 (hval 0 29 v0 rfl rfl)
  obtain ⟨a1, len1, cap1, rfl⟩ := okWide_slice Tryz.underlying30 (hval 1 30 v1 rfl rfl)
  have h0k := h0
  have h1k := h1
  obtain ⟨n0, hn0⟩ := h0
  obtain ⟨n1, hn1⟩ := h1
  obtain ⟨e0, hr0, ht0⟩ := rep_read (B := 1048576) plain_ok (by decide) n0 29 _ _ (by decide) hn0 (by simp only; omega)
  obtain ⟨e1, hr1, ht1⟩ := rep_read (B := 1048576) plain_ok (by decide) n1 30 _ _ (by decide) hn1 (by simp only; omega)
  obtain ⟨g, rfl, hg⟩ := dec29 ht0
  obtain ⟨us, rfl, _⟩ := dec30 ht1
  have hS := c_stemkeep1_RetentionKeepsUsedVersions g us true (law g us (small hg))
  refine (hS.2 W (cellsOf W) (fun _ _ => none) #[.agg cs0, .slice a1 len1 cap1] (fun _ _ _ h => h) (fun _ _ _ h => by cases h) ?_).mono fun e W' hpost => ?_
  · refine ⟨rfl, fun i a hi => ?_⟩
    match i with
    | 0 =>
      cases hi
      refine ⟨.agg cs0, rfl, cs0, rfl, by simpa [Value.cells] using hr0.1, fun j x hj => ?_⟩
      obtain ⟨u, hu1, hu2⟩ := hr0.2 j x hj
      exact ⟨u, by simpa [Value.cells] using hu1, hu2⟩
    | 1 =>
      cases hi
      obtain ⟨u, hu1, hu2⟩ := hr1.2 0 _ rfl
      refine ⟨.slice a1 len1 cap1, rfl, ?_⟩
      have : u = .slice a1 len1 cap1 := by simpa [Value.cells] using hu1.symm
      rw [← this]
      exact hu2
    | i + 2 => simp at hi
  obtain ⟨v, m', blk, rfl, _, _, _, hbel, hrv, _⟩ := hpost
  have hv : v = .bool true := by cases hrv; rfl
  subst hv
  refine ⟨_, rfl, [d0, d1], [], p0 ++ (p1 ++ []) ++ [], [], p0 ++ (p1 ++ []), [], hW', trodAll_mk1 (shut_bool Tryz.underlying4 true), ?_, rfl, hbel.frame _, fun h => by cases h⟩
  have hl0 : ∀ x ∈ p0, x.block < W.heap.size := fun x hx => hlt x (by simp [hx])
  have hl1 : ∀ x ∈ p1, x.block < W.heap.size := fun x hx => hlt x (by simp [hx])
  exact trodAll_cons_mk (Below.trod laid (by kernel_rfl) (of_decide_eq_true (by kernel_rfl)) h0k hbel hl0) (trodAll_cons_mk (Below.trod laid (by kernel_rfl) (of_decide_eq_true (by kernel_rfl)) h1k hbel hl1) trodAll_mk0)
set_option maxRecDepth 100000 in
theorem lifted (os : Os) (started : os.Started) (H : Type) (enc : TypeId × Value → H) (F : Stop.Interp) :
    ReturnsInHanded {} Tryz.checked os 3 .any ((Rows.OpenSpec.upto Rows.retentionKeepsUsedVersionsSpec).pre6 enc Tryz.prog Tryz.f3 Rows.retentionKeepsUsedVersionsUptoRow.domain false) (((Rows.OpenSpec.upto Rows.retentionKeepsUsedVersionsSpec).at F).post enc Tryz.prog Tryz.f3 false true false false) := by
  refine returnsInHanded_of_cond (C := Tryz.checked) (s := Rows.OpenSpec.upto Rows.retentionKeepsUsedVersionsSpec) (k := Rows.uptoSmall) rfl own started (by kernel_rfl) Tryz.func3
    (OpenSpec.witness (enc := enc) (C := Tryz.checked) (s := Rows.OpenSpec.upto Rows.retentionKeepsUsedVersionsSpec) (k := Rows.uptoSmall) rfl false ⟨#[], #[.agg #[.slice none 0 0, .slice none 0 0, .slice none 0 0, .slice none 0 0], .slice none 0 0], []⟩ 8 (by kernel_rfl) (by kernel_rfl) (by kernel_rfl)
      (x := ([.agg [.agg [.nil, .nil, .nil], .nil], .nil], [], [])) (by kernel_rfl) rfl (by kernel_rfl)) ?_
  intro W base args ds gs before hval hW _ hk _
  exact contract H enc W base args ds gs before hval hW hk
theorem over : Rows.retentionKeepsUsedVersionsUptoRow.holds Tryz.pinned (Rows.OpenSpec.upto Rows.retentionKeepsUsedVersionsSpec) :=
  OpenClaim.holds_of_cond 3 Tryz.f3 rfl rfl rfl rfl rfl rfl rfl ⟨rfl, rfl, rfl, rfl, rfl⟩ rfl rfl rfl rfl rfl (by kernel_rfl) Tryz.func3 (by kernel_rfl)
    (of_decide_eq_true (by kernel_rfl)) (by unfold Func.isWrapper; first | (rw [if_pos (by decide +kernel)]; kernel_rfl) | (rw [if_neg (by decide +kernel)]; exact ⟨rfl, rfl⟩))
    (fun os started H enc _ F => lifted os started H enc F)
theorem proved : Rows.RetentionKeepsUsedVersionsUptoSaid := over
end Go.Proofs.YthgepknlibmjcaaGreat.retentionKeepsUsedVersions
end
