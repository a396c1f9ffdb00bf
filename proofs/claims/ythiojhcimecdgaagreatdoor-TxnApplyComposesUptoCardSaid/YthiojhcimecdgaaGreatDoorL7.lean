/- joined by a program out of 47 texts -/
import Derived.Test.YthiojhcimecdgaaGreatDoorL6
import Derived.Lib.SlicesCompact
import Derived.Shelf.Sort.Plain
import Derived.Shelf.Slices.CompactS
import Derived.Shelf.Slices.In.SortNone
import Derived.Test.YthiojhcimecdgaaGreatDoorCards
import Derived.Test.YthiojhcimecdgaaGreatDoorTie
import Derived.WalkKit
import Derived.ProofKit
import Derived.OpenShut
import Derived.JoinedCond
import Derived.JoinedOf
import Derived.Carry
import Derived.Lay
import Derived.SevenTiedAt
import Derived.Deep.DeepWitnessRowRef
set_option linter.unusedVariables false
set_option linter.unusedSimpArgs false
set_option maxRecDepth 20000
namespace Go.Proofs.YthiojhcimecdgaaGreatDoor
section
open Go.Am
def Z4y (s_:Sch) (sc:List Stp) (parent:List Rel) (child:List Rel) (complements:List (List Rel)):Option Bool:=
 (bindK (Z5j s_ sc parent complements) fun v2=>(bindK (Z51 s_ sc child complements) fun v3=>(bif (v2.2.2 == 0) then (bif (v3.2.2 == 0) then (bindK (Z3l v2.1 child) fun v6=>(bif v6 then (bindK (Z3l v3.1 parent) fun v8=>(bif v8 then (bindK (Z4a v2.2.1 complements) fun v10=>(bif v10 then (bindK (Z4a v3.2.1 complements) fun v12=>(some v12)) else (some false))) else (some false))) else (some false))) else (some false)) else (some false))))
instance c_database_consistent (s_:Sch) (sc:List Stp) (parent:List Rel) (child:List Rel) (complements:List (List Rel)):Con (Z4y s_ sc parent child complements) Tryz.prog 74 [.agg s_.enc,.one (.d (.sl (sc.map Stp.enc))),.one (.d (.sl (parent.map Rel.enc))),.one (.d (.sl (child.map Rel.enc))),.one (.d (.sl (complements.map (encL Rel.enc))))] (fun r=>.one (.d (.bool r))):=by
 unfold Z4y;exact go 61 Tryz.func74 rfl (by kernel_rfl) rfl rfl (by simp)
def Z5m (g_:Gr) (db:Db):Option Int:=
 (bindK (Z1p g_) fun v3=>(bif (v3.2 != 0) then (some v3.2) else (bif ((db.insts.length:Int) != (v3.1.length:Int)) then (some 3) else (bif ((db.comps.length:Int) != (g_.edges.length:Int)) then (some 3) else (forK (fun (i12:Nat) (x12:Sch) (s12:Unit) next_12=>(getK db.insts (i12:Int) fun x14=>(bindK (Z5l x12 x14) fun v15=>(bif (v15 != 0) then (some v15) else (next_12 ()))))) (fun (s12:Unit)=>(forK (fun (i18:Nat) (x18:Edg) (s18:Unit) next_18=>(getK v3.1 x18.parent fun x20=>(getK db.insts x18.parent fun x21=>(getK db.insts (i18+1:Int) fun x22=>(getK db.comps (i18:Int) fun x23=>(bindK (Z4y x20 x18.script x21 x22 x23) fun v24=>(bif !v24 then (some 13) else (next_18 ())))))))) (fun (s18:Unit)=>(some 0)) g_.edges 0 ())) v3.1 0 ())))))
instance c_database_Validate (g_:Gr) (db:Db):Con (Z5m g_ db) Tryz.prog 57 [.agg g_.enc,.agg db.enc] (fun r=>.one (.d (.int .i64 r))):=by
 unfold Z5m;have l1:LH (σ:=Unit) 37 [2,3,5,35,36] []:=.intro;have l2:LH (σ:=Unit) 56 [3,5,54,55] []:=.intro;have p1:PH [9] (Plan.then_ [0,1,2,3,4,5,6,7] .done):=.intro;have p2:PH [16] (Plan.then_ [0,1,2,3,4,5,6,7,8,9,10,11,12,13,14,15,16,17,18,19,20,21,22,23,24,25] .done):=.intro;exact go 88 Tryz.func57 rfl (by kernel_rfl) rfl rfl (by simp)
instance i_change_Apply (s_:Sch) (inst:List Rel) (changes:List Chg):Con (Z1j s_ inst changes) Tryz.prog 65 [.agg s_.enc,.one (.d (.sl (inst.map Rel.enc))),.one (.d (.sl (changes.map Chg.enc)))] (fun r=>.tup [.one (.d (.sl (r.1.map Rel.enc))),.one (.d (.int .i64 r.2))]):=⟨fun r hm=>Zei s_ inst changes r hm⟩
end
section
open Go Go.Am
def InstOK (x:List Rel):Prop:=x.length≤2097152∧∀ r ∈ x,r.rows.length≤2097152
instance (x:List Rel):Decidable (InstOK x):=inferInstanceAs (Decidable (_∧_))
def DbOK (db:Db):Prop:=(∀ x ∈ db.insts,InstOK x)∧∀ l ∈ db.comps,l.length≤2097152∧∀ x ∈ l,InstOK x
instance (db:Db):Decidable (DbOK db):=inferInstanceAs (Decidable (_∧_))
end
section
open Go.Am


def Z4v (l:List Int):Option ((List GV)):=
 (forK (fun (i2:Nat) (x2:Int) (s2:(List GV)) next_2=>(bindK (Z68 x2) fun v3=>(appK2 s2 [v3] fun _=>(next_2 (s2++[v3]))))) (fun (s2:(List GV))=>(some s2)) l 0 [])
instance c_stemref1_Ints (l:List Int):Con (Z4v l) Tryz.prog 33 [.one (.d (.sl (l.map encI)))] (fun r=>.one (.d (.sl (r.map GV.enc)))):=by
 unfold Z4v;have l1:LH (σ:=(List GV)) 8 [6,7] [.g 3 3 (fun s=>s.map GV.enc)]:=.intro;exact go 19 Tryz.func33 rfl (by kernel_rfl) rfl rfl (by simp)
def Z61 (l:List Int):Option Chg:=
 (bindK (Z4v l) fun v2=>(some (Chg.mk 1 ({ data:=#[116] }) [] v2)))
instance c_stemref1_Upsert (l:List Int):Con (Z61 l) Tryz.prog 30 [.one (.d (.sl (l.map encI)))] (fun r=>.agg (r.enc.map RC.d)):=by
 unfold Z61;exact go 6 Tryz.func30 rfl (by kernel_rfl) rfl rfl (by simp)
def Z75 (g_:Gr) (db:Db) (v_:Int):Option ((List Rel) × Int):=
 (bindK (Z5m g_ db) fun v3=>(bif (v3 != 0) then (some ([],v3)) else (bif decide (v_ < 0) then (some ([],4)) else (bif decide ((db.insts.length:Int)≤v_) then (some ([],4)) else (getK db.insts v_ fun x8=>(bindK (Z0j x8) fun v9=>(some (v9,0))))))))
instance c_database_Read (g_:Gr) (db:Db) (v_:Int):Con (Z75 g_ db v_) Tryz.prog 31 [.agg g_.enc,.agg db.enc,.one (.d (.int .i64 v_))] (fun r=>.tup [.one (.d (.sl (r.1.map Rel.enc))),.one (.d (.int .i64 r.2))]):=by
 unfold Z75;exact go 30 Tryz.func31 rfl (by kernel_rfl) rfl rfl (by simp)
def Z0l (a:List GV) (b:List GV):Option Bool:=
 (bif ((a.length:Int) != (b.length:Int)) then (some false) else (forK (fun (i5:Nat) (x5:GV) (s5:Unit) next_5=>(getK b (i5:Int) fun x6=>(bif (!(x5.kind == x6.kind) || (!(x5.int == x6.int) || (!(x5.text == x6.text)))) then (some false) else (next_5 ())))) (fun (s5:Unit)=>(some true)) a 0 ()))
instance c_stemref1_EqualRow (a:List GV) (b:List GV):Con (Z0l a b) Tryz.prog 19 [.one (.d (.sl (a.map GV.enc))),.one (.d (.sl (b.map GV.enc)))] (fun r=>.one (.d (.bool r))):=by
 unfold Z0l;have l1:LH (σ:=Unit) 13 [0,1,12] []:=.intro;have p1:PH [6] (Plan.then_ [0,1,2,3,4,5,6,7,8] .done):=.intro;exact go 26 Tryz.func19 rfl (by kernel_rfl) rfl rfl (by simp)
def Z30 (a:List (List GV)) (b:List (List GV)):Option Bool:=
 (bif ((a.length:Int) != (b.length:Int)) then (some false) else (forK (fun (i5:Nat) (x5:List GV) (s5:Unit) next_5=>(getK b (i5:Int) fun x6=>(bindK (Z0l x5 x6) fun v7=>(bif !v7 then (some false) else (next_5 ()))))) (fun (s5:Unit)=>(some true)) a 0 ()))
instance c_stemref1_EqualRows (a:List (List GV)) (b:List (List GV)):Con (Z30 a b) Tryz.prog 32 [.one (.d (.sl (a.map (encL GV.enc)))),.one (.d (.sl (b.map (encL GV.enc))))] (fun r=>.one (.d (.bool r))):=by
 unfold Z30;have l1:LH (σ:=Unit) 13 [0,1,12] []:=.intro;have p1:PH [6] (Plan.then_ [0,1,2,3,4,5,6,7,8,9] .done):=.intro;exact go 27 Tryz.func32 rfl (by kernel_rfl) rfl rfl (by simp)

instance i_slices_Concat_Instance (slices:List (List (List Rel))):Con (Z22 slices) Tryz.prog 10 [.one (.d (.sl (slices.map (encL (encL Rel.enc)))))] (fun r=>.one (.d (.sl (r.map (encL Rel.enc))))):=⟨fun r hm=>Z80 slices r hm⟩
def Z28 (s_:List Rel) (f:Rel→Option Bool):Option Int:=
 (forK (fun (i2:Nat) (x2:Rel) (s2:Unit) next_2=>(bindK (f x2) fun v3=>(bif v3 then (some (i2:Int)) else (next_2 ())))) (fun (s2:Unit)=>(some (-1))) s_ 0 ())
instance i_slices_IndexFunc_Relation (s_:List Rel) (f:Rel→Option Bool) {g:FuncId} {caps:List (List D)} [ConF f Tryz.prog (fun x=>.agg x.enc) (fun v=>.one (.d (.bool v))) g caps]:Con (Z28 s_ f) Tryz.prog 58 [.one (.d (.sl (s_.map Rel.enc))),.one (.fn g caps)] (fun r=>.one (.d (.int .i64 r))):=by
 unfold Z28;have l1:LH (σ:=Unit) 8 [0,1,7] []:=.intro;exact go 19 Tryz.func58 rfl (by kernel_rfl) rfl rfl (by simp)
def Z1q (s_:List Rel) (f:Rel→Option Bool):Option Bool:=
 (bindK (Z28 s_ f) fun v1=>(some (decide (0≤v1))))
instance i_slices_ContainsFunc_Relation (s_:List Rel) (f:Rel→Option Bool) {g:FuncId} {caps:List (List D)} [ConF f Tryz.prog (fun x=>.agg x.enc) (fun v=>.one (.d (.bool v))) g caps]:Con (Z1q s_ f) Tryz.prog 34 [.one (.d (.sl (s_.map Rel.enc))),.one (.fn g caps)] (fun r=>.one (.d (.bool r))):=by
 unfold Z1q;exact go 9 Tryz.func34 rfl (by kernel_rfl) rfl rfl (by simp)
def Z3n (r_:Rel):Option Bool:=
 (some (decide (40 < (r_.rows.length:Int))))
instance c_stemkeep1_bounded_1 (r_:Rel):Con (Z3n r_) Tryz.prog 35 [.agg r_.enc] (fun r=>.one (.d (.bool r))):=by
 unfold Z3n;exact go 7 Tryz.func35 rfl (by kernel_rfl) rfl rfl (by simp)
instance f_stemkeep1_bounded_1  : ConF (fun x=>Z3n x) Tryz.prog (fun x=>.agg x.enc) (fun r=>.one (.d (.bool r))) 35 []:=⟨fun x=>(c_stemkeep1_bounded_1 x)⟩
def Z0y (g_:Gr) (db:Db) (changes:List Chg):Option Bool:=
 (bif decide (8 < (g_.edges.length:Int)) then (some false) else (bif decide (9 < (db.insts.length:Int)) then (some false) else (bif decide (9 < (db.comps.length:Int)) then (some false) else (bif decide (50 < (changes.length:Int)) then (some false) else (bindK (Z22 db.comps) fun v11=>(bindK (Z22 [v11,db.insts]) fun v12=>(forK (fun (i14:Nat) (x14:List Rel) (s14:Unit) next_14=>(bif decide (20 < (x14.length:Int)) then (some false) else (bindK (Z1q x14 (fun xa_=>Z3n xa_)) fun v17=>(bif v17 then (some false) else (next_14 ()))))) (fun (s14:Unit)=>(some true)) v12 0 ())))))))
instance c_stemkeep1_bounded (g_:Gr) (db:Db) (changes:List Chg):Con (Z0y g_ db changes) Tryz.prog 8 [.agg g_.enc,.agg db.enc,.one (.d (.sl (changes.map Chg.enc)))] (fun r=>.one (.d (.bool r))):=by
 unfold Z0y;have l1:LH (σ:=Unit) 38 [36,37] []:=.intro;have p1:PH [3] (Plan.then_ [0,1,3,4,8,2,5,6,7] .done):=.intro;exact go 50 Tryz.func8 rfl (by kernel_rfl) rfl rfl (by simp)


def Z1b (a:List Rel) (b:List Rel):Option Bool:=
 (bif ((a.length:Int) != (b.length:Int)) then (some false) else (forK (fun (i5:Nat) (x5:Rel) (s5:Unit) next_5=>(getK b (i5:Int) fun x6=>(bif !(strEq x5.table x6.table) then (some false) else (bindK (Z30 x5.rows x6.rows) fun v8=>(bif !v8 then (some false) else (next_5 ())))))) (fun (s5:Unit)=>(some true)) a 0 ()))
instance c_stemref1_EqualInstance (a:List Rel) (b:List Rel):Con (Z1b a b) Tryz.prog 23 [.one (.d (.sl (a.map Rel.enc))),.one (.d (.sl (b.map Rel.enc)))] (fun r=>.one (.d (.bool r))):=by
 unfold Z1b;have l1:LH (σ:=Unit) 13 [0,1,12] []:=.intro;have p1:PH [6] (Plan.then_ [0,1,2,3,4,5,6,7,8,9,10,11,12,13,14,15,16,17,18,19,20,21,22,23,24] .done):=.intro;exact go 42 Tryz.func23 rfl (by kernel_rfl) rfl rfl (by simp)




end
section
open Go Go.Am
instance (x:List Rel):Decidable (InstL x):=inferInstanceAs (Decidable (_∧_))
def DbL (db:Db):Prop:=(∀ x ∈ db.insts,InstL x)∧(∀ y ∈ db.comps,∀ x ∈ y,InstL x)∧db.comps.flatten.length+db.insts.length≤2097152
instance (db:Db):Decidable (DbL db):=inferInstanceAs (Decidable (_∧_∧_))
def L34 (e:Env) (f:Lab→Lab→Prop):Prop:=match e.get 3,e.get 4 with | .one (.ptr a 0),.one (.ptr b 0)=>f a b | _,_=>False
theorem L34.of {e:Env} {f:Lab→Lab→Prop} (h:L34 e f):∃ a b,e.get 3=.one (.ptr a 0)∧e.get 4=.one (.ptr b 0)∧f a b:=by
 unfold L34 at h;split at h
 ·exact⟨_,_,by assumption,by assumption,h⟩
 ·exact h.elim
theorem Zqt {h:HS} {s:Sh} {cs:List C} {ds:List D} {ls:List Lab} (o:Ow h [s] cs ds ls):∃ y,cs=[y]:=by
 have:=o.len.1
 match cs,this with
 | [y],_=>exact⟨y,rfl⟩
theorem OwL.one {h:HS} {sh:List Sh} {x:C} {es:List El} (o:OwL h [.r sh] x es) {i:Nat} (hi:i < es.length):∃ y es',es[i].1=[y]∧OwL h sh y es'∧es[i].2=ells y es':=by
 obtain⟨d,hd⟩:=o.ow _ (List.getElem_mem hi);obtain⟨y,hy⟩:=Zqt hd;rw[hy] at hd;obtain⟨es',h1,h2⟩:=OwL.of hd;exact⟨y,es',hy,h1,h2⟩
def hdC (e:El):C:=e.1.headD .nil
theorem hd_map {h:HS} {s:Sh}:∀ (es:List El),(∀ e ∈ es,∃ ds,Ow h [s] e.1 ds e.2)→es.map (·.1)=ones (es.map hdC)
 | [],_=>rfl
 | e::es,he=>by
   obtain⟨ds,hd⟩:=he e (by simp);have hl:=hd.len.1;have ih:=hd_map es fun e' h'=>he e' (by simp[h']);obtain⟨cs,ls⟩:=e
   match cs,hl with
   | [y],_=>simp only[List.map_cons,ih,ones,hdC];rfl
theorem OwL.hd {h:HS} {s:Sh} {x:C} {es:List El} (o:OwL h [s] x es):es.map (·.1)=ones (es.map hdC):=hd_map es o.ow
theorem Zgi {α:Type} {f:α→Option Bool}:∀ (xs:List α) (i:Nat),(∀ x ∈ xs,∃ b,f x=some b)→Wp (forK (fun (i:Nat) (x:α) (s:Unit) next=>bindK (f x) fun v=>bif v then some (i:Int) else next ()) (fun _=>some (-1)) xs i ()) fun _=>True
 | [],i,_=>Wp.ret trivial
 | x::xs,i,h=>by
   obtain⟨b,hb⟩:=h x (by simp);have ih:=Zgi xs (i+1) fun y hy=>h y (by simp[hy]);show Wp (bindK (f x) _) _;rw[hb];cases b
   ·exact ih
   ·exact Wp.ret trivial
theorem Zj4 (g:Gr) (db:Db) (changes:List Chg) (hl:db.comps.flatten.length+db.insts.length≤2097152):Wp (Z0y g db changes) fun _=>True:=by
 unfold Z0y Z22;refine Wp.cond (fun _=>Wp.ret trivial) fun _=>Wp.cond (fun _=>Wp.ret trivial) fun _=>Wp.cond (fun _=>Wp.ret trivial) fun _=>Wp.cond (fun _=>Wp.ret trivial) fun _=>?_;refine Wp.bind (R:=fun v=>v=db.comps.flatten) (Wp.chk (by omega) (Wp.ret rfl)) fun v _ hv=>?_;subst hv;refine Wp.bind (R:=fun _=>True) (Wp.chk (by simp only[List.flatten_cons,List.flatten_nil,List.append_nil,List.length_append];exact hl) (Wp.ret trivial)) fun v _ hv=>?_;refine Wp.for (fun _ _=>True) trivial ?_ fun _ _=>Wp.ret trivial;intro i x s next _ _ _ hn;refine Wp.cond (fun _=>Wp.ret trivial) fun _=>Wp.bind (R:=fun _=>True) ?_ fun _ _ _=>Wp.cond (fun _=>Wp.ret trivial) fun _=>hn () trivial;unfold Z1q Z28;exact Wp.bind (Zgi x 0 fun r _=>⟨_,rfl⟩) fun _ _ _=>Wp.ret trivial
theorem Zhx (b:ByteArray):(b == b)=true:=by
 cases b with
 | mk d=>
   first
    | exact beq_self_eq_true _
    | (show (d == d)=true;exact beq_self_eq_true d)
theorem Zbg (a:List GV):Wp (Z0l a a) fun b=>b=true:=by
 unfold Z0l;refine Wp.cond (fun h=>by simp at h) fun _=>Wp.for (fun _ _=>True) trivial ?_ fun _ _=>Wp.ret rfl;intro i x s next hx _ _ hn;exact Wp.getN hx (Wp.cond (fun h=>by simp[Zhx] at h) fun _=>hn () trivial)
theorem Zh2 (a:List (List GV)):Wp (Z30 a a) fun b=>b=true:=by
 unfold Z30;refine Wp.cond (fun h=>by simp at h) fun _=>Wp.for (fun _ _=>True) trivial ?_ fun _ _=>Wp.ret rfl;intro i x s next hx _ _ hn;refine Wp.getN hx (Wp.bind (Zbg x) fun b _ hb=>Wp.cond (fun h=>by simp[hb] at h) fun _=>hn () trivial)
theorem Zf5 (b:ByteArray):strEq b b=true:=by
 unfold strEq
 first | exact Zhx b | simp[Zhx]
theorem Zd2 (a:List Rel):Wp (Z1b a a) fun b=>b=true:=by
 unfold Z1b;refine Wp.cond (fun h=>by simp at h) fun _=>Wp.for (fun _ _=>True) trivial ?_ fun _ _=>Wp.ret rfl;intro i x s next hx _ _ hn;refine Wp.getN hx (Wp.cond (fun h=>by simp[Zf5] at h) fun _=>Wp.bind (Zh2 x.rows) fun b _ hb=>Wp.cond (fun h=>by simp[hb] at h) fun _=>hn () trivial)
end
section
open Go
abbrev BL:=List UInt8
def ins (x:BL):List BL→List BL
 | []=>[x]
 | y::l=>if x≤y then x::y::l else y::ins x l
def sortL:List BL→List BL
 | []=>[]
 | x::l=>ins x (sortL l)
def setL (l:List BL):List BL:=Lib.compact (sortL l)
theorem Zfh (x:BL):∀ l,(ins x l).Perm (x::l)
 | []=>.refl _
 | y::l=>by
   unfold ins;split
   ·exact .refl _
   ·exact ((Zfh x l).cons y).trans (List.Perm.swap x y l)
theorem Z9d:∀ l,(sortL l).Perm l
 | []=>.refl _
 | x::l=>(Zfh x _).trans ((Z9d l).cons x)
theorem ins_pw (x:BL):∀ l,l.Pairwise (fun x y=>x≤y)→(ins x l).Pairwise fun x y=>x≤y
 | [],_=>by simp[ins]
 | y::l,h=>by
   obtain⟨h1,h2⟩:=List.pairwise_cons.1 h;unfold ins;split
   ·rename_i hx;refine List.pairwise_cons.2 ⟨fun z hz=>?_,h⟩;rcases List.mem_cons.1 hz with rfl | hz
    ·exact hx
    ·exact Std.le_trans hx (h1 z hz)
   ·rename_i hx;have hyx:y≤x:=(Std.le_total (a:=x) (b:=y)).resolve_left hx;refine List.pairwise_cons.2 ⟨fun z hz=>?_,ins_pw x l h2⟩;rcases List.mem_cons.1 ((Zfh x l).mem_iff.1 hz) with rfl | hz
    ·exact hyx
    ·exact h1 z hz
theorem Zco:∀ l,(sortL l).Pairwise fun x y=>x≤y
 | []=>.nil
 | x::l=>ins_pw x _ (Zco l)
theorem Zh9 (l:List BL):(l.mergeSort fun x y=>decide (x≤y))=sortL l:=by
 have h:=List.pairwise_mergeSort (le:=fun x y:BL=>decide (x≤y)) (fun a b c h1 h2=>by simp only[decide_eq_true_eq] at *;exact Std.le_trans h1 h2) (fun a b=>by simp only[Bool.or_eq_true,decide_eq_true_eq];exact Std.le_total) l;exact List.Perm.eq_of_pairwise (fun a b _ _ h1 h2=>Std.le_antisymm h1 h2) (h.imp fun h=>by simpa using h) (Zco l) ((List.mergeSort_perm l _).trans (Z9d l).symm)
theorem Zm1 (l:List BL) (x:BL):x ∈ sortL l↔x ∈ l:=(Z9d l).mem_iff
theorem Z7o {zs:List BL} (hs:zs.Pairwise fun x y=>x≤y):∀ m,m≤zs.length→(Lib.compactUpTo zs.toArray m).Pairwise (fun x y=>x < y)∧∀ x,x ∈ Lib.compactUpTo zs.toArray m↔∃ j,j < m∧zs[j]?=some x
 | 0,_=>by simp[Lib.compactUpTo]
 | m+1,hm=>by
   obtain⟨ih1,ih2⟩:=Z7o hs m (by omega);have hg:∀ j (hj:j < zs.length),zs.toArray[j]! = zs[j]:=fun j hj=>by rw[getElem!_pos _ j (by simpa using hj)];simp
   rw[Lib.compactUpTo_succ,hg m (by omega)];have hle:∀ i j (hi:i < zs.length) (hj:j < zs.length),i < j→zs[i]≤zs[j]:=fun i j hi hj hij=>List.pairwise_iff_getElem.1 hs i j hi hj hij
   by_cases hk:Lib.keeps zs.toArray m=true
   ·rw[if_pos hk];refine⟨List.pairwise_append.2 ⟨ih1,by simp,fun a ha b hb=>?_⟩,fun x=>?_⟩
    ·simp only[List.mem_singleton] at hb;subst hb;obtain⟨j,hj,hja⟩:=(ih2 a).1 ha;obtain⟨hjl,rfl⟩:=List.getElem?_eq_some_iff.1 hja;have hne:zs[m]≠zs[m - 1]'(by omega):=by
      simp only[Lib.keeps,decide_eq_true_eq] at hk;rcases hk with h0 | h0
      ·omega
      ·rw[hg m (by omega),hg (m - 1) (by omega)] at h0;exact h0
     have h1:zs[m - 1]'(by omega) < zs[m]:=Std.lt_of_le_of_ne (hle _ _ _ _ (by omega)) (Ne.symm hne);rcases Nat.lt_or_ge j (m - 1) with h2 | h2
     ·exact Std.lt_of_le_of_lt (hle _ _ _ (by omega) h2) h1
     ·have:j=m - 1:=by omega
      subst this;exact h1
    ·rw[List.mem_append,ih2]
     constructor
     ·rintro (⟨j,hj,hx⟩ | hx)
      ·exact⟨j,by omega,hx⟩
      ·simp only[List.mem_singleton] at hx;subst hx;exact⟨m,by omega,List.getElem?_eq_getElem _⟩
     ·rintro⟨j,hj,hx⟩;rcases Nat.lt_or_ge j m with h2 | h2
      ·exact .inl ⟨j,h2,hx⟩
      ·have:j=m:=by omega
       subst this;exact .inr (by rw[List.getElem?_eq_getElem (by omega)] at hx;cases hx;simp)
   ·rw[if_neg hk,List.append_nil];refine⟨ih1,fun x=>?_⟩;rw[ih2]
    constructor
    ·rintro⟨j,hj,hx⟩;exact⟨j,by omega,hx⟩
    ·rintro⟨j,hj,hx⟩;rcases Nat.lt_or_ge j m with h2 | h2
     ·exact⟨j,h2,hx⟩
     ·have:j=m:=by omega
      subst this;have hk2:j≠0∧zs[j]=zs[j - 1]'(by omega):=by
       simp only[Lib.keeps,decide_eq_true_eq,not_or,Decidable.not_not,hg j (show j < zs.length by omega),hg (j - 1) (show j - 1 < zs.length by omega)] at hk;exact hk
      refine⟨j - 1,by omega,?_⟩;rw[List.getElem?_eq_getElem (by omega)] at hx ⊢;rw[← hk2.2];exact hx
theorem Zm5 (l:List BL):(setL l).Pairwise (fun x y=>x < y):=(Z7o (Zco l) _ (Nat.le_refl _)).1
theorem Zf7 (l:List BL) (x:BL):x ∈ setL l↔x ∈ l:=by
 rw[setL,Lib.compact,(Z7o (Zco l) _ (Nat.le_refl _)).2,← Zm1,List.mem_iff_getElem?]
 constructor
 ·rintro⟨j,_,h⟩;exact⟨j,h⟩
 ·rintro⟨j,h⟩;exact⟨j,(List.getElem?_eq_some_iff.1 h).1,h⟩
theorem pw_ext:∀ {a b:List BL},a.Pairwise (fun x y=>x < y)→b.Pairwise (fun x y=>x < y)→(∀ x,x ∈ a↔x ∈ b)→a=b
 | [],[],_,_,_=>rfl
 | [],y::b,_,_,h=>absurd ((h y).2 (by simp)) (by simp)
 | x::a,[],_,_,h=>absurd ((h x).1 (by simp)) (by simp)
 | x::a,y::b,ha,hb,h=>by
   obtain⟨ha1,ha2⟩:=List.pairwise_cons.1 ha;obtain⟨hb1,hb2⟩:=List.pairwise_cons.1 hb;have hxy:x=y:=by
    rcases List.mem_cons.1 ((h x).1 (by simp)) with h1 | h1
    ·exact h1
    ·rcases List.mem_cons.1 ((h y).2 (by simp)) with h2 | h2
     ·exact h2.symm
     ·exact absurd (Std.lt_trans (hb1 x h1) (ha1 y h2)) Std.lt_irrefl
   subst hxy
   congr 1
   refine pw_ext ha2 hb2 fun z=>?_;have hz:=h z;simp only[List.mem_cons] at hz
   constructor
   ·intro h1;rcases hz.1 (.inr h1) with rfl | h2
    ·exact absurd (ha1 z h1) Std.lt_irrefl
    ·exact h2
   ·intro h1;rcases hz.2 (.inr h1) with rfl | h2
    ·exact absurd (hb1 z h1) Std.lt_irrefl
    ·exact h2
theorem Zo7 (a b:List BL):setL (setL a++b)=setL (a++b):=
 pw_ext (Zm5 _) (Zm5 _) fun x=>by rw[Zf7,Zf7,List.mem_append,List.mem_append,Zf7]
theorem Zht (zs:List BL):(Lib.compact zs).length≤zs.length:=by
 unfold Lib.compact Lib.compactUpTo;rw[List.length_map];exact Nat.le_trans (List.length_filter_le _ _) (by simp)
end
section
open Go Go.Am
open Go.RowKit (Below)
def scell (s:ByteArray):List C:=[.d (.str s)]
def bys (s:ByteArray):List UInt8:=s.data.toList
def ofBys (l:List UInt8):ByteArray:=⟨l.toArray⟩
def sortB (xs:List ByteArray):List ByteArray:=(sortL (xs.map bys)).map ofBys
def compB (xs:List ByteArray):List ByteArray:=(Lib.compact (xs.map bys)).map ofBys
theorem Z8t (xs:List ByteArray):(sortB xs).length=xs.length:=by simp[sortB,(Z9d _).length_eq]
theorem Z8u {us:List ByteArray}:AllC 1 (us.map scell):=by
 intro x hx;obtain⟨y,_,rfl⟩:=List.mem_map.1 hx;rfl
theorem Zay {us:List ByteArray} {sp:List C}:(rowBox (us.map scell) sp).length=us.length+sp.length:=by
 have:=Z04 (sp:=sp) (Z8u (us:=us))
 simpa using this
theorem Zg4 {us:List ByteArray} {sp:List C} {i:Nat} (hi:i < us.length):(rowBox (us.map scell) sp)[i]?=some (.d (.str us[i])):=by
 have h:=Zcq (sp:=sp) (f:=0) (k:=i) (x:=scell us[i]) (Z8u (us:=us)) (by simp[hi]) (by omega);simp only[Nat.mul_one,Nat.add_zero,List.drop_zero] at h;have h2:((rowBox (us.map scell) sp).drop i)[0]?=some (.d (.str us[i])):=by rw[h];rfl
 simpa[List.getElem?_drop] using h2
theorem Zg3 {us vs:List ByteArray} {sp:List C} {i:Nat} (hl:us.length=vs.length) (hi:us.length≤i):(rowBox (us.map scell) sp)[i]?=(rowBox (vs.map scell) sp)[i]?:=by
 have h:∀ us:List ByteArray,us.length≤i→(rowBox (us.map scell) sp)[i]?=sp[i - us.length]?:=fun us hu=>by
  have h1:=Z5p (n:=1) (k:=us.length) (sp:=sp) (Z8u (us:=us)) (by simp);have h2:(rowBox (us.map scell) sp)[i]?=((rowBox (us.map scell) sp).drop us.length)[i - us.length]?:=by rw[List.getElem?_drop];congr 1;omega
  rw[h2,show us.length=us.length * 1 by omega,h1];have e:List.drop us.length (us.map scell)=[]:=List.drop_of_length_le (by simp);simp[rowBox,e]
 rw[h us hi,h vs (by omega),hl]
theorem Zmk {Γ:Ctx} {h:HS} {μ:Mem} {w w':World} (hI:Inv Γ h μ w) {l:Lab} {cs cs':List C} (hb:h.box l=some cs) {b n:Nat} {T:TypeId} {conc':Array Value} (hloc:μ.loc l=some (some b,n))
  (ho:w'.os=w.os) (ht:w'.tape=w.tape) (hou:w'.output=w.output) (hsz:w.heap.size≤w'.heap.size)
  (hoth:∀ k,k < w.heap.size→k≠b→w'.heap[k]?=w.heap[k]?) (hh:w'.heap[b]?=some (.cells conc' T (0,0))) (hc:RepCs μ cs' conc'):Inv Γ (h.setBox l cs') μ w':=by
 obtain⟨b',n',T',conc0,hl',hbase,hbh,_,hnone⟩:=hI.box l cs hb;rw[hloc] at hl';simp only[Option.some.injEq,Prod.mk.injEq] at hl';obtain⟨rfl,rfl⟩:=hl';have hlive:h.live l:=.inl (by simp[hb]);have hsz0:=hI.below.size;refine⟨hI.cell.of_heap (fun b' o v hm=>hoth b' (hI.cell.lt hm) ?_),hI.tmp,hI.tcell.of_heap (fun b' o v hm=>hoth b' (hI.tcell.lt hm) ?_),hI.told,hI.ext,hI.old,?_,?_,?_,?_,hI.lt,?_⟩
 ·rintro rfl;rw[hnone o] at hm;cases hm
 ·rintro rfl;have:=hI.told _ _ _ hm;omega
 ·exact hI.below.trans ⟨ho,ht,hou,hsz,fun k hk=>hoth k (by omega) (by omega)⟩
 ·intro k cs0 hk
  by_cases e:k=l
  ·subst e
   have:cs0=cs':=by simpa[HS.setBox] using hk.symm
   subst this;exact⟨b,n,T,conc',hloc,hbase,hh,hc,hnone⟩
  ·have hk':h.box k=some cs0:=by simpa[HS.setBox,e] using hk
   obtain⟨b1,n1,T1,conc1,h1,h2,h3,h4,h5⟩:=hI.box k cs0 hk';have hne:b1≠b:=by
    rintro rfl;exact e (hI.inj k l b1 n1 n (.inl (by simp[hk'])) hlive h1 hloc)
   exact⟨b1,n1,T1,conc1,h1,h2,by rw[hoth _ (Z24 h3) hne];exact h3,h4,h5⟩
 ·intro k es n1 hk;have hk':h.arr k=some (n1,es):=by simpa[HS.setBox] using hk
  obtain⟨gc,h1,h2⟩:=hI.arr k es n1 hk';refine⟨gc,h1,h2.keep (fun g hg=>hoth g ?_ ?_) (fun _ _ _ h=>h)⟩
  ·obtain⟨_,T1,cur,hq,_⟩:=h2.2 g hg;exact Z24 hq
  ·rintro rfl;obtain⟨g1,c1⟩:=gc;simp at hg;subst hg;have e:=hI.inj k l g c1 n (.inr (by simp[hk'])) hlive h1 hloc;subst e;exact hI.both k (by simp[hb]) (by simp[hk'])
 ·intro k k' b1 n1 n2 hk hk' h1 h2;have up:∀ k,(h.setBox l cs').live k→h.live k:=fun k hk=>by
   by_cases e:k=l
   ·subst e;exact hlive
   ·rcases hk with hk | hk
    ·left;simpa[HS.setBox,e] using hk
    ·right;simpa[HS.setBox] using hk
  exact hI.inj k k' b1 n1 n2 (up k hk) (up k' hk') h1 h2
 ·intro k h1 h2;have h2':h.arr k≠none:=by simpa[HS.setBox] using h2
  by_cases e:k=l
  ·subst e;exact hI.both k (by simp[hb]) h2'
  ·exact hI.both k (by simpa[HS.setBox,e] using h1) h2'
theorem Zi2 {μ:Mem} {v:V} {vals:Array Value} (h:Ze3 μ [v] vals):∃ u,vals=#[u]∧RepV μ v u:=by
 obtain⟨hs,hg⟩:=h;obtain⟨u,h0,r0⟩:=hg 0 _ rfl;refine⟨u,Array.ext_getElem? fun i=>?_,r0⟩
 match i with
 | 0=>simpa using h0
 | i+1=>rw[Array.getElem?_eq_none (by simp at hs;omega)];simp
theorem Zm7 {Γ:Ctx} {h:HS} {μ:Mem} {w:World} (hI:Inv Γ h μ w) {l:Lab} {ss:List ByteArray} {sp:List C} (hb:h.box l=some (rowBox (ss.map scell) sp)) {b n:Nat} (hloc:μ.loc l=some (some b,n)) :
  b < w.heap.size∧∃ T conc,w.heap[b]?=some (.cells conc T (0,0))∧RepCs μ (rowBox (ss.map scell) sp) conc∧Go.Sort.Holds encStr w b 0 (ss.map bys).toArray:=by
 obtain⟨b',n',T,conc,hl',hbase,hh,hr,_⟩:=hI.box l _ hb;rw[hloc] at hl';simp only[Option.some.injEq,Prod.mk.injEq] at hl';obtain⟨rfl,rfl⟩:=hl';refine⟨Z24 hh,T,conc,hh,hr,fun j hj=>?_⟩;have hj':j < ss.length:=by simpa using hj
 obtain⟨u,hu,ru⟩:=hr.2 j _ (Zg4 hj');have hus:u=.string ss[j]:=RepD.str_inv ru;subst hus;refine⟨?_,?_⟩
 ·simp only[World.cell?,hh,Nat.zero_add];simp only[Option.isSome_none,Bool.false_eq_true,if_false,hu];rw[getElem!_pos _ j hj];simp[encStr,bys]
 ·simp[World.frozen?,hh]
theorem Zma {μ:Mem} {ss rs:List ByteArray} {sp:List C} {conc:Array Value} (hr:RepCs μ (rowBox (ss.map scell) sp) conc) (hl:rs.length=ss.length) :
  RepCs μ (rowBox (rs.map scell) sp) (Go.Sort.putCells encStr 0 (rs.map bys).toArray conc):=by
 refine⟨by simp only[Go.Sort.putCells,Array.size_mapIdx,hr.1,Zay,hl],fun i c hc=>?_⟩
 by_cases hi:i < rs.length
 ·rw[Zg4 hi] at hc;cases hc;have hic:i < conc.size:=by rw[hr.1,Zay];omega
  refine⟨.string rs[i],?_,RepD.str _⟩;simp only[Go.Sort.putCells,Array.getElem?_mapIdx,Array.getElem?_eq_getElem hic,Option.map_some];rw[if_pos (by simp;omega),Nat.sub_zero,getElem!_pos _ i (by simpa using hi)];simp[encStr,bys]
 ·rw[Zg3 hl (by omega)] at hc;obtain⟨u,hu,ru⟩:=hr.2 i c hc;refine⟨u,?_,ru⟩;simp only[Go.Sort.putCells,Array.getElem?_mapIdx,hu,Option.map_some];rw[if_neg (by simp;omega)]
theorem Zie {w:World} {b n:Nat} {T:TypeId} {conc:Array Value} {d:Array (List UInt8)} {os:Array Obj} (hb:b < w.heap.size) (hh:w.heap[b]?=some (.cells conc T (0,0))) :
  (Go.Sort.grow (Go.Sort.putRow encStr (Go.Sort.ahead w n) b 0 d) os).heap[b]?=some (.cells (Go.Sort.putCells encStr 0 d conc) T (0,0)) ∧
  ∀ k,k < w.heap.size→k≠b→(Go.Sort.grow (Go.Sort.putRow encStr (Go.Sort.ahead w n) b 0 d) os).heap[k]?=w.heap[k]?:=by
 refine⟨?_,fun k hk hne=>?_⟩
 ·rw[Go.Sort.heap_grow_old _ _ (by simpa using hb)];simp[Go.Sort.putRow,Go.Sort.mapBlock,Go.Sort.ahead,Array.getElem?_modify,hh,Go.Sort.onCells]
 ·rw[Go.Sort.heap_grow_old _ _ (by simpa using hk)];simp[Go.Sort.putRow,Go.Sort.mapBlock,Go.Sort.ahead,Array.getElem?_modify,Ne.symm hne]
theorem Zbs (h:HS) (c:C) (ss:List ByteArray) (hm:MR h 1 c (ss.map scell)) (K:V→HS→Prop)
  (hk:∀ h',MR h' 1 c ((sortB ss).map scell)→Same h h' (labs c)→K (.tup []) h'):HSpec Tryz.prog 63 [.one c] h K:=by
 refine⟨⟨_,Tryz.func63,by kernel_rfl,by kernel_rfl⟩,fun Γ μ w vals hI hv=>?_⟩;obtain⟨u,rfl,hu⟩:=Zi2 hv;have hret:RepV μ (.tup []) (.tuple #[]):=⟨#[],rfl,rfl,fun i x hx=>by simp at hx⟩;have hz:∀ a:Option Addr,ss=[]→Calls Tryz.prog 63 #[.slice a 0 0] w fun e w'=>∃ u v h' μ',e=.returned u∧K v h'∧Inv Γ h' μ' w'∧RepV μ' v u∧Mem.Le μ μ':=fun a hs=>by
  refine (Any.slices_Sort_string_none Tryz.lays190 a 0 w).mono ?_;rintro e w' ⟨rfl,rfl⟩;exact⟨_,_,h,μ,rfl,hk h (by subst hs;exact hm) .refl,hI,hret,.refl μ⟩
 rcases hm.2.2 with ⟨h1,rfl | rfl⟩ | ⟨l,cap,sp,rfl,hb,hcap⟩
 ·obtain rfl:u=.slice none 0 0:=hu;exact hz _ (by simpa using h1)
 ·obtain⟨a,rfl⟩:∃ a,u=.slice a 0 0:=hu;exact hz _ (by simpa using h1)
 ·obtain⟨b,k,hloc,rfl,hn⟩:∃ b k,μ.loc l=some (some b,k)∧u=.slice (some ⟨b,0,none⟩) (ss.map scell).length cap∧(ss.map scell).length≤cap:=hu;obtain⟨hbl,T,conc,hh,hr,hH⟩:=Zm7 hI hb hloc;have hlim:=hm.2.1;have e1:(ss.map scell).length=(ss.map bys).length:=by simp
  rw[e1];refine (Any.slices_Sort_string Tryz.lays190 b 0 cap (ss.map bys) w hH hbl (by simp only[List.length_map] at hlim ⊢;have:LIM=2097152:=rfl;omega)).mono ?_;rintro e w' ⟨rfl,n,os,rfl⟩;have hs2:((ss.map bys).mergeSort fun x y=>decide (x≤y))=(sortB ss).map bys:=by
   simp only[sortB,List.map_map,Zh9];exact (List.map_id _).symm
  rw[hs2];obtain⟨g1,g2⟩:=Zie (n:=n) (d:=((sortB ss).map bys).toArray) (os:=os) hbl hh;refine⟨_,_,h.setBox l (rowBox ((sortB ss).map scell) sp),μ,rfl,hk _ ?_ (Same.refl.setBox (.inl (by simp[labs]))),Zmk hI hb hloc rfl rfl rfl (by simp) g2 g1 (Zma hr (Z8t ss)),hret,.refl μ⟩;refine⟨Z8u,by simpa[Z8t] using hlim,.inr ⟨l,cap,sp,by simp[Z8t],by simp[HS.setBox],?_⟩⟩;rw[Zay] at hcap ⊢;rw[Z8t];exact hcap
theorem Zgp (xs:List ByteArray):(compB xs).length≤xs.length:=by
 have:=Zht (xs.map bys)
 simpa[compB] using this
theorem Z9s (h:HS) (c:C) (ss:List ByteArray) (hm:MR h 1 c (ss.map scell)) (K:V→HS→Prop)
  (hk:∀ c' h',MR h' 1 c' ((compB ss).map scell)→Same h h' (labs c)→(∀ l ∈ labs c',l ∈ labs c)→K (.one c') h'):HSpec Tryz.prog 64 [.one c] h K:=by
 refine⟨⟨_,Tryz.func64,by kernel_rfl,by kernel_rfl⟩,fun Γ μ w vals hI hv=>?_⟩;obtain⟨u,rfl,hu⟩:=Zi2 hv;have hz:∀ a:Option Addr,ss=[]→RepV μ (.one c) (.slice a 0 0)→Calls Tryz.prog 64 #[.slice a 0 0] w fun e w'=>∃ u v h' μ',e=.returned u∧K v h'∧Inv Γ h' μ' w'∧RepV μ' v u∧Mem.Le μ μ':=fun a hs hr=>by
  refine (Any.slices_Compact_string_empty Tryz.lays194 a 0 w).mono ?_;rintro e w' ⟨rfl,rfl⟩;exact⟨_,_,h,μ,rfl,hk c h (by subst hs;exact hm) .refl fun _ h=>h,hI,hr,.refl μ⟩
 rcases hm.2.2 with ⟨h1,rfl | rfl⟩ | ⟨l,cap,sp,rfl,hb,hcap⟩
 ·have hu0:=hu;obtain rfl:u=.slice none 0 0:=hu;exact hz _ (by simpa using h1) hu0
 ·obtain⟨a,rfl⟩:∃ a,u=.slice a 0 0:=hu;exact hz _ (by simpa using h1) ⟨a,rfl⟩
 ·obtain⟨b,k,hloc,rfl,hn⟩:∃ b k,μ.loc l=some (some b,k)∧u=.slice (some ⟨b,0,none⟩) (ss.map scell).length cap∧(ss.map scell).length≤cap:=hu;obtain⟨hbl,T,conc,hh,hr,hH⟩:=Zm7 hI hb hloc;have hlim:=hm.2.1;have e1:(ss.map scell).length=(ss.map bys).length:=by simp
  rw[e1] at hn ⊢;refine (Any.slices_Compact_string Tryz.lays194 b 0 cap (ss.map bys) w hH (by simp only[List.length_map] at hlim ⊢;have:LIM=2097152:=rfl;omega) hn).mono ?_;rintro e w' ⟨rfl,n,rfl⟩;have hcl:=Zgp ss;have hcl2:(Lib.compact (ss.map bys)).length=(compB ss).length:=by simp[compB]
  have hs2:Lib.compact (ss.map bys)++List.replicate ((ss.map bys).length - (Lib.compact (ss.map bys)).length) []=(compB ss++List.replicate (ss.length - (compB ss).length) (ofBys [])).map bys:=by
   rw[List.map_append,List.map_replicate,hcl2,List.length_map]
   congr 1
   simp only[compB,List.map_map];exact (List.map_id _).symm
  rw[hs2];generalize hrs:compB ss++List.replicate (ss.length - (compB ss).length) (ofBys [])=rs;have hrl:rs.length=ss.length:=by rw[← hrs];simp;omega
  obtain⟨g1,g2⟩:=Zie (n:=n) (d:=(rs.map bys).toArray) (os:=#[]) hbl hh;rw[Go.Sort.grow_empty] at g1 g2;refine⟨_,.one (.mrow l 0 (compB ss).length cap),h.setBox l (rowBox (rs.map scell) sp),μ,rfl,hk _ _ ?_ (Same.refl.setBox (.inl (by simp[labs]))) (by simp[labs]),Zmk hI hb hloc rfl rfl rfl (by simp) g2 g1 (Zma hr hrl),?_,.refl μ⟩
  ·have hx:rowBox (rs.map scell) sp=rowBox ((compB ss).map scell) (((List.replicate (ss.length - (compB ss).length) (ofBys [])).map scell).flatten++sp):=by
    rw[← hrs];simp[rowBox]
   refine⟨Z8u,by simp only[List.length_map] at hlim ⊢;omega,.inr ⟨l,cap,_,by simp,(Z5z.trans (if_pos rfl)).trans (congrArg some hx),?_⟩⟩;rw[← hx];rw[Zay] at hcap ⊢;rw[hrl];exact hcap
  ·refine⟨b,k,hloc,by rw[hcl2],?_⟩;simp only[List.length_map] at hn;omega
end
section
open Go Go.Am
theorem Z93 (h:HS) (c:C) (xs:List (List C)) (hr:RowAt h 4 c xs) (K:V→HS→Prop)
  (hk:∀ c' h',MR h' 4 c' xs→Same h h' []→(∀ l ∈ labs c',h.ep≤l.1∧l.1 < h'.ep)→BoxLe h h'→K (.one c') h') :
  HSpec Tryz.prog 52 [.one c] h K:=by
 refine HSpec.good Tryz.func52 rfl (by kernel_rfl) fun hg=>?_;refine HSpec.of_vc Tryz.func52 rfl (by kernel_rfl) (n:=8) rfl rfl (by simp) ?_;simp;refine Zbq Z8s hr (fun h1=>?_) ?_
 ·subst h1;simp;exact hk _ _ MR.nil .refl (by simp[labs]) (BoxLe.refl h)
 ·simp;refine Z9j (by simp) ?_;simp;refine Zc6 Z8s (by kernel_rfl) (by decide) (by decide) hr (fun c' h' hm hs hl=>?_);simp;exact hk _ _ hm hs hl (hs.boxLe hg)
abbrev ChSh:List Sh:=[.d,.d,RowSh,RowSh]
def ChL (cs:List Chg):Prop:=cs.length≤2097152∧∀ x ∈ cs,x.key.length≤2097152∧x.row.length≤2097152
def chc (x:Chg):List C:=x.enc.map C.d
abbrev QC:=List C × List D × List Lab
theorem Zis {cs:List Chg} {i:Nat} (hi:i < cs.length):(cs.drop i).map chc=chc cs[i]::(cs.drop (i+1)).map chc:=by
 rw[List.drop_eq_getElem_cons hi,List.map_cons]
theorem Zb3 (h:HS) (x:C) (cs:List Chg) (hx:RowAt h 4 x (cs.map chc)) (hok:ChL cs) (K:V→HS→Prop)
  (hk:∀ c h',GrowP h h' ChSh c (cs.map Chg.enc)→BoxLe h h'→K (.one c) h') :
  HSpec Tryz.prog 26 [.one x] h K:=by
 refine HSpec.good Tryz.func26 rfl (by kernel_rfl) fun hg=>?_;refine HSpec.of_vc Tryz.func26 rfl (by kernel_rfl) (n:=34) rfl rfl (by simp) ?_;simp;refine Z01 (Z93 _ x (cs.map chc) hx _ fun c h0 hm0 hs0 hl0 hb0=>?_);simp;refine MR.lenK hm0 ?_;simp;refine Wait.rounds (fun n e h'=>∃ (i:Nat) (qs:List QC),n=cs.length - i∧i≤cs.length∧qs.length=i∧e.n=34∧e.get 3=.one c∧e.get 8=.one (.d (.int .i64 (cs.length:Int)))∧e.get 9=.one (.d (.int .i64 (i:Int))) ∧
  MR h' 4 c (qs.map (·.1)++(cs.drop i).map chc)∧qs.map (·.2.1)=(cs.take i).map Chg.enc∧(∀ q ∈ qs,Ow h' ChSh q.1 q.2.1 q.2.2)∧(labs c++qs.flatMap (·.2.2)).Nodup∧(∀ k ∈ labs c++qs.flatMap (·.2.2),h.ep≤k.1∧k.1 < h'.ep)∧Same h h' []) cs.length
  ⟨0,[],rfl,by omega,rfl,by simp,by simp,by simp,by simp,by simpa using hm0,by simp,by simp,by simpa using Z1r,by simpa using hl0,hs0⟩ ?_
 rintro n e h' ⟨i,qs,rfl,hil,hql,en,e3,e8,e9,hm,hds,how,hnd,hlb,hs⟩;simp[en,e3,e8,e9];refine Z13 (fun hlt=>?_) (fun hge=>?_)
 ·have hlt':i < cs.length:=by omega
  have hw:IntKind.i64.wrap ((i:Int)+1)=(i:Int)+1:=IntWalk.i64_in _ (by have:=hok.1;omega);obtain⟨ys,hys⟩:∃ ys,ys=qs.map (·.1)++(cs.drop i).map chc:=⟨_,rfl⟩;rw[← hys] at hm;have hyl:ys.length=cs.length:=by rw[hys];simp;omega
  have hx0:ys[i]?=some (chc cs[i]):=by rw[hys,Zis hlt',List.getElem?_append_right (by simp;omega)];simp[hql]
  obtain⟨l,cap,sp,rfl,hb,hcap⟩:=hm.block (by omega);have hall:=hm.1;rw[hyl] at e3;have r2:=Z5i (sp:=sp) (f:=2) (m:=1) hall hx0 (by omega);have r3:=Z5i (sp:=sp) (f:=3) (m:=1) hall hx0 (by omega);have hk0:∀ k,cs[i]?=some k→k.key.length≤2097152∧k.row.length≤2097152:=fun k hk=>hok.2 k (List.mem_of_getElem? hk);have hci:cs[i]?=some cs[i]:=List.getElem?_eq_getElem hlt';have hdc:=Zis hlt';generalize cs[i]=w at hci hx0 r2 r3 hdc;obtain⟨hw1,hw3⟩:=hk0 w hci;simp[chc] at r2 r3;have hll:l.1 < h'.ep:=(hlb l (by simp[labs])).2;simp[en,e3,e8,e9];refine Wait.cut (Plan.then_ [0,1,2,3,4,5,6,7,8,10,11,12,13,14,9,15,16,17,18,19,20,21] .done) follows (by kernel_rfl) (fun e1 h1=>e1.n=34∧e1.get 3=.one (.mrow l 0 cs.length cap)∧e1.get 8=.one (.d (.int .i64 (cs.length:Int)))∧e1.get 9=.one (.d (.int .i64 (i:Int))) ∧
   ∃ c1 c2,h1.box l=some (rowBox (ys.set i [.d (.int .i64 w.kind),.d (.str w.table),c1,c2]) sp)∧Ow h1 [RowSh,RowSh] [c1,c2] [.sl (w.key.map GV.enc),.sl (w.row.map GV.enc)] (labs c1++labs c2)∧(labs c1++labs c2).Nodup∧(∀ k ∈ labs c1++labs c2,h'.ep≤k.1∧k.1 < h1.ep)∧Same h' h1 [l]) ?_ ?_
  ·simp[en,e3,e8,e9,hlt',hb,r2,r3,Plan.then_,vcPlan,Z02,Z00,callKind];refine Z01 (Z3u h' w.key hw1 _ fun c1 h1 o1 m1 b1=>?_);simp[en,e3,e8,e9,hlt',hb,r2,r3,Plan.then_,vcPlan,Z02,Z00,callKind];refine⟨b1,?_⟩;refine Z01 (Z3u h1 w.row hw3 _ fun c2 h2 o2 m2 b2=>?_);have hs2:=o1.same.trans o2.same;have hb2:h2.box l=some (rowBox ys sp):=by rw[hs2.2 l hll (by simp)];exact hb
   simp[en,e3,e8,e9,hlt',hb2,r2,r3,Plan.then_,vcPlan,Z02,Z00,callKind];have hrl:=Z6m (sp:=sp) hall (k:=i) (by omega);have q1:=Z71 (sp:=sp) (f:=2) (vs:=[c1]) hall hx0 (by simp);have e1:Z03 (chc w) 2 [c1]=[.d (.int .i64 w.kind),.d (.str w.table),c1,.d (.sl (w.row.map GV.enc))]:=rfl;rw[e1] at q1;have q2:=Z71 (sp:=sp) (f:=3) (vs:=[c2]) (hall.set (k:=i) (x:=[.d (.int .i64 w.kind),.d (.str w.table),c1,.d (.sl (w.row.map GV.enc))]) rfl) (by rw[List.getElem?_set_self (by omega)]) (by simp);have e2:Z03 [.d (.int .i64 w.kind),.d (.str w.table),c1,.d (.sl (w.row.map GV.enc))] 3 [c2]=[.d (.int .i64 w.kind),.d (.str w.table),c1,c2]:=rfl;rw[e2,List.set_set] at q2;have hn1:=o1.new;have hn2:=o2.new;have hep1:=o1.same.1;have hep2:=o2.same.1;refine⟨b2,by omega,by rw[Z06 (by simp;omega)];omega,CutK.of ⟨by simp[en],by simp[e3],by simp[e8],by simp[e9],c1,c2,by rw[q1,q2];simp,?_,?_,?_,?_⟩⟩
   ·refine ((o1.ow.frame fun k hk=>?_).join (o2.ow.frame fun k hk=>?_))
    ·have:=hn1 k hk
     have hne:k≠l:=fun h9=>by subst h9;omega
     simp[hne,o2.same.2 k this.2 (by simp)]
    ·have:=hn2 k hk
     have hne:k≠l:=fun h9=>by subst h9;omega
     simp[hne]
   ·exact List.nodup_append.2 ⟨o1.nd,o2.nd,fun a ha b hb he=>by subst he;have:=hn1 a ha;have:=hn2 a hb;omega⟩
   ·intro k hk;simp;rcases List.mem_append.1 hk with h9 | h9
    ·have:=hn1 k h9;omega
    ·have:=hn2 k h9;omega
   ·exact ((hs2.mono (by simp)).setBox (.inl (by simp))).setBox (.inl (by simp))
  ·rintro e1 h1 ⟨en1,e31,e81,e91,c1,c2,hb1,ho,hnd2,hnew,hs1⟩;simp[en1,e91,hw];have hl0:=hlb l (by simp[labs]);have hep1:=hs1.1;have hset:ys.set i [.d (.int .i64 w.kind),.d (.str w.table),c1,c2]=(qs++[(([.d (.int .i64 w.kind),.d (.str w.table),c1,c2],w.enc,labs c1++labs c2):QC)]).map (·.1)++(cs.drop (i+1)).map chc:=by
    rw[hys,hdc,List.set_append_right _ _ (by simp;omega)];simp[hql]
   have ha2:AllC 4 (ys.set i [.d (.int .i64 w.kind),.d (.str w.table),c1,c2]):=hall.set rfl;have hold:∀ k ∈ qs.flatMap (·.2.2),k≠l:=fun k hk h9=>(List.nodup_append.1 hnd).2.2 l (by simp[labs]) k hk h9.symm;refine Back.of (n':=cs.length - (i+1)) (by omega) ⟨i+1,qs++[([.d (.int .i64 w.kind),.d (.str w.table),c1,c2],w.enc,labs c1++labs c2)],rfl,by omega,by simp[hql],by simp[en1],by simp[e31,hyl],by simp[e81],by simp,?_,?_,?_,?_,?_,?_⟩
   ·rw[← hset];refine⟨ha2,by rw[List.length_set];exact hm.2.1,.inr ⟨l,cap,sp,by simp,hb1,?_⟩⟩;rw[Z04 ha2,List.length_set,← Z04 hall];exact hcap
   ·rw[List.take_succ_eq_append_getElem hlt'];simp only[List.map_append,hds,List.map_cons,List.map_nil];rw[(List.getElem?_eq_some_iff.1 hci).2]
   ·intro q hq;rcases List.mem_append.1 hq with h9 | h9
    ·refine (how q h9).frame fun k hk=>hs1.2 k (hlb k ?_).2 ?_
     ·exact List.mem_append_right _ (List.mem_flatMap.2 ⟨q,h9,hk⟩)
     ·simp;exact hold k (List.mem_flatMap.2 ⟨q,h9,hk⟩)
    ·simp only[List.mem_singleton] at h9;subst h9;exact .data rfl (.data rfl ho)
   ·rw[List.flatMap_append,← List.append_assoc];refine List.nodup_append.2 ⟨hnd,by simpa using hnd2,fun a ha b hb he=>?_⟩;subst he
    have:=hlb a ha
    have:=hnew a (by simpa using hb)
    omega
   ·intro k hk;rw[List.flatMap_append,← List.append_assoc] at hk;rcases List.mem_append.1 hk with h9 | h9
    ·have:=hlb k h9;omega
    ·have:=hnew k (by simpa using h9)
     have:=hs.1
     omega
   ·exact hs.trans' hs1 fun k hk=>by simp at hk;subst hk;exact .inr hl0.1
 ·have hie:i=cs.length:=by omega
  subst hie;simp[en,e3];simp at hm;exact hk _ _ ⟨qs,⟨hm,by simpa using hds,how⟩,hnd,hlb,hs⟩ (hs.boxLe hg)
abbrev TxSh:List Sh:=[.d,InstSh,.r [.d],.r ChSh]
theorem Zg2 (us:List ByteArray):(us.map encS).map (·.map C.d)=us.map scell:=by rw[List.map_map];rfl
theorem str_ow {h:HS} {c:C} {ss:List ByteArray} (m:MR h 1 c (ss.map scell)):Ow h [.r [.d]] [c] [.sl (ss.map encS)] (labs c):=by
 have hm:MR h 1 c ((ss.map encS).map (·.map C.d)):=by rw[Zg2];exact m
 have:=Ow.rowD (ss:=[]) (cs:=[]) (ds:=[]) (ls:=[]) hm (es:=[.d]) rfl (by intro t ht;obtain⟨s,_,rfl⟩:=List.mem_map.1 ht;rfl) .nil
 simpa using this
theorem tx_own {h Ha Hb Hc Hd Hf Hg:HS} {ci c1 c2 c4:C} {inst:List Rel} {ss:List ByteArray} {cs:List Chg} {v:Int} (s0:Same h Ha []) (g1:GrowP Ha Hb RelSh ci (inst.map Rel.enc)) (s1:Same Hb Hc []) (m2:MR Hd 1 c2 (ss.map scell)) (sd:Same Hc Hd (labs c1)) (hl2:∀ k ∈ labs c2,k ∈ labs c1)
  (hl1:∀ k ∈ labs c1,h.ep≤k.1∧k.1 < Ha.ep) (s2:Same Hd Hf []) (g2:GrowP Hf Hg ChSh c4 (cs.map Chg.enc)):∃ ls,OwN h Hg TxSh [.d (.int .i64 v),ci,c2,c4] (Txn.enc ⟨v,inst,ss,cs⟩) ls:=by
 have e1:=g1.same.1;have e2:=s1.1;have e3:=sd.1;have e4:=s2.1;have e5:=g2.same.1;have e0:=s0.1;obtain⟨li,oi⟩:=g1.ow;obtain⟨lc,oc⟩:=g2.ow;have hi:∀ k ∈ li,Hg.box k=Hb.box k:=fun k hk=>by
  have:=oi.new k hk
  rw[g2.same.2 k (by omega) (by simp),s2.2 k (by omega) (by simp),sd.2 k (by omega) fun h9=>by have:=hl1 k h9;omega,s1.2 k (by omega) (by simp)]
 have h2:∀ k ∈ labs c2,Hg.box k=Hd.box k:=fun k hk=>by
  have:=hl1 k (hl2 k hk)
  rw[g2.same.2 k (by omega) (by simp),s2.2 k (by omega) (by simp)]
 refine⟨li++(labs c2++lc),.data rfl ((oi.ow.frame hi).join ((str_ow (m2.frame h2)).join oc.ow)),?_,?_,?_⟩
 ·rw[List.nodup_append,List.nodup_append];refine⟨oi.nd,⟨Z1r,oc.nd,fun a ha b hb he=>?_⟩,fun a ha b hb he=>?_⟩
  ·subst he;have:=hl1 a (hl2 a ha);have:=oc.new a hb;omega
  ·subst he
   have:=oi.new a ha
   rcases List.mem_append.1 hb with h9 | h9
   ·have:=hl1 a (hl2 a h9);omega
   ·have:=oc.new a h9;omega
 ·intro k hk;rcases List.mem_append.1 hk with h9 | h9
  ·have:=oi.new k h9;omega
  ·rcases List.mem_append.1 h9 with h9 | h9
   ·have:=hl1 k (hl2 k h9);omega
   ·have:=oc.new k h9;omega
 ·exact (((((s0.trans g1.same).trans s1).trans' sd fun k hk=>.inr (hl1 k hk).1).trans s2).trans g2.same)
theorem Zou (a b:List Chg):[a.map Chg.enc,b.map Chg.enc].flatten.map (·.map C.d)=(a++b).map chc:=by
 show (a.map Chg.enc++(b.map Chg.enc++[])).map _=_;rw[List.append_nil,← List.map_append,List.map_map];rfl
theorem OwN.out {h H0 hd:HS} {l:Lab} {ss:List Sh} {cs xs:List C} {ds:List D} {ls:List Lab} (o:OwN H0 hd ss cs ds ls) (s:Same h H0 []) (hl:l.1 < H0.ep) (hl2:h.ep≤l.1):OwN h (hd.setBox l xs) ss cs ds ls:=by
 refine⟨o.ow.frame fun k hk=>?_,o.nd,fun k hk=>?_,(s.trans o.same).setBox (.inr hl2)⟩
 ·have:=(o.new k hk).1
  have hne:k≠l:=fun he=>by subst he;omega
  simp[hne]
 ·have:=o.new k hk
  have:=s.1
  simp;omega
def ExOK (t:Txn) (tables:List ByteArray) (chs:List Chg):Prop:=InstL t.snapshot∧ChL (t.changes++chs)∧t.tables.length+tables.length≤2097152
def extF (t:Txn) (tables:List ByteArray) (chs:List Chg):Txn:=⟨t.version,t.snapshot,compB (sortB (t.tables++tables)),t.changes++chs⟩
set_option maxHeartbeats 2000000 in
theorem Zcb (h:HS) (t:Txn) (tables:List ByteArray) (chs:List Chg) (hok:ExOK t tables chs) (K:V→HS→Prop)
  (hk:∀ cs ls h',OwN h h' TxSh cs (extF t tables chs).enc ls→BoxLe h h'→K (.agg cs) h') :
  HSpec Tryz.prog 43 [.agg (t.enc.map C.d),.one (.d (.sl (tables.map encS))),.one (.d (.sl (chs.map Chg.enc)))] h K:=by
 refine HSpec.good Tryz.func43 rfl (by kernel_rfl) fun hg=>?_;refine HSpec.of_vc Tryz.func43 rfl (by kernel_rfl) (n:=29) rfl rfl (by simp) ?_;obtain⟨ver,inst,tabs,chs0⟩:=t;obtain⟨hi,hc,ht⟩:=hok;simp only at hi hc ht;simp;refine Z01 (Z8k _ _ [tabs.map encS,tables.map encS] (.inr ⟨_,rfl⟩) (fun xs hxs x hx=>?_) (by simpa using ht) _ fun c1 h1 m1 s1 l1=>?_)
 ·simp only[List.mem_cons,List.not_mem_nil,or_false] at hxs;rcases hxs with rfl | rfl<;>obtain⟨s,_,rfl⟩:=List.mem_map.1 hx<;>rfl
 have m1':MR h1 1 c1 ((tabs++tables).map scell):=by rw[← Zg2,List.map_append];simpa using m1
 simp;refine Z01 (Zbs _ c1 _ m1' _ fun h2 m2 s2=>?_);simp;have hH0:Same h (((h.setBox (h.ep,48) [C.d (D.int IntKind.i64 ver),C.d (D.sl (List.map Rel.enc inst)),C.d (D.sl (List.map encS tabs)),C.d (D.sl (List.map Chg.enc chs0))]).next.setBox (h.ep+1,96) [C.d (D.int IntKind.i64 0),C.nil,C.nil,C.nil]).next) []:=
  (((Same.refl.setBox (.inr (Nat.le_refl _))).next).setBox (.inr (by simp))).next
 generalize hX:(((h.setBox (h.ep,48) [C.d (D.int IntKind.i64 ver),C.d (D.sl (List.map Rel.enc inst)),C.d (D.sl (List.map encS tabs)),C.d (D.sl (List.map Chg.enc chs0))]).next.setBox (h.ep+1,96) [C.d (D.int IntKind.i64 0),C.nil,C.nil,C.nil]).next)=H0 at *;have hep0:H0.ep=h.ep+1+1:=by rw[← hX];simp
 have q3:H0.box (h.ep,48)=some [C.d (D.int IntKind.i64 ver),C.d (D.sl (List.map Rel.enc inst)),C.d (D.sl (List.map encS tabs)),C.d (D.sl (List.map Chg.enc chs0))]:=by rw[← hX];simp
 have hs1:Same H0 h1 []:=(Same.refl.setArr.next).trans s1;have hl1:∀ k ∈ labs c1,H0.ep≤k.1∧k.1 < h2.ep:=fun k hk=>by have h9:=l1 k hk;have:=s2.1;simp at h9;omega
 have hs2:Same H0 h2 []:=hs1.trans' s2 fun k hk=>.inr (hl1 k hk).1;have b3:h2.box (h.ep,48)=some [C.d (D.int IntKind.i64 ver),C.d (D.sl (List.map Rel.enc inst)),C.d (D.sl (List.map encS tabs)),C.d (D.sl (List.map Chg.enc chs0))]:=by rw[hs2.2 _ (by simp;omega) (by simp)];exact q3
 have hep2:h.ep+1 < h2.ep:=by have:=hs2.1;omega
 have b6:h2.box (h.ep+1,96)=some [C.d (D.int IntKind.i64 0),C.nil,C.nil,C.nil]:=by rw[hs2.2 _ (by simp;omega) (by simp),← hX];simp
 have hnc:∀ k:Lab,k.1≤h.ep+1→k ∉ labs c1:=fun k hk h9=>by have:=hl1 k h9;omega
 have hall:∀ xs ∈ [chs0.map Chg.enc,chs.map Chg.enc],∀ x ∈ xs,x.length=4:=fun xs hxs x hx=>by
  simp only[List.mem_cons,List.not_mem_nil,or_false] at hxs;rcases hxs with rfl | rfl<;>obtain⟨s,_,rfl⟩:=List.mem_map.1 hx<;>rfl
 refine Wait.cutB (fun k=>k != 6) (Plan.then_ [0,2,3,5,7,9] (.three 1 4 8 (Plan.then_ [] (.two 4 8 (Plan.then_ [] (.two 6 8 (Plan.then_ [8,10,11,12,13,14] .done) (Plan.then_ [] (.two 6 10 (Plan.then_ [10,11,12,13,14] .done) (Plan.then_ [6,11,12,13,14] .done))))) (Plan.then_ [] (.two 4 10 (Plan.then_ [] (.two 6 10 (Plan.then_ [10,11,12,13,14] .done) (Plan.then_ [6,11,12,13,14] .done))) (Plan.then_ [4,6,11,12,13,14] .done))))) (Plan.then_ [] (.three 1 6 8 (Plan.then_ [] (.two 6 8 (Plan.then_ [8,10,11,12,13,14] .done) (Plan.then_ [] (.two 6 10 (Plan.then_ [10,11,12,13,14] .done) (Plan.then_ [6,11,12,13,14] .done))))) (Plan.then_ [1,8,10,11,12,13,14] .done) (Plan.then_ [] (.three 1 6 10 (Plan.then_ [] (.two 6 10 (Plan.then_ [10,11,12,13,14] .done) (Plan.then_ [6,11,12,13,14] .done))) (Plan.then_ [1,10,11,12,13,14] .done) (Plan.then_ [] (.two 1 6 (Plan.then_ [6,11,12,13,14] .done) (Plan.then_ [1,11,12,13,14] .done))))))) (Plan.then_ [] (.three 1 4 10 (Plan.then_ [] (.two 4 10 (Plan.then_ [] (.two 6 10 (Plan.then_ [10,11,12,13,14] .done) (Plan.then_ [6,11,12,13,14] .done))) (Plan.then_ [4,6,11,12,13,14] .done))) (Plan.then_ [] (.three 1 6 10 (Plan.then_ [] (.two 6 10 (Plan.then_ [10,11,12,13,14] .done) (Plan.then_ [6,11,12,13,14] .done))) (Plan.then_ [1,10,11,12,13,14] .done) (Plan.then_ [] (.two 1 6 (Plan.then_ [6,11,12,13,14] .done) (Plan.then_ [1,11,12,13,14] .done))))) (Plan.then_ [] (.two 1 4 (Plan.then_ [4,6,11,12,13,14] .done) (Plan.then_ [] (.two 1 6 (Plan.then_ [6,11,12,13,14] .done) (Plan.then_ [1,11,12,13,14] .done))))))))) follows (by kernel_rfl)
  (fun e g=>e.n=29∧e.get 6=.one (.ptr (h.ep+1,96) 0)∧∃ cs ls,g.box (h.ep+1,96)=some cs∧OwN h g TxSh cs (Txn.enc ⟨ver,inst,compB (sortB (tabs++tables)),chs0++chs⟩) ls) ?_ ?_
 ·simp[b3,b6,Plan.then_,Z45,Z02,Z00,callKind]
  all_goals repeat' first
   | with_reducible refine And.intro ?_ ?_
   | assumption
   | (refine Z01 (Zbv _ inst hi _ fun ci ha ga ba=>?_)
      have sa:=ga.same;have ea:=sa.1
      try simp at ea
      have b3a:=(sa.2 (h.ep,48) (by simp<;>omega) (by simp)).trans (by simpa using b3);have b6a:=(sa.2 (h.ep+1,96) (by simp<;>omega) (by simp)).trans (by simpa using b6);have m2a:MR ha 1 c1 ((sortB (tabs++tables)).map scell):=m2.frame fun k hk=>(sa.2 k (by have:=hl1 k hk;simp<;>omega) (by simp)).trans (by simp);simp[b3a,b6a,Plan.then_,Z45,Z02,Z00,callKind])
   | (refine Z01 (Z9s _ c1 _ (m2a.frame fun k hk=>by simp) _ fun c2 hb m3 sb l3=>?_)
      have eb:=sb.1
      try simp at eb
      have b3b:=(sb.2 (h.ep,48) (by simp<;>omega) (hnc _ (by simp))).trans (by simpa using b3a);have b6b:=(sb.2 (h.ep+1,96) (by simp<;>omega) (hnc _ (by simp))).trans (by simpa using b6a);simp[b3b,b6b,Plan.then_,Z45,Z02,Z00,callKind])
   | (refine Z01 (HSpec.good Tryz.func20 rfl (by kernel_rfl) fun hg4=>Z5y _ _ [chs0.map Chg.enc,chs.map Chg.enc] (.inr ⟨_,rfl⟩) hall (by simpa using hc.1) _ fun c3 hc' m4 sc l4=>?_)
      have ec:=sc.1
      try simp at ec
      have b6c:=(sc.2 (h.ep+1,96) (by simp<;>omega) (by simp)).trans (by simpa using b6b);have bc:=sc.boxLe hg4;simp[b6c,Plan.then_,Z45,Z02,Z00,callKind])
   | (refine Z01 (Zb3 _ c3 (chs0++chs) (Zou chs0 chs ▸ m4.rd) hc _ fun c4 hd gd bd=>?_)
      have sd:=gd.same;have b6d:=(sd.2 (h.ep+1,96) (by simp<;>omega) (by simp)).trans b6c;simp[b6d,Plan.then_,Z45,Z02,Z00,callKind])
  all_goals
   obtain⟨ls,o⟩:=tx_own (v:=ver) (hs2.trans (by repeat' first | exact Same.refl | apply Same.next | apply Same.setArr)) ga (by repeat' first | exact Same.refl | apply Same.next | apply Same.setArr) m3 sb l3 (fun k hk=>by have:=hl1 k hk;first | omega | (simp;omega)) (Same.trans (by repeat' first | exact Same.refl | apply Same.next | apply Same.setArr) sc) gd;exact CutK.of ⟨by simp,by simp,_,ls,Z5z.trans (if_pos rfl),o.out hH0 (by simp;omega) (by simp)⟩
 ·rintro e g ⟨en,e6,cs,ls,b6,o⟩;have hcl:cs.length=4:=o.ow.len.1;have h4:takeN 4 cs=some cs:=by rw[← hcl];simp[takeN]
  simp[en,e6,b6,h4,retH,resVs,resV,notTup];exact hk _ _ _ o (o.same.boxLe hg)
end
section
open Go.Am
def Z1m (g_:Gr) (t:Txn):Option ((List Rel) × Int):=
 (bindK (Z1k g_ t.version) fun v3=>(bif (v3.2 != 0) then (some ([],v3.2)) else (bindK (Z1j v3.1 t.snapshot t.changes) fun v6=>(some (v6.1,v6.2)))))
instance c_txn_Current (g_:Gr) (t:Txn):Con (Z1m g_ t) Tryz.prog 44 [.agg g_.enc,.agg t.enc] (fun r=>.tup [.one (.d (.sl (r.1.map Rel.enc))),.one (.d (.int .i64 r.2))]):=by
 unfold Z1m;exact go 26 Tryz.func44 rfl (by kernel_rfl) rfl rfl (by simp)
end
section
open Go Go.Am
open Go.RowKit (Below)
theorem Zml {Γ:Ctx} {h:HS} {μ:Mem} {w w':World} (hI:Inv Γ h μ w) (hb:Below w.heap.size w w'):Inv Γ h μ w':=by
 have hsz:=hI.below.size;refine⟨hI.cell.of_heap (fun b o v hm=>hb.block b (hI.cell.lt hm)),hI.tmp,hI.tcell.of_heap (fun b o v hm=>hb.block b (hI.tcell.lt hm)),hI.told,hI.ext,hI.old,hI.below.trans (hb.mono hsz),fun l cs hl=>?_,fun l es n hl=>?_,hI.inj,hI.lt,hI.both⟩
 ·obtain⟨b,n,T,conc,h1,h2,h3,h4,h5⟩:=hI.box l cs hl;exact⟨b,n,T,conc,h1,h2,(hb.block b (Z24 h3)).trans h3,h4,h5⟩
 ·obtain⟨gc,h1,h2⟩:=hI.arr l es n hl;refine⟨gc,h1,h2.keep (fun g hg=>?_) (fun _ _ _ h=>h)⟩;obtain⟨_,T1,cur,hq,_⟩:=h2.2 g hg;exact hb.block g (Z24 hq)
theorem Zhd {P:Program} {h:HS} {f:FuncId} {vs:List V} {ars:List AV} {x y:D} {K:V→HS→Prop} (hs:PSpec P f ars (.tup [.one (.d x),.one (.d y)])) (hl:LendVs h vs ars) (hy:y.flat=true) (hk:K (.tup [.one .any,.one (.d y)]) h):HSpec P f vs h K:=by
 refine⟨hs.1,fun Γ μ w vals hI hR=>?_⟩;obtain⟨hlen,hget⟩:=hl.get;have hargs:Zal (snap w) (snap w) ars vals:=⟨by rw[hR.1,hlen],fun i x hi=>by
  obtain⟨v,hv,hlv⟩:=hget i x hi;obtain⟨u,hu,hr⟩:=hR.2 i v hv;exact⟨u,hu,Zgg hI hlv hr⟩⟩
 refine (hs.2 w (snap w) (snap w) vals hI.glob (Z6w w) (Z6w w) hargs).mono ?_;rintro en w' ⟨v,m',blk,rfl,hsub,hold,hcell,hb,hr,hfr⟩;obtain⟨us,rfl,hsz,hr⟩:=hr;obtain⟨u0,h0,r0⟩:=hr 0 _ rfl;obtain⟨u1,h1,r1⟩:=hr 1 _ rfl;refine⟨_,_,h,μ,rfl,hk,Zml hI hb,⟨us,rfl,hsz,fun i x hi=>?_⟩,.refl μ⟩
 match i,hi with
 | 0,hi=>cases hi;exact⟨u0,h0,RepD.oneCell r0⟩
 | 1,hi=>cases hi;exact⟨u1,h1,Zfm hy r1⟩
instance dChL (x:List Chg):Decidable (ChL x):=inferInstanceAs (Decidable (_∧_))
instance dInstL (x:List Rel):Decidable (InstL x):=inferInstanceAs (Decidable (_∧_))
instance dExOK (t:Txn) (a:List ByteArray) (b:List Chg):Decidable (ExOK t a b):=inferInstanceAs (Decidable (_∧_∧_))
def txZ:Txn:=⟨0,[],[],[]⟩
theorem Zh8 {h h':HS} (hs:Same h h' []):OwN h h' TxSh [.d (.int .i64 0),.nil,.nil,.nil] txZ.enc []:=⟨.data rfl (.emp rfl (.emp rfl (.emp rfl .nil))),List.nodup_nil,by simp,hs⟩
def Z0d (g_:Gr) (t:Txn) (chs:List Chg):Option (Txn × Int):=
 chkK (ExOK t (chs.map (·.table)) chs) <| bif decide ((24:Int) < (t.changes.length:Int)+(chs.length:Int)) then some (txZ,2) else
 bindK (Z1m g_ (extF t (chs.map (·.table)) chs)) fun r=>bif r.2 != 0 then some (txZ,r.2) else some (extF t (chs.map (·.table)) chs,0)
set_option maxHeartbeats 2000000 in
theorem Zhk (h:HS) (g_:Gr) (t:Txn) (chs:List Chg) (r:Txn × Int) (hm:Is (Z0d g_ t chs) r) (K:V→HS→Prop)
  (hk:∀ cs ls h',OwN h h' TxSh cs r.1.enc ls→BoxLe h h'→K (.tup [.agg cs,.one (.d (.int .i64 r.2))]) h') :
  HSpec Tryz.prog 14 [.agg (g_.enc.map C.d),.agg (t.enc.map C.d),.one (.d (.sl (chs.map Chg.enc)))] h K:=by
 refine HSpec.good Tryz.func14 rfl (by kernel_rfl) fun hg=>?_;refine HSpec.of_vc Tryz.func14 rfl (by kernel_rfl) (n:=48) rfl rfl (by simp) ?_;obtain⟨hok,hm⟩:=hm.chk;have hcl:=hok.2.1.1;have htl:=hok.2.2;simp at hcl htl;have hw:IntKind.i64.wrap ((t.changes.length:Int)+(chs.length:Int))=(t.changes.length:Int)+(chs.length:Int):=IntWalk.i64_in _ (by omega);simp[hw];intro hl1 hl2;refine Z13 (fun hgt=>?_) (fun hle=>?_)
 ·rw[decide_eq_true hgt] at hm;obtain rfl:=r_ret hm;simp;refine (show retH _ _ _ _ _ _ from ?_);simp[retH,resVs,resV,notTup,takeN];refine hk _ [] _ (Zh8 ?_) (Same.boxLe ?_ hg)<;>exact (((((Same.refl.setBox (.inr (Nat.le_refl _))).next).setBox (.inr (by simp))).next.setBox (.inr (by simp<;>omega))).next).setBox (.inr (by simp<;>omega))
 ·rw[decide_eq_false hle] at hm;simp only[cond_false] at hm;simp;intro _;generalize hX:(((h.setBox (h.ep,48) _).next.setBox (h.ep+1,64) _).next.setBox (h.ep+1+1,96) _).next=HX;have q3:HX.box (h.ep,48)=some (g_.enc.map C.d):=by rw[← hX];simp
  have q4:HX.box (h.ep+1,64)=some (t.enc.map C.d):=by rw[← hX];simp
  have q6:HX.box (h.ep+1+1,96)=some [C.d (D.int IntKind.i64 0),C.nil,C.nil,C.nil]:=by rw[← hX];simp
  have hep:HX.ep=h.ep+1+1+1:=by rw[← hX];simp
  have hs:Same h HX []:=by
   rw[← hX];exact ((((Same.refl.setBox (.inr (Nat.le_refl _))).next).setBox (.inr (by simp))).next.setBox (.inr (by simp<;>omega))).next
  refine Wait.rounds (fun n e h'=>∃ (i:Nat) (c8:C),n=chs.length - i∧i≤chs.length∧e.n=48∧e.get 2=.one (.d (.sl (chs.map Chg.enc)))∧e.get 3=.one (.ptr (h.ep,48) 0)∧e.get 4=.one (.ptr (h.ep+1,64) 0)∧e.get 6=.one (.ptr (h.ep+1+1,96) 0)∧e.get 8=.one c8 ∧
   e.get 21=.one (.d (.sl (chs.map Chg.enc)))∧e.get 22=.one (.d (.int .i64 (chs.length:Int)))∧e.get 23=.one (.d (.int .i64 (i:Int)))∧MR h' 1 c8 (((chs.take i).map (·.table)).map scell)∧Same HX h' []∧∀ k ∈ labs c8,HX.ep≤k.1∧k.1 < h'.ep) chs.length
   ⟨0,.nil,rfl,by omega,by simp,by simp,by simp,by simp,by simp,by simp,by simp,by simp,by simp,by simpa using MR.nil,.refl,by simp[labs]⟩ ?_
  rintro n e h' ⟨i,c8,rfl,hil,en,e2,e3,e4,e6,e8,e21,e22,e23,m8,hs8,hl8⟩;simp[en,e21,e22,e23];refine Z13 (fun hlt=>?_) (fun hge=>?_)
  ·have hlt':i < chs.length:=by omega
   have hw1:IntKind.i64.wrap ((i:Int)+1)=(i:Int)+1:=IntWalk.i64_in _ (by omega);simp[en,e8,e21,e22,e23,hlt',hw1];refine app_mr Za6 (by kernel_rfl) (by decide) (by decide) (m8.frame fun k hk=>?_) (RowAt.own1 rfl) (by simp;omega) (fun c' g hm' hs6 hl6=>?_)
   ·have:=hl8 k hk
    have hne:k≠(h'.ep,160):=fun he=>by subst he;simp at this
    simp[hne]
   ·have hy:Same h' (((h'.setBox (h'.ep,160) [C.d (D.int IntKind.i64 0),C.d (D.str ByteArray.empty),C.nil,C.nil]).next.setBox (h'.ep,160) [C.d (D.int IntKind.i64 chs[i].kind),C.d (D.str chs[i].table),C.d (D.sl (List.map GV.enc chs[i].key)),C.d (D.sl (List.map GV.enc chs[i].row))]).setArr (h'.ep+1,480) (some (1,1))).next []:=
     (((Same.refl.setBox (.inr (Nat.le_refl _))).next).setBox (.inr (Nat.le_refl _))).setArr.next
    have hye:=hy.1;have h6e:=hs6.1;simp[en,e23,hw1];refine Back.of (n':=chs.length - (i+1)) (by omega) ⟨i+1,c',rfl,by omega,by simp[en],by simp[e2],by simp[e3],by simp[e4],by simp[e6],by simp,by simp[e21],by simp[e22],by simp,?_,?_,?_⟩
    ·rw[List.take_succ_eq_append_getElem hlt',List.map_append,List.map_append];exact hm'
    ·exact (hs8.trans hy).trans' hs6 fun k hk=>.inr (hl8 k hk).1
    ·intro k hk;rcases hl6 k hk with h9 | h9
     ·have:=hl8 k h9;omega
     ·have:=hs8.1;omega
  ·have hie:i=chs.length:=by omega
   subst hie;rw[List.take_length] at m8;have b3:h'.box (h.ep,48)=some (g_.enc.map C.d):=by rw[hs8.2 _ (by simp<;>omega) (by simp)];exact q3
   have b4:h'.box (h.ep+1,64)=some (t.enc.map C.d):=by rw[hs8.2 _ (by simp<;>omega) (by simp)];exact q4
   have b6:h'.box (h.ep+1+1,96)=some [C.d (D.int IntKind.i64 0),C.nil,C.nil,C.nil]:=by rw[hs8.2 _ (by simp<;>omega) (by simp)];exact q6
   have hep8:=hs8.1;have hs1:Same HX (h'.sans (labs c8)) []:=⟨hep8,fun k hk _=>by
    rw[← hs8.2 k hk (by simp)];simp only[HS.sans];rw[if_neg fun h9=>by have:=hl8 k h9;omega]⟩
   have hfz:Frz (h'.only (labs c8)) c8 (.sl ((chs.map (·.table)).map encS)):=(str_ow (m8.frame (h':=h'.only (labs c8)) fun k hk=>by simp[HS.only,hk])).frz.1;simp[en,e3,e4,e8,e2,b4];refine Z01 (HSpec.frz_args (vs':=[.agg (t.enc.map C.d),.one (.d (.sl ((chs.map (·.table)).map encS))),.one (.d (.sl (chs.map Chg.enc)))]) (labs c8) ⟨FrzV.refl,.inr ⟨_,rfl,hfz⟩,FrzV.refl,trivial⟩ (Zcb _ t (chs.map (·.table)) chs hok _ fun cs ls g o hb=>?_));have hs2:=hs1.trans o.same;have hep2:=hs2.1;have c3:g.box (h.ep,48)=some (g_.enc.map C.d):=by rw[hs2.2 _ (by simp<;>omega) (by simp)];exact q3
   have c4:g.box (h.ep+1,64)=some (t.enc.map C.d):=by rw[hs2.2 _ (by simp<;>omega) (by simp)];exact q4
   have c6:g.box (h.ep+1+1,96)=some [C.d (D.int IntKind.i64 0),C.nil,C.nil,C.nil]:=by rw[hs2.2 _ (by simp<;>omega) (by simp)];exact q6
   have hcl4:cs.length=4:=o.ow.len.1;have ht4:takeN 4 cs=some cs:=by rw[← hcl4];simp[takeN]
   simp[en,e3,e4,e8,e2,c3,c4];have h5:∀ a b c d:C,Z03 [a,b,c,d] 0 cs=cs:=fun a b c d=>by simp[Z03,hcl4]
   refine⟨hcl4,?_⟩;simp[en,e3,e4,e8,e2,c3,c4,h5,ht4];replace hm:=hm.bind;obtain⟨q,hq,hm⟩:=hm;have hne4:∀ k ∈ ls,k≠(h.ep+1,64):=fun k hk he=>by have h9:=(o.new k hk).1;subst he;have h8:HX.ep≤(h'.sans (labs c8)).ep:=hs1.1;simp only at h9;omega
   have o2:OwN h (g.setBox (h.ep+1,64) cs) TxSh cs (extF t (chs.map (·.table)) chs).enc ls:=by
    refine⟨o.ow.frame fun k hk=>by simp[hne4 k hk],o.nd,fun k hk=>?_,((hs.trans hs2).setBox (.inr (by simp)))⟩;have h9:=o.new k hk;have h8:HX.ep≤(h'.sans (labs c8)).ep:=hs1.1;exact⟨by omega,h9.2⟩
   refine Z01 (Zhd ((c_txn_Current g_ (extF t (chs.map (·.table)) chs)).h q hq) ⟨.agg (Zah (ds:=g_.enc)),.agg o2.ow.frz,trivial⟩ rfl ?_);simp[en];have o3:∀ xs,OwN h ((g.setBox (h.ep+1,64) cs).setBox (h.ep+1+1,96) xs) TxSh cs (extF t (chs.map (·.table)) chs).enc ls:=fun xs=>by
    have hne6:∀ k ∈ ls,k≠(h.ep+1+1,96):=fun k hk he=>by have h9:=(o.new k hk).1;subst he;have h8:HX.ep≤(h'.sans (labs c8)).ep:=hs1.1;simp only at h9;omega
    exact⟨o2.ow.frame fun k hk=>by simp[hne6 k hk],o2.nd,o2.new,o2.same.setBox (.inr (by simp<;>omega))⟩
   have d6:(g.setBox (h.ep+1,64) cs).box (h.ep+1+1,96)=some [C.d (D.int IntKind.i64 0),C.nil,C.nil,C.nil]:=by simp[c6]
   have d4:(g.setBox (h.ep+1,64) cs).box (h.ep+1,64)=some cs:=by simp
   generalize g.setBox (h.ep+1,64) cs=G at *;refine r_cond hm ?_ ?_<;>clear hm<;>intro hc hm
   ·obtain rfl:=r_ret hm;simp[en,e6,d6,hc,retH,resVs,resV,notTup,takeN];refine hk _ [] _ (Zh8 ?_) (Same.boxLe ?_ hg)<;>exact o2.same.setBox (.inr (by simp<;>omega))
   ·obtain rfl:=r_ret hm;simp[en,e4,e6,d4,d6,ht4,hc,hcl4,h5,retH,resVs,resV,notTup];exact hk _ _ _ (o3 cs) ((o3 cs).same.boxLe hg)
end
section
open Go Go.Am
theorem Zfl {h:HS}:∀ {cs:List C} {ds:List D},FrzCs h cs ds→FrzRs h cs (ds.map RC.d)
 | [],[],_=>trivial
 | _::_,_::_,hf=>⟨hf.1,Zfl hf.2⟩
 | [],_::_,hf=>hf.elim
 | _::_,[],hf=>hf.elim
theorem Zhu (g_:Gr) (t:Txn) (changes:List Chg) (r:Txn × Int) (hm:Is (Z0d g_ t changes) r) :
  PSpec Tryz.prog 14 [.agg g_.enc,.agg t.enc,.one (.d (.sl (changes.map Chg.enc)))] (.tup [.agg (r.1.enc.map RC.d),.one (.d (.int .i64 r.2))]):=by
 refine PSpec.of_heap (Zhk HS.init g_ t changes r hm _ fun cs ls h' o hb=>?_);exact⟨Zfl o.ow.frz,Frz.data rfl,trivial⟩
theorem Zoa (h:HS):h.sans []=h:=by simp[HS.sans]
theorem Zqz {h:HS} (t:Txn) (table:ByteArray) (lab:Lab) (hok:ExOK t [table] []) (K:V→HS→Prop) (hk:∀ cs ls h',OwN h h' TxSh cs (extF t [table] []).enc ls→BoxLe h h'→K (.agg cs) h') :
  HSpec Tryz.prog 43 [.agg (t.enc.map C.d),.one (.own lab [[.str table]]),.one .nil] h K:=by
 refine HSpec.frz_args (vs':=[.agg (t.enc.map C.d),.one (.d (.sl ([table].map encS))),.one (.d (.sl (([]:List Chg).map Chg.enc)))]) [] ⟨FrzV.refl,.inr ⟨_,rfl,.data rfl⟩,.inr ⟨_,rfl,.data rfl⟩,trivial⟩ ?_;rw[Zoa];exact Zcb h t [table] [] hok K hk
theorem lkZ {h h':HS} (hs:Same h h' []):OwN h h' (RowSh::TxSh) (.nil::[.d (.int .i64 0),.nil,.nil,.nil]) (.sl []::txZ.enc) ([]++[]):=⟨.emp rfl (Zh8 hs).ow,List.nodup_nil,by simp,hs⟩
def Z5q (g_:Gr) (t:Txn) (table:ByteArray) (key:List GV):Option (List GV × Txn × Int):=
 bindK (Z1m g_ t) fun c=>bif c.2 != 0 then some ([],txZ,c.2) else bindK (Z1k g_ t.version) fun s=>bindK (Z05 s.1 table) fun f=>bif !f.2 then some ([],txZ,4) else
 chkK (ExOK t [table] []) <| getK s.1.tables f.1 fun T=>getK c.1 f.1 fun R=>bindK (Z29 T R.rows key) fun q=>bif !q.2 then some ([],extF t [table] [],0) else getK R.rows q.1 fun row=>chkK (row.length≤2097152) (some (row,extF t [table] [],0))
set_option maxHeartbeats 2000000 in
theorem Zgj (h:HS) (g_:Gr) (t:Txn) (table:ByteArray) (key:List GV) (r:List GV × Txn × Int) (hm:Is (Z5q g_ t table key) r) (K:V→HS→Prop)
  (hk:∀ c cs l1 ls h',OwN h h' (RowSh::TxSh) (c::cs) (.sl (r.1.map GV.enc)::r.2.1.enc) (l1++ls)→BoxLe h h'→K (.tup [.one c,.agg cs,.one (.d (.int .i64 r.2.2))]) h') :
  HSpec Tryz.prog 18 [.agg (g_.enc.map C.d),.agg (t.enc.map C.d),.one (.d (.str table)),.one (.d (.sl (key.map GV.enc)))] h K:=by
 refine HSpec.good Tryz.func18 rfl (by kernel_rfl) fun hg=>?_;refine HSpec.of_vc Tryz.func18 rfl (by kernel_rfl) (n:=76) rfl rfl (by simp) ?_;obtain⟨c,hc,hm⟩:=hm.bind;simp;refine Z0a ((c_txn_Current g_ t).h c hc) (by simp) ?_;simp;refine r_cond hm ?_ ?_<;>clear hm<;>intro hc1 hm
 ·obtain rfl:=r_ret hm;simp[hc1,retH,resVs,resV,notTup,takeN];refine hk _ _ [] [] _ (lkZ ?_) (Same.boxLe ?_ hg)<;>exact (((((Same.refl.setBox (.inr (Nat.le_refl _))).next).setBox (.inr (by simp))).next.setBox (.inr (by simp<;>omega))).next.next).setBox (.inr (by simp<;>omega))
 ·obtain⟨sv,hsv,hm⟩:=hm.bind;obtain⟨ft,hft,hm⟩:=hm.bind;simp[hc1];refine Z0a ((c_versions_Schema g_ t.version).h sv hsv) (by simp) ?_;simp[hc1];refine Z0a ((c_schema_FindTable sv.1 table).h ft hft) (by simp) ?_;simp[hc1];refine r_cond hm ?_ ?_<;>clear hm<;>intro hf hm
  ·obtain rfl:=r_ret hm;simp[hc1,hf,retH,resVs,resV,notTup,takeN];refine hk _ _ [] [] _ (lkZ ?_) (Same.boxLe ?_ hg)<;>exact ((((((((Same.refl.setBox (.inr (Nat.le_refl _))).next).setBox (.inr (by simp))).next.setBox (.inr (by simp<;>omega))).next.next.next).setBox (.inr (by simp<;>omega))).next.setBox (.inr (by simp<;>omega))).next).setBox (.inr (by simp<;>omega))
  ·obtain⟨hok,hm⟩:=hm.chk;simp[hc1,hf];obtain⟨T,h0,hT,hm⟩:=hm.get;obtain⟨R,_,hR,hm⟩:=hm.get;obtain⟨k,hk0⟩:∃ k:Nat,ft.1=k:=⟨ft.1.toNat,(Int.toNat_of_nonneg h0).symm⟩;rw[hk0] at hT hR;simp only[Int.toNat_natCast] at hT hR;have hTl:=(List.getElem?_eq_some_iff.1 hT).1;have hRl:=(List.getElem?_eq_some_iff.1 hR).1;obtain⟨q,hq,hm⟩:=hm.bind;have hTe:=(List.getElem?_eq_some_iff.1 hT).2;have hRe:=(List.getElem?_eq_some_iff.1 hR).2;generalize hX:HS.next (HS.setArr _ (h.ep+1+1+1+1+1+1+1,736) _)=HX;have q5:HX.box (h.ep+1,80)=some (t.enc.map C.d):=by rw[← hX];simp
   have q9:HX.box (h.ep+1+1,144)=some [C.d (D.int IntKind.i64 0),C.nil,C.nil,C.nil]:=by rw[← hX];simp
   have q13:HX.box (h.ep+1+1+1+1+1,208)=some (sv.1.enc.map C.d):=by rw[← hX];simp
   have hep:HX.ep=h.ep+8:=by rw[← hX];simp
   have hs:Same h HX []:=by
    rw[← hX];exact ((((((((Same.refl.setBox (.inr (Nat.le_refl _))).next).setBox (.inr (by simp))).next.setBox (.inr (by simp<;>omega))).next.next.next).setBox (.inr (by simp<;>omega))).next.setBox (.inr (by simp<;>omega))).next).setArr.next
   refine Z01 (Zqz t table _ hok _ fun cs ls g o hb=>?_);have hs2:=o.same;have hep2:=hs2.1;have c5:g.box (h.ep+1,80)=some (t.enc.map C.d):=by rw[hs2.2 _ (by simp<;>omega) (by simp)];exact q5
   have c9:g.box (h.ep+1+1,144)=some [C.d (D.int IntKind.i64 0),C.nil,C.nil,C.nil]:=by rw[hs2.2 _ (by simp<;>omega) (by simp)];exact q9
   have c13:g.box (h.ep+1+1+1+1+1,208)=some (sv.1.enc.map C.d):=by rw[hs2.2 _ (by simp<;>omega) (by simp)];exact q13
   have hcl4:cs.length=4:=o.ow.len.1;have ht4:takeN 4 cs=some cs:=by rw[← hcl4];simp[takeN]
   have h5:∀ a b c d:C,Z03 [a,b,c,d] 0 cs=cs:=fun a b c d=>by simp[Z03,hcl4]
   have hne:∀ p:Lab,p.1 < HX.ep→∀ k ∈ ls,k≠p:=fun p hp k hk he=>by have:=(o.new k hk).1;subst he;omega
   simp[c5];refine⟨hcl4,?_⟩;simp[h5];have o2:OwN h (g.setBox (h.ep+1,80) cs) TxSh cs (extF t [table] []).enc ls:=by
    refine⟨o.ow.frame fun k hk=>by simp[hne (h.ep+1,80) (by simp;omega) k hk],o.nd,fun k hk=>?_,((hs.trans hs2).setBox (.inr (by simp)))⟩;have h9:=o.new k hk;exact⟨by omega,h9.2⟩
   have d5:(g.setBox (h.ep+1,80) cs).box (h.ep+1,80)=some cs:=by simp
   have d9:(g.setBox (h.ep+1,80) cs).box (h.ep+1+1,144)=some [C.d (D.int IntKind.i64 0),C.nil,C.nil,C.nil]:=by simp[c9]
   have d13:(g.setBox (h.ep+1,80) cs).box (h.ep+1+1+1+1+1,208)=some (sv.1.enc.map C.d):=by simp[c13]
   have hepG:h.ep+8≤(g.setBox (h.ep+1,80) cs).ep:=by simp;omega
   generalize g.setBox (h.ep+1,80) cs=G at *;refine Wait.cut (Plan.then_ [0,1,2,3,4,5,6,7,8,9,10,11,12,13,14,15,16] .done) follows (by kernel_rfl) (fun e1 h1=>e1.n=76∧e1.get 5=.one (.ptr (h.ep+1,80) 0)∧e1.get 9=.one (.ptr (h.ep+1+1,144) 0)∧e1.get 11=.one (.d (.sl (c.1.map Rel.enc)))∧e1.get 15=.one (.d (.int .i64 (k:Int)))∧e1.get 16=.one (.d (.bool q.2))∧e1.get 17=.one (.d (.int .i64 q.1))∧Same G h1 []) ?_ ?_
   ·simp[d13,hk0,hT,hR,hTl,hRl,Plan.then_,vcPlan,Z02,Z00,callKind];refine Z0a ((c_relation_Find T R.rows key).h q hq) (by simp[hTe,hRe]) ?_;simp[Plan.then_,vcPlan,Z02,Z00,callKind];exact⟨fun _ _ x=>x,CutK.of ⟨by simp,by simp,by simp,by simp,by simp,by simp,by simp,Same.refl.next⟩⟩
   ·rintro e1 h1 ⟨en,e5,e9,e11,e15,e16,e17,hs3⟩;have hep3:=hs3.1;have f5:h1.box (h.ep+1,80)=some cs:=by rw[hs3.2 _ (by simp<;>omega) (by simp)];exact d5
    have f9:h1.box (h.ep+1+1,144)=some [C.d (D.int IntKind.i64 0),C.nil,C.nil,C.nil]:=by rw[hs3.2 _ (by simp<;>omega) (by simp)];exact d9
    have o3:OwN h h1 TxSh cs (extF t [table] []).enc ls:=⟨o2.ow.frame fun k hk=>hs3.2 k (o2.new k hk).2 (by simp),o2.nd,fun k hk=>⟨(o2.new k hk).1,Nat.lt_of_lt_of_le (o2.new k hk).2 hep3⟩,o2.same.trans hs3⟩;have hn9:∀ k ∈ ls,k≠(h.ep+1+1,144):=fun k hk=>hne _ (by simp;omega) k hk;simp[en,e16];refine r_cond hm ?_ ?_<;>clear hm<;>intro hq2 hm
    ·obtain rfl:=r_ret hm;simp[en,hq2];refine Wait.cut (Plan.then_ [0,1,2,3] .done) follows (by kernel_rfl) (fun e2 h2=>e2.n=76∧e2.get 8=.one .nil∧e2.get 9=.one (.ptr (h.ep+1+1,144) 0)∧e2.get 10=.one (.d (.int .i64 0))∧h2.box (h.ep+1+1,144)=some cs∧OwN h h2 TxSh cs (extF t [table] []).enc ls) ?_ ?_
     ·simp[en,e5,e9,f5,f9,ht4,hcl4,h5,Plan.then_,vcPlan,Z02,Z00,callKind];exact CutK.of ⟨by simp[en],by simp,by simp[e9],by simp,by simp,⟨o3.ow.frame fun k hk=>by simp[hn9 k hk],o3.nd,fun k hk=>by simpa using o3.new k hk,o3.same.setBox (.inr (by simp<;>omega))⟩⟩
     ·rintro e2 h2 ⟨en,e8,e9,e10,b9,o4⟩;simp[en,e8,e9,e10,b9,ht4,retH,resVs,resV,notTup];exact hk _ _ [] ls _ ⟨.emp rfl o4.ow,by simpa using o4.nd,by simpa using o4.new,o4.same⟩ (o4.same.boxLe hg)
    ·obtain⟨row,hq0,hrow,hm⟩:=hm.get;obtain⟨hrl,hm⟩:=hm.chk;obtain rfl:=r_ret hm;obtain⟨j,hj⟩:∃ j:Nat,q.1=j:=⟨q.1.toNat,(Int.toNat_of_nonneg hq0).symm⟩;rw[hj] at hrow e17;simp only[Int.toNat_natCast] at hrow;have hjl:=(List.getElem?_eq_some_iff.1 hrow).1;have hre:=(List.getElem?_eq_some_iff.1 hrow).2;simp[en,hq2];refine Wait.cut (Plan.then_ [0,1,2,3,4,5,6,7,9,8,10,11,12] .done) follows (by kernel_rfl) (fun e2 h2=>e2.n=76∧∃ c1,e2.get 8=.one c1∧e2.get 9=.one (.ptr (h.ep+1+1,144) 0)∧e2.get 10=.one (.d (.int .i64 0))∧h2.box (h.ep+1+1,144)=some cs∧OwN h h2 (RowSh::TxSh) (c1::cs) (.sl (row.map GV.enc)::(extF t [table] []).enc) (labs c1++ls)) ?_ ?_
     ·simp[en,e5,e9,e11,e15,e17,f5,f9,ht4,hcl4,h5,hR,hRl,hRe,hrow,hjl,hre,Plan.then_,vcPlan,Z02,Z00,callKind];refine Z01 (Z3u h1 row hrl _ fun c1 h2 oc m1 hb1=>?_);have g9:h2.box (h.ep+1+1,144)=some [C.d (D.int IntKind.i64 0),C.nil,C.nil,C.nil]:=by rw[oc.same.2 _ (by simp<;>omega) (by simp)];exact f9
      have hep4:=oc.same.1;simp[en,e9,g9,hcl4,h5,Plan.then_,vcPlan,Z02,Z00,callKind];refine⟨hb1,CutK.of ⟨by simp[en],c1,by simp,by simp[e9],by simp,by simp,?_⟩⟩;have hn1:∀ k ∈ labs c1,k≠(h.ep+1+1,144):=fun k hk he=>by have:=(oc.new k hk).1;subst he;simp at this;omega
      refine⟨(oc.ow.frame fun k hk=>by simp[hn1 k hk]).join (o3.ow.frame fun k hk=>?_),List.nodup_append.2 ⟨oc.nd,o3.nd,fun a ha b hb' he=>?_⟩,fun k hk=>?_,(o3.same.trans oc.same).setBox (.inr (by simp<;>omega))⟩
      ·simp[hn9 k hk];exact oc.same.2 k (o3.new k hk).2 (by simp)
      ·subst he
       have:=(oc.new a ha).1
       have:=(o3.new a hb').2
       omega
      ·simp
       have:=o3.same.1
       rcases List.mem_append.1 hk with h9 | h9
       ·have:=oc.new k h9;omega
       ·have:=o3.new k h9;omega
     ·rintro e2 h2 ⟨en,c1,e8,e9,e10,b9,o4⟩;simp[en,e8,e9,e10,b9,ht4,retH,resVs,resV,notTup];exact hk _ _ (labs c1) ls _ o4 (o4.same.boxLe hg)
theorem Zom {h:HS} {c:C} {cs:List C} {x:D} {ds:List D} (f:FrzCs h (c::cs) (x::ds)):Frz h c x∧FrzCs h cs ds:=f
theorem Zgr (g_:Gr) (t:Txn) (table:ByteArray) (key:List GV) (r:List GV × Txn × Int) (hm:Is (Z5q g_ t table key) r) :
  PSpec Tryz.prog 18 [.agg g_.enc,.agg t.enc,.one (.d (.str table)),.one (.d (.sl (key.map GV.enc)))] (.tup [.one (.d (.sl (r.1.map GV.enc))),.agg (r.2.1.enc.map RC.d),.one (.d (.int .i64 r.2.2))]):=by
 refine PSpec.of_heap (Zgj HS.init g_ t table key r hm _ fun c cs l1 ls h' o hb=>?_);obtain⟨f1,f2⟩:=Zom o.ow.frz;exact⟨f1,Zfl f2,Frz.data rfl,trivial⟩
end
section
open Go.Am
instance i_txn_Apply (g_:Gr) (t:Txn) (changes:List Chg):Con (Z0d g_ t changes) Tryz.prog 14 [.agg g_.enc,.agg t.enc,.one (.d (.sl (changes.map Chg.enc)))] (fun r=>.tup [.agg (r.1.enc.map RC.d),.one (.d (.int .i64 r.2))]):=⟨fun r hm=>Zhu g_ t changes r hm⟩
instance i_txn_Lookup (g_:Gr) (t:Txn) (table:ByteArray) (key:List GV):Con (Z5q g_ t table key) Tryz.prog 18 [.agg g_.enc,.agg t.enc,.one (.d (.str table)),.one (.d (.sl (key.map GV.enc)))] (fun r=>.tup [.one (.d (.sl (r.1.map GV.enc))),.agg (r.2.1.enc.map RC.d),.one (.d (.int .i64 r.2.2))]):=⟨fun r hm=>Zgr g_ t table key r hm⟩
def Z1f (s1:List ByteArray) (s2:List ByteArray):Option Bool:=
 (bif ((s1.length:Int) != (s2.length:Int)) then (some false) else (forK (fun (i5:Nat) (x5:ByteArray) (s5:Unit) next_5=>(getK s2 (i5:Int) fun x6=>(bif !(strEq x5 x6) then (some false) else (next_5 ())))) (fun (s5:Unit)=>(some true)) s1 0 ()))
instance c_slices_Equal_String (s1:List ByteArray) (s2:List ByteArray):Con (Z1f s1 s2) Tryz.prog 22 [.one (.d (.sl (s1.map encS))),.one (.d (.sl (s2.map encS)))] (fun r=>.one (.d (.bool r))):=by
 unfold Z1f;have l1:LH (σ:=Unit) 13 [0,1,12] []:=.intro;have p1:PH [6] (Plan.then_ [0,1,2,3,4,5,6,7,8] .done):=.intro;exact go 26 Tryz.func22 rfl (by kernel_rfl) rfl rfl (by simp)
def Zaa (g_:Gr) (db:Db) (v_:Int):Option (Txn × Int):=
 (bindK (Z75 g_ db v_) fun v4=>(bif (v4.2 != 0) then (some ((Txn.mk 0 [] [] []),v4.2)) else (some ((Txn.mk v_ v4.1 [] []),0))))
instance c_txn_Begin (g_:Gr) (db:Db) (v_:Int):Con (Zaa g_ db v_) Tryz.prog 42 [.agg g_.enc,.agg db.enc,.one (.d (.int .i64 v_))] (fun r=>.tup [.agg (r.1.enc.map RC.d),.one (.d (.int .i64 r.2))]):=by
 unfold Zaa;exact go 24 Tryz.func42 rfl (by kernel_rfl) rfl rfl (by simp)
def Z0p:Option Bool:=
 (bindK (Z4l) fun v1=>(bindK (Z69 v1) fun v3=>(bif (v3.2 != 0) then (some false) else (bindK (Zaa v1 v3.1 0) fun v6=>(bif (v6.2 != 0) then (some false) else (bindK (Z61 [3,4]) fun v9=>(bindK (Z0d v1 v6.1 [v9]) fun v10=>(bif (v10.2 != 0) then (some false) else (bindK (Z4v [3]) fun v12=>(bindK (Z5q v1 v10.1 ({ data:=#[116] }) v12) fun v13=>(bif (v13.2.2 == 0) then (bindK (Z4v [3,4]) fun v15=>(bindK (Z0l v13.1 v15) fun v16=>(bif v16 then (bindK (Z1f v13.2.1.tables [{ data:=#[116] }]) fun v18=>(some v18)) else (some false)))) else (some false))))))))))))
instance c_stemkeep1_txnWorks  : Con (Z0p) Tryz.prog 13 [] (fun r=>.one (.d (.bool r))):=by
 unfold Z0p;have p1:PH [8] (Plan.then_ [0,1,2,3,4,5,6,7,8,9,10] .done):=.intro;have p2:PH [11] (Plan.then_ [0,1,2,3,4,5,6,7,8,9,10,11] .done):=.intro;exact go 56 Tryz.func13 rfl (by kernel_rfl) rfl rfl (by simp)
def Z4h (g_:Gr) (t:Txn) (c:Chg):Option Bool:=
 (bindK (Z0p) fun v4=>(bif !v4 then (bindK (Z0p) fun v6=>(some v6)) else (bindK (Z0y g_ (Db.mk [t.snapshot] []) t.changes) fun v7=>(bif !v7 then (bindK (Z0p) fun v9=>(some v9)) else (bindK (Z0d g_ t [c]) fun v10=>(bif (v10.2 != 0) then (some true) else (bindK (Z1k g_ t.version) fun v13=>(bindK (Z05 v13.1 c.table) fun v15=>(bif !v15.2 then (some false) else (bif (c.kind == 1) then (getK v13.1.tables v15.1 fun x18=>(bindK (Z2o x18 c.row) fun v19=>(bindK (Z5q g_ v10.1 c.table v19) fun v20=>(bif (v20.2.2 == 0) then (bindK (Z0l v20.1 c.row) fun v23=>(some v23)) else (some false))))) else (bindK (Z5q g_ v10.1 c.table c.key) fun v24=>(bif (v24.2.2 == 0) then (bindK (Z0l v24.1 c.row) fun v27=>(some v27)) else (some false)))))))))))))
instance c_stemkeep1_TxnReadsOwnWrites (g_:Gr) (t:Txn) (c:Chg):Con (Z4h g_ t c) Tryz.prog 4 [.agg g_.enc,.agg t.enc,.agg c.enc] (fun r=>.one (.d (.bool r))):=by
 unfold Z4h;have p1:PH [12] (Plan.then_ [0,1,2,3,4,5,6,7,8] .done):=.intro;exact go 87 Tryz.func4 rfl (by kernel_rfl) rfl rfl (by simp)
end
section
open Go Go.Am
set_option maxRecDepth 100000 in
theorem Zo2:Z0p=some true:=by decide +kernel
theorem w_verS (g:Gr) (hx:∀ e ∈ g.edges,∀ x ∈ e.script,SmallX x) (v:Int):Wp (Z1k g v) fun q=>q.2=0→VS q.1:=by
 unfold Z1k;refine Wp.bind (Zan g hx) fun q hq0 hq=>Wp.cond (fun h=>Wp.ret fun h0=>?_) fun h1=>Wp.cond (fun _=>Wp.ret (by simp)) fun h2=>Wp.cond (fun _=>Wp.ret (by simp)) fun h3=>?_
 ·simp only at h0;rw[h0] at h;cases h
 have a2:0≤v:=by simpa using h2
 have a3:v < q.1.length:=by simpa using h3
 exact Wp.get a2 a3 fun S hS hm=>Wp.ret fun _=>(hq (by simpa using h1)).vs S hm
theorem w_Cur (g:Gr) (hx:∀ e ∈ g.edges,∀ x ∈ e.script,SmallX x) (t:Txn):Wp (Z1m g t) fun q=>q.2=0→∃ S,Z1k g t.version=some (S,0)∧VS S∧CF S q.1∧Runs S t.snapshot t.changes q.1:=by
 unfold Z1m;refine Wp.bind (w_verS g hx t.version) fun r hr0 hr=>Wp.cond (fun h=>Wp.ret fun h0=>?_) fun h=>?_
 ·simp only at h0;rw[h0] at h;cases h
 obtain⟨S,e⟩:=r;obtain rfl:e=0:=by simpa using h
 exact Wp.bind (Zbf (hr rfl) t.snapshot t.changes) fun q _ hq=>Wp.ret fun h0=>⟨S,hr0,hr rfl,(hq h0).2.2.1,(hq h0).2.2.2⟩
structure TxB (B:Nat) (t:Txn):Prop where
 sl:t.snapshot.length≤1048576
 sr:∀ r ∈ t.snapshot,r.rows.length≤1048576∧∀ row ∈ r.rows,row.length≤1048576
 tl:t.tables.length≤B
 cl:t.changes.length≤B
 cr:∀ x ∈ t.changes,x.key.length≤1048576∧x.row.length≤1048576
def ChB (cs:List Chg):Prop:=∀ x ∈ cs,x.key.length≤1048576∧x.row.length≤1048576
theorem Zr0 (t:Txn) (a:List ByteArray) (b:List Chg):(extF t a b).tables.length≤t.tables.length+a.length:=by
 have:=Zgp (sortB (t.tables++a))
 rw[Z8t,List.length_append] at this;exact this
theorem TxB.ex {B:Nat} {t:Txn} (h:TxB B t) {a:List ByteArray} {cs:List Chg} (hc:ChB cs) (ha:B+a.length≤2097152) (hl:B+cs.length≤2097152):ExOK t a cs:=by
 refine⟨⟨by have:=h.sl;omega,fun r hr=>⟨by have:=(h.sr r hr).1;omega,fun row hrow=>by have:=(h.sr r hr).2 row hrow;omega⟩⟩,⟨by have:=h.cl;simp;omega,fun x hx=>?_⟩,by have:=h.tl;omega⟩;rcases List.mem_append.1 hx with h9 | h9
 ·have:=h.cr x h9;omega
 ·have:=hc x h9;omega
theorem TxB.step {B B':Nat} {t:Txn} (h:TxB B t) {a:List ByteArray} {cs:List Chg} (hc:ChB cs) (ha:B+a.length≤B') (hl:B+cs.length≤B'):TxB B' (extF t a cs):=by
 refine⟨h.sl,h.sr,by have:=Zr0 t a cs;have:=h.tl;omega,by have:=h.cl;simp[extF];omega,fun x hx=>?_⟩;rcases List.mem_append.1 hx with h9 | h9
 ·exact h.cr x h9
 ·exact hc x h9
end
section
open Go.Am
instance i_slices_Concat_Change (slices:List (List Chg)):Con (Z17 slices) Tryz.prog 20 [.one (.d (.sl (slices.map (encL Chg.enc))))] (fun r=>.one (.d (.sl (r.map Chg.enc)))):=⟨fun r hm=>Z8o slices r hm⟩
end
end Go.Proofs.YthiojhcimecdgaaGreatDoor
section
namespace Go.Am
open Go
def firstC (md:Region.Mode) (ops:Array Oper) (listed:Array Bool) (i:Nat):Bool:=
 match ops[i]? with
 | none=>false
 | some oi=>
   let w:=waitsN md ops i 1 []
   Z48 oi.op && (Region.ready md ops listed).contains i && waitsB md ops i w && w.all (fun j=>!listed.getD j true) && (List.range ops.size).all fun j=>j == i || listed.getD j true || w.contains j || match ops[j]? with
    | some oj=>oi.apart ops oj && (!storeKind oj.op || !loadKind oi.op)
    | none=>true
def chainB (md:Region.Mode) (ops:Array Oper):List Nat→Nat→Array Bool→Bool
 | [],f,listed=>f == 0 && (Region.ready md ops listed).isEmpty
 | _::_,0,_=>false
 | i::p,f+1,listed=>(Region.ready md ops listed == [i] || firstC md ops listed i) && chainB md ops p f (listed.setIfInBounds i true)
theorem Z9z {P:Program} {md:Region.Mode} {ops:Array Oper} {K:Env→HS→Prop}:∀ (p:List Nat) (f:Nat) (listed:Array Bool) (e:Env) (h:HS),chainB md ops p f listed=true →
  vcPlan P ops.toList K (Plan.then_ p .done) e h→vcAny P md ops K f listed e h
 | [],f,listed,e,h,hB,hv=>by
   unfold chainB at hB;simp only[Bool.and_eq_true,beq_iff_eq] at hB;obtain⟨rfl,hB⟩:=hB;exact⟨by simpa using hB,fun _=>hv⟩
 | i::p,0,listed,e,h,hB,hv=>by unfold chainB at hB;cases hB
 | i::p,f+1,listed,e,h,hB,hv=>by
   unfold chainB at hB;simp only[Bool.and_eq_true,Bool.or_eq_true] at hB;obtain⟨hB,hrest⟩:=hB;have ih:=fun e h=>Z9z (P:=P) (K:=K) p f (listed.setIfInBounds i true) e h hrest;have hmem:i ∈ Region.ready md ops listed:=by
    rcases hB with hB | hB
    ·rw[eq_of_beq hB];simp
    ·unfold firstC at hB;split at hB
     ·cases hB
     ·simp only[Bool.and_eq_true] at hB;simpa using hB.1.1.1.2
   obtain⟨o,ho,hck,hv'⟩:=Z1s hmem hv;rw[hck] at hv'
   by_cases hR:Real e h
   ·rcases hB with hB | hB
    ·intro _;refine⟨fun h0=>(by rw[h0] at hmem;cases hmem),fun j hj=>?_⟩;rw[eq_of_beq hB] at hj
     have:j=i:=by simpa using hj
     subst this;exact⟨o,ho,Z26 hR (fun e' h' hk=>⟨hk.1,ih e' h' hk.2⟩) hv'⟩
    ·unfold firstC at hB;simp only[ho,Bool.and_eq_true] at hB;obtain⟨⟨⟨⟨hp,_⟩,hwB⟩,hwl⟩,hall⟩:=hB;obtain⟨v,hk,hR',hg⟩:=Z9f hp hR hv';generalize waitsN md ops i 1 []=w at hwB hwl hall;refine Zd4 (fun j=>w.contains j) ho hp (fun j hj=>?_) f listed e h (fun j hj=>?_) (fun j oj hj hne hun hno=>?_) hmem hg (ih _ _ hk.2)
     ·have h1:=List.all_eq_true.1 hwB j (by simpa using hj);split at h1
      ·rename_i o ho';obtain⟨x,hx,hb⟩:=Array.any_eq_true'.1 h1;simp only[Bool.and_eq_true,Bool.or_eq_true,beq_iff_eq] at hb;exact⟨o,ho',x,hx,hb.1,hb.2⟩
      ·cases h1
     ·have h1:=List.all_eq_true.1 hwl j (by simpa using hj);simpa using h1
     ·have h1:=List.all_eq_true.1 hall j (List.mem_range.2 (Array.getElem?_eq_some_iff.1 hj).1);simp only[hj,Bool.or_eq_true,beq_iff_eq,hne,false_or,hun,Bool.false_eq_true,hno] at h1;simp only[Bool.and_eq_true,Bool.or_eq_true,Bool.not_eq_true'] at h1;exact h1
   ·exact fun hR'=>absurd hR' hR
theorem Wait.chain {P:Program} {id:Nat} {ops:Array Oper} {Q:Exit→Env→HS→Prop} {e:Env} {h:HS} (l:List Nat) (hm:P.follows .mixedOrders=true)
  (hB:chainB .any ops l ops.size (Array.replicate ops.size false)=true) (J:Env→HS→Prop) (h1:vcPlan P ops.toList (fun e h=>CutK (J:=⟨J⟩) e h) (Plan.then_ l .done) e h) (h2:∀ e h,J e h→Q .normal e h) :
  Wait P (c:=⟨.region id ops true⟩) (Q:=⟨Q⟩) e h:=by
 refine SWP.mono (Q:=fun x e h=>match x with | .normal=>J e h | _=>False) (fun Γ a w μ hI hE=>wp_region_any hm (Za4 (Γ:=Γ) (fun e' h' μ' a' w' hk hI' hE' hle=>⟨e',h',μ',hk,hI',hE',hle⟩) ops.size _ (hI.drew) hE (.refl μ) (Z9z l _ _ e h hB h1))) ?_;intro x e h hq;cases x with
 | normal=>exact h2 e h hq
 | _=>exact hq.elim
end Go.Am
namespace Go.Proofs.YthiojhcimecdgaaGreatDoor
open Go Go.Am
def m_eqC (x y:Chg):Option Bool:=bif x.kind != y.kind then some false else bif !(strEq x.table y.table) then some false else bindK (Z0l x.key y.key) fun v=>bif !v then some false else Z0l x.row y.row
def Z0x (a b:List Chg):Option Bool:=
 bif ((a.length:Int) != (b.length:Int)) then some false else forK (fun (i:Nat) (x:Chg) (s:Unit) next=>getK b (i:Int) fun y=>bindK (m_eqC x y) fun v=>bif !v then some false else next ()) (fun _=>some true) a 0 ()
theorem Z8f (a b:List Chg) (r:Bool) (hm:Is (Z0x a b) r):PSpec Tryz.prog 21 [.one (.d (.sl (a.map Chg.enc))),.one (.d (.sl (b.map Chg.enc)))] (.one (.d (.bool r))):=by
 unfold Z0x at hm;refine PSpec.of_vc Tryz.func21 rfl (by kernel_rfl) (n:=69) rfl rfl (by simp) ?_;simp;intro hl1 hl2;refine r_cond hm ?_ ?_<;>clear hm<;>intro hc3 hm
 ·simp[*];obtain rfl:=r_ret hm;exact ret0 (vs:=[_]) (by simp[*];try exact rfl) (by simp[*])
 ·simp[*];refine Wait.for (xs:=a) (s0:=()) (fun i s e h=>e.n=69∧e.get 0=.one (.d (.sl (a.map Chg.enc)))∧e.get 1=.one (.d (.sl (b.map Chg.enc)))∧e.get 12=.one (.d (.int .i64 (a.length:Int)))∧e.get 13=.one (.d (.int .i64 (i:Int)))) hm (by simp[*]) ?_ ?_
  ·rintro i s e h ⟨hn,e0,e1,e12,e13⟩ hlt hm;have hw:IntKind.i64.wrap ((i:Int)+1)=(i:Int)+1:=IntWalk.i64_in _ (by omega);replace hm:=hm.getN;obtain⟨y,hy,hm⟩:=hm;obtain⟨hyl,hye⟩:=List.getElem?_eq_some_iff.1 hy;obtain⟨v,hv,hm⟩:=hm.bind;simp[*];refine Wait.chain [0,1,2,3,4,5,6,7,8,9,10,11,12,13,14,15,16,17,18,19,20,21,22,23,24,25,26,27,28,29,30,31,32,33,34,35,36,37,38,39,40,41,42,43,44,45,46,47,48,49,50,51] follows (by kernel_rfl)
    (fun e1 h1=>e1.n=69∧e1.get 0=.one (.d (.sl (a.map Chg.enc)))∧e1.get 1=.one (.d (.sl (b.map Chg.enc)))∧e1.get 12=.one (.d (.int .i64 (a.length:Int)))∧e1.get 13=.one (.d (.int .i64 (i:Int)))∧e1.get 67=.one (.d (.bool (!v)))) ?_ ?_
   ·unfold m_eqC at hv;cases hk1:(a[i].kind != y.kind)<;>simp only[hk1,cond_true,cond_false] at hv;rotate_left
    ·obtain rfl:=r_ret hv;simp[*,Plan.then_,vcPlan,Z02,Z00,callKind]
     repeat' first | exact CutK.of (by simp[*]) | refine⟨fun _ _ x=>x,?_⟩
    cases hk2:(!(strEq a[i].table y.table))<;>simp only[hk2,cond_true,cond_false] at hv;rotate_left
    ·obtain rfl:=r_ret hv;simp at hk2;simp[*,Plan.then_,vcPlan,Z02,Z00,callKind]
     repeat' first | exact CutK.of (by simp[*]) | refine⟨fun _ _ x=>x,?_⟩
    obtain⟨v1,hv1,hv⟩:=hv.bind;simp at hk2;cases hk3:v1<;>simp only[hk3,Bool.not_true,Bool.not_false,cond_true,cond_false] at hv
    ·obtain rfl:=r_ret hv;simp[*,Plan.then_,vcPlan,Z02,Z00,callKind];refine Z0a ((c_stemref1_EqualRow a[i].key y.key).h v1 hv1) (by simp) ?_;simp[*,Plan.then_,vcPlan,Z02,Z00,callKind]
     repeat' first | exact CutK.of (by simp[*]) | refine⟨fun _ _ x=>x,?_⟩
    ·simp[*,Plan.then_,vcPlan,Z02,Z00,callKind];refine Z0a ((c_stemref1_EqualRow a[i].key y.key).h v1 hv1) (by simp) ?_;simp[*,Plan.then_,vcPlan,Z02,Z00,callKind]
     try refine⟨fun _ _ x=>x,?_⟩
     try simp[*,Plan.then_,vcPlan,Z02,Z00,callKind]
     refine Z0a ((c_stemref1_EqualRow a[i].row y.row).h v hv) (by simp) ?_;simp[*,Plan.then_,vcPlan,Z02,Z00,callKind]
     repeat' first | exact CutK.of (by simp[*]) | refine⟨fun _ _ x=>x,?_⟩
   ·rintro e1 h1 ⟨hn,e0,e1',e12,e13,e67⟩;simp[hn,e0,e1',e12,e13,e67];refine r_cond hm ?_ ?_<;>clear hm<;>intro hc4 hm
    ·simp[*];obtain rfl:=r_ret hm;exact ret0 (vs:=[_]) (by simp[*];try exact rfl) (by simp[*])
    ·simp[hn,hc4,e13,hw];exact BackF.of () ⟨by simp[*],hm⟩
  ·rintro s e h ⟨hn,e0,e1,e12,e13⟩ hm;simp[hn,e12,e13];obtain rfl:=r_ret hm;exact ret0 (vs:=[_]) (by simp[*];try exact rfl) (by simp[*])
end Go.Proofs.YthiojhcimecdgaaGreatDoor
end
namespace Go.Proofs.YthiojhcimecdgaaGreatDoor
section
open Go.Am
instance i_stemref1_EqualChanges (a:List Chg) (b:List Chg):Con (Z0x a b) Tryz.prog 21 [.one (.d (.sl (a.map Chg.enc))),.one (.d (.sl (b.map Chg.enc)))] (fun r=>.one (.d (.bool r))):=⟨fun r hm=>Z8f a b r hm⟩
set_option maxHeartbeats 2000000
def Z18 (g_:Gr) (t:Txn) (a:List Chg) (b:List Chg):Option Bool:=
 (bindK (Z0p) fun v3=>(bif !v3 then (bindK (Z0p) fun v5=>(some v5)) else (bindK (Z17 [t.changes,a,b]) fun v2006=>(bindK (Z0y g_ (Db.mk [t.snapshot] []) v2006) fun v2007=>(bif !v2007 then (bindK (Z0p) fun v2009=>(some v2009)) else (bindK (Z17 [a,b]) fun v2010=>(bindK (Z0d g_ t v2010) fun v2011=>(bindK (Z0d g_ t a) fun v2013=>(bif (v2013.2 != 0) then (some (v2011.2 != 0)) else (bindK (Z0d g_ v2013.1 b) fun v2016=>(bif (v2011.2 != 0) then (some (v2011.2 == v2016.2)) else (bif (v2016.2 != 0) then (some (v2011.2 == v2016.2)) else (bindK (Z0x v2011.1.changes v2016.1.changes) fun v2020=>(bif v2020 then (bindK (Z1f v2011.1.tables v2016.1.tables) fun v2022=>(bif v2022 then (bindK (Z1b v2011.1.snapshot v2016.1.snapshot) fun v2024=>(some v2024)) else (some false))) else (some false)))))))))))))))
instance c_stemkeep1_TxnApplyComposes (g_:Gr) (t:Txn) (a:List Chg) (b:List Chg):Con (Z18 g_ t a b) Tryz.prog 5 [.agg g_.enc,.agg t.enc,.one (.d (.sl (a.map Chg.enc))),.one (.d (.sl (b.map Chg.enc)))] (fun r=>.one (.d (.bool r))):=by
 unfold Z18;have p1:PH [1] (Plan.then_ [0,1,2,3,4,5,8,9,10,11] (.two 6 12 (Plan.then_ [] (.two 7 12 (Plan.then_ [12,13,14,15,16] .done) (Plan.then_ [] (.two 7 13 (Plan.then_ [13,14,15,16] .done) (Plan.then_ [7,14,15,16] .done))))) (Plan.then_ [] (.two 6 13 (Plan.then_ [] (.two 7 13 (Plan.then_ [13,14,15,16] .done) (Plan.then_ [7,14,15,16] .done))) (Plan.then_ [6,7,14,15,16] .done))))):=.intro;have p2:PH [3] (Plan.then_ [0,1,2,3] (.two 4 10 (Plan.then_ [] (.two 5 10 (Plan.then_ [] (.two 6 10 (Plan.then_ [7,8,9,10,11,12] .done) (Plan.then_ [6,7,8,9,11,12] .done))) (Plan.then_ [5,6,7,8,9,11,12] .done))) (Plan.then_ [4,5,6,7,8,9,11,12] .done))):=.intro;exact go 89 Tryz.func5 rfl (by kernel_rfl) rfl rfl (by simp)
end
section
open Go Go.Am
theorem Zhv {g:Gr} {db:Db} {cs:List Chg} (h:Z0y g db cs=some true):cs.length≤50:=by
 cases h4:decide (50 < (cs.length:Int)) with
 | false=>have:=of_decide_eq_false h4;omega
 | true=>
   unfold Z0y at h;rw[h4] at h;cases h1:decide (8 < (g.edges.length:Int))<;>rw[h1] at h
   ·cases h2:decide (9 < (db.insts.length:Int))<;>rw[h2] at h
    ·cases h3:decide (9 < (db.comps.length:Int))<;>rw[h3] at h<;>cases h
    ·cases h
   ·cases h
theorem Zip {α σ ρ:Type} {body:Nat→α→σ→(σ→Option ρ)→Option ρ} {k:σ→Option ρ}:∀ (xs ys:List α) (i:Nat) (s:σ),forK body k (xs++ys) i s=forK body (fun s=>forK body k ys (i+xs.length) s) xs i s
 | [],ys,i,s=>rfl
 | x::xs,ys,i,s=>by
   simp only[List.cons_append,forK,List.length_cons]
   congr 1
   funext s'
   rw[Zip xs ys (i+1) s']
   congr 1
   funext s2
   congr 1
   omega
theorem Zot {ρ:Type} {S:Sch} {x:Chg} {out:List Rel} {next:List Rel→Option ρ} {bad:Int→Option ρ} {r:ρ} (h:m_chg S x out next bad=some r) :
  (∃ out',next out'=some r∧∀ next',m_chg S x out next' bad=next' out')∨∀ next',m_chg S x out next' bad=some r:=by
 unfold m_chg bindK at h ⊢;cases h1:Z2k S x with
 | none=>rw[h1] at h;cases h
 | some e=>
   rw[h1] at h;simp only at h ⊢;cases h2:(e != 0) with
   | true=>rw[h2] at h;exact .inr fun _=>h
   | false=>
     rw[h2] at h;simp only[cond_false] at h ⊢;cases h3:Z05 S x.table with
     | none=>rw[h3] at h;cases h
     | some q=>
       rw[h3] at h;simp only at h ⊢;unfold getK bindK at h ⊢;split at h
       ·rename_i hq;cases h4:S.tables[q.1.toNat]? with
        | none=>rw[h4] at h;cases h
        | some T=>
          rw[h4] at h;cases h5:out[q.1.toNat]? with
          | none=>simp only[h5,hq,if_true] at h;cases h
          | some o=>
            simp only[h5,hq,if_true] at h ⊢;cases h6:(x.kind == 1) with
            | true=>
              simp only[h6,cond_true] at h ⊢;cases h7:Z3b T o.rows x.row with
              | none=>rw[h7] at h;cases h
              | some rows=>
                simp only[h7] at h ⊢;cases h8:decide ((24:Int) < rows.length) with
                | true=>simp only[h8,cond_true] at h ⊢;exact .inr fun _=>h
                | false=>simp only[h8,cond_false] at h ⊢;exact .inl ⟨_,h,fun _=>rfl⟩
            | false=>
              simp only[h6,cond_false] at h ⊢;cases h7:Z3c T o.rows x.key with
              | none=>rw[h7] at h;cases h
              | some d=>
                simp only[h7] at h ⊢;cases h8:!d.2 with
                | true=>simp only[h8,cond_true] at h ⊢;exact .inr fun _=>h
                | false=>simp only[h8,cond_false] at h ⊢;exact .inl ⟨_,h,fun _=>rfl⟩
       ·cases h
theorem Zms {S:Sch} {r:List Rel × Int} (he:r.2≠0) {k2:List Rel→Option (List Rel × Int)}:∀ (xs:List Chg) (i:Nat) (o:List Rel),forK (fun (i:Nat) (x:Chg) (out:List Rel) next=>m_chg S x out next fun e=>some ([],e)) (fun out=>some (out,0)) xs i o=some r →
  forK (fun (i:Nat) (x:Chg) (out:List Rel) next=>m_chg S x out next fun e=>some ([],e)) k2 xs i o=some r
 | [],i,o,h=>by simp only[forK,Option.some.injEq] at h;rw[← h] at he;exact absurd rfl he
 | x::xs,i,o,h=>by
   simp only[forK] at h ⊢;rcases Zot h with ⟨out',h1,h2⟩ | h1
   ·rw[h2];exact Zms he xs (i+1) out' h1
   ·exact h1 _
theorem Zmw {S:Sch} {inst:List Rel} {xs ys:List Chg} {r:List Rel × Int} (h:Z1j S inst xs=some r) (he:r.2≠0) (hl:(xs++ys).length≤24):Z1j S inst (xs++ys)=some r:=by
 have hx:decide ((24:Int) < xs.length)=false:=by simp at hl;simp;omega
 have hxy:decide ((24:Int) < (xs++ys).length)=false:=by simp at hl;simp;omega
 unfold Z1j at h ⊢;rw[hx] at h;rw[hxy];unfold bindK at h ⊢;cases h1:Z0i S with
 | none=>rw[h1] at h;cases h
 | some e=>
   rw[h1] at h;simp only at h ⊢;cases h2:(e != 0) with
   | true=>rw[h2] at h;exact h
   | false=>
     rw[h2] at h;simp only[cond_false] at h ⊢;cases h3:Z0b S inst with
     | none=>rw[h3] at h;cases h
     | some e2=>
       rw[h3] at h;simp only at h ⊢;cases h4:(e2 != 0) with
       | true=>rw[h4] at h;exact h
       | false=>
         rw[h4] at h;simp only[cond_false] at h ⊢;cases h5:Z0j inst with
         | none=>rw[h5] at h;cases h
         | some o=>
           rw[h5] at h;simp only at h ⊢;rw[Zip];exact Zms he xs 0 o h
theorem Zm2 (xs:List ByteArray):(sortB xs).map bys=sortL (xs.map bys):=by
 simp only[sortB,List.map_map];exact List.map_id _
theorem Zqq (xs:List ByteArray):compB (sortB xs)=(setL (xs.map bys)).map ofBys:=by rw[compB,Zm2];rfl
theorem Zoo (t:Txn) (ta tb:List ByteArray) (a b:List Chg):extF (extF t ta a) tb b=extF t (ta++tb) (a++b):=by
 simp only[extF,Zqq,List.append_assoc,Txn.mk.injEq,true_and,and_true];have e:∀ l:List BL,(l.map ofBys).map bys=l:=fun l=>by rw[List.map_map];exact List.map_id _
 rw[List.map_append,e,Zo7,← List.map_append,List.append_assoc]
theorem Zpa (a:List ByteArray):Wp (Z1f a a) fun b=>b=true:=by
 unfold Z1f;refine Wp.cond (fun h=>by simp at h) fun _=>Wp.for (fun _ _=>True) trivial ?_ fun _ _=>Wp.ret rfl;intro i x s next hx _ _ hn;exact Wp.getN hx (Wp.cond (fun h=>by simp[Zf5] at h) fun _=>hn () trivial)
theorem w_eqC (x:Chg):Wp (m_eqC x x) fun b=>b=true:=by
 unfold m_eqC;refine Wp.cond (fun h=>by simp at h) fun _=>Wp.cond (fun h=>by simp[Zf5] at h) fun _=>Wp.bind (Zbg x.key) fun v _ hv=>Wp.cond (fun h=>by simp[hv] at h) fun _=>Zbg x.row
theorem Ze7 (a:List Chg):Wp (Z0x a a) fun b=>b=true:=by
 unfold Z0x;refine Wp.cond (fun h=>by simp at h) fun _=>Wp.for (fun _ _=>True) trivial ?_ fun _ _=>Wp.ret rfl;intro i x s next hx _ _ hn;exact Wp.getN hx (Wp.bind (w_eqC x) fun v _ hv=>Wp.cond (fun h=>by simp[hv] at h) fun _=>hn () trivial)
theorem cur_eq (g:Gr) (t:Txn) {S:Sch} {e:Int} (hv:Z1k g t.version=some (S,e)):Z1m g t=bif e != 0 then some ([],e) else bindK (Z1j S t.snapshot t.changes) fun v=>some (v.1,v.2):=by
 unfold Z1m;rw[hv];rfl
theorem law31 (g:Gr) (t:Txn) (a b:List Chg) (hx:∀ e ∈ g.edges,∀ x ∈ e.script,SmallX x) (ht:TxB 1048576 t) (ha:ChB a) (hb:ChB b) (hl:t.changes.length+a.length+b.length≤2097152):Z18 g t a b=some true:=by
 refine Wp.eq ?_;unfold Z18;rw[Zo2];show Wp (bindK (Z17 [t.changes,a,b]) _) _;have c3:Z17 [t.changes,a,b]=some (t.changes++(a++b)):=(if_pos (show [t.changes,a,b].flatten.length≤2097152 by simp;omega)).trans (by simp);have c2:Z17 [a,b]=some (a++b):=(if_pos (show [a,b].flatten.length≤2097152 by simp;omega)).trans (by simp);rw[c3];show Wp (bindK (Z0y g ⟨[t.snapshot],[]⟩ (t.changes++(a++b))) _) _;refine Wp.bind (Zj4 g ⟨[t.snapshot],[]⟩ (t.changes++(a++b)) (by simp)) fun v hv0 _=>Wp.cond (fun _=>Wp.ret rfl) fun hv1=>?_;have hv2:v=true:=by simpa using hv1
 rw[hv2] at hv0;have h50:=Zhv hv0;simp only[List.length_append] at h50;rw[c2];show Wp (bindK (Z0d g t (a++b)) _) _;have hab:ChB (a++b):=fun x hx=>(List.mem_append.1 hx).elim (ha x) (hb x);have hexW:=ht.ex (a:=(a++b).map (·.table)) hab (by first | omega | (simp;omega)) (by first | omega | (simp;omega));have hexF:=ht.ex (a:=a.map (·.table)) ha (by first | omega | (simp;omega)) (by first | omega | (simp;omega));have htF:TxB 1048626 (extF t (a.map (·.table)) a):=ht.step ha (by first | omega | (simp;omega)) (by first | omega | (simp;omega));have hexS:=htF.ex (a:=b.map (·.table)) hb (by first | omega | (simp;omega)) (by first | omega | (simp;omega));have hcmp:extF (extF t (a.map (·.table)) a) (b.map (·.table)) b=extF t ((a++b).map (·.table)) (a++b):=by rw[Zoo,List.map_append]
 obtain⟨⟨S,e0⟩,hver,hS⟩:=w_verS g hx t.version;have apW:Z0d g t (a++b)=bif decide ((24:Int) < (t.changes.length:Int)+((a++b).length:Int)) then some (txZ,2) else bindK (Z1m g (extF t ((a++b).map (·.table)) (a++b))) fun r=>bif r.2 != 0 then some (txZ,r.2) else some (extF t ((a++b).map (·.table)) (a++b),0):=if_pos hexW;have apF:Z0d g t a=bif decide ((24:Int) < (t.changes.length:Int)+(a.length:Int)) then some (txZ,2) else bindK (Z1m g (extF t (a.map (·.table)) a)) fun r=>bif r.2 != 0 then some (txZ,r.2) else some (extF t (a.map (·.table)) a,0):=if_pos hexF;have apS:Z0d g (extF t (a.map (·.table)) a) b=bif decide ((24:Int) < ((t.changes++a).length:Int)+(b.length:Int)) then some (txZ,2) else bindK (Z1m g (extF t ((a++b).map (·.table)) (a++b))) fun r=>bif r.2 != 0 then some (txZ,r.2) else some (extF t ((a++b).map (·.table)) (a++b),0):=by rw[← hcmp];exact if_pos hexS
 have cW:=cur_eq g (extF t ((a++b).map (·.table)) (a++b)) (S:=S) (e:=e0) hver;have cF:=cur_eq g (extF t (a.map (·.table)) a) (S:=S) (e:=e0) hver;have hd:decide ((24:Int) < ((t.changes++a).length:Int)+(b.length:Int))=decide ((24:Int) < (t.changes.length:Int)+((a++b).length:Int)):=by congr 1;simp;omega
 rw[hd] at apS;have fin:∀ e2:Int,∀ X:Txn,Wp (bif e2 != 0 then some (e2 == e2) else bif e2 != 0 then some (e2 == e2) else bindK (Z0x X.changes X.changes) fun v=>bif v then bindK (Z1f X.tables X.tables) fun v=>bif v then bindK (Z1b X.snapshot X.snapshot) fun v=>some v else some false else some false) fun r=>r=true:=fun e2 X=>by
  refine Wp.cond (fun _=>Wp.ret (by simp)) fun _=>Wp.cond (fun _=>Wp.ret (by simp)) fun _=>Wp.bind (Ze7 _) fun v _ hv=>?_;subst hv;refine Wp.bind (Zpa _) fun v _ hv=>?_;subst hv;exact Wp.bind (Zd2 _) fun v _ hv=>Wp.ret hv
 cases hbig:decide ((24:Int) < (t.changes.length:Int)+((a++b).length:Int)) with
 | true=>
   rw[hbig] at apW apS;simp only[cond_true] at apW apS;rw[apW];show Wp (bindK (Z0d g t a) _) _;have apF':Wp (Z0d g t a) fun q=>q.2=0→q.1=extF t (a.map (·.table)) a:=by
    rw[apF];refine Wp.cond (fun _=>Wp.ret (by simp)) fun _=>Wp.bind (w_Cur g hx _) fun q _ _=>Wp.cond (fun h=>Wp.ret fun h0=>?_) fun _=>Wp.ret fun _=>rfl;simp only at h0;rw[h0] at h;cases h
   refine Wp.bind apF' fun q _ hq=>Wp.cond (fun _=>Wp.ret rfl) fun h=>?_;rw[hq (by simpa using h),apS];exact Wp.ret rfl
 | false=>
   rw[hbig] at apW apS;have hsm:decide ((24:Int) < (t.changes.length:Int)+(a.length:Int))=false:=by simp at hbig;simp;omega
   rw[hsm] at apF;simp only[cond_false] at apW apF apS;cases he:(e0 != 0) with
   | true=>
     rw[he] at cW cF;simp only[cond_true] at cW cF;have apW':Z0d g t (a++b)=some (txZ,e0):=by rw[apW,cW];show (bif e0 != 0 then _ else _)=_;rw[he];rfl
     have apF':Z0d g t a=some (txZ,e0):=by rw[apF,cF];show (bif e0 != 0 then _ else _)=_;rw[he];rfl
     rw[apW'];show Wp (bindK (Z0d g t a) _) _;rw[apF'];show Wp (bif e0 != 0 then some (e0 != 0) else _) _;rw[he];exact Wp.ret rfl
   | false=>
     have h0:e0=0:=by simpa using he
     subst h0;simp only[he,cond_false] at cW cF;have hVS:=hS rfl;obtain⟨⟨o1,e1⟩,h1,_⟩:=Zbf hVS t.snapshot (t.changes++a);obtain⟨⟨o2,e2⟩,h2,_⟩:=Zbf hVS t.snapshot (t.changes++(a++b));have cW':Z1m g (extF t ((a++b).map (·.table)) (a++b))=some (o2,e2):=by rw[cW];show bindK (Z1j S t.snapshot (t.changes++(a++b))) _=_;rw[h2];rfl
     have cF':Z1m g (extF t (a.map (·.table)) a)=some (o1,e1):=by rw[cF];show bindK (Z1j S t.snapshot (t.changes++a)) _=_;rw[h1];rfl
     rw[cW'] at apW apS;rw[cF'] at apF;have apW':Z0d g t (a++b)=bif e2 != 0 then some (txZ,e2) else some (extF t ((a++b).map (·.table)) (a++b),0):=apW;have apS':Z0d g (extF t (a.map (·.table)) a) b=bif e2 != 0 then some (txZ,e2) else some (extF t ((a++b).map (·.table)) (a++b),0):=apS;have apF':Z0d g t a=bif e1 != 0 then some (txZ,e1) else some (extF t (a.map (·.table)) a,0):=apF;clear apW apS apF cW cF cW' cF' hcmp hexW hexF hexS htF;generalize extF t ((a++b).map (·.table)) (a++b)=X at apW' apS';generalize extF t (a.map (·.table)) a=F at apF' apS';cases h3:(e1 != 0) with
     | true=>
       have h4:=Zmw (ys:=b) h1 (by simpa using h3) (by simp at hbig;simp;omega);rw[List.append_assoc,h2] at h4;simp only[Option.some.injEq,Prod.mk.injEq] at h4;obtain⟨rfl,rfl⟩:=h4;rw[h3] at apW' apF';rw[apW'];show Wp (bindK (Z0d g t a) _) _;rw[apF'];show Wp (bif e2 != 0 then some (e2 != 0) else _) _;rw[h3];exact Wp.ret rfl
     | false=>
       rw[h3] at apF';cases h5:(e2 != 0) with
       | true=>
         rw[h5] at apW' apS';rw[apW'];show Wp (bindK (Z0d g t a) _) _;rw[apF'];show Wp (bindK (Z0d g F b) _) _;rw[apS'];exact fin e2 txZ
       | false=>
         rw[h5] at apW' apS';rw[apW'];show Wp (bindK (Z0d g t a) _) _;rw[apF'];show Wp (bindK (Z0d g F b) _) _;rw[apS'];exact fin 0 X
theorem Zr5 (g:Gr) (t:Txn) (a b:List Chg) (r:Bool) (hm:Is (Z18 g t a b) r):PSpec Tryz.prog 5 [.agg g.enc,.agg t.enc,.one (.d (.sl (a.map Chg.enc))),.one (.d (.sl (b.map Chg.enc)))] (.one (.d (.bool r))):=(c_stemkeep1_TxnApplyComposes g t a b).h r hm
end
end Go.Proofs.YthiojhcimecdgaaGreatDoor
namespace Go.Proofs.YthiojhcimecdgaaGreatDoor.txnApplyComposes
section
open Go Go.Am Go.ChangeShapes Go.WideShapes Go.ChangeAt Go.RowKit
theorem own:ownKnob Tryz.prog.godebug=none:=by kernel_rfl
theorem laid:laidOutB Tryz.prog=true:=by kernel_rfl
def plain:List TypeId:=[35,32,28,66,9,63,111,3,4,64,29,116,30,114,46,33,122,120,118,52,39,42,40,44,49,50,54]
theorem Zct:plainB Tryz.prog plain=true:=by kernel_rfl
theorem small {g:Gr} (h:bd35 1048576 g):∀ e ∈ g.edges,∀ x ∈ e.script,SmallX x:=by
 intro e he x hx;have h1:=(h.2.2 e he).2.2 x hx;obtain⟨_,_,_,_,_,_,hc,_,_,ht,_,hf⟩:=h1;exact⟨hc.1,ht.2.1.1,ht.2.2.1,hf.2.1.1⟩
theorem txB {t:Txn} (y:bd52 1048576 t):TxB 1048576 t:=⟨y.2.1.1,fun r hr=>⟨(y.2.1.2 r hr).2.1,fun row hrow=>((y.2.1.2 r hr).2.2 row hrow).1⟩,y.2.2.1.1,y.2.2.2.1,fun x hx=>⟨((y.2.2.2.2 x hx).2.2.1).1,((y.2.2.2.2 x hx).2.2.2).1⟩⟩
theorem chB {cs:List Chg} (y:bd50 1048576 cs):ChB cs:=fun x hx=>⟨((y.2 x hx).2.2.1).1,((y.2 x hx).2.2.2).1⟩
theorem lenC3 {t:Txn} {a b:List Chg} (k:blkL t.enc+blkL [D.sl (a.map Chg.enc)]+blkL [D.sl (b.map Chg.enc)]≤1048576):t.changes.length+a.length+b.length≤2097152:=by
 have e1:=Zbe (t.changes.map Chg.enc);have e2:=Zbe (a.map Chg.enc);have e3:=Zbe (b.map Chg.enc);have e4:blkL t.enc=blkD (.int .i64 t.version)+(blkLL (t.snapshot.map Rel.enc)+(blkLL (t.tables.map encS)+(blkLL (t.changes.map Chg.enc)+0))):=rfl;have e5:blkL [D.sl (a.map Chg.enc)]=blkLL (a.map Chg.enc)+0:=rfl;have e6:blkL [D.sl (b.map Chg.enc)]=blkLL (b.map Chg.enc)+0:=rfl;rw[List.length_map] at e1 e2 e3;omega
set_option maxRecDepth 100000 in
theorem Zoq (H:Type) (enc:TypeId × Value→H) (W:World) (base:Nat) (args:Array Value) (ds gs:List (DataW H)) (before:List MemPlace)
  (hval:∀ (j:Nat) t v,Tryz.f5.params[j]?=some t→args[j]?=some v→Value.okWide Tryz.prog W .any base t v)
  (hW:DataW.Whole enc Tryz.prog Tryz.f5.params.toList Rows.txnApplyComposesSpec.vars false W args.toList ds gs before) (hk:Rows.uptoSmall H (ds++gs)=true) (hL:laidMetH Tryz.prog Rows.txnApplyComposesUptoRow.laid W) (hsh:W.ShapedOpen Tryz.prog) :
  Calls Tryz.prog 5 args W fun e W'=>∃ v,e=.returned v∧Rows.txnApplyComposesSpec.post enc Tryz.prog Tryz.f5 false true false false W args v W':=by
 have hW':=hW;have hlt:=hW.lt;obtain⟨p,q,hA0,hV,rfl,hfz,hnd⟩:=hW;have hA:DataW.TrodAll enc Tryz.prog W 0 (fun _=>true) true Tryz.f5.params.toList args.toList ds p:=hA0;rw[Tryz.params5] at hA hval;obtain⟨v0,vs0,d0,ds0,p0,q0,hargs,rfl,rfl,h0,r0⟩:=trodAll_cons hA;obtain⟨v1,vs1,d1,ds1,p1,q1,rfl,rfl,rfl,h1,r1⟩:=trodAll_cons r0;obtain⟨v2,vs2,d2,ds2,p2,q2,rfl,rfl,rfl,h2,r2⟩:=trodAll_cons r1;obtain⟨v3,vs3,d3,ds3,p3,q3,rfl,rfl,rfl,h3,r3⟩:=trodAll_cons r2;obtain⟨rfl,rfl,rfl⟩:=trodAll_nil r3;obtain rfl:args=#[v0,v1,v2,v3]:=by cases args;simp_all
 obtain⟨rfl,rfl⟩:=trodVars_none hV;have hb:=of_decide_eq_true hk;simp only[List.append_nil,Rows.uptoBulkAll] at hb;obtain⟨cs0,rfl,_⟩:=okWide_struct Tryz.underlying35 (hval 0 35 v0 rfl rfl);obtain⟨cs1,rfl,_⟩:=okWide_struct Tryz.underlying52 (hval 1 52 v1 rfl rfl);obtain⟨a2,len2,cap2,rfl⟩:=okWide_slice Tryz.underlying50 (hval 2 50 v2 rfl rfl);obtain⟨a3,len3,cap3,rfl⟩:=okWide_slice Tryz.underlying50 (hval 3 50 v3 rfl rfl);have h0k:=h0;have h1k:=h1;have h2k:=h2;have h3k:=h3;obtain⟨n0,hn0⟩:=h0;obtain⟨n1,hn1⟩:=h1;obtain⟨n2,hn2⟩:=h2;obtain⟨n3,hn3⟩:=h3;obtain⟨e0,hr0,ht0,hk0⟩:=Zaz (B:=1048576) Zct (by decide) n0 35 _ _ (by decide) hn0 (by simp only;omega);have k0:blkL e0+1≤1048576:=by
  simp only at hk0;omega
 obtain⟨e1,hr1,ht1,hk1⟩:=Zaz (B:=1048576) Zct (by decide) n1 52 _ _ (by decide) hn1 (by simp only;omega);have k1:blkL e1+1≤1048576:=by
  simp only at hk1;omega
 obtain⟨e2,hr2,ht2,hk2⟩:=Zaz (B:=1048576) Zct (by decide) n2 50 _ _ (by decide) hn2 (by simp only;omega);have k2:blkL e2+1≤1048576:=by
  simp only at hk2;omega
 obtain⟨e3,hr3,ht3,hk3⟩:=Zaz (B:=1048576) Zct (by decide) n3 50 _ _ (by decide) hn3 (by simp only;omega);have k3:blkL e3+1≤1048576:=by
  simp only at hk3;omega
 have kk:blkL e0+blkL e1+blkL e2+blkL e3≤1048576:=by
  simp only at hk0 hk1 hk2 hk3;omega
 obtain⟨x0,rfl,y0⟩:=dec35 ht0;obtain⟨x1,rfl,y1⟩:=dec52 ht1;obtain⟨x2,rfl,y2⟩:=dec50 ht2;obtain⟨x3,rfl,y3⟩:=dec50 ht3;have hS:=Zr5 x0 x1 x2 x3 true (law31 x0 x1 x2 x3 (small y0) (txB y1) (chB y2) (chB y3) (lenC3 (by omega)));refine (hS.2 W (cellsOf W) (fun _ _=>none) #[.agg cs0,.agg cs1,.slice a2 len2 cap2,.slice a3 len3 cap3] (gok_of rfl hL hsh) (fun _ _ _ h=>h) (fun _ _ _ h=>by cases h) ?_).mono fun e W' hpost=>?_
 ·refine⟨rfl,fun i a hi=>?_⟩
  match i with
  | 0=>
    cases hi;refine⟨.agg cs0,rfl,cs0,rfl,by simpa[Value.cells] using hr0.1,fun j x hj=>?_⟩;obtain⟨u,hu1,hu2⟩:=hr0.2 j x hj;exact⟨u,by simpa[Value.cells] using hu1,hu2⟩
  | 1=>
    cases hi;refine⟨.agg cs1,rfl,cs1,rfl,by simpa[Value.cells] using hr1.1,fun j x hj=>?_⟩;obtain⟨u,hu1,hu2⟩:=hr1.2 j x hj;exact⟨u,by simpa[Value.cells] using hu1,hu2⟩
  | 2=>
    cases hi;obtain⟨u,hu1,hu2⟩:=hr2.2 0 _ rfl;refine⟨.slice a2 len2 cap2,rfl,?_⟩
    have:u=.slice a2 len2 cap2:=by simpa[Value.cells] using hu1.symm
    rw[← this];exact hu2
  | 3=>
    cases hi;obtain⟨u,hu1,hu2⟩:=hr3.2 0 _ rfl;refine⟨.slice a3 len3 cap3,rfl,?_⟩
    have:u=.slice a3 len3 cap3:=by simpa[Value.cells] using hu1.symm
    rw[← this];exact hu2
  | i+4=>simp at hi
 obtain⟨v,m',blk,rfl,_,_,_,hbel,hrv,_⟩:=hpost;have hv:v=.bool true:=by cases hrv;rfl
 subst hv;refine⟨_,rfl,[d0,d1,d2,d3],[],p0++(p1++(p2++(p3++[])))++[],[],p0++(p1++(p2++(p3++[]))),[],hW',trodAll_mk1 (shut_bool Tryz.underlying4 true),?_,rfl,hbel.frame _,fun h=>by cases h⟩;have hl0:∀ x ∈ p0,x.block < W.heap.size:=fun x hx=>hlt x (by simp[hx]);have hl1:∀ x ∈ p1,x.block < W.heap.size:=fun x hx=>hlt x (by simp[hx]);have hl2:∀ x ∈ p2,x.block < W.heap.size:=fun x hx=>hlt x (by simp[hx]);have hl3:∀ x ∈ p3,x.block < W.heap.size:=fun x hx=>hlt x (by simp[hx]);exact trodAll_cons_mk (Below.trod laid (by kernel_rfl) (of_decide_eq_true (by kernel_rfl)) h0k hbel hl0) (trodAll_cons_mk (Below.trod laid (by kernel_rfl) (of_decide_eq_true (by kernel_rfl)) h1k hbel hl1) (trodAll_cons_mk (Below.trod laid (by kernel_rfl) (of_decide_eq_true (by kernel_rfl)) h2k hbel hl2) (trodAll_cons_mk (Below.trod laid (by kernel_rfl) (of_decide_eq_true (by kernel_rfl)) h3k hbel hl3) trodAll_mk0)))
theorem Zok (os:Os):laidMet Tryz.prog Rows.txnApplyComposesUptoRow.laid ((World.laidAll Tryz.prog os Rows.txnApplyComposesUptoRow.laid).forCall (fun _ _=>0) ⟨#[],#[.agg #[.slice none 0 0,.slice none 0 0,.slice none 0 0,.slice none 0 0],.agg #[.int .i64 0,.slice none 0 0,.slice none 0 0,.slice none 0 0],.slice none 0 0,.slice none 0 0],[]⟩).memory:=laidMet_laidAll _ (by kernel_rfl) (by kernel_rfl)
theorem reads (os:Os) {H:Type} (enc:TypeId × Value→H):∃ places,DataW.whole enc Tryz.prog ((World.laidAll Tryz.prog os Rows.txnApplyComposesUptoRow.laid).forCall (fun _ _=>0) ⟨#[],#[.agg #[.slice none 0 0,.slice none 0 0,.slice none 0 0,.slice none 0 0],.agg #[.int .i64 0,.slice none 0 0,.slice none 0 0,.slice none 0 0],.slice none 0 0,.slice none 0 0],[]⟩).memory Tryz.f5.params.toList Rows.txnApplyComposesSpec.vars false (#[.agg #[.slice none 0 0,.slice none 0 0,.slice none 0 0,.slice none 0 0],.agg #[.int .i64 0,.slice none 0 0,.slice none 0 0,.slice none 0 0],.slice none 0 0,.slice none 0 0]:Array Value).toList 8=some ([.agg [.agg [.nil,.nil,.nil],.nil],.agg [.lit (.int .i64 0),.nil,.nil,.nil],.nil,.nil],[],places):=⟨[],by kernel_rfl⟩
set_option maxRecDepth 100000 in
theorem lifted (os:Os) (started:os.Started) (H:Type) (enc:TypeId × Value→H) (F:Stop.Interp) :
  ReturnsInHanded {} Tryz.checked os 5 .any ((Rows.OpenSpec.upto Rows.txnApplyComposesSpec).preRow enc Tryz.prog Tryz.f5 Rows.txnApplyComposesUptoRow.domain false Rows.txnApplyComposesUptoRow.laid) (((Rows.OpenSpec.upto Rows.txnApplyComposesSpec).at F).post enc Tryz.prog Tryz.f5 false true false false):=by
 obtain⟨places,hx⟩:=reads os enc;refine returnsInHanded_of_row (C:=Tryz.checked) (s:=Rows.OpenSpec.upto Rows.txnApplyComposesSpec) own started (by kernel_rfl) Tryz.func5
  (witness_row_atRef (enc:=enc) (C:=Tryz.checked) false (World.laidAll Tryz.prog os Rows.txnApplyComposesUptoRow.laid) #[.agg #[.slice none 0 0,.slice none 0 0,.slice none 0 0,.slice none 0 0],.agg #[.int .i64 0,.slice none 0 0,.slice none 0 0,.slice none 0 0],.slice none 0 0,.slice none 0 0] (World.laidAll_os _ _ _) (by kernel_rfl) (by kernel_rfl) (by kernel_rfl)
   (OpenSpec.preRow_of_cond 8 hx (by kernel_rfl) (fun k hk=>by cases hk;kernel_rfl) (by kernel_rfl) (Zok os))) ?_
 intro W base args ds gs before hval hW _ hcond _ hL hsh _;exact Zoq H enc W base args ds gs before hval hW (hcond _ rfl) hL hsh
theorem fact1:(Rows.txnApplyComposesUptoRow.inPlace == Tryz.prog.inPlace 5)=true:=by kernel_rfl
theorem fact2:(Rows.txnApplyComposesUptoRow.unfollowed == Tryz.prog.unfollowed 5)=true:=by kernel_rfl
theorem fact3:(Rows.txnApplyComposesUptoRow.recurses == Tryz.prog.recurses 5)=true:=by kernel_rfl
theorem fact4:(Rows.txnApplyComposesUptoRow.named == Tryz.prog.varsNamed 5)=true:=by kernel_rfl
theorem fact5:(Rows.txnApplyComposesUptoRow.plainKeys == Tryz.prog.plainKeys)=true:=by kernel_rfl
theorem fact6:Tryz.prog.stopsHeard=true:=by kernel_rfl
theorem fact7:Tryz.prog.mayEnter=true:=by kernel_rfl
theorem fact8:(Rows.txnApplyComposesUptoRow.lifted == Tryz.prog.liftsFinal)=true:=by kernel_rfl
theorem fact9:(Tryz.prog.make == some Rows.txnApplyComposesUptoRow.make)=true:=by kernel_rfl
theorem fact10:mapsRowed Tryz.prog=true:=by kernel_rfl
theorem fact11:Rows.txnApplyComposesUptoRow.wf (OpenSpec.ofChange (Rows.OpenSpec.upto Rows.txnApplyComposesSpec).bare)=true:=by kernel_rfl
theorem fact12:laidOutB Tryz.prog=true:=by kernel_rfl
theorem fact13:namedTie Tryz.prog Rows.txnApplyComposesUptoRow.named (Rows.OpenSpec.upto Rows.txnApplyComposesSpec).bare.vars=true:=by kernel_rfl
theorem fact14:Tryz.pinned.checked.prog.funcNamed Rows.txnApplyComposesUptoRow.func=some 5:=by kernel_rfl
set_option maxRecDepth 100000 in
theorem closed:joinedFacts Tryz.prog 5 Tryz.f5 (Rows.OpenSpec.upto Rows.txnApplyComposesSpec).bare Rows.txnApplyComposesUptoRow=true:=by
 unfold joinedFacts;rw[fact1,fact2,fact3,fact4,fact5,fact6,fact7,fact8,fact9,fact10,fact11,fact12,fact13]
 kernel_rfl
theorem over:Rows.TxnApplyComposesUptoSaid:=
 OpenClaim.holds_of_cond 5 Tryz.f5 rfl rfl rfl rfl rfl rfl rfl ⟨rfl,rfl,rfl,rfl,rfl⟩ rfl rfl rfl rfl rfl fact14 Tryz.func5 closed
  (of_decide_eq_true (by kernel_rfl)) (by unfold Func.isWrapper;first | (rw[if_pos (by decide +kernel)];kernel_rfl) | (rw[if_neg (by decide +kernel)];exact⟨rfl,rfl⟩))
  (fun os started H enc _ F=>by rw[OpenClaim.pre_eq_preRow];exact lifted os started H enc F)
theorem looked (f:FuncId) (fn:Func) (hf:Tryz.pinned.checked.prog.funcNamed Rows.txnApplyComposesUptoRow.func=some f) (hfn:Tryz.pinned.checked.prog.funcs[f]?=some fn) :
  true=Tryz.pinned.checked.prog.looks []∧∀ (j:Nat) t,fn.params[j]?=some t→Tryz.pinned.checked.prog.wantsStandIn t=false:=by
 obtain rfl:f=5:=Option.some.inj ((show Tryz.prog.funcNamed Rows.txnApplyComposesUptoRow.func=some 5 by kernel_rfl).symm.trans hf) |>.symm;obtain rfl:fn=Tryz.f5:=(Option.some.inj (Tryz.func5.symm.trans hfn)).symm;refine⟨by kernel_rfl,fun j t ht=>?_⟩;rw[Tryz.params5] at ht;have hm:t ∈ [35,52,50,50]:=by simpa using Array.mem_of_getElem? ht
 have hall:([35,52,50,50].all fun u=>!Tryz.prog.wantsStandIn u)=true:=by kernel_rfl
 exact (show Tryz.prog.wantsStandIn t=false by simpa using List.all_eq_true.1 hall t hm)
theorem proved:Rows.TxnApplyComposesUptoCardSaid:=
 Claim7.holds_tied_plain_at .later [] _ _ _ _ over (fun _ h=>by cases h) (by kernel_rfl) (fun _ h=>by cases h) txnApplyComposesUpto_row_tie rfl ⟨rfl,rfl⟩ (by kernel_rfl) rfl looked (by kernel_rfl)
end
end Go.Proofs.YthiojhcimecdgaaGreatDoor.txnApplyComposes
