/- joined by a program out of 64 texts -/
import Derived.Test.YthiojhcimecdgaaGreatDoorM3
import Derived.Shelf.Strconv.Itoa3
import Derived.Lib.AppendIntMem
import Derived.Lib.LaidTab
import Derived.Shelf.Strings.Cut
import Derived.Shelf.Strings.Search3
set_option linter.unusedVariables false
set_option linter.unusedSimpArgs false
set_option maxRecDepth 20000
namespace Go.Proofs.YthiojhcimecdgaaGreatDoor
section
open Go Go.Am
def mpC (M:Mp) (co cn:C):List C:=M.enc.map C.d++[co,cn,.d (.int .i64 M.err)]
theorem MR.lenK {h:HS} {n:Nat} {c:C} {xs:List (List C)} {f:Nat→Prop} (m:MR h n c xs) (hk:f xs.length):lenK c (k:=⟨f⟩):=by
 rcases m.2.2 with ⟨rfl,rfl | rfl⟩ | ⟨l,cap,sp,rfl,-⟩
 ·simpa using hk
 ·simpa using hk
 ·simpa using hk
def RelAt (h:HS) (c:C) (rs:List Rel):Prop:=∃ xs:List (List C),MR h 2 c xs∧xs.map toDs=rs.map fun r=>some r.enc
structure MpAt (h:HS) (l:Lab) (co cn:C) (M:Mp):Prop where
 box:h.box l=some (mpC M co cn)
 out:RelAt h co M.out
 nc:RelAt h cn M.nc
 lt:∀ k ∈ l::(labs co++labs cn),k.1 < h.ep
 nl:l ∉ labs co∧l ∉ labs cn∧∀ k ∈ labs co,k ∉ labs cn
theorem RelAt.len {h:HS} {c:C} {rs:List Rel} (r:RelAt h c rs):∃ xs:List (List C),MR h 2 c xs∧(xs.map toDs=rs.map fun r=>some r.enc)∧xs.length=rs.length∧∀ (i:Nat) r,rs[i]?=some r→∃ c',xs[i]?=some [.d (.str r.table),c']∧c'.toD=some (.sl (r.rows.map (encL GV.enc))):=by
 obtain⟨xs,m,he⟩:=r;refine⟨xs,m,he,by have:=congrArg List.length he;simpa using this,fun i r hr=>?_⟩;have h1:=congrArg (fun z=>z[i]?) he;simp only[List.getElem?_map,hr,Option.map_some] at h1;cases hx:xs[i]? with
 | none=>rw[hx] at h1;cases h1
 | some x=>
   rw[hx] at h1;have h2:toDs x=some r.enc:=Option.some.inj h1;have hl:x.length=2:=m.1 x (List.mem_of_getElem? hx)
   match x,hl with
   | [a,b],_=>
     simp only[toDs,Rel.enc] at h2;cases ha:a.toD with
     | none=>rw[ha] at h2;cases h2
     | some a'=>
       cases hb:b.toD with
       | none=>rw[ha,hb] at h2;cases h2
       | some b'=>
         rw[ha,hb] at h2;simp at h2;refine⟨b,?_,by rw[hb,h2.2]⟩
         have:a=.d (.str r.table):=by
          obtain⟨rfl,rfl⟩:=h2;cases a with
          | d x=>simp[C.toD] at ha;rw[ha]
          | _=>simp[C.toD] at ha
         rw[this]
theorem RelAt.frame {h h':HS} {c:C} {rs:List Rel} (r:RelAt h c rs) (hb:∀ l ∈ labs c,h'.box l=h.box l):RelAt h' c rs:=by
 obtain⟨xs,m,he⟩:=r;exact⟨xs,m.frame hb,he⟩
theorem RelAt.frz {h:HS} {c:C} {rs:List Rel} (r:RelAt h c rs):Frz h c (.sl (rs.map Rel.enc)):=by
 obtain⟨xs,m,-,hl,he⟩:=r.len;refine m.frz (by simp[hl]) (fun t ht=>by obtain⟨y,_,rfl⟩:=List.mem_map.1 ht;rfl) fun i x t hx ht=>?_;rw[List.getElem?_map] at ht;cases hq:rs[i]? with
 | none=>rw[hq] at ht;cases ht
 | some q=>
   rw[hq] at ht;cases ht;obtain⟨c',h1,h2⟩:=he i q hq;rw[hx] at h1;cases h1;exact⟨.data rfl,.data h2,trivial⟩
theorem MpAt.frame {h h':HS} {l:Lab} {co cn:C} {M:Mp} (m:MpAt h l co cn M) (hs:Same h h' []):MpAt h' l co cn M:=
 ⟨by rw[hs.2 l (m.lt l (by simp)) (by simp)];exact m.box,m.out.frame fun k hk=>hs.2 k (m.lt k (by simp[hk])) (by simp),m.nc.frame fun k hk=>hs.2 k (m.lt k (by simp[hk])) (by simp),
  fun k hk=>Nat.lt_of_lt_of_le (m.lt k hk) hs.1,m.nl⟩
def setR (t:ByteArray) (rows:List (List GV)) (out:List Rel):List Rel:=out.map fun r=>bif strEq r.table t then ⟨r.table,rows⟩ else r
theorem Zo8 {t:ByteArray} {rows:List (List GV)} {out:List Rel}:(setR t rows out).length=out.length:=by simp[setR]
theorem Zm8 {t:ByteArray} {rows:List (List GV)} {out:List Rel} {i:Nat} (hi:i < out.length) :
  (setR t rows (out.take i)++out.drop i)[i]?=some out[i]∧setR t rows (out.take (i+1))++out.drop (i+1)=bif strEq out[i].table t then (setR t rows (out.take i)++out.drop i).set i ⟨out[i].table,rows⟩ else setR t rows (out.take i)++out.drop i:=by
 have h1:(setR t rows (out.take i)).length=i:=by rw[Zo8,List.length_take];omega
 have h2:out.take (i+1)=out.take i++[out[i]]:=by rw[List.take_add_one];simp[hi]
 have h3:out.drop i=out[i]::out.drop (i+1):=List.drop_eq_getElem_cons hi;refine⟨by rw[List.getElem?_append_right (by omega),h1,h3];simp,?_⟩;rw[h2];have h4:setR t rows (out.take i++[out[i]])=setR t rows (out.take i)++[bif strEq out[i].table t then ⟨out[i].table,rows⟩ else out[i]]:=by simp only[setR,List.map_append,List.map_cons,List.map_nil]
 rw[h4,h3];cases strEq out[i].table t with
 | true=>simp only[cond_true];rw[List.set_append_right _ _ (by omega),h1,Nat.sub_self,List.set_cons_zero,List.append_assoc];rfl
 | false=>simp
end
section
open Go.Am
def Z0h (inst:List Rel):Option ((List Rel)):=
 (forK (fun (i2:Nat) (x2:Rel) (s2:(List Rel)) next_2=>(bindK (Z0p x2.rows) fun v4=>(appK2 s2 [(Rel.mk x2.table v4)] fun _=>(next_2 (s2++[(Rel.mk x2.table v4)]))))) (fun (s2:(List Rel))=>(some s2)) inst 0 [])
instance c_instance_Clone (inst:List Rel):Con (Z0h inst) Tryz.prog 24 [.one (.d (.sl (inst.map Rel.enc)))] (fun r=>.one (.d (.sl (r.map Rel.enc)))):=by
 unfold Z0h;have l1:LH (σ:=(List Rel)) 8 [6,7] [.g 3 2 (fun s=>s.map Rel.enc)]:=.intro;have p1:PH [5] (Plan.then_ [0,1,2,3,4,5,6,7,8,9] .done):=.intro;exact go 23 Tryz.func24 rfl (by kernel_rfl) rfl rfl (by simp)
end
section
open Go Go.Am
def FZ (h:HS) (c:C) (x:D) (ls:List Lab):Prop:=∀ h',(∀ l ∈ ls,h'.box l=h.box l)→Frz h' c x
theorem FZ.frame {h h':HS} {c:C} {x:D} {ls:List Lab} (f:FZ h c x ls) (hb:∀ l ∈ ls,h'.box l=h.box l):FZ h' c x ls:=fun h2 h2b=>f h2 fun l hl=>(h2b l hl).trans (hb l hl)
def FZs (h:HS) (cs:List C) (ds:List D) (ls:List Lab):Prop:=∀ h',(∀ l ∈ ls,h'.box l=h.box l)→FrzCs h' cs ds
theorem FZs.frame {h h':HS} {cs:List C} {ds:List D} {ls:List Lab} (f:FZs h cs ds ls) (hb:∀ l ∈ ls,h'.box l=h.box l):FZs h' cs ds ls:=fun h2 h2b=>f h2 fun l hl=>(h2b l hl).trans (hb l hl)
abbrev NQ:=List C × List D × List Lab
structure NR (h:HS) (n:Nat) (c:C) (qs:List NQ):Prop where
 mr:MR h n c (qs.map (·.1))
 el:∀ q ∈ qs,FZs h q.1 q.2.1 q.2.2∧q.2.1.length=n
 lt:∀ q ∈ qs,∀ k ∈ q.2.2,k.1 < h.ep∧k ∉ labs c
 lc:∀ k ∈ labs c,k.1 < h.ep
theorem NR.nil {h:HS} {n:Nat}:NR h n .nil []:=⟨MR.nil,by simp,by simp,by simp[labs]⟩
theorem NR.frame {h h':HS} {n:Nat} {c:C} {qs:List NQ} {lx:List Lab} (r:NR h n c qs) (hs:Same h h' lx) (hc:∀ k ∈ labs c,k ∉ lx) (hq:∀ q ∈ qs,∀ k ∈ q.2.2,k ∉ lx):NR h' n c qs:=
 ⟨r.mr.frame fun l hl=>hs.2 l (r.lc l hl) (hc l hl),fun q hqm=>⟨(r.el q hqm).1.frame fun l hl=>hs.2 l (r.lt q hqm l hl).1 (hq q hqm l hl),(r.el q hqm).2⟩,fun q hqm k hk=>⟨Nat.lt_of_lt_of_le (r.lt q hqm k hk).1 hs.1,(r.lt q hqm k hk).2⟩,fun k hk=>Nat.lt_of_lt_of_le (r.lc k hk) hs.1⟩
theorem NR.at {h:HS} {n:Nat} {c:C} {qs:List NQ} (r:NR h n c qs) {k:Nat} {q:NQ} (hq:qs[k]?=some q):∃ l cap sp,c=.mrow l 0 qs.length cap∧h.box l=some (rowBox (qs.map (·.1)) sp)∧(rowBox (qs.map (·.1)) sp).length=cap * n:=by
 have hk:=(List.getElem?_eq_some_iff.1 hq).1;obtain⟨l,cap,sp,h1,h2,h3⟩:=r.mr.block (by simp;omega);exact⟨l,cap,sp,by simpa using h1,h2,h3⟩
theorem NR.put {h:HS} {n:Nat} {l:Lab} {cap:Nat} {qs:List NQ} {sp:List C} (r:NR h n (.mrow l 0 qs.length cap) qs) (hb:h.box l=some (rowBox (qs.map (·.1)) sp)) (hcap:(rowBox (qs.map (·.1)) sp).length=cap * n) {k:Nat} (hk:k < qs.length) {q:NQ} (hn:q.1.length=n) (hd:q.2.1.length=n)
  (hf:FZs (h.setBox l (rowBox ((qs.set k q).map (·.1)) sp)) q.1 q.2.1 q.2.2) (hl:∀ j ∈ q.2.2,j.1 < h.ep∧j≠l):NR (h.setBox l (rowBox ((qs.set k q).map (·.1)) sp)) n (.mrow l 0 (qs.set k q).length cap) (qs.set k q):=by
 have ha:AllC n ((qs.set k q).map (·.1)):=by rw[List.map_set];exact r.mr.1.set hn
 refine⟨⟨ha,by simpa using r.mr.2.1,.inr ⟨l,cap,sp,by simp,by simp,?_⟩⟩,fun p hp=>?_,fun p hp j hj=>?_,fun j hj=>by simpa using r.lc j (by simpa[labs] using hj)⟩
 ·rw[Z04 ha,List.length_map,List.length_set,← hcap,Z04 r.mr.1,List.length_map]
 ·rcases List.mem_or_eq_of_mem_set hp with h1 | rfl
  ·refine⟨(r.el p h1).1.frame fun j hj=>?_,(r.el p h1).2⟩
   have:=(r.lt p h1 j hj).2
   simp only[labs,List.mem_singleton] at this;simp[this]
  ·exact⟨hf,hd⟩
 ·rcases List.mem_or_eq_of_mem_set hp with h1 | rfl
  ·simpa[labs] using r.lt p h1 j hj
  ·simpa[labs] using hl j hj
def relC (x:Rel):List C:=[.d (.str x.table),.d (.sl (x.rows.map (encL GV.enc)))]
theorem Zbz (h:HS) (inst out:List Rel) (hm:Is (Z0h inst) out) (K:V→HS→Prop)
  (hk:∀ c h',MR h' 2 c (out.map relC)→Same h h' []→(∀ k ∈ labs c,h.ep≤k.1∧k.1 < h'.ep)→K (.one c) h') :
  HSpec Tryz.prog 24 [.one (.d (.sl (inst.map Rel.enc)))] h K:=by
 unfold Z0h at hm;refine HSpec.of_vc Tryz.func24 rfl (by kernel_rfl) (n:=23) rfl rfl (by simp) ?_;simp;intro hil;refine Wait.for (xs:=inst) (s0:=[]) (fun i s e h'=>∃ c,e.n=23∧e.get 3=.one c∧e.get 6=.one (.d (.sl (inst.map Rel.enc)))∧e.get 7=.one (.d (.int .i64 (inst.length:Int)))∧e.get 8=.one (.d (.int .i64 (i:Int)))∧MR h' 2 c (s.map relC)∧Same h h' []∧∀ k ∈ labs c,h.ep≤k.1∧k.1 < h'.ep) hm ⟨.nil,by simp,by simp,by simp,by simp,by simp,by simpa using MR.nil,.refl,by simp[labs]⟩ ?_ ?_
 ·rintro i s e h' ⟨c,hn,h3,h6,h7,h8,hmr,hs,hl⟩ hlt hm;have hw:IntKind.i64.wrap ((i:Int)+1)=(i:Int)+1:=IntWalk.i64_in _ (by omega);obtain⟨rows,hrows,hm⟩:=hm.bind;obtain⟨hap,hm⟩:=hm.chk;simp[*];refine Wait.cut (Plan.then_ [0,1,2,3,4,5,6,7,8,9] .done) follows (by kernel_rfl) (fun e1 h1=>∃ c2,e1.n=23∧e1.get 3=.one c2∧e1.get 6=.one (.d (.sl (inst.map Rel.enc)))∧e1.get 7=.one (.d (.int .i64 (inst.length:Int)))∧e1.get 8=.one (.d (.int .i64 (i:Int))) ∧
   MR h1 2 c2 ((s++[Rel.mk inst[i].table rows]).map relC)∧Same h h1 []∧∀ k ∈ labs c2,h.ep≤k.1∧k.1 < h1.ep) ?_ ?_
  ·simp[hn,h3,h6,h7,h8,Plan.then_,vcPlan,Z01,Z00,callKind];have hs1:Same h' ((h'.setBox (h'.ep,80) [C.d (D.str ByteArray.empty),C.nil]).next.setBox (h'.ep,80) [C.d (D.str inst[i].table),C.d (D.sl (List.map (encL GV.enc) inst[i].rows))]) []:=((Same.refl.setBox (.inr (by simp))).next).setBox (.inr (by simp));refine Z09 (c_relation_Clone _ rows hrows) (by simp) ?_;simp[hn,h3,h6,h7,h8,Plan.then_,vcPlan,Z01,Z00,callKind];have hs2:=((hs1.next.setArr (l:=(h'.ep+1+1,304)) (x:=some (1,2))).next);refine⟨fun _ _ x=>x,app_mr Z85 (by kernel_rfl) (by decide) (by decide) (hmr.frame fun l hl9=>hs2.2 l (hl l hl9).2 (by simp)) (RowAt.own1 rfl) (by simpa using hap) (fun c' h2 hm2 hs3 hl3=>?_)⟩;simp[hn,h3,h6,h7,h8,Plan.then_,vcPlan,Z01,Z00,callKind];refine CutK.of ?_;have hs4:Same h h2 []:=(hs.trans hs2).trans' hs3 fun k hk=>.inr (hl k hk).1;refine⟨c',by simp[hn],by simp[hn],by simp[h6,hn],by simp[h7,hn],by simp[h8,hn],by simpa[relC] using hm2,hs4,fun k hk=>?_⟩;rcases hl3 k hk with h9 | h9
   ·have:=hl k h9
    have:=hs3.1
    simp at this;omega
   ·have:=hs.1
    simp at h9;omega
  ·rintro e1 h1 ⟨c2,hn,h3,h6,h7,h8,hmr,hs,hl⟩;simp[hn,h3,h6,h7,h8,hw];exact BackF.of (s++[Rel.mk inst[i].table rows]) ⟨⟨c2,by simp[hn],by simp[h3],by simp[h6],by simp[h7],by simp,hmr,hs,hl⟩,hm⟩
 ·rintro s e h' ⟨c,hn,h3,h6,h7,h8,hmr,hs,hl⟩ hm;obtain rfl:=r_ret hm;simp[h3,h7,h8,hn];exact hk c h' hmr hs hl
end
section
open Go.Am
def Z28 (s_:Sch):Option ((List Rel)):=
 (forK (fun (i3:Nat) (x3:Tbl) (s3:(List Rel)) next_3=>(appK2 s3 [(Rel.mk x3.name [])] fun _=>(next_3 (s3++[(Rel.mk x3.name [])])))) (fun (s3:(List Rel))=>(some s3)) s_.tables 0 [])
instance c_instance_Empty (s_:Sch):Con (Z28 s_) Tryz.prog 54 [.agg s_.enc] (fun r=>.one (.d (.sl (r.map Rel.enc)))):=by
 unfold Z28;have l1:LH (σ:=(List Rel)) 9 [7,8] [.g 3 2 (fun s=>s.map Rel.enc)]:=.intro;exact go 21 Tryz.func54 rfl (by kernel_rfl) rfl rfl (by simp)
end
section
open Go Go.Am
theorem Zqq {h:HS} {c:C} {rs:List Rel} (m:MR h 2 c (rs.map relC)):RelAt h c rs:=⟨_,m,by simp[relC,toDs,Rel.enc,C.toD]⟩
theorem Z8o (h:HS) (S:Sch) (out:List Rel) (hm:Is (Z28 S) out) (K:V→HS→Prop)
  (hk:∀ c h',RelAt h' c out→Same h h' []→(∀ k ∈ labs c,h.ep≤k.1∧k.1 < h'.ep)→BoxLe h h'→K (.one c) h') :
  HSpec Tryz.prog 54 [.agg (S.enc.map C.d)] h K:=by
 refine HSpec.good Tryz.func54 rfl (by kernel_rfl) fun hg=>?_;unfold Z28 at hm;refine HSpec.of_vc Tryz.func54 rfl (by kernel_rfl) (n:=21) rfl rfl (by simp) ?_;simp;intro hil;refine Wait.for (xs:=S.tables) (s0:=[]) (fun i s e h'=>∃ c,e.n=21∧e.get 3=.one c∧e.get 7=.one (.d (.sl (S.tables.map Tbl.enc)))∧e.get 8=.one (.d (.int .i64 (S.tables.length:Int)))∧e.get 9=.one (.d (.int .i64 (i:Int)))∧MR h' 2 c (s.map relC)∧Same h h' []∧∀ k ∈ labs c,h.ep≤k.1∧k.1 < h'.ep) hm ⟨.nil,by simp,by simp,by simp,by simp,by simp,by simpa using MR.nil,(Same.refl.setBox (.inr (by simp))).next,by simp[labs]⟩ ?_ ?_
 ·rintro i s e h' ⟨c,hn,h3,h7,h8,h9,hmr,hs,hl⟩ hlt hm;have hw:IntKind.i64.wrap ((i:Int)+1)=(i:Int)+1:=IntWalk.i64_in _ (by omega);obtain⟨hap,hm⟩:=hm.chk;simp[hn,h3,h7,h8,h9,hlt];have hs2:Same h' (((h'.setBox (h'.ep,80) [.d (.str ByteArray.empty),.nil,.nil]).next.setBox (h'.ep,80) [.d (.str S.tables[i].name),.d (.sl (S.tables[i].cols.map Col.enc)),.d (.sl (S.tables[i].pk.map encI))]).setArr (h'.ep+1,272) (some (1,2))).next []:=(((Same.refl.setBox (.inr (by simp))).next.setBox (.inr (by simp))).setArr).next;refine app_mr Z85 (by kernel_rfl) (by decide) (by decide) (hmr.frame fun k hk=>hs2.2 k (hl k hk).2 (by simp)) (RowAt.own1 rfl) (by simpa using hap) (fun c' h2 hm2 hs3 hl3=>?_);simp[hn,h3,h7,h8,h9,hw];have hs4:Same h h2 []:=(hs.trans hs2).trans' hs3 fun k hk=>.inr (hl k hk).1;refine BackF.of (s++[⟨S.tables[i].name,[]⟩]) ⟨⟨c',by simp[hn],by simp[h3],by simp[h7],by simp[h8],by simp,?_,hs4,fun k hk=>?_⟩,hm⟩
  ·simpa[relC] using hm2
  ·rcases hl3 k hk with h9 | h9
   ·have:=hl k h9
    have:=hs3.1
    simp at this;omega
   ·have:=hs.1
    simp at h9;omega
 ·rintro s e h' ⟨c,hn,h3,h7,h8,h9,hmr,hs,hl⟩ hm;obtain rfl:=r_ret hm;simp[hn,h3,h7,h8,h9];exact hk _ _ (Zqq hmr) hs hl (hs.boxLe hg)
abbrev VSh:List Sh:=[.d,.d,.d]
abbrev RowSh:Sh:=.r VSh
theorem Zhv {α ρ:Type} {k:List α→Option ρ}:∀ (xs:List α) (i:Nat) (s:List α),forK (fun (_:Nat) x s next=>next (s++[x])) k xs i s=k (s++xs)
 | [],i,s=>by simp[forK]
 | x::xs,i,s=>by simp[forK,Zhv xs]
structure OwN (h h':HS) (ss:List Sh) (cs:List C) (ds:List D) (ls:List Lab):Prop where
 ow:Ow h' ss cs ds ls
 nd:ls.Nodup
 new:∀ k ∈ ls,h.ep≤k.1∧k.1 < h'.ep
 same:Same h h' []
def GrowP (h h':HS) (sh:List Sh) (c:C) (ds:List (List D)):Prop:=∃ qs,Part h' sh c qs ds∧(plabs c qs).Nodup∧(∀ k ∈ plabs c qs,h.ep≤k.1∧k.1 < h'.ep)∧Same h h' []
theorem GrowP.nil {h:HS} {sh:List Sh}:GrowP h h sh .nil []:=⟨[],⟨by simpa using MR.nil,rfl,by simp⟩,by simp[plabs,labs],by simp[plabs,labs],.refl⟩
theorem GrowP.step {h h1 h2:HS} {sh:List Sh} {c:C} {ds:List (List D)} (g:GrowP h h1 sh c ds) (hs:Same h1 h2 []):GrowP h h2 sh c ds:=by
 obtain⟨qs,p,nd,hl,s⟩:=g;exact⟨qs,p.frame fun k hk=>hs.2 k (hl k hk).2 (by simp),nd,fun k hk=>⟨(hl k hk).1,Nat.lt_of_lt_of_le (hl k hk).2 hs.1⟩,s.trans hs⟩
theorem GrowP.app {P:Program} {ty el:TypeId} {n by_ dd:Nat} {h h1 h2:HS} {sh:List Sh} {c x:C} {ds:List (List D)} {xc:List C} {d:List D} {lx:List Lab} {K:V→HS→Prop} (g:GrowP h h1 sh c ds) (hs:Same h1 h2 []) (hel:elT P ty=some (el,n,by_)) (hz:(zeT P el).isSome=true) (h0:0 < n) (hb:by_≤4096)
  (hr:RowAt h2 n x [xc]) (hn:sh.length=n) (ho:Ow h2 sh xc d lx) (hlx:lx.Nodup) (hnew:∀ k ∈ lx,h1.ep≤k.1∧k.1 < h2.ep) (hlim:ds.length+1≤LIM)
  (hk:∀ c' h3,GrowP h h3 sh c' (ds++[d])→Same h2 h3 (labs c)→K (.one c') h3):appK P ty c x dd h2 (K:=⟨K⟩):=by
 subst hn;obtain⟨qs,p0,nd,hl0,s0⟩:=g;have p:=p0.frame fun k hk=>hs.2 k (hl0 k hk).2 (by simp);have hl:∀ k ∈ plabs c qs,h.ep≤k.1∧k.1 < h2.ep:=fun k hk=>⟨(hl0 k hk).1,Nat.lt_of_lt_of_le (hl0 k hk).2 hs.1⟩;have s:=s0.trans hs;have hlt:∀ k ∈ plabs c qs,k.1 < h2.ep:=fun k hk=>(hl k hk).2;have hq:qs.length=ds.length:=by rw[← p.ds];simp
 refine app_mr hel hz h0 hb p.mr hr (by simpa[hq] using hlim) fun c' h3 hm hs3 hl3=>?_;have hcn:∀ k ∈ labs c,h.ep≤k.1:=fun k hk=>(hl k (by simp[plabs,hk])).1;have hc1:∀ k ∈ labs c,k.1 < h1.ep:=fun k hk=>(hl0 k (by simp[plabs,hk])).2;have hxo:∀ k ∈ lx,k ∉ labs c:=fun k hk h9=>by have:=hc1 k h9;have:=(hnew k hk).1;omega
 refine hk c' h3 ⟨qs++[(xc,d,lx)],p.add nd hlt hm hs3 (ho.frame fun k hk=>hs3.2 k (hnew k hk).2 (hxo k hk)),?_,fun k hk=>?_,s.trans' hs3 fun k hk=>.inr (hcn k hk)⟩ hs3
 ·refine Zb6 nd hlt (fun k hk=>(hl3 k hk).imp id fun h9=>h9.1) hlx fun k hk=>⟨fun h9=>?_,fun h9=>?_⟩
  ·have:=(hl0 k h9).2;have:=(hnew k hk).1;omega
  ·rcases hl3 k h9 with h8 | h8
   ·exact hxo k hk h8
   ·have:=(hnew k hk).2;omega
 ·rcases Z2h hk with h9 | h9 | h9
  ·rcases hl3 k h9 with h8 | h8
   ·exact⟨hcn k h8,Nat.lt_of_lt_of_le (hl k (by simp[plabs,h8])).2 hs3.1⟩
   ·exact⟨Nat.le_trans s.1 h8.1,h8.2⟩
  ·have:=hl k (by simp only[plabs,List.mem_append];exact .inr h9)
   exact⟨this.1,Nat.lt_of_lt_of_le this.2 hs3.1⟩
  ·have:=hnew k h9
   exact⟨Nat.le_trans s0.1 this.1,Nat.lt_of_lt_of_le this.2 hs3.1⟩
theorem Zpc {h:HS} {c:C} {row:List GV} (m:MR h 3 c ((row.map GV.enc).map (·.map C.d))):Ow h [RowSh] [c] [.sl (row.map GV.enc)] (labs c):=by
 have e1:(row.map fun v=>((v.enc.map C.d,v.enc,[]):List C × List D × List Lab)).flatMap (·.2.2)=[]:=by
  rw[List.flatMap_eq_nil_iff];intro q hq;obtain⟨v,_,rfl⟩:=List.mem_map.1 hq;rfl
 have e2:(row.map fun v=>((v.enc.map C.d,v.enc,[]):List C × List D × List Lab)).map (·.2.1)=row.map GV.enc:=by rw[List.map_map];rfl
 have e3:(row.map fun v=>((v.enc.map C.d,v.enc,[]):List C × List D × List Lab)).map (·.1)=(row.map GV.enc).map (·.map C.d):=by rw[List.map_map,List.map_map];rfl
 have:=Ow.row (h:=h) (es:=VSh) (c:=c) (qs:=row.map fun v=>(v.enc.map C.d,v.enc,[])) (ss:=[]) (cs:=[]) (ds:=[]) (ls:=[]) (by rw[e3];exact m) (fun q hq=>by
  obtain⟨v,_,rfl⟩:=List.mem_map.1 hq;exact Ow.datas (h:=h) (ds:=v.enc)) .nil
 rw[e1,e2,List.append_nil,List.append_nil] at this;exact this
theorem Z3r (h:HS) (row:List GV) (hl:row.length≤2097152) (K:V→HS→Prop) (hk:∀ c h',OwN h h' [RowSh] [c] [.sl (row.map GV.enc)] (labs c)→MR h' 3 c ((row.map GV.enc).map (·.map C.d))→BoxLe h h'→K (.one c) h') :
  HSpec Tryz.prog 49 [.one (.d (.sl (row.map GV.enc)))] h K:=by
 refine Z9y h _ ((row.map GV.enc).map (·.map C.d)) (RowAt.data (fun t ht=>by obtain⟨z,_,rfl⟩:=List.mem_map.1 ht;rfl) (by simpa using hl)) K fun c h' hm hs hl hb=>?_;exact hk c h' ⟨Zpc hm,Z1i,hl,hs⟩ hm hb
theorem Z81 (h:HS) (rows:List (List GV)) (hok:∀ row ∈ rows,row.length≤2097152) (K:V→HS→Prop)
  (hk:∀ c h',GrowP h h' [RowSh] c (rows.map (encL GV.enc))→BoxLe h h'→K (.one c) h') :
  HSpec Tryz.prog 51 [.one (.d (.sl (rows.map (encL GV.enc))))] h K:=by
 refine HSpec.good Tryz.func51 rfl (by kernel_rfl) fun hg=>?_;refine HSpec.of_vc Tryz.func51 rfl (by kernel_rfl) (n:=19) rfl rfl (by simp) ?_;have hm:Is (forK (fun (_:Nat) x s next=>next (s++[x])) (fun s=>some s) rows 0 []) rows:=by rw[Zhv];rfl
 simp;intro hil;refine Wait.for (xs:=rows) (s0:=[]) (fun i s e h'=>∃ c,e.n=19∧e.get 3=.one c∧e.get 6=.one (.d (.sl (rows.map (encL GV.enc))))∧e.get 7=.one (.d (.int .i64 (rows.length:Int)))∧e.get 8=.one (.d (.int .i64 (i:Int)))∧GrowP h h' [RowSh] c (s.map (encL GV.enc))∧s.length=i) hm ⟨.nil,by simp,by simp,by simp,by simp,by simp,.nil,rfl⟩ ?_ ?_
 ·rintro i s e h' ⟨c,hn,h3,h6,h7,h8,hmr,hsl⟩ hlt hm;have hw:IntKind.i64.wrap ((i:Int)+1)=(i:Int)+1:=IntWalk.i64_in _ (by omega);have hri:=hok _ (List.getElem_mem hlt);simp[hn,h3,h6,h7,h8,hlt];refine Z02 (Z3r _ _ hri _ fun c1 h1 ho1 hm1 hb1=>?_);simp[hn,h3,h6,h7,h8,hw];have hs1:=ho1.same;refine bld_ow (x:=[c1]) (by simp only[toDs];cases c1.toD<;>rfl) rfl (fun d hd=>?_) (fun hd=>?_)
  ·obtain⟨rfl,hd2⟩:=ho1.ow.ofD hd;simp[hn,h3,h6,h7,h8,hw];refine GrowP.app hmr (hs1.trans ((Same.refl.setArr).next)) Z45 (by kernel_rfl) (by decide) (by decide) (RowAt.own1 rfl) rfl (hd2 _) (by simp) (by simp) (by simpa using (by omega:s.length+1≤2097152)) fun c' h3' hg' hs3=>?_;simp[hn,h3,h6,h7,h8,hw];exact BackF.of (s++[rows[i]]) ⟨⟨c',by simp[hn],by simp[h3],by simp[h6],by simp[h7],by simp,by simpa[encL] using hg',by simp[hsl]⟩,hm⟩
  ·simp[hn,h3,h6,h7,h8,hw];have hs2:Same h1 ((h1.setBox (h1.ep,240) [c1]).next) []:=(Same.refl.setBox (.inr (by simp))).next;refine GrowP.app hmr (hs1.trans hs2) Z45 (by kernel_rfl) (by decide) (by decide) (RowAt.new1 rfl (by simp)) rfl (ho1.ow.frame fun k hk=>hs2.2 k (ho1.new k hk).2 (by simp)) ho1.nd (fun k hk=>⟨(ho1.new k hk).1,Nat.lt_of_lt_of_le (ho1.new k hk).2 hs2.1⟩) (by simpa using (by omega:s.length+1≤2097152)) fun c' h3' hg' hs3=>?_;simp[hn,h3,h6,h7,h8,hw];exact BackF.of (s++[rows[i]]) ⟨⟨c',by simp[hn],by simp[h3],by simp[h6],by simp[h7],by simp,by simpa[encL] using hg',by simp[hsl]⟩,hm⟩
 ·rintro s e h' ⟨c,hn,h3,h6,h7,h8,hmr,hsl⟩ hm;obtain rfl:=r_ret hm;simp[h3,h7,h8,hn];obtain⟨qs,p,nd,hl,hs⟩:=hmr;exact hk _ _ ⟨qs,p,nd,hl,hs⟩ (hs.boxLe hg)
abbrev ChSh:List Sh:=[.d,.d,RowSh,RowSh]
def ChL (cs:List Chg):Prop:=cs.length≤2097152∧∀ x ∈ cs,x.key.length≤2097152∧x.row.length≤2097152
def chc (x:Chg):List C:=x.enc.map C.d
abbrev QC:=List C × List D × List Lab
theorem Ziw {cs:List Chg} {i:Nat} (hi:i < cs.length):(cs.drop i).map chc=chc cs[i]::(cs.drop (i+1)).map chc:=by
 rw[List.drop_eq_getElem_cons hi,List.map_cons]
theorem Z7i (h:HS) (x:C) (cs:List Chg) (hx:RowAt h 4 x (cs.map chc)) (hok:ChL cs) (K:V→HS→Prop)
  (hk:∀ c h',GrowP h h' ChSh c (cs.map Chg.enc)→BoxLe h h'→K (.one c) h') :
  HSpec Tryz.prog 26 [.one x] h K:=by
 refine HSpec.good Tryz.func26 rfl (by kernel_rfl) fun hg=>?_;refine HSpec.of_vc Tryz.func26 rfl (by kernel_rfl) (n:=34) rfl rfl (by simp) ?_;simp;refine Z02 (Z98 _ x (cs.map chc) hx _ fun c h0 hm0 hs0 hl0 hb0=>?_);simp;refine MR.lenK hm0 ?_;simp;refine Wait.rounds (fun n e h'=>∃ (i:Nat) (qs:List QC),n=cs.length - i∧i≤cs.length∧qs.length=i∧e.n=34∧e.get 3=.one c∧e.get 8=.one (.d (.int .i64 (cs.length:Int)))∧e.get 9=.one (.d (.int .i64 (i:Int))) ∧
  MR h' 4 c (qs.map (·.1)++(cs.drop i).map chc)∧qs.map (·.2.1)=(cs.take i).map Chg.enc∧(∀ q ∈ qs,Ow h' ChSh q.1 q.2.1 q.2.2)∧(labs c++qs.flatMap (·.2.2)).Nodup∧(∀ k ∈ labs c++qs.flatMap (·.2.2),h.ep≤k.1∧k.1 < h'.ep)∧Same h h' []) cs.length
  ⟨0,[],rfl,by omega,rfl,by simp,by simp,by simp,by simp,by simpa using hm0,by simp,by simp,by simpa using Z1i,by simpa using hl0,hs0⟩ ?_
 rintro n e h' ⟨i,qs,rfl,hil,hql,en,e3,e8,e9,hm,hds,how,hnd,hlb,hs⟩;simp[en,e3,e8,e9];refine Z10 (fun hlt=>?_) (fun hge=>?_)
 ·have hlt':i < cs.length:=by omega
  have hw:IntKind.i64.wrap ((i:Int)+1)=(i:Int)+1:=IntWalk.i64_in _ (by have:=hok.1;omega);obtain⟨ys,hys⟩:∃ ys,ys=qs.map (·.1)++(cs.drop i).map chc:=⟨_,rfl⟩;rw[← hys] at hm;have hyl:ys.length=cs.length:=by rw[hys];simp;omega
  have hx0:ys[i]?=some (chc cs[i]):=by rw[hys,Ziw hlt',List.getElem?_append_right (by simp;omega)];simp[hql]
  obtain⟨l,cap,sp,rfl,hb,hcap⟩:=hm.block (by omega);have hall:=hm.1;rw[hyl] at e3;have r2:=Z5j (sp:=sp) (f:=2) (m:=1) hall hx0 (by omega);have r3:=Z5j (sp:=sp) (f:=3) (m:=1) hall hx0 (by omega);have hk0:∀ k,cs[i]?=some k→k.key.length≤2097152∧k.row.length≤2097152:=fun k hk=>hok.2 k (List.mem_of_getElem? hk);have hci:cs[i]?=some cs[i]:=List.getElem?_eq_getElem hlt';have hdc:=Ziw hlt';generalize cs[i]=w at hci hx0 r2 r3 hdc;obtain⟨hw1,hw3⟩:=hk0 w hci;simp[chc] at r2 r3;have hll:l.1 < h'.ep:=(hlb l (by simp[labs])).2;simp[en,e3,e8,e9];refine Wait.cut (Plan.then_ [0,1,2,3,4,5,6,7,8,10,11,12,13,14,9,15,16,17,18,19,20,21] .done) follows (by kernel_rfl) (fun e1 h1=>e1.n=34∧e1.get 3=.one (.mrow l 0 cs.length cap)∧e1.get 8=.one (.d (.int .i64 (cs.length:Int)))∧e1.get 9=.one (.d (.int .i64 (i:Int))) ∧
   ∃ c1 c2,h1.box l=some (rowBox (ys.set i [.d (.int .i64 w.kind),.d (.str w.table),c1,c2]) sp)∧Ow h1 [RowSh,RowSh] [c1,c2] [.sl (w.key.map GV.enc),.sl (w.row.map GV.enc)] (labs c1++labs c2)∧(labs c1++labs c2).Nodup∧(∀ k ∈ labs c1++labs c2,h'.ep≤k.1∧k.1 < h1.ep)∧Same h' h1 [l]) ?_ ?_
  ·simp[en,e3,e8,e9,hlt',hb,r2,r3,Plan.then_,vcPlan,Z01,Z00,callKind];refine Z02 (Z3r h' w.key hw1 _ fun c1 h1 o1 m1 b1=>?_);simp[en,e3,e8,e9,hlt',hb,r2,r3,Plan.then_,vcPlan,Z01,Z00,callKind];refine⟨b1,?_⟩;refine Z02 (Z3r h1 w.row hw3 _ fun c2 h2 o2 m2 b2=>?_);have hs2:=o1.same.trans o2.same;have hb2:h2.box l=some (rowBox ys sp):=by rw[hs2.2 l hll (by simp)];exact hb
   simp[en,e3,e8,e9,hlt',hb2,r2,r3,Plan.then_,vcPlan,Z01,Z00,callKind];have hrl:=Z6o (sp:=sp) hall (k:=i) (by omega);have q1:=Z60 (sp:=sp) (f:=2) (vs:=[c1]) hall hx0 (by simp);have e1:Z03 (chc w) 2 [c1]=[.d (.int .i64 w.kind),.d (.str w.table),c1,.d (.sl (w.row.map GV.enc))]:=rfl;rw[e1] at q1;have q2:=Z60 (sp:=sp) (f:=3) (vs:=[c2]) (hall.set (k:=i) (x:=[.d (.int .i64 w.kind),.d (.str w.table),c1,.d (.sl (w.row.map GV.enc))]) rfl) (by rw[List.getElem?_set_self (by omega)]) (by simp);have e2:Z03 [.d (.int .i64 w.kind),.d (.str w.table),c1,.d (.sl (w.row.map GV.enc))] 3 [c2]=[.d (.int .i64 w.kind),.d (.str w.table),c1,c2]:=rfl;rw[e2,List.set_set] at q2;have hn1:=o1.new;have hn2:=o2.new;have hep1:=o1.same.1;have hep2:=o2.same.1;refine⟨b2,by omega,by rw[Z06 (by simp;omega)];omega,CutK.of ⟨by simp[en],by simp[e3],by simp[e8],by simp[e9],c1,c2,by rw[q1,q2];simp,?_,?_,?_,?_⟩⟩
   ·refine ((o1.ow.frame fun k hk=>?_).join (o2.ow.frame fun k hk=>?_))
    ·have:=hn1 k hk
     have hne:k≠l:=fun h9=>by subst h9;omega
     simp[hne,o2.same.2 k this.2 (by simp)]
    ·have:=hn2 k hk
     have hne:k≠l:=fun h9=>by subst h9;omega
     simp[hne]
   ·exact List.nodup_append.2 ⟨o1.nd,o2.nd,fun a ha b hb he=>by subst he;have:=hn1 a ha;have:=hn2 a hb;omega⟩
   ·intro k hk;simp;rcases List.mem_append.1 hk with h9 | h9
    ·have:=hn1 k h9;omega
    ·have:=hn2 k h9;omega
   ·exact ((hs2.mono (by simp)).setBox (.inl (by simp))).setBox (.inl (by simp))
  ·rintro e1 h1 ⟨en1,e31,e81,e91,c1,c2,hb1,ho,hnd2,hnew,hs1⟩;simp[en1,e91,hw];have hl0:=hlb l (by simp[labs]);have hep1:=hs1.1;have hset:ys.set i [.d (.int .i64 w.kind),.d (.str w.table),c1,c2]=(qs++[(([.d (.int .i64 w.kind),.d (.str w.table),c1,c2],w.enc,labs c1++labs c2):QC)]).map (·.1)++(cs.drop (i+1)).map chc:=by
    rw[hys,hdc,List.set_append_right _ _ (by simp;omega)];simp[hql]
   have ha2:AllC 4 (ys.set i [.d (.int .i64 w.kind),.d (.str w.table),c1,c2]):=hall.set rfl;have hold:∀ k ∈ qs.flatMap (·.2.2),k≠l:=fun k hk h9=>(List.nodup_append.1 hnd).2.2 l (by simp[labs]) k hk h9.symm;refine Back.of (n':=cs.length - (i+1)) (by omega) ⟨i+1,qs++[([.d (.int .i64 w.kind),.d (.str w.table),c1,c2],w.enc,labs c1++labs c2)],rfl,by omega,by simp[hql],by simp[en1],by simp[e31,hyl],by simp[e81],by simp,?_,?_,?_,?_,?_,?_⟩
   ·rw[← hset];refine⟨ha2,by rw[List.length_set];exact hm.2.1,.inr ⟨l,cap,sp,by simp,hb1,?_⟩⟩;rw[Z04 ha2,List.length_set,← Z04 hall];exact hcap
   ·rw[List.take_succ_eq_append_getElem hlt'];simp only[List.map_append,hds,List.map_cons,List.map_nil];rw[(List.getElem?_eq_some_iff.1 hci).2]
   ·intro q hq;rcases List.mem_append.1 hq with h9 | h9
    ·refine (how q h9).frame fun k hk=>hs1.2 k (hlb k ?_).2 ?_
     ·exact List.mem_append_right _ (List.mem_flatMap.2 ⟨q,h9,hk⟩)
     ·simp;exact hold k (List.mem_flatMap.2 ⟨q,h9,hk⟩)
    ·simp only[List.mem_singleton] at h9;subst h9;exact .data rfl (.data rfl ho)
   ·rw[List.flatMap_append,← List.append_assoc];refine List.nodup_append.2 ⟨hnd,by simpa using hnd2,fun a ha b hb he=>?_⟩;subst he
    have:=hlb a ha
    have:=hnew a (by simpa using hb)
    omega
   ·intro k hk;rw[List.flatMap_append,← List.append_assoc] at hk;rcases List.mem_append.1 hk with h9 | h9
    ·have:=hlb k h9;omega
    ·have:=hnew k (by simpa using h9)
     have:=hs.1
     omega
   ·exact hs.trans' hs1 fun k hk=>by simp at hk;subst hk;exact .inr hl0.1
 ·have hie:i=cs.length:=by omega
  subst hie;simp[en,e3];simp at hm;exact hk _ _ ⟨qs,⟨hm,by simpa using hds,how⟩,hnd,hlb,hs⟩ (hs.boxLe hg)
theorem Zhg {lo:Lab} {n cap i:Nat} {xs:List (List C)} {sp:List C} {rs:List Rel} {r:Rel} {c' cr:C} {rows:List (List GV)} (hall:AllC 2 xs) (hlen:xs.length=n) (hlim:xs.length≤LIM) (hcap:(rowBox xs sp).length=cap * 2)
  (hx:xs[i]?=some [.d (.str r.table),c']) (hr:cr.toD=some (.sl (rows.map (encL GV.enc)))) (he:xs.map toDs=rs.map fun r=>some r.enc) (H:HS) :
  RelAt (H.setBox lo (Z03 (rowBox xs sp) (i * 2+1) [cr])) (.mrow lo 0 n cap) (rs.set i ⟨r.table,rows⟩):=by
 have hs:Z03 (rowBox xs sp) (i * 2+1) [cr]=rowBox (xs.set i [.d (.str r.table),cr]) sp:=by
  rw[Z60 hall hx (by simp)];simp[Z03]
 rw[hs];refine⟨xs.set i [.d (.str r.table),cr],⟨hall.set (by simp),by simpa using hlim,.inr ⟨lo,cap,sp,by simp[hlen],by simp,?_⟩⟩,?_⟩
 ·rw[Z04 (hall.set (by simp)),List.length_set,← hcap,Z04 hall]
 ·rw[List.map_set,List.map_set,he];have e1:toDs [.d (.str r.table),cr]=some [.str r.table,.sl (rows.map (encL GV.enc))]:=by simp only[toDs,hr];rfl
  rw[e1];simp[Rel.enc]
theorem Zgq {ρ:Type} {t:ByteArray} {rows:List (List GV)} {k:List Rel→Option ρ} {out:List Rel} :
  forK (fun (i:Nat) (x:Rel) (s:List Rel) next=>bif strEq x.table t then next (s.set i ⟨x.table,rows⟩) else next s) k out 0 out=k (setR t rows out):=by
 have key:∀ (m i:Nat),out.length - i=m→i≤out.length→forK (fun (i:Nat) (x:Rel) (s:List Rel) next=>bif strEq x.table t then next (s.set i ⟨x.table,rows⟩) else next s) k (out.drop i) i (setR t rows (out.take i)++out.drop i)=k (setR t rows out):=by
  intro m
  induction m with
  | zero=>
    intro i hm hi;obtain rfl:i=out.length:=by omega
    simp[forK]
  | succ m ih=>
    intro i hm hi;have hlt:i < out.length:=by omega
    have h3:out.drop i=out[i]::out.drop (i+1):=List.drop_eq_getElem_cons hlt;have h4:=ih (i+1) (by omega) (by omega);rw[(Zm8 hlt).2] at h4;generalize setR t rows (out.take i)++out.drop i=s at h4 ⊢;rw[h3];simp only[forK];cases hb:strEq out[i].table t with
    | true=>rw[hb] at h4;exact h4
    | false=>rw[hb] at h4;exact h4
 have:=key out.length 0 (by omega) (by omega)
 simpa[setR] using this
theorem Zcs (h:HS) (l:Lab) (co cn cr:C) (M:Mp) (t:ByteArray) (rows:List (List GV)) (m:MpAt h l co cn M) (hr:cr.toD=some (.sl (rows.map (encL GV.enc)))) (K:V→HS→Prop)
  (hk:∀ h',MpAt h' l co cn { M with out:=setR t rows M.out }→Same h h' (labs co)→K (.tup []) h'):HSpec Tryz.prog 238 [.one (.ptr l 0),.one (.d (.str t)),.one cr] h K:=by
 refine HSpec.of_vc Tryz.func238 rfl (by kernel_rfl) (n:=34) rfl rfl (by simp) ?_;have hb:=m.box;simp only[mpC,Mp.enc,Stp.enc,List.map_cons,List.map_nil,List.cons_append,List.nil_append] at hb;obtain⟨xs,mx,-,hlen,hel⟩:=m.out.len;simp[hb];refine MR.lenK mx ?_;simp[hb];have hm:Is (forK (fun (i:Nat) (x:Rel) (s:List Rel) next=>bif strEq x.table t then next (s.set i ⟨x.table,rows⟩) else next s) (fun s=>some s) M.out 0 M.out) (setR t rows M.out):=Zgq;refine Wait.for (xs:=M.out) (s0:=M.out) (fun i s e h'=>e.n=34∧e.get 0=.one (.ptr l 0)∧e.get 1=.one (.d (.str t))∧e.get 2=.one cr∧e.get 11=.one (.d (.int .i64 (M.out.length:Int)))∧e.get 12=.one (.d (.int .i64 (i:Int))) ∧
  MpAt h' l co cn { M with out:=s }∧Same h h' (labs co)∧s.length=M.out.length∧∀ j,i≤j→s[j]?=M.out[j]?) hm ⟨by simp,by simp,by simp,by simp,by simp[hlen],by simp,m,.refl,rfl,fun _ _=>rfl⟩ ?_ ?_
 ·rintro i s e h1 ⟨hn,h0,h1',h2,h11,h12,m1,hs,hsl,hj⟩ hlt hm;have hw:IntKind.i64.wrap ((i:Int)+1)=(i:Int)+1:=IntWalk.i64_in _ (by have:=mx.2.1;simp at this;omega);have hb1:=m1.box;simp only[mpC,Mp.enc,Stp.enc,List.map_cons,List.map_nil,List.cons_append,List.nil_append] at hb1;obtain⟨ys,my,he',hyl,hye⟩:=m1.out.len;have hsi:s[i]?=some M.out[i]:=by rw[hj i (Nat.le_refl _)];exact List.getElem?_eq_getElem hlt
  obtain⟨c',hx,hc'⟩:=hye i _ hsi;have hyi:i < ys.length:=(List.getElem?_eq_some_iff.1 hx).1;obtain⟨lo,cap,sp,rfl,hbo,hcap⟩:=my.block (by omega);have ht0:takeN 1 ((rowBox ys sp).drop (i * 2))=some [.d (.str M.out[i].table)]:=by
   have h9:=Z5j (sp:=sp) (f:=0) (m:=1) my.1 hx (by simp);simpa[takeN] using h9
  have hln:=Z6o (sp:=sp) my.1 (k:=i) hyi;simp[hn,h0,h1',h2,h11,h12,hlt,hb1,hyi,hbo,ht0];refine r_cond hm ?_ ?_<;>clear hm<;>intro hc hm
  ·have hne:=m1.nl.1;simp[labs] at hne;have hle:i * 2+1+1≤(rowBox ys sp).length:=by omega
   simp[hn,h0,h1',h2,h11,h12,hlt,hb1,hyi,hbo,hw,hle];refine BackF.of (s.set i ⟨M.out[i].table,rows⟩) ⟨⟨by simp[hn],by simp[h0],by simp[h1'],by simp[h2],by simp[h11],by simp,⟨?_,?_,?_,?_,m1.nl⟩,?_,by simpa using hsl,?_⟩,hm⟩
   ·simp[hne];exact m1.box
   ·exact Zhg my.1 rfl my.2.1 hcap hx hr he' _
   ·exact m1.nc.frame fun k hkn=>by
     have:=m1.nl.2.2 lo (by simp[labs])
     have:k≠lo:=by rintro rfl;exact this hkn
     simp[this]
   ·intro k hk;simpa using m1.lt k hk
   ·exact hs.trans (Same.refl.setBox (.inl (by simp[labs])))
   ·intro j hij;rw[List.getElem?_set_ne (by omega)];exact hj j (by omega)
  ·simp[hn,h0,h1',h2,h11,h12,hlt,hb1,hyi,hbo,hw];exact BackF.of s ⟨⟨by simp[hn],by simp[h0],by simp[h1'],by simp[h2],by simp[h11],by simp,m1,hs,hsl,fun j hij=>hj j (by omega)⟩,hm⟩
 ·rintro s e h1 ⟨hn,h0,h1',h2,h11,h12,m1,hs,hsl,hj⟩ hm;obtain rfl:=r_ret hm;simp[hn,h0,h1',h2,h11,h12];exact hk _ m1 hs
theorem Z9z (h:HS) (l:Lab) (co cn cr:C) (M:Mp) (t:ByteArray) (rows:List (List GV)) (m:MpAt h l co cn M) (hr:cr.toD=some (.sl (rows.map (encL GV.enc)))) (K:V→HS→Prop)
  (hk:∀ h',MpAt h' l co cn { M with nc:=setR t rows M.nc }→Same h h' (labs cn)→K (.tup []) h'):HSpec Tryz.prog 239 [.one (.ptr l 0),.one (.d (.str t)),.one cr] h K:=by
 refine HSpec.of_vc Tryz.func239 rfl (by kernel_rfl) (n:=34) rfl rfl (by simp) ?_;have hb:=m.box;simp only[mpC,Mp.enc,Stp.enc,List.map_cons,List.map_nil,List.cons_append,List.nil_append] at hb;obtain⟨xs,mx,-,hlen,hel⟩:=m.nc.len;simp[hb];refine MR.lenK mx ?_;simp[hb];have hm:Is (forK (fun (i:Nat) (x:Rel) (s:List Rel) next=>bif strEq x.table t then next (s.set i ⟨x.table,rows⟩) else next s) (fun s=>some s) M.nc 0 M.nc) (setR t rows M.nc):=Zgq;refine Wait.for (xs:=M.nc) (s0:=M.nc) (fun i s e h'=>e.n=34∧e.get 0=.one (.ptr l 0)∧e.get 1=.one (.d (.str t))∧e.get 2=.one cr∧e.get 11=.one (.d (.int .i64 (M.nc.length:Int)))∧e.get 12=.one (.d (.int .i64 (i:Int))) ∧
  MpAt h' l co cn { M with nc:=s }∧Same h h' (labs cn)∧s.length=M.nc.length∧∀ j,i≤j→s[j]?=M.nc[j]?) hm ⟨by simp,by simp,by simp,by simp,by simp[hlen],by simp,m,.refl,rfl,fun _ _=>rfl⟩ ?_ ?_
 ·rintro i s e h1 ⟨hn,h0,h1',h2,h11,h12,m1,hs,hsl,hj⟩ hlt hm;have hw:IntKind.i64.wrap ((i:Int)+1)=(i:Int)+1:=IntWalk.i64_in _ (by have:=mx.2.1;simp at this;omega);have hb1:=m1.box;simp only[mpC,Mp.enc,Stp.enc,List.map_cons,List.map_nil,List.cons_append,List.nil_append] at hb1;obtain⟨ys,my,he',hyl,hye⟩:=m1.nc.len;have hsi:s[i]?=some M.nc[i]:=by rw[hj i (Nat.le_refl _)];exact List.getElem?_eq_getElem hlt
  obtain⟨c',hx,hc'⟩:=hye i _ hsi;have hyi:i < ys.length:=(List.getElem?_eq_some_iff.1 hx).1;obtain⟨lo,cap,sp,rfl,hbo,hcap⟩:=my.block (by omega);have ht0:takeN 1 ((rowBox ys sp).drop (i * 2))=some [.d (.str M.nc[i].table)]:=by
   have h9:=Z5j (sp:=sp) (f:=0) (m:=1) my.1 hx (by simp);simpa[takeN] using h9
  have hln:=Z6o (sp:=sp) my.1 (k:=i) hyi;simp[hn,h0,h1',h2,h11,h12,hlt,hb1,hyi,hbo,ht0];refine r_cond hm ?_ ?_<;>clear hm<;>intro hc hm
  ·have hne:=m1.nl.2.1;simp[labs] at hne;have hle:i * 2+1+1≤(rowBox ys sp).length:=by omega
   simp[hn,h0,h1',h2,h11,h12,hlt,hb1,hyi,hbo,hw,hle];refine BackF.of (s.set i ⟨M.nc[i].table,rows⟩) ⟨⟨by simp[hn],by simp[h0],by simp[h1'],by simp[h2],by simp[h11],by simp,⟨?_,?_,?_,?_,m1.nl⟩,?_,by simpa using hsl,?_⟩,hm⟩
   ·simp[hne];exact m1.box
   ·exact m1.out.frame fun k hkn=>by
     have:=m1.nl.2.2 k hkn
     have:k≠lo:=by rintro rfl;exact this (by simp[labs])
     simp[this]
   ·exact Zhg my.1 rfl my.2.1 hcap hx hr he' _
   ·intro k hk;simpa using m1.lt k hk
   ·exact hs.trans (Same.refl.setBox (.inl (by simp[labs])))
   ·intro j hij;rw[List.getElem?_set_ne (by omega)];exact hj j (by omega)
  ·simp[hn,h0,h1',h2,h11,h12,hlt,hb1,hyi,hbo,hw];exact BackF.of s ⟨⟨by simp[hn],by simp[h0],by simp[h1'],by simp[h2],by simp[h11],by simp,m1,hs,hsl,fun j hij=>hj j (by omega)⟩,hm⟩
 ·rintro s e h1 ⟨hn,h0,h1',h2,h11,h12,m1,hs,hsl,hj⟩ hm;obtain rfl:=r_ret hm;simp[hn,h0,h1',h2,h11,h12];exact hk _ m1 hs
end
end Go.Proofs.YthiojhcimecdgaaGreatDoor
section
namespace Go.Proofs.YthiojhcimecdgaaGreatDoor
open Go Go.Am
class ConM {α:Type} (m:Option α) (M0:outParam Mp) (M1:outParam (α→Mp)) (P:Program) (f:FuncId) (av:outParam (List AV)) (er:outParam (α→V)):Prop where
 h:∀ v,Is m v→∀ (h:HS) (l:Lab) (co cn:C) (vs:List V) (K:V→HS→Prop),MpAt h l co cn M0→toAs h vs=some av→(∀ h',MpAt h' l co cn (M1 v)→Same h h' (labs co++labs cn)→K (er v) h')→HSpec P f (.one (.ptr l 0)::vs) h K
theorem pre_rp {Γ:Ctx} {h:HS} {μ:Mem} {w:World} (hI:Am.Inv Γ h μ w) {l:Lab} {cs:List C} {ds:List D} (hb:h.box l=some cs) (hd:∀ (j:Nat) x,ds[j]?=some x→∃ c,cs[j]?=some c∧c.toD=some x) {b n:Nat} (hl:μ.loc l=some (some b,n)):RepP μ.cell (snap w) ds (.pointer (some ⟨b,0,none⟩)):=by
 obtain⟨b',n',T,conc,hl',_,hh,hR,_⟩:=hI.box l cs hb;rw[hl] at hl';simp only[Option.some.injEq,Prod.mk.injEq] at hl';obtain⟨rfl,rfl⟩:=hl';refine⟨b,0,rfl,fun j x hj=>?_⟩;obtain⟨c,hc,hx⟩:=hd j x hj;obtain⟨u,hu,hr⟩:=hR.2 j c hc;refine⟨u,.inr ?_,Z5b hr hx⟩;simp[snap,World.cell?,hh,hu]
theorem HSpec.of_pre {P:Program} {f:FuncId} {vs:List V} {av:List AV} {ds:List D} {cs:List C} {r:RV} {h:HS} {l:Lab} {K:V→HS→Prop} (d:Nat) (hs:PSpec P f (.one (.rp ds)::av) r) (hb:h.box l=some cs) (hd:∀ (j:Nat) x,ds[j]?=some x→∃ c,cs[j]?=some c∧c.toD=some x)
  (has:toAs h vs=some av) (hk:K (r.toV h.ep d) ((h.addFr d r.fr).next)):HSpec P f (.one (.ptr l 0)::vs) h K:=by
 refine⟨hs.1,fun Γ μ w vals hI hR=>?_⟩;obtain⟨hal,haR⟩:=Zig has;have hargs:Zap μ.cell (snap w) (.one (.rp ds)::av) vals:=by
  refine⟨by rw[hR.1];simp[hal],fun i x hi=>?_⟩;cases i with
  | zero=>
    simp at hi;subst hi;obtain⟨u,hu,hr⟩:=hR.2 0 _ rfl;obtain⟨b,n,hl,rfl⟩:=(show ∃ b n,μ.loc l=some (some b,n)∧u=.pointer (some ⟨b,0,none⟩) from hr);exact⟨_,hu,pre_rp hI hb hd hl⟩
  | succ i=>
    obtain⟨v,hv1,hv2⟩:=haR i x (by simpa using hi);obtain⟨u,hu,hr⟩:=hR.2 (i+1) v (by simpa using hv1);exact⟨u,hu,Zj1 hI hr hv2⟩
 refine (hs.2 w μ.cell (snap w) _ hI.glob hI.cell (Z6y w) hargs).mono ?_;rintro en w1 ⟨v,m',blk,rfl,hsub,hold,hcell,hbl,hr,hfr⟩;have hle:Mem.Le μ (relab μ h.ep d m' blk):=⟨hsub,rfl,fun l x hl=>by
  have:=hI.lt l (by rw[hl];simp)
  simp only[relab];rw[if_neg (by omega)];exact hl⟩
 exact⟨v,_,_,relab μ h.ep d m' blk,rfl,hk,hI.call d hsub hold hcell hbl hfr,RV_rep hr h.ep d,hle⟩
theorem MpAt.pre {h:HS} {l:Lab} {co cn:C} {M:Mp} (m:MpAt h l co cn M):∃ cs,h.box l=some cs∧∀ (j:Nat) x,M.enc[j]?=some x→∃ c,cs[j]?=some c∧c.toD=some x:=by
 refine⟨_,m.box,fun j x hx=>⟨.d x,?_,rfl⟩⟩;have hj:=(List.getElem?_eq_some_iff.1 hx).1;rw[mpC,List.getElem?_append_left (by simpa using hj),List.getElem?_map,hx];rfl
section
variable {ρ α:Type}
end
theorem Zif {h:HS} {vs:List V} (hv:toAs h vs=some []):vs=[]:=by
 cases vs with
 | nil=>rfl
 | cons v ws=>simp only[toAs] at hv;split at hv<;>cases hv
end Go.Proofs.YthiojhcimecdgaaGreatDoor
end
namespace Go.Proofs.YthiojhcimecdgaaGreatDoor
section
open Go.Am
def Z2q (s_:List Tbl) (f:Tbl→Option Bool):Option Int:=
 (forK (fun (i2:Nat) (x2:Tbl) (s2:Unit) next_2=>(bindK (f x2) fun v3=>(bif v3 then (some (i2:Int)) else (next_2 ())))) (fun (s2:Unit)=>(some (-1))) s_ 0 ())
instance i_slices_IndexFunc_Table (s_:List Tbl) (f:Tbl→Option Bool) {g:FuncId} {caps:List (List D)} [ConF f Tryz.prog (fun x=>.agg x.enc) (fun v=>.one (.d (.bool v))) g caps]:Con (Z2q s_ f) Tryz.prog 46 [.one (.d (.sl (s_.map Tbl.enc))),.one (.fn g caps)] (fun r=>.one (.d (.int .i64 r))):=by
 unfold Z2q;have l1:LH (σ:=Unit) 8 [0,1,7] []:=.intro;exact go 19 Tryz.func46 rfl (by kernel_rfl) rfl rfl (by simp)
theorem Z82 (s_:List Tbl) (g:FuncId) (caps:List (List D)) (f:Tbl→Option Bool) (hf:∀ xa v,Is (f xa) v→PSpec Tryz.prog g (.agg xa.enc::capsOf caps) (.one (.d (.bool v)))) (r:Int) (hm:Is (Z2q s_ f) r):PSpec Tryz.prog 46 [.one (.d (.sl (s_.map Tbl.enc))),.one (.fn g caps)] (.one (.d (.int .i64 r))):=
 haveI:ConF f Tryz.prog (fun x=>.agg x.enc) (fun v=>.one (.d (.bool v))) g caps:=⟨hf⟩
 (i_slices_IndexFunc_Table s_ f).h r hm
def Z27 (t:Tbl) (k0:ByteArray):Option Bool:=
 (some (strEq t.name k0))
instance c_schema_FindTable_1 (t:Tbl) (k0:ByteArray):Con (Z27 t k0) Tryz.prog 47 [.agg t.enc,.one (.rp [.str k0])] (fun r=>.one (.d (.bool r))):=by
 unfold Z27;exact go 8 Tryz.func47 rfl (by kernel_rfl) rfl rfl (by simp)
instance f_schema_FindTable_1 (k0:ByteArray):ConF (fun x=>Z27 x k0) Tryz.prog (fun x=>.agg x.enc) (fun r=>.one (.d (.bool r))) 47 [[.str k0]]:=⟨fun x=>(c_schema_FindTable_1 x k0)⟩
def Z05 (s_:Sch) (name:ByteArray):Option (Int × Bool):=
 (bindK (Z2q s_.tables (fun xa_=>Z27 xa_ name)) fun v3=>(some ((if v3 < 0 then 0 else v3),decide (0≤v3))))
instance c_schema_FindTable (s_:Sch) (name:ByteArray):Con (Z05 s_ name) Tryz.prog 16 [.agg s_.enc,.one (.d (.str name))] (fun r=>.tup [.one (.d (.int .i64 r.1)),.one (.d (.bool r.2))]):=by
 unfold Z05;exact go 15 Tryz.func16 rfl (by kernel_rfl) rfl rfl (by simp)
def Z4w (s_:List Col):Option (List Col):=some s_
theorem Z9g (s_:List Col) (r:List Col) (hm:Is (Z4w s_) r):PSpec Tryz.prog 133 [.one (.d (.sl (s_.map Col.enc)))] (.one (.fresh 0 3 (r.map Col.enc))):=by
 obtain rfl:=r_ret hm;refine bound1 ⟨_,Tryz.func133,by kernel_rfl,by kernel_rfl⟩ (fun hl=>?_);have hxs:∀ x ∈ s_.map Col.enc,x.length=3:=by
  intro x hx;obtain⟨y,_,rfl⟩:=List.mem_map.1 hx;rfl
 generalize s_.map Col.enc=xs at *;refine PSpec.of_vc Tryz.func133 rfl (by kernel_rfl) (n:=8) rfl rfl (by simp) ?_;simp;refine Z7y Z8x rfl (xs:=xs) rfl (fun b hb=>?_);cases b with
 | true=>
   have:xs=[]:=Classical.byContradiction fun h=>by simpa using hb h
   subst this;simp;exact Z3g (by simpa using GrowsV.nil)
 | false=>
   simp;refine Z6z (by simp) ?_;simp;refine Zcc Z8x (Grows.own (by simp) (by simp) (by simp)) rfl (by decide) (by decide) hxs (by simpa using hl) ?_;simp;exact Z3g (by simpa using GrowsV.app (by simp) (by simp) hxs rfl)
instance i_slices_Clone_Column (s_:List Col):Con (Z4w s_) Tryz.prog 133 [.one (.d (.sl (s_.map Col.enc)))] (fun r=>.one (.fresh 0 3 (r.map Col.enc))):=⟨fun r hm=>Z9g s_ r hm⟩
def Z2r (s_:List Int):Option (List Int):=some s_
theorem Z7l (s_:List Int) (r:List Int) (hm:Is (Z2r s_) r):PSpec Tryz.prog 94 [.one (.d (.sl (s_.map encI)))] (.one (.fresh 0 1 (r.map encI))):=by
 obtain rfl:=r_ret hm;refine bound1 ⟨_,Tryz.func94,by kernel_rfl,by kernel_rfl⟩ (fun hl=>?_);have hxs:∀ x ∈ s_.map encI,x.length=1:=by
  intro x hx;obtain⟨y,_,rfl⟩:=List.mem_map.1 hx;rfl
 generalize s_.map encI=xs at *;refine PSpec.of_vc Tryz.func94 rfl (by kernel_rfl) (n:=8) rfl rfl (by simp) ?_;simp;refine Z7y Zaa rfl (xs:=xs) rfl (fun b hb=>?_);cases b with
 | true=>
   have:xs=[]:=Classical.byContradiction fun h=>by simpa using hb h
   subst this;simp;exact Z3g (by simpa using GrowsV.nil)
 | false=>
   simp;refine Z6z (by simp) ?_;simp;refine Zcc Zaa (Grows.own (by simp) (by simp) (by simp)) rfl (by decide) (by decide) hxs (by simpa using hl) ?_;simp;exact Z3g (by simpa using GrowsV.app (by simp) (by simp) hxs rfl)
instance i_slices_Clone_Int (s_:List Int):Con (Z2r s_) Tryz.prog 94 [.one (.d (.sl (s_.map encI)))] (fun r=>.one (.fresh 0 1 (r.map encI))):=⟨fun r hm=>Z7l s_ r hm⟩
def Z3b (t:Tbl):Option Tbl:=
 (bindK (Z4w t.cols) fun v3=>(bindK (Z2r t.pk) fun v4=>(some (Tbl.mk t.name v3 v4))))
instance c_schema_CloneTable (t:Tbl):Con (Z3b t) Tryz.prog 93 [.agg t.enc] (fun r=>.agg (r.enc.map RC.d)):=by
 unfold Z3b;have p1:PH [1] (Plan.then_ [0,1,2,3,5,6,4,7,8,9] .done):=.intro;exact go 12 Tryz.func93 rfl (by kernel_rfl) rfl rfl (by simp)
def Z0z (s_:Sch) (inst:List Rel) (name:ByteArray):Option (Tbl × (List (List GV))):=
 (bindK (Z05 s_ name) fun v3=>(bif !v3.2 then (some ((Tbl.mk ByteArray.empty [] []),[])) else (getK s_.tables v3.1 fun x5=>(bindK (Z3b x5) fun v6=>(bif decide ((inst.length:Int)≤v3.1) then (some (v6,[])) else (getK inst v3.1 fun x10=>(bindK (Z0p x10.rows) fun v11=>(some (v6,v11)))))))))
instance c_instance_Table (s_:Sch) (inst:List Rel) (name:ByteArray):Con (Z0z s_ inst name) Tryz.prog 102 [.agg s_.enc,.one (.d (.sl (inst.map Rel.enc))),.one (.d (.str name))] (fun r=>.tup [.agg (r.1.enc.map RC.d),.one (.d (.sl (r.2.map (encL GV.enc))))]):=by
 unfold Z0z;have p1:PH [7] (Plan.then_ [0,1,2,3,4,5,6,7,8] .done):=.intro;exact go 38 Tryz.func102 rfl (by kernel_rfl) rfl rfl (by simp)
end
section
open Go Go.Am
theorem GrowP.nil' {h h':HS} {sh:List Sh} (hs:Same h h' []):GrowP h h' sh .nil []:=GrowP.nil.step hs
theorem GrowP.from2 {h0 h h1 h2:HS} {sh:List Sh} {c:C} {ds:List (List D)} {ls:List Lab} (g:GrowP h h1 sh c ds) (hs:Same h1 h2 ls) (hl:∀ k ∈ ls,k.1 < h.ep) (h0s:Same h0 h2 []) (he:h0.ep≤h.ep):GrowP h0 h2 sh c ds:=by
 obtain⟨qs,p,nd,hq,s⟩:=g;exact⟨qs,p.frame fun k hk=>hs.2 k (hq k hk).2 fun h9=>by have:=hl k h9;have:=(hq k hk).1;omega,nd,fun k hk=>⟨Nat.le_trans he (hq k hk).1,Nat.lt_of_lt_of_le (hq k hk).2 hs.1⟩,h0s⟩
theorem GrowP.same {h h':HS} {sh:List Sh} {c:C} {ds:List (List D)} (g:GrowP h h' sh c ds):Same h h' []:=by
 obtain⟨_,_,_,_,s⟩:=g;exact s
theorem Zaf {rows out:List (List GV)} (hm:Is (Z0p rows) out):out=rows:=by
 unfold Z0p at hm;have key:∀ (xs:List (List GV)) (i:Nat) (s:List (List GV)),Is (forK (fun (i3:Nat) (x3:List GV) (s3:List (List GV)) next_3=>bindK (Z2x x3) fun v5=>appK2 s3 [v5] fun _=>next_3 (s3++[v5])) (fun s3=>some s3) xs i s) out→out=s++xs:=by
  intro xs
  induction xs with
  | nil=>intro i s hm;simpa using (r_ret hm).symm
  | cons x xs ih=>
    intro i s hm;simp only[forK] at hm;obtain⟨v,hv,hm⟩:=hm.bind;obtain⟨_,hm⟩:=hm.app
    have:=ih _ _ hm
    have:v=x:=(r_ret hv).symm
    simp_all
 exact key rows 0 [] hm
theorem Zby (h:HS) (S:Sch) (inst:List Rel) (t:ByteArray) (T:Tbl) (rows:List (List GV)) (hm:Is (Z0z S inst t) (T,rows)) (k:Int) (hk1:Is (Z05 S t) (k,true)) (hok:∀ row ∈ rows,row.length≤2097152) (K:V→HS→Prop)
  (hk:∀ c h',GrowP h h' [RowSh] c (rows.map (encL GV.enc))→BoxLe h h'→K (.tup [.agg (T.enc.map C.d),.one c]) h') :
  HSpec Tryz.prog 102 [.agg (S.enc.map C.d),.one (.d (.sl (inst.map Rel.enc))),.one (.d (.str t))] h K:=by
 refine HSpec.good Tryz.func102 rfl (by kernel_rfl) fun hg=>?_;refine HSpec.of_vc Tryz.func102 rfl (by kernel_rfl) (n:=38) rfl rfl (by simp) ?_;unfold Z0z at hm;obtain⟨kk,hk2,hm⟩:=hm.bind;obtain rfl:kk=(k,true):=Option.some.inj (hk2.symm.trans hk1);simp;refine Z09 ((c_schema_FindTable S t).h (k,true) hk1) (by simp) ?_;simp;obtain⟨x,h0,hx,hm⟩:=Is.get (show Is (getK S.tables k _) _ from hm);obtain⟨x2,hx2,hm⟩:=hm.bind;simp[h0,hx];refine Z09 ((c_schema_CloneTable x).h x2 hx2) (by simp) ?_;simp;intro hl;refine r_cond hm ?_ ?_<;>clear hm<;>intro hc hm
 ·have hq:=r_ret hm;obtain⟨rfl,rfl⟩:=Prod.mk.inj hq;simp[retH,resVs,resV,notTup];have hs:∀ h',Same h h' []→K (.tup [.agg (x2.enc.map C.d),.one .nil]) h':=fun h' hs=>hk .nil h' (GrowP.nil' hs) (hs.boxLe hg);exact hs _ (by repeat' first | exact Same.refl | apply Same.next | apply Same.setArr | (refine Same.setBox ?_ (.inr (by simp))))
 ·obtain⟨y,h1,hy,hm⟩:=hm.get;obtain⟨rows2,hr2,hm⟩:=hm.bind;have hq:=r_ret hm;obtain⟨rfl,rfl⟩:=Prod.mk.inj hq;simp;refine Wait.cut (Plan.then_ [0,1,2,3,4,5,6,7,8] .done) follows (by kernel_rfl) (fun e1 h1=>∃ c,e1.n=38∧e1.get 6=.one (.ptr (h.ep+1,96) 0)∧h1.box (h.ep+1,96)=some [C.d (D.str x2.name),C.d (D.sl (List.map Col.enc x2.cols)),C.d (D.sl (List.map encI x2.pk))]∧e1.get 7=.one c∧GrowP h h1 [RowSh] c (rows2.map (encL GV.enc))) ?_ ?_
  ·simp[Plan.then_,vcPlan,Z01,Z00,callKind,h1,hy];obtain rfl:=Zaf hr2;refine Z02 (Z81 _ _ hok _ fun c h2 hg2 hb2=>?_);have hs2:=hg2.same;have b6:=hs2.2 (h.ep+1,96) (by simp) (by simp);simp at b6;simp[Plan.then_,vcPlan,Z01,Z00,callKind,h1,hy];refine⟨hb2,?_⟩;simp[Plan.then_,vcPlan,Z01,Z00,callKind,h1,hy,b6];refine CutK.of ⟨c,by simp,by simp,by simp,by simp,?_⟩;refine GrowP.from2 hg2 (ls:=[(h.ep+1,96)]) (Same.refl.setBox (.inl (by simp))) (by simp) (Same.setBox (Same.trans ?_ hs2) (.inr (by simp))) (by simp<;>omega)
   repeat' first | exact Same.refl | apply Same.next | apply Same.setArr | (refine Same.setBox ?_ (.inr (by simp)))
  ·rintro e1 h1 ⟨c,hn,h6,hb,h7,hg1⟩;simp[retH,resVs,resV,notTup,hn,h6,hb,h7];obtain⟨qs,p,nd,hl,hs⟩:=hg1;exact hk c _ ⟨qs,p,nd,hl,hs⟩ (hs.boxLe hg)
theorem Zcj (h:HS) (l:Lab) (co cn:C) (M:Mp) (t:ByteArray) (T:Tbl) (rows:List (List GV)) (m:MpAt h l co cn M) (hm:Is (Z0z M.src M.inp t) (T,rows)) (k:Int) (hk1:Is (Z05 M.src t) (k,true)) (hok:∀ row ∈ rows,row.length≤2097152) (K:V→HS→Prop)
  (hk:∀ c h',GrowP h h' [RowSh] c (rows.map (encL GV.enc))→BoxLe h h'→K (.tup [.agg (T.enc.map C.d),.one c]) h') :
  HSpec Tryz.prog 234 [.one (.ptr l 0),.one (.d (.str t))] h K:=by
 refine HSpec.good Tryz.func234 rfl (by kernel_rfl) fun hg=>?_;refine HSpec.of_vc Tryz.func234 rfl (by kernel_rfl) (n:=18) rfl rfl (by simp) ?_;have hb:=m.box;have hl1:=m.lt l (List.mem_cons_self ..);have hne:=ne_new hl1;have hne':=Z6p hl1;simp only[mpC,Mp.enc,Stp.enc,List.map_cons,List.map_nil,List.cons_append,List.nil_append] at hb;simp;refine Wait.cut (Plan.then_ [0,1,2,3,4,5,6,7,8,9,10,11,12,13] .done) follows (by kernel_rfl) (fun e1 h1=>∃ c,e1.n=18∧e1.get 4=.one (.ptr (h.ep,64) 0)∧h1.box (h.ep,64)=some (T.enc.map C.d)∧e1.get 5=.one c∧GrowP h h1 [RowSh] c (rows.map (encL GV.enc))) ?_ ?_
 ·simp[Plan.then_,vcPlan,Z01,Z00,callKind,hb,hne,hne'];refine Z02 (Zby _ M.src M.inp t T rows hm k hk1 hok _ fun c h2 hg2 hb2=>?_);have hs2:=hg2.same;have b4:=hs2.2 (h.ep,64) (by simp) (by simp);simp at b4;simp[Plan.then_,vcPlan,Z01,Z00,callKind,b4];refine⟨hb2,?_⟩
  try simp[Plan.then_,vcPlan,Z01,Z00,callKind,b4]
  refine CutK.of ⟨c,by simp,by simp,by simp,by simp,?_⟩;exact GrowP.from2 hg2 (ls:=[(h.ep,64)]) (Same.refl.setBox (.inl (by simp))) (by simp) (Same.setBox (Same.trans ((Same.refl.setBox (.inr (by simp))).next) hs2) (.inr (by simp))) (by simp)
 ·rintro e1 h1 ⟨c,hn,h4,hb4,h5,hg1⟩;have hb4':=hb4;simp only[Tbl.enc,List.map_cons,List.map_nil] at hb4';simp[retH,resVs,resV,notTup,hn,h4,hb4',h5];exact hk c _ hg1 (hg1.same.boxLe hg)
theorem Zc3 {h:HS} {n:Nat} {l:Lab} {cs r:List C} {off k cap:Nat} (hb:h.box l=some cs) (hk:off+k * n≤cs.length) (hr:(cs.drop off).take (k * n)=r):Z0i h n (.mrow l off k cap)=some r:=by
 simp only[Z0i,hb,takeN];rw[if_pos (by simp;omega),hr]
end
end Go.Proofs.YthiojhcimecdgaaGreatDoor
section
namespace Go.Am
open Go
open Go.RowKit (Below)
section
variable {P:Program} {w:World} {a:Act} {e:Env} {h:HS} {μ:Mem} {Γ:Ctx}
def HS.only (h:HS) (ls:List Lab):HS:={ h with box:=fun l=>if l ∈ ls then h.box l else none,arr:=fun _=>none }
def HS.sans (h:HS) (ls:List Lab):HS:={ h with box:=fun l=>if l ∈ ls then none else h.box l }
open Classical in
noncomputable def Mem.frz (μ:Mem) (h:HS) (ls:List Lab) (w:World):Mem:=
 { μ with cell:=fun b o=>match μ.cell b o with
   | some v=>some v
   | none=>if ∃ l cs n,l ∈ ls∧h.box l=some cs∧μ.loc l=some (some b,n) then w.cell? ⟨b,o,none⟩ else none }
theorem Mem.frz_cell {ls:List Lab} {b o:Nat} {v:Value} (hv:(μ.frz h ls w).cell b o=some v):μ.cell b o=some v∨((∃ l cs n,l ∈ ls∧h.box l=some cs∧μ.loc l=some (some b,n))∧w.cell? ⟨b,o,none⟩=some v):=by
 simp only[Mem.frz] at hv;cases hx:μ.cell b o with
 | some y=>rw[hx] at hv;exact .inl hv
 | none=>
   rw[hx] at hv;simp only at hv;split at hv
   ·rename_i hq;exact .inr ⟨hq,hv⟩
   ·cases hv
theorem Mem.frz_none {ls:List Lab} {b o:Nat} (h1:μ.cell b o=none) (h2:∀ l cs n,l ∈ ls→h.box l=some cs→μ.loc l=some (some b,n)→False):(μ.frz h ls w).cell b o=none:=by
 simp only[Mem.frz,h1];rw[if_neg];rintro⟨l,cs,n,q1,q2,q3⟩;exact h2 l cs n q1 q2 q3
theorem Mem.frz_le {ls:List Lab}:Mem.Le μ (μ.frz h ls w):=⟨fun b o v hv=>by simp[Mem.frz,hv],rfl,fun _ _ hx=>hx⟩
theorem Inv.only (hI:Inv Γ h μ w) (ls:List Lab):Inv Γ (h.only ls) μ w:=by
 have hb:∀ {l cs},(h.only ls).box l=some cs→h.box l=some cs:=by
  intro l cs hl;simp only[HS.only] at hl;split at hl
  ·exact hl
  ·cases hl
 have hv:∀ {l},(h.only ls).live l→h.live l:=by
  rintro l (hl | hl)
  ·cases hx:(h.only ls).box l with
   | none=>exact absurd hx hl
   | some cs=>exact .inl (by rw[hb hx];simp)
  ·exact absurd rfl hl
 exact⟨hI.cell,hI.tmp,hI.tcell,hI.told,hI.ext,hI.old,hI.below,fun l cs hl=>hI.box l cs (hb hl),fun l es n hl=>by simp[HS.only] at hl,fun l l' b n n' h1 h2=>hI.inj l l' b n n' (hv h1) (hv h2),hI.lt,fun l _ hl=>hl rfl⟩
theorem Inv.frz (hI:Inv Γ h μ w) (ls:List Lab):Inv Γ (h.sans ls) (μ.frz h ls w) w:=by
 have hb:∀ {l cs},(h.sans ls).box l=some cs→h.box l=some cs∧l ∉ ls:=by
  intro l cs hl;simp only[HS.sans] at hl;split at hl
  ·cases hl
  ·exact⟨hl,by assumption⟩
 have hv:∀ {l},(h.sans ls).live l→h.live l:=by
  rintro l (hl | hl)
  ·cases hx:(h.sans ls).box l with
   | none=>exact absurd hx hl
   | some cs=>exact .inl (by rw[(hb hx).1];simp)
  ·exact .inr hl
 refine⟨fun b o v hq=>?_,hI.tmp,hI.tcell,hI.told,fun b o v hq=>Mem.frz_le.cell _ _ _ (hI.ext _ _ _ hq),fun b o v hlt hq=>?_,hI.below,fun l cs hl=>?_,fun l es n hl=>?_,fun l l' b n n' h1 h2=>hI.inj l l' b n n' (hv h1) (hv h2),hI.lt,fun l h1 h2=>?_⟩
 ·rcases Mem.frz_cell hq with h1 | ⟨_,h1⟩
  ·exact hI.cell _ _ _ h1
  ·exact h1
 ·rcases Mem.frz_cell hq with h1 | ⟨⟨l,cs,n,_,q2,q3⟩,_⟩
  ·exact hI.old _ _ _ hlt h1
  ·obtain⟨b',n',T,conc,h1,h2,_⟩:=hI.box l cs q2;rw[q3] at h1;cases h1;omega
 ·obtain⟨h1,h2⟩:=hb hl;obtain⟨b,n,T,conc,q1,q2,q3,q4,q5⟩:=hI.box l cs h1;refine⟨b,n,T,conc,q1,q2,q3,q4.mono Mem.frz_le,fun o=>Mem.frz_none (q5 o) fun l' cs' n' r1 r2 r3=>?_⟩
  have:=hI.inj l l' b n n' (.inl (by rw[h1];simp)) (.inl (by rw[r2];simp)) q1 r3
  subst this;exact h2 r1
 ·obtain⟨gc,q1,q2⟩:=hI.arr l es n hl;refine⟨gc,q1,q2.1,fun g hg=>?_⟩;obtain⟨r1,T,cur,r2,r3,r4,r5,r6⟩:=q2.2 g hg;refine⟨r1,T,cur,r2,r3,r4,r5,fun o ho=>Mem.frz_none (r6 o ho) fun l' cs' n' s1 s2 s3=>?_⟩;have hl':h.arr l≠none:=by
   have:h.arr l=some (n,es):=hl
   rw[this];simp
  obtain⟨g1,g2⟩:=gc;simp only at hg;subst hg
  have:=hI.inj l l' g g2 n' (.inr hl') (.inl (by rw[s2];simp)) q1 s3
  subst this;exact hI.both l (by rw[s2];simp) hl'
 ·cases hx:(h.sans ls).box l with
  | none=>exact h1 hx
  | some cs=>exact hI.both l (by rw[(hb hx).1];simp) h2
theorem Zom (hI:Inv Γ h μ w) (ls:List Lab) {c:C} {x:D} {v:Value} (hf:Frz (h.only ls) c x) (hc:RepC μ c v):RepD (μ.frz h ls w).cell x v:=by
 refine Zhu (hI.only ls) Mem.frz_le.cell (fun l cs b n o u hb hl hu=>?_) hf hc;simp only[HS.only] at hb;split at hb
 ·rename_i hm;obtain⟨b',n',T,conc,q1,_,_,_,q5⟩:=hI.box l cs hb;rw[hl] at q1;simp only[Option.some.injEq,Prod.mk.injEq] at q1;obtain⟨rfl,_⟩:=q1;simp only[Mem.frz,q5 o];rw[if_pos ⟨l,cs,n,hm,hb,hl⟩];exact hu
 ·cases hb
def FrzC (h:HS) (c c':C):Prop:=c=c'∨∃ x,c'=.d x∧Frz h c x
def FrzCs' (h:HS):List C→List C→Prop
 | [],[]=>True
 | c::cs,x::xs=>FrzC h c x∧FrzCs' h cs xs
 | _,_=>False
def FrzV (h:HS):V→V→Prop
 | .one c,.one c'=>FrzC h c c'
 | .agg cs,.agg cs'=>FrzCs' h cs cs'
 | v,v'=>v=v'
def FrzVs' (h:HS):List V→List V→Prop
 | [],[]=>True
 | v::vs,x::xs=>FrzV h v x∧FrzVs' h vs xs
 | _,_=>False
def FrzR (h:HS):V→V→Prop
 | .tup vs,.tup vs'=>FrzVs' h vs vs'
 | v,v'=>FrzV h v v'
theorem FrzCs'.get:∀ {cs cs':List C},FrzCs' h cs cs'→cs.length=cs'.length∧∀ (i:Nat) c',cs'[i]?=some c'→∃ c,cs[i]?=some c∧FrzC h c c'
 | [],[],_=>⟨rfl,fun i x hi=>by simp at hi⟩
 | c::cs,y::xs,hr=>by
   obtain⟨h1,h2⟩:=FrzCs'.get hr.2;refine⟨by simp[h1],fun i x hi=>?_⟩;cases i with
   | zero=>simp at hi;subst hi;exact⟨c,by simp,hr.1⟩
   | succ i=>obtain⟨c',h3,h4⟩:=h2 i x (by simpa using hi);exact⟨c',by simpa using h3,h4⟩
 | [],_::_,hr=>hr.elim
 | _::_,[],hr=>hr.elim
theorem FrzVs'.get:∀ {cs cs':List V},FrzVs' h cs cs'→cs.length=cs'.length∧∀ (i:Nat) c',cs'[i]?=some c'→∃ c,cs[i]?=some c∧FrzV h c c'
 | [],[],_=>⟨rfl,fun i x hi=>by simp at hi⟩
 | c::cs,y::xs,hr=>by
   obtain⟨h1,h2⟩:=FrzVs'.get hr.2;refine⟨by simp[h1],fun i x hi=>?_⟩;cases i with
   | zero=>simp at hi;subst hi;exact⟨c,by simp,hr.1⟩
   | succ i=>obtain⟨c',h3,h4⟩:=h2 i x (by simpa using hi);exact⟨c',by simpa using h3,h4⟩
 | [],_::_,hr=>hr.elim
 | _::_,[],hr=>hr.elim
theorem FrzC.rep (hI:Inv Γ h μ w) (ls:List Lab) {c c':C} {v:Value} (hf:FrzC (h.only ls) c c') (hc:RepC μ c v):RepC (μ.frz h ls w) c' v:=by
 rcases hf with rfl | ⟨x,rfl,hf⟩
 ·exact hc.mono Mem.frz_le
 ·exact Zom hI ls hf hc
theorem FrzV.rep1 (hI:Inv Γ h μ w) (ls:List Lab) {v v':V} {u:Value} (hf:FrzV (h.only ls) v v') (hv:RepV1 μ v u):RepV1 (μ.frz h ls w) v' u:=by
 cases v with
 | one c=>cases v'<;>first | exact FrzC.rep hI ls hf hv | cases hf
 | agg cs=>
   cases v' with
   | agg cs'=>
     obtain⟨vs,h1,h2⟩:=hv;obtain⟨h3,h4⟩:=FrzCs'.get hf;refine⟨vs,h1,by rw[h2.1,h3],fun i c' hi=>?_⟩;obtain⟨c,h5,h6⟩:=h4 i c' hi;obtain⟨u',h7,h8⟩:=h2.2 i c h5;exact⟨u',h7,h6.rep hI ls h8⟩
   | _=>cases hf
 | top=>cases v'<;>first | trivial | cases hf
 | undef=>cases v'<;>first | exact hv | cases hf
 | tup vs=>exact hv.elim
theorem FrzV.rep (hI:Inv Γ h μ w) (ls:List Lab) {v v':V} {u:Value} (hf:FrzV (h.only ls) v v') (hv:RepV μ v u):RepV (μ.frz h ls w) v' u:=by
 cases v with
 | tup vs=>cases v'<;>first | (cases hf;done) | (cases hf;exact hv.mono Mem.frz_le)
 | one c=>have:=FrzV.rep1 (u:=u) hI ls hf (v:=.one c) hv;cases v'<;>first | exact this | cases hf
 | agg c=>have:=FrzV.rep1 (u:=u) hI ls hf (v:=.agg c) hv;cases v'<;>first | exact this | cases hf
 | top=>have:=FrzV.rep1 (u:=u) hI ls hf (v:=.top) hv;cases v'<;>first | exact this | cases hf
 | undef=>have:=FrzV.rep1 (u:=u) hI ls hf (v:=.undef) hv;cases v'<;>first | exact this | cases hf
theorem FrzR.rep (hI:Inv Γ h μ w) (ls:List Lab) {v v':V} {u:Value} (hf:FrzR (h.only ls) v v') (hv:RepV μ v u):RepV (μ.frz h ls w) v' u:=by
 cases v with
 | tup vs=>
   cases v' with
   | tup vs'=>
     obtain⟨us,h1,h2,h3⟩:=hv;obtain⟨h4,h5⟩:=FrzVs'.get hf;refine⟨us,h1,by rw[h2,h4],fun i x hi=>?_⟩;obtain⟨y,h6,h7⟩:=h5 i x hi;obtain⟨u',h8,h9⟩:=h3 i y h6;exact⟨u',h8,h7.rep1 hI ls h9⟩
   | _=>cases hf
 | one c=>exact FrzV.rep (v:=.one c) hI ls (by cases v'<;>exact hf) hv
 | agg c=>exact FrzV.rep (v:=.agg c) hI ls (by cases v'<;>exact hf) hv
 | top=>exact FrzV.rep (v:=.top) hI ls (by cases v'<;>exact hf) hv
 | undef=>exact FrzV.rep (v:=.undef) hI ls (by cases v'<;>exact hf) hv
theorem FrzC.refl {c:C}:FrzC h c c:=.inl rfl
theorem FrzV.refl {v:V}:FrzV h v v:=by
 have hcs:∀ cs:List C,FrzCs' h cs cs:=by intro cs;induction cs with | nil=>trivial | cons c cs ih=>exact⟨.refl,ih⟩
 cases v<;>first | exact .inl rfl | exact hcs _ | rfl
theorem HSpec.frz_args {f:FuncId} {vs vs':List V} {K:V→HS→Prop} (ls:List Lab) (hf:FrzVs' (h.only ls) vs vs') (hs:HSpec P f vs' (h.sans ls) K):HSpec P f vs h K:=by
 refine⟨hs.1,fun Γ μ w vals hI hR=>?_⟩;obtain⟨h4,h5⟩:=FrzVs'.get hf;refine (hs.2 Γ (μ.frz h ls w) w vals (hI.frz ls) ⟨by rw[hR.1,h4],fun i x hi=>?_⟩).mono ?_
 ·obtain⟨y,h6,h7⟩:=h5 i x hi;obtain⟨u',h8,h9⟩:=hR.2 i y h6;exact⟨u',h8,h7.rep hI ls h9⟩
 ·rintro en w' ⟨u,v,h',μ',rfl,hk,hI',hr,hle⟩;exact⟨u,v,h',μ',rfl,hk,hI',hr,Mem.frz_le.trans hle⟩
end
end Go.Am
end
namespace Go.Proofs.YthiojhcimecdgaaGreatDoor
section
open Go.Am
def Z4n (m:Mp) (table:ByteArray):Option Tbl:=
 (bindK (Z05 m.dst table) fun v2=>(getK m.dst.tables v2.1 fun x3=>(some x3)))
instance c_lens_mapping__output (m:Mp) (table:ByteArray):Con (Z4n m table) Tryz.prog 235 [.one (.rp m.enc),.one (.d (.str table))] (fun r=>.agg (r.enc.map RC.d)):=by
 unfold Z4n;exact go 24 Tryz.func235 rfl (by kernel_rfl) rfl rfl (by simp)
def Z5x (m:Mp) (key:List GV):Option ((List GV) × Bool):=
 (getK m.cs.tables 0 fun x1=>(getK m.comp 0 fun x3=>(bindK (Z25 x1 x3.rows key) fun v4=>(bif !v4.2 then (some ([],false)) else (getK x3.rows v4.1 fun x6=>(chkK (0≤(x1.pk.length:Int)∧(x1.pk.length:Int)≤(x6.length:Int)∧(x6.length:Int)≤(x6.length:Int)) (bindK (Z2x ((x6.take x6.length).drop x1.pk.length)) fun v9=>(some (v9,true)))))))))
instance c_lens_mapping__lookup (m:Mp) (key:List GV):Con (Z5x m key) Tryz.prog 236 [.one (.rp m.enc),.one (.d (.sl (key.map GV.enc)))] (fun r=>.tup [.one (.d (.sl (r.1.map GV.enc))),.one (.d (.bool r.2))]):=by
 unfold Z5x;have p1:PH [6] (Plan.then_ [0,1,2,3,4,5,6,7,8,9,10] .done):=.intro;exact go 42 Tryz.func236 rfl (by kernel_rfl) rfl rfl (by simp)
def Z3s (s_:List Col) (f:Col→Option Bool):Option Int:=
 (forK (fun (i2:Nat) (x2:Col) (s2:Unit) next_2=>(bindK (f x2) fun v3=>(bif v3 then (some (i2:Int)) else (next_2 ())))) (fun (s2:Unit)=>(some (-1))) s_ 0 ())
instance i_slices_IndexFunc_Column (s_:List Col) (f:Col→Option Bool) {g:FuncId} {caps:List (List D)} [ConF f Tryz.prog (fun x=>.agg x.enc) (fun v=>.one (.d (.bool v))) g caps]:Con (Z3s s_ f) Tryz.prog 151 [.one (.d (.sl (s_.map Col.enc))),.one (.fn g caps)] (fun r=>.one (.d (.int .i64 r))):=by
 unfold Z3s;have l1:LH (σ:=Unit) 8 [0,1,7] []:=.intro;exact go 19 Tryz.func151 rfl (by kernel_rfl) rfl rfl (by simp)
def Z3m (c:Col) (k0:ByteArray):Option Bool:=
 (some (strEq c.name k0))
instance c_schema_FindColumn_1 (c:Col) (k0:ByteArray):Con (Z3m c k0) Tryz.prog 152 [.agg c.enc,.one (.rp [.str k0])] (fun r=>.one (.d (.bool r))):=by
 unfold Z3m;exact go 8 Tryz.func152 rfl (by kernel_rfl) rfl rfl (by simp)
instance f_schema_FindColumn_1 (k0:ByteArray):ConF (fun x=>Z3m x k0) Tryz.prog (fun x=>.agg x.enc) (fun r=>.one (.d (.bool r))) 152 [[.str k0]]:=⟨fun x=>(c_schema_FindColumn_1 x k0)⟩
def Z08 (t:Tbl) (name:ByteArray):Option (Int × Bool):=
 (bindK (Z3s t.cols (fun xa_=>Z3m xa_ name)) fun v3=>(some ((if v3 < 0 then 0 else v3),decide (0≤v3))))
instance c_schema_FindColumn (t:Tbl) (name:ByteArray):Con (Z08 t name) Tryz.prog 127 [.agg t.enc,.one (.d (.str name))] (fun r=>.tup [.one (.d (.int .i64 r.1)),.one (.d (.bool r.2))]):=by
 unfold Z08;exact go 15 Tryz.func127 rfl (by kernel_rfl) rfl rfl (by simp)
end
section
open Go Go.Am
def RowsOK (rows:List (List GV)):Prop:=rows.length≤2097152∧∀ row ∈ rows,row≠[]∧row.length≤2097152
instance (rows:List (List GV)):Decidable (RowsOK rows):=inferInstanceAs (Decidable (_∧_))
abbrev vcells (row:List GV):List (List C):=(row.map GV.enc).map (·.map C.d)
theorem ow_row {h:HS} {x:C} {row:List GV} {ls:List Lab} (o:Ow h [RowSh] [x] [.sl (row.map GV.enc)] ls) (hne:row≠[]):MR h 3 x (vcells row)∧ls=labs x:=by
 rcases o.inv_r with ⟨c,cs,ds,h1,h2,_⟩ | ⟨c,qs,cs',ds',ls',h1,h2,h3,hm,hq,hr⟩
 ·simp at h2;exact absurd h2.1 hne
 ·obtain⟨rfl,rfl,rfl⟩:=hr.inv_nil;simp only[List.cons.injEq,and_true,D.sl.injEq] at h1 h2;subst h1;have hf:∀ q ∈ qs,q.1=q.2.1.map C.d∧q.2.2=[]:=fun q hqm=>(hq q hqm).flat (n:=3) rfl fun d hd=>by
   have:q.2.1 ∈ row.map GV.enc:=by rw[h2];exact List.mem_map.2 ⟨q,hqm,rfl⟩
   obtain⟨v,_,hv⟩:=List.mem_map.1 this;rw[← hv] at hd;simp at hd;rcases hd with rfl | rfl | rfl<;>rfl
  have e1:qs.map (·.1)=vcells row:=by
   rw[vcells,h2,List.map_map];exact List.map_congr_left fun q hqm=>(hf q hqm).1
  have e2:qs.flatMap (·.2.2)=[]:=by
   rw[List.flatMap_eq_nil_iff];exact fun q hqm=>(hf q hqm).2
  rw[e1] at hm;exact⟨hm,by rw[h3,e2];simp⟩
structure Rest (h:HS) (c:C) (qs:List NQ) (rows:List (List GV)) (i:Nat):Prop where
 mr:MR h 1 c (qs.map (·.1))
 ds:qs.map (·.2.1)=rows.map (encL GV.enc)
 ow:∀ (j:Nat) (q:NQ),i≤j→qs[j]?=some q→Ow h [RowSh] q.1 q.2.1 q.2.2
theorem Rest.of {h h':HS} {c:C} {rows:List (List GV)} (g:GrowP h h' [RowSh] c (rows.map (encL GV.enc))):∃ qs,Rest h' c qs rows 0∧(plabs c qs).Nodup∧∀ k ∈ plabs c qs,h.ep≤k.1∧k.1 < h'.ep:=by
 obtain⟨qs,p,nd,hl,_⟩:=g;exact⟨qs,⟨p.mr,p.ds,fun j q _ hq=>p.ow q (List.mem_of_getElem? hq)⟩,nd,hl⟩
theorem Rest.frame {h h':HS} {c:C} {qs:List NQ} {rows:List (List GV)} {i:Nat} (r:Rest h c qs rows i) (hb:∀ k ∈ plabs c qs,h'.box k=h.box k):Rest h' c qs rows i:=
 ⟨r.mr.frame fun l hl=>hb l (by simp[plabs,hl]),r.ds,fun j q hj hq=>(r.ow j q hj hq).frame fun l hl=>hb l (Z3i hq hl)⟩
theorem Rest.at {h:HS} {c:C} {qs:List NQ} {rows:List (List GV)} {i:Nat} (r:Rest h c qs rows i) (nd:(plabs c qs).Nodup) (hne:∀ row ∈ rows,row≠[]) (hi:i < rows.length) :
  ∃ lr cap sp x,qs[i]?.map (·.1)=some [x]∧c=.mrow lr 0 rows.length cap∧h.box lr=some (rowBox (qs.map (·.1)) sp)∧takeN 1 ((rowBox (qs.map (·.1)) sp).drop (i * 1))=some [x]∧MR h 3 x (vcells rows[i])∧(∀ k ∈ labs x,k ∈ plabs c qs∧k≠lr) ∧
    ∀ h',(∀ k ∈ plabs c qs,k ∉ labs x→h'.box k=h.box k)→Rest h' c qs rows (i+1):=by
 have hlen:qs.length=rows.length:=by have:=congrArg List.length r.ds;simpa using this
 have hq:qs[i]?=some qs[i]:=List.getElem?_eq_getElem (by omega);have ho:=r.ow i _ (Nat.le_refl _) hq;have hd:qs[i].2.1=[.sl (rows[i].map GV.enc)]:=by
  have:=congrArg (fun z=>z[i]?) r.ds
  simp only[List.getElem?_map,hq,List.getElem?_eq_getElem hi,Option.map_some,Option.some.injEq] at this;exact this
 obtain⟨lr,cap,sp,hc,hb,hcap⟩:=r.mr.block (by simp;omega);have h1:qs[i].1.length=1:=r.mr.1 _ (List.mem_map.2 ⟨_,List.getElem_mem _,rfl⟩);obtain⟨x,hx⟩:∃ x,qs[i].1=[x]:=by
  match h9:qs[i].1,h1 with
  | [x],_=>exact⟨x,rfl⟩
 rw[hd,hx] at ho;obtain⟨hm,hls⟩:=ow_row ho (hne _ (List.getElem_mem hi));have hlx:∀ k ∈ labs x,k ∈ plabs c qs∧k ∉ labs c:=fun k hk=>⟨Z3i hq (by rw[hls];exact hk),Z4h nd hq (by rw[hls];exact hk)⟩;refine⟨lr,cap,sp,x,by rw[hq,Option.map_some,hx],by simpa[hlen] using hc,hb,?_,hm,fun k hk=>⟨(hlx k hk).1,fun he=>(hlx k hk).2 (by rw[hc];simp[labs,he])⟩,fun h' hb'=>⟨?_,r.ds,fun j q hj hqj=>?_⟩⟩
 ·have:=Z5j (sp:=sp) (f:=0) (m:=1) r.mr.1 (k:=i) (x:=[x]) (by rw[List.getElem?_map,hq,Option.map_some,hx]) (by simp)
  simpa[takeN] using this
 ·exact r.mr.frame fun l hl=>hb' l (by simp[plabs,hl]) fun h9=>(hlx l h9).2 hl
 ·exact (r.ow j q (by omega) hqj).frame fun l hl=>hb' l (Z3i hqj hl) fun h9=>(Z75 nd hq hqj (by omega) hl).2 (by rw[hls];exact h9)
structure LM (h0 h3:HS) (bs:List (Lab × List C)) (c:C) (qs:List NQ) (rows:List (List GV)) (gs:List (C × List (List GV))) (i:Nat) (h:HS):Prop where
 box:∀ b ∈ bs,h.box b.1=some b.2
 rest:Rest h c qs rows i
 row:∀ g ∈ gs,MR h 1 g.1 (ones (g.2.map rowc))
 same:Same h0 h []
 ep:h3.ep≤h.ep
 lab:∀ g ∈ gs,∀ k ∈ labs g.1,h3.ep≤k.1∧k.1 < h.ep
 dis:(gs.flatMap fun g=>labs g.1).Nodup
 sb:∀ b ∈ bs,b.1.1 < h3.ep∧b.1 ∉ plabs c qs
 sq:∀ k ∈ plabs c qs,h0.ep≤k.1∧k.1 < h3.ep
 nd:(plabs c qs).Nodup
 s0:h0.ep≤h3.ep
 ne:∀ row ∈ rows,row≠[]
theorem LM.new {h0 h3 h h':HS} {bs:List (Lab × List C)} {c:C} {qs:List NQ} {rows:List (List GV)} {gs:List (C × List (List GV))} {i:Nat} (m:LM h0 h3 bs c qs rows gs i h) (hs:Same h h' []):LM h0 h3 bs c qs rows gs i h' where
 box:=fun b hb=>(hs.2 _ (Nat.lt_of_lt_of_le (m.sb b hb).1 m.ep) (by simp)).trans (m.box b hb)
 rest:=m.rest.frame fun k hk=>hs.2 k (Nat.lt_of_lt_of_le (m.sq k hk).2 m.ep) (by simp)
 row:=fun g hg=>(m.row g hg).frame fun k hk=>hs.2 k (m.lab g hg k hk).2 (by simp)
 same:=m.same.trans hs
 ep:=Nat.le_trans m.ep hs.1
 lab:=fun g hg k hk=>⟨(m.lab g hg k hk).1,Nat.lt_of_lt_of_le (m.lab g hg k hk).2 hs.1⟩
 dis:=m.dis
 sb:=m.sb
 sq:=m.sq
 nd:=m.nd
 s0:=m.s0
 ne:=m.ne
theorem LM.at {h0 h3 h:HS} {bs:List (Lab × List C)} {c:C} {qs:List NQ} {rows:List (List GV)} {gs:List (C × List (List GV))} {i:Nat} (m:LM h0 h3 bs c qs rows gs i h) (hi:i < rows.length) :
  ∃ lr cap sp x,qs[i]?.map (·.1)=some [x]∧c=.mrow lr 0 rows.length cap∧h.box lr=some (rowBox (qs.map (·.1)) sp)∧takeN 1 ((rowBox (qs.map (·.1)) sp).drop i)=some [x]∧MR h 3 x (vcells rows[i])∧∀ k ∈ labs x,k.1 < h3.ep:=by
 obtain⟨lr,cap,sp,x,hx,h1,h2,h4,h5,h6,h7⟩:=m.rest.at m.nd m.ne hi;exact⟨lr,cap,sp,x,hx,h1,h2,by simpa using h4,h5,fun k hk=>(m.sq k (h6 k hk).1).2⟩
theorem LM.use {h0 h3 h h':HS} {bs:List (Lab × List C)} {c:C} {qs:List NQ} {rows:List (List GV)} {gs:List (C × List (List GV))} {i:Nat} {x:C} (m:LM h0 h3 bs c qs rows gs i h) (hi:i < rows.length) (hx:qs[i]?.map (·.1)=some [x]) (hs:Same h h' (labs x)):LM h0 h3 bs c qs rows gs (i+1) h':=by
 obtain⟨lr,cap,sp,x',hx',h1,h2,h4,h5,h6,h7⟩:=m.rest.at m.nd m.ne hi;rw[hx] at hx';cases hx';have hg:∀ g ∈ gs,∀ k ∈ labs g.1,k ∉ labs x:=fun g hg k hk h9=>by
  have:=(m.lab g hg k hk).1
  have:=(m.sq k (h6 k h9).1).2
  omega
 exact⟨fun b hb=>(hs.2 _ (Nat.lt_of_lt_of_le (m.sb b hb).1 m.ep) fun h9=>(m.sb b hb).2 (h6 _ h9).1).trans (m.box b hb),h7 h' fun k hk hn=>hs.2 k (Nat.lt_of_lt_of_le (m.sq k hk).2 m.ep) hn,
  fun g hgm=>(m.row g hgm).frame fun k hk=>hs.2 k (m.lab g hgm k hk).2 (hg g hgm k hk),m.same.trans' hs fun k hk=>.inr (m.sq k (h6 k hk).1).1,Nat.le_trans m.ep hs.1,
  fun g hgm k hk=>⟨(m.lab g hgm k hk).1,Nat.lt_of_lt_of_le (m.lab g hgm k hk).2 hs.1⟩,m.dis,m.sb,m.sq,m.nd,m.s0,m.ne⟩
theorem LM.skip {h0 h3 h:HS} {bs:List (Lab × List C)} {c:C} {qs:List NQ} {rows:List (List GV)} {gs:List (C × List (List GV))} {i:Nat} (m:LM h0 h3 bs c qs rows gs i h):LM h0 h3 bs c qs rows gs (i+1) h:=
 { m with rest:=⟨m.rest.mr,m.rest.ds,fun j q hj hq=>m.rest.ow j q (by omega) hq⟩ }
theorem LM.set {h0 h3 h h':HS} {bs:List (Lab × List C)} {c c':C} {qs:List NQ} {rows rs':List (List GV)} {gs:List (C × List (List GV))} {i j:Nat} {g:C × List (List GV)} (m:LM h0 h3 bs c qs rows gs i h) (hj:gs[j]?=some g) (hm:MR h' 1 c' (ones (rs'.map rowc))) (hs:Same h h' (labs g.1)) (hl:∀ k ∈ labs c',k ∈ labs g.1∨(h.ep≤k.1∧k.1 < h'.ep)) :
  LM h0 h3 bs c qs rows (gs.set j (c',rs')) i h':=by
 have hgm:=List.mem_of_getElem? hj;have hjl:=(List.getElem?_eq_some_iff.1 hj).1;have hlab:=m.lab g hgm;have hdis:∀ (k1 k2:Nat) (g1 g2:C × List (List GV)),gs[k1]?=some g1→gs[k2]?=some g2→k1≠k2→∀ k ∈ labs g1.1,k ∉ labs g2.1:=by
  have gen:∀ (xs:List (C × List (List GV))),(xs.flatMap fun g=>labs g.1).Nodup→∀ (k1 k2:Nat) (g1 g2:C × List (List GV)),xs[k1]?=some g1→xs[k2]?=some g2→k1≠k2→∀ k ∈ labs g1.1,k ∉ labs g2.1:=by
   intro xs
   induction xs with
   | nil=>intro _ k1 k2 g1 g2 h1;simp at h1
   | cons y ys ih=>
     intro hn k1 k2 g1 g2 h1 h2 hne k hk h9;rw[List.flatMap_cons,List.nodup_append] at hn;cases k1 with
     | zero=>
       cases k2 with
       | zero=>exact hne rfl
       | succ k2=>
         simp at h1 h2;subst h1;exact hn.2.2 k hk k (List.mem_flatMap.2 ⟨g2,List.mem_of_getElem? h2,h9⟩) rfl
     | succ k1=>
       cases k2 with
       | zero=>
         simp at h1 h2;subst h2;exact hn.2.2 k h9 k (List.mem_flatMap.2 ⟨g1,List.mem_of_getElem? h1,hk⟩) rfl
       | succ k2=>exact ih hn.2.1 k1 k2 g1 g2 (by simpa using h1) (by simpa using h2) (by omega) k hk h9
  exact gen gs m.dis
 have hset:∀ (k1:Nat) (g1:C × List (List GV)),(gs.set j (c',rs'))[k1]?=some g1→(k1=j∧g1=(c',rs'))∨(k1≠j∧gs[k1]?=some g1):=by
  intro k1 g1 h1;rw[List.getElem?_set] at h1
  by_cases he:j=k1
  ·subst he;simp[hjl] at h1;exact .inl ⟨rfl,h1.symm⟩
  ·rw[if_neg he] at h1;exact .inr ⟨fun h9=>he h9.symm,h1⟩
 refine⟨fun b hb=>(hs.2 _ (Nat.lt_of_lt_of_le (m.sb b hb).1 m.ep) fun h9=>?_).trans (m.box b hb),m.rest.frame fun k hk=>hs.2 k (Nat.lt_of_lt_of_le (m.sq k hk).2 m.ep) fun h9=>?_,fun g1 hg1=>?_,m.same.trans' hs fun k hk=>.inr ?_,Nat.le_trans m.ep hs.1,fun g1 hg1 k hk=>?_,?_,m.sb,m.sq,m.nd,m.s0,m.ne⟩
 ·have:=(hlab _ h9).1
  have:=(m.sb b hb).1
  omega
 ·have:=(hlab _ h9).1
  have:=(m.sq k hk).2
  omega
 ·obtain⟨k1,hk1⟩:=List.getElem?_of_mem hg1;rcases hset k1 g1 hk1 with ⟨_,rfl⟩ | ⟨hne,h1⟩
  ·exact hm
  ·exact (m.row g1 (List.mem_of_getElem? h1)).frame fun k hk=>hs.2 k (m.lab g1 (List.mem_of_getElem? h1) k hk).2 (hdis k1 j g1 g h1 hj hne k hk)
 ·have:=(hlab k hk).1
  have:=m.s0
  omega
 ·obtain⟨k1,hk1⟩:=List.getElem?_of_mem hg1;rcases hset k1 g1 hk1 with ⟨_,rfl⟩ | ⟨hne,h1⟩
  ·rcases hl k hk with h9 | h9
   ·exact⟨(hlab k h9).1,Nat.lt_of_lt_of_le (hlab k h9).2 hs.1⟩
   ·exact⟨Nat.le_trans m.ep h9.1,h9.2⟩
  ·have:=m.lab g1 (List.mem_of_getElem? h1) k hk
   exact⟨this.1,Nat.lt_of_lt_of_le this.2 hs.1⟩
 ·
  have nodup_set:∀ (xs:List (C × List (List GV))) (j:Nat),xs[j]?=some g→(xs.flatMap fun g=>labs g.1).Nodup→(∀ g1 ∈ xs,∀ k ∈ labs g1.1,k.1 < h.ep)→((xs.set j (c',rs')).flatMap fun g=>labs g.1).Nodup∧∀ k ∈ ((xs.set j (c',rs')).flatMap fun g=>labs g.1),k ∈ (xs.flatMap fun g=>labs g.1)∨h.ep≤k.1:=by
   intro xs
   induction xs with
   | nil=>intro j h1;simp at h1
   | cons y ys ih=>
     intro j h1 hn hlt;rw[List.flatMap_cons,List.nodup_append] at hn;cases j with
     | zero=>
       simp at h1;subst h1;rw[List.set_cons_zero,List.flatMap_cons,List.flatMap_cons];refine⟨List.nodup_append.2 ⟨Z1i,hn.2.1,fun a ha b hb he=>?_⟩,fun k hk=>?_⟩
       ·subst he;rcases hl a ha with h9 | h9
        ·exact hn.2.2 a h9 a hb rfl
        ·obtain⟨g1,hg1,hk1⟩:=List.mem_flatMap.1 hb
         have:=hlt g1 (by simp[hg1]) a hk1
         omega
       ·rcases List.mem_append.1 hk with h9 | h9
        ·rcases hl k h9 with h8 | h8
         ·exact .inl (List.mem_append_left _ h8)
         ·exact .inr h8.1
        ·exact .inl (List.mem_append_right _ h9)
     | succ j=>
       rw[List.set_cons_succ,List.flatMap_cons,List.flatMap_cons];obtain⟨h3,h4⟩:=ih j (by simpa using h1) hn.2.1 fun g1 hg1=>hlt g1 (by simp[hg1]);refine⟨List.nodup_append.2 ⟨Z1i,h3,fun a ha b hb he=>?_⟩,fun k hk=>?_⟩
       ·subst he;rcases h4 a hb with h9 | h9
        ·exact hn.2.2 a ha a h9 rfl
        ·have:=hlt y (by simp) a ha
         omega
       ·rcases List.mem_append.1 hk with h9 | h9
        ·exact .inl (List.mem_append_left _ h9)
        ·exact (h4 k h9).imp (fun h8=>List.mem_append_right _ h8) id
  exact (nodup_set gs j hj m.dis fun g1 hg1 k hk=>(m.lab g1 hg1 k hk).2).1
theorem LM.app {P:Program} {ty el:TypeId} {by_ dd:Nat} {h0 h3 h:HS} {bs:List (Lab × List C)} {c xc:C} {qs:List NQ} {rows:List (List GV)} {gs:List (C × List (List GV))} {i:Nat} {g:C × List (List GV)} {row:List GV} {K:V→HS→Prop} (j:Nat) (m:LM h0 h3 bs c qs rows gs i h) (hj:gs[j]?=some g) (hel:elT P ty=some (el,1,by_)) (hz:(zeT P el).isSome=true) (hb:by_≤4096)
  (hr:RowAt h 1 xc [[rowc row]]) (hl:g.2.length+1≤LIM) (hk:∀ c' h',LM h0 h3 bs c qs rows (gs.set j (c',g.2++[row])) i h'→Same h h' (labs g.1)→K (.one c') h'):appK P ty g.1 xc dd h (K:=⟨K⟩):=by
 refine app_mr hel hz (by decide) hb (m.row g (List.mem_of_getElem? hj)) hr (by simpa[ones] using hl) fun c' h' hm hs hlb=>?_;exact hk c' h' (m.set hj (by simpa[ones] using hm) hs hlb) hs
theorem Za5 {d:Nat} {e:Env} {h:HS} {l:Lab} {co cn c:C} {M:Mp} {t:ByteArray} {rows:List (List GV)} {Kc:Env→HS→Prop} (m:MpAt h l co cn M) (hm:MR h 1 c (ones (rows.map rowc))) (hc:∀ k ∈ labs c,k ∉ l::(labs co++labs cn))
  (hk:∀ h',MpAt h' l co cn { M with out:=setR t rows M.out }→Same h h' (labs c++labs co)→Kc (e.put (some d) (.tup [])) h'):callK Tryz.prog 238 [] [.one (.ptr l 0),.one (.d (.str t)),.one c] d e h (K:=⟨Kc⟩):=by
 have hs:Same h (h.sans (labs c)) (labs c):=⟨Nat.le_refl _,fun k _ hn=>by simp only[HS.sans];rw[if_neg hn]⟩;have hfr:∀ k ∈ l::(labs co++labs cn),(h.sans (labs c)).box k=h.box k:=fun k hk1=>by
  simp only[HS.sans];rw[if_neg fun h9=>hc k h9 hk1]
 have m2:MpAt (h.sans (labs c)) l co cn M:=⟨by rw[hfr l (by simp)];exact m.box,m.out.frame fun k hk1=>hfr k (by simp[hk1]),m.nc.frame fun k hk1=>hfr k (by simp[hk1]),m.lt,m.nl⟩;refine Z02 ?_;simp only[List.map_nil,List.append_nil];refine HSpec.frz_args (vs':=[.one (.ptr l 0),.one (.d (.str t)),.one (.d (.sl (rows.map (encL GV.enc))))]) (labs c) ⟨.refl,.refl,.inr ⟨_,rfl,Z8a (hm.frame fun k hk1=>by simp only[HS.only];rw[if_pos hk1])⟩,trivial⟩ (Zcs _ l co cn _ M t rows m2 rfl _ fun h' m4 hs4=>?_);exact hk h' m4 ((hs.mono (by simp +contextual)).trans (hs4.mono (by simp +contextual)))
theorem Z7j {d:Nat} {e:Env} {h:HS} {l:Lab} {co cn c:C} {M:Mp} {t:ByteArray} {rows:List (List GV)} {Kc:Env→HS→Prop} (m:MpAt h l co cn M) (hm:MR h 1 c (ones (rows.map rowc))) (hc:∀ k ∈ labs c,k ∉ l::(labs co++labs cn))
  (hk:∀ h',MpAt h' l co cn { M with nc:=setR t rows M.nc }→Same h h' (labs c++labs cn)→Kc (e.put (some d) (.tup [])) h'):callK Tryz.prog 239 [] [.one (.ptr l 0),.one (.d (.str t)),.one c] d e h (K:=⟨Kc⟩):=by
 have hs:Same h (h.sans (labs c)) (labs c):=⟨Nat.le_refl _,fun k _ hn=>by simp only[HS.sans];rw[if_neg hn]⟩;have hfr:∀ k ∈ l::(labs co++labs cn),(h.sans (labs c)).box k=h.box k:=fun k hk1=>by
  simp only[HS.sans];rw[if_neg fun h9=>hc k h9 hk1]
 have m2:MpAt (h.sans (labs c)) l co cn M:=⟨by rw[hfr l (by simp)];exact m.box,m.out.frame fun k hk1=>hfr k (by simp[hk1]),m.nc.frame fun k hk1=>hfr k (by simp[hk1]),m.lt,m.nl⟩;refine Z02 ?_;simp only[List.map_nil,List.append_nil];refine HSpec.frz_args (vs':=[.one (.ptr l 0),.one (.d (.str t)),.one (.d (.sl (rows.map (encL GV.enc))))]) (labs c) ⟨.refl,.refl,.inr ⟨_,rfl,Z8a (hm.frame fun k hk1=>by simp only[HS.only];rw[if_pos hk1])⟩,trivial⟩ (Z9z _ l co cn _ M t rows m2 rfl _ fun h' m4 hs4=>?_);exact hk h' m4 ((hs.mono (by simp +contextual)).trans (hs4.mono (by simp +contextual)))
theorem Zmx {α:Type} {P:Program} {f:FuncId} {vs:List V} {av:List AV} {d:Nat} {e:Env} {h:HS} {l:Lab} {co cn:C} {M:Mp} {Kc:Env→HS→Prop} {er:α→RV} {m:Option α} {x:α} (hx:Is m x) [i:Con m P f (.one (.rp M.enc)::av) er]
  (hp:MpAt h l co cn M) (has:toAs h vs=some av) (hk:Kc (e.put (some d) ((er x).toV h.ep d)) ((h.addFr d (er x).fr).next)):callK P f [] (.one (.ptr l 0)::vs) d e h (K:=⟨Kc⟩):=by
 obtain⟨cs,hbx,hd⟩:=hp.pre;exact Z02 (by simpa using HSpec.of_pre (K:=fun v h'=>Kc (e.put (some d) v) h') d (i.h x hx) hbx hd has hk)
def Z0l (M:Mp):Option Mp:=
 bindK (Z0z M.src M.inp M.step.table) fun q=>bindK (Z05 M.src M.step.table) fun f=>chkK (f.2=true∧RowsOK q.2) <|
 bindK (Z4n M M.step.table) fun T2=>bindK (Z08 T2 M.step.column) fun at_=>
 forK (fun (_:Nat) (_:List GV) (_:List (List GV) × List (List GV)) _=>none)
  (fun s=>some { M with out:=setR M.step.table s.1 M.out,nc:=setR M.step.table s.2 M.nc }) q.2 0 ([],[])
theorem Zak (h0:HS) (l:Lab) (co cn:C) (M M1:Mp) (hm:Is (Z0l M) M1) (m:MpAt h0 l co cn M) (K:V→HS→Prop)
  (hK:∀ h',MpAt h' l co cn M1→Same h0 h' (labs co++labs cn)→K (.tup []) h'):HSpec Tryz.prog 218 [.one (.ptr l 0)] h0 K:=by
 refine HSpec.of_vc Tryz.func218 rfl (by kernel_rfl) (n:=91) rfl rfl (by simp) ?_;unfold Z0l at hm;obtain⟨⟨T,rows⟩,ht,hm⟩:=hm.bind;obtain⟨⟨k,f⟩,hk1,hm⟩:=hm.bind;obtain⟨hfo,hm'⟩:=hm.chk;clear hm;obtain⟨rfl,hok⟩:=hfo;have hm:=hm';clear hm';simp only at hm hok;have hb:=m.box;have hl1:=m.lt l (List.mem_cons_self ..);have hne:=ne_new hl1;have hne':=Z6p hl1;simp only[mpC,Mp.enc,Stp.enc,List.map_cons,List.map_nil,List.cons_append,List.nil_append] at hb;simp;refine Wait.cut (Plan.then_ [0,1,2,3,4,5,6,7,8,9,10,11,12] .done) follows (by kernel_rfl) (fun e1 h1=>∃ ld:Lab,e1.n=91∧e1.get 0=.one (.ptr l 0)∧e1.get 2=.one (.d (.str M.step.table))∧e1.get 3=.one (.ptr ld 0)∧h1.box ld=some (M.step.value.enc.map C.d)∧h0.ep≤ld.1∧ld.1 < h1.ep∧Same h0 h1 []) ?_ ?_
 ·simp[Plan.then_,vcPlan,Z01,Z00,callKind,hb,hne,hne'];refine CutK.of ⟨(h0.ep,48),by simp,by simp,by simp,by simp,by simp,by simp,by simp,?_⟩
  repeat' first | exact Same.refl | apply Same.next | apply Same.setArr | (refine Same.setBox ?_ (.inr (by simp)))
 ·rintro e1 h1 ⟨ld,en,e0,e2,e3,bd,hld,hld2,hs1⟩;simp[en,e0,e2,e3];refine Z02 (Zcj _ l co cn M M.step.table T rows (m.frame hs1) ht k hk1 (fun row hr=>(hok.2 row hr).2) _ fun c h2 hg2 hb2=>?_);simp[en,e0,e2,e3];obtain⟨lt_,hlt_⟩:∃ q,q=(h2.ep,64):=⟨_,rfl⟩;obtain⟨T2,hT2,hm⟩:=hm.bind;refine Wait.cut (Plan.then_ [0,1,3,4,5,6,7,2,8,9,10,11,12,13] .done) follows (by kernel_rfl) (fun E3 h3=>∃ at_:Int × Bool,Is (Z08 T2 M.step.column) at_∧E3.n=91∧E3.get 0=.one (.ptr l 0)∧E3.get 2=.one (.d (.str M.step.table))∧E3.get 3=.one (.ptr ld 0)∧E3.get 4=.one (.ptr (h2.ep,64) 0)∧E3.get 5=.one c∧E3.get 6=.one (.d (.int .i64 at_.1)) ∧
   h3.box ld=some (M.step.value.enc.map C.d)∧h3.box (h2.ep,64)=some (T.enc.map C.d)∧Same h2 h3 []∧h2.ep < h3.ep∧Same h0 h3 []) ?_ ?_
  ·obtain⟨at_,hat,hm⟩:=hm.bind;have hs2:=hs1.trans hg2.same;have m2:=m.frame hs2;have hb2:=m2.box;have bd2:=hg2.same.2 ld hld2 (by simp);rw[bd] at bd2;simp only[mpC,Mp.enc,Stp.enc,List.map_cons,List.map_nil,List.cons_append,List.nil_append] at hb2;have hl2:=m2.lt l (List.mem_cons_self ..);have hn2:=ne_new hl2;have hn2':=Z6p hl2;simp[Plan.then_,vcPlan,Z01,Z00,callKind,hn2,hn2',en,e0,e2,e3,hb2];refine Zmx hT2 (m2.frame ((Same.refl.setBox (.inr (by simp))).next.setBox (.inr (by simp)))) ?_ ?_
   ·simp
   simp[Plan.then_,vcPlan,Z01,Z00,callKind,hn2,hn2',en,e0,e2,e3,hb2];refine⟨fun _ _ x=>x,Z09 ((c_schema_FindColumn T2 M.step.column).h at_ hat) (by simp) ?_⟩;simp[Plan.then_,vcPlan,Z01,Z00,callKind,hn2,hn2',en,e0,e2,e3,hb2];refine⟨fun _ _ x=>x,CutK.of ⟨at_,hat,by simp[en],by simp[e0,en],by simp[e2,en],by simp[e3,en],by simp[en],by simp[en],by simp[en],?_,by simp,?_,by simp,hs2.trans ?_⟩⟩
   ·have hnd:=ne_new (l:=ld) (n:=h2.ep) (Nat.lt_of_lt_of_le hld2 hg2.same.1);simp[bd2,hnd]
   all_goals repeat' first | exact Same.refl | apply Same.next | apply Same.setArr | (refine Same.setBox ?_ (.inr (by simp)))
  ·rintro E3 h3 ⟨at_,hat,en,e0,e2,e3,e4,e5,e6,bd,bt,hs23,hlt3,hs3⟩;obtain⟨at2,hat2,hm⟩:=hm.bind;obtain rfl:at_=at2:=Option.some.inj (hat.symm.trans hat2);simp[en,e0,e2,e3,e4,e5,e6];obtain⟨qs,r0,nd,hlq⟩:=Rest.of hg2;have r3:=r0.frame fun k hk=>hs23.2 k (hlq k hk).2 (by simp);have hqs:qs.length=rows.length:=by have:=congrArg List.length r0.ds;simpa using this
   refine MR.lenK r3.mr ?_;simp[en,e0,e2,e3,e4,e5,e6,hqs];have m3:LM h0 h3 [(ld,M.step.value.enc.map C.d),((h2.ep,64),T.enc.map C.d)] c qs rows [(.nil,[]),(.nil,[])] 0 h3:=
    ⟨by simpa using⟨bd,bt⟩,r3,by simp[ones,MR.nil],hs3,Nat.le_refl _,by simp[labs],by simp[labs],?_,fun k hk=>?_,nd,?_,fun row hr=>(hok.2 row hr).1⟩
   ·refine Wait.for (xs:=rows) (s0:=([],[])) (fun i s e h'=>∃ cO cC,e.n=91∧e.get 0=.one (.ptr l 0)∧e.get 2=.one (.d (.str M.step.table))∧e.get 3=.one (.ptr ld 0)∧e.get 4=.one (.ptr (h2.ep,64) 0)∧e.get 6=.one (.d (.int .i64 at_.1))∧e.get 8=.one cO∧e.get 9=.one cC∧e.get 44=.one c∧e.get 45=.one (.d (.int .i64 (rows.length:Int)))∧e.get 46=.one (.d (.int .i64 (i:Int))) ∧
     LM h0 h3 [(ld,M.step.value.enc.map C.d),((h2.ep,64),T.enc.map C.d)] c qs rows [(cO,s.1),(cC,s.2)] i h'∧s.1.length=i∧s.2.length≤i) hm
     ⟨.nil,.nil,by simp[en],by simp[e0],by simp[e2],by simp[e3],by simp[e4],by simp[e6],by simp,by simp,by simp,by simp,by simp,m3,rfl,by simp⟩ ?_ ?_
    ·rintro i s e h' _ hlt hm;cases hm
    ·rintro s e h' ⟨cO,cC,en,e0,e2,e3,e4,e6,e8,e9,e44,e45,e46,mL,hsO,hsC⟩ hm;obtain rfl:=r_ret hm;simp[en,e0,e2,e3,e4,e6,e8,e9,e44,e45,e46];have hmo:∀ k ∈ l::(labs co++labs cn),k.1 < h0.ep:=m.lt;have h03:=hs3.1;have hgl:=mL.lab;have hO:∀ k ∈ labs cO,h3.ep≤k.1∧k.1 < h'.ep:=hgl _ (List.mem_cons_self ..);have hC:∀ k ∈ labs cC,h3.ep≤k.1∧k.1 < h'.ep:=hgl _ (List.mem_cons_of_mem _ (List.mem_cons_self ..));have hdis:∀ k ∈ labs cC,k ∉ labs cO:=fun k hk h9=>by
      have:=mL.dis
      simp only[List.flatMap_cons,List.flatMap_nil,List.append_nil] at this;exact (List.nodup_append.1 this).2.2 k h9 k hk rfl
     refine Za5 (m.frame mL.same) (mL.row _ (List.mem_cons_self ..)) (fun k hk h9=>by have:=hmo k h9;have:=(hO k hk).1;omega) fun h4 m4 hs4=>?_;simp[en,e0,e2,e3,e4,e6,e8,e9,e44,e45,e46];refine Z7j m4 ((mL.row _ (List.mem_cons_of_mem _ (List.mem_cons_self ..))).frame fun k hk=>hs4.2 k (hC k hk).2 fun h9=>?_) (fun k hk h9=>by have:=hmo k h9;have:=(hC k hk).1;omega) fun h5 m5 hs5=>?_
     ·rcases List.mem_append.1 h9 with h8 | h8
      ·exact hdis k hk h8
      ·have:=hmo k (by simp[h8])
       have:=(hC k hk).1
       omega
     simp[en,e0,e2,e3,e4,e6,e8,e9,e44,e45,e46];refine hK h5 m5 (Same.trans' (Same.trans' (mL.same.mono (by simp)) hs4 fun k hk=>?_) hs5 fun k hk=>?_)
     ·rcases List.mem_append.1 hk with h8 | h8
      ·exact .inr (by have:=(hO k h8).1;omega)
      ·exact .inl (by simp[h8])
     ·rcases List.mem_append.1 hk with h8 | h8
      ·exact .inr (by have:=(hC k h8).1;omega)
      ·exact .inl (by simp[h8])
   ·intro b hb;simp at hb;rcases hb with rfl | rfl
    ·have h12:=hg2.same.1;have h23:=hs23.1;refine⟨by simp;omega,fun h9=>?_⟩
     have:=(hlq _ h9).1
     simp at this;omega
    ·refine⟨by simp;omega,fun h9=>?_⟩
     have:=(hlq _ h9).2
     simp at this
   ·have:=hlq k hk
    have:=hs1.1
    omega
   ·have:=hs3.1
    omega
instance c_lens_mapping__insertColumn (M:Mp):ConM (Z0l M) M (fun r=>r) Tryz.prog 218 [] (fun _=>.tup []):=⟨by
 intro r hm h l co cn vs K hp has hK;obtain rfl:=Zif has;exact Zak h l co cn M r hm hp K hK⟩
def Z0k (M:Mp):Option Mp:=
 bindK (Z0z M.src M.inp M.step.table) fun q=>bindK (Z05 M.src M.step.table) fun f=>chkK (f.2=true∧RowsOK q.2) <|
 bindK (Z08 q.1 M.step.column) fun at_=>
 forK (fun (_:Nat) (_:List GV) (_:List (List GV) × List (List GV)) _=>none)
  (fun s=>some { M with out:=setR M.step.table s.1 M.out,nc:=setR M.step.table s.2 M.nc }) q.2 0 ([],[])
theorem Zaj (h0:HS) (l:Lab) (co cn:C) (M M1:Mp) (hm:Is (Z0k M) M1) (m:MpAt h0 l co cn M) (K:V→HS→Prop)
  (hK:∀ h',MpAt h' l co cn M1→Same h0 h' (labs co++labs cn)→K (.tup []) h'):HSpec Tryz.prog 219 [.one (.ptr l 0)] h0 K:=by
 refine HSpec.of_vc Tryz.func219 rfl (by kernel_rfl) (n:=79) rfl rfl (by simp) ?_;unfold Z0k at hm;obtain⟨⟨T,rows⟩,ht,hm⟩:=hm.bind;obtain⟨⟨k,f⟩,hk1,hm⟩:=hm.bind;obtain⟨hfo,hm'⟩:=hm.chk;clear hm;obtain⟨rfl,hok⟩:=hfo;have hm:=hm';clear hm';simp only at hm hok;have hb:=m.box;have hl1:=m.lt l (List.mem_cons_self ..);have hne:=ne_new hl1;have hne':=Z6p hl1;simp only[mpC,Mp.enc,Stp.enc,List.map_cons,List.map_nil,List.cons_append,List.nil_append] at hb;simp;refine Wait.cut (Plan.then_ [0,1,2,3,4,5,6,7,8,9,10,11,12] .done) follows (by kernel_rfl) (fun e1 h1=>∃ ld:Lab,e1.n=79∧e1.get 0=.one (.ptr l 0)∧e1.get 2=.one (.d (.str M.step.table))∧e1.get 3=.one (.ptr ld 0)∧h1.box ld=some (M.step.value.enc.map C.d)∧h0.ep≤ld.1∧ld.1 < h1.ep∧Same h0 h1 []) ?_ ?_
 ·simp[Plan.then_,vcPlan,Z01,Z00,callKind,hb,hne,hne'];refine CutK.of ⟨(h0.ep,48),by simp,by simp,by simp,by simp,by simp,by simp,by simp,?_⟩
  repeat' first | exact Same.refl | apply Same.next | apply Same.setArr | (refine Same.setBox ?_ (.inr (by simp)))
 ·rintro e1 h1 ⟨ld,en,e0,e2,e3,bd,hld,hld2,hs1⟩;simp[en,e0,e2,e3];refine Z02 (Zcj _ l co cn M M.step.table T rows (m.frame hs1) ht k hk1 (fun row hr=>(hok.2 row hr).2) _ fun c h2 hg2 hb2=>?_);simp[en,e0,e2,e3];refine Wait.cut (Plan.then_ [0,1,2,3,4,5,6,7,8,9,10,11] .done) follows (by kernel_rfl) (fun E3 h3=>∃ at_:Int × Bool,Is (Z08 T M.step.column) at_∧E3.n=79∧E3.get 0=.one (.ptr l 0)∧E3.get 2=.one (.d (.str M.step.table))∧E3.get 3=.one (.ptr ld 0)∧E3.get 4=.one (.ptr (h2.ep,64) 0)∧E3.get 5=.one c∧E3.get 6=.one (.d (.int .i64 at_.1)) ∧
   h3.box ld=some (M.step.value.enc.map C.d)∧h3.box (h2.ep,64)=some (T.enc.map C.d)∧Same h2 h3 []∧h2.ep < h3.ep∧Same h0 h3 []) ?_ ?_
  ·obtain⟨at_,hat,hm⟩:=hm.bind;have hs2:=hs1.trans hg2.same;have m2:=m.frame hs2;have hb2:=m2.box;have bd2:=hg2.same.2 ld hld2 (by simp);rw[bd] at bd2;simp only[mpC,Mp.enc,Stp.enc,List.map_cons,List.map_nil,List.cons_append,List.nil_append] at hb2;have hl2:=m2.lt l (List.mem_cons_self ..);have hn2:=ne_new hl2;have hn2':=Z6p hl2;simp[Plan.then_,vcPlan,Z01,Z00,callKind,hn2,hn2',en,e0,e2,e3,hb2];refine Z09 ((c_schema_FindColumn T M.step.column).h at_ hat) (by simp) ?_;simp[Plan.then_,vcPlan,Z01,Z00,callKind,hn2,hn2',en,e0,e2,e3,hb2]
   first | refine⟨fun _ _ x=>x,CutK.of ?_⟩ | refine CutK.of ?_
   refine⟨at_,hat,by simp[en],by simp[e0,en],by simp[e2,en],by simp[e3,en],by simp[en],by simp[en],by simp[en],?_,by simp,?_,by simp,hs2.trans ?_⟩
   ·have hnd:=ne_new (l:=ld) (n:=h2.ep) (Nat.lt_of_lt_of_le hld2 hg2.same.1);simp[bd2,hnd]
   all_goals repeat' first | exact Same.refl | apply Same.next | apply Same.setArr | (refine Same.setBox ?_ (.inr (by simp)))
  ·rintro E3 h3 ⟨at_,hat,en,e0,e2,e3,e4,e5,e6,bd,bt,hs23,hlt3,hs3⟩;obtain⟨at2,hat2,hm⟩:=hm.bind;obtain rfl:at_=at2:=Option.some.inj (hat.symm.trans hat2);simp[en,e0,e2,e3,e4,e5,e6];obtain⟨qs,r0,nd,hlq⟩:=Rest.of hg2;have r3:=r0.frame fun k hk=>hs23.2 k (hlq k hk).2 (by simp);have hqs:qs.length=rows.length:=by have:=congrArg List.length r0.ds;simpa using this
   refine MR.lenK r3.mr ?_;simp[en,e0,e2,e3,e4,e5,e6,hqs];have m3:LM h0 h3 [(ld,M.step.value.enc.map C.d),((h2.ep,64),T.enc.map C.d)] c qs rows [(.nil,[]),(.nil,[])] 0 h3:=
    ⟨by simpa using⟨bd,bt⟩,r3,by simp[ones,MR.nil],hs3,Nat.le_refl _,by simp[labs],by simp[labs],?_,fun k hk=>?_,nd,?_,fun row hr=>(hok.2 row hr).1⟩
   ·refine Wait.for (xs:=rows) (s0:=([],[])) (fun i s e h'=>∃ cO cC,e.n=79∧e.get 0=.one (.ptr l 0)∧e.get 2=.one (.d (.str M.step.table))∧e.get 3=.one (.ptr ld 0)∧e.get 4=.one (.ptr (h2.ep,64) 0)∧e.get 6=.one (.d (.int .i64 at_.1))∧e.get 8=.one cO∧e.get 9=.one cC∧e.get 38=.one c∧e.get 39=.one (.d (.int .i64 (rows.length:Int)))∧e.get 40=.one (.d (.int .i64 (i:Int))) ∧
     LM h0 h3 [(ld,M.step.value.enc.map C.d),((h2.ep,64),T.enc.map C.d)] c qs rows [(cO,s.1),(cC,s.2)] i h'∧s.1.length=i∧s.2.length≤i) hm
     ⟨.nil,.nil,by simp[en],by simp[e0],by simp[e2],by simp[e3],by simp[e4],by simp[e6],by simp,by simp,by simp,by simp,by simp,m3,rfl,by simp⟩ ?_ ?_
    ·rintro i s e h' _ hlt hm;cases hm
    ·rintro s e h' ⟨cO,cC,en,e0,e2,e3,e4,e6,e8,e9,e38,e39,e40,mL,hsO,hsC⟩ hm;obtain rfl:=r_ret hm;simp[en,e0,e2,e3,e4,e6,e8,e9,e38,e39,e40];have hmo:∀ k ∈ l::(labs co++labs cn),k.1 < h0.ep:=m.lt;have h03:=hs3.1;have hgl:=mL.lab;have hO:∀ k ∈ labs cO,h3.ep≤k.1∧k.1 < h'.ep:=hgl _ (List.mem_cons_self ..);have hC:∀ k ∈ labs cC,h3.ep≤k.1∧k.1 < h'.ep:=hgl _ (List.mem_cons_of_mem _ (List.mem_cons_self ..));have hdis:∀ k ∈ labs cC,k ∉ labs cO:=fun k hk h9=>by
      have:=mL.dis
      simp only[List.flatMap_cons,List.flatMap_nil,List.append_nil] at this;exact (List.nodup_append.1 this).2.2 k h9 k hk rfl
     refine Za5 (m.frame mL.same) (mL.row _ (List.mem_cons_self ..)) (fun k hk h9=>by have:=hmo k h9;have:=(hO k hk).1;omega) fun h4 m4 hs4=>?_;simp[en,e0,e2,e3,e4,e6,e8,e9,e38,e39,e40];refine Z7j m4 ((mL.row _ (List.mem_cons_of_mem _ (List.mem_cons_self ..))).frame fun k hk=>hs4.2 k (hC k hk).2 fun h9=>?_) (fun k hk h9=>by have:=hmo k h9;have:=(hC k hk).1;omega) fun h5 m5 hs5=>?_
     ·rcases List.mem_append.1 h9 with h8 | h8
      ·exact hdis k hk h8
      ·have:=hmo k (by simp[h8])
       have:=(hC k hk).1
       omega
     simp[en,e0,e2,e3,e4,e6,e8,e9,e38,e39,e40];refine hK h5 m5 (Same.trans' (Same.trans' (mL.same.mono (by simp)) hs4 fun k hk=>?_) hs5 fun k hk=>?_)
     ·rcases List.mem_append.1 hk with h8 | h8
      ·exact .inr (by have:=(hO k h8).1;omega)
      ·exact .inl (by simp[h8])
     ·rcases List.mem_append.1 hk with h8 | h8
      ·exact .inr (by have:=(hC k h8).1;omega)
      ·exact .inl (by simp[h8])
   ·intro b hb;simp at hb;rcases hb with rfl | rfl
    ·have h12:=hg2.same.1;have h23:=hs23.1;refine⟨by simp;omega,fun h9=>?_⟩
     have:=(hlq _ h9).1
     simp at this;omega
    ·refine⟨by simp;omega,fun h9=>?_⟩
     have:=(hlq _ h9).2
     simp at this
   ·have:=hlq k hk
    have:=hs1.1
    omega
   ·have:=hs3.1
    omega
instance c_lens_mapping__removeColumn (M:Mp):ConM (Z0k M) M (fun r=>r) Tryz.prog 219 [] (fun _=>.tup []):=⟨by
 intro r hm h l co cn vs K hp has hK;obtain rfl:=Zif has;exact Zaj h l co cn M r hm hp K hK⟩
theorem Z8f (h:HS) (c:C) (xs:List (List C)) (hr:RowAt h 2 c xs) (K:V→HS→Prop)
  (hk:∀ c' h',MR h' 2 c' xs→Same h h' []→(∀ l ∈ labs c',h.ep≤l.1∧l.1 < h'.ep)→BoxLe h h'→K (.one c') h') :
  HSpec Tryz.prog 200 [.one c] h K:=by
 refine HSpec.good Tryz.func200 rfl (by kernel_rfl) fun hg=>?_;refine HSpec.of_vc Tryz.func200 rfl (by kernel_rfl) (n:=8) rfl rfl (by simp) ?_;simp;refine Zbv Z85 hr (fun h1=>?_) ?_
 ·subst h1;simp;exact hk _ _ MR.nil .refl (by simp[labs]) (BoxLe.refl h)
 ·simp;refine Z9o (by simp) ?_;simp;refine Zcb Z85 (by kernel_rfl) (by decide) (by decide) hr (fun c' h' hm hs hl=>?_);simp;exact hk _ _ hm hs hl (hs.boxLe hg)
end
section
open Go.Am
def Z0g (v_:GV):Option Int:=
 (bif (v_.kind == 0) then (bif (v_.int != 0) then (some 3) else (bif !(strEq v_.text ByteArray.empty) then (some 3) else (some 0))) else (bif (v_.kind == 1) then (bif !(strEq v_.text ByteArray.empty) then (some 3) else (bif (v_.kind == 2) then (bif (v_.int != 0) then (bif (v_.int != 1) then (some 1) else (bif decide (v_.int < (-1000000000000)) then (some 1) else (bif decide (1000000000000 < v_.int) then (some 1) else (some 0)))) else (bif decide (v_.int < (-1000000000000)) then (some 1) else (bif decide (1000000000000 < v_.int) then (some 1) else (some 0)))) else (bif decide (v_.int < (-1000000000000)) then (some 1) else (bif decide (1000000000000 < v_.int) then (some 1) else (some 0))))) else (bif (v_.kind == 2) then (bif !(strEq v_.text ByteArray.empty) then (some 3) else (bif (v_.int != 0) then (bif (v_.int != 1) then (some 1) else (bif decide (v_.int < (-1000000000000)) then (some 1) else (bif decide (1000000000000 < v_.int) then (some 1) else (some 0)))) else (bif decide (v_.int < (-1000000000000)) then (some 1) else (bif decide (1000000000000 < v_.int) then (some 1) else (some 0))))) else (bif (v_.kind == 3) then (bif (v_.int != 0) then (some 3) else (bif decide (24 < (v_.text.size:Int)) then (some 2) else (some 0))) else (some 7)))))
instance c_value_Validate (v_:GV):Con (Z0g v_) Tryz.prog 131 [.agg v_.enc] (fun r=>.one (.d (.int .i64 r))):=by
 unfold Z0g;exact go 53 Tryz.func131 rfl (by kernel_rfl) rfl rfl (by simp)
def Z0b (t:Tbl) (row:List GV):Option Int:=
 (bif ((row.length:Int) != (t.cols.length:Int)) then (some 3) else (forK (fun (i6:Nat) (x6:GV) (s6:Unit) next_6=>(bindK (Z0g x6) fun v8=>(bif (v8 != 0) then (some v8) else (bif (x6.kind == 0) then (getK t.cols (i6:Int) fun x11=>(bif !x11.nullable then (some 8) else (bif (x6.kind != 0) then (bif (x6.kind != x11.kind) then (some 7) else (next_6 ())) else (next_6 ())))) else (bif (x6.kind != 0) then (getK t.cols (i6:Int) fun x16=>(bif (x6.kind != x16.kind) then (some 7) else (next_6 ()))) else (next_6 ())))))) (fun (s6:Unit)=>(some 0)) row 0 ()))
instance c_instance_ConformsRow (t:Tbl) (row:List GV):Con (Z0b t row) Tryz.prog 122 [.agg t.enc,.one (.d (.sl (row.map GV.enc)))] (fun r=>.one (.d (.int .i64 r))):=by
 unfold Z0b;have l1:LH (σ:=Unit) 16 [2,14,15] []:=.intro;have p1:PH [11] (Plan.then_ [0,1,2,3,4,5,6,7,8,9,10,11,12,13] .done):=.intro;exact go 53 Tryz.func122 rfl (by kernel_rfl) rfl rfl (by simp)
def Z0d (s_:Sch) (inst:List Rel):Option Int:=
 (bif ((inst.length:Int) != (s_.tables.length:Int)) then (some 3) else (forK (fun (i6:Nat) (x6:Rel) (s6:Unit) next_6=>(getK s_.tables (i6:Int) fun x8=>(bif !(strEq x6.table x8.name) then (some 3) else (bif decide (24 < (x6.rows.length:Int)) then (some 2) else (forK (fun (i14:Nat) (x14:List GV) (s14:Unit) next_14=>(bindK (Z0b x8 x14) fun v15=>(bif (v15 != 0) then (some v15) else (bif ((i14:Int) == 0) then (next_14 ()) else (chkK (okI ((i14:Int) - 1)) (getK x6.rows ((i14:Int) - 1) fun x19=>(bindK (Z2j x8 x19) fun v20=>(bindK (Z2j x8 x14) fun v21=>(bindK (Z2f v20 v21) fun v22=>(bif (v22 == 0) then (some 9) else (bif decide (0 < v22) then (some 6) else (next_14 ())))))))))))) (fun (s14:Unit)=>(next_6 ())) x6.rows 0 ()))))) (fun (s6:Unit)=>(some 0)) inst 0 ()))
instance c_instance_Conforms (s_:Sch) (inst:List Rel):Con (Z0d s_ inst) Tryz.prog 81 [.agg s_.enc,.one (.d (.sl (inst.map Rel.enc)))] (fun r=>.one (.d (.int .i64 r))):=by
 unfold Z0d;have l1:LH (σ:=Unit) 20 [2,18,19] []:=.intro;have l2:LH (σ:=Unit) 42 [2,6,7,18,19,20,40,41] []:=.intro;have p1:PH [18] (Plan.then_ [0,1,2,3,4,5,6,8,9,7,10,11,12] .done):=.intro;exact go 75 Tryz.func81 rfl (by kernel_rfl) rfl rfl (by simp)
end
section
open Go Go.Am
def Z42 (M:Mp):Option Mp:=
 chkK (M.step.kind=1∨M.step.kind=2) (bif M.fwd == (M.step.kind == 1) then Z0l M else Z0k M)
theorem Zdq (h0:HS) (l:Lab) (co cn:C) (M M1:Mp) (hm:Is (Z42 M) M1) (m:MpAt h0 l co cn M) (K:V→HS→Prop)
  (hK:∀ h' co' cn',MpAt h' l co' cn' M1→Same h0 h' (l::(labs co++labs cn))→K (.tup []) h'):HSpec Tryz.prog 199 [.one (.ptr l 0)] h0 K:=by
 refine HSpec.of_vc Tryz.func199 rfl (by kernel_rfl) (n:=98) rfl rfl (by simp) ?_;unfold Z42 at hm;obtain⟨hk,hm⟩:=hm.chk;have hb:=m.box;simp only[mpC,Mp.enc,Stp.enc,List.map_cons,List.map_nil,List.cons_append,List.nil_append] at hb;have fin:∀ {f:FuncId} {d:Nat} {e:Env} {m1:Option Mp} [i:ConM m1 M (fun r=>r) Tryz.prog f [] (fun _=>.tup [])],Is m1 M1→∀ Kc:Env→HS→Prop,(∀ h',K (.tup []) h'→Kc (e.put (some d) (.tup [])) h')→callK Tryz.prog f [] [.one (.ptr l 0)] d e h0 (K:=⟨Kc⟩):=by
  intro f d e m1 i hm1 Kc hk1;refine Z02 (by simpa using i.h M1 hm1 h0 l co cn [] _ m rfl fun h' m' hs=>hk1 h' (hK h' co cn m' (hs.mono (by simp +contextual))))
 have hfw:M.fwd=true∨M.fwd=false:=by cases M.fwd<;>simp
 rcases hk with hk | hk<;>rcases hfw with hf | hf<;>rw[hk,hf] at hm
 ·simp[hb,hk,hf];refine fin (m1:=Z0l M) hm _ fun h' hk'=>?_;simpa using hk'
 ·simp[hb,hk,hf];refine fin (m1:=Z0k M) hm _ fun h' hk'=>?_;simpa using hk'
 ·simp[hb,hk,hf];refine fin (m1:=Z0k M) hm _ fun h' hk'=>?_;simpa using hk'
 ·simp[hb,hk,hf];refine fin (m1:=Z0l M) hm _ fun h' hk'=>?_;simpa using hk'
theorem toD_rd {c:C} {xs:List (List D)} (h:c.toD=some (.sl xs)):Rd c xs:=by
 cases c<;>simp[C.toD] at h<;>subst h<;>exact⟨rfl,rfl,fun _=>rfl⟩
def mpIn (M:Mp):List C:=M.step.enc.map C.d++[.d (.bool M.fwd),.d (.sl (M.src.tables.map Tbl.enc)),.d (.sl (M.src.fks.map Fk.enc)),.d (.sl (M.src.cons.map Cons.enc)),.d (.sl (M.dst.tables.map Tbl.enc)),.d (.sl (M.dst.fks.map Fk.enc)),.d (.sl (M.dst.cons.map Cons.enc)),
 .d (.sl (M.cs.tables.map Tbl.enc)),.d (.sl (M.cs.fks.map Fk.enc)),.d (.sl (M.cs.cons.map Cons.enc)),.nil,.nil,.nil,.nil,.d (.int .i64 0)]
def Z9m (M:Mp) (inp comp:List Rel):Option (List Rel × List Rel × Int):=
 bindK (Z0d M.src inp) fun e1=>bif e1 != 0 then some ([],[],e1) else
 bindK (Z0d M.cs comp) fun e2=>bif e2 != 0 then some ([],[],e2) else
 bindK (Z0h inp) fun i2=>bindK (Z0h comp) fun c2=>bindK (Z28 M.dst) fun o=>bindK (Z28 M.cs) fun n=>
 forK (fun (i:Nat) (rel:Rel) (s:List Rel) next=>bindK (Z05 M.src rel.table) fun f=>
  bif f.2 then bindK (Z0z M.src inp rel.table) fun q=>next (s.set i ⟨rel.table,q.2⟩) else next s)
 (fun s=>bindK (Z42 { M with inp:=i2,comp:=c2,out:=s,nc:=n,err:=0 }) fun M2=>chkK (M2.out.length+M2.nc.length≤2097152)
  (forK (fun (_:Nat) (rel:Rel) (e:Int) next=>next (bif decide (24 < rel.rows.length) && (e == 0) then 12 else e))
   (fun e=>bif e != 0 then some ([],[],e) else some (M2.out,M2.nc,0)) (M2.out++M2.nc) 0 M2.err)) o 0 o
theorem Zev (h0:HS) (l:Lab) (M:Mp) (inp comp:List Rel) (r:List Rel × List Rel × Int) (hb:h0.box l=some (mpIn M)) (hl1:l.1 < h0.ep) (hm:Is (Z9m M inp comp) r) (K:V→HS→Prop)
  (hK:∀ c1 c2 h',Frz h' c1 (.sl (r.1.map Rel.enc))→Frz h' c2 (.sl (r.2.1.map Rel.enc))→K (.tup [.one c1,.one c2,.one (.d (.int .i64 r.2.2))]) h') :
  HSpec Tryz.prog 170 [.one (.ptr l 0),.one (.d (.sl (inp.map Rel.enc))),.one (.d (.sl (comp.map Rel.enc)))] h0 K:=by
 refine HSpec.of_vc Tryz.func170 rfl (by kernel_rfl) (n:=150) rfl rfl (by simp) ?_;unfold Z9m at hm;have hne:=ne_new hl1;have hne':=Z6p hl1;simp only[mpIn,Stp.enc,List.map_cons,List.map_nil,List.cons_append,List.nil_append] at hb;obtain⟨e1,he1,hm⟩:=hm.bind;simp[hb];refine Z09 ((c_instance_Conforms M.src inp).h e1 he1) (by simp) ?_;simp;refine r_cond hm ?_ ?_<;>clear hm<;>intro hc1 hm
 ·obtain rfl:=r_ret hm;simp[retH,resVs,resV,notTup];exact hK .nil .nil _ (.data rfl) (.data rfl)
 obtain⟨e2,he2,hm⟩:=hm.bind;simp[hb];refine Z09 ((c_instance_Conforms M.cs comp).h e2 he2) (by simp) ?_;simp;refine r_cond hm ?_ ?_<;>clear hm<;>intro hc2 hm
 ·obtain rfl:=r_ret hm;simp[retH,resVs,resV,notTup];exact hK .nil .nil _ (.data rfl) (.data rfl)
 obtain⟨i2,hi2,hm⟩:=hm.bind;obtain⟨c2,hcc2,hm⟩:=hm.bind;simp[hb];refine Z09 ((c_instance_Clone inp).h i2 hi2) (by simp) ?_;simp[hb];refine Z09 ((c_instance_Clone comp).h c2 hcc2) (by simp) ?_;simp[hb];obtain⟨o,ho,hm⟩:=hm.bind;obtain⟨n,hn,hm⟩:=hm.bind;have hlt2:∀ k,h0.ep≤k→l.1 < k:=fun k hk=>by omega
 refine Wait.cut (Plan.then_ [0,1,2,3,4,5,7,8,9,10,6,11,12,13,14,15,16,17] .done) follows (by kernel_rfl) (fun E1 h1=>∃ co cn,E1.n=150∧E1.get 0=.one (.ptr l 0)∧E1.get 1=.one (.d (.sl (inp.map Rel.enc))) ∧
  MpAt h1 l co cn { M with inp:=i2,comp:=c2,out:=o,nc:=n,err:=0 }∧Same h0 h1 [l]∧∀ k ∈ labs co++labs cn,h0.ep≤k.1) ?_ ?_
 ·simp[Plan.then_,vcPlan,Z01,Z00,callKind];refine Z02 (Z8o _ M.dst o ho _ fun co h1 ro hs1 hla hb1=>?_);have b1:=hs1.2 l (by simp;omega) (by simp);simp at b1;simp[Plan.then_,vcPlan,Z01,Z00,callKind,b1];refine⟨hb1,?_⟩;refine Z02 (Z8o _ M.cs n hn _ fun cn h2 rn hs2 hlb hb2=>?_);have b2:=hs2.2 l (by have:=hs1.1;simp at this;omega) (by simp);rw[b1] at b2;simp[Plan.then_,vcPlan,Z01,Z00,callKind,b2];have hep1:=hs1.1;have hep2:=hs2.1;simp at hep1;have hla':∀ k ∈ labs co,h0.ep≤k.1∧k.1 < h1.ep:=fun k hk=>by have:=hla k hk;simp at this;omega
  have hlb':∀ k ∈ labs cn,h1.ep≤k.1∧k.1 < h2.ep:=fun k hk=>hlb k hk;have hnl:∀ k ∈ labs co,k≠l:=fun k hk he=>by have:=(hla' k hk).1;rw[he] at this;omega
  have hnl2:∀ k ∈ labs cn,k≠l:=fun k hk he=>by have:=(hlb' k hk).1;rw[he] at this;omega
  refine⟨hb2,CutK.of ⟨co,cn,by simp,by simp,by simp,⟨by simp[mpC,Mp.enc,Stp.enc],ro.frame fun k hk=>?_,rn.frame fun k hk=>?_,fun k hk=>?_,?_,?_,?_⟩,?_,fun k hk=>?_⟩⟩
  ·have:=hs2.2 k (hla' k hk).2 (by simp)
   simp[hnl k hk,this]
  ·simp[hnl2 k hk]
  ·simp only[List.mem_cons,List.mem_append] at hk;simp;rcases hk with rfl | hk | hk
   ·omega
   ·have:=(hla' k hk).2;omega
   ·exact (hlb' k hk).2
  ·exact fun h9=>hnl l h9 rfl
  ·exact fun h9=>hnl2 l h9 rfl
  ·exact fun k hk h9=>by have:=(hla' k hk).2;have:=(hlb' k h9).1;omega
  ·refine Same.setBox (Same.setBox ?_ (.inl (by simp))) (.inl (by simp));refine Same.trans ?_ (hs2.mono (by simp));refine Same.trans ?_ (hs1.mono (by simp))
   repeat' first | exact Same.refl | apply Same.next | apply Same.setArr | (refine Same.setBox ?_ (.inl (by simp)))
  ·rcases List.mem_append.1 hk with h9 | h9
   ·exact (hla' k h9).1
   ·have:=(hlb' k h9).1;omega
 ·rintro E1 h1 ⟨co,cn,en,e0,e1',mA,hsA,hlA⟩;have hbA:=mA.box;simp only[mpC,Mp.enc,Stp.enc,List.map_cons,List.map_nil,List.cons_append,List.nil_append] at hbA;obtain⟨xs,mx,-,hlen,hel⟩:=mA.out.len;simp[en,e0,hbA];refine MR.lenK mx ?_;simp[en,e0,hbA];have hon:o.length≤2097152:=by have:=mx.2.1;rw[hlen] at this;simpa using this
  have hl1A:l.1 < h1.ep:=mA.lt l (by simp);refine Wait.for (xs:=o) (s0:=o) (fun i s e h'=>e.n=150∧e.get 0=.one (.ptr l 0)∧e.get 1=.one (.d (.sl (inp.map Rel.enc)))∧e.get 64=.one co∧e.get 65=.one (.d (.int .i64 (o.length:Int)))∧e.get 66=.one (.d (.int .i64 (i:Int))) ∧
   MpAt h' l co cn { M with inp:=i2,comp:=c2,out:=s,nc:=n,err:=0 }∧Same h1 h' (labs co)∧s.length=o.length∧∀ j,i≤j→s[j]?=o[j]?) hm ⟨by simp[en],by simp[e0],by simp[e1'],by simp,by simp[hlen],by simp,mA,.refl,rfl,fun _ _=>rfl⟩ ?_ ?_
  ·rintro i s e h' ⟨en,e0,e1',e64,e65,e66,m1,hs,hsl,hj⟩ hlt hm;have hw:IntKind.i64.wrap ((i:Int)+1)=(i:Int)+1:=IntWalk.i64_in _ (by omega);have hb1:=m1.box;simp only[mpC,Mp.enc,Stp.enc,List.map_cons,List.map_nil,List.cons_append,List.nil_append] at hb1;obtain⟨ys,my,he',hyl,hye⟩:=m1.out.len;have hsi:s[i]?=some o[i]:=by rw[hj i (Nat.le_refl _)];exact List.getElem?_eq_getElem hlt
   obtain⟨c',hx,hc'⟩:=hye i _ hsi;have hyi:i < ys.length:=(List.getElem?_eq_some_iff.1 hx).1;obtain⟨lo,cap,sp,rfl,hbo,hcap⟩:=my.block (by omega);have ht0:takeN 2 ((rowBox ys sp).drop (i * 2))=some [.d (.str o[i].table),c']:=by
    have h9:=Z5j (sp:=sp) (f:=0) (m:=2) my.1 hx (by simp);simpa[takeN] using h9
   have hln:=Z6o (sp:=sp) my.1 (k:=i) hyi;have hlh:l.1 < h'.ep:=m1.lt l (by simp);have hnl:=ne_new hlh;have hnl':=Z6p hlh;have hlo:lo.1 < h'.ep:=m1.lt lo (by simp[labs]);have hno:=ne_new hlo;have hno':=Z6p hlo;obtain⟨f,hf,hm⟩:=hm.bind;simp[en,e0,e1',e64,e65,e66,hlt,hb1,hyi,hbo,ht0];refine Wait.cut (Plan.then_ [0,1,2,3,4,5,6,7,8,9,10,11] .done) follows (by kernel_rfl) (fun e2 h2=>e2.n=150∧e2.get 0=.one (.ptr l 0)∧e2.get 1=.one (.d (.sl (inp.map Rel.enc)))∧e2.get 64=.one (.mrow lo 0 ys.length cap)∧e2.get 65=.one (.d (.int .i64 (o.length:Int)))∧e2.get 66=.one (.d (.int .i64 (i:Int))) ∧
    e2.get 11=.one (.d (.int .i64 (i:Int)))∧e2.get 12=.one (.ptr (h'.ep,192) 0)∧h2.box (h'.ep,192)=some [.d (.str o[i].table),c']∧e2.get 14=.one (.d (.bool f.2))∧Same h' h2 []∧h'.ep < h2.ep) ?_ ?_
   ·simp[Plan.then_,vcPlan,Z01,Z00,callKind,en,e0,e1',e64,e65,e66,hb1,hnl,hnl'];refine Z09 ((c_schema_FindTable M.src o[i].table).h f hf) (by simp) ?_;simp[Plan.then_,vcPlan,Z01,Z00,callKind,en,e0,e1',e64,e65,e66,hb1,hnl,hnl']
    try refine⟨fun _ _ x=>x,?_⟩
    refine CutK.of ⟨by simp[en],by simp[e0,en],by simp[e1',en],by simp[e64,en],by simp[e65,en],by simp[e66,en],by simp[en],by simp[en],by simp,by simp,?_,by simp⟩
    repeat' first | exact Same.refl | apply Same.next | apply Same.setArr | (refine Same.setBox ?_ (.inr (by simp)))
   ·rintro e2 h2 ⟨en,e0,e1',e64,e65,e66,e11,e12,b12,e14,hs2,hep2⟩;have m2:=m1.frame hs2;have hb2:=m2.box;simp only[mpC,Mp.enc,Stp.enc,List.map_cons,List.map_nil,List.cons_append,List.nil_append] at hb2;have hbo2:=(hs2.2 lo hlo (by simp)).trans hbo;simp[en,e0,e1',e64,e65,e66,e11,e12,e14];refine r_cond hm ?_ ?_<;>clear hm<;>intro hc hm
    ·obtain⟨q,hq,hm⟩:=hm.bind;simp[en,e0,e1',e64,e65,e66,e11,e12,e14];have hle:i * 2+1+1≤(rowBox ys sp).length:=by omega
     refine Wait.cut (Plan.then_ [0,1,2,3,4,5,6,7,8,9,10,11,12,13,14,15,16,17,18] .done) follows (by kernel_rfl) (fun e3 h3=>e3.n=150∧e3.get 0=.one (.ptr l 0)∧e3.get 1=.one (.d (.sl (inp.map Rel.enc)))∧e3.get 64=.one (.mrow lo 0 ys.length cap)∧e3.get 65=.one (.d (.int .i64 (o.length:Int)))∧e3.get 66=.one (.d (.int .i64 (i:Int))) ∧
      MpAt h3 l (.mrow lo 0 ys.length cap) cn { M with inp:=i2,comp:=c2,out:=s.set i ⟨o[i].table,q.2⟩,nc:=n,err:=0 }∧Same h' h3 [lo]) ?_ ?_
     ·simp[Plan.then_,vcPlan,Z01,Z00,callKind,en,e0,e1',e64,e65,e66,e11,e12,e14,hb2,b12];refine Z09 ((c_instance_Table M.src inp o[i].table).h q hq) (by simp) ?_;simp[Plan.then_,vcPlan,Z01,Z00,callKind,en,e0,e1',e64,e65,e66,e11,e12,e14,hb2,b12,hyi,hbo2,hle];have hne1:=m1.nl.1;simp[labs] at hne1
      try refine⟨fun _ _ x=>x,?_⟩
      refine CutK.of ⟨by simp[en],by simp[e0,en],by simp[e1',en],by simp[e64,en],by simp[e65,en],by simp[e66,en],⟨?_,?_,?_,?_,m1.nl⟩,?_⟩
      ·simp[hne1];exact m2.box
      ·exact Zhg my.1 rfl my.2.1 hcap hx rfl he' _
      ·exact m2.nc.frame fun k hkn=>by
        have:=m1.nl.2.2 lo (by simp[labs])
        have:k≠lo:=by rintro rfl;exact this hkn
        simp[this]
      ·intro k hk
       have:=m2.lt k hk
       simp;omega
      ·exact ((hs2.mono (by simp)).next).setBox (.inl (by simp))
     ·rintro e3 h3 ⟨en,e0,e1',e64,e65,e66,m3,hs3⟩;simp[en,e0,e1',e64,e65,e66,hw];exact BackF.of (s.set i ⟨o[i].table,q.2⟩) ⟨⟨by simp[en],by simp[e0],by simp[e1'],by simp[e64],by simp[e65],by simp,m3,hs.trans (hs3.mono (by simp[labs])),by simpa using hsl,fun j hij=>by rw[List.getElem?_set_ne (by omega)];exact hj j (by omega)⟩,hm⟩
    ·simp[en,e0,e1',e64,e65,e66,e11,e12,e14,hw];exact BackF.of s ⟨⟨by simp[en],by simp[e0],by simp[e1'],by simp[e64],by simp[e65],by simp,m2,hs.trans (hs2.mono (by simp)),hsl,fun j hij=>hj j (by omega)⟩,hm⟩
  ·rintro s e h' ⟨en,e0,e1',e64,e65,e66,m1,hs,hsl,hj⟩ hm;simp[en,e0,e1',e64,e65,e66];obtain⟨M2,hM2,hm⟩:=hm.bind;obtain⟨hlen2,hm⟩:=hm.chk;refine Z02 (Zdq _ l co cn _ M2 hM2 m1 _ fun h2 co2 cn2 m2 hs2=>?_);have hb2:=m2.box;simp only[mpC,Mp.enc,Stp.enc,List.map_cons,List.map_nil,List.cons_append,List.nil_append] at hb2;obtain⟨xo,mo,hxo,hol,hoe⟩:=m2.out.len;obtain⟨xn,mn,hxn,hnl,hne2⟩:=m2.nc.len;simp[en,e0,e1',e64,e65,e66];refine Wait.cut (Plan.then_ [0,1,2,3,5,6,7,8,11,4,9,10] .done) follows (by kernel_rfl) (fun e3 h3=>∃ ca,e3.n=150∧e3.get 0=.one (.ptr l 0)∧e3.get 112=.one ca∧e3.get 113=.one (.d (.int .i64 ((xo++xn).length:Int)))∧e3.get 114=.one (.d (.int .i64 0))∧MR h3 2 ca (xo++xn)∧Same h2 h3 []∧(∀ k ∈ labs ca,h2.ep≤k.1∧k.1 < h3.ep)) ?_ ?_
   ·simp[Plan.then_,vcPlan,Z01,Z00,callKind,en,e0,hb2];refine Z02 (Z8f _ co2 xo mo.rd _ fun ca h3 ma hsa hla hba=>?_);simp[Plan.then_,vcPlan,Z01,Z00,callKind,en,e0,hb2];refine⟨hba,?_⟩;refine app_mr Z85 (by kernel_rfl) (by decide) (by decide) ma (MR.rd (mn.frame fun k hk=>hsa.2 k (m2.lt k (by simp[hk])) (by simp))) (by rw[hol,hnl];exact hlen2) fun ca2 h4 ma2 hsa2 hla2=>?_;simp[Plan.then_,vcPlan,Z01,Z00,callKind,en,e0,hb2];refine MR.lenK ma2 ?_;simp[Plan.then_,vcPlan,Z01,Z00,callKind,en,e0,hb2];refine CutK.of ⟨ca2,by simp[en],by simp[e0,en],by simp[en],by simp[en],by simp[en],ma2,hsa.trans' hsa2 fun k hk=>.inr (hla k hk).1,fun k hk=>?_⟩;rcases hla2 k hk with h9 | h9
    ·exact⟨(hla k h9).1,Nat.lt_of_lt_of_le (hla k h9).2 hsa2.1⟩
    ·exact⟨Nat.le_trans hsa.1 h9.1,h9.2⟩
   ·rintro e3 h3 ⟨ca,en,e0,e112,e113,e114,ma,hs3,hla⟩;have m3:=m2.frame hs3;have hL:(xo++xn).length=(M2.out++M2.nc).length:=by simp[hol,hnl]
    have hel2:∀ (i:Nat) (rel:Rel),(M2.out++M2.nc)[i]?=some rel→∃ c',(xo++xn)[i]?=some [.d (.str rel.table),c']∧c'.toD=some (.sl (rel.rows.map (encL GV.enc))):=by
     intro i rel hi;rcases Nat.lt_or_ge i M2.out.length with h9 | h9
     ·rw[List.getElem?_append_left h9] at hi;rw[List.getElem?_append_left (by omega)];exact hoe i rel hi
     ·rw[List.getElem?_append_right h9] at hi;rw[List.getElem?_append_right (by omega),hol];exact hne2 _ rel hi
    generalize M2.out++M2.nc=L at hm hL hel2;generalize xo++xn=X at e113 ma hL hel2;refine Wait.for (xs:=L) (s0:=M2.err) (fun i s e h'=>e.n=150∧e.get 0=.one (.ptr l 0)∧e.get 112=.one ca∧e.get 113=.one (.d (.int .i64 (L.length:Int)))∧e.get 114=.one (.d (.int .i64 (i:Int))) ∧
     MpAt h' l co2 cn2 { M2 with err:=s }∧MR h' 2 ca (X)∧∀ k ∈ labs ca,k≠l∧k.1 < h'.ep) hm ⟨by simp[en],by simp[e0],by simp[e112],by simp[e113,hL],by simp[e114],m3,ma,fun k hk=>⟨fun he=>?_,(hla k hk).2⟩⟩ ?_ ?_
    ·have:=(hla k hk).1
     have:=m2.lt l (by simp)
     rw[he] at *;omega
    ·rintro i s e h' ⟨en,e0,e112,e113,e114,m4,ma4,hla4⟩ hlt hm;have hw:IntKind.i64.wrap ((i:Int)+1)=(i:Int)+1:=IntWalk.i64_in _ (by have:=ma4.2.1;rw[hL] at this;simp at this;omega);have hb4:=m4.box;simp only[mpC,Mp.enc,Stp.enc,List.map_cons,List.map_nil,List.cons_append,List.nil_append] at hb4;obtain⟨c',hx,hc'⟩:=hel2 i _ (List.getElem?_eq_getElem hlt);have hyi:i < X.length:=by omega
     obtain⟨la,cap,sp,rfl,hba,hcap⟩:=ma4.block (by omega);have ht0:takeN 2 ((rowBox X sp).drop (i * 2))=some [.d (.str L[i].table),c']:=by
      have h9:=Z5j (sp:=sp) (f:=0) (m:=2) ma4.1 hx (by simp);simpa[takeN] using h9
     have hlh:l.1 < h'.ep:=m4.lt l (by simp);have hnl4:=ne_new hlh;have hnl4':=Z6p hlh;simp[en,e0,e112,e113,e114,hlt,hyi,hba,ht0];refine Z8d (toD_rd hc').1 (fun hll=>?_);simp[en,e0,e112,e113,e114,hb4,hnl4,hnl4'];have same:∀ (h6:HS) (e6:Env),Same h' h6 []→e6.n=150→e6.get 0=.one (.ptr l 0)→e6.get 112=.one (.mrow la 0 X.length cap)→e6.get 113=.one (.d (.int .i64 (L.length:Int)))→e6.get 114=.one (.d (.int .i64 ((i:Int)+1))) →
       (bif decide (24 < L[i].rows.length) && (s == 0) then 12 else s)=s→BackF (I:=⟨fun s' e h=>(e.n=150∧e.get 0=.one (.ptr l 0)∧e.get 112=.one (.mrow la 0 X.length cap)∧e.get 113=.one (.d (.int .i64 (L.length:Int)))∧e.get 114=.one (.d (.int .i64 ((i+1:Nat):Int))) ∧
     MpAt h l co2 cn2 { M2 with err:=s' }∧MR h 2 (.mrow la 0 X.length cap) X∧∀ k ∈ labs (.mrow la 0 X.length cap),k≠l∧k.1 < h.ep)∧Is (forK (fun (_:Nat) (rel:Rel) (e:Int) next=>next (bif decide (24 < rel.rows.length) && (e == 0) then 12 else e)) (fun e=>bif e != 0 then some ([],[],e) else some (M2.out,M2.nc,0)) (L.drop (i+1)) (i+1) s') r⟩) e6 h6:=by
      intro h6 e6 hs6 en6 g0 g112 g113 g114 heq;rw[heq] at hm;exact BackF.of s ⟨⟨en6,g0,g112,g113,by simpa using g114,m4.frame hs6,ma4.frame fun k hk=>hs6.2 k (hla4 k hk).2 (by simp),fun k hk=>⟨(hla4 k hk).1,Nat.lt_of_lt_of_le (hla4 k hk).2 hs6.1⟩⟩,hm⟩
     by_cases hg:24 < L[i].rows.length
     ·have hgI:(24:Int) < (L[i].rows.length:Int):=by omega
      by_cases hz:s=0
      ·subst hz;simp[hg] at hm;simp[en,e0,e112,e113,e114,hw,hb4,hnl4,hnl4',hgI];refine BackF.of 12 ⟨⟨by simp[en],by simp[e0],by simp[e112],by simp[e113],by simp,⟨by simp[mpC,Mp.enc,Stp.enc],m4.out.frame fun k hk=>?_,m4.nc.frame fun k hk=>?_,fun k hk=>?_,m4.nl⟩,ma4.frame fun k hk=>?_,fun k hk=>⟨(hla4 k hk).1,?_⟩⟩,by simpa using hm⟩
       ·have h1:k≠l:=by rintro rfl;exact m4.nl.1 hk
        have h2:=ne_new (l:=k) (n:=h'.ep) (m4.lt k (by simp[hk]));simp[h1,h2]
       ·have h1:k≠l:=by rintro rfl;exact m4.nl.2.1 hk
        have h2:=ne_new (l:=k) (n:=h'.ep) (m4.lt k (by simp[hk]));simp[h1,h2]
       ·have:=m4.lt k hk
        simp;omega
       ·have h1:=(hla4 k hk).1;have h2:=ne_new (l:=k) (n:=h'.ep) (hla4 k hk).2;simp[h1,h2]
       ·have:=(hla4 k hk).2
        simp;omega
      ·have hzb:(s == 0)=false:=by simpa using hz
       simp[en,e0,e112,e113,e114,hw,hb4,hnl4,hnl4',hgI,hzb];refine same _ _ ?_ ?_ ?_ ?_ ?_ ?_ ?_
       ·repeat' first | exact Same.refl | apply Same.next | apply Same.setArr | (refine Same.setBox ?_ (.inr (by simp)))
       ·simp[en]
       ·simp[e0]
       ·simp[e112]
       ·simp[e113]
       ·simp
       ·rw[hzb,Bool.and_false];rfl
     ·have hgI:¬ (24:Int) < (L[i].rows.length:Int):=by omega
      simp[en,e0,e112,e113,e114,hw,hb4,hnl4,hnl4',hgI];refine same _ _ ?_ ?_ ?_ ?_ ?_ ?_ ?_
      ·repeat' first | exact Same.refl | apply Same.next | apply Same.setArr | (refine Same.setBox ?_ (.inr (by simp)))
      ·simp[en]
      ·simp[e0]
      ·simp[e112]
      ·simp[e113]
      ·simp
      ·simp[hg]
    ·rintro s e h' ⟨en,e0,e112,e113,e114,m4,ma4,hla4⟩ hm;have hb4:=m4.box;simp only[mpC,Mp.enc,Stp.enc,List.map_cons,List.map_nil,List.cons_append,List.nil_append] at hb4;simp[en,e0,e112,e113,e114,hb4];refine r_cond hm ?_ ?_<;>clear hm<;>intro hc hm
     ·obtain rfl:=r_ret hm;simp[en,e0,e112,e113,e114,hb4];refine Wait.cut (Plan.then_ [0,1,2,3,4,5,6] .done) follows (by kernel_rfl) (fun e4 h4=>e4.n=150∧e4.get 6=.one .nil∧e4.get 7=.one .nil∧e4.get 8=.one (.d (.int .i64 s))) ?_ ?_
      ·simp[Plan.then_,vcPlan,Z01,Z00,callKind,en,e0,hb4];exact CutK.of (by simp[en])
      ·rintro e4 h4 ⟨en,e6,e7,e8⟩;simp[retH,resVs,resV,notTup,en,e6,e7,e8];exact hK .nil .nil _ (.data rfl) (.data rfl)
     ·obtain rfl:=r_ret hm;simp[en,e0,e112,e113,e114,hb4];refine Wait.cut (Plan.then_ [0,1,2,3,4,5,6,7,8,9,10] .done) follows (by kernel_rfl) (fun e4 h4=>h4=h'∧e4.n=150∧e4.get 6=.one co2∧e4.get 7=.one cn2∧e4.get 8=.one (.d (.int .i64 0))) ?_ ?_
      ·simp[Plan.then_,vcPlan,Z01,Z00,callKind,en,e0,hb4];exact CutK.of ⟨rfl,by simp[en]⟩
      ·rintro e4 h4 ⟨rfl,en,e6,e7,e8⟩;simp[retH,resVs,resV,notTup,en,e6,e7,e8];exact hK co2 cn2 _ m4.out.frz m4.nc.frz
end
section
open Go.Am
def Z2p (s_:List Int) (v_:Int):Option Int:=
 (forK (fun (i2:Nat) (x2:Int) (s2:Unit) next_2=>(bif (v_ == x2) then (some (i2:Int)) else (next_2 ()))) (fun (s2:Unit)=>(some (-1))) s_ 0 ())
instance c_slices_Index_Int (s_:List Int) (v_:Int):Con (Z2p s_ v_) Tryz.prog 169 [.one (.d (.sl (s_.map encI))),.one (.d (.int .i64 v_))] (fun r=>.one (.d (.int .i64 r))):=by
 unfold Z2p;have l1:LH (σ:=Unit) 8 [0,1,7] []:=.intro;exact go 19 Tryz.func169 rfl (by kernel_rfl) rfl rfl (by simp)
def Z0v (s_:List Int) (v_:Int):Option Bool:=
 (bindK (Z2p s_ v_) fun v1=>(some (decide (0≤v1))))
instance c_slices_Contains_Int (s_:List Int) (v_:Int):Con (Z0v s_ v_) Tryz.prog 139 [.one (.d (.sl (s_.map encI))),.one (.d (.int .i64 v_))] (fun r=>.one (.d (.bool r))):=by
 unfold Z0v;exact go 9 Tryz.func139 rfl (by kernel_rfl) rfl rfl (by simp)
end
section
open Go Go.Am
open Go.RowKit (Below)
theorem PSpec.of_calls {P:Program} {f:FuncId} {av:List AV} {r:RV} {v:Value} (hok:FnOK P f) (hr:∀ m,RepRV m (fun _=>(none,0)) r v) (hf:r.fr=[])
  (h:∀ (w:World) (m t:CM) (vals:Array Value),GOK w→Zap m t av vals→Calls P f vals w fun e w'=>e=.returned v∧Below w.heap.size w w'):PSpec P f av r:=by
 refine⟨hok,fun w m t vals hg hm ht hargs=>(h w m t vals hg hargs).mono ?_⟩;rintro e w' ⟨rfl,hb⟩;refine⟨v,m,fun _=>(none,0),rfl,Sub.refl _,fun _ _ _ _ h=>h,hm.of_heap fun b o v hv=>hb.block b (hm.lt hv),hb,hr m,?_⟩;rw[hf];exact⟨fun x hx=>by simp at hx,fun x hx=>by simp at hx⟩
theorem Zoz {m t:CM} {av:List AV} {a:AV} {vals:Array Value} {u:Value} (h:Zap m t [a] vals) (hu:∀ v,RepAV m t a v→v=u):vals=#[u]:=by
 obtain⟨hs,hg⟩:=h;obtain⟨u0,h0,r0⟩:=hg 0 _ rfl
 have:=hu u0 r0
 subst this;apply Array.ext_getElem?;intro i
 match i with
 | 0=>simpa using h0
 | i+1=>rw[Array.getElem?_eq_none (by simp at hs;omega)];simp
theorem tab_of {P:Program} {w:World} {nm:String} {g:Nat} {zs:List Int} (h:∃ T l,w.heap[g]?=some (.cells (zs.map fun z=>Value.int .u64 z).toArray T l)) (hn:P.globalNamed nm=some g):Lib.TabIs P w nm .u64 zs:=by
 obtain⟨T,l,q⟩:=h;unfold Lib.TabIs World.var?;rw[hn];simp[q]
def Z68 (i:Int):Option ByteArray:=chkK (okI i) (some ⟨(Lib.itoa i).toArray⟩)
theorem Za6 (i:Int) (r:ByteArray) (hm:Is (Z68 i) r):PSpec Tryz.prog 217 [.one (.d (.int .i64 i))] (.one (.d (.str r))):=by
 obtain⟨hi,hm⟩:=hm.chk;obtain rfl:=r_ret hm;refine PSpec.of_calls ⟨_,Tryz.func217,by kernel_rfl,by kernel_rfl⟩ (fun m=>RepD.str _) rfl fun w m t vals hg hargs=>?_;obtain rfl:=Zoz (av:=[]) (u:=.int .i64 i) hargs fun v hv=>RepD.int_inv (m:=m) hv;refine (Any.strconv_Itoa Tryz.laysM171 i hi.1 hi.2 w (tab_of hg.2.1 (by kernel_rfl))).mono ?_;rintro e w' ⟨rfl,k,os,rfl⟩;exact⟨rfl,Lib.below_grow _ _ (Nat.le_refl _) _ _⟩
end
section
open Go.Am
instance i_strconv_Itoa (i:Int):Con (Z68 i) Tryz.prog 217 [.one (.d (.int .i64 i))] (fun r=>.one (.d (.str r))):=⟨fun r hm=>Za6 i r hm⟩
def Z5v (t:Tbl) (columns:List Col):Option Tbl:=
 (forK (fun (i5:Nat) (x5:Int) (s5:(List Col) × (List Int)) next_5=>(getK t.cols x5 fun x6=>(bindK (Z68 (i5:Int)) fun v8=>(chkK (({ data:=#[107] }:ByteArray).size+v8.size≤9223372036854775807) (appK2 s5.1 [(Col.mk (({ data:=#[107] }:ByteArray)++v8) x6.kind x6.nullable)] fun _=>(appK2 s5.2 [(i5:Int)] fun _=>(next_5 ((s5.1++[(Col.mk (({ data:=#[107] }:ByteArray)++v8) x6.kind x6.nullable)]),(s5.2++[(i5:Int)]))))))))) (fun (s5:(List Col) × (List Int))=>(appK2 s5.1 columns fun _=>(some (Tbl.mk t.name (s5.1++columns) s5.2)))) t.pk 0 ([],[]))
theorem Zbh (t:Tbl) (columns:List Col) (r:Tbl) (hm:Is (Z5v t columns) r):PSpec Tryz.prog 196 [.agg t.enc,.one (.d (.sl (columns.map Col.enc)))] (.agg (r.enc.map RC.d)):=by
 unfold Z5v at hm;refine PSpec.of_vc Tryz.func196 rfl (by kernel_rfl) (n:=48) rfl rfl (by simp) ?_
 try simp[*]
 intro hl4;replace hl4:t.pk.length≤2097152:=by simpa using hl4
 refine Wait.for (xs:=t.pk) (s0:=([],[])) (fun i5 s5 e5 h5=>∃ c5_0 c5_1:C,(e5.n=48∧e5.get 1=.one (.d (.sl (columns.map Col.enc)))∧e5.get 2=.one (.ptr (0,32) 0)∧e5.get 4=.one (.ptr (1,64) 0)∧e5.get 5=.one (.ptr (2,80) 0)∧e5.get 13=.one (.d (.sl (t.pk.map encI)))∧e5.get 14=.one (.d (.int .i64 (t.pk.length:Int)))∧e5.get 15=.one (.d (.int .i64 (i5:Int)))∧h5.box (0,32)=some [.d (.str t.name),.d (.sl (t.cols.map Col.enc)),.d (.sl (t.pk.map encI))]∧h5.box (1,64)=some [.d (.str ByteArray.empty),.nil,.nil]∧h5.box (2,80)=some [.d (.str t.name),c5_0,c5_1]∧Grows h5 3 c5_0 (s5.1.map Col.enc)∧Grows h5 1 c5_1 (s5.2.map encI))∧Apart c5_0 c5_1) hm ⟨.nil,.nil,by simp (maxDischargeDepth:=20) [*],(by simp)⟩ ?_ ?_
 ·rintro i5 s5 e5 h5 ⟨c5_0,c5_1,⟨hn5,h5_1,h5_2,h5_4,h5_5,h5_13,h5_14,h5_15,hb5_b1,hb5_b2,hb5_b3,gc5_0,gc5_1⟩,apc5_0_c5_1⟩ hlt5 hm;have hlc5_0:=gc5_0.list;have hdc5_0:=gc5_0.toD;have hac5_0:=gc5_0.toA;have huc5_0:=gc5_0.useUp_arr;have hlc5_1:=gc5_1.list;have hdc5_1:=gc5_1.toD;have hac5_1:=gc5_1.toA;have huc5_1:=gc5_1.useUp_arr;have hw5:IntKind.i64.wrap ((i5:Int)+1)=(i5:Int)+1:=IntWalk.i64_in _ (by omega)
  try simp[*]
  replace hm:=hm.get;obtain⟨x6,h0x6,hxx6,hm⟩:=hm
  try simp[*]
  refine r_call (av:=[.one (.d (.int .i64 (i5:Int)))]) hm (fun v hv=>Za6 _ v hv) (by simp[*]) ?_;clear hm;intro v8 hvv8 hm
  try simp[*]
  replace hm:=hm.chk;obtain⟨hw9,hm⟩:=hm;have hw92:=hw9
  try simp at hw92
  try simp[*]
  refine r_app (xs:=s5.1) (ys:=[(Col.mk (({ data:=#[107] }:ByteArray)++v8) x6.kind x6.nullable)]) (enc:=Col.enc) hm Z8x (by first | exact Grows.nil | (simp (maxDischargeDepth:=20) [*];done) | (simp (maxDischargeDepth:=20) [*];refine⟨?_,by omega⟩;intro hq;subst hq;simp at hz2<;>omega)) (by simp[*]) (by decide) (by decide) (fun _=>rfl) ?_;clear hm;intro hl11 hm g10
  try simp[*]
  refine r_app (xs:=s5.2) (ys:=[(i5:Int)]) (enc:=encI) hm Zaa (by first | exact Grows.nil | (simp (maxDischargeDepth:=20) [*];done) | (simp (maxDischargeDepth:=20) [*];refine⟨?_,by omega⟩;intro hq;subst hq;simp at hz2<;>omega)) (by simp[*]) (by decide) (by decide) (fun _=>rfl) ?_;clear hm;intro hl13 hm g12
  try simp[*]
  exact BackF.of ((s5.1++[(Col.mk (({ data:=#[107] }:ByteArray)++v8) x6.kind x6.nullable)]),(s5.2++[(i5:Int)])) ⟨⟨.own (h5.ep+3,528) ((s5.1++[(Col.mk (({ data:=#[107] }:ByteArray)++v8) x6.kind x6.nullable)]).map Col.enc),.own (h5.ep+5,624) ((s5.2++[(i5:Int)]).map encI),by simp (maxDischargeDepth:=20) [*],(by simp)⟩,hm⟩
 ·rintro s5 e5 h5 ⟨c5_0,c5_1,⟨hn5,h5_1,h5_2,h5_4,h5_5,h5_13,h5_14,h5_15,hb5_b1,hb5_b2,hb5_b3,gc5_0,gc5_1⟩,apc5_0_c5_1⟩ hm;have hlc5_0:=gc5_0.list;have hdc5_0:=gc5_0.toD;have hac5_0:=gc5_0.toA;have huc5_0:=gc5_0.useUp_arr;have hlc5_1:=gc5_1.list;have hdc5_1:=gc5_1.toD;have hac5_1:=gc5_1.toA;have huc5_1:=gc5_1.useUp_arr
  try simp[*]
  refine r_app (xs:=s5.1) (ys:=columns) (enc:=Col.enc) hm Z8x (by first | exact Grows.nil | (simp (maxDischargeDepth:=20) [*];done) | (simp (maxDischargeDepth:=20) [*];refine⟨?_,by omega⟩;intro hq;subst hq;simp at hz2<;>omega)) (by simp[*]) (by decide) (by decide) (fun _=>rfl) ?_;clear hm;intro hl15 hm g14
  try simp[*]
  obtain rfl:=r_ret hm;exact ret0 (vs:=[_]) (by simp[*];try exact rfl) (by simp[*])
def Z3x (c:Col) (name:ByteArray):Option Col:=
 (some (Col.mk name c.kind c.nullable))
instance c_complement_renamed (c:Col) (name:ByteArray):Con (Z3x c name) Tryz.prog 197 [.agg c.enc,.one (.d (.str name))] (fun r=>.agg (r.enc.map RC.d)):=by
 unfold Z3x;exact go 8 Tryz.func197 rfl (by kernel_rfl) rfl rfl (by simp)
def Z6h (columns:List Col):Option ((List Col)):=
 (forK (fun (i2:Nat) (x2:Col) (s2:(List Col)) next_2=>(bindK (Z68 (i2:Int)) fun v4=>(chkK (({ data:=#[98] }:ByteArray).size+v4.size≤9223372036854775807) (bindK (Z3x x2 (({ data:=#[98] }:ByteArray)++v4)) fun v6=>(appK2 s2 [v6] fun _=>(next_2 (s2++[v6]))))))) (fun (s2:(List Col))=>(some s2)) columns 0 [])
instance c_complement_numbered (columns:List Col):Con (Z6h columns) Tryz.prog 198 [.one (.d (.sl (columns.map Col.enc)))] (fun r=>.one (.d (.sl (r.map Col.enc)))):=by
 unfold Z6h;have l1:LH (σ:=(List Col)) 8 [6,7] [.g 3 3 (fun s=>s.map Col.enc)]:=.intro;have p1:PH [5] (Plan.then_ [0,1,2,3,4,5,6,7,8] .done):=.intro;exact go 23 Tryz.func198 rfl (by kernel_rfl) rfl rfl (by simp)
set_option maxHeartbeats 2000000
def Z4s (s_:Sch) (target:Sch) (step:Stp):Option Tbl:=
 (bif (step.kind == 10) then none else (bindK (Z05 s_ step.table) fun v7=>(getK s_.tables v7.1 fun x8=>(bif (step.kind == 11) then none else (bindK (Z05 target step.table) fun v12=>(getK target.tables v12.1 fun x13=>(chkK (okI ((x13.cols.length:Int) - 1)) (getK x13.cols ((x13.cols.length:Int) - 1) fun x16=>(bindK (Z08 x8 step.column) fun v18=>(bif (step.kind == 1) then (bindK (Z3x x16 ({ data:=#[111,108,100] })) fun v20=>(bindK (Z5v x8 [v20]) fun v21=>(some v21))) else none))))))))))
theorem Zbg (s_:Sch) (target:Sch) (step:Stp) (r:Tbl) (hm:Is (Z4s s_ target step) r):PSpec Tryz.prog 168 [.agg s_.enc,.agg target.enc,.agg step.enc] (.agg (r.enc.map RC.d)):=by
 unfold Z4s at hm;refine PSpec.of_vc Tryz.func168 rfl (by kernel_rfl) (n:=166) rfl rfl (by simp) ?_
 try simp[*]
 refine r_cond hm ?_ ?_<;>clear hm<;>intro hc5 hm
 ·cases hm
 ·try simp[*]
  refine r_call (av:=[.agg s_.enc,.one (.d (.str step.table))]) hm (fun v hv=>c_schema_FindTable _ _ v hv) (by simp[*]) ?_;clear hm;intro v7 hvv7 hm
  try simp[*]
  replace hm:=hm.get;obtain⟨x8,h0x8,hxx8,hm⟩:=hm
  try simp[*]
  refine r_cond hm ?_ ?_<;>clear hm<;>intro hc10 hm
  ·cases hm
  ·try simp[*]
   refine r_call (av:=[.agg target.enc,.one (.d (.str step.table))]) hm (fun v hv=>c_schema_FindTable _ _ v hv) (by simp[*]) ?_;clear hm;intro v12 hvv12 hm
   try simp[*]
   replace hm:=hm.get;obtain⟨x13,h0x13,hxx13,hm⟩:=hm
   try simp[*]
   intro hl14;replace hl14:x13.cols.length≤2097152:=by simpa using hl14
   replace hm:=hm.chk;obtain⟨hw15,hm⟩:=hm;replace hw15:=Zl3 hw15
   try simp[*]
   replace hm:=hm.get;obtain⟨x16,h0x16,hxx16,hm⟩:=hm
   try simp at h0x16
   try simp at hxx16
   try simp[*]
   refine r_call (av:=[.agg x8.enc,.one (.d (.str step.column))]) hm (fun v hv=>c_schema_FindColumn _ _ v hv) (by simp[*]) ?_;clear hm;intro v18 hvv18 hm
   try simp[*]
   refine r_cond hm ?_ ?_<;>clear hm<;>intro hc19 hm
   ·try simp[*]
    refine Wait.of (SWP.draw (Plan.then_ [0,1,2,3,4,5] .done) follows (by kernel_rfl) ?_)
    try simp[*,Plan.then_,vcPlan,Z01,Z00,callKind]
    refine r_call (av:=[.agg x16.enc,.one (.d (.str ({ data:=#[111,108,100] })))]) hm (fun v hv=>c_complement_renamed _ _ v hv) (by simp[*]) ?_;clear hm;intro v20 hvv20 hm
    try simp[*,Plan.then_,vcPlan,Z01,Z00,callKind]
    try refine⟨fun (_:Lab) (_:List C) hl=>hl,?_⟩
    refine r_call (av:=[.agg x8.enc,.one (.d (.sl ([v20].map Col.enc)))]) hm (fun v hv=>Zbh _ _ v hv) (by simp[*]) ?_;clear hm;intro v21 hvv21 hm
    try simp[*,Plan.then_,vcPlan,Z01,Z00,callKind]
    try refine⟨fun (_:Lab) (_:List C) hl=>hl,?_⟩
    obtain rfl:=r_ret hm;exact ret0 (vs:=[_]) (by simp[*];try exact rfl) (by simp[*])
   ·cases hm
instance i_complement_table (s_:Sch) (target:Sch) (step:Stp):Con (Z4s s_ target step) Tryz.prog 168 [.agg s_.enc,.agg target.enc,.agg step.enc] (fun r=>.agg (r.enc.map RC.d)):=⟨fun r hm=>Zbg s_ target step r hm⟩
def Z5g (s_:List Cons):Option (List Cons):=some s_
theorem Z7s (s_:List Cons) (r:List Cons) (hm:Is (Z5g s_) r):PSpec Tryz.prog 92 [.one (.d (.sl (s_.map Cons.enc)))] (.one (.fresh 0 7 (r.map Cons.enc))):=by
 obtain rfl:=r_ret hm;refine bound1 ⟨_,Tryz.func92,by kernel_rfl,by kernel_rfl⟩ (fun hl=>?_);have hxs:∀ x ∈ s_.map Cons.enc,x.length=7:=by
  intro x hx;obtain⟨y,_,rfl⟩:=List.mem_map.1 hx;rfl
 generalize s_.map Cons.enc=xs at *;refine PSpec.of_vc Tryz.func92 rfl (by kernel_rfl) (n:=8) rfl rfl (by simp) ?_;simp;refine Z7y Z6n rfl (xs:=xs) rfl (fun b hb=>?_);cases b with
 | true=>
   have:xs=[]:=Classical.byContradiction fun h=>by simpa using hb h
   subst this;simp;exact Z3g (by simpa using GrowsV.nil)
 | false=>
   simp;refine Z6z (by simp) ?_;simp;refine Zcc Z6n (Grows.own (by simp) (by simp) (by simp)) rfl (by decide) (by decide) hxs (by simpa using hl) ?_;simp;exact Z3g (by simpa using GrowsV.app (by simp) (by simp) hxs rfl)
def Z12 (s_:Sch):Option Sch:=
 (bindK (Z5g s_.cons) fun v3=>(forK (fun (i6:Nat) (x6:Tbl) (s6:(List Tbl)) next_6=>(bindK (Z3b x6) fun v8=>(appK2 s6 [v8] fun _=>(next_6 (s6++[v8]))))) (fun (s6:(List Tbl))=>(forK (fun (i12:Nat) (x12:Fk) (s12:(List Fk)) next_12=>(bindK (Z2r x12.cols) fun v14=>(appK2 s12 [(Fk.mk x12.table v14 x12.ref)] fun _=>(next_12 (s12++[(Fk.mk x12.table v14 x12.ref)]))))) (fun (s12:(List Fk))=>(some (Sch.mk s6 s12 v3))) s_.fks 0 [])) s_.tables 0 []))
theorem Z5i (s_:Sch) (r:Sch) (hm:Is (Z12 s_) r):PSpec Tryz.prog 67 [.agg s_.enc] (.agg (r.enc.map RC.d)):=by
 unfold Z12 at hm;refine PSpec.of_vc Tryz.func67 rfl (by kernel_rfl) (n:=46) rfl rfl (by simp) ?_
 try simp[*]
 refine r_call (av:=[.one (.d (.sl (s_.cons.map Cons.enc)))]) hm (fun v hv=>Z7s _ v hv) (by simp[*]) ?_;clear hm;intro v3 hvv3 hm
 try simp[*]
 intro hl5;replace hl5:s_.tables.length≤2097152:=by simpa using hl5
 refine Wait.for (xs:=s_.tables) (s0:=[]) (fun i6 s6 e6 h6=>∃ c6_0 c6_bb4_2:C,(e6.n=46∧e6.get 1=.one (.ptr (0,16) 0)∧e6.get 2=.one (.ptr (1,32) 0)∧e6.get 3=.one (.ptr (3,48) 0)∧e6.get 13=.one (.d (.sl (s_.tables.map Tbl.enc)))∧e6.get 14=.one (.d (.int .i64 (s_.tables.length:Int)))∧e6.get 15=.one (.d (.int .i64 (i6:Int)))∧h6.box (0,16)=some [.d (.sl (s_.tables.map Tbl.enc)),.d (.sl (s_.fks.map Fk.enc)),.d (.sl (s_.cons.map Cons.enc))]∧h6.box (1,32)=some [.nil,.nil,.nil]∧h6.box (3,48)=some [c6_0,.nil,c6_bb4_2]∧Grows h6 3 c6_0 (s6.map Tbl.enc)∧Grows h6 7 c6_bb4_2 (v3.map Cons.enc))∧Apart c6_0 c6_bb4_2) hm ⟨.nil,.own (2,161) (v3.map Cons.enc),by simp (maxDischargeDepth:=20) [*],(by simp)⟩ ?_ ?_
 ·rintro i6 s6 e6 h6 ⟨c6_0,c6_bb4_2,⟨hn6,h6_1,h6_2,h6_3,h6_13,h6_14,h6_15,hb6_b1,hb6_b2,hb6_b4,gc6_0,gc6_bb4_2⟩,apc6_0_c6_bb4_2⟩ hlt6 hm;have hlc6_0:=gc6_0.list;have hdc6_0:=gc6_0.toD;have hac6_0:=gc6_0.toA;have huc6_0:=gc6_0.useUp_arr;have hlc6_bb4_2:=gc6_bb4_2.list;have hdc6_bb4_2:=gc6_bb4_2.toD;have hac6_bb4_2:=gc6_bb4_2.toA;have huc6_bb4_2:=gc6_bb4_2.useUp_arr;have hw6:IntKind.i64.wrap ((i6:Int)+1)=(i6:Int)+1:=IntWalk.i64_in _ (by omega)
  try simp[*]
  refine Wait.of (SWP.draw (Plan.then_ [0,1,2,3,4,5,6,7] .done) follows (by kernel_rfl) ?_)
  try simp[*,Plan.then_,vcPlan,Z01,Z00,callKind]
  refine r_call (av:=[.agg (s_.tables[i6]).enc]) hm (fun v hv=>c_schema_CloneTable _ v hv) (by simp[*]) ?_;clear hm;intro v8 hvv8 hm
  try simp[*,Plan.then_,vcPlan,Z01,Z00,callKind]
  try refine⟨fun (_:Lab) (_:List C) hl=>hl,?_⟩
  refine r_app (xs:=s6) (ys:=[v8]) (enc:=Tbl.enc) hm Z87 (by first | exact Grows.nil | (simp (maxDischargeDepth:=20) [*];done) | (simp (maxDischargeDepth:=20) [*];refine⟨?_,by omega⟩;intro hq;subst hq;simp at hz2<;>omega)) (by simp[*]) (by decide) (by decide) (fun _=>rfl) ?_;clear hm;intro hl10 hm g9
  try simp[*,Plan.then_,vcPlan,Z01,Z00,callKind]
  exact BackF.of (s6++[v8]) ⟨⟨.own (h6.ep+3,384) ((s6++[v8]).map Tbl.enc),c6_bb4_2,by simp (maxDischargeDepth:=20) [*],(by first | (simp[*];done) | exact gc6_bb4_2.apart (by simp))⟩,hm⟩
 ·rintro s6 e6 h6 ⟨c6_0,c6_bb4_2,⟨hn6,h6_1,h6_2,h6_3,h6_13,h6_14,h6_15,hb6_b1,hb6_b2,hb6_b4,gc6_0,gc6_bb4_2⟩,apc6_0_c6_bb4_2⟩ hm;have hlc6_0:=gc6_0.list;have hdc6_0:=gc6_0.toD;have hac6_0:=gc6_0.toA;have huc6_0:=gc6_0.useUp_arr;have hlc6_bb4_2:=gc6_bb4_2.list;have hdc6_bb4_2:=gc6_bb4_2.toD;have hac6_bb4_2:=gc6_bb4_2.toA;have huc6_bb4_2:=gc6_bb4_2.useUp_arr
  try simp[*]
  intro hl11;replace hl11:s_.fks.length≤2097152:=by simpa using hl11
  refine Wait.for (xs:=s_.fks) (s0:=[]) (fun i12 s12 e12 h12=>∃ c12_bb4_0 c12_0 c12_bb4_2:C,(e12.n=46∧e12.get 2=.one (.ptr (1,32) 0)∧e12.get 3=.one (.ptr (3,48) 0)∧e12.get 28=.one (.d (.sl (s_.fks.map Fk.enc)))∧e12.get 29=.one (.d (.int .i64 (s_.fks.length:Int)))∧e12.get 30=.one (.d (.int .i64 (i12:Int)))∧h12.box (1,32)=some [.nil,.nil,.nil]∧h12.box (3,48)=some [c12_bb4_0,c12_0,c12_bb4_2]∧Grows h12 3 c12_bb4_0 (s6.map Tbl.enc)∧Grows h12 3 c12_0 (s12.map Fk.enc)∧Grows h12 7 c12_bb4_2 (v3.map Cons.enc))∧Apart c12_bb4_0 c12_0∧Apart c12_bb4_0 c12_bb4_2∧Apart c12_0 c12_bb4_2) hm ⟨c6_0,.nil,c6_bb4_2,by simp (maxDischargeDepth:=20) [*],(by simp),(by first | assumption | exact Apart.symm (by assumption)),(by simp)⟩ ?_ ?_
  ·rintro i12 s12 e12 h12 ⟨c12_bb4_0,c12_0,c12_bb4_2,⟨hn12,h12_2,h12_3,h12_28,h12_29,h12_30,hb12_b2,hb12_b4,gc12_bb4_0,gc12_0,gc12_bb4_2⟩,apc12_bb4_0_c12_0,apc12_bb4_0_c12_bb4_2,apc12_0_c12_bb4_2⟩ hlt12 hm;have hlc12_bb4_0:=gc12_bb4_0.list;have hdc12_bb4_0:=gc12_bb4_0.toD;have hac12_bb4_0:=gc12_bb4_0.toA;have huc12_bb4_0:=gc12_bb4_0.useUp_arr;have hlc12_0:=gc12_0.list;have hdc12_0:=gc12_0.toD;have hac12_0:=gc12_0.toA;have huc12_0:=gc12_0.useUp_arr;have hlc12_bb4_2:=gc12_bb4_2.list;have hdc12_bb4_2:=gc12_bb4_2.toD;have hac12_bb4_2:=gc12_bb4_2.toA;have huc12_bb4_2:=gc12_bb4_2.useUp_arr;have hw12:IntKind.i64.wrap ((i12:Int)+1)=(i12:Int)+1:=IntWalk.i64_in _ (by omega)
   try simp[*]
   refine r_call (av:=[.one (.d (.sl ((s_.fks[i12].cols).map encI)))]) hm (fun v hv=>Z7l _ v hv) (by simp[*]) ?_;clear hm;intro v14 hvv14 hm
   try simp[*]
   refine r_app (xs:=s12) (ys:=[(Fk.mk s_.fks[i12].table v14 s_.fks[i12].ref)]) (enc:=Fk.enc) hm Z86 (by first | exact Grows.nil | (simp (maxDischargeDepth:=20) [*];done) | (simp (maxDischargeDepth:=20) [*];refine⟨?_,by omega⟩;intro hq;subst hq;simp at hz2<;>omega)) (by simp[*]) (by decide) (by decide) (fun _=>rfl) ?_;clear hm;intro hl16 hm g15
   try simp[*]
   exact BackF.of (s12++[(Fk.mk s_.fks[i12].table v14 s_.fks[i12].ref)]) ⟨⟨c12_bb4_0,.own (h12.ep+3,672) ((s12++[(Fk.mk s_.fks[i12].table v14 s_.fks[i12].ref)]).map Fk.enc),c12_bb4_2,by simp (maxDischargeDepth:=20) [*],(by first | (simp[*];done) | exact (gc12_bb4_0.apart (by simp)).symm),(by first | assumption | exact Apart.symm (by assumption)),(by first | (simp[*];done) | exact gc12_bb4_2.apart (by simp))⟩,hm⟩
  ·rintro s12 e12 h12 ⟨c12_bb4_0,c12_0,c12_bb4_2,⟨hn12,h12_2,h12_3,h12_28,h12_29,h12_30,hb12_b2,hb12_b4,gc12_bb4_0,gc12_0,gc12_bb4_2⟩,apc12_bb4_0_c12_0,apc12_bb4_0_c12_bb4_2,apc12_0_c12_bb4_2⟩ hm;have hlc12_bb4_0:=gc12_bb4_0.list;have hdc12_bb4_0:=gc12_bb4_0.toD;have hac12_bb4_0:=gc12_bb4_0.toA;have huc12_bb4_0:=gc12_bb4_0.useUp_arr;have hlc12_0:=gc12_0.list;have hdc12_0:=gc12_0.toD;have hac12_0:=gc12_0.toA;have huc12_0:=gc12_0.useUp_arr;have hlc12_bb4_2:=gc12_bb4_2.list;have hdc12_bb4_2:=gc12_bb4_2.toD;have hac12_bb4_2:=gc12_bb4_2.toA;have huc12_bb4_2:=gc12_bb4_2.useUp_arr
   try simp[*]
   obtain rfl:=r_ret hm;exact ret0 (vs:=[_]) (by simp[*];try exact rfl) (by simp[*])
instance i_schema_Clone (s_:Sch):Con (Z12 s_) Tryz.prog 67 [.agg s_.enc] (fun r=>.agg (r.enc.map RC.d)):=⟨fun r hm=>Z5i s_ r hm⟩
end
section
open Go Go.Am
theorem Sc.fkN {h:HS} {l:Lab} {S:Sch} {tc oc c1:C} {ta fa oa:List Lab} {lf:Lab} {n cap i k:Nat} {B:List C} {f:Fk} {v:Int} (s:Sc h l S tc (.mrow lf 0 n cap) oc ta fa oa) (hb:h.box lf=some B) (hi:S.fks[i]?=some f) (hk:f.cols[k]?=some v) (hc:takeN 1 (B.drop (i * 3+1))=some [c1]) :
  ∃ l2 cap2 B2,c1=.mrow l2 0 f.cols.length cap2∧l2 ∈ fa∧l2≠lf∧l≠l2∧h.box l2=some B2∧takeN 1 (B2.drop k)=some [.d (.int .i64 v)]∧k+1≤B2.length ∧
    ∀ v',Sc (h.setBox l2 (Z03 B2 k [.d (.int .i64 v')])) l { S with fks:=S.fks.set i ⟨f.table,f.cols.set k v',f.ref⟩ } tc (.mrow lf 0 n cap) oc ta fa oa:=by
 obtain⟨lf2,cap2,B2,c2,e,h1,h2,h3,h4,h5,h6⟩:=s.fk hi;simp at e;obtain⟨rfl,-,rfl⟩:=e;have e2:=h2.box;rw[hb] at e2;cases e2;have e3:=h2.rd 1 1 (by omega);rw[hc] at e3;simp at e3;subst e3;obtain⟨l2,cap2,B2,k1,k2,k3,k4,k5⟩:=h6 k v hk;have e4:=k4.rd0 1 (by omega);have e5:=k4.le;simp at e4 e5;refine⟨l2,cap2,B2,k1,k2,k3,fun he=>s.nl.2.1 (he ▸ k2),k4.box,e4,e5,fun v'=>?_⟩;simpa using k5 v'
def Ziq (table:ByteArray) (mr:Int→Option Int) {ρ:Type} (i:Nat) (S:Sch) (next:Sch→Option ρ):Option ρ:=
 getK S.fks (i:Int) fun f=>bif strEq f.table table then
  countK (fun k (S:Sch) next=>getK S.fks (i:Int) fun f=>getK f.cols (k:Int) fun v=>bindK (mr v) fun v'=>next { S with fks:=S.fks.set i ⟨f.table,f.cols.set k v',f.ref⟩ }) next f.cols.length 0 S
 else next S
def Zip (table:ByteArray) (mr:Int→Option Int) {ρ:Type} (i:Nat) (S:Sch) (next:Sch→Option ρ):Option ρ:=
 getK S.cons (i:Int) fun c=>bif !(strEq c.table table) then next S else
  bindK (mr c.left) fun v=>bif decide (0≤c.right) then bindK (mr c.right) fun w=>next { S with cons:=S.cons.set i { c with left:=v,right:=w } } else next { S with cons:=S.cons.set i { c with left:=v } }
def Z0u (S:Sch) (table:ByteArray) (mr:Int→Option Int):Option Sch:=
 countK (Ziq table mr) (fun S=>countK (Zip table mr) (fun S=>some S) S.cons.length 0 S) S.fks.length 0 S
theorem Z5r (h:HS) (l:Lab) (tc fc oc:C) (ta fa oa:List Lab) (S S':Sch) (table:ByteArray) (g:FuncId) (caps:List Cap) (dss:List (List D)) (mr:Int→Option Int) (hm:Is (Z0u S table mr) S') (s:Sc h l S tc fc oc ta fa oa)
  (hcv:∀ h',Same h h' (fa++oa)→LendVs h' (caps.map capV) (capsOf dss)) (hp:∀ x v,Is (mr x) v→PSpec Tryz.prog g (.one (.d (.int .i64 x))::capsOf dss) (.one (.d (.int .i64 v)))) (K:V→HS→Prop)
  (hk:∀ h',Sc h' l S' tc fc oc ta fa oa→Same h h' (fa++oa)→K (.tup []) h') :
  HSpec Tryz.prog 187 [.one (.ptr l 0),.one (.d (.str table)),.one (.fn g caps)] h K:=by
 have hb:=s.box;refine HSpec.of_vc Tryz.func187 rfl (by kernel_rfl) (n:=89) rfl rfl (by simp) ?_;simp[hb];refine Z1a s.len.2.1.1 ?_;simp;refine Wait.count (N:=(S.fks.length:Int)) (s0:=S) (fun i S1 e h1=>e.n=89∧e.get 0=.one (.ptr l 0)∧e.get 1=.one (.d (.str table))∧e.get 2=.one (.fn g caps)∧e.get 15=.one fc∧e.get 16=.one (.d (.int .i64 (S.fks.length:Int)))∧e.get 17=.one (.d (.int .i64 (i:Int)))∧S1.fks.length=S.fks.length∧Sc h1 l S1 tc fc oc ta fa oa∧Same h h1 (fa++oa)) (by simpa[Z0u] using hm) ⟨by simp,by simp,by simp,by simp,by simp,by simp,by simp,rfl,s,.refl⟩ ?_ ?_
 ·rintro i S1 e h1 ⟨hn,h0,h1',h2,h15,h16,h17,hl1,s1,hs1⟩ hlt hm;replace hm:=Is.getN hm;obtain⟨f,hf,hm⟩:=hm;have hlt1:i < S.fks.length:=by omega
  have hlt2:i < S1.fks.length:=by omega
  have hfl:=s1.len.2.1.2;simp only[lim_eq] at hfl;have hw:IntKind.i64.wrap ((i:Int)+1)=(i:Int)+1:=IntWalk.i64_in _ (by omega);obtain⟨lf,cf,Bf,rfl,bx,hle⟩:=s1.fkH hf;obtain⟨hlf,hllf,c1,el,-,hcl,-,-⟩:=s1.fkK bx hf;have r0:=el.rd0 3 (by omega);have r1:=el.rd 1 1 (by omega);simp at r0 r1;have hs2:Same h1 ((h1.setBox (h1.ep,112) [C.d (D.str ByteArray.empty),C.nil,C.d (D.str ByteArray.empty)]).next.setBox (h1.ep,112) [.d (.str f.table),c1,.d (.str f.ref)]) []:=((Same.refl.setBox (.inr (Nat.le_refl _))).next).setBox (.inr (Nat.le_refl _));have s2:=s1.frame hs2;have hne:=ne_new (s1.lt lf (by simp[hlf]));cases hb1:strEq f.table table with
  | false=>
    simp only[hb1,cond_false] at hm;simp[hn,h0,h1',h2,h15,h16,h17,hlt1,hlt2,bx,r0,hb1,hw];exact BackF.of S1 ⟨⟨by simp[hn],by simp[h0],by simp[h1'],by simp[h2],by simp[h15],by simp[h16],by simp,hl1,s2,hs1.trans (hs2.mono (by simp))⟩,hm⟩
  | true=>
    simp only[hb1,cond_true] at hm;simp[hn,h0,h1',h2,h15,h16,h17,hlt1,hlt2,bx,r0,hb1,hw];refine Z1a hcl.1 ?_;simp[hn];have bx2:((h1.setBox (h1.ep,112) [C.d (D.str ByteArray.empty),C.nil,C.d (D.str ByteArray.empty)]).next.setBox (h1.ep,112) [.d (.str f.table),c1,.d (.str f.ref)]).box lf=some Bf:=by
     simp[hne,bx]
    refine Wait.count (N:=(f.cols.length:Int)) (s0:=S1) (fun k S2 e h2=>e.n=89∧e.get 0=.one (.ptr l 0)∧e.get 1=.one (.d (.str table))∧e.get 2=.one (.fn g caps)∧e.get 15=.one (.mrow lf 0 S1.fks.length cf)∧e.get 16=.one (.d (.int .i64 (S.fks.length:Int)))∧e.get 17=.one (.d (.int .i64 (i:Int)))∧e.get 6=.one (.d (.int .i64 (i:Int)))∧e.get 27=.one c1∧e.get 28=.one (.d (.int .i64 (f.cols.length:Int)))∧e.get 29=.one (.d (.int .i64 (k:Int))) ∧
      S2.fks.length=S.fks.length∧(∃ f2,S2.fks[i]?=some f2∧f2.cols.length=f.cols.length)∧h2.box lf=some Bf∧Sc h2 l S2 tc (.mrow lf 0 S1.fks.length cf) oc ta fa oa∧Same h h2 (fa++oa)) (by simpa using hm) ⟨by simp[hn],by simp[h0],by simp[h1'],by simp[h2],by simp[h15],by simp[h16],by simp[h17],by simp[h17],by simp,by simp,by simp,hl1,⟨f,hf,rfl⟩,bx2,s2,hs1.trans (hs2.mono (by simp))⟩ ?_ ?_
    ·rintro k S2 e h3 ⟨hn,h0,h1',h2,h15,h16,h17,h6,h27,h28,h29,hl2,⟨f2,hf2,hfl2⟩,bx3,s3,hs3⟩ hltk hm;replace hm:=hm.getN;obtain⟨f3,hf3,hm⟩:=hm;rw[hf2] at hf3;cases hf3;replace hm:=hm.getN;obtain⟨v,hv,hm⟩:=hm;replace hm:=hm.bind;obtain⟨v',hv',hm⟩:=hm;have hltk1:k < f.cols.length:=by omega
     have hltk2:k < f2.cols.length:=by omega
     have hcl1:=hcl.2;simp only[lim_eq] at hcl1;have hwk:IntKind.i64.wrap ((k:Int)+1)=(k:Int)+1:=IntWalk.i64_in _ (by omega);obtain⟨l2,cap2,B2,rfl,hl2m,hl2f,hll2,bx4,r4,hle4,w4⟩:=s3.fkN bx3 hf2 hv r1;have hb3:=s3.box;simp[hn,h0,h1',h2,h15,h16,h17,h6,h27,h28,h29,hltk1,hltk2,bx4,r4];refine Wait.cut (Plan.then_ [0,4,8,9,10,1,2,3,5,6,7,11,12,13] .done) follows (by kernel_rfl) (fun e h2=>e.n=89∧e.get 0=.one (.ptr l 0)∧e.get 1=.one (.d (.str table))∧e.get 2=.one (.fn g caps)∧e.get 15=.one (.mrow lf 0 S1.fks.length cf)∧e.get 16=.one (.d (.int .i64 (S.fks.length:Int)))∧e.get 17=.one (.d (.int .i64 (i:Int)))∧e.get 6=.one (.d (.int .i64 (i:Int)))∧e.get 27=.one (.mrow l2 0 f2.cols.length cap2)∧e.get 28=.one (.d (.int .i64 (f.cols.length:Int)))∧e.get 29=.one (.d (.int .i64 (k:Int))) ∧
      h2.box lf=some Bf∧Sc h2 l { S2 with fks:=S2.fks.set i ⟨f2.table,f2.cols.set k v',f2.ref⟩ } tc (.mrow lf 0 S1.fks.length cf) oc ta fa oa∧Same h h2 (fa++oa)) ?_ ?_
     ·simp[hb3,hn,h0,h1',h2,h15,h16,h17,h6,h27,h28,h29,hltk1,hltk2,hlt2,bx3,bx4,r1,r4,Plan.then_,vcPlan,Z01,Z00,callKind];refine Z02 (HSpec.of_lend (hp v v' hv') ⟨.one (.frz (.data rfl)),hcv h3 hs3⟩ rfl ?_);simp[hn,hltk2,bx4];refine⟨fun _ _ x=>x,by omega,CutK.of ⟨by simp[hn],by simp[h0],by simp[h1'],by simp[h2],by simp[h15],by simp[h16],by simp[h17],by simp[h6],by simp[h27],by simp[h28],by simp[h29],?_,?_,?_⟩⟩
      ·simp[hl2f.symm,bx3]
      ·have:=(s3.frame (Same.refl.next:Same h3 h3.next [])).fkN (by simpa using bx3) hf2 hv r1
       obtain⟨l2',cap2',B2',e1,k2,k3,k4,k5,k6,k7,k8⟩:=this;simp at e1;obtain⟨rfl,rfl⟩:=e1;simp only[Zff,bx4] at k5;cases k5;exact k8 v'
      ·exact (hs3.next).setBox (.inl (by simp[hl2m]))
     ·rintro e h4 ⟨hn,h0,h1',h2,h15,h16,h17,h6,h27,h28,h29,bx5,s5,hs5⟩;simp[hn,h29,hwk];have hi2:i < S2.fks.length:=by omega
      exact BackF.of _ ⟨⟨by simp[hn],by simp[h0],by simp[h1'],by simp[h2],by simp[h15],by simp[h16],by simp[h17],by simp[h6],by simp[h27],by simp[h28],by simp,by simpa using hl2,⟨⟨f2.table,f2.cols.set k v',f2.ref⟩,by simp[hi2],by simpa using hfl2⟩,bx5,s5,hs5⟩,hm⟩
    ·rintro k S2 e h3 ⟨hn,h0,h1',h2,h15,h16,h17,h6,h27,h28,h29,hl2,⟨f2,hf2,hfl2⟩,bx3,s3,hs3⟩ hge hm;have hge1:¬ k < f.cols.length:=by omega
     simp[hn,h17,h28,h29,hge1,hw];exact BackF.of S2 ⟨⟨by simp[hn],by simp[h0],by simp[h1'],by simp[h2],by simp[h15],by simp[h16],by simp,hl2,s3,hs3⟩,hm⟩
 ·rintro i S1 e h1 ⟨hn,h0,h1',h2,h15,h16,h17,hl1,s1,hs1⟩ hge hm;have hge1:¬ i < S.fks.length:=by omega
  have hb1:=s1.box;simp[hn,h0,h16,h17,hge1,hb1];refine Z1a s1.len.2.2.1 ?_;simp[hn];refine Wait.count (N:=(S1.cons.length:Int)) (s0:=S1) (fun i S2 e h2=>e.n=89∧e.get 0=.one (.ptr l 0)∧e.get 1=.one (.d (.str table))∧e.get 2=.one (.fn g caps)∧e.get 52=.one oc∧e.get 53=.one (.d (.int .i64 (S1.cons.length:Int)))∧e.get 54=.one (.d (.int .i64 (i:Int)))∧S2.cons.length=S1.cons.length∧Sc h2 l S2 tc fc oc ta fa oa∧Same h h2 (fa++oa)) (by simpa using hm) ⟨by simp[hn],by simp[h0],by simp[h1'],by simp[h2],by simp,by simp,by simp,rfl,s1,hs1⟩ ?_ ?_
  ·rintro i S2 e h3 ⟨hn,h0,h1',h2,h52,h53,h54,hl2,s2,hs2⟩ hlt hm;replace hm:=Is.getN hm;obtain⟨c,hc,hm⟩:=hm;have hlt1:i < S1.cons.length:=by omega
   have hlt2:i < S2.cons.length:=by omega
   have hfl:=s2.len.2.2.2;simp only[lim_eq] at hfl;have hw:IntKind.i64.wrap ((i:Int)+1)=(i:Int)+1:=IntWalk.i64_in _ (by omega);obtain⟨lo,co,Bo,rfl,bx,hle⟩:=s2.conH hc;obtain⟨hlo,hllo,el,-,w1,w3⟩:=s2.conK bx hc;have r0:=el.rd0 7 (by omega);simp at r0;have hz:Same h3 ((h3.setBox (h3.ep,176) [C.d (D.str ByteArray.empty),C.d (D.int IntKind.i64 0),C.d (D.str ByteArray.empty),C.d (D.int IntKind.i64 0),C.d (D.int IntKind.i64 0),C.d (D.int IntKind.i64 0),C.d (D.str ByteArray.empty)]).next.setBox (h3.ep,176) (c.enc.map C.d)) []:=((Same.refl.setBox (.inr (Nat.le_refl _))).next).setBox (.inr (Nat.le_refl _));have s4:=s2.frame hz;simp only[Cons.enc,List.map_cons,List.map_nil] at hz s4;have hne:=ne_new (s2.lt lo (by simp[hlo]));cases hb1:strEq c.table table with
   | false=>
     simp only[hb1,Bool.not_false,cond_true] at hm;simp[hn,h0,h1',h2,h52,h53,h54,hlt1,hlt2,bx,r0,hb1,hw];exact BackF.of S2 ⟨⟨by simp[hn],by simp[h0],by simp[h1'],by simp[h2],by simp[h52],by simp[h53],by simp,hl2,s4,hs2.trans (hz.mono (by simp))⟩,hm⟩
   | true=>
     simp only[hb1,Bool.not_true,cond_false] at hm;replace hm:=hm.bind;obtain⟨v,hv,hm⟩:=hm;simp[hn,h0,h1',h2,h52,h53,h54,hlt1,hlt2,bx,r0,hb1,hw];have hb4:=s4.box;have hy:Same h ((h3.setBox (h3.ep,176) [C.d (D.str ByteArray.empty),C.d (D.int IntKind.i64 0),C.d (D.str ByteArray.empty),C.d (D.int IntKind.i64 0),C.d (D.int IntKind.i64 0),C.d (D.int IntKind.i64 0),C.d (D.str ByteArray.empty)]).next.setBox (h3.ep,176) [C.d (D.str c.table),C.d (D.int IntKind.i64 c.left),C.d (D.str c.op),C.d (D.int IntKind.i64 c.right),C.d (D.int IntKind.i64 c.value.kind),C.d (D.int IntKind.i64 c.value.int),C.d (D.str c.value.text)]) (fa++oa):=hs2.trans (hz.mono (by simp));have hep0:h.ep≤h3.ep:=hs2.1;generalize hX:(h3.setBox (h3.ep,176) [C.d (D.str ByteArray.empty),C.d (D.int IntKind.i64 0),C.d (D.str ByteArray.empty),C.d (D.int IntKind.i64 0),C.d (D.int IntKind.i64 0),C.d (D.int IntKind.i64 0),C.d (D.str ByteArray.empty)]).next.setBox (h3.ep,176) [C.d (D.str c.table),C.d (D.int IntKind.i64 c.left),C.d (D.str c.op),C.d (D.int IntKind.i64 c.right),C.d (D.int IntKind.i64 c.value.kind),C.d (D.int IntKind.i64 c.value.int),C.d (D.str c.value.text)]=HX at s4 hb4 hy ⊢;have bx11:HX.box (h3.ep,176)=some [C.d (D.str c.table),C.d (D.int IntKind.i64 c.left),C.d (D.str c.op),C.d (D.int IntKind.i64 c.right),C.d (D.int IntKind.i64 c.value.kind),C.d (D.int IntKind.i64 c.value.int),C.d (D.str c.value.text)]:=by rw[← hX];simp
     have bx4:HX.box lo=some Bo:=by rw[← hX];simp[hne,bx]
     refine Wait.cut (Plan.then_ [0,4,5,6,7,1,2,3,8,9,10,11] .done) follows (by kernel_rfl) (fun e h2=>e.n=89∧e.get 0=.one (.ptr l 0)∧e.get 1=.one (.d (.str table))∧e.get 2=.one (.fn g caps)∧e.get 52=.one (.mrow lo 0 S2.cons.length co)∧e.get 53=.one (.d (.int .i64 (S1.cons.length:Int)))∧e.get 54=.one (.d (.int .i64 (i:Int)))∧e.get 10=.one (.d (.int .i64 (i:Int)))∧e.get 11=.one (.ptr (h3.ep,176) 0) ∧
      h2.box (h3.ep,176)=some [C.d (D.str c.table),C.d (D.int IntKind.i64 c.left),C.d (D.str c.op),C.d (D.int IntKind.i64 c.right),C.d (D.int IntKind.i64 c.value.kind),C.d (D.int IntKind.i64 c.value.int),C.d (D.str c.value.text)]∧h2.box lo=some (Z03 Bo (i * 7+1) [.d (.int .i64 v)]) ∧
      Sc h2 l { S2 with cons:=S2.cons.set i { c with left:=v } } tc fc (.mrow lo 0 S2.cons.length co) ta fa oa∧Same h h2 (fa++oa)) ?_ ?_
     ·simp[hn,h0,h1',h2,h52,h53,h54,hlt1,hlt2,hb4,bx11,Plan.then_,vcPlan,Z01,Z00,callKind];refine Z02 (HSpec.of_lend (hp _ v hv) ⟨.one (.frz (.data rfl)),hcv _ hy⟩ rfl ?_);simp[hn,hlt2,bx4];refine⟨fun _ _ x=>x,by omega,CutK.of ⟨by simp[hn],by simp[h0],by simp[h1'],by simp[h2],by simp[h52],by simp[h53],by simp[h54],by simp,by simp,?_,by simp,?_,hy.next.setBox (.inl (by simp[hlo]))⟩⟩
      ·have:=hne h3.ep 176 (Nat.le_refl _)
       have h9:¬ (h3.ep,176)=lo:=fun he=>by rw[he] at this;simp at this
       simp[h9,bx11]
      ·exact ((s4.frame (Same.refl.next:Same HX HX.next [])).conK (by simpa using bx4) hc).2.2.2.2.1 v
     ·rintro e h4 ⟨hn,h0,h1',h2,h52,h53,h54,h10,h11,bx12,bx13,s5,hs5⟩;have hci:({ S2 with cons:=S2.cons.set i { c with left:=v } }:Sch).cons[i]?=some { c with left:=v }:=by simp[hlt2]
      cases hr:decide (0≤c.right) with
      | false=>
        simp only[hr,cond_false] at hm;simp at hr;have hr2:¬ 0≤c.right:=by omega
        simp[hn,h0,h1',h2,h52,h53,h54,h10,h11,bx12,hr2,hw];exact BackF.of _ ⟨⟨by simp[hn],by simp[h0],by simp[h1'],by simp[h2],by simp[h52],by simp[h53],by simp,by simpa using hl2,s5,hs5⟩,hm⟩
      | true=>
        simp only[hr,cond_true] at hm;simp at hr;replace hm:=hm.bind;obtain⟨w,hwv,hm⟩:=hm;have hb5:=s5.box;simp[hn,h0,h1',h2,h52,h53,h54,h10,h11,bx12,hr];refine Wait.cut (Plan.then_ [0,4,5,6,7,1,2,3,8,9,10,11] .done) follows (by kernel_rfl) (fun e h2=>e.n=89∧e.get 0=.one (.ptr l 0)∧e.get 1=.one (.d (.str table))∧e.get 2=.one (.fn g caps)∧e.get 52=.one (.mrow lo 0 S2.cons.length co)∧e.get 53=.one (.d (.int .i64 (S1.cons.length:Int)))∧e.get 54=.one (.d (.int .i64 (i:Int))) ∧
         Sc h2 l { S2 with cons:=S2.cons.set i { c with left:=v,right:=w } } tc fc (.mrow lo 0 S2.cons.length co) ta fa oa∧Same h h2 (fa++oa)) ?_ ?_
        ·simp[hn,h0,h1',h2,h52,h53,h54,h10,h11,hlt1,hlt2,hb5,bx12,Plan.then_,vcPlan,Z01,Z00,callKind];refine Z02 (HSpec.of_lend (hp _ w hwv) ⟨.one (.frz (.data rfl)),hcv _ hs5⟩ rfl ?_);have hle5:(Z03 Bo (i * 7+1) [C.d (D.int IntKind.i64 v)]).length=Bo.length:=Z06 (by simp<;>omega);simp[hn,hlt2,bx13,hle5];refine⟨fun _ _ x=>x,by omega,CutK.of ⟨by simp[hn],by simp[h0],by simp[h1'],by simp[h2],by simp[h52],by simp[h53],by simp[h54],?_,hs5.next.setBox (.inl (by simp[hlo]))⟩⟩
         have:=((s5.frame (Same.refl.next:Same h4 h4.next [])).conK (by simpa using bx13) hci).2.2.2.2.2 w
         simpa using this
        ·rintro e h4 ⟨hn,h0,h1',h2,h52,h53,h54,s5,hs5⟩;simp[hn,h54,hw];exact BackF.of _ ⟨⟨by simp[hn],by simp[h0],by simp[h1'],by simp[h2],by simp[h52],by simp[h53],by simp,by simpa using hl2,s5,hs5⟩,hm⟩
  ·rintro i S2 e h3 ⟨hn,h0,h1',h2,h52,h53,h54,hl2,s2,hs2⟩ hge hm;have hge1:¬ i < S1.cons.length:=by omega
   obtain rfl:=r_ret hm;simp[hn,h53,h54,hge1];exact hk _ s2 hs2
end
section
open Go.Am
def Z0t (column:Int) (k0:List Int):Option Int:=
 (forK (fun (i2:Nat) (x2:Int) (s2:Int) next_2=>(bif decide (x2 < column) then (chkK (okI (s2+1)) (next_2 (s2+1))) else (next_2 s2))) (fun (s2:Int)=>(chkK (okI (column - s2)) (some (column - s2)))) k0 0 0)
instance c_evolution_removeColumns_1 (column:Int) (k0:List Int):Con (Z0t column k0) Tryz.prog 205 [.one (.d (.int .i64 column)),.one (.rp [.sl (k0.map encI)])] (fun r=>.one (.d (.int .i64 r))):=by
 unfold Z0t;have l1:LH (σ:=Int) 9 [0,7,8] [.d 4 (fun s=>.int .i64 s)]:=.intro;exact go 22 Tryz.func205 rfl (by kernel_rfl) rfl rfl (by simp)
end
section
open Go Go.Am
def Zgj (removed:List Int) {ρ:Type} (k:Nat) (c:Col) (acc:List Col) (next:List Col→Option ρ):Option ρ:=
 bindK (Z0v removed (k:Int)) fun b=>bif !b then next (acc++[c]) else next acc
def Zgi (i:Nat) (removed:List Int) {ρ:Type} (k:Nat) (S:Sch) (next:Sch→Option ρ):Option ρ:=
 getK S.tables (i:Int) fun T=>getK T.pk (k:Int) fun v=>bindK (Z0t v removed) fun v'=>next { S with tables:=S.tables.set i { T with pk:=T.pk.set k v' } }
def Z13 (S:Sch) (i:Nat) (removed:List Int):Option Sch:=
 getK S.tables (i:Int) fun T=>forK (Zgj removed) (fun cols=>countK (Zgi i removed) (fun S=>getK S.tables (i:Int) fun T=>bindK (Z0u { S with tables:=S.tables.set i { T with cols:=cols } } T.name fun c=>Z0t c removed) some) T.pk.length 0 S) T.cols 0 []
theorem Z3v (h:HS) (l:Lab) (tc fc oc rc:C) (ta fa oa:List Lab) (S S':Sch) (i:Nat) (removed:List Int) (hm:Is (Z13 S i removed) S') (s:Sc h l S tc fc oc ta fa oa) (hf:∀ h',Same h h' (ta++(fa++oa))→Frz h' rc (.sl (removed.map encI))) (K:V→HS→Prop)
  (hk:∀ h' ta',Sc h' l S' tc fc oc ta' fa oa→Same h h' (ta++(fa++oa))→(∀ k ∈ ta',k ∈ ta∨h.ep≤k.1)→K (.tup []) h') :
  HSpec Tryz.prog 185 [.one (.ptr l 0),.one (.d (.int .i64 (i:Int))),.one rc] h K:=by
 have hb:=s.box;replace hm:=Is.getN hm;obtain⟨T,hi,hm⟩:=hm;obtain⟨lt,c1,c2,B,tv⟩:=s.tbl hi;obtain⟨cap,rfl⟩:=tv.hd;have hlt:i < S.tables.length:=(List.getElem?_eq_some_iff.1 hi).1;have bx:=tv.el.box;have r0:=tv.el.rd0 1 (by omega);have r1:=tv.el.rd 1 1 (by omega);have r2:=tv.el.rd 2 1 (by omega);simp at r0 r1 r2;have hne:=ne_new (s.lt l (by simp));have hnt:=ne_new (s.lt lt (by simp[tv.tm]));refine HSpec.of_vc Tryz.func185 rfl (by kernel_rfl) (n:=70) rfl rfl (by simp) ?_;simp[hb,hlt,bx,r1,hne,hnt];refine Z1a tv.n1.1 ?_;simp;have hs0:Same h ((h.setBox (h.ep,80) [rc]).next) []:=(Same.refl.setBox (.inr (Nat.le_refl _))).next;refine Wait.for (xs:=T.cols) (s0:=[]) (fun k acc e h1=>∃ ch,e.n=70∧e.get 0=.one (.ptr l 0)∧e.get 5=.one (.ptr (h.ep,80) 0)∧e.get 6=.one (.ptr lt (i * 3))∧e.get 7=.one (.fn 205 [.lab (h.ep,80)])∧e.get 8=.one ch∧e.get 23=.one c1∧e.get 24=.one (.d (.int .i64 (T.cols.length:Int)))∧e.get 25=.one (.d (.int .i64 (k:Int))) ∧
  acc.length≤k∧h1.box (h.ep,80)=some [rc]∧MR h1 3 ch (acc.map fun c=>c.enc.map C.d)∧(∀ k ∈ labs ch,h.ep < k.1∧k.1 < h1.ep)∧Same h h1 []∧h.ep < h1.ep) hm ⟨.nil,by simp,by simp,by simp,by simp,by simp,by simp,by simp,by simp,by simp,by simp,by simp,MR.nil,by simp[labs],hs0,by simp⟩ ?_ ?_
 ·rintro k acc e h1 ⟨ch,hn,h0,h5,h6,h7,h8,h23,h24,h25,hal,hb5,mh,lh,hs1,hep1⟩ hltk hm;replace hm:=Is.bind hm;obtain⟨b,hb',hm⟩:=hm;have hfl:=tv.n1.2;simp only[lim_eq] at hfl;have hw:IntKind.i64.wrap ((k:Int)+1)=(k:Int)+1:=IntWalk.i64_in _ (by omega);have s1:=s.frame hs1;have bx1:h1.box lt=some B:=by rw[hs1.2 lt (s.lt lt (by simp[tv.tm])) (by simp)];exact bx
  obtain⟨c1',c2',tv1⟩:=s1.tblK bx1 hi;obtain rfl:c1'=c1:=by
   have:=tv1.el.rd 1 1 (by omega)
   simp[r1] at this;exact this.symm
  obtain⟨l2,cap2,B2,rfl,el2,-⟩:=tv1.e1 k _ (List.getElem?_eq_getElem hltk);have bx2:=el2.box;have q0:=el2.rd0 3 (by omega);simp at q0;simp[hn,h0,h5,h6,h7,h8,h23,h24,h25,hltk,bx2,q0,hb5,hw];have hz:Same h1 ((h1.setBox (h1.ep,160) [C.d (D.str ByteArray.empty),C.d (D.int IntKind.i64 0),C.d (D.bool false)]).next.setBox (h1.ep,160) [C.d (D.str T.cols[k].name),C.d (D.int IntKind.i64 T.cols[k].kind),C.d (D.bool T.cols[k].nullable)]) []:=((Same.refl.setBox (.inr (Nat.le_refl _))).next).setBox (.inr (Nat.le_refl _));have hy:=hs1.trans hz;generalize hX:(h1.setBox (h1.ep,160) [C.d (D.str ByteArray.empty),C.d (D.int IntKind.i64 0),C.d (D.bool false)]).next.setBox (h1.ep,160) [C.d (D.str T.cols[k].name),C.d (D.int IntKind.i64 T.cols[k].kind),C.d (D.bool T.cols[k].nullable)]=HX at hz hy ⊢;have bx10:HX.box (h1.ep,160)=some [C.d (D.str T.cols[k].name),C.d (D.int IntKind.i64 T.cols[k].kind),C.d (D.bool T.cols[k].nullable)]:=by rw[← hX];simp
  have hb5':HX.box (h.ep,80)=some [rc]:=by rw[hz.2 _ (by simpa using hep1) (by simp)];exact hb5
  have mh':MR HX 3 ch (acc.map fun c=>c.enc.map C.d):=mh.frame fun k hk=>hz.2 k (lh k hk).2 (by simp);have hepx:h1.ep+1=HX.ep:=by rw[← hX];simp
  refine Z02 (HSpec.of_lend (c_slices_Contains_Int removed k b hb') ⟨.one (.frz (hf _ (hy.mono (by simp)))),.one (.frz (.data rfl)),trivial⟩ rfl ?_);cases b with
  | true=>
    simp only[Bool.not_true,cond_false] at hm;simp[hn,h0,h5,h6,h7,h8,h23,h24,h25,hw];exact BackF.of acc ⟨⟨ch,by simp[hn],by simp[h0],by simp[h5],by simp[h6],by simp[h7],by simp[h8],by simp[h23],by simp[h24],by simp,by omega,by simpa using hb5',mh'.frame (by simp),fun k hk=>⟨(lh k hk).1,by have:=(lh k hk).2;simp<;>omega⟩,hy.next,by simp<;>omega⟩,hm⟩
  | false=>
    simp only[Bool.not_false,cond_true] at hm;simp[hn,h0,h5,h6,h7,h8,h23,h24,h25,hw,bx10];refine app_mr (by simp;exact⟨rfl,rfl⟩) (by simp) (by simp) (by simp) (mh'.frame (by simp)) (RowAt.own1 (by simp)) (by simp<;>omega) (fun c' h' hm' hs3 hl3=>?_);have hs4:Same h h' []:=(hy.next.setArr.next).trans' hs3 (fun k hk=>.inr (Nat.le_of_lt (lh k hk).1));have hep2:=hs3.1;simp at hep2;simp[hn,h25,hw];refine BackF.of _ ⟨⟨c',by simp[hn],by simp[h0],by simp[h5],by simp[h6],by simp[h7],by simp,by simp[h23],by simp[h24],by simp,by simp<;>omega,?_,by simpa using hm',fun k hk=>?_,hs4,by omega⟩,hm⟩
    ·rw[hs3.2 _ (by simp<;>omega) (fun h2=>by have:=(lh _ h2).1;simp at this)];simpa using hb5'
    ·rcases hl3 k hk with h2 | h2
     ·have:=lh k h2;exact⟨this.1,by omega⟩
     ·simp at h2;exact⟨by omega,h2.2⟩
 ·rintro cols e h1 ⟨ch,hn,h0,h5,h6,h7,h8,h23,h24,h25,hal,hb5,mh,lh,hs1,hep1⟩ hm;have s1:=s.frame hs1;have bx1:h1.box lt=some B:=by rw[hs1.2 lt (s.lt lt (by simp[tv.tm])) (by simp)];exact bx
  simp[hn,h6,h24,h25,bx1,r2];refine Z1a tv.n2.1 ?_;simp[hn];refine Wait.count (N:=(T.pk.length:Int)) (s0:=S) (fun k S2 e h2=>e.n=70∧e.get 0=.one (.ptr l 0)∧e.get 5=.one (.ptr (h.ep,80) 0)∧e.get 6=.one (.ptr lt (i * 3))∧e.get 7=.one (.fn 205 [.lab (h.ep,80)])∧e.get 8=.one ch∧e.get 42=.one c2∧e.get 43=.one (.d (.int .i64 (T.pk.length:Int)))∧e.get 44=.one (.d (.int .i64 (k:Int))) ∧
   h2.box (h.ep,80)=some [rc]∧MR h2 3 ch (cols.map fun c=>c.enc.map C.d)∧(∀ k ∈ labs ch,h.ep < k.1∧k.1 < h2.ep)∧h2.box lt=some B∧(∃ T2,S2.tables[i]?=some T2∧T2.pk.length=T.pk.length)∧Sc h2 l S2 (.mrow lt 0 S.tables.length cap) fc oc ta fa oa∧Same h h2 ta∧h.ep < h2.ep) (by simpa using hm) ⟨by simp[hn],by simp[h0],by simp[h5],by simp[h6],by simp[h7],by simp[h8],by simp,by simp,by simp,hb5,mh,lh,bx1,⟨T,hi,rfl⟩,s1,hs1.mono (by simp),hep1⟩ ?_ ?_
  ·rintro k S2 e h3 ⟨hn,h0,h5,h6,h7,h8,h42,h43,h44,hb5,mh,lh,bx3,⟨T2,hi2,hpl⟩,s3,hs3,hep3⟩ hltk hm;replace hm:=Is.getN hm;obtain⟨T2',hi2',hm⟩:=hm;rw[hi2] at hi2';cases hi2';replace hm:=hm.getN;obtain⟨v,hv,hm⟩:=hm;replace hm:=hm.bind;obtain⟨v',hv',hm⟩:=hm;have hltk1:k < T.pk.length:=by omega
   have hltk2:k < T2.pk.length:=by omega
   have hfl:=tv.n2.2;simp only[lim_eq] at hfl;have hw:IntKind.i64.wrap ((k:Int)+1)=(k:Int)+1:=IntWalk.i64_in _ (by omega);obtain⟨c1',c2',tv3⟩:=s3.tblK bx3 hi2;obtain rfl:c2'=c2:=by
    have:=tv3.el.rd 2 1 (by omega)
    simp[r2] at this;exact this.symm
   obtain⟨l2,cap2,B2,rfl,el2,w2⟩:=tv3.e2 k v hv;have bx4:=el2.box;have q0:=el2.rd0 1 (by omega);have q1:=el2.le;simp at q0 q1;have hl2:=tv3.l2 l2 (by simp[labs]);have hlt2:=s.lt l2 (by simp[hl2.1]);simp[hn,h0,h5,h6,h7,h8,h42,h43,h44,hltk1,hltk2,bx4,q0,hw];refine Wait.cut (Plan.then_ [0,4,5,6,1,2,3,7,8,9] .done) follows (by kernel_rfl) (fun e h2=>e.n=70∧e.get 0=.one (.ptr l 0)∧e.get 5=.one (.ptr (h.ep,80) 0)∧e.get 6=.one (.ptr lt (i * 3))∧e.get 7=.one (.fn 205 [.lab (h.ep,80)])∧e.get 8=.one ch∧e.get 42=.one (.mrow l2 0 T2.pk.length cap2)∧e.get 43=.one (.d (.int .i64 (T.pk.length:Int)))∧e.get 44=.one (.d (.int .i64 (k:Int))) ∧
    h2.box (h.ep,80)=some [rc]∧MR h2 3 ch (cols.map fun c=>c.enc.map C.d)∧(∀ k ∈ labs ch,h.ep < k.1∧k.1 < h2.ep)∧h2.box lt=some B∧Sc h2 l { S2 with tables:=S2.tables.set i { T2 with pk:=T2.pk.set k v' } } (.mrow lt 0 S.tables.length cap) fc oc ta fa oa∧Same h h2 ta∧h.ep < h2.ep) ?_ ?_
   ·simp[hn,h0,h5,h6,h7,h8,h42,h43,h44,hltk1,hltk2,bx3,bx4,r2,q0,Plan.then_,vcPlan,Z01,Z00,callKind];refine Z02 (HSpec.of_lend (c_evolution_removeColumns_1 v removed v' hv') ⟨.one (.frz (.data rfl)),.one (.ptr hb5 ⟨hf h3 (hs3.mono (fun k hk=>by simp[hk])),trivial⟩),trivial⟩ rfl ?_);simp[hn,hltk2,bx4];refine⟨fun _ _ x=>x,by omega,CutK.of ⟨by simp[hn],by simp[h0],by simp[h5],by simp[h6],by simp[h7],by simp[h8],by simp[h42],by simp[h43],by simp[h44],?_,?_,fun k hk=>⟨(lh k hk).1,by have:=(lh k hk).2;simp<;>omega⟩,?_,?_,hs3.next.setBox (.inl hl2.1),by simp<;>omega⟩⟩
    ·have:¬ (h.ep,80)=l2:=fun he=>by rw[← he] at hlt2;simp at hlt2
     simp[this,hb5]
    ·refine mh.frame fun k hk=>?_
     have:k≠l2:=fun he=>by have:=(lh k hk).1;rw[he] at this;omega
     simp[this]
    ·simp[hl2.2.symm,bx3]
    ·obtain⟨c1'',c2'',tv4⟩:=(s3.frame (Same.refl.next:Same h3 h3.next [])).tblK (by simpa using bx3) hi2;obtain rfl:c2''=.mrow l2 0 T2.pk.length cap2:=by
      have:=tv4.el.rd 2 1 (by omega)
      simp[r2] at this;exact this.symm
     obtain⟨l2',cap2',B2',e1,el4,w4⟩:=tv4.e2 k v hv;simp at e1;obtain⟨rfl,rfl⟩:=e1
     have:=el4.box
     simp only[Zff,bx4] at this;cases this;simpa using w4 v'
   ·rintro e h4 ⟨hn,h0,h5,h6,h7,h8,h42,h43,h44,hb5,mh,lh,bx4,s4,hs4,hep4⟩;have hi3:i < S2.tables.length:=(List.getElem?_eq_some_iff.1 hi2).1;simp[hn,h44,hw];exact BackF.of _ ⟨⟨by simp[hn],by simp[h0],by simp[h5],by simp[h6],by simp[h7],by simp[h8],by simp[h42],by simp[h43],by simp,hb5,mh,lh,bx4,⟨{ T2 with pk:=T2.pk.set k v' },by simp[hi3],by simpa using hpl⟩,s4,hs4,hep4⟩,hm⟩
  ·rintro k S2 e h3 ⟨hn,h0,h5,h6,h7,h8,h42,h43,h44,hb5,mh,lh,bx3,⟨T2,hi2,hpl⟩,s3,hs3,hep3⟩ hge hm;have hge1:¬ k < T.pk.length:=by omega
   replace hm:=Is.getN hm;obtain⟨T2',hi2',hm⟩:=hm;rw[hi2] at hi2';cases hi2';replace hm:=hm.bind;obtain⟨S4,hm4,hm⟩:=hm;obtain rfl:=r_ret hm;obtain⟨c1',c2',tv3⟩:=s3.tblK bx3 hi2;obtain⟨ta',s4,hta⟩:=tv3.s1 h3 ch cols mh .refl fun k hk=>.inr ⟨fun h2=>by have:=s.lt k h2;have:=(lh k hk).1;omega,(lh k hk).2⟩;have hle:=tv3.el.le;have el5:=tv3.el.set (g:=1) (vs:=[ch]) (by simp) (by simp);have q0:=el5.rd0 1 (by omega);simp at q0;simp[hn,h0,h6,h7,h8,h43,h44,hge1,bx3];refine⟨by omega,?_⟩;simp[hn,h0,h7,h8,q0];have hs5:Same h (h3.setBox lt (Z03 B (i * 3+1) [ch])) ta:=hs3.setBox (.inl tv.tm);have hlt80:∀ k ∈ ta++(fa++oa),k≠(h.ep,80):=fun k hk he=>by have:=s.lt k (by simp at hk ⊢;exact .inr hk);rw[he] at this;simp at this
   refine Z02 (Z5r _ l (.mrow lt 0 S.tables.length cap) fc oc ta' fa oa _ S4 T2.name 205 [.lab (h.ep,80)] [[.sl (removed.map encI)]] _ hm4 s4 (fun h' hs'=>?_) (fun x v hv=>c_evolution_removeColumns_1 x removed v hv) _ (fun h' s5 hs'=>?_))
   ·have hs6:Same h h' (ta++(fa++oa)):=(hs5.mono fun k hk=>by simp[hk]).trans (hs'.mono fun k hk=>List.mem_append_right _ hk);refine⟨.one (.ptr (cs:=[rc]) ?_ ⟨hf h' hs6,trivial⟩),trivial⟩;rw[hs'.2 _ (by simpa using hep3) fun h2=>hlt80 _ (List.mem_append_right _ h2) rfl]
    have:¬ (h.ep,80)=lt:=fun he=>hlt80 lt (by simp[tv.tm]) he.symm
    simp[this,hb5]
   ·simp[hn];refine hk h' ta' s5 ((hs5.mono fun k hk=>by simp[hk]).trans (hs'.mono fun k hk=>List.mem_append_right _ hk)) fun k hk=>?_;rcases hta k hk with h2 | h2
    ·exact .inl h2
    ·exact .inr (Nat.le_of_lt (lh k h2).1)
end
section
open Go.Am
def Z16 (v_:GV) (c:Col):Option Int:=
 (bindK (Z0g v_) fun v3=>(bif (v3 != 0) then (some v3) else (bif (v_.kind == 0) then (bif !c.nullable then (some 8) else (bif (v_.kind != 0) then (bif (v_.kind != c.kind) then (some 7) else (some 0)) else (some 0))) else (bif (v_.kind != 0) then (bif (v_.kind != c.kind) then (some 7) else (some 0)) else (some 0)))))
instance c_evolution_checkDefault (v_:GV) (c:Col):Con (Z16 v_ c) Tryz.prog 195 [.agg v_.enc,.agg c.enc] (fun r=>.one (.d (.int .i64 r))):=by
 unfold Z16;exact go 29 Tryz.func195 rfl (by kernel_rfl) rfl rfl (by simp)
end
end Go.Proofs.YthiojhcimecdgaaGreatDoor
section
namespace Go.Proofs.YthiojhcimecdgaaGreatDoor
open Go Go.Am
def StpSh:List Sh:=[.d,.d,.d,.d,.d,.d,.r [.d],.d,.d,.d,.d,.d,.r [.d,.d,.d],.r [.d],.d,.d,.d,.d,.d,.d,.d,.d,.r [.d],.d]
def stpC (x:Stp) (x6 x12 x13 x22:C):List C:=[.d (.int .i64 x.kind),.d (.str x.table),.d (.str x.other),.d (.str x.column),.d (.str x.newName),.d (.int .i64 x.type),x6,.d (.str x.op),
 .d (.int .i64 x.value.kind),.d (.int .i64 x.value.int),.d (.str x.value.text),.d (.str x.newTable.name),x12,x13,
 .d (.str x.cons.table),.d (.int .i64 x.cons.left),.d (.str x.cons.op),.d (.int .i64 x.cons.right),.d (.int .i64 x.cons.value.kind),.d (.int .i64 x.cons.value.int),.d (.str x.cons.value.text),
 .d (.str x.fk.table),x22,.d (.str x.fk.ref)]
end Go.Proofs.YthiojhcimecdgaaGreatDoor
namespace Go.Am
open Go Go.Proofs.YthiojhcimecdgaaGreatDoor
theorem Ow.dcons {h:HS} {ss:List Sh} {c:C} {cs:List C} {x:D} {ds:List D} {ls:List Lab} (o:Ow h (.d::ss) cs (x::ds) ls) (hx:x.flat=true):∃ cs',cs=.d x::cs'∧Ow h ss cs' ds ls:=by
 obtain⟨c,y,cs',ds',rfl,e,e2,o'⟩:=o.inv_d;simp at e;obtain⟨rfl,rfl⟩:=e;obtain rfl:=(Frz.data (h:=h) e2).flat hx;exact⟨cs',rfl,o'⟩
end Go.Am
namespace Go.Proofs.YthiojhcimecdgaaGreatDoor
open Go Go.Am
end Go.Proofs.YthiojhcimecdgaaGreatDoor
namespace Go.Am
open Go Go.Proofs.YthiojhcimecdgaaGreatDoor
theorem Ow.stp {h:HS} {xs:List C} {x:Stp} {ls:List Lab} (o:Ow h StpSh xs x.enc ls):∃ x6 x12 x13 x22 a b c d,xs=stpC x x6 x12 x13 x22∧ls=a++(b++(c++d))∧Ow h [.r [.d]] [x6] [.sl (x.cols.map encI)] a∧Ow h [.r [.d,.d,.d]] [x12] [.sl (x.newTable.cols.map Col.enc)] b∧Ow h [.r [.d]] [x13] [.sl (x.newTable.pk.map encI)] c∧Ow h [.r [.d]] [x22] [.sl (x.fk.cols.map encI)] d:=by
 simp only[StpSh,Stp.enc] at o;obtain⟨_,rfl,o_0⟩:=o.dcons (c:=.nil) rfl;obtain⟨_,rfl,o_1⟩:=o_0.dcons (c:=.nil) rfl;obtain⟨_,rfl,o_2⟩:=o_1.dcons (c:=.nil) rfl;obtain⟨_,rfl,o_3⟩:=o_2.dcons (c:=.nil) rfl;obtain⟨_,rfl,o_4⟩:=o_3.dcons (c:=.nil) rfl;obtain⟨_,rfl,o_5⟩:=o_4.dcons (c:=.nil) rfl;obtain⟨x6,_,a,_,rfl,rfl,o6,o_6⟩:=o_5.split;obtain⟨_,rfl,o_7⟩:=o_6.dcons (c:=.nil) rfl;obtain⟨_,rfl,o_8⟩:=o_7.dcons (c:=.nil) rfl;obtain⟨_,rfl,o_9⟩:=o_8.dcons (c:=.nil) rfl;obtain⟨_,rfl,o_10⟩:=o_9.dcons (c:=.nil) rfl;obtain⟨_,rfl,o_11⟩:=o_10.dcons (c:=.nil) rfl;obtain⟨x12,_,b,_,rfl,rfl,o12,o_12⟩:=o_11.split;obtain⟨x13,_,c,_,rfl,rfl,o13,o_13⟩:=o_12.split;obtain⟨_,rfl,o_14⟩:=o_13.dcons (c:=.nil) rfl;obtain⟨_,rfl,o_15⟩:=o_14.dcons (c:=.nil) rfl;obtain⟨_,rfl,o_16⟩:=o_15.dcons (c:=.nil) rfl;obtain⟨_,rfl,o_17⟩:=o_16.dcons (c:=.nil) rfl;obtain⟨_,rfl,o_18⟩:=o_17.dcons (c:=.nil) rfl;obtain⟨_,rfl,o_19⟩:=o_18.dcons (c:=.nil) rfl;obtain⟨_,rfl,o_20⟩:=o_19.dcons (c:=.nil) rfl;obtain⟨_,rfl,o_21⟩:=o_20.dcons (c:=.nil) rfl;obtain⟨x22,_,d,_,rfl,rfl,o22,o_22⟩:=o_21.split;obtain⟨_,rfl,o_23⟩:=o_22.dcons (c:=.nil) rfl;obtain⟨rfl,_,rfl⟩:=o_23.inv_nil;exact⟨x6,x12,x13,x22,a,b,c,d,rfl,by simp,o6,o12,o13,o22⟩
end Go.Am
namespace Go.Proofs.YthiojhcimecdgaaGreatDoor
open Go Go.Am
end Go.Proofs.YthiojhcimecdgaaGreatDoor
namespace Go.Am
open Go Go.Proofs.YthiojhcimecdgaaGreatDoor
theorem Ow.mkStp {h:HS} {x:Stp} {x6 x12 x13 x22:C} {a b c d:List Lab} (o6:Ow h [.r [.d]] [x6] [.sl (x.cols.map encI)] a) (o12:Ow h [.r [.d,.d,.d]] [x12] [.sl (x.newTable.cols.map Col.enc)] b) (o13:Ow h [.r [.d]] [x13] [.sl (x.newTable.pk.map encI)] c) (o22:Ow h [.r [.d]] [x22] [.sl (x.fk.cols.map encI)] d):Ow h StpSh (stpC x x6 x12 x13 x22) x.enc (a++(b++(c++d))):=by
 have e:=o22.join (Ow.data (c:=.d (.str x.fk.ref)) (x:=.str x.fk.ref) rfl .nil);have e2:=o13.join (.data (c:=.d (.str x.cons.table)) rfl (.data (c:=.d (.int .i64 x.cons.left)) rfl (.data (c:=.d (.str x.cons.op)) rfl (.data (c:=.d (.int .i64 x.cons.right)) rfl (.data (c:=.d (.int .i64 x.cons.value.kind)) rfl (.data (c:=.d (.int .i64 x.cons.value.int)) rfl (.data (c:=.d (.str x.cons.value.text)) rfl (.data (c:=.d (.str x.fk.table)) rfl e))))))));have e3:=o6.join (.data (c:=.d (.str x.op)) rfl (.data (c:=.d (.int .i64 x.value.kind)) rfl (.data (c:=.d (.int .i64 x.value.int)) rfl (.data (c:=.d (.str x.value.text)) rfl (.data (c:=.d (.str x.newTable.name)) rfl (o12.join e2))))));have e4:=Ow.data (c:=.d (.int .i64 x.kind)) rfl (.data (c:=.d (.str x.table)) rfl (.data (c:=.d (.str x.other)) rfl (.data (c:=.d (.str x.column)) rfl (.data (c:=.d (.str x.newName)) rfl (.data (c:=.d (.int .i64 x.type)) rfl e3)))));simp only[List.append_nil] at e4;exact e4
end Go.Am
namespace Go.Proofs.YthiojhcimecdgaaGreatDoor
open Go Go.Am
end Go.Proofs.YthiojhcimecdgaaGreatDoor
namespace Go.Am
open Go Go.Proofs.YthiojhcimecdgaaGreatDoor
theorem Ow.nelem {h:HS} {x:C} {vs:List Int} {ls:List Lab} (o:Ow h [.r [.d]] [x] [.sl (vs.map encI)] ls) {k:Nat} {v:Int} (hk:vs[k]?=some v):∃ l2 cap B,x=.mrow l2 0 vs.length cap∧l2 ∈ ls∧h.box l2=some B∧takeN 1 (B.drop k)=some [.d (.int .i64 v)]:=by
 obtain⟨qs,rfl,P⟩:=o.npart (fun h0=>by have:vs=[]:=by simpa using h0
                                       rw[this] at hk;simp at hk)
 obtain⟨l2,cap,B,k1,k2,k3,k4⟩:=P.elemD (n:=1) rfl (Z61 (f:=encI) hk) (Zdy v)
 have:=k2.rd0 1 (by omega)
 simp at this;exact⟨l2,cap,B,by simpa using k1,by rw[k1];simp[plabs,labs],k2.box,this⟩
end Go.Am
namespace Go.Proofs.YthiojhcimecdgaaGreatDoor
open Go Go.Am
def Z3q (S:Sch) (i:Nat) (step:Stp):Option (Sch × Int):=
 bindK (Z16 step.value ⟨step.column,step.type,step.value.kind == 0⟩) fun e=>bif e != 0 then some (S,e) else
 getK S.tables (i:Int) fun T=>chkK (0 < T.cols.length∧T.cols.length < LIM) (some ({ S with tables:=S.tables.set i { T with cols:=T.cols++[⟨step.column,step.type,step.value.kind == 0⟩] } },0))
theorem Zdm {ta ta' fa oa lx:List Lab} {n:Nat} (h:∀ k ∈ ta',k ∈ ta∨n≤k.1):∀ k ∈ ta'++(fa++oa),k ∈ ta++(fa++oa)∨n≤k.1:=fun k hk=>by
 simp only[List.mem_append] at hk ⊢;rcases hk with hk | hk | hk
 ·exact (h k hk).imp_left .inl
 ·exact .inl (.inr (.inl hk))
 ·exact .inl (.inr (.inr hk))
theorem Z9b (h:HS) (l:Lab) (tc fc oc x6 x12 x13 x22:C) (ta fa oa:List Lab) (S S':Sch) (i:Nat) (step:Stp) (r:Int) (hm:Is (Z3q S i step) (S',r)) (s:Sc h l S tc fc oc ta fa oa) (K:V→HS→Prop)
  (hk:KeepS h l (ta++(fa++oa)) S' (.one (.d (.int .i64 r))) K) :
  HSpec Tryz.prog 166 [.one (.ptr l 0),.one (.d (.int .i64 (i:Int))),.agg (stpC step x6 x12 x13 x22)] h K:=by
 replace hm:=hm.bind;obtain⟨ev,hev,hm⟩:=hm;refine HSpec.of_vc Tryz.func166 rfl (by kernel_rfl) (n:=43) rfl rfl (by simp) ?_;simp[stpC];have hs0:Same h (((h.setBox (h.ep,80) (stpC step x6 x12 x13 x22)).next.setBox (h.ep+1,112) [C.d (D.str ByteArray.empty),C.d (D.int IntKind.i64 0),C.d (D.bool false)]).next.setBox (h.ep+1,112) [C.d (D.str step.column),C.d (D.int IntKind.i64 step.type),C.d (D.bool (step.value.kind == 0))]) []:=(((Same.refl.setBox (.inr (Nat.le_refl _))).next.setBox (.inr (by simp))).next.setBox (.inr (by simp)));simp only[stpC] at hs0;generalize hX:(((h.setBox (h.ep,80) _).next.setBox (h.ep+1,112) _).next.setBox (h.ep+1,112) _)=HX at hs0 ⊢;have bx7:HX.box (h.ep+1,112)=some [C.d (D.str step.column),C.d (D.int IntKind.i64 step.type),C.d (D.bool (step.value.kind == 0))]:=by rw[← hX];simp
 refine Z02 (HSpec.of_lend (c_evolution_checkDefault step.value ⟨step.column,step.type,step.value.kind == 0⟩ ev hev) ⟨.agg (FrzCs.datas (ds:=step.value.enc)),.agg (FrzCs.datas (ds:=(⟨step.column,step.type,step.value.kind == 0⟩:Col).enc)),trivial⟩ rfl ?_);cases hev0:ev != 0 with
 | true=>
   rw[hev0] at hm;have e1:=r_ret hm;simp only[Prod.mk.injEq] at e1;obtain⟨rfl,rfl⟩:=e1;have hev1:¬ ev=0:=by simpa using hev0
   simp[hev0,hev1];exact hk _ _ (s.frame hs0.next).ows (hs0.next.mono (by simp)) (fun k hk=>.inl hk)
 | false=>
   simp only[hev0,cond_false] at hm;have hev1:ev=0:=by simpa using hev0
   replace hm:=hm.getN;obtain⟨T,hi,hm⟩:=hm;replace hm:=hm.chk;obtain⟨⟨hc0,hc1⟩,hm⟩:=hm;have e1:=r_ret hm;simp only[Prod.mk.injEq] at e1;obtain⟨rfl,rfl⟩:=e1;simp[hev0,hev1];have s1:=s.frame hs0;have hb1:=s1.box;have hlt:i < S.tables.length:=(List.getElem?_eq_some_iff.1 hi).1;obtain⟨lt,c1,c2,B,tv⟩:=s1.tbl hi;obtain⟨cap,rfl⟩:=tv.hd;have bx:=tv.el.box;have r1:=tv.el.rd 1 1 (by omega);have hle:=tv.el.le;simp at r1;have hne:=ne_new (s1.lt l (by simp));have hnt:=ne_new (s1.lt lt (by simp[tv.tm]));refine Wait.cut (Plan.then_ [0,1,2,4,5,6,7,8,9,10,11,12,13] (.two 3 14 (Plan.then_ [14,15,16,17,18] .done) (Plan.then_ [] (.two 3 15 (Plan.then_ [15,16,17,18] .done) (Plan.then_ [3,16,17,18] .done))))) follows (by kernel_rfl) (fun e h'=>e.n=43∧∃ ta',Sc h' l { S with tables:=S.tables.set i { T with cols:=T.cols++[⟨step.column,step.type,step.value.kind == 0⟩] } } (.mrow lt 0 S.tables.length cap) fc oc ta' fa oa∧Same h h' ta∧∀ k ∈ ta',k ∈ ta∨h.ep≤k.1) ?_ ?_
   ·simp[hb1,bx7,hlt,bx,r1,hne,hnt,Plan.then_,vcPlan,Z01,Z00,callKind];have hs2:Same HX (((HX.next).setArr (HX.ep+1,16 * 39) (some (1,3))).next) []:=(Same.refl.next).setArr.next;simp only[Nat.reduceMul] at hs2;obtain⟨c1',c2',tv2⟩:=(s1.frame hs2).tblK (by simpa using bx) hi;obtain rfl:c1'=c1:=by
     have:=tv2.el.rd 1 1 (by omega)
     simp[r1] at this;exact this.symm
    have hc2:T.cols.length < 2097152:=hc1;refine⟨?_,?_,?_⟩
    all_goals
     refine app_mr (by simp;exact⟨rfl,rfl⟩) (by simp) (by simp) (by simp) (tv2.m1 (by intro h0;simp[h0] at hc0)) (RowAt.own1 (by simp)) (by simp<;>omega) (fun c' h' hm' hs3 hl3=>?_);have hbl:h'.box lt=some B:=by
      rw[hs3.2 lt ((s1.frame hs2).lt lt (by simp[tv.tm])) fun h2=>(tv2.l1 lt h2).2 rfl];simpa using bx
     have hbs:h'.box l=some [.mrow lt 0 S.tables.length cap,fc,oc]:=(s1.frame hs2).keep hs3 fun k hk=>.inl (tv2.l1 k hk).1;have hep:=hs3.1;simp at hep;obtain⟨ta',s4,hta⟩:=tv2.s1 h' c' (T.cols++[⟨step.column,step.type,step.value.kind == 0⟩]) (by simpa using hm') hs3 (fun k hk=>(hl3 k hk).imp_right fun h2=>⟨fun h3=>by have:=(s1.frame hs2).lt k h3;omega,h2.2⟩);simp[hlt,hbl,hbs];refine⟨by omega,CutK.of ⟨by simp,ta',s4,?_,fun k hk=>?_⟩⟩
     ·exact ((hs0.trans hs2).mono (by simp) |>.trans (hs3.mono fun k hk=>(tv2.l1 k hk).1)).setBox (.inl tv.tm)
     ·rcases hta k hk with h2 | h2
      ·exact .inl h2
      ·rcases hl3 k h2 with h3 | h3
       ·exact .inl (tv2.l1 k h3).1
       ·refine .inr ?_;have h4:=h3.1;have h5:=hs0.1;simp at h4;omega
   ·rintro e h1 ⟨hn,ta',s4,hs4,hta⟩;simp[hn];exact hk _ _ s4.ows (hs4.mono fun k hk=>by simp[hk]) (Zdm (lx:=[]) hta)
end Go.Proofs.YthiojhcimecdgaaGreatDoor
end
namespace Go.Proofs.YthiojhcimecdgaaGreatDoor
section
open Go.Am
def Z1p (fk:Fk) (k0:Tbl) (k1:Int):Option Bool:=
 (bif strEq fk.table k0.name then (bindK (Z0v fk.cols k1) fun v3=>(some v3)) else (some false))
instance c_evolution_checkUnused_1 (fk:Fk) (k0:Tbl) (k1:Int):Con (Z1p fk k0 k1) Tryz.prog 214 [.agg fk.enc,.one (.rp [.str k0.name,.sl (k0.cols.map Col.enc),.sl (k0.pk.map encI)]),.one (.rp [.int .i64 k1])] (fun r=>.one (.d (.bool r))):=by
 unfold Z1p;exact go 16 Tryz.func214 rfl (by kernel_rfl) rfl rfl (by simp)
instance f_evolution_checkUnused_1 (k0:Tbl) (k1:Int):ConF (fun x=>Z1p x k0 k1) Tryz.prog (fun x=>.agg x.enc) (fun r=>.one (.d (.bool r))) 214 [[.str k0.name,.sl (k0.cols.map Col.enc),.sl (k0.pk.map encI)],[.int .i64 k1]]:=⟨fun x=>(c_evolution_checkUnused_1 x k0 k1)⟩
def Z0x (s_:List Cons) (f:Cons→Option Bool):Option Int:=
 (forK (fun (i2:Nat) (x2:Cons) (s2:Unit) next_2=>(bindK (f x2) fun v3=>(bif v3 then (some (i2:Int)) else (next_2 ())))) (fun (s2:Unit)=>(some (-1))) s_ 0 ())
instance i_slices_IndexFunc_Constraint (s_:List Cons) (f:Cons→Option Bool) {g:FuncId} {caps:List (List D)} [ConF f Tryz.prog (fun x=>.agg x.enc) (fun v=>.one (.d (.bool v))) g caps]:Con (Z0x s_ f) Tryz.prog 232 [.one (.d (.sl (s_.map Cons.enc))),.one (.fn g caps)] (fun r=>.one (.d (.int .i64 r))):=by
 unfold Z0x;have l1:LH (σ:=Unit) 8 [0,1,7] []:=.intro;exact go 19 Tryz.func232 rfl (by kernel_rfl) rfl rfl (by simp)
theorem Z6s (s_:List Cons) (g:FuncId) (caps:List (List D)) (f:Cons→Option Bool) (hf:∀ xa v,Is (f xa) v→PSpec Tryz.prog g (.agg xa.enc::capsOf caps) (.one (.d (.bool v)))) (r:Int) (hm:Is (Z0x s_ f) r):PSpec Tryz.prog 232 [.one (.d (.sl (s_.map Cons.enc))),.one (.fn g caps)] (.one (.d (.int .i64 r))):=
 haveI:ConF f Tryz.prog (fun x=>.agg x.enc) (fun v=>.one (.d (.bool v))) g caps:=⟨hf⟩
 (i_slices_IndexFunc_Constraint s_ f).h r hm
def Z17 (s_:List Cons) (f:Cons→Option Bool):Option Bool:=
 (bindK (Z0x s_ f) fun v1=>(some (decide (0≤v1))))
instance i_slices_ContainsFunc_Constraint (s_:List Cons) (f:Cons→Option Bool) {g:FuncId} {caps:List (List D)} [ConF f Tryz.prog (fun x=>.agg x.enc) (fun v=>.one (.d (.bool v))) g caps]:Con (Z17 s_ f) Tryz.prog 215 [.one (.d (.sl (s_.map Cons.enc))),.one (.fn g caps)] (fun r=>.one (.d (.bool r))):=by
 unfold Z17;exact go 9 Tryz.func215 rfl (by kernel_rfl) rfl rfl (by simp)
def Z1o (c:Cons) (k0:Tbl) (k1:Int):Option Bool:=
 (bif strEq c.table k0.name then (bif (c.left == k1) then (some true) else (some (c.right == k1))) else (some false))
instance c_evolution_checkUnused_2 (c:Cons) (k0:Tbl) (k1:Int):Con (Z1o c k0 k1) Tryz.prog 216 [.agg c.enc,.one (.rp [.str k0.name,.sl (k0.cols.map Col.enc),.sl (k0.pk.map encI)]),.one (.rp [.int .i64 k1])] (fun r=>.one (.d (.bool r))):=by
 unfold Z1o;exact go 22 Tryz.func216 rfl (by kernel_rfl) rfl rfl (by simp)
instance f_evolution_checkUnused_2 (k0:Tbl) (k1:Int):ConF (fun x=>Z1o x k0 k1) Tryz.prog (fun x=>.agg x.enc) (fun r=>.one (.d (.bool r))) 216 [[.str k0.name,.sl (k0.cols.map Col.enc),.sl (k0.pk.map encI)],[.int .i64 k1]]:=⟨fun x=>(c_evolution_checkUnused_2 x k0 k1)⟩
def Z0c (s_:List Fk) (f:Fk→Option Bool):Option Int:=
 (forK (fun (i2:Nat) (x2:Fk) (s2:Unit) next_2=>(bindK (f x2) fun v3=>(bif v3 then (some (i2:Int)) else (next_2 ())))) (fun (s2:Unit)=>(some (-1))) s_ 0 ())
instance i_slices_IndexFunc_Foreignkey (s_:List Fk) (f:Fk→Option Bool) {g:FuncId} {caps:List (List D)} [ConF f Tryz.prog (fun x=>.agg x.enc) (fun v=>.one (.d (.bool v))) g caps]:Con (Z0c s_ f) Tryz.prog 128 [.one (.d (.sl (s_.map Fk.enc))),.one (.fn g caps)] (fun r=>.one (.d (.int .i64 r))):=by
 unfold Z0c;have l1:LH (σ:=Unit) 8 [0,1,7] []:=.intro;exact go 19 Tryz.func128 rfl (by kernel_rfl) rfl rfl (by simp)
theorem Z2v (s_:List Fk) (g:FuncId) (caps:List (List D)) (f:Fk→Option Bool) (hf:∀ xa v,Is (f xa) v→PSpec Tryz.prog g (.agg xa.enc::capsOf caps) (.one (.d (.bool v)))) (r:Int) (hm:Is (Z0c s_ f) r):PSpec Tryz.prog 128 [.one (.d (.sl (s_.map Fk.enc))),.one (.fn g caps)] (.one (.d (.int .i64 r))):=
 haveI:ConF f Tryz.prog (fun x=>.agg x.enc) (fun v=>.one (.d (.bool v))) g caps:=⟨hf⟩
 (i_slices_IndexFunc_Foreignkey s_ f).h r hm
def Z07 (s_:List Fk) (f:Fk→Option Bool):Option Bool:=
 (bindK (Z0c s_ f) fun v1=>(some (decide (0≤v1))))
instance i_slices_ContainsFunc_Foreignkey (s_:List Fk) (f:Fk→Option Bool) {g:FuncId} {caps:List (List D)} [ConF f Tryz.prog (fun x=>.agg x.enc) (fun v=>.one (.d (.bool v))) g caps]:Con (Z07 s_ f) Tryz.prog 87 [.one (.d (.sl (s_.map Fk.enc))),.one (.fn g caps)] (fun r=>.one (.d (.bool r))):=by
 unfold Z07;exact go 9 Tryz.func87 rfl (by kernel_rfl) rfl rfl (by simp)
theorem Z29 (s_:List Fk) (g:FuncId) (caps:List (List D)) (f:Fk→Option Bool) (hf:∀ xa v,Is (f xa) v→PSpec Tryz.prog g (.agg xa.enc::capsOf caps) (.one (.d (.bool v)))) (r:Bool) (hm:Is (Z07 s_ f) r):PSpec Tryz.prog 87 [.one (.d (.sl (s_.map Fk.enc))),.one (.fn g caps)] (.one (.d (.bool r))):=
 haveI:ConF f Tryz.prog (fun x=>.agg x.enc) (fun v=>.one (.d (.bool v))) g caps:=⟨hf⟩
 (i_slices_ContainsFunc_Foreignkey s_ f).h r hm
def Z1d (s_:Sch) (t:Tbl) (column:Int):Option Int:=
 (bindK (Z0v t.pk column) fun v4=>(bif v4 then (some 9) else (bindK (Z07 s_.fks (fun xa_=>Z1p xa_ t column)) fun v6=>(bif v6 then (some 10) else (bindK (Z17 s_.cons (fun xa_=>Z1o xa_ t column)) fun v8=>(bif v8 then (some 11) else (some 0)))))))
instance c_evolution_checkUnused (s_:Sch) (t:Tbl) (column:Int):Con (Z1d s_ t column) Tryz.prog 194 [.agg s_.enc,.agg t.enc,.one (.d (.int .i64 column))] (fun r=>.one (.d (.int .i64 r))):=by
 unfold Z1d;exact go 19 Tryz.func194 rfl (by kernel_rfl) rfl rfl (by simp)
end
section
open Go Go.Am
def Z34 (S:Sch) (i:Nat) (step:Stp):Option (Sch × Int):=
 getK S.tables (i:Int) fun T=>bindK (Z08 T step.column) fun r=>bif !r.2 then some (S,4) else
 bif step.kind == 3 then bindK (Z08 T step.newName) fun r2=>bif r2.2 then some (S,5) else
  getK T.cols r.1 fun c=>some ({ S with tables:=S.tables.set i { T with cols:=T.cols.set r.1.toNat { c with name:=step.newName } } },0)
 else bindK (Z1d S T r.1) fun e=>bif e != 0 then some (S,e) else
 bif step.kind == 5 then getK T.cols r.1 fun c=>some ({ S with tables:=S.tables.set i { T with cols:=T.cols.set r.1.toNat { c with kind:=step.type } } },0)
 else getK T.cols r.1 fun c=>bindK (Z16 step.value c) fun e=>bif e != 0 then some (S,e) else bindK (Z13 S i [r.1]) fun S'=>some (S',0)
set_option maxHeartbeats 1000000 in
theorem Z8j (h:HS) (l:Lab) (tc fc oc x6 x12 x13 x22:C) (ta fa oa:List Lab) (S S':Sch) (i:Nat) (step:Stp) (r:Int) (hm:Is (Z34 S i step) (S',r)) (s:Sc h l S tc fc oc ta fa oa) (K:V→HS→Prop)
  (hk:KeepS h l (ta++(fa++oa)) S' (.one (.d (.int .i64 r))) K) :
  HSpec Tryz.prog 167 [.one (.ptr l 0),.one (.d (.int .i64 (i:Int))),.agg (stpC step x6 x12 x13 x22)] h K:=by
 replace hm:=hm.getN;obtain⟨T,hi,hm⟩:=hm;replace hm:=hm.bind;obtain⟨v,hv,hm⟩:=hm;have hlt:i < S.tables.length:=(List.getElem?_eq_some_iff.1 hi).1;have hs0:Same h ((h.setBox (h.ep,80) (stpC step x6 x12 x13 x22)).next) []:=(Same.refl.setBox (.inr (Nat.le_refl _))).next;have s0:=s.frame hs0;obtain⟨lt,c1,c2,B,tv⟩:=s0.tbl hi;obtain⟨cap,rfl⟩:=tv.hd;have hb0:=s0.box;have bx:=tv.el.box;have r0:=tv.el.rd0 3 (by omega);have r1:=tv.el.rd 1 1 (by omega);simp at r0 r1;have bx5:(h.setBox (h.ep,80) (stpC step x6 x12 x13 x22)).next.box (h.ep,80)=some (stpC step x6 x12 x13 x22):=by simp
 refine HSpec.of_vc Tryz.func167 rfl (by kernel_rfl) (n:=94) rfl rfl (by simp) ?_;have hnn:stpC step x6 x12 x13 x22≠[]:=by simp[stpC]
 have hne:=ne_new (s.lt l (by simp));have hbs:=s.box;have hep:h.ep < ((h.setBox (h.ep,80) (stpC step x6 x12 x13 x22)).next).ep:=by simp
 simp[hbs,hne,hlt,hnn];generalize (h.setBox (h.ep,80) (stpC step x6 x12 x13 x22)).next=HX at *;have hxf:∀ h',Same HX h' []→FrzCs h' [C.d (D.str T.name),c1,c2] T.enc:=fun h' hs=>⟨.data rfl,tv.f1 h' hs,tv.f2 h' hs,trivial⟩;refine Wait.cut (Plan.then_ [0,1,2,3,4,5,6,7,8,9,10] .done) follows (by kernel_rfl) (fun e h'=>e.n=94∧e.get 0=.one (.ptr l 0)∧e.get 1=.one (.d (.int .i64 (i:Int)))∧e.get 5=.one (.ptr (h.ep,80) 0)∧e.get 7=.one (.ptr lt (i * 3))∧e.get 8=.one (.d (.int .i64 v.1))∧e.get 9=.one (.d (.bool v.2))∧Same HX h' []) ?_ ?_
 ·simp[bx,r0,bx5,stpC,Plan.then_,vcPlan,Z01,Z00,callKind];refine Z02 (HSpec.of_lend (c_schema_FindColumn T step.column v hv) ⟨.agg (hxf _ .refl),.one (.frz (.data rfl)),trivial⟩ rfl ?_);simp;exact⟨fun _ _ x=>x,CutK.of (by simp[Same.refl.next])⟩
 ·rintro e h1 ⟨hn,h0,h1',h5,h7,h8,h9,hs1⟩;have bx5':h1.box (h.ep,80)=some (stpC step x6 x12 x13 x22):=by rw[hs1.2 _ hep (by simp)];exact bx5
  have bx':h1.box lt=some B:=by rw[hs1.2 _ (s0.lt lt (by simp[tv.tm])) (by simp)];exact bx
  have s1:=s0.frame hs1;have hb1:=s1.box;have hy:=hs0.trans hs1;simp[hn,h0,h1',h5,h7,h8,h9];cases hv2:v.2 with
  | false=>
    rw[hv2] at hm;have e1:=r_ret hm;simp only[Prod.mk.injEq] at e1;obtain⟨rfl,rfl⟩:=e1;simp[hn];exact hk _ _ s1.ows (hy.mono (by simp)) (fun k hk=>.inl hk)
  | true=>
    simp only[hv2,Bool.not_true,cond_false] at hm;simp[hn,h5,bx5',stpC];cases hk3:step.kind == 3 with
    | true=>
      simp only[hk3,cond_true] at hm;replace hm:=hm.bind;obtain⟨w,hw,hm⟩:=hm;simp[hk3];refine Wait.cut (Plan.then_ [0,1,2,3,4,5,6,7,8,9,10] .done) follows (by kernel_rfl) (fun e h'=>e.n=94∧e.get 0=.one (.ptr l 0)∧e.get 1=.one (.d (.int .i64 (i:Int)))∧e.get 5=.one (.ptr (h.ep,80) 0)∧e.get 7=.one (.ptr lt (i * 3))∧e.get 8=.one (.d (.int .i64 v.1))∧e.get 11=.one (.d (.bool w.2))∧Same h1 h' []) ?_ ?_
      ·simp[hn,h0,h1',h5,h7,h8,bx',r0,bx5',stpC,Plan.then_,vcPlan,Z01,Z00,callKind];refine Z02 (HSpec.of_lend (c_schema_FindColumn T step.newName w hw) ⟨.agg (hxf _ hs1),.one (.frz (.data rfl)),trivial⟩ rfl ?_);simp[hn];exact⟨fun _ _ x=>x,CutK.of (by simp[hn,h0,h1',h5,h7,h8,Same.refl.next])⟩
      ·rintro e h2 ⟨hn,h0,h1',h5,h7,h8,h11,hs2⟩;have s2:=s1.frame hs2;have hy2:=hy.trans hs2;simp[hn,h11];cases hw2:w.2 with
       | true=>
         rw[hw2] at hm;have e1:=r_ret hm;simp only[Prod.mk.injEq] at e1;obtain⟨rfl,rfl⟩:=e1;simp[hn];exact hk _ _ s2.ows (hy2.mono (by simp)) (fun k hk=>.inl hk)
       | false=>
         simp only[hw2,cond_false] at hm;replace hm:=hm.get;obtain⟨c,hv0,hc,hm⟩:=hm;have e1:=r_ret hm;simp only[Prod.mk.injEq] at e1;obtain⟨rfl,rfl⟩:=e1;have bx2:h2.box lt=some B:=by rw[hs2.2 _ (s1.lt lt (by simp[tv.tm])) (by simp)];exact bx'
         have bx52:h2.box (h.ep,80)=some (stpC step x6 x12 x13 x22):=by rw[hs2.2 _ (Nat.lt_of_lt_of_le hep hs1.1) (by simp)];exact bx5'
         obtain⟨c1',c2',tv2⟩:=s2.tblK bx2 hi;obtain rfl:c1'=c1:=by
          have:=tv2.el.rd 1 1 (by omega)
          simp[r1] at this;exact this.symm
         obtain⟨l2,cap2,B2,rfl,el2,w2⟩:=tv2.e1 _ c hc;have bx3:=el2.box;have hle2:=el2.le;have hl2:=tv2.l1 l2 (by simp[labs]);obtain⟨n,hn1⟩:∃ n:Nat,v.1=n:=⟨v.1.toNat,by omega⟩;have hnl:n < T.cols.length:=by
          have:=(List.getElem?_eq_some_iff.1 hc).1
          omega
         rw[hn1] at h8 hle2 w2;simp;refine Wait.cut (Plan.then_ [0,1,2,3,4,5,6,7,8,9] .done) follows (by kernel_rfl) (fun e h'=>e.n=94∧Sc h' l { S with tables:=S.tables.set i { T with cols:=T.cols.set v.1.toNat { c with name:=step.newName } } } (.mrow lt 0 S.tables.length cap) fc oc ta fa oa∧Same h h' ta) ?_ ?_
         ·simp at hle2;simp[hn,h0,h1',h5,h7,h8,bx2,r1,bx52,bx3,hnl,stpC,Plan.then_,vcPlan,Z01,Z00,callKind];refine⟨by omega,CutK.of ⟨by simp[hn],?_,(hy2.mono (by simp)).setBox (.inl hl2.1)⟩⟩
          have:=w2 0 [.d (.str step.newName)] { c with name:=step.newName } (by simp) (by simp)
          simpa[hn1] using this
         ·rintro e h3 ⟨hn,s3,hs3⟩;simp[hn];exact hk _ _ s3.ows (hs3.mono fun k hk=>by simp[hk]) (fun k hk=>.inl hk)
    | false=>
      simp only[hk3,cond_false] at hm;replace hm:=hm.bind;obtain⟨w,hw,hm⟩:=hm;simp[hk3];refine Wait.cut (Plan.then_ [0,1,2,3,4,5,6,7,8] .done) follows (by kernel_rfl) (fun e h'=>e.n=94∧e.get 0=.one (.ptr l 0)∧e.get 1=.one (.d (.int .i64 (i:Int)))∧e.get 5=.one (.ptr (h.ep,80) 0)∧e.get 7=.one (.ptr lt (i * 3))∧e.get 8=.one (.d (.int .i64 v.1))∧e.get 12=.one (.d (.int .i64 w))∧Same h1 h' []) ?_ ?_
      ·simp[hn,h0,h1',h5,h7,h8,bx',r0,hb1,Plan.then_,vcPlan,Z01,Z00,callKind];refine Z02 (HSpec.of_lend (c_evolution_checkUnused S T v.1 w hw) ⟨.agg s1.frz,.agg (hxf _ hs1),.one (.frz (.data rfl)),trivial⟩ rfl ?_);simp[hn];exact⟨fun _ _ x=>x,CutK.of (by simp[hn,h0,h1',h5,h7,h8,Same.refl.next])⟩
      ·rintro e h2 ⟨hn,h0,h1',h5,h7,h8,h12,hs2⟩;have s2:=s1.frame hs2;have hy2:=hy.trans hs2;have bx2:h2.box lt=some B:=by rw[hs2.2 _ (s1.lt lt (by simp[tv.tm])) (by simp)];exact bx'
       have bx52:h2.box (h.ep,80)=some (stpC step x6 x12 x13 x22):=by rw[hs2.2 _ (Nat.lt_of_lt_of_le hep hs1.1) (by simp)];exact bx5'
       simp[hn,h12];cases hw0:w != 0 with
       | true=>
         simp only[hw0,cond_true] at hm;have e1:=r_ret hm;simp only[Prod.mk.injEq] at e1;obtain⟨rfl,rfl⟩:=e1;have hw1:¬ w=0:=by simpa using hw0
         simp[hn,h12,hw1];exact hk _ _ s2.ows (hy2.mono (by simp)) (fun k hk=>.inl hk)
       | false=>
         simp only[hw0,cond_false] at hm;have hw1:w=0:=by simpa using hw0
         simp[hn,h5,h12,hw1,bx52,stpC];cases hk5:step.kind == 5 with
         | true=>
           simp only[hk5,cond_true] at hm;replace hm:=hm.get;obtain⟨c,hv0,hc,hm⟩:=hm;have e1:=r_ret hm;simp only[Prod.mk.injEq] at e1;obtain⟨rfl,rfl⟩:=e1;obtain⟨c1',c2',tv2⟩:=s2.tblK bx2 hi;obtain rfl:c1'=c1:=by
            have:=tv2.el.rd 1 1 (by omega)
            simp[r1] at this;exact this.symm
           obtain⟨l2,cap2,B2,rfl,el2,w2⟩:=tv2.e1 _ c hc;have bx3:=el2.box;have hle2:=el2.le;have hl2:=tv2.l1 l2 (by simp[labs]);obtain⟨n,hn1⟩:∃ n:Nat,v.1=n:=⟨v.1.toNat,by omega⟩;have hnl:n < T.cols.length:=by
            have:=(List.getElem?_eq_some_iff.1 hc).1
            omega
           rw[hn1] at h8 hle2 w2;simp[hk5];refine Wait.cut (Plan.then_ [0,1,2,3,4,5,6,7,8,9] .done) follows (by kernel_rfl) (fun e h'=>e.n=94∧Sc h' l { S with tables:=S.tables.set i { T with cols:=T.cols.set v.1.toNat { c with kind:=step.type } } } (.mrow lt 0 S.tables.length cap) fc oc ta fa oa∧Same h h' ta) ?_ ?_
           ·simp at hle2;simp[hn,h0,h1',h5,h7,h8,bx2,r1,bx52,bx3,hnl,stpC,Plan.then_,vcPlan,Z01,Z00,callKind];refine⟨by omega,CutK.of ⟨by simp[hn],?_,(hy2.mono (by simp)).setBox (.inl hl2.1)⟩⟩
            have:=w2 1 [.d (.int .i64 step.type)] { c with kind:=step.type } (by simp) (by simp)
            simpa[hn1] using this
           ·rintro e h3 ⟨hn,s3,hs3⟩;simp[hn];exact hk _ _ s3.ows (hs3.mono fun k hk=>by simp[hk]) (fun k hk=>.inl hk)
         | false=>
           simp only[hk5,cond_false] at hm;replace hm:=hm.get;obtain⟨c,hv0,hc,hm⟩:=hm;replace hm:=hm.bind;obtain⟨u,hu,hm⟩:=hm;obtain⟨c1',c2',tv2⟩:=s2.tblK bx2 hi;obtain rfl:c1'=c1:=by
            have:=tv2.el.rd 1 1 (by omega)
            simp[r1] at this;exact this.symm
           obtain⟨l2,cap2,B2,rfl,el2,w2⟩:=tv2.e1 _ c hc;have bx3:=el2.box;have q0:=el2.rd0 3 (by omega);obtain⟨n,hn1⟩:∃ n:Nat,v.1=n:=⟨v.1.toNat,by omega⟩;have hnl:n < T.cols.length:=by
            have:=(List.getElem?_eq_some_iff.1 hc).1
            omega
           rw[hn1] at h8 q0;simp at q0;simp[hk5];refine Wait.cut (Plan.then_ [0,1,2,3,4,5,6,7,8,9,10] .done) follows (by kernel_rfl) (fun e h'=>e.n=94∧e.get 0=.one (.ptr l 0)∧e.get 1=.one (.d (.int .i64 (i:Int)))∧e.get 8=.one (.d (.int .i64 n))∧e.get 13=.one (.d (.int .i64 u))∧Same h2 h' []) ?_ ?_
           ·simp[hn,h0,h1',h5,h7,h8,bx2,r1,bx3,q0,hnl,bx52,stpC,Plan.then_,vcPlan,Z01,Z00,callKind];refine Z02 (HSpec.of_lend (c_evolution_checkDefault step.value c u hu) ⟨.agg (FrzCs.datas (ds:=step.value.enc)),.agg (FrzCs.datas (ds:=c.enc)),trivial⟩ rfl ?_);simp[hn];exact⟨fun _ _ x=>x,CutK.of (by simp[hn,h0,h1',h8,Same.refl.next])⟩
           ·rintro e h3 ⟨hn,h0,h1',h8,h13,hs3⟩;have s3:=s2.frame hs3;have hy3:=hy2.trans hs3;simp[hn,h13];cases hu0:u != 0 with
            | true=>
              simp only[hu0,cond_true] at hm;have e1:=r_ret hm;simp only[Prod.mk.injEq] at e1;obtain⟨rfl,rfl⟩:=e1;have hu1:¬ u=0:=by simpa using hu0
              simp[hn,h13,hu1];exact hk _ _ s3.ows (hy3.mono (by simp)) (fun k hk=>.inl hk)
            | false=>
              simp only[hu0,cond_false] at hm;have hu1:u=0:=by simpa using hu0
              replace hm:=hm.bind;obtain⟨S4,hm4,hm⟩:=hm;have e1:=r_ret hm;simp only[Prod.mk.injEq] at e1;obtain⟨rfl,rfl⟩:=e1;simp[hn,h0,h1',h8,h13,hu1];have hz:Same h3 ((h3.setArr (h3.ep,16 * 92) (some (1,1))).next) []:=(Same.refl.setArr).next;simp only[Nat.reduceMul] at hz;refine Z02 (Z3v _ l _ fc oc _ ta fa oa S S4 i [v.1] hm4 (s3.frame hz) (fun h' _=>.data (by simp[hn1])) _ (fun h4 ta4 s4 hs4 hta4=>?_));simp[hn];have hy4:=hy3.trans hz;exact hk _ _ s4.ows ((hy4.mono (by simp)).trans (hs4.mono fun k hk=>List.mem_cons_of_mem _ hk)) (Zdm (lx:=[]) fun k hk=>(hta4 k hk).imp_right fun h2=>Nat.le_trans hy4.1 h2)
def Z2n (S:Sch) (i:Nat) (step:Stp):Option (Sch × Int):=
 getK S.tables (i:Int) fun T=>bif ((step.cols.length:Int) != 2) then some (S,3) else getK step.cols 0 fun a=>bif decide (a < 0) then some (S,3) else getK step.cols 1 fun b=>bif decide (b≤a) then some (S,3) else bif decide ((T.cols.length:Int)≤b) then some (S,3) else
 forK (fun _ (col:Int) (nul:Bool) next=>getK T.cols col fun c=>bif c.kind != 3 then some (S,7) else next (nul && c.nullable)) (fun nul=>
  forK (fun _ (col:Int) (_:Unit) next=>bindK (Z1d S T col) fun e=>bif e != 0 then some (S,e) else next ()) (fun _=>
   bindK (Z13 S i step.cols) fun S1=>getK S1.tables (i:Int) fun T1=>chkK (0 < T1.cols.length∧T1.cols.length < LIM) (some ({ S1 with tables:=S1.tables.set i { T1 with cols:=T1.cols++[⟨step.column,3,nul⟩] } },0))) step.cols 0 ()) step.cols 0 true
set_option maxHeartbeats 1000000 in
theorem Z7q (h:HS) (l:Lab) (tc fc oc:C) (xs:List C) (ta fa oa lx:List Lab) (S S':Sch) (i:Nat) (step:Stp) (r:Int) (hm:Is (Z2n S i step) (S',r)) (s:Sc h l S tc fc oc ta fa oa) (hx:Ow h StpSh xs step.enc lx) (hd:∀ k ∈ lx,k.1 < h.ep∧k ∉ l::(ta++(fa++oa))) (K:V→HS→Prop)
  (hk:KeepS h l (ta++(fa++oa)) S' (.one (.d (.int .i64 r))) K) :
  HSpec Tryz.prog 165 [.one (.ptr l 0),.one (.d (.int .i64 (i:Int))),.agg xs] h K:=by
 obtain⟨x6,x12,x13,x22,a6,a12,a13,a22,rfl,rfl,o6,o12,o13,o22⟩:=hx.stp;replace hm:=hm.getN;obtain⟨T,hi,hm⟩:=hm;have hlt:i < S.tables.length:=(List.getElem?_eq_some_iff.1 hi).1;have hs0:Same h ((h.setBox (h.ep,80) (stpC step x6 x12 x13 x22)).next) []:=(Same.refl.setBox (.inr (Nat.le_refl _))).next;have s0:=s.frame hs0;obtain⟨lt,c1,c2,B,tv⟩:=s0.tbl hi;obtain⟨cap,rfl⟩:=tv.hd;have hb0:=s0.box;have bx:=tv.el.box;have r0:=tv.el.rd0 3 (by omega);have r1:=tv.el.rd 1 1 (by omega);simp at r0 r1;have bx5:(h.setBox (h.ep,80) (stpC step x6 x12 x13 x22)).next.box (h.ep,80)=some (stpC step x6 x12 x13 x22):=by simp
 have o60:∀ h',Same h h' (l::(ta++(fa++oa)))→Ow h' [.r [.d]] [x6] [.sl (step.cols.map encI)] a6:=fun h' hs=>o6.frame fun k hk=>hs.2 k (hd k (by simp[hk])).1 (hd k (by simp[hk])).2;have hcl:=o6.nlen;simp at hcl;refine HSpec.of_vc Tryz.func165 rfl (by kernel_rfl) (n:=114) rfl rfl (by simp) ?_;have hnn:stpC step x6 x12 x13 x22≠[]:=by simp[stpC]
 have hne:=ne_new (s.lt l (by simp));have hbs:=s.box;have hep:h.ep < ((h.setBox (h.ep,80) (stpC step x6 x12 x13 x22)).next).ep:=by simp
 simp[hbs,hne,hlt,hnn];have e6:takeN 1 ((stpC step x6 x12 x13 x22).drop 6)=some [x6]:=by simp[stpC]
 simp[e6];generalize (h.setBox (h.ep,80) (stpC step x6 x12 x13 x22)).next=HX at *;have hxf:∀ h',Same HX h' []→FrzCs h' [C.d (D.str T.name),c1,c2] T.enc:=fun h' hs=>⟨.data rfl,tv.f1 h' hs,tv.f2 h' hs,trivial⟩;cases hl2:(step.cols.length:Int) != 2 with
 | true=>
   simp only[hl2,cond_true] at hm;have e1:=r_ret hm;have hl3:¬ (step.cols.length:Int)=2:=by simpa using hl2
   simp only[Prod.mk.injEq] at e1;obtain⟨rfl,rfl⟩:=e1;refine Wait.cut (Plan.then_ [0,1,2,3,4,5,6,7,8,9,10,11,12,13,14,15,16,17,18,19,20,21,22,23,24,25,26,27,28] .done) follows (by kernel_rfl) (fun e h'=>e.n=114∧e.get 51=.one (.d (.bool true))∧h'=HX) ?_ ?_
   ·simp[Plan.then_,vcPlan,Z01,Z00,callKind];refine Z1a hcl.1 ?_;simp[Plan.then_,vcPlan,Z01,Z00,callKind,hl2,hl3];exact CutK.of (by simp)
   ·rintro e h1 ⟨hn,h51,rfl⟩;simp[hn,h51];exact hk _ _ s0.ows (hs0.mono (by simp)) (fun k hk=>.inl hk)
 | false=>
   simp only[hl2,cond_false] at hm;have hl3:(step.cols.length:Int)=2:=by simpa using hl2
   have hl4:step.cols.length=2:=by omega
   replace hm:=hm.get;obtain⟨a,-,ha,hm⟩:=hm;simp at ha;obtain⟨l6,cap6,B6,rfl,hl6,bx6,r6⟩:=(o60 _ (hs0.mono (by simp))).nelem (k:=0) (v:=a) (by simpa using ha);simp at r6;cases ha0:decide (a < 0) with
   | true=>
     simp only[ha0,cond_true] at hm;have e1:=r_ret hm;simp at ha0;simp only[Prod.mk.injEq] at e1;obtain⟨rfl,rfl⟩:=e1;refine Wait.cut (Plan.then_ [0,1,2,3,4,5,6,7,8,9,10,11,12,13,14,15,16,17,18,19,20,21,22,23,24,25,26,27,28] .done) follows (by kernel_rfl) (fun e h'=>e.n=114∧e.get 51=.one (.d (.bool true))∧h'=HX) ?_ ?_
     ·simp[Plan.then_,vcPlan,Z01,Z00,callKind];simp[Plan.then_,vcPlan,Z01,Z00,callKind,hl4,bx6,r6,ha0];exact CutK.of (by simp)
     ·rintro e h1 ⟨hn,h51,rfl⟩;simp[hn,h51];exact hk _ _ s0.ows (hs0.mono (by simp)) (fun k hk=>.inl hk)
   | false=>
     simp only[ha0,cond_false] at hm;simp at ha0;have ha1:¬ a < 0:=by omega
     replace hm:=hm.get;obtain⟨b,-,hb,hm⟩:=hm;simp at hb;obtain⟨l6',cap6',B6',e6',-,bx6',r61⟩:=(o60 _ (hs0.mono (by simp))).nelem (k:=1) (v:=b) (by simpa using hb);simp at e6';obtain⟨rfl,rfl⟩:=e6';rw[bx6] at bx6';cases bx6';simp at r61;cases hb0':decide (b≤a) with
     | true=>
       simp only[hb0',cond_true] at hm;have e1:=r_ret hm;simp at hb0';simp only[Prod.mk.injEq] at e1;obtain⟨rfl,rfl⟩:=e1;refine Wait.cut (Plan.then_ [0,1,2,3,4,5,6,7,8,9,10,11,12,13,14,15,16,17,18,19,20,21,22,23,24,25,26,27,28] .done) follows (by kernel_rfl) (fun e h'=>e.n=114∧e.get 51=.one (.d (.bool true))∧h'=HX) ?_ ?_
       ·simp[Plan.then_,vcPlan,Z01,Z00,callKind];simp[Plan.then_,vcPlan,Z01,Z00,callKind,hl4,bx6,r6,r61,ha1,hb0'];exact CutK.of (by simp)
       ·rintro e h1 ⟨hn,h51,rfl⟩;simp[hn,h51];exact hk _ _ s0.ows (hs0.mono (by simp)) (fun k hk=>.inl hk)
     | false=>
       simp only[hb0',cond_false] at hm;simp at hb0';have hb1':¬ b≤a:=by omega
       cases hc0:decide ((T.cols.length:Int)≤b) with
       | true=>
         simp only[hc0,cond_true] at hm;have e1:=r_ret hm;simp at hc0;simp only[Prod.mk.injEq] at e1;obtain⟨rfl,rfl⟩:=e1;refine Wait.cut (Plan.then_ [0,1,2,3,4,5,6,7,8,9,10,11,12,13,14,15,16,17,18,19,20,21,22,23,24,25,26,27,28] .done) follows (by kernel_rfl) (fun e h'=>e.n=114∧e.get 51=.one (.d (.bool true))∧h'=HX) ?_ ?_
         ·simp[Plan.then_,vcPlan,Z01,Z00,callKind];simp[Plan.then_,vcPlan,Z01,Z00,callKind,hl4,bx6,r6,r61,ha1,hb1',bx,r1];refine Z1a tv.n1.1 ?_;simp[hc0];exact CutK.of (by simp)
         ·rintro e h1 ⟨hn,h51,rfl⟩;simp[hn,h51];exact hk _ _ s0.ows (hs0.mono (by simp)) (fun k hk=>.inl hk)
       | false=>
         simp only[hc0,cond_false] at hm;simp at hc0;have hc1:¬ (T.cols.length:Int)≤b:=by omega
         refine Wait.cut (Plan.then_ [0,1,2,3,4,5,6,7,8,9,10,11,12,13,14,15,16,17,18,19,20,21,22,23,24,25,26,27,28] .done) follows (by kernel_rfl) (fun e h'=>e.n=114∧e.get 0=.one (.ptr l 0)∧e.get 1=.one (.d (.int .i64 (i:Int)))∧e.get 5=.one (.ptr (h.ep,80) 0)∧e.get 7=.one (.ptr lt (i * 3))∧e.get 8=.one (.mrow l6 0 step.cols.length cap6)∧e.get 51=.one (.d (.bool false))∧h'=HX) ?_ ?_
         ·simp[Plan.then_,vcPlan,Z01,Z00,callKind];simp[Plan.then_,vcPlan,Z01,Z00,callKind,hl4,bx6,r6,r61,ha1,hb1',bx,r1];refine Z1a tv.n1.1 ?_;simp[hc1];exact CutK.of (by simp[hl4])
         ·rintro e h1 ⟨hn,h0,h1',h5,h7,h8,h51,rfl⟩;simp[hn,h8,h51];have n6:∀ h',Same h h' (l::(ta++(fa++oa)))→h'.box l6=some B6∧∀ (k:Nat) (v:Int),step.cols[k]?=some v→takeN 1 (B6.drop k)=some [.d (.int .i64 v)]:=fun h' hs=>by
           have hl6':=hd l6 (by simp[hl6]);have h2:h'.box l6=some B6:=by
            rw[hs.2 l6 hl6'.1 hl6'.2,← hs0.2 l6 hl6'.1 (by simp)];exact bx6
           refine⟨h2,fun k v hk=>?_⟩;obtain⟨l7,cap7,B7,e7,-,bx7,r7⟩:=(o60 h' hs).nelem hk;simp at e7;obtain⟨rfl,rfl⟩:=e7;rw[h2] at bx7;cases bx7;exact r7
          refine Wait.for (xs:=step.cols) (s0:=true) (fun k nul e h2=>e.n=114∧e.get 0=.one (.ptr l 0)∧e.get 1=.one (.d (.int .i64 (i:Int)))∧e.get 5=.one (.ptr (h.ep,80) 0)∧e.get 7=.one (.ptr lt (i * 3))∧e.get 8=.one (.mrow l6 0 step.cols.length cap6)∧e.get 52=.one (.mrow l6 0 step.cols.length cap6)∧e.get 53=.one (.d (.int .i64 (step.cols.length:Int)))∧e.get 54=.one (.d (.int .i64 (k:Int)))∧e.get 9=.one (.d (.bool nul))∧h2=h1) hm ⟨by simp[hn],by simp[h0],by simp[h1'],by simp[h5],by simp[h7],by simp[h8],by simp,by simp,by simp,by simp,rfl⟩ ?_ ?_
          ·rintro k nul e h2 ⟨hn,h0,h1',h5,h7,h8,h52,h53,h54,h9,rfl⟩ hltk hm;replace hm:=hm.get;obtain⟨c,hc0',hc,hm⟩:=hm;have hltk2:k < 2:=by omega
           have hw:IntKind.i64.wrap ((k:Int)+1)=(k:Int)+1:=IntWalk.i64_in _ (by omega);obtain⟨n6a,n6b⟩:=n6 _ (hs0.mono (by simp));have q6:=n6b k _ (List.getElem?_eq_getElem hltk);obtain⟨l2,cap2,B2,rfl,el2,-⟩:=tv.e1 _ c hc;have bx2:=el2.box;have q1:=el2.rd 1 1 (by omega);have q2:=el2.rd 2 1 (by omega);obtain⟨n,hn1⟩:∃ n:Nat,step.cols[k]=n:=⟨step.cols[k].toNat,by omega⟩;have hnl:n < T.cols.length:=by
            have:=(List.getElem?_eq_some_iff.1 hc).1
            omega
           rw[hn1] at q6 q1 q2;simp at q1 q2;cases hk3:c.kind != 3 with
           | true=>
             simp only[hk3,cond_true] at hm;have e1:=r_ret hm;simp only[Prod.mk.injEq] at e1;obtain⟨rfl,rfl⟩:=e1;have hk4:¬ c.kind=3:=by simpa using hk3
             simp[hn,h7,h8,h52,h53,h54,hltk,n6a,q6,bx,r1,hnl,bx2,q1,hk3,hk4];exact hk _ _ s0.ows (hs0.mono (by simp)) (fun k hk=>.inl hk)
           | false=>
             simp only[hk3,cond_false] at hm;have hk4:c.kind=3:=by simpa using hk3
             simp[hn,h7,h8,h52,h53,h54,hltk,n6a,q6,bx,r1,hnl,bx2,q1,hk4];cases nul with
             | true=>
               simp[hn,h7,h9,h54,bx,r1,hnl,bx2,q2,hw];exact BackF.of _ ⟨⟨by simp[hn],by simp[h0],by simp[h1'],by simp[h5],by simp[h7],by simp[h8],by simp[h52],by simp[h53],by simp,by simp,rfl⟩,hm⟩
             | false=>
               simp[hn,h7,h9,h54,bx,r1,hnl,bx2,q2,hw];exact BackF.of _ ⟨⟨by simp[hn],by simp[h0],by simp[h1'],by simp[h5],by simp[h7],by simp[h8],by simp[h52],by simp[h53],by simp,by simp,rfl⟩,hm⟩
          ·rintro nul e h2 ⟨hn,h0,h1',h5,h7,h8,h52,h53,h54,h9,rfl⟩ hm;simp[hn,h8,h53,h54];refine Wait.for (xs:=step.cols) (s0:=()) (fun k _ e h3=>e.n=114∧e.get 0=.one (.ptr l 0)∧e.get 1=.one (.d (.int .i64 (i:Int)))∧e.get 5=.one (.ptr (h.ep,80) 0)∧e.get 7=.one (.ptr lt (i * 3))∧e.get 8=.one (.mrow l6 0 step.cols.length cap6)∧e.get 79=.one (.mrow l6 0 step.cols.length cap6)∧e.get 80=.one (.d (.int .i64 (step.cols.length:Int)))∧e.get 81=.one (.d (.int .i64 (k:Int)))∧e.get 9=.one (.d (.bool nul))∧Same h2 h3 []) hm ⟨by simp[hn],by simp[h0],by simp[h1'],by simp[h5],by simp[h7],by simp[h8],by simp,by simp,by simp,by simp[h9],.refl⟩ ?_ ?_
           ·rintro k _ e h3 ⟨hn,h0,h1',h5,h7,h8,h79,h80,h81,h9,hs3⟩ hltk hm;replace hm:=hm.bind;obtain⟨w,hwv,hm⟩:=hm;have hltk2:k < 2:=by omega
            have hw:IntKind.i64.wrap ((k:Int)+1)=(k:Int)+1:=IntWalk.i64_in _ (by omega);have hy:=hs0.trans hs3;have s3:=s0.frame hs3;have hb3:=s3.box;have bx3:h3.box lt=some B:=by rw[hs3.2 _ (s0.lt lt (by simp[tv.tm])) (by simp)];exact bx
            obtain⟨n6a,n6b⟩:=n6 _ (hy.mono (by simp));have q6:=n6b k _ (List.getElem?_eq_getElem hltk);simp[hn,h0,h7,h79,h80,h81,hltk,n6a,q6];refine Wait.cut (Plan.then_ [0,1,2,3,4,5,6,7,8] .done) follows (by kernel_rfl) (fun e h4=>e.n=114∧e.get 0=.one (.ptr l 0)∧e.get 1=.one (.d (.int .i64 (i:Int)))∧e.get 5=.one (.ptr (h.ep,80) 0)∧e.get 7=.one (.ptr lt (i * 3))∧e.get 8=.one (.mrow l6 0 step.cols.length cap6)∧e.get 79=.one (.mrow l6 0 step.cols.length cap6)∧e.get 80=.one (.d (.int .i64 (step.cols.length:Int)))∧e.get 81=.one (.d (.int .i64 (k:Int)))∧e.get 9=.one (.d (.bool nul))∧e.get 14=.one (.d (.int .i64 w))∧Same h2 h4 []) ?_ ?_
            ·simp[hn,h0,h1',h5,h7,h8,h9,hb3,bx3,r0,Plan.then_,vcPlan,Z01,Z00,callKind];refine Z02 (HSpec.of_lend (c_evolution_checkUnused S T _ w hwv) ⟨.agg s3.frz,.agg (hxf _ hs3),.one (.frz (.data rfl)),trivial⟩ rfl ?_);simp[hn];exact⟨fun _ _ x=>x,CutK.of ⟨by simp[hn],by simp[h0],by simp[h1'],by simp[h5],by simp[h7],by simp[h8],by simp[h79],by simp[h80],by simp[h81],by simp[h9],by simp,hs3.next⟩⟩
            ·rintro e h4 ⟨hn,h0,h1',h5,h7,h8,h79,h80,h81,h9,h14,hs4⟩;simp[hn,h14,h81];cases hw0:w != 0 with
             | true=>
               simp only[hw0,cond_true] at hm;have e1:=r_ret hm;simp only[Prod.mk.injEq] at e1;obtain⟨rfl,rfl⟩:=e1;have hw1:¬ w=0:=by simpa using hw0
               simp[hn,h14,hw1];exact hk _ _ (s0.frame hs4).ows ((hs0.trans hs4).mono (by simp)) (fun k hk=>.inl hk)
             | false=>
               simp only[hw0,cond_false] at hm;have hw1:w=0:=by simpa using hw0
               simp[hn,h81,hw1,hw];exact BackF.of _ ⟨⟨by simp[hn],by simp[h0],by simp[h1'],by simp[h5],by simp[h7],by simp[h8],by simp[h79],by simp[h80],by simp,by simp[h9],hs4⟩,hm⟩
           ·rintro _ e h3 ⟨hn,h0,h1',h5,h7,h8,h79,h80,h81,h9,hs3⟩ hm;replace hm:=hm.bind;obtain⟨S1,hm1,hm⟩:=hm;replace hm:=hm.getN;obtain⟨T1,hi1,hm⟩:=hm;replace hm:=hm.chk;obtain⟨⟨hc0',hc1'⟩,hm⟩:=hm;have e1:=r_ret hm;simp only[Prod.mk.injEq] at e1;obtain⟨rfl,rfl⟩:=e1;have hy:=hs0.trans hs3;have s3:=s0.frame hs3;simp[hn,h0,h1',h8,h80,h81];refine Z02 (Z3v _ l _ fc oc _ ta fa oa S S1 i step.cols hm1 s3 (fun h' hs'=>((o60 h' ((hy.mono (by simp)).trans (hs'.mono fun k hk=>List.mem_cons_of_mem _ hk)))).nfrz) _ (fun h4 ta4 s4 hs4 hta4=>?_));have hlt4:i < S1.tables.length:=(List.getElem?_eq_some_iff.1 hi1).1;obtain⟨lt4,c14,c24,B4,tv4⟩:=s4.tbl hi1;obtain⟨cap4,e4⟩:=tv4.hd;simp at e4;obtain⟨rfl,e5,rfl⟩:=e4;have bx4:=tv4.el.box;have q1:=tv4.el.rd 1 1 (by omega);have hle4:=tv4.el.le;simp at q1;have bx54:h4.box (h.ep,80)=some (stpC step (.mrow l6 0 step.cols.length cap6) x12 x13 x22):=by
             rw[hs4.2 _ (Nat.lt_of_lt_of_le hep hs3.1) (fun h2=>by have:=s.lt (h.ep,80) (by simp at h2 ⊢;exact .inr h2);simp at this),hs3.2 _ hep (by simp)];exact bx5
            simp[hn];refine Wait.cut (Plan.then_ [0,1,2,3,4,5,6,7,8,9,10,11,12,13] .done) follows (by kernel_rfl) (fun e h'=>e.n=114∧∃ ta',Sc h' l { S1 with tables:=S1.tables.set i { T1 with cols:=T1.cols++[⟨step.column,3,nul⟩] } } (.mrow lt 0 S.tables.length cap) fc oc ta' fa oa∧Same h4 h' ta4∧∀ k ∈ ta',k ∈ ta4∨h4.ep≤k.1) ?_ ?_
            ·simp[hn,h0,h5,h7,h9,bx4,q1,bx54,stpC,Plan.then_,vcPlan,Z01,Z00,callKind];have hz:Same h4 (((h4).setArr (h4.ep,16 * 110) (some (1,3))).next) []:=(Same.refl).setArr.next;simp only[Nat.reduceMul] at hz;obtain⟨c1',c2',tv5⟩:=(s4.frame hz).tblK (by simpa using bx4) hi1;obtain rfl:c1'=c14:=by
              have:=tv5.el.rd 1 1 (by omega)
              simp[q1] at this;exact this.symm
             have hc2:T1.cols.length < 2097152:=hc1';refine app_mr (by simp;exact⟨rfl,rfl⟩) (by simp) (by simp) (by simp) (tv5.m1 (by intro h0;simp[h0] at hc0')) (RowAt.own1 (by simp)) (by simp<;>omega) (fun c' h' hm' hs5 hl5=>?_);have hbl:h'.box lt=some B4:=by
              rw[hs5.2 lt ((s4.frame hz).lt lt (by simp[tv5.tm])) fun h2=>(tv5.l1 lt h2).2 rfl];simpa using bx4
             obtain⟨ta',s6,hta⟩:=tv5.s1 h' c' (T1.cols++[⟨step.column,3,nul⟩]) (by simpa using hm') hs5 (fun k hk=>(hl5 k hk).imp_right fun h2=>⟨fun h3=>by have:=(s4.frame hz).lt k h3;omega,h2.2⟩);simp[hn,h7,hbl];refine⟨by omega,CutK.of ⟨by simp[hn],ta',s6,?_,fun k hk=>?_⟩⟩
             ·exact ((hz.mono (by simp)).trans (hs5.mono fun k hk=>(tv5.l1 k hk).1)).setBox (.inl tv5.tm)
             ·rcases hta k hk with h2 | h2
              ·exact .inl h2
              ·rcases hl5 k h2 with h3 | h3
               ·exact .inl (tv5.l1 k h3).1
               ·refine .inr ?_;have h4':=h3.1;simp at h4';omega
            ·rintro e h5 ⟨hn,ta',s6,hs6,hta6⟩;simp[hn];have hep4:h.ep≤h4.ep:=Nat.le_trans hy.1 hs4.1;refine hk _ _ s6.ows (((hy.mono (by simp)).trans (hs4.mono fun k hk=>List.mem_cons_of_mem _ hk)).trans' hs6 fun k hk=>?_) (Zdm (lx:=[]) fun k hk=>?_)
             ·exact (hta4 k hk).imp (fun h2=>by simp[h2]) fun h2=>Nat.le_trans hy.1 h2
             ·rcases hta6 k hk with h2 | h2
              ·exact (hta4 k h2).imp_right fun h3=>Nat.le_trans hy.1 h3
              ·exact .inr (Nat.le_trans hep4 h2)
end
section
open Go.Am
def Z11 (s_:List Cons) (v_:Cons):Option Int:=
 (forK (fun (i3:Nat) (x3:Cons) (s3:Unit) next_3=>(bif (v_.table == x3.table && (v_.left == x3.left && (v_.op == x3.op && (v_.right == x3.right && (v_.value.kind == x3.value.kind && (v_.value.int == x3.value.int && (v_.value.text == x3.value.text))))))) then (some (i3:Int)) else (next_3 ()))) (fun (s3:Unit)=>(some (-1))) s_ 0 ())
instance c_slices_Index_Constraint (s_:List Cons) (v_:Cons):Con (Z11 s_ v_) Tryz.prog 132 [.one (.d (.sl (s_.map Cons.enc))),.agg v_.enc] (fun r=>.one (.d (.int .i64 r))):=by
 unfold Z11;have l1:LH (σ:=Unit) 8 [0,3,7] []:=.intro;have p1:PH [4] (Plan.then_ [0,1,2,3,4,5] .done):=.intro;exact go 19 Tryz.func132 rfl (by kernel_rfl) rfl rfl (by simp)
def Z14 (s1:List Int) (s2:List Int):Option Bool:=
 (bif ((s1.length:Int) != (s2.length:Int)) then (some false) else (forK (fun (i5:Nat) (x5:Int) (s5:Unit) next_5=>(getK s2 (i5:Int) fun x6=>(bif (x5 != x6) then (some false) else (next_5 ())))) (fun (s5:Unit)=>(some true)) s1 0 ()))
instance c_slices_Equal_Int (s1:List Int) (s2:List Int):Con (Z14 s1 s2) Tryz.prog 129 [.one (.d (.sl (s1.map encI))),.one (.d (.sl (s2.map encI)))] (fun r=>.one (.d (.bool r))):=by
 unfold Z14;have l1:LH (σ:=Unit) 13 [0,1,12] []:=.intro;have p1:PH [6] (Plan.then_ [0,1,2,3,4,5,6,7,8] .done):=.intro;exact go 26 Tryz.func129 rfl (by kernel_rfl) rfl rfl (by simp)
def Z0a (a:Fk) (b:Fk):Option Bool:=
 (bif strEq a.table b.table then (bindK (Z14 a.cols b.cols) fun v4=>(bif v4 then (some (strEq a.ref b.ref)) else (some false))) else (some false))
instance c_schema_EqualForeignKeys (a:Fk) (b:Fk):Con (Z0a a b) Tryz.prog 89 [.agg a.enc,.agg b.enc] (fun r=>.one (.d (.bool r))):=by
 unfold Z0a;exact go 24 Tryz.func89 rfl (by kernel_rfl) rfl rfl (by simp)
instance f_schema_EqualForeignKeys  : ConG (fun x y=>Z0a x y) Tryz.prog (fun x=>.agg x.enc) (fun x=>.agg x.enc) (fun r=>.one (.d (.bool r))) 89 []:=⟨fun x y=>(c_schema_EqualForeignKeys x y)⟩
def Z0m (other:Fk) (k0:Fk):Option Bool:=
 (bindK (Z0a other k0) fun v2=>(some v2))
instance c_evolution_dropForeignKey_1 (other:Fk) (k0:Fk):Con (Z0m other k0) Tryz.prog 176 [.agg other.enc,.one (.rp [.str k0.table,.sl (k0.cols.map encI),.str k0.ref])] (fun r=>.one (.d (.bool r))):=by
 unfold Z0m;exact go 7 Tryz.func176 rfl (by kernel_rfl) rfl rfl (by simp)
def Z2m (t:Tbl) (k0:ByteArray):Option Bool:=
 (some (strEq t.name k0))
instance c_evolution_removeTable_1 (t:Tbl) (k0:ByteArray):Con (Z2m t k0) Tryz.prog 209 [.agg t.enc,.one (.rp [.str k0])] (fun r=>.one (.d (.bool r))):=by
 unfold Z2m;exact go 8 Tryz.func209 rfl (by kernel_rfl) rfl rfl (by simp)
def Z2l (fk:Fk) (k0:ByteArray):Option Bool:=
 (some (strEq fk.table k0))
instance c_evolution_removeTable_2 (fk:Fk) (k0:ByteArray):Con (Z2l fk k0) Tryz.prog 211 [.agg fk.enc,.one (.rp [.str k0])] (fun r=>.one (.d (.bool r))):=by
 unfold Z2l;exact go 8 Tryz.func211 rfl (by kernel_rfl) rfl rfl (by simp)
def Z2k (c:Cons) (k0:ByteArray):Option Bool:=
 (some (strEq c.table k0))
instance c_evolution_removeTable_3 (c:Cons) (k0:ByteArray):Con (Z2k c k0) Tryz.prog 213 [.agg c.enc,.one (.rp [.str k0])] (fun r=>.one (.d (.bool r))):=by
 unfold Z2k;exact go 8 Tryz.func213 rfl (by kernel_rfl) rfl rfl (by simp)
def Z26 (fk:Fk) (k0:ByteArray):Option Bool:=
 (bif strEq fk.ref k0 then (some (!(strEq fk.table k0))) else (some false))
instance c_evolution_dropTable_1 (fk:Fk) (k0:ByteArray):Con (Z26 fk k0) Tryz.prog 193 [.agg fk.enc,.one (.rp [.str k0])] (fun r=>.one (.d (.bool r))):=by
 unfold Z26;exact go 14 Tryz.func193 rfl (by kernel_rfl) rfl rfl (by simp)
end
end Go.Proofs.YthiojhcimecdgaaGreatDoor
