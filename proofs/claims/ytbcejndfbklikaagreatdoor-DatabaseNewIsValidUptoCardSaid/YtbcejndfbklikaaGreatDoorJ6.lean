/- joined by a program out of 67 texts -/
import Derived.Test.YtbcejndfbklikaaGreatDoorJ5
import Derived.Shelf.LaysM
import Derived.Shelf.LaysC
import Derived.Test.YtbcejndfbklikaaGreatDoorProg
import Derived.Shelf.Strconv.Itoa3
import Derived.Lib.AppendIntMem
import Derived.Lib.LaidTab
import Derived.Shelf.Strings.Cut
import Derived.Shelf.Strings.Search3
set_option linter.unusedVariables false
set_option linter.unusedSimpArgs false
set_option maxRecDepth 20000
open Go.Proofs.Tryz(prog)
open ByteArray(empty)
section
namespace Go.Am
open Go
open Go.RowKit (Below)
section
variable {P:Program} {w:World} {a:Act} {e:Env} {h:HS} {μ:Mem} {Γ:Ctx}
def HS.only (h:HS) (ls:List Lab):HS:={ h with box:=fun l=>if l ∈ ls then h.box l else none,arr:=fun _=>none }
def HS.sans (h:HS) (ls:List Lab):HS:={ h with box:=fun l=>if l ∈ ls then none else h.box l }
open Classical in
noncomputable def Mem.frz (μ:Mem) (h:HS) (ls:List Lab) (w:World):Mem:=
 { μ with cell:=fun b o=>match μ.cell b o with
   | some v=>some v
   | none=>if ∃ l cs n,l ∈ ls/\h.box l=some cs/\μ.loc l=some (some b,n) then w.cell? ⟨b,o,none⟩ else none }
theorem Mem.frz_cell {ls:List Lab} {b o:Nat} {v:Value} (hv:(μ.frz h ls w).cell b o=some v):μ.cell b o=some v\/((∃ l cs n,l ∈ ls/\h.box l=some cs/\μ.loc l=some (some b,n))/\w.cell? ⟨b,o,none⟩=some v):=by
 simp only[Mem.frz] at hv;cases hx:μ.cell b o with
 | some y=>rw[hx] at hv;exact .inl hv
 | none=>
   rw[hx] at hv;simp only at hv;split at hv
   .rename_i hq;exact .inr ⟨hq,hv⟩
   .cases hv
theorem Mem.frz_none {ls:List Lab} {b o:Nat} (h1:μ.cell b o=none) (h2:∀ l cs n,l ∈ ls->h.box l=some cs->μ.loc l=some (some b,n)->False):(μ.frz h ls w).cell b o=none:=by
 simp only[Mem.frz,h1];rw[if_neg];rintro⟨l,cs,n,q1,q2,q3⟩;exact h2 l cs n q1 q2 q3
theorem Mem.frz_le {ls:List Lab}:Mem.Le μ (μ.frz h ls w):=⟨fun b o v hv=>by simp[Mem.frz,hv],rfl,fun _ _ hx=>hx⟩
theorem Inv.only (hI:Inv Γ h μ w) (ls:List Lab):Inv Γ (h.only ls) μ w:=by
 have hb:∀ {l cs},(h.only ls).box l=some cs->h.box l=some cs:=by
  intro l cs hl;simp only[HS.only] at hl;split at hl
  .exact hl
  .cases hl
 have hv:∀ {l},(h.only ls).live l->h.live l:=by
  rintro l (hl | hl)
  .cases hx:(h.only ls).box l with
   | none=>exact absurd hx hl
   | some cs=>exact .inl (by rw[hb hx];simp)
  .exact absurd rfl hl
 exact⟨hI.cell,hI.tmp,hI.tcell,hI.told,hI.ext,hI.old,hI.below,fun l cs hl=>hI.box l cs (hb hl),fun l es n hl=>by simp[HS.only] at hl,fun l l' b n n' h1 h2=>hI.inj l l' b n n' (hv h1) (hv h2),hI.lt,fun l _ hl=>hl rfl⟩
theorem Inv.frz (hI:Inv Γ h μ w) (ls:List Lab):Inv Γ (h.sans ls) (μ.frz h ls w) w:=by
 have hb:∀ {l cs},(h.sans ls).box l=some cs->h.box l=some cs/\l ∉ ls:=by
  intro l cs hl;simp only[HS.sans] at hl;split at hl
  .cases hl
  .exact⟨hl,by assumption⟩
 have hv:∀ {l},(h.sans ls).live l->h.live l:=by
  rintro l (hl | hl)
  .cases hx:(h.sans ls).box l with
   | none=>exact absurd hx hl
   | some cs=>exact .inl (by rw[(hb hx).1];simp)
  .exact .inr hl
 refine⟨fun b o v hq=>?_,hI.tmp,hI.tcell,hI.told,fun b o v hq=>Mem.frz_le.cell _ _ _ (hI.ext _ _ _ hq),fun b o v hlt hq=>?_,hI.below,fun l cs hl=>?_,fun l es n hl=>?_,fun l l' b n n' h1 h2=>hI.inj l l' b n n' (hv h1) (hv h2),hI.lt,fun l h1 h2=>?_⟩
 .rcases Mem.frz_cell hq with h1 | ⟨_,h1⟩
  .exact hI.cell _ _ _ h1
  .exact h1
 .rcases Mem.frz_cell hq with h1 | ⟨⟨l,cs,n,_,q2,q3⟩,_⟩
  .exact hI.old _ _ _ hlt h1
  .obtain⟨b',n',T,conc,h1,h2,_⟩:=hI.box l cs q2;rw[q3] at h1;cases h1;omega
 .obtain⟨h1,h2⟩:=hb hl;obtain⟨b,n,T,conc,q1,q2,q3,q4,q5⟩:=hI.box l cs h1;refine⟨b,n,T,conc,q1,q2,q3,q4.mono Mem.frz_le,fun o=>Mem.frz_none (q5 o) fun l' cs' n' r1 r2 r3=>?_⟩
  have:=hI.inj l l' b n n' (.inl (by rw[h1];simp)) (.inl (by rw[r2];simp)) q1 r3
  subst this;exact h2 r1
 .obtain⟨gc,q1,q2⟩:=hI.arr l es n hl;refine⟨gc,q1,q2.1,fun g hg=>?_⟩;obtain⟨r1,T,cur,r2,r3,r4,r5,r6⟩:=q2.2 g hg;refine⟨r1,T,cur,r2,r3,r4,r5,fun o ho=>Mem.frz_none (r6 o ho) fun l' cs' n' s1 s2 s3=>?_⟩;have hl':h.arr l≠none:=by
   have:h.arr l=some (n,es):=hl
   rw[this];simp
  obtain⟨g1,g2⟩:=gc;simp only at hg;subst hg
  have:=hI.inj l l' g g2 n' (.inr hl') (.inl (by rw[s2];simp)) q1 s3
  subst this;exact hI.both l (by rw[s2];simp) hl'
 .cases hx:(h.sans ls).box l with
  | none=>exact h1 hx
  | some cs=>exact hI.both l (by rw[(hb hx).1];simp) h2
theorem Zpn (hI:Inv Γ h μ w) (ls:List Lab) {c:C} {x:D} {v:Value} (hf:Frz (h.only ls) c x) (hc:RepC μ c v):RepD (μ.frz h ls w).cell x v:=by
 refine Zii (hI.only ls) Mem.frz_le.cell (fun l cs b n o u hb hl hu=>?_) hf hc;simp only[HS.only] at hb;split at hb
 .rename_i hm;obtain⟨b',n',T,conc,q1,_,_,_,q5⟩:=hI.box l cs hb;rw[hl] at q1;simp only[Y06,Y07] at q1;obtain⟨rfl,_⟩:=q1;simp only[Mem.frz,q5 o];rw[if_pos ⟨l,cs,n,hm,hb,hl⟩];exact hu
 .cases hb
def FrzC (h:HS) (c c':C):Prop:=c=c'\/∃ x,c'=.d x/\Frz h c x
def FrzCs' (h:HS):List C->List C->Prop
 | [],[]=>True
 | c::cs,x::xs=>FrzC h c x/\FrzCs' h cs xs
 | _,_=>False
def FrzV (h:HS):V->V->Prop
 | .one c,.one c'=>FrzC h c c'
 | .agg cs,.agg cs'=>FrzCs' h cs cs'
 | v,v'=>v=v'
def FrzVs' (h:HS):List V->List V->Prop
 | [],[]=>True
 | v::vs,x::xs=>FrzV h v x/\FrzVs' h vs xs
 | _,_=>False
def FrzR (h:HS):V->V->Prop
 | .tup vs,.tup vs'=>FrzVs' h vs vs'
 | v,v'=>FrzV h v v'
theorem FrzCs'.get:∀ {cs cs':List C},FrzCs' h cs cs'->cs.length=cs'.length/\∀ (i:Nat) c',cs'[i]? = some c'->∃ c,cs[i]? = some c/\FrzC h c c'
 | [],[],_=>⟨rfl,fun i x hi=>by simp at hi⟩
 | c::cs,y::xs,hr=>by
   obtain⟨h1,h2⟩:=FrzCs'.get hr.2;refine⟨by simp[h1],fun i x hi=>?_⟩;cases i with
   | zero=>simp at hi;subst hi;exact⟨c,by simp,hr.1⟩
   | succ i=>obtain⟨c',h3,h4⟩:=h2 i x (by simpa using hi);exact⟨c',by simpa using h3,h4⟩
 | [],_::_,hr=>hr.elim
 | _::_,[],hr=>hr.elim
theorem FrzVs'.get:∀ {cs cs':List V},FrzVs' h cs cs'->cs.length=cs'.length/\∀ (i:Nat) c',cs'[i]? = some c'->∃ c,cs[i]? = some c/\FrzV h c c'
 | [],[],_=>⟨rfl,fun i x hi=>by simp at hi⟩
 | c::cs,y::xs,hr=>by
   obtain⟨h1,h2⟩:=FrzVs'.get hr.2;refine⟨by simp[h1],fun i x hi=>?_⟩;cases i with
   | zero=>simp at hi;subst hi;exact⟨c,by simp,hr.1⟩
   | succ i=>obtain⟨c',h3,h4⟩:=h2 i x (by simpa using hi);exact⟨c',by simpa using h3,h4⟩
 | [],_::_,hr=>hr.elim
 | _::_,[],hr=>hr.elim
theorem FrzC.rep (hI:Inv Γ h μ w) (ls:List Lab) {c c':C} {v:Value} (hf:FrzC (h.only ls) c c') (hc:RepC μ c v):RepC (μ.frz h ls w) c' v:=by
 rcases hf with rfl | ⟨x,rfl,hf⟩
 .exact hc.mono Mem.frz_le
 .exact Zpn hI ls hf hc
theorem FrzV.rep1 (hI:Inv Γ h μ w) (ls:List Lab) {v v':V} {u:Value} (hf:FrzV (h.only ls) v v') (hv:RepV1 μ v u):RepV1 (μ.frz h ls w) v' u:=by
 cases v with
 | one c=>cases v'<;>first | exact FrzC.rep hI ls hf hv | cases hf
 | agg cs=>
   cases v' with
   | agg cs'=>
     obtain⟨vs,h1,h2⟩:=hv;obtain⟨h3,h4⟩:=FrzCs'.get hf;refine⟨vs,h1,by rw[h2.1,h3],fun i c' hi=>?_⟩;obtain⟨c,h5,h6⟩:=h4 i c' hi;obtain⟨u',h7,h8⟩:=h2.2 i c h5;exact⟨u',h7,h6.rep hI ls h8⟩
   | _=>cases hf
 | top=>cases v'<;>first | trivial | cases hf
 | undef=>cases v'<;>first | exact hv | cases hf
 | tup vs=>exact hv.elim
theorem FrzV.rep (hI:Inv Γ h μ w) (ls:List Lab) {v v':V} {u:Value} (hf:FrzV (h.only ls) v v') (hv:RepV μ v u):RepV (μ.frz h ls w) v' u:=by
 cases v with
 | tup vs=>cases v'<;>first | (cases hf;done) | (cases hf;exact hv.mono Mem.frz_le)
 | one c=>have:=FrzV.rep1 (u:=u) hI ls hf (v:=.one c) hv;cases v'<;>first | exact this | cases hf
 | agg c=>have:=FrzV.rep1 (u:=u) hI ls hf (v:=.agg c) hv;cases v'<;>first | exact this | cases hf
 | top=>have:=FrzV.rep1 (u:=u) hI ls hf (v:=.top) hv;cases v'<;>first | exact this | cases hf
 | undef=>have:=FrzV.rep1 (u:=u) hI ls hf (v:=.undef) hv;cases v'<;>first | exact this | cases hf
theorem FrzR.rep (hI:Inv Γ h μ w) (ls:List Lab) {v v':V} {u:Value} (hf:FrzR (h.only ls) v v') (hv:RepV μ v u):RepV (μ.frz h ls w) v' u:=by
 cases v with
 | tup vs=>
   cases v' with
   | tup vs'=>
     obtain⟨us,h1,h2,h3⟩:=hv;obtain⟨h4,h5⟩:=FrzVs'.get hf;refine⟨us,h1,by rw[h2,h4],fun i x hi=>?_⟩;obtain⟨y,h6,h7⟩:=h5 i x hi;obtain⟨u',h8,h9⟩:=h3 i y h6;exact⟨u',h8,h7.rep1 hI ls h9⟩
   | _=>cases hf
 | one c=>exact FrzV.rep (v:=.one c) hI ls (by cases v'<;>exact hf) hv
 | agg c=>exact FrzV.rep (v:=.agg c) hI ls (by cases v'<;>exact hf) hv
 | top=>exact FrzV.rep (v:=.top) hI ls (by cases v'<;>exact hf) hv
 | undef=>exact FrzV.rep (v:=.undef) hI ls (by cases v'<;>exact hf) hv
theorem FrzC.refl {c:C}:FrzC h c c:=.inl rfl
theorem FrzV.refl {v:V}:FrzV h v v:=by
 have hcs:∀ cs:List C,FrzCs' h cs cs:=by intro cs;induction cs with | nil=>trivial | cons c cs ih=>exact⟨.refl,ih⟩
 cases v<;>first | exact .inl rfl | exact hcs _ | rfl
theorem HSpec.frz_args {f:FuncId} {vs vs':List V} {K:V->HS->Prop} (ls:List Lab) (hf:FrzVs' (h.only ls) vs vs') (hs:HSpec P f vs' (h.sans ls) K):HSpec P f vs h K:=by
 refine⟨hs.1,fun Γ μ w vals hI hR=>?_⟩;obtain⟨h4,h5⟩:=FrzVs'.get hf;refine (hs.2 Γ (μ.frz h ls w) w vals (hI.frz ls) ⟨by rw[hR.1,h4],fun i x hi=>?_⟩).mono ?_
 .obtain⟨y,h6,h7⟩:=h5 i x hi;obtain⟨u',h8,h9⟩:=hR.2 i y h6;exact⟨u',h8,h7.rep hI ls h9⟩
 .rintro en w' ⟨u,v,h',μ',rfl,hk,hI',hr,hle⟩;exact⟨u,v,h',μ',rfl,hk,hI',hr,Mem.frz_le.trans hle⟩
theorem HSpec.frz_res {f:FuncId} {vs:List V} {K:V->HS->Prop} (hs:HSpec P f vs h (fun v h'=>∃ (ls:List Lab) (v':V),FrzR (h'.only ls) v v'/\K v' (h'.sans ls))):HSpec P f vs h K:=by
 refine⟨hs.1,fun Γ μ w vals hI hR=>?_⟩;refine (hs.2 Γ μ w vals hI hR).mono ?_;rintro en w' ⟨u,v,h',μ',rfl,⟨ls,v',hf,hk⟩,hI',hr,hle⟩;exact⟨u,v',_,_,rfl,hk,hI'.frz ls,hf.rep hI' ls hr,hle.trans Mem.frz_le⟩
end
end Go.Am
end
namespace Go.Proofs.YtbcejndfbklikaaGreatDoor
section
open Go.Am
def Z0q (m:Mp) (table:ByteArray):Option Tbl:=
 (bindK (Z02 m.dst table) fun v2=>(getK m.dst.tables v2.1 fun x3=>(some x3)))
instance c_lens_mapping__output (m:Mp) (table:ByteArray):Con (Z0q m table) prog 182 [.one (.rp m.enc),.one (.d (.str table))] (fun r=>.agg (r.enc.map RC.d)):=by
 unfold Z0q;exact go 24 Tryz.func182 rfl (by kernel_rfl) rfl rfl (by simp)
def Z52 (m:Mp) (key:List GV):Option ((List GV) × Bool):=
 (getK m.cs.tables 0 fun x1=>(getK m.comp 0 fun x3=>(bindK (Z4m x1 x3.rows key) fun v4=>(bif !v4.2 then (some ([],false)) else (getK x3.rows v4.1 fun x6=>(chkK (0<=(x1.pk.length:Int)/\(x1.pk.length:Int)<=(x6.length:Int)/\(x6.length:Int)<=(x6.length:Int)) (bindK (Z2h ((x6.take x6.length).drop x1.pk.length)) fun v9=>(some (v9,true)))))))))
instance c_lens_mapping__lookup (m:Mp) (key:List GV):Con (Z52 m key) prog 183 [.one (.rp m.enc),.one (.d (.sl (key.map GV.enc)))] (fun r=>.tup [.one (.d (.sl (r.1.map GV.enc))),.one (.d (.bool r.2))]):=by
 unfold Z52;have p1:PH [6] (Plan.then_ [0,1,2,3,4,5,6,7,8,9,10] .done):=.intro;exact go 42 Tryz.func183 rfl (by kernel_rfl) rfl rfl (by simp)
end
end Go.Proofs.YtbcejndfbklikaaGreatDoor
section
namespace Go.Proofs.YtbcejndfbklikaaGreatDoor
open Go Go.Am
def RowsOK (rows:List (List GV)):Prop:=rows.length<=2097152/\∀ row ∈ rows,row≠[]/\row.length<=2097152
instance (rows:List (List GV)):Decidable (RowsOK rows):=inferInstanceAs (Decidable (_/\_))
abbrev vcells (row:List GV):List (List C):=(row.map GV.enc).map (·.map C.d)
theorem ow_row {h:HS} {x:C} {row:List GV} {ls:List Lab} (o:Ow h [RowSh] [x] [.sl (row.map GV.enc)] ls) (hne:row≠[]):MR h 3 x (vcells row)/\ls=labs x:=by
 rcases o.inv_r with ⟨c,cs,ds,h1,h2,_⟩ | ⟨c,qs,cs',ds',ls',h1,h2,h3,hm,hq,hr⟩
 .simp at h2;exact absurd h2.1 hne
 .obtain⟨rfl,rfl,rfl⟩:=hr.inv_nil;simp only[List.cons.injEq,and_true,D.sl.injEq] at h1 h2;subst h1;have hf:∀ q ∈ qs,q.1=q.2.1.map C.d/\q.2.2=[]:=fun q hqm=>(hq q hqm).flat (n:=3) rfl fun d hd=>by
   have:q.2.1 ∈ row.map GV.enc:=by rw[h2];exact Y0m.2 ⟨q,hqm,rfl⟩
   obtain⟨v,_,hv⟩:=Y0m.1 this;rw[<- hv] at hd;simp at hd;rcases hd with rfl | rfl | rfl<;>rfl
  have e1:qs.map (·.1)=vcells row:=by
   rw[vcells,h2,Y28];exact Y2y fun q hqm=>(hf q hqm).1
  have e2:qs.flatMap (·.2.2)=[]:=by
   rw[Y2j];exact fun q hqm=>(hf q hqm).2
  rw[e1] at hm;exact⟨hm,by rw[h3,e2];simp⟩
theorem Zbm {h:HS} {c:C} {row:List GV} (m:MR h 3 c (vcells row)):Frz h c (.sl (row.map GV.enc)):=(Zlw m).frz.1
structure Rest (h:HS) (c:C) (qs:List NQ) (rows:List (List GV)) (i:Nat):Prop where
 mr:MR h 1 c (qs.map (·.1))
 ds:qs.map (·.2.1)=rows.map (encL GV.enc)
 ow:∀ (j:Nat) (q:NQ),i<=j->qs[j]? = some q->Ow h [RowSh] q.1 q.2.1 q.2.2
theorem Rest.of {h h':HS} {c:C} {rows:List (List GV)} (g:GrowP h h' [RowSh] c (rows.map (encL GV.enc))):∃ qs,Rest h' c qs rows 0/\(plabs c qs).Nodup/\∀ k ∈ plabs c qs,h.ep<=k.1/\k.1 < h'.ep:=by
 obtain⟨qs,p,nd,hl,_⟩:=g;exact⟨qs,⟨p.mr,p.ds,fun j q _ hq=>p.ow q (Y03 hq)⟩,nd,hl⟩
theorem Rest.frame {h h':HS} {c:C} {qs:List NQ} {rows:List (List GV)} {i:Nat} (r:Rest h c qs rows i) (hb:∀ k ∈ plabs c qs,h'.box k=h.box k):Rest h' c qs rows i:=
 ⟨r.mr.frame fun l hl=>hb l (by simp[plabs,hl]),r.ds,fun j q hj hq=>(r.ow j q hj hq).frame fun l hl=>hb l (Z42 hq hl)⟩
theorem Rest.at {h:HS} {c:C} {qs:List NQ} {rows:List (List GV)} {i:Nat} (r:Rest h c qs rows i) (nd:(plabs c qs).Nodup) (hne:∀ row ∈ rows,row≠[]) (hi:i < rows.length) :
  ∃ lr cap sp x,qs[i]?.map (·.1)=some [x]/\c=.mrow lr 0 rows.length cap/\h.box lr=some (rowBox (qs.map (·.1)) sp)/\takeN 1 ((rowBox (qs.map (·.1)) sp).drop (i * 1))=some [x]/\MR h 3 x (vcells rows[i])/\(∀ k ∈ labs x,k ∈ plabs c qs/\k≠lr) /\
    ∀ h',(∀ k ∈ plabs c qs,k ∉ labs x->h'.box k=h.box k)->Rest h' c qs rows (i+1):=by
 have hlen:qs.length=rows.length:=by have:=congrArg List.length r.ds;simpa using this
 have hq:qs[i]? = some qs[i]:=Y01 (by omega);have ho:=r.ow i _ (Y09 _) hq;have hd:qs[i].2.1=[.sl (rows[i].map GV.enc)]:=by
  have:=congrArg (fun z=>z[i]?) r.ds
  simp only[Y0b,hq,Y01 hi,Y0h,Y06] at this;exact this
 obtain⟨lr,cap,sp,hc,hb,hcap⟩:=r.mr.block (by simp;omega);have h1:qs[i].1.length=1:=r.mr.1 _ (Y0m.2 ⟨_,Y0p _,rfl⟩);obtain⟨x,hx⟩:∃ x,qs[i].1=[x]:=by
  match h9:qs[i].1,h1 with
  | [x],_=>exact⟨x,rfl⟩
 rw[hd,hx] at ho;obtain⟨hm,hls⟩:=ow_row ho (hne _ (Y0p hi));have hlx:∀ k ∈ labs x,k ∈ plabs c qs/\k ∉ labs c:=fun k hk=>⟨Z42 hq (by rw[hls];exact hk),Z4v nd hq (by rw[hls];exact hk)⟩;refine⟨lr,cap,sp,x,by rw[hq,Y0h,hx],by simpa[hlen] using hc,hb,?_,hm,fun k hk=>⟨(hlx k hk).1,fun he=>(hlx k hk).2 (by rw[hc];simp[labs,he])⟩,fun h' hb'=>⟨?_,r.ds,fun j q hj hqj=>?_⟩⟩
 .have:=Z54 (sp:=sp) (f:=0) (m:=1) r.mr.1 (k:=i) (x:=[x]) (by rw[Y0b,hq,Y0h,hx]) (by simp)
  simpa[takeN] using this
 .exact r.mr.frame fun l hl=>hb' l (by simp[plabs,hl]) fun h9=>(hlx l h9).2 hl
 .exact (r.ow j q (by omega) hqj).frame fun l hl=>hb' l (Z42 hqj hl) fun h9=>(Z7p nd hq hqj (by omega) hl).2 (by rw[hls];exact h9)
structure LM (h0 h3:HS) (bs:List (Lab × List C)) (c:C) (qs:List NQ) (rows:List (List GV)) (gs:List (C × List (List GV))) (i:Nat) (h:HS):Prop where
 box:∀ b ∈ bs,h.box b.1=some b.2
 rest:Rest h c qs rows i
 row:∀ g ∈ gs,MR h 1 g.1 (ones (g.2.map rowc))
 same:Same h0 h []
 ep:h3.ep<=h.ep
 lab:∀ g ∈ gs,∀ k ∈ labs g.1,h3.ep<=k.1/\k.1 < h.ep
 dis:(gs.flatMap fun g=>labs g.1).Nodup
 sb:∀ b ∈ bs,b.1.1 < h3.ep/\b.1 ∉ plabs c qs
 sq:∀ k ∈ plabs c qs,h0.ep<=k.1/\k.1 < h3.ep
 nd:(plabs c qs).Nodup
 s0:h0.ep<=h3.ep
 ne:∀ row ∈ rows,row≠[]
theorem LM.new {h0 h3 h h':HS} {bs:List (Lab × List C)} {c:C} {qs:List NQ} {rows:List (List GV)} {gs:List (C × List (List GV))} {i:Nat} (m:LM h0 h3 bs c qs rows gs i h) (hs:Same h h' []):LM h0 h3 bs c qs rows gs i h' where
 box:=fun b hb=>(hs.2 _ (Y04 (m.sb b hb).1 m.ep) (by simp)).trans (m.box b hb)
 rest:=m.rest.frame fun k hk=>hs.2 k (Y04 (m.sq k hk).2 m.ep) (by simp)
 row:=fun g hg=>(m.row g hg).frame fun k hk=>hs.2 k (m.lab g hg k hk).2 (by simp)
 same:=m.same.trans hs
 ep:=Y0y m.ep hs.1
 lab:=fun g hg k hk=>⟨(m.lab g hg k hk).1,Y04 (m.lab g hg k hk).2 hs.1⟩
 dis:=m.dis
 sb:=m.sb
 sq:=m.sq
 nd:=m.nd
 s0:=m.s0
 ne:=m.ne
theorem LM.at {h0 h3 h:HS} {bs:List (Lab × List C)} {c:C} {qs:List NQ} {rows:List (List GV)} {gs:List (C × List (List GV))} {i:Nat} (m:LM h0 h3 bs c qs rows gs i h) (hi:i < rows.length) :
  ∃ lr cap sp x,qs[i]?.map (·.1)=some [x]/\c=.mrow lr 0 rows.length cap/\h.box lr=some (rowBox (qs.map (·.1)) sp)/\takeN 1 ((rowBox (qs.map (·.1)) sp).drop i)=some [x]/\MR h 3 x (vcells rows[i])/\∀ k ∈ labs x,k.1 < h3.ep:=by
 obtain⟨lr,cap,sp,x,hx,h1,h2,h4,h5,h6,h7⟩:=m.rest.at m.nd m.ne hi;exact⟨lr,cap,sp,x,hx,h1,h2,by simpa using h4,h5,fun k hk=>(m.sq k (h6 k hk).1).2⟩
theorem LM.row_at {h0 h3 h:HS} {bs:List (Lab × List C)} {c:C} {qs:List NQ} {rows:List (List GV)} {gs:List (C × List (List GV))} {i:Nat} (m:LM h0 h3 bs c qs rows gs i h) (hi:i < rows.length) {x:C} (hx:qs[i]?.map (·.1)=some [x]):MR h 3 x (vcells rows[i]):=by
 obtain⟨_,_,_,x',hx',_,_,_,h5,_⟩:=m.at hi;rw[hx] at hx';cases hx';exact h5
theorem LM.use {h0 h3 h h':HS} {bs:List (Lab × List C)} {c:C} {qs:List NQ} {rows:List (List GV)} {gs:List (C × List (List GV))} {i:Nat} {x:C} (m:LM h0 h3 bs c qs rows gs i h) (hi:i < rows.length) (hx:qs[i]?.map (·.1)=some [x]) (hs:Same h h' (labs x)):LM h0 h3 bs c qs rows gs (i+1) h':=by
 obtain⟨lr,cap,sp,x',hx',h1,h2,h4,h5,h6,h7⟩:=m.rest.at m.nd m.ne hi;rw[hx] at hx';cases hx';have hg:∀ g ∈ gs,∀ k ∈ labs g.1,k ∉ labs x:=fun g hg k hk h9=>by
  have:=(m.lab g hg k hk).1
  have:=(m.sq k (h6 k h9).1).2
  omega
 exact⟨fun b hb=>(hs.2 _ (Y04 (m.sb b hb).1 m.ep) fun h9=>(m.sb b hb).2 (h6 _ h9).1).trans (m.box b hb),h7 h' fun k hk hn=>hs.2 k (Y04 (m.sq k hk).2 m.ep) hn,
  fun g hgm=>(m.row g hgm).frame fun k hk=>hs.2 k (m.lab g hgm k hk).2 (hg g hgm k hk),m.same.trans' hs fun k hk=>.inr (m.sq k (h6 k hk).1).1,Y0y m.ep hs.1,
  fun g hgm k hk=>⟨(m.lab g hgm k hk).1,Y04 (m.lab g hgm k hk).2 hs.1⟩,m.dis,m.sb,m.sq,m.nd,m.s0,m.ne⟩
theorem LM.skip {h0 h3 h:HS} {bs:List (Lab × List C)} {c:C} {qs:List NQ} {rows:List (List GV)} {gs:List (C × List (List GV))} {i:Nat} (m:LM h0 h3 bs c qs rows gs i h):LM h0 h3 bs c qs rows gs (i+1) h:=
 { m with rest:=⟨m.rest.mr,m.rest.ds,fun j q hj hq=>m.rest.ow j q (by omega) hq⟩ }
theorem LM.set {h0 h3 h h':HS} {bs:List (Lab × List C)} {c c':C} {qs:List NQ} {rows rs':List (List GV)} {gs:List (C × List (List GV))} {i j:Nat} {g:C × List (List GV)} (m:LM h0 h3 bs c qs rows gs i h) (hj:gs[j]? = some g) (hm:MR h' 1 c' (ones (rs'.map rowc))) (hs:Same h h' (labs g.1)) (hl:∀ k ∈ labs c',k ∈ labs g.1\/(h.ep<=k.1/\k.1 < h'.ep)) :
  LM h0 h3 bs c qs rows (gs.set j (c',rs')) i h':=by
 have hgm:=Y03 hj;have hjl:=(Y00.1 hj).1;have hlab:=m.lab g hgm;have hdis:∀ (k1 k2:Nat) (g1 g2:C × List (List GV)),gs[k1]? = some g1->gs[k2]? = some g2->k1≠k2->∀ k ∈ labs g1.1,k ∉ labs g2.1:=by
  have gen:∀ (xs:List (C × List (List GV))),(xs.flatMap fun g=>labs g.1).Nodup->∀ (k1 k2:Nat) (g1 g2:C × List (List GV)),xs[k1]? = some g1->xs[k2]? = some g2->k1≠k2->∀ k ∈ labs g1.1,k ∉ labs g2.1:=by
   intro xs
   induction xs with
   | nil=>intro _ k1 k2 g1 g2 h1;simp at h1
   | cons y ys ih=>
     intro hn k1 k2 g1 g2 h1 h2 hne k hk h9;rw[Y0r,Y0e] at hn;cases k1 with
     | zero=>
       cases k2 with
       | zero=>exact hne rfl
       | succ k2=>
         simp at h1 h2;subst h1;exact hn.2.2 k hk k (Y0w.2 ⟨g2,Y03 h2,h9⟩) rfl
     | succ k1=>
       cases k2 with
       | zero=>
         simp at h1 h2;subst h2;exact hn.2.2 k h9 k (Y0w.2 ⟨g1,Y03 h1,hk⟩) rfl
       | succ k2=>exact ih hn.2.1 k1 k2 g1 g2 (by simpa using h1) (by simpa using h2) (by omega) k hk h9
  exact gen gs m.dis
 have hset:∀ (k1:Nat) (g1:C × List (List GV)),(gs.set j (c',rs'))[k1]? = some g1->(k1=j/\g1=(c',rs'))\/(k1≠j/\gs[k1]? = some g1):=by
  intro k1 g1 h1;rw[Y2s] at h1
  by_cases he:j=k1
  .subst he;simp[hjl] at h1;exact .inl ⟨rfl,h1.symm⟩
  .rw[if_neg he] at h1;exact .inr ⟨fun h9=>he h9.symm,h1⟩
 refine⟨fun b hb=>(hs.2 _ (Y04 (m.sb b hb).1 m.ep) fun h9=>?_).trans (m.box b hb),m.rest.frame fun k hk=>hs.2 k (Y04 (m.sq k hk).2 m.ep) fun h9=>?_,fun g1 hg1=>?_,m.same.trans' hs fun k hk=>.inr ?_,Y0y m.ep hs.1,fun g1 hg1 k hk=>?_,?_,m.sb,m.sq,m.nd,m.s0,m.ne⟩
 .have:=(hlab _ h9).1
  have:=(m.sb b hb).1
  omega
 .have:=(hlab _ h9).1
  have:=(m.sq k hk).2
  omega
 .obtain⟨k1,hk1⟩:=Y1c hg1;rcases hset k1 g1 hk1 with ⟨_,rfl⟩ | ⟨hne,h1⟩
  .exact hm
  .exact (m.row g1 (Y03 h1)).frame fun k hk=>hs.2 k (m.lab g1 (Y03 h1) k hk).2 (hdis k1 j g1 g h1 hj hne k hk)
 .have:=(hlab k hk).1
  have:=m.s0
  omega
 .obtain⟨k1,hk1⟩:=Y1c hg1;rcases hset k1 g1 hk1 with ⟨_,rfl⟩ | ⟨hne,h1⟩
  .rcases hl k hk with h9 | h9
   .exact⟨(hlab k h9).1,Y04 (hlab k h9).2 hs.1⟩
   .exact⟨Y0y m.ep h9.1,h9.2⟩
  .have:=m.lab g1 (Y03 h1) k hk
   exact⟨this.1,Y04 this.2 hs.1⟩
 ·
  have nodup_set:∀ (xs:List (C × List (List GV))) (j:Nat),xs[j]? = some g->(xs.flatMap fun g=>labs g.1).Nodup->(∀ g1 ∈ xs,∀ k ∈ labs g1.1,k.1 < h.ep)->((xs.set j (c',rs')).flatMap fun g=>labs g.1).Nodup/\∀ k ∈ ((xs.set j (c',rs')).flatMap fun g=>labs g.1),k ∈ (xs.flatMap fun g=>labs g.1)\/h.ep<=k.1:=by
   intro xs
   induction xs with
   | nil=>intro j h1;simp at h1
   | cons y ys ih=>
     intro j h1 hn hlt;rw[Y0r,Y0e] at hn;cases j with
     | zero=>
       simp at h1;subst h1;rw[List.set_cons_zero,Y0r,Y0r];refine⟨Y0e.2 ⟨Z1t,hn.2.1,fun a ha b hb he=>?_⟩,fun k hk=>?_⟩
       .subst he;rcases hl a ha with h9 | h9
        .exact hn.2.2 a h9 a hb rfl
        .obtain⟨g1,hg1,hk1⟩:=Y0w.1 hb
         have:=hlt g1 (by simp[hg1]) a hk1
         omega
       .rcases Y02.1 hk with h9 | h9
        .rcases hl k h9 with h8 | h8
         .exact .inl (Y21 _ h8)
         .exact .inr h8.1
        .exact .inl (Y1m _ h9)
     | succ j=>
       rw[List.set_cons_succ,Y0r,Y0r];obtain⟨h3,h4⟩:=ih j (by simpa using h1) hn.2.1 fun g1 hg1=>hlt g1 (by simp[hg1]);refine⟨Y0e.2 ⟨Z1t,h3,fun a ha b hb he=>?_⟩,fun k hk=>?_⟩
       .subst he;rcases h4 a hb with h9 | h9
        .exact hn.2.2 a ha a h9 rfl
        .have:=hlt y (by simp) a ha
         omega
       .rcases Y02.1 hk with h9 | h9
        .exact .inl (Y21 _ h9)
        .exact (h4 k h9).imp (fun h8=>Y1m _ h8) id
  exact (nodup_set gs j hj m.dis fun g1 hg1 k hk=>(m.lab g1 hg1 k hk).2).1
theorem LM.app {P:Program} {ty el:TypeId} {by_ dd:Nat} {h0 h3 h:HS} {bs:List (Lab × List C)} {c xc:C} {qs:List NQ} {rows:List (List GV)} {gs:List (C × List (List GV))} {i:Nat} {g:C × List (List GV)} {row:List GV} {K:V->HS->Prop} (j:Nat) (m:LM h0 h3 bs c qs rows gs i h) (hj:gs[j]? = some g) (hel:elT P ty=some (el,1,by_)) (hz:(zeT P el).isSome=true) (hb:by_<=4096)
  (hr:RowAt h 1 xc [[rowc row]]) (hl:g.2.length+1<=LIM) (hk:∀ c' h',LM h0 h3 bs c qs rows (gs.set j (c',g.2++[row])) i h'->Same h h' (labs g.1)->K (.one c') h'):appK P ty g.1 xc dd h (K:=⟨K⟩):=by
 refine app_mr hel hz (by decide) hb (m.row g (Y03 hj)) hr (by simpa[ones] using hl) fun c' h' hm hs hlb=>?_;exact hk c' h' (m.set hj (by simpa[ones] using hm) hs hlb) hs
end Go.Proofs.YtbcejndfbklikaaGreatDoor
namespace Go.Am
open Go Go.Proofs.YtbcejndfbklikaaGreatDoor
theorem RowAt.rowc {h:HS} {l:Lab} {ds:List (List D)} {row:List GV} (hd:ds=row.map GV.enc):RowAt h 1 (.own l [[.sl ds]]) [[rowc row]]:=by
 subst hd;exact RowAt.own1 rfl
end Go.Am
namespace Go.Proofs.YtbcejndfbklikaaGreatDoor
open Go Go.Am
theorem Z6l {d:Nat} {e:Env} {h:HS} {l:Lab} {co cn c:C} {M:Mp} {t:ByteArray} {rows:List (List GV)} {Kc:Env->HS->Prop} (m:MpAt h l co cn M) (hm:MR h 1 c (ones (rows.map rowc))) (hc:∀ k ∈ labs c,k ∉ l::(labs co++labs cn))
  (hk:∀ h',MpAt h' l co cn { M with out:=setR t rows M.out }->Same h h' (labs c++labs co)->Kc (e.put (some d) (.tup [])) h'):callK Tryz.prog 185 [] [.one (.ptr l 0),.one (.d (.str t)),.one c] d e h (K:=⟨Kc⟩):=by
 have hs:Same h (h.sans (labs c)) (labs c):=⟨Y09 _,fun k _ hn=>by simp only[HS.sans];rw[if_neg hn]⟩;have hfr:∀ k ∈ l::(labs co++labs cn),(h.sans (labs c)).box k=h.box k:=fun k hk1=>by
  simp only[HS.sans];rw[if_neg fun h9=>hc k h9 hk1]
 have m2:MpAt (h.sans (labs c)) l co cn M:=⟨by rw[hfr l (by simp)];exact m.box,m.out.frame fun k hk1=>hfr k (by simp[hk1]),m.nc.frame fun k hk1=>hfr k (by simp[hk1]),m.lt,m.nl⟩;refine Z00 ?_;simp only[Y0g,Y0k];refine HSpec.frz_args (vs':=[.one (.ptr l 0),.one (.d (.str t)),.one (.d (.sl (rows.map (encL GV.enc))))]) (labs c) ⟨.refl,.refl,.inr ⟨_,rfl,Z8k (hm.frame fun k hk1=>by simp only[HS.only];rw[if_pos hk1])⟩,trivial⟩ (Z8w _ l co cn _ M t rows m2 rfl _ fun h' m4 hs4=>?_);exact hk h' m4 ((hs.mono (by simp +contextual)).trans (hs4.mono (by simp +contextual)))
theorem Z6b {d:Nat} {e:Env} {h:HS} {l:Lab} {co cn c:C} {M:Mp} {t:ByteArray} {rows:List (List GV)} {Kc:Env->HS->Prop} (m:MpAt h l co cn M) (hm:MR h 1 c (ones (rows.map rowc))) (hc:∀ k ∈ labs c,k ∉ l::(labs co++labs cn))
  (hk:∀ h',MpAt h' l co cn { M with nc:=setR t rows M.nc }->Same h h' (labs c++labs cn)->Kc (e.put (some d) (.tup [])) h'):callK Tryz.prog 186 [] [.one (.ptr l 0),.one (.d (.str t)),.one c] d e h (K:=⟨Kc⟩):=by
 have hs:Same h (h.sans (labs c)) (labs c):=⟨Y09 _,fun k _ hn=>by simp only[HS.sans];rw[if_neg hn]⟩;have hfr:∀ k ∈ l::(labs co++labs cn),(h.sans (labs c)).box k=h.box k:=fun k hk1=>by
  simp only[HS.sans];rw[if_neg fun h9=>hc k h9 hk1]
 have m2:MpAt (h.sans (labs c)) l co cn M:=⟨by rw[hfr l (by simp)];exact m.box,m.out.frame fun k hk1=>hfr k (by simp[hk1]),m.nc.frame fun k hk1=>hfr k (by simp[hk1]),m.lt,m.nl⟩;refine Z00 ?_;simp only[Y0g,Y0k];refine HSpec.frz_args (vs':=[.one (.ptr l 0),.one (.d (.str t)),.one (.d (.sl (rows.map (encL GV.enc))))]) (labs c) ⟨.refl,.refl,.inr ⟨_,rfl,Z8k (hm.frame fun k hk1=>by simp only[HS.only];rw[if_pos hk1])⟩,trivial⟩ (Z75 _ l co cn _ M t rows m2 rfl _ fun h' m4 hs4=>?_);exact hk h' m4 ((hs.mono (by simp +contextual)).trans (hs4.mono (by simp +contextual)))
theorem Z9z (h:HS) (x:C) (row:List GV) (v:GV) (lv:Lab) (n:Nat) (kk:Int) (hkk:kk=n) (hm:MR h 3 x (vcells row)) (hlb:∀ k ∈ labs x,k.1 < h.ep) (hn:n<=row.length) (ha:h.arr lv=some (1,3)) (hlim:row.length+1<=2097152) (K:V->HS->Prop)
  (hk:∀ h',Same h h' (labs x)->K (.one (.d (.sl ((row.take n++[v]++row.drop n).map GV.enc)))) h') :
  HSpec Tryz.prog 184 [.one x,.one (.d (.int .i64 kk)),.one (.own lv [v.enc])] h K:=by
 subst hkk;refine HSpec.frz_res (Z9f h x (vcells row) lv v.enc n hm hlb (by simpa[vcells] using hn) ha rfl (by simpa[vcells] using hlim) _ fun c' h' hm' hs hl=>?_);refine⟨labs c',.one (.d (.sl ((row.take n++[v]++row.drop n).map GV.enc))),.inr ⟨_,rfl,Zbm (c:=c') ?_⟩,hk _ ⟨hs.1,fun k hk1 hk2=>?_⟩⟩
 .have e1:(vcells row).take n++[v.enc.map C.d]++(vcells row).drop n=vcells (row.take n++[v]++row.drop n):=by simp[vcells,Y30,Y2d]
  rw[e1] at hm';exact hm'.frame fun k hk=>by simp only[HS.only];rw[if_pos hk]
 .have h9:k ∉ labs c':=fun h9=>by
   rcases hl k h9 with h8 | h8
   .exact hk2 h8
   .omega
  simp only[HS.sans];rw[if_neg h9];exact hs.2 k hk1 hk2
theorem Zex (h:HS) (x:C) (row:List GV) (n:Nat) (kk k2:Int) (hkk:kk=n) (hk2:k2=(n+1:Nat)) (hm:MR h 3 x (vcells row)) (hlb:∀ k ∈ labs x,k.1 < h.ep) (hn:n+1<=row.length) (K:V->HS->Prop)
  (hk:∀ h',Same h h' (labs x)->K (.one (.d (.sl ((row.take n++row.drop (n+1)).map GV.enc)))) h') :
  HSpec Tryz.prog 187 [.one x,.one (.d (.int .i64 kk)),.one (.d (.int .i64 k2))] h K:=by
 subst hkk hk2;refine HSpec.frz_res (Z9g h x (vcells row) n (n+1) hm (by omega) (by simpa[vcells] using hn) _ fun c' h' hm' hb hep harr hlab=>?_);refine⟨labs c',.one (.d (.sl ((row.take n++row.drop (n+1)).map GV.enc))),.inr ⟨_,rfl,Zbm (c:=c') ?_⟩,hk _ ⟨by simp[HS.sans,hep],fun k hk1 hk2=>?_⟩⟩
 .have e1:(vcells row).take n++(vcells row).drop (n+1)=vcells (row.take n++row.drop (n+1)):=by simp[vcells,Y30,Y2d]
  rw[e1] at hm';exact hm'.frame fun k hk=>by simp only[HS.only];rw[if_pos hk]
 .have h9:k ∉ labs c':=by rw[hlab];exact hk2
  simp only[HS.sans];rw[if_neg h9];exact hb k hk2
end Go.Proofs.YtbcejndfbklikaaGreatDoor
end
namespace Go.Proofs.YtbcejndfbklikaaGreatDoor
section
open Go Go.Am
theorem Z6v {α:Type} {P:Program} {f:FuncId} {vs:List V} {av:List AV} {d:Nat} {e:Env} {h:HS} {l:Lab} {co cn:C} {M:Mp} {Kc:Env->HS->Prop} {er:α->RV} {m:Option α} {x:α} (hx:Is m x) [i:Con m P f (.one (.rp M.enc)::av) er]
  (hp:MpAt h l co cn M) (has:toAs h vs=some av) (hk:Kc (e.put (some d) ((er x).toV h.ep d)) ((h.addFr d (er x).fr).next)):callK P f [] (.one (.ptr l 0)::vs) d e h (K:=⟨Kc⟩):=by
 obtain⟨cs,hbx,hd⟩:=hp.pre;exact Z00 (by simpa using HSpec.of_pre (K:=fun v h'=>Kc (e.put (some d) v) h') d (i.h x hx) hbx hd has hk)
theorem Za0 {a:Nat} {row:List GV}:RV.flat (.one (.fresh a 3 (row.map GV.enc)))=true:=by
 simp[RV.flat,RV1.flat,RC.flat,D.flat]
def insV {ρ:Type} (st:List GV × Bool) (d:GV) (k:GV->Option ρ):Option ρ:=bif st.2 then getK st.1 0 k else k d
theorem Zld {ρ:Type} {st:List GV × Bool} {d:GV} {k:GV->Option ρ} {r:ρ} (hm:Is (insV st d k) r):∃ v,Is (k v) r/\(st.2=true->st.1[0]? = some v)/\(st.2=false->v=d):=by
 unfold insV at hm;cases hs:st.2 with
 | true=>
   rw[hs] at hm;obtain⟨v,_,hv,hm⟩:=Is.get hm;exact⟨v,hm,fun _=>(by simpa using hv),fun h=>(by cases h)⟩
 | false=>
   rw[hs] at hm;exact⟨d,hm,fun h=>(by cases h),fun _=>rfl⟩
def vne (a b:GV):Bool:=!(a.kind == b.kind) || (!(a.int == b.int) || !(a.text == b.text))
def Z0a (M:Mp):Option Mp:=
 bindK (Z06 M.src M.inp M.step.table) fun q=>bindK (Z02 M.src M.step.table) fun f=>chkK (f.2=true/\RowsOK q.2) <|
 bindK (Z0q M M.step.table) fun T2=>bindK (Z03 T2 M.step.column) fun at_=>
 forK (fun (i:Nat) (row:List GV) (s:List (List GV) × List (List GV)) next=>
  bindK (Z3s q.1 row) fun key=>bindK (Z52 M key) fun st=>insV st M.step.value fun v=>
  chkK (0<=at_.1/\at_.1<=row.length/\row.length+1<=2097152/\key.length+1<=2097152)
   (next (s.1++[row.take at_.1.toNat++[v]++row.drop at_.1.toNat],bif vne v M.step.value then s.2++[key++[v]] else s.2)))
  (fun s=>some { M with out:=setR M.step.table s.1 M.out,nc:=setR M.step.table s.2 M.nc }) q.2 0 ([],[])
theorem Zan (h0:HS) (l:Lab) (co cn:C) (M M1:Mp) (hm:Is (Z0a M) M1) (m:MpAt h0 l co cn M) (K:V->HS->Prop)
  (hK:∀ h',MpAt h' l co cn M1->Same h0 h' (labs co++labs cn)->K (.tup []) h'):HSpec prog 142 [.one (.ptr l 0)] h0 K:=by
 refine HSpec.of_vc Tryz.func142 rfl (by kernel_rfl) (n:=91) rfl rfl (by simp) ?_;unfold Z0a at hm;obtain⟨⟨T,rows⟩,ht,hm⟩:=hm.bind;obtain⟨⟨k,f⟩,hk1,hm⟩:=hm.bind;obtain⟨hfo,hm'⟩:=hm.chk;clear hm;obtain⟨rfl,hok⟩:=hfo;have hm:=hm';clear hm';simp only at hm hok;have hb:=m.box;have hl1:=m.lt l (Y05 ..);have hne:=ne_new hl1;have hne':=Z05 hl1;simp only[mpC,Mp.enc,Stp.enc,Y0d,Y0g,Y0s,Y0v] at hb;simp;refine Wait.cut (Plan.then_ [0,1,2,3,4,5,6,7,8,9,10,11,12] .done) follows (by kernel_rfl) (fun e1 h1=>∃ ld:Lab,e1.n=91/\e1.get 0=.one (.ptr l 0)/\e1.get 2=.one (.d (.str M.step.table))/\e1.get 3=.one (.ptr ld 0)/\h1.box ld=some (M.step.value.enc.map C.d)/\h0.ep<=ld.1/\ld.1 < h1.ep/\Same h0 h1 []) ?_ ?_
 .simp[hb,hne,hne'];refine CutK.of ⟨(h0.ep,48),by simp,by simp,by simp,by simp,by simp,by simp,by simp,?_⟩
  repeat' first | exact Same.refl | apply Same.next | apply Same.setArr | (refine Same.setBox ?_ (.inr (by simp)))
 .rintro e1 h1 ⟨ld,en,e0,e2,e3,bd,hld,hld2,hs1⟩;simp[en,e0,e2,e3];refine Z00 (Z7z _ l co cn M M.step.table T rows (m.frame hs1) ht k hk1 (fun row hr=>(hok.2 row hr).2) _ fun c h2 hg2 hb2=>?_);simp[en,e0,e2,e3];obtain⟨lt_,hlt_⟩:∃ q,q=(h2.ep,64):=⟨_,rfl⟩;obtain⟨T2,hT2,hm⟩:=hm.bind;refine Wait.cut (Plan.then_ [0,1,3,4,5,6,7,2,8,9,10,11,12,13] .done) follows (by kernel_rfl) (fun E3 h3=>∃ at_:Int × Bool,Is (Z03 T2 M.step.column) at_/\E3.n=91/\E3.get 0=.one (.ptr l 0)/\E3.get 2=.one (.d (.str M.step.table))/\E3.get 3=.one (.ptr ld 0)/\E3.get 4=.one (.ptr (h2.ep,64) 0)/\E3.get 5=.one c/\E3.get 6=.one (.d (.int .i64 at_.1)) /\
   h3.box ld=some (M.step.value.enc.map C.d)/\h3.box (h2.ep,64)=some (T.enc.map C.d)/\Same h2 h3 []/\h2.ep < h3.ep/\Same h0 h3 []) ?_ ?_
  .obtain⟨at_,hat,hm⟩:=hm.bind;have hs2:=hs1.trans hg2.same;have m2:=m.frame hs2;have hb2:=m2.box;have bd2:=hg2.same.2 ld hld2 (by simp);rw[bd] at bd2;simp only[mpC,Mp.enc,Stp.enc,Y0d,Y0g,Y0s,Y0v] at hb2;have hl2:=m2.lt l (Y05 ..);have hn2:=ne_new hl2;have hn2':=Z05 hl2;simp[hn2,hn2',en,e0,e2,e3,hb2];refine Z6v hT2 (m2.frame ((Same.refl.setBox (.inr (by simp))).next.setBox (.inr (by simp)))) ?_ ?_
   .simp
   simp[hn2,hn2',en,e0,e2,e3,hb2];refine⟨fun _ _ x=>x,Z08 ((c_schema_FindColumn T2 M.step.column).h at_ hat) (by simp) ?_⟩;simp[hn2,hn2',en,e0,e2,e3,hb2];refine⟨fun _ _ x=>x,CutK.of ⟨at_,hat,by simp[en],by simp[e0,en],by simp[e2,en],by simp[e3,en],by simp[en],by simp[en],by simp[en],?_,by simp,?_,by simp,hs2.trans ?_⟩⟩
   .have hnd:=ne_new (l:=ld) (n:=h2.ep) (Y04 hld2 hg2.same.1);simp[bd2,hnd]
   all_goals repeat' first | exact Same.refl | apply Same.next | apply Same.setArr | (refine Same.setBox ?_ (.inr (by simp)))
  .rintro E3 h3 ⟨at_,hat,en,e0,e2,e3,e4,e5,e6,bd,bt,hs23,hlt3,hs3⟩;obtain⟨at2,hat2,hm⟩:=hm.bind;obtain rfl:at_=at2:=Option.some.inj (hat.symm.trans hat2);simp[en,e0,e2,e3,e4,e5,e6];obtain⟨qs,r0,nd,hlq⟩:=Rest.of hg2;have r3:=r0.frame fun k hk=>hs23.2 k (hlq k hk).2 (by simp);have hqs:qs.length=rows.length:=by have:=congrArg List.length r0.ds;simpa using this
   refine MR.lenK r3.mr ?_;simp[en,e0,e2,e3,e4,e5,e6,hqs];have m3:LM h0 h3 [(ld,M.step.value.enc.map C.d),((h2.ep,64),T.enc.map C.d)] c qs rows [(.nil,[]),(.nil,[])] 0 h3:=
    ⟨by simpa using⟨bd,bt⟩,r3,by simp[ones,MR.nil],hs3,Y09 _,by simp[labs],by simp[labs],?_,fun k hk=>?_,nd,?_,fun row hr=>(hok.2 row hr).1⟩
   .refine Wait.for (xs:=rows) (s0:=([],[])) (fun i s e h'=>∃ cO cC,e.n=91/\e.get 0=.one (.ptr l 0)/\e.get 2=.one (.d (.str M.step.table))/\e.get 3=.one (.ptr ld 0)/\e.get 4=.one (.ptr (h2.ep,64) 0)/\e.get 6=.one (.d (.int .i64 at_.1))/\e.get 8=.one cO/\e.get 9=.one cC/\e.get 44=.one c/\e.get 45=.one (.d (.int .i64 (rows.length:Int)))/\e.get 46=.one (.d (.int .i64 (i:Int))) /\
     LM h0 h3 [(ld,M.step.value.enc.map C.d),((h2.ep,64),T.enc.map C.d)] c qs rows [(cO,s.1),(cC,s.2)] i h'/\s.1.length=i/\s.2.length<=i) hm
     ⟨.nil,.nil,by simp[en],by simp[e0],by simp[e2],by simp[e3],by simp[e4],by simp[e6],by simp,by simp,by simp,by simp,by simp,m3,rfl,by simp⟩ ?_ ?_
    .rintro i s e h' ⟨cO,cC,en,e0,e2,e3,e4,e6,e8,e9,e44,e45,e46,mL,hsO,hsC⟩ hlt hm;have hw:IntKind.i64.wrap ((i:Int)+1)=(i:Int)+1:=Y0a _ (by have:=hok.1;omega);obtain⟨key,hkey,hm⟩:=hm.bind;obtain⟨st,hst,hm⟩:=hm.bind;obtain⟨lr,cap,sp,x,hxq,rfl,hbr,htk,hmx,hlx⟩:=mL.at hlt;have bd:=mL.box _ (Y05 ..);have bt:=mL.box _ (Y0c _ (Y05 ..));have hep:=mL.ep;simp only[GV.enc,Y0d,Y0g,Tbl.enc] at bd bt;simp[en,e0,e2,e3,e4,e6,e8,e9,e44,e45,e46,bd,bt,hlt,hbr,htk];refine Wait.cut (Plan.then_ [0,1,3] (.two 2 4 (Plan.then_ [4,5,6] .done) (Plan.then_ [2,5,6] .done))) follows (by kernel_rfl) (fun e1 h1=>∃ lk l13:Lab,e1.n=91/\e1.get 0=.one (.ptr l 0)/\e1.get 2=.one (.d (.str M.step.table))/\e1.get 3=.one (.ptr ld 0)/\e1.get 4=.one (.ptr (h2.ep,64) 0)/\e1.get 6=.one (.d (.int .i64 at_.1))/\e1.get 8=.one cO/\e1.get 9=.one cC/\e1.get 11=.one x/\e1.get 44=.one (.mrow lr 0 rows.length cap)/\e1.get 45=.one (.d (.int .i64 (rows.length:Int)))/\e1.get 46=.one (.d (.int .i64 (i:Int))) /\
      e1.get 12=.one (.own lk (key.map GV.enc))/\h1.arr lk=some (key.length,3)/\lk.1 < h1.ep/\e1.get 13=.one (.ptr l13 0)/\h1.box l13=some (M.step.value.enc.map C.d)/\h'.ep<=l13.1/\l13.1 < h1.ep/\Same h' h1 []) ?_ ?_
     .simp[en,e0,e2,e3,e4,e6,e8,e9,e44,e45,e46,bd,bt];refine⟨?_,?_⟩
      .refine Z00 (HSpec.of_lend ((c_relation_Key T rows[i]).h key hkey) ⟨.agg (FrzCs.datas (ds:=T.enc)),.one (.frz (Zbm hmx)),trivial⟩ Za0 ?_);simp[en,e0,e2,e3,e4,e6,e8,e9,e44,e45,e46,bd,bt];refine⟨fun _ _ x=>x,CutK.of ⟨(h'.ep,1),(h'.ep+1,208),by simp[en],by simp[e0,en],by simp[e2,en],by simp[e3,en],by simp[e4,en],by simp[e6,en],by simp[e8,en],by simp[e9,en],by simp[en],by simp[e44,en],by simp[e45,en],by simp[e46,en],by simp[en],by simp,by simp,by simp[en],by simp,by simp,by simp,?_⟩⟩
       repeat' first | exact Same.refl | apply Same.next | apply Same.setArr | (refine Same.setBox ?_ (.inr (by simp)))
      .refine Z00 (HSpec.of_lend ((c_relation_Key T rows[i]).h key hkey) ⟨.agg (FrzCs.datas (ds:=T.enc)),.one (.frz (Zbm (hmx.frame fun k hk=>?_))),trivial⟩ Za0 ?_)
       .have:=ne_new (l:=k) (n:=h'.ep) (Y04 (hlx k hk) hep)
        simp[this]
       simp[en,e0,e2,e3,e4,e6,e8,e9,e44,e45,e46,bd,bt]
       first | refine⟨fun _ _ x=>x,CutK.of ?_⟩ | refine CutK.of ?_
       refine⟨(h'.ep+1,1),(h'.ep,208),by simp[en],by simp[e0,en],by simp[e2,en],by simp[e3,en],by simp[e4,en],by simp[e6,en],by simp[e8,en],by simp[e9,en],by simp[en],by simp[e44,en],by simp[e45,en],by simp[e46,en],by simp[en],by simp,by simp,by simp[en],by simp,by simp,by simp,?_⟩
       repeat' first | exact Same.refl | apply Same.next | apply Same.setArr | (refine Same.setBox ?_ (.inr (by simp)))
     .rintro e1 h1 ⟨lk,l13,en,e0,e2,e3,e4,e6,e8,e9,e11,e44,e45,e46,e12,hak,hlk,e13,b13,hl13,hl13',hs5⟩;have m1:=mL.new hs5;have bd1:=m1.box _ (Y05 ..);have bt1:=m1.box _ (Y0c _ (Y05 ..));have hn13:(ld=l13)=False:=eq_false (by rintro rfl;have:=(mL.sb _ (Y05 ..)).1;simp at this;omega);have hn13t:((h2.ep,64)=l13)=False:=eq_false (by rintro rfl;have:=(mL.sb _ (Y0c _ (Y05 ..))).1;simp at this hl13;omega);simp only[GV.enc,Y0d,Y0g,Tbl.enc] at bd1 bt1 b13;simp[en,e0,e2,e3,e4,e6,e8,e9,e11,e44,e45,e46,e12,e13];refine Z6v hst (m.frame m1.same) ?_ ?_
      .simp
      simp[en,e0,e2,e3,e4,e6,e8,e9,e11,e44,e45,e46,e12,e13];obtain⟨v,hm',hvT,hvF⟩:=Zld hm;clear hm;obtain⟨hck,hm⟩:=Is.chk hm';clear hm';obtain⟨ha0,ha1,ha2,ha3⟩:=hck;have hn:at_.1=(at_.1.toNat:Int):=by omega
      have hr1:=hok.1;have hnk:=ne_new hlk;have hn':at_.1.toNat<=rows[i].length:=by omega
      refine Z79 (fun hc=>?_) (fun hc=>?_)
      .have hv:=hvT hc;simp[en,e0,e2,e3,e4,e6,e8,e9,e11,e44,e45,e46,e12,e13,hv,b13,bd1,bt1,hn13,hn13t];refine Z79 (fun hc2=>?_) (fun hc2=>?_)
       .have hv2:vne v M.step.value=true:=hc2;rw[hv2] at hm;simp[en,e0,e2,e3,e4,e6,e8,e9,e11,e44,e45,e46,e12,e13,b13,bd1,bt1,hn13,hn13t];refine Z8b (xs:=key.map GV.enc) (ys:=[v.enc]) Z4y (Grows.own (by simp[hak,hnk]) (by simp;omega) (by intro y hy;obtain⟨z,_,rfl⟩:=Y0m.1 hy;rfl)) rfl (by decide) (by decide) (by simp) (by simp;omega) ?_;simp[en,e0,e2,e3,e4,e6,e8,e9,e11,e44,e45,e46,e12,e13,b13,bd1,bt1,hn13,hn13t];refine LM.app 1 (mL.new ?_) rfl Z3e (by kernel_rfl) (by decide) (row:=key++[v]) (RowAt.rowc (by simp)) (by simp;omega) fun c' h7 m7 hs7=>?_
        .repeat' first | exact hs5 | exact Same.refl | apply Same.next | apply Same.setArr | (refine Same.setBox ?_ (.inr hl13))
        have b7:=hs7.2 l13 (by simp;omega) (fun h9=>by have:=(mL.lab _ (Y0c _ (Y05 ..)) l13 h9).2;omega);simp[b13] at b7;simp[en,e0,e2,e3,e4,e6,e8,e9,e11,e44,e45,e46,e12,e13,b7,bd1,bt1,hn13,hn13t];refine Z00 (Z9z _ x rows[i] v _ at_.1.toNat _ hn ((LM.new m7 ?_).row_at hlt hxq) (fun k hk=>?_) hn' ?_ ha2 _ fun h9 hs9=>?_)
        ·  repeat' first | exact hs5 | exact Same.refl | apply Same.next | apply Same.setArr | (refine Same.setBox ?_ (.inr hl13))
        ·  have:=hlx k hk
           have:=m7.ep
           simp at this |-;omega
        ·  simp
        have m9:=(LM.new m7 ?_).use hlt hxq hs9;rotate_left
        ·  repeat' first | exact hs5 | exact Same.refl | apply Same.next | apply Same.setArr | (refine Same.setBox ?_ (.inr hl13))
        simp[en,e0,e2,e3,e4,e6,e8,e9,e11,e44,e45,e46,e12,e13,bd1,bt1,hn13,hn13t,hw];refine LM.app 0 (m9.new ?_) rfl Z3e (by kernel_rfl) (by decide) (row:=rows[i].take at_.1.toNat++[v]++rows[i].drop at_.1.toNat) (RowAt.rowc (by simp)) (by simp;omega) fun c2 h10 m10 hs10=>?_
        ·  repeat' first | exact hs5 | exact Same.refl | apply Same.next | apply Same.setArr | (refine Same.setBox ?_ (.inr hl13))
        simp[en,e0,e2,e3,e4,e6,e8,e9,e11,e44,e45,e46,e12,e13,bd1,bt1,hn13,hn13t,hw];refine BackF.of (s.1++[rows[i].take at_.1.toNat++[v]++rows[i].drop at_.1.toNat],s.2++[key++[v]]) ⟨⟨c2,c',by simp[en],by simp[e0],by simp[e2],by simp[e3],by simp[e4],by simp[e6],by simp,by simp[e9],by simp[e44],by simp[e45],by simp,m10,by simp[hsO],?_⟩,hm⟩
        ·  simp;omega
       .have hv2:vne v M.step.value=false:=hc2;rw[hv2] at hm;have m7:LM h0 h3 [(ld,M.step.value.enc.map C.d),((h2.ep,64),T.enc.map C.d)] (.mrow lr 0 rows.length cap) qs rows [(cO,s.1),(cC,s.2)] i (h1.next.setBox l13 (v.enc.map C.d)):=mL.new ?_;rotate_left
        .repeat' first | exact hs5 | exact Same.refl | apply Same.next | apply Same.setArr | (refine Same.setBox ?_ (.inr hl13))
        simp[en,e0,e2,e3,e4,e6,e8,e9,e11,e44,e45,e46,e12,e13,b13,bd1,bt1,hn13,hn13t];refine Z00 (Z9z _ x rows[i] v _ at_.1.toNat _ hn ((LM.new m7 ?_).row_at hlt hxq) (fun k hk=>?_) hn' ?_ ha2 _ fun h9 hs9=>?_)
        ·  repeat' first | exact hs5 | exact Same.refl | apply Same.next | apply Same.setArr | (refine Same.setBox ?_ (.inr hl13))
        ·  have:=hlx k hk
           have:=m7.ep
           simp at this |-;omega
        ·  simp
        have m9:=(LM.new m7 ?_).use hlt hxq hs9;rotate_left
        ·  repeat' first | exact hs5 | exact Same.refl | apply Same.next | apply Same.setArr | (refine Same.setBox ?_ (.inr hl13))
        simp[en,e0,e2,e3,e4,e6,e8,e9,e11,e44,e45,e46,e12,e13,bd1,bt1,hn13,hn13t,hw];refine LM.app 0 (m9.new ?_) rfl Z3e (by kernel_rfl) (by decide) (row:=rows[i].take at_.1.toNat++[v]++rows[i].drop at_.1.toNat) (RowAt.rowc (by simp)) (by simp;omega) fun c2 h10 m10 hs10=>?_
        ·  repeat' first | exact hs5 | exact Same.refl | apply Same.next | apply Same.setArr | (refine Same.setBox ?_ (.inr hl13))
        simp[en,e0,e2,e3,e4,e6,e8,e9,e11,e44,e45,e46,e12,e13,bd1,bt1,hn13,hn13t,hw];refine BackF.of (s.1++[rows[i].take at_.1.toNat++[v]++rows[i].drop at_.1.toNat],s.2) ⟨⟨c2,cC,by simp[en],by simp[e0],by simp[e2],by simp[e3],by simp[e4],by simp[e6],by simp,by simp[e9],by simp[e44],by simp[e45],by simp,m10,by simp[hsO],?_⟩,hm⟩
        ·  simp;omega
      .have hv:=hvF hc;rw[<- hv] at b13;simp[en,e0,e2,e3,e4,e6,e8,e9,e11,e44,e45,e46,e12,e13,b13,bd1,bt1,hn13,hn13t];refine Z79 (fun hc2=>?_) (fun hc2=>?_)
       .have hv2:vne v M.step.value=true:=hc2;rw[hv2] at hm;simp[en,e0,e2,e3,e4,e6,e8,e9,e11,e44,e45,e46,e12,e13,b13,bd1,bt1,hn13,hn13t];refine Z8b (xs:=key.map GV.enc) (ys:=[v.enc]) Z4y (Grows.own (by simp[hak,hnk]) (by simp;omega) (by intro y hy;obtain⟨z,_,rfl⟩:=Y0m.1 hy;rfl)) rfl (by decide) (by decide) (by simp) (by simp;omega) ?_;simp[en,e0,e2,e3,e4,e6,e8,e9,e11,e44,e45,e46,e12,e13,b13,bd1,bt1,hn13,hn13t];refine LM.app 1 (mL.new ?_) rfl Z3e (by kernel_rfl) (by decide) (row:=key++[v]) (RowAt.rowc (by simp)) (by simp;omega) fun c' h7 m7 hs7=>?_
        .repeat' first | exact hs5 | exact Same.refl | apply Same.next | apply Same.setArr | (refine Same.setBox ?_ (.inr hl13))
        have b7:=hs7.2 l13 (by simp;omega) (fun h9=>by have:=(mL.lab _ (Y0c _ (Y05 ..)) l13 h9).2;omega);simp[b13] at b7;simp[en,e0,e2,e3,e4,e6,e8,e9,e11,e44,e45,e46,e12,e13,b7,bd1,bt1,hn13,hn13t];refine Z00 (Z9z _ x rows[i] v _ at_.1.toNat _ hn ((LM.new m7 ?_).row_at hlt hxq) (fun k hk=>?_) hn' ?_ ha2 _ fun h9 hs9=>?_)
        ·  repeat' first | exact hs5 | exact Same.refl | apply Same.next | apply Same.setArr | (refine Same.setBox ?_ (.inr hl13))
        ·  have:=hlx k hk
           have:=m7.ep
           simp at this |-;omega
        ·  simp
        have m9:=(LM.new m7 ?_).use hlt hxq hs9;rotate_left
        ·  repeat' first | exact hs5 | exact Same.refl | apply Same.next | apply Same.setArr | (refine Same.setBox ?_ (.inr hl13))
        simp[en,e0,e2,e3,e4,e6,e8,e9,e11,e44,e45,e46,e12,e13,bd1,bt1,hn13,hn13t,hw];refine LM.app 0 (m9.new ?_) rfl Z3e (by kernel_rfl) (by decide) (row:=rows[i].take at_.1.toNat++[v]++rows[i].drop at_.1.toNat) (RowAt.rowc (by simp)) (by simp;omega) fun c2 h10 m10 hs10=>?_
        ·  repeat' first | exact hs5 | exact Same.refl | apply Same.next | apply Same.setArr | (refine Same.setBox ?_ (.inr hl13))
        simp[en,e0,e2,e3,e4,e6,e8,e9,e11,e44,e45,e46,e12,e13,bd1,bt1,hn13,hn13t,hw];refine BackF.of (s.1++[rows[i].take at_.1.toNat++[v]++rows[i].drop at_.1.toNat],s.2++[key++[v]]) ⟨⟨c2,c',by simp[en],by simp[e0],by simp[e2],by simp[e3],by simp[e4],by simp[e6],by simp,by simp[e9],by simp[e44],by simp[e45],by simp,m10,by simp[hsO],?_⟩,hm⟩
        ·  simp;omega
       .have hv2:vne v M.step.value=false:=hc2;rw[hv2] at hm;have m7:LM h0 h3 [(ld,M.step.value.enc.map C.d),((h2.ep,64),T.enc.map C.d)] (.mrow lr 0 rows.length cap) qs rows [(cO,s.1),(cC,s.2)] i h1.next:=mL.new ?_;rotate_left
        .repeat' first | exact hs5 | exact Same.refl | apply Same.next | apply Same.setArr | (refine Same.setBox ?_ (.inr hl13))
        simp[en,e0,e2,e3,e4,e6,e8,e9,e11,e44,e45,e46,e12,e13,b13,bd1,bt1,hn13,hn13t];refine Z00 (Z9z _ x rows[i] v _ at_.1.toNat _ hn ((LM.new m7 ?_).row_at hlt hxq) (fun k hk=>?_) hn' ?_ ha2 _ fun h9 hs9=>?_)
        ·  repeat' first | exact hs5 | exact Same.refl | apply Same.next | apply Same.setArr | (refine Same.setBox ?_ (.inr hl13))
        ·  have:=hlx k hk
           have:=m7.ep
           simp at this |-;omega
        ·  simp
        have m9:=(LM.new m7 ?_).use hlt hxq hs9;rotate_left
        ·  repeat' first | exact hs5 | exact Same.refl | apply Same.next | apply Same.setArr | (refine Same.setBox ?_ (.inr hl13))
        simp[en,e0,e2,e3,e4,e6,e8,e9,e11,e44,e45,e46,e12,e13,bd1,bt1,hn13,hn13t,hw];refine LM.app 0 (m9.new ?_) rfl Z3e (by kernel_rfl) (by decide) (row:=rows[i].take at_.1.toNat++[v]++rows[i].drop at_.1.toNat) (RowAt.rowc (by simp)) (by simp;omega) fun c2 h10 m10 hs10=>?_
        ·  repeat' first | exact hs5 | exact Same.refl | apply Same.next | apply Same.setArr | (refine Same.setBox ?_ (.inr hl13))
        simp[en,e0,e2,e3,e4,e6,e8,e9,e11,e44,e45,e46,e12,e13,bd1,bt1,hn13,hn13t,hw];refine BackF.of (s.1++[rows[i].take at_.1.toNat++[v]++rows[i].drop at_.1.toNat],s.2) ⟨⟨c2,cC,by simp[en],by simp[e0],by simp[e2],by simp[e3],by simp[e4],by simp[e6],by simp,by simp[e9],by simp[e44],by simp[e45],by simp,m10,by simp[hsO],?_⟩,hm⟩
        ·  simp;omega
    .rintro s e h' ⟨cO,cC,en,e0,e2,e3,e4,e6,e8,e9,e44,e45,e46,mL,hsO,hsC⟩ hm;obtain rfl:=r_ret hm;simp[en,e0,e2,e3,e4,e6,e8,e9,e44,e45,e46];have hmo:∀ k ∈ l::(labs co++labs cn),k.1 < h0.ep:=m.lt;have h03:=hs3.1;have hgl:=mL.lab;have hO:∀ k ∈ labs cO,h3.ep<=k.1/\k.1 < h'.ep:=hgl _ (Y05 ..);have hC:∀ k ∈ labs cC,h3.ep<=k.1/\k.1 < h'.ep:=hgl _ (Y0c _ (Y05 ..));have hdis:∀ k ∈ labs cC,k ∉ labs cO:=fun k hk h9=>by
      have:=mL.dis
      simp only[Y0r,Y26,Y0k] at this;exact (Y0e.1 this).2.2 k h9 k hk rfl
     refine Z6l (m.frame mL.same) (mL.row _ (Y05 ..)) (fun k hk h9=>by have:=hmo k h9;have:=(hO k hk).1;omega) fun h4 m4 hs4=>?_;simp[en,e0,e2,e3,e4,e6,e8,e9,e44,e45,e46];refine Z6b m4 ((mL.row _ (Y0c _ (Y05 ..))).frame fun k hk=>hs4.2 k (hC k hk).2 fun h9=>?_) (fun k hk h9=>by have:=hmo k h9;have:=(hC k hk).1;omega) fun h5 m5 hs5=>?_
     .rcases Y02.1 h9 with h8 | h8
      .exact hdis k hk h8
      .have:=hmo k (by simp[h8])
       have:=(hC k hk).1
       omega
     simp[en,e0,e2,e3,e4,e6,e8,e9,e44,e45,e46];refine hK h5 m5 (Same.trans' (Same.trans' (mL.same.mono (by simp)) hs4 fun k hk=>?_) hs5 fun k hk=>?_)
     .rcases Y02.1 hk with h8 | h8
      .exact .inr (by have:=(hO k h8).1;omega)
      .exact .inl (by simp[h8])
     .rcases Y02.1 hk with h8 | h8
      .exact .inr (by have:=(hC k h8).1;omega)
      .exact .inl (by simp[h8])
   .intro b hb;simp at hb;rcases hb with rfl | rfl
    .have h12:=hg2.same.1;have h23:=hs23.1;refine⟨by simp;omega,fun h9=>?_⟩
     have:=(hlq _ h9).1
     simp at this;omega
    .refine⟨by simp;omega,fun h9=>?_⟩
     have:=(hlq _ h9).2
     simp at this
   .have:=hlq k hk
    have:=hs1.1
    omega
   .have:=hs3.1
    omega
instance c_lens_mapping__insertColumn (M:Mp):ConM (Z0a M) M (fun r=>r) prog 142 [] (fun _=>.tup []):=⟨by
 intro r hm h l co cn vs K hp has hK;obtain rfl:=Zfi has;exact Zan h l co cn M r hm hp K hK⟩
def Z09 (M:Mp):Option Mp:=
 bindK (Z06 M.src M.inp M.step.table) fun q=>bindK (Z02 M.src M.step.table) fun f=>chkK (f.2=true/\RowsOK q.2) <|
 bindK (Z03 q.1 M.step.column) fun at_=>
 forK (fun (i:Nat) (row:List GV) (s:List (List GV) × List (List GV)) next=>getK row at_.1 fun v=>
  bif vne v M.step.value then bindK (Z3s q.1 row) fun key=>chkK (key.length+1<=2097152) (next (s.1++[row.take at_.1.toNat++row.drop (at_.1.toNat+1)],s.2++[key++[v]]))
  else next (s.1++[row.take at_.1.toNat++row.drop (at_.1.toNat+1)],s.2))
  (fun s=>some { M with out:=setR M.step.table s.1 M.out,nc:=setR M.step.table s.2 M.nc }) q.2 0 ([],[])
theorem Zam (h0:HS) (l:Lab) (co cn:C) (M M1:Mp) (hm:Is (Z09 M) M1) (m:MpAt h0 l co cn M) (K:V->HS->Prop)
  (hK:∀ h',MpAt h' l co cn M1->Same h0 h' (labs co++labs cn)->K (.tup []) h'):HSpec prog 143 [.one (.ptr l 0)] h0 K:=by
 refine HSpec.of_vc Tryz.func143 rfl (by kernel_rfl) (n:=79) rfl rfl (by simp) ?_;unfold Z09 at hm;obtain⟨⟨T,rows⟩,ht,hm⟩:=hm.bind;obtain⟨⟨k,f⟩,hk1,hm⟩:=hm.bind;obtain⟨hfo,hm'⟩:=hm.chk;clear hm;obtain⟨rfl,hok⟩:=hfo;have hm:=hm';clear hm';simp only at hm hok;have hb:=m.box;have hl1:=m.lt l (Y05 ..);have hne:=ne_new hl1;have hne':=Z05 hl1;simp only[mpC,Mp.enc,Stp.enc,Y0d,Y0g,Y0s,Y0v] at hb;simp;refine Wait.cut (Plan.then_ [0,1,2,3,4,5,6,7,8,9,10,11,12] .done) follows (by kernel_rfl) (fun e1 h1=>∃ ld:Lab,e1.n=79/\e1.get 0=.one (.ptr l 0)/\e1.get 2=.one (.d (.str M.step.table))/\e1.get 3=.one (.ptr ld 0)/\h1.box ld=some (M.step.value.enc.map C.d)/\h0.ep<=ld.1/\ld.1 < h1.ep/\Same h0 h1 []) ?_ ?_
 .simp[hb,hne,hne'];refine CutK.of ⟨(h0.ep,48),by simp,by simp,by simp,by simp,by simp,by simp,by simp,?_⟩
  repeat' first | exact Same.refl | apply Same.next | apply Same.setArr | (refine Same.setBox ?_ (.inr (by simp)))
 .rintro e1 h1 ⟨ld,en,e0,e2,e3,bd,hld,hld2,hs1⟩;simp[en,e0,e2,e3];refine Z00 (Z7z _ l co cn M M.step.table T rows (m.frame hs1) ht k hk1 (fun row hr=>(hok.2 row hr).2) _ fun c h2 hg2 hb2=>?_);simp[en,e0,e2,e3];refine Wait.cut (Plan.then_ [0,1,2,3,4,5,6,7,8,9,10,11] .done) follows (by kernel_rfl) (fun E3 h3=>∃ at_:Int × Bool,Is (Z03 T M.step.column) at_/\E3.n=79/\E3.get 0=.one (.ptr l 0)/\E3.get 2=.one (.d (.str M.step.table))/\E3.get 3=.one (.ptr ld 0)/\E3.get 4=.one (.ptr (h2.ep,64) 0)/\E3.get 5=.one c/\E3.get 6=.one (.d (.int .i64 at_.1)) /\
   h3.box ld=some (M.step.value.enc.map C.d)/\h3.box (h2.ep,64)=some (T.enc.map C.d)/\Same h2 h3 []/\h2.ep < h3.ep/\Same h0 h3 []) ?_ ?_
  .obtain⟨at_,hat,hm⟩:=hm.bind;have hs2:=hs1.trans hg2.same;have m2:=m.frame hs2;have hb2:=m2.box;have bd2:=hg2.same.2 ld hld2 (by simp);rw[bd] at bd2;simp only[mpC,Mp.enc,Stp.enc,Y0d,Y0g,Y0s,Y0v] at hb2;have hl2:=m2.lt l (Y05 ..);have hn2:=ne_new hl2;have hn2':=Z05 hl2;simp[hn2,hn2',en,e0,e2,e3,hb2];refine Z08 ((c_schema_FindColumn T M.step.column).h at_ hat) (by simp) ?_;simp[hn2,hn2',en,e0,e2,e3,hb2]
   first | refine⟨fun _ _ x=>x,CutK.of ?_⟩ | refine CutK.of ?_
   refine⟨at_,hat,by simp[en],by simp[e0,en],by simp[e2,en],by simp[e3,en],by simp[en],by simp[en],by simp[en],?_,by simp,?_,by simp,hs2.trans ?_⟩
   .have hnd:=ne_new (l:=ld) (n:=h2.ep) (Y04 hld2 hg2.same.1);simp[bd2,hnd]
   all_goals repeat' first | exact Same.refl | apply Same.next | apply Same.setArr | (refine Same.setBox ?_ (.inr (by simp)))
  .rintro E3 h3 ⟨at_,hat,en,e0,e2,e3,e4,e5,e6,bd,bt,hs23,hlt3,hs3⟩;obtain⟨at2,hat2,hm⟩:=hm.bind;obtain rfl:at_=at2:=Option.some.inj (hat.symm.trans hat2);simp[en,e0,e2,e3,e4,e5,e6];obtain⟨qs,r0,nd,hlq⟩:=Rest.of hg2;have r3:=r0.frame fun k hk=>hs23.2 k (hlq k hk).2 (by simp);have hqs:qs.length=rows.length:=by have:=congrArg List.length r0.ds;simpa using this
   refine MR.lenK r3.mr ?_;simp[en,e0,e2,e3,e4,e5,e6,hqs];have m3:LM h0 h3 [(ld,M.step.value.enc.map C.d),((h2.ep,64),T.enc.map C.d)] c qs rows [(.nil,[]),(.nil,[])] 0 h3:=
    ⟨by simpa using⟨bd,bt⟩,r3,by simp[ones,MR.nil],hs3,Y09 _,by simp[labs],by simp[labs],?_,fun k hk=>?_,nd,?_,fun row hr=>(hok.2 row hr).1⟩
   .refine Wait.for (xs:=rows) (s0:=([],[])) (fun i s e h'=>∃ cO cC,e.n=79/\e.get 0=.one (.ptr l 0)/\e.get 2=.one (.d (.str M.step.table))/\e.get 3=.one (.ptr ld 0)/\e.get 4=.one (.ptr (h2.ep,64) 0)/\e.get 6=.one (.d (.int .i64 at_.1))/\e.get 8=.one cO/\e.get 9=.one cC/\e.get 38=.one c/\e.get 39=.one (.d (.int .i64 (rows.length:Int)))/\e.get 40=.one (.d (.int .i64 (i:Int))) /\
     LM h0 h3 [(ld,M.step.value.enc.map C.d),((h2.ep,64),T.enc.map C.d)] c qs rows [(cO,s.1),(cC,s.2)] i h'/\s.1.length=i/\s.2.length<=i) hm
     ⟨.nil,.nil,by simp[en],by simp[e0],by simp[e2],by simp[e3],by simp[e4],by simp[e6],by simp,by simp,by simp,by simp,by simp,m3,rfl,by simp⟩ ?_ ?_
    .rintro i s e h' ⟨cO,cC,en,e0,e2,e3,e4,e6,e8,e9,e38,e39,e40,mL,hsO,hsC⟩ hlt hm;have hw:IntKind.i64.wrap ((i:Int)+1)=(i:Int)+1:=Y0a _ (by have:=hok.1;omega);obtain⟨v,ha0,hv,hm⟩:=hm.get;obtain⟨lr,cap,sp,x,hxq,rfl,hbr,htk,hmx,hlx⟩:=mL.at hlt;have bd:=mL.box _ (Y05 ..);have bt:=mL.box _ (Y0c _ (Y05 ..));have hep:=mL.ep;simp only[GV.enc,Y0d,Y0g,Tbl.enc] at bd bt;have hn:at_.1=(at_.1.toNat:Int):=by omega
     obtain⟨n,hnn⟩:∃ n:Nat,n=at_.1.toNat:=⟨_,rfl⟩;rw[<- hnn] at hn hv;have hnl:n < rows[i].length:=(Y00.1 hv).1;obtain⟨lx,capx,spx,hxe,hbx,hcapx⟩:=hmx.block (by rw[vcells,Y0z,Y0z];omega);have hvx:(vcells rows[i])[n]? = some (v.enc.map C.d):=by rw[vcells,Y0b,Y0b,hv];rfl
     have htx:=Z54 (sp:=spx) (f:=0) (m:=3) hmx.1 hvx (by simp);have htx2:takeN 3 ((v.enc.map C.d).drop 0)=some (v.enc.map C.d):=by simp[takeN]
     rw[htx2,Y1q] at htx;have hxl:(vcells rows[i]).length=rows[i].length:=by simp[vcells]
     rw[hxl] at hxe;simp only[GV.enc,Y0d,Y0g] at htx;obtain⟨z,hz⟩:∃ z,z=rowBox (vcells rows[i]) spx:=⟨_,rfl⟩;rw[<- hz] at htx hbx;have hr1:=hok.1;have hr2:=(hok.2 _ (Y0p hlt)).2;have hw2:IntKind.i64.wrap (at_.1+1)=at_.1+1:=Y0a _ (by omega);have hi0:(0:Int)<=at_.1:=ha0;simp[en,e0,e2,e3,e4,e6,e8,e9,e38,e39,e40,bd,bt,hlt,hbr,htk];refine Wait.cut (Plan.then_ [0,1,2,3,4,5] .done) follows (by kernel_rfl) (fun e1 h1=>h1=h'/\e1.n=79/\e1.get 0=.one (.ptr l 0)/\e1.get 2=.one (.d (.str M.step.table))/\e1.get 3=.one (.ptr ld 0)/\e1.get 4=.one (.ptr (h2.ep,64) 0)/\e1.get 6=.one (.d (.int .i64 at_.1))/\e1.get 8=.one cO/\e1.get 9=.one cC/\e1.get 11=.one x/\e1.get 38=.one (.mrow lr 0 rows.length cap)/\e1.get 39=.one (.d (.int .i64 (rows.length:Int)))/\e1.get 40=.one (.d (.int .i64 (i:Int))) /\
      e1.get 49=.one (.d (.bool (vne v M.step.value)))) ?_ ?_
     .simp[en,e0,e2,e3,e4,e6,e8,e9,e38,e39,e40,bd,bt,hxe,hbx,hn,hnl,htx];refine CutK.of ⟨rfl,?_⟩;simp[en,e0,e2,e3,e4,e6,e8,e9,e38,e39,e40,hxe,hn,vne]
     .rintro e1 h1 ⟨rfl,en,e0,e2,e3,e4,e6,e8,e9,e11,e38,e39,e40,e49⟩;simp[en,e0,e2,e3,e4,e6,e8,e9,e38,e39,e40,e11,e49];refine r_cond hm ?_ ?_<;>clear hm<;>intro hc hm
      .obtain⟨key,hkey,hm⟩:=hm.bind;obtain⟨hkl,hm⟩:=hm.chk;simp[en,e0,e2,e3,e4,e6,e8,e9,e38,e39,e40,e11,e49];refine Wait.cut (Plan.then_ [0,1,2,4,5,6,7] (.two 3 8 (Plan.then_ [8,9,10,11,12] .done) (Plan.then_ [3,9,10,11,12] .done))) follows (by kernel_rfl) (fun e2 h2'=>∃ c',e2.n=79/\e2.get 0=.one (.ptr l 0)/\e2.get 2=.one (.d (.str M.step.table))/\e2.get 3=.one (.ptr ld 0)/\e2.get 4=.one (.ptr (h2.ep,64) 0)/\e2.get 6=.one (.d (.int .i64 at_.1))/\e2.get 8=.one cO/\e2.get 9=.one c'/\e2.get 11=.one x/\e2.get 38=.one (.mrow lr 0 rows.length cap)/\e2.get 39=.one (.d (.int .i64 (rows.length:Int)))/\e2.get 40=.one (.d (.int .i64 (i:Int))) /\
        LM h0 h3 [(ld,M.step.value.enc.map C.d),((h2.ep,64),T.enc.map C.d)] (.mrow lr 0 rows.length cap) qs rows [(cO,s.1),(c',s.2++[key++[v]])] i h2') ?_ ?_
       .simp[en,e0,e2,e3,e4,e6,e8,e9,e38,e39,e40,e11,bd,bt,hxe,hbx,hn,hnl,htx];refine⟨?_,?_⟩
        .refine Z00 (HSpec.of_lend ((c_relation_Key T rows[i]).h key hkey) ⟨.agg (FrzCs.datas (ds:=T.enc)),.one (.frz (by rw[<- hxe];exact Zbm hmx)),trivial⟩ Za0 ?_);simp[en,e0,e2,e3,e4,e6,e8,e9,e38,e39,e40,e11,bd,bt];refine⟨fun _ _ x=>x,?_⟩;refine Z8b (xs:=key.map GV.enc) (ys:=[v.enc]) Z4y (Grows.own (by simp) (by simp) (by intro y hy;obtain⟨z,_,rfl⟩:=Y0m.1 hy;rfl)) rfl (by decide) (by decide) (by simp) (by simp;omega) ?_;simp[en,e0,e2,e3,e4,e6,e8,e9,e38,e39,e40,e11,bd,bt];refine LM.app 1 (mL.new ?_) rfl Z3e (by kernel_rfl) (by decide) (row:=key++[v]) (RowAt.rowc (by simp)) (by simp;omega) fun c' h7 m7 hs7=>?_
         .repeat' first | exact Same.refl | apply Same.next | apply Same.setArr | (refine Same.setBox ?_ (.inr (by simp)))
         simp[en,e0,e2,e3,e4,e6,e8,e9,e38,e39,e40,e11,bd,bt];refine CutK.of ⟨c',by simp[en],by simp[e0,en],by simp[e2,en],by simp[e3,en],by simp[e4,en],by simp[e6,en],by simp[e8,en],by simp[en],by simp[e11,en,hxe],by simp[e38,en],by simp[e39,en],by simp[e40,en],m7⟩
        .refine Z00 (HSpec.of_lend ((c_relation_Key T rows[i]).h key hkey) ⟨.agg (FrzCs.datas (ds:=T.enc)),.one (.frz (by rw[<- hxe];exact Zbm (hmx.frame fun k hk=>by simp))),trivial⟩ Za0 ?_);simp[en,e0,e2,e3,e4,e6,e8,e9,e38,e39,e40,e11,bd,bt]
         try refine⟨fun _ _ x=>x,?_⟩
         refine Z8b (xs:=key.map GV.enc) (ys:=[v.enc]) Z4y (Grows.own (by simp) (by simp) (by intro y hy;obtain⟨z,_,rfl⟩:=Y0m.1 hy;rfl)) rfl (by decide) (by decide) (by simp) (by simp;omega) ?_;simp[en,e0,e2,e3,e4,e6,e8,e9,e38,e39,e40,e11,bd,bt];refine LM.app 1 (mL.new ?_) rfl Z3e (by kernel_rfl) (by decide) (row:=key++[v]) (RowAt.rowc (by simp)) (by simp;omega) fun c' h7 m7 hs7=>?_
         .repeat' first | exact Same.refl | apply Same.next | apply Same.setArr | (refine Same.setBox ?_ (.inr (by simp)))
         simp[en,e0,e2,e3,e4,e6,e8,e9,e38,e39,e40,e11,bd,bt];refine CutK.of ⟨c',by simp[en],by simp[e0,en],by simp[e2,en],by simp[e3,en],by simp[e4,en],by simp[e6,en],by simp[e8,en],by simp[en],by simp[e11,en,hxe],by simp[e38,en],by simp[e39,en],by simp[e40,en],m7⟩
       .rintro e2 h2' ⟨c',en,e0,e2,e3,e4,e6,e8,e9,e11,e38,e39,e40,m7⟩;simp[en,e0,e2,e3,e4,e6,e8,e9,e38,e39,e40,e11,hw2];refine Z00 (Zex _ x rows[i] n _ _ hn (by rw[hn];simp) (m7.row_at hlt hxq) (fun k hk=>?_) hnl _ fun h9 hs9=>?_)
        .have:=hlx k hk
         have:=m7.ep
         omega
        have m9:=m7.use hlt hxq hs9;simp[en,e0,e2,e3,e4,e6,e8,e9,e38,e39,e40,e11,hw];refine LM.app 0 (m9.new ?_) rfl Z3e (by kernel_rfl) (by decide) (row:=rows[i].take n++rows[i].drop (n+1)) (RowAt.rowc (by simp)) (by simp;omega) fun c2 h10 m10 hs10=>?_
        .repeat' first | exact Same.refl | apply Same.next | apply Same.setArr | (refine Same.setBox ?_ (.inr (by simp)))
        simp[en,e0,e2,e3,e4,e6,e8,e9,e38,e39,e40,e11,hw];refine BackF.of (s.1++[rows[i].take n++rows[i].drop (n+1)],s.2++[key++[v]]) ⟨⟨c2,c',by simp[en],by simp[e0],by simp[e2],by simp[e3],by simp[e4],by simp[e6],by simp,by simp[e9],by simp[e38],by simp[e39],by simp,m10,by simp[hsO],by simp;omega⟩,by subst hnn;exact hm⟩
      .have m7:=mL;simp[en,e0,e2,e3,e4,e6,e8,e9,e38,e39,e40,e11,hw2];refine Z00 (Zex _ x rows[i] n _ _ hn (by rw[hn];simp) (m7.row_at hlt hxq) (fun k hk=>?_) hnl _ fun h9 hs9=>?_)
       .have:=hlx k hk
        have:=m7.ep
        omega
       have m9:=m7.use hlt hxq hs9;simp[en,e0,e2,e3,e4,e6,e8,e9,e38,e39,e40,e11,hw];refine LM.app 0 (m9.new ?_) rfl Z3e (by kernel_rfl) (by decide) (row:=rows[i].take n++rows[i].drop (n+1)) (RowAt.rowc (by simp)) (by simp;omega) fun c2 h10 m10 hs10=>?_
       .repeat' first | exact Same.refl | apply Same.next | apply Same.setArr | (refine Same.setBox ?_ (.inr (by simp)))
       simp[en,e0,e2,e3,e4,e6,e8,e9,e38,e39,e40,e11,hw];refine BackF.of (s.1++[rows[i].take n++rows[i].drop (n+1)],s.2) ⟨⟨c2,cC,by simp[en],by simp[e0],by simp[e2],by simp[e3],by simp[e4],by simp[e6],by simp,by simp[e9],by simp[e38],by simp[e39],by simp,m10,by simp[hsO],by simp;omega⟩,by subst hnn;exact hm⟩
    .rintro s e h' ⟨cO,cC,en,e0,e2,e3,e4,e6,e8,e9,e38,e39,e40,mL,hsO,hsC⟩ hm;obtain rfl:=r_ret hm;simp[en,e0,e2,e3,e4,e6,e8,e9,e38,e39,e40];have hmo:∀ k ∈ l::(labs co++labs cn),k.1 < h0.ep:=m.lt;have h03:=hs3.1;have hgl:=mL.lab;have hO:∀ k ∈ labs cO,h3.ep<=k.1/\k.1 < h'.ep:=hgl _ (Y05 ..);have hC:∀ k ∈ labs cC,h3.ep<=k.1/\k.1 < h'.ep:=hgl _ (Y0c _ (Y05 ..));have hdis:∀ k ∈ labs cC,k ∉ labs cO:=fun k hk h9=>by
      have:=mL.dis
      simp only[Y0r,Y26,Y0k] at this;exact (Y0e.1 this).2.2 k h9 k hk rfl
     refine Z6l (m.frame mL.same) (mL.row _ (Y05 ..)) (fun k hk h9=>by have:=hmo k h9;have:=(hO k hk).1;omega) fun h4 m4 hs4=>?_;simp[en,e0,e2,e3,e4,e6,e8,e9,e38,e39,e40];refine Z6b m4 ((mL.row _ (Y0c _ (Y05 ..))).frame fun k hk=>hs4.2 k (hC k hk).2 fun h9=>?_) (fun k hk h9=>by have:=hmo k h9;have:=(hC k hk).1;omega) fun h5 m5 hs5=>?_
     .rcases Y02.1 h9 with h8 | h8
      .exact hdis k hk h8
      .have:=hmo k (by simp[h8])
       have:=(hC k hk).1
       omega
     simp[en,e0,e2,e3,e4,e6,e8,e9,e38,e39,e40];refine hK h5 m5 (Same.trans' (Same.trans' (mL.same.mono (by simp)) hs4 fun k hk=>?_) hs5 fun k hk=>?_)
     .rcases Y02.1 hk with h8 | h8
      .exact .inr (by have:=(hO k h8).1;omega)
      .exact .inl (by simp[h8])
     .rcases Y02.1 hk with h8 | h8
      .exact .inr (by have:=(hC k h8).1;omega)
      .exact .inl (by simp[h8])
   .intro b hb;simp at hb;rcases hb with rfl | rfl
    .have h12:=hg2.same.1;have h23:=hs23.1;refine⟨by simp;omega,fun h9=>?_⟩
     have:=(hlq _ h9).1
     simp at this;omega
    .refine⟨by simp;omega,fun h9=>?_⟩
     have:=(hlq _ h9).2
     simp at this
   .have:=hlq k hk
    have:=hs1.1
    omega
   .have:=hs3.1
    omega
instance c_lens_mapping__removeColumn (M:Mp):ConM (Z09 M) M (fun r=>r) prog 143 [] (fun _=>.tup []):=⟨by
 intro r hm h l co cn vs K hp has hK;obtain rfl:=Zfi has;exact Zam h l co cn M r hm hp K hK⟩
end
section
open Go.Am
def Z0u (m:Mp) (wide:Tbl):Option ((List Int)):=
 (bif (m.step.kind == 6) then (some m.step.cols) else (getK m.cs.tables 0 fun x3=>(chkK (okI ((x3.cols.length:Int) - (x3.pk.length:Int))) (countK (fun (i8:Nat) (s8:(List Int)) next_8=>(chkK (okI ((wide.cols.length:Int) - ((x3.cols.length:Int) - (x3.pk.length:Int)))) (chkK (okI (((wide.cols.length:Int) - ((x3.cols.length:Int) - (x3.pk.length:Int)))+(i8:Int))) (appK2 s8 [(((wide.cols.length:Int) - ((x3.cols.length:Int) - (x3.pk.length:Int)))+(i8:Int))] fun _=>(chkK (okI ((i8:Int)+1)) (next_8 (s8++[(((wide.cols.length:Int) - ((x3.cols.length:Int) - (x3.pk.length:Int)))+(i8:Int))]))))))) (fun (s8:(List Int))=>(some s8)) (Int.toNat ((x3.cols.length:Int) - (x3.pk.length:Int))) 0 []))))
instance c_lens_mapping__movedColumns (m:Mp) (wide:Tbl):Con (Z0u m wide) prog 192 [.one (.rp m.enc),.agg wide.enc] (fun r=>.one (.d (.sl (r.map encI)))):=by
 unfold Z0u;have l1:LH (σ:=(List Int)) 35 [3,6,34] [.g 7 1 (fun s=>s.map encI)]:=.intro;exact go 50 Tryz.func192 rfl (by kernel_rfl) rfl rfl (by simp)
def Z0m (m:Mp) (table:ByteArray):Option (Tbl × (List (List GV))):=
 (bindK (Z06 m.src m.inp table) fun v2=>(some (v2.1,v2.2)))
instance c_lens_mapping__input (m:Mp) (table:ByteArray):Con (Z0m m table) prog 181 [.one (.rp m.enc),.one (.d (.str table))] (fun r=>.tup [.agg (r.1.enc.map RC.d),.one (.d (.sl (r.2.map (encL GV.enc))))]):=by
 unfold Z0m;have p1:PH [1] (Plan.then_ [0,1,2,3,4,5,6,7,8,9,10,11,12,13] .done):=.intro;exact go 18 Tryz.func181 rfl (by kernel_rfl) rfl rfl (by simp)
def Z1k (m:Mp):Option ((List Int) × (List Int)):=
 (bindK (Z0m m m.step.table) fun v1=>(bindK (Z0q m m.step.table) fun v3=>(bindK (Z03 v1.1 m.step.column) fun v5=>(bindK (Z03 v3 m.step.column) fun v6=>(bif (m.step.kind == 5) then (some ([v5.1],[v6.1])) else (bif m.fwd then (chkK (okI ((v3.cols.length:Int) - 1)) (some (m.step.cols,[((v3.cols.length:Int) - 1)]))) else (chkK (okI ((v1.1.cols.length:Int) - 1)) (some ([((v1.1.cols.length:Int) - 1)],m.step.cols)))))))))
instance c_lens_mapping__convertedColumns (m:Mp):Con (Z1k m) prog 188 [.one (.rp m.enc)] (fun r=>.tup [.one (.d (.sl (r.1.map encI))),.one (.d (.sl (r.2.map encI)))]):=by
 unfold Z1k;have p1:PH [3,4] (Plan.then_ [0,1,2,3,4,5,6,7,8,9,10,11] .done):=.intro;have p2:PH [8] (Plan.then_ [0,1,2,3,4,5,6,7,8,10,9,11] .done):=.intro;have p3:PH [9] (Plan.then_ [0,1,2,3,5,6,7,8,9,4,10,11] .done):=.intro;exact go 82 Tryz.func188 rfl (by kernel_rfl) rfl rfl (by simp)
end
section
open Go Go.Am
theorem Wait.skip {P:Program} {c:Code} {Q:Exit->Env->HS->Prop} {e:Env} {h:HS} (fin:vc P c (thenQ (fun _ _=>Never) Q) e h):Wait P (c:=⟨.loop c⟩) (Q:=⟨Q⟩) e h:=by
 refine SWP.loopS (fun n e' h'=>n=0/\e'=e/\h'=h) 0 ⟨rfl,rfl,rfl⟩ ?_;rintro n e' h' ⟨rfl,rfl,rfl⟩;exact (Z53 _ _ _ _ fin).mono (Z7b fun _ _ hf=>(hf:False).elim)
theorem GrowP.none {h h':HS} {c:C} (g:GrowP h h' [RowSh] c []):MR h' 1 c []:=by
 obtain⟨qs,p,_⟩:=g;have hq:qs=[]:=by have:=congrArg List.length p.ds;simpa using this
 subst hq;exact p.mr
theorem setO0 {d:Nat} {e:Env} {h0 h h1:HS} {l:Lab} {co cn:C} {M:Mp} {t:ByteArray} {Kc:Env->HS->Prop} (m:MpAt h l co cn M) (hs:Same h0 h (labs co++labs cn)) (h01:Same h h1 [])
  (hk:∀ h',MpAt h' l co cn { M with out:=setR t [] M.out }->Same h0 h' (labs co++labs cn)->Same h1 h' (labs co)->Kc (e.put (some d) (.tup [])) h'):callK prog 185 [] [.one (.ptr l 0),.one (.d (.str t)),.one .nil] d e h1 (K:=⟨Kc⟩):=
 Z6l (rows:=[]) (m.frame h01) (by simpa[ones] using MR.nil) (by simp[labs]) fun h' m' hs'=>hk h' m' ((hs.trans (h01.mono (by simp))).trans (hs'.mono (by simp +contextual [labs]))) (hs'.mono (by simp[labs]))
theorem setC0 {d:Nat} {e:Env} {h0 h h1:HS} {l:Lab} {co cn:C} {M:Mp} {t:ByteArray} {Kc:Env->HS->Prop} (m:MpAt h l co cn M) (hs:Same h0 h (labs co++labs cn)) (h01:Same h h1 [])
  (hk:∀ h',MpAt h' l co cn { M with nc:=setR t [] M.nc }->Same h0 h' (labs co++labs cn)->Kc (e.put (some d) (.tup [])) h'):callK prog 186 [] [.one (.ptr l 0),.one (.d (.str t)),.one .nil] d e h1 (K:=⟨Kc⟩):=
 Z6b (rows:=[]) (m.frame h01) (by simpa[ones] using MR.nil) (by simp[labs]) fun h' m' hs'=>hk h' m' ((hs.trans (h01.mono (by simp))).trans (hs'.mono (by simp +contextual [labs])))
theorem S2 {h:HS} {b:Nat} {cs cs':List C}:Same h ((h.setBox (h.ep,b) cs).next.setBox (h.ep,b) cs') []:=by
 repeat' first | exact Same.refl | apply Same.next | (refine Same.setBox ?_ (.inr (by simp)))
theorem MpAt.bx {h:HS} {l:Lab} {co cn:C} {M:Mp} (m:MpAt h l co cn M):h.box l=some [.d (.int .i64 M.step.kind),.d (.str M.step.table),.d (.str M.step.other),.d (.str M.step.column),.d (.str M.step.newName),.d (.int .i64 M.step.type),.d (.sl (M.step.cols.map encI)),.d (.str M.step.op),
  .d (.int .i64 M.step.value.kind),.d (.int .i64 M.step.value.int),.d (.str M.step.value.text),.d (.str M.step.newTable.name),.d (.sl (M.step.newTable.cols.map Col.enc)),.d (.sl (M.step.newTable.pk.map encI)),
  .d (.str M.step.cons.table),.d (.int .i64 M.step.cons.left),.d (.str M.step.cons.op),.d (.int .i64 M.step.cons.right),.d (.int .i64 M.step.cons.value.kind),.d (.int .i64 M.step.cons.value.int),.d (.str M.step.cons.value.text),
  .d (.str M.step.fk.table),.d (.sl (M.step.fk.cols.map encI)),.d (.str M.step.fk.ref),
  .d (.bool M.fwd),.d (.sl (M.src.tables.map Tbl.enc)),.d (.sl (M.src.fks.map Fk.enc)),.d (.sl (M.src.cons.map Cons.enc)),.d (.sl (M.dst.tables.map Tbl.enc)),.d (.sl (M.dst.fks.map Fk.enc)),.d (.sl (M.dst.cons.map Cons.enc)),
  .d (.sl (M.cs.tables.map Tbl.enc)),.d (.sl (M.cs.fks.map Fk.enc)),.d (.sl (M.cs.cons.map Cons.enc)),.d (.sl (M.inp.map Rel.enc)),.d (.sl (M.comp.map Rel.enc)),co,cn,.d (.int .i64 M.err)]:=m.box
def in0 {ρ:Type} (M:Mp) (t:ByteArray) (k:Tbl->Option ρ):Option ρ:=
 bindK (Z06 M.src M.inp t) fun q=>bindK (Z02 M.src t) fun f=>chkK (f.2=true/\q.2=[]) (k q.1)
theorem in0K {ρ:Type} {M:Mp} {t:ByteArray} {k:Tbl->Option ρ} {r:ρ} (hm:Is (in0 M t k) r):∃ T i,Is (Z06 M.src M.inp t) (T,[])/\Is (Z02 M.src t) (i,true)/\Is (k T) r:=by
 unfold in0 at hm;obtain⟨⟨T,rows⟩,ht,hm⟩:=hm.bind;obtain⟨⟨i,f⟩,hk1,hm⟩:=hm.bind;obtain⟨⟨hf,hr⟩,hm⟩:=hm.chk;simp only at hf hr hm;subst hf hr;exact⟨T,i,ht,hk1,hm⟩
theorem inP {d:Nat} {e:Env} {h0 h:HS} {l:Lab} {co cn:C} {M:Mp} {t:ByteArray} {T:Tbl} {i:Int} {Kc:Env->HS->Prop} (ht:Is (Z06 M.src M.inp t) (T,[])) (hk:Is (Z02 M.src t) (i,true)) (m:MpAt h l co cn M) (hs:Same h0 h (labs co++labs cn))
  (hK:∀ c h',MR h' 1 c []->Same h h' []->MpAt h' l co cn M->Same h0 h' (labs co++labs cn)->h'.box l=h.box l->Kc (e.put (some d) (.tup [.agg (T.enc.map C.d),.one c])) h'):callK prog 181 [] [.one (.ptr l 0),.one (.d (.str t))] d e h (K:=⟨Kc⟩):=
 Z00 (Z7z _ l co cn M t T [] m ht i hk (by simp) _ fun c h' hg _=>hK c h' hg.none hg.same (m.frame hg.same) (hs.trans (hg.same.mono (by simp))) (hg.same.2 l (m.lt l (Y05 ..)) (by simp)))
def Z4f (M:Mp):Option Mp:=
 in0 M M.step.table fun _=>some { M with out:=setR M.step.other [] (setR M.step.table [] M.out),nc:=setR M.step.table [] M.nc }
theorem Zcn (h0:HS) (l:Lab) (co cn:C) (M M1:Mp) (hm:Is (Z4f M) M1) (m:MpAt h0 l co cn M) (K:V->HS->Prop)
  (hK:∀ h',MpAt h' l co cn M1->Same h0 h' (labs co++labs cn)->K (.tup []) h'):HSpec prog 148 [.one (.ptr l 0)] h0 K:=by
 refine HSpec.of_vc Tryz.func148 rfl (by kernel_rfl) (n:=95) rfl rfl (by simp) ?_;obtain⟨T,i,ht,hi,hm⟩:=in0K hm;obtain rfl:=r_ret hm;have hl:=(m.lt l (Y05 ..));simp[m.bx,ne_new hl,Z05 hl];refine inP ht hi m .refl fun c h2 mc _ m2 hs2 _=>?_;have hl2:=m2.lt l (Y05 ..);simp[m2.bx,ne_new hl2,Z05 hl2];refine MR.lenK mc ?_;simp;refine Wait.skip ?_;simp[m2.bx,ne_new hl2,Z05 hl2];refine setO0 m2 hs2 S2 fun h4 m4 hs4 _=>?_;simp[m4.bx];refine setO0 m4 hs4 .refl fun h5 m5 hs5 _=>?_;simp[m5.bx];refine setC0 m5 hs5 .refl fun h6 m6 hs6=>?_;simp;exact hK h6 m6 hs6
def Z45 (M:Mp):Option Mp:=
 in0 M M.step.table fun T=>bindK (Z0u M T) fun _=>some { M with out:=setR M.step.other [] (setR M.step.table [] M.out),nc:=setR M.step.table [] M.nc }
theorem Zcb (h0:HS) (l:Lab) (co cn:C) (M M1:Mp) (hm:Is (Z45 M) M1) (m:MpAt h0 l co cn M) (K:V->HS->Prop)
  (hK:∀ h',MpAt h' l co cn M1->Same h0 h' (labs co++labs cn)->K (.tup []) h'):HSpec prog 146 [.one (.ptr l 0)] h0 K:=by
 refine HSpec.of_vc Tryz.func146 rfl (by kernel_rfl) (n:=113) rfl rfl (by simp) ?_;obtain⟨T,i,ht,hi,hm⟩:=in0K hm;obtain⟨mv,hmv,hm⟩:=hm.bind;obtain rfl:=r_ret hm;have hl:=(m.lt l (Y05 ..));simp[m.bx,ne_new hl,Z05 hl];refine inP ht hi m .refl fun c h2 mc _ m2 hs2 _=>?_;have hl2:=m2.lt l (Y05 ..);simp[m2.bx,ne_new hl2,Z05 hl2];refine Z6v hmv (m2.frame S2) ?_ ?_
 .simp
 simp[m2.bx,ne_new hl2,Z05 hl2];refine MR.lenK mc ?_;simp;refine Wait.skip ?_;simp[m2.bx,ne_new hl2,Z05 hl2];refine setO0 m2 hs2 S2.next fun h4 m4 hs4 _=>?_;simp[m4.bx];refine setO0 m4 hs4 .refl fun h5 m5 hs5 _=>?_;simp[m5.bx];refine setC0 m5 hs5 .refl fun h6 m6 hs6=>?_;simp;exact hK h6 m6 hs6
def Z4j (M:Mp):Option Mp:=
 in0 M M.step.table fun T=>in0 M M.step.other fun _=>bindK (Z0q M M.step.table) fun W=>bindK (Z0u M W) fun _=>some { M with out:=setR M.step.table [] M.out,nc:=setR M.step.table [] M.nc }
theorem Zdk (h0:HS) (l:Lab) (co cn:C) (M M1:Mp) (hm:Is (Z4j M) M1) (m:MpAt h0 l co cn M) (K:V->HS->Prop)
  (hK:∀ h',MpAt h' l co cn M1->Same h0 h' (labs co++labs cn)->K (.tup []) h'):HSpec prog 147 [.one (.ptr l 0)] h0 K:=by
 refine HSpec.of_vc Tryz.func147 rfl (by kernel_rfl) (n:=123) rfl rfl (by simp) ?_;obtain⟨T,i,ht,hi,hm⟩:=in0K hm;obtain⟨O,j,ht2,hi2,hm⟩:=in0K hm;obtain⟨W,hW,hm⟩:=hm.bind;obtain⟨mv,hmv,hm⟩:=hm.bind;obtain rfl:=r_ret hm;have hl:=(m.lt l (Y05 ..));simp[m.bx,ne_new hl,Z05 hl];refine inP ht hi m .refl fun c h2 mc _ m2 hs2 _=>?_;have hl2:=m2.lt l (Y05 ..);simp[m2.bx,ne_new hl2,Z05 hl2];refine inP ht2 hi2 (m2.frame S2) (hs2.trans (S2.mono (by simp))) fun c3 h3 mc3 hs23 m3 hs3 _=>?_;have b2:=hs23.2 (h2.ep,32) (by simp) (by simp);simp at b2;have hl3:=m3.lt l (Y05 ..);simp[m3.bx,ne_new hl3,Z05 hl3];refine Z6v hW (m3.frame S2) (by simp) ?_;simp[m3.bx,ne_new hl3,Z05 hl3];refine Z6v hmv (m3.frame (by repeat' first | exact Same.refl | apply Same.next | (refine Same.setBox ?_ (.inr (by simp))))) (by simp) ?_;simp[m3.bx,ne_new hl3,Z05 hl3,b2];intro _;refine MR.lenK mc ?_;simp;refine Wait.skip ?_;simp[m3.bx,ne_new hl3,Z05 hl3,b2];refine MR.lenK mc3 ?_;simp[m3.bx,ne_new hl3,Z05 hl3,b2];refine setO0 m3 hs3 (by repeat' first | exact Same.refl | apply Same.next | (refine Same.setBox ?_ (.inr (by simp)))) fun h4 m4 hs4 _=>?_;simp[m4.bx];refine setC0 m4 hs4 .refl fun h6 m6 hs6=>?_;simp;exact hK h6 m6 hs6
theorem ze_two:zeT prog 249=some [.nil,.nil]:=by kernel_rfl
def Z4q (M:Mp):Option Mp:=
 in0 M M.step.table fun _=>some { M with out:=setR M.step.other [] (setR M.step.table [] M.out) }
theorem Zeb (h0:HS) (l:Lab) (co cn:C) (M M1:Mp) (hm:Is (Z4q M) M1) (m:MpAt h0 l co cn M) (K:V->HS->Prop)
  (hK:∀ h',MpAt h' l co cn M1->Same h0 h' (labs co++labs cn)->K (.tup []) h'):HSpec prog 151 [.one (.ptr l 0)] h0 K:=by
 refine HSpec.of_vc Tryz.func151 rfl (by kernel_rfl) (n:=64) rfl rfl (by simp) ?_;obtain⟨T,i,ht,hi,hm⟩:=in0K hm;obtain rfl:=r_ret hm;have hl:=(m.lt l (Y05 ..));simp[m.bx,ne_new hl,Z05 hl];refine inP ht hi m .refl fun c h2 mc _ m2 hs2 _=>?_;have hl2:=m2.lt l (Y05 ..);simp[m2.bx,ne_new hl2,Z05 hl2,ze_two];refine MR.lenK mc ?_;simp;refine Wait.skip ?_;simp[m2.bx,ne_new hl2,Z05 hl2];have hne:∀ k ∈ labs co++labs cn,k.1 < h2.ep:=fun k hk=>m2.lt k (Y0c _ hk);refine Wait.cutB (fun _=>false) (Plan.then_ [0,1,6,7,2,3,4,5,8] .done) follows (by kernel_rfl) (fun e4 h4=>e4.n=64/\e4.get 0=.one (.ptr l 0)/\e4.get 4=.one (.ptr (h2.ep+1,64) 0)/\h4.box (h2.ep+1,64)=some [.nil,.nil]/\MpAt h4 l co cn { M with out:=setR M.step.table [] M.out }/\Same h0 h4 (labs co++labs cn)) ?_ ?_
 .simp[Plan.then_,Z3y,planOps,isCallAt,callKind,m2.bx,ne_new hl2,Z05 hl2];refine setO0 m2 hs2 (by repeat' first | exact Same.refl | apply Same.next | (refine Same.setBox ?_ (.inr (by simp)))) fun h4 m4 hs4 hs'=>?_;have b4:=hs'.2 (h2.ep+1,64) (by simp) (fun hk=>by have:=hne _ (Y21 _ hk);simp at this;omega);simp at b4;simp[Plan.then_,Z3y,planOps,isCallAt,callKind];refine CutK.of ⟨by simp,by simp,by simp,b4,m4,hs4⟩
 .rintro e4 h4 ⟨en,e0,e4',b4,m4,hs4⟩;simp[en,e0,e4',b4,m4.bx];refine Wait.cutB (fun _=>false) (Plan.then_ [0,1,6,7,2,3,4,5,8] .done) follows (by kernel_rfl) (fun e5 h5=>MpAt h5 l co cn { M with out:=setR M.step.other [] (setR M.step.table [] M.out) }/\Same h0 h5 (labs co++labs cn)) ?_ ?_
  .simp[Plan.then_,Z3y,planOps,isCallAt,callKind,en,e0,e4',b4,m4.bx];refine setO0 m4 hs4 .refl fun h5 m5 hs5 _=>?_;simp[Plan.then_,Z3y,planOps,isCallAt,callKind];refine CutK.of ⟨m5,hs5⟩
  .rintro e5 h5 ⟨m5,hs5⟩;simp;exact hK h5 m5 hs5
def Z1r (M:Mp):Option Mp:=
 in0 M M.step.table fun _=>bindK (Z1k M) fun _=>getK M.cs.tables 0 fun _=>bindK (Z0q M M.step.table) fun _=>some { M with out:=setR M.step.table [] M.out,nc:=setR M.step.table [] M.nc }
theorem Z4c (h0:HS) (l:Lab) (co cn:C) (M M1:Mp) (hm:Is (Z1r M) M1) (m:MpAt h0 l co cn M) (K:V->HS->Prop)
  (hK:∀ h',MpAt h' l co cn M1->Same h0 h' (labs co++labs cn)->K (.tup []) h'):HSpec prog 145 [.one (.ptr l 0)] h0 K:=by
 refine HSpec.of_vc Tryz.func145 rfl (by kernel_rfl) (n:=159) rfl rfl (by simp) ?_;obtain⟨T,i,ht,hi,hm⟩:=in0K hm;obtain⟨cc,hcc,hm⟩:=hm.bind;obtain⟨x,_,hx,hm⟩:=hm.get;obtain⟨W,hW,hm⟩:=hm.bind;obtain rfl:=r_ret hm;have hl:=(m.lt l (Y05 ..));simp[m.bx,ne_new hl,Z05 hl];refine inP ht hi m .refl fun c h2 mc _ m2 hs2 _=>?_;have hl2:=m2.lt l (Y05 ..);simp[m2.bx,ne_new hl2,Z05 hl2];refine Z6v hcc (m2.frame S2) (by simp) ?_;simp at hx;simp[m2.bx,ne_new hl2,Z05 hl2,hx];refine Z6v hW (m2.frame (by repeat' first | exact Same.refl | apply Same.next | (refine Same.setBox ?_ (.inr (by simp;try omega))))) (by simp) ?_;simp[m2.bx,ne_new hl2,Z05 hl2,hx];intro _ _ _;refine MR.lenK mc ?_;simp;refine Wait.skip ?_;simp[m2.bx,ne_new hl2,Z05 hl2];refine setO0 m2 hs2 (by repeat' first | exact Same.refl | apply Same.next | (refine Same.setBox ?_ (.inr (by simp;try omega)))) fun h4 m4 hs4 _=>?_;simp[m4.bx];refine setC0 m4 hs4 .refl fun h6 m6 hs6=>?_;simp;exact hK h6 m6 hs6
def Z5a (M:Mp):Option Mp:=
 bindK (Z0q M M.step.table) fun _=>in0 M M.step.table fun _=>in0 M M.step.other fun _=>some { M with out:=setR M.step.table [] M.out }
theorem Zh6 (h0:HS) (l:Lab) (co cn:C) (M M1:Mp) (hm:Is (Z5a M) M1) (m:MpAt h0 l co cn M) (K:V->HS->Prop)
  (hK:∀ h',MpAt h' l co cn M1->Same h0 h' (labs co++labs cn)->K (.tup []) h'):HSpec prog 150 [.one (.ptr l 0)] h0 K:=by
 refine HSpec.of_vc Tryz.func150 rfl (by kernel_rfl) (n:=65) rfl rfl (by simp) ?_;obtain⟨W,hW,hm⟩:=hm.bind;obtain⟨T,i,ht,hi,hm⟩:=in0K hm;obtain⟨O,j,ht2,hi2',hm⟩:=in0K hm;obtain rfl:=r_ret hm;have hl:=(m.lt l (Y05 ..));simp[m.bx,ne_new hl,Z05 hl];refine Z6v hW m (by simp) ?_;simp[m.bx,ne_new hl,Z05 hl];refine Wait.cut (Plan.then_ [0,5,12,1,2,3,4,6,7,8,9,10,11] .done) follows (by kernel_rfl) (fun e1 h1=>e1.n=65/\e1.get 0=.one (.ptr l 0)/\e1.get 3=.one .nil/\e1.get 27=.one (.own (h0.ep+1+1,432) [[.str M.step.table],[.str M.step.other]])/\e1.get 28=.one (.d (.int .i64 2))/\e1.get 29=.one (.d (.int .i64 0))/\Same h0 h1 []) ?_ ?_
 .simp[m.bx,ne_new hl,Z05 hl];refine CutK.of ⟨by simp,by simp,by simp,by simp,by simp,by simp,?_⟩
  repeat' first | exact Same.refl | apply Same.next | apply Same.setArr | (refine Same.setBox ?_ (.inr (by simp)))
 .rintro e1 h1 ⟨en,e0,e3,e27,e28,e29,hs1⟩;have m1:=m.frame hs1;have key:Is (forK (fun (i:Nat) (x:ByteArray) (s:Unit) next=>next ()) (fun _=>some ()) [M.step.table,M.step.other] 0 ()) ():=rfl;simp[en,e0,e3,e27,e28,e29];refine Wait.for (xs:=[M.step.table,M.step.other]) (s0:=()) (fun i s e h=>e.n=65/\e.get 0=.one (.ptr l 0)/\e.get 3=.one .nil/\e.get 27=.one (.own (h0.ep+1+1,432) [[.str M.step.table],[.str M.step.other]])/\e.get 28=.one (.d (.int .i64 2))/\e.get 29=.one (.d (.int .i64 (i:Int)))/\MpAt h l co cn M/\Same h0 h (labs co++labs cn)) key
   ⟨by simp[en],by simp[e0],by simp[e3],by simp[e27],by simp[e28],by simp[e29],m1,hs1.mono (by simp)⟩ ?_ ?_
  .rintro i s e h ⟨en,e0,e3,e27,e28,e29,m1,hs1⟩ hlt hm;have hw:IntKind.i64.wrap ((i:Int)+1)=(i:Int)+1:=Y0a _ (by simp at hlt;omega);simp at hlt;have hi2:(i:Int) < 2:=by omega
   obtain⟨t,T',k,hx,ht',hk'⟩:∃ (t:ByteArray) (T':Tbl) (k:Int),[[D.str M.step.table],[D.str M.step.other]][i]? = some [D.str t]/\Is (Z06 M.src M.inp t) (T',[])/\Is (Z02 M.src t) (k,true):=by
    rcases (by omega:i=0\/i=1) with rfl | rfl
    .exact⟨_,_,_,rfl,ht,hi⟩
    .exact⟨_,_,_,rfl,ht2,hi2'⟩
   simp[en,e0,e3,e27,e28,e29,hi2,hx];refine inP ht' hk' m1 hs1 fun c h2 mc _ m2 hs2 _=>?_;have hl2:=m2.lt l (Y05 ..);simp[en,e0,e3,e27,e28,e29,hi2,hx,m2.bx,ne_new hl2,Z05 hl2];refine MR.lenK mc ?_;simp[en];refine Wait.skip ?_;simp[en,e0,e3,e27,e28,e29,hw];refine BackF.of () ⟨⟨by simp[en],by simp[e0],by simp[e3],by simp[e27],by simp[e28],by simp,m2.frame S2,hs2.trans (S2.mono (by simp))⟩,hm⟩
  .rintro s e h ⟨en,e0,e3,e27,e28,e29,m1,hs1⟩ hm;simp[en,e0,e3,e27,e28,e29,m1.bx];refine setO0 m1 hs1 .refl fun h6 m6 hs6 _=>?_;simp;exact hK h6 m6 hs6
theorem inPn {d:Nat} {e:Env} {h0 h:HS} {l:Lab} {co cn:C} {M:Mp} {t:ByteArray} {T:Tbl} {i:Int} {Kc:Env->HS->Prop} (ht:Is (Z06 M.src M.inp t) (T,[])) (hk:Is (Z02 M.src t) (i,true)) (m:MpAt h l co cn M) (hs:Same h0 h (labs co++labs cn))
  (hK:∀ c h',MR h' 1 c []->(∀ k ∈ labs c,h.ep<=k.1/\k.1 < h'.ep)->Same h h' []->BoxLe h h'->MpAt h' l co cn M->Same h0 h' (labs co++labs cn)->Kc (e.put (some d) (.tup [.agg (T.enc.map C.d),.one c])) h'):callK prog 181 [] [.one (.ptr l 0),.one (.d (.str t))] d e h (K:=⟨Kc⟩):=
 Z00 (Z7z _ l co cn M t T [] m ht i hk (by simp) _ fun c h' hg hb=>hK c h' hg.none (by obtain⟨qs,p,nd,hl,s⟩:=hg;exact fun k hk=>hl k (by simp[plabs,hk])) hg.same hb (m.frame hg.same) (hs.trans (hg.same.mono (by simp))))
def Z59 (M:Mp):Option Mp:=
 in0 M M.step.table fun _=>in0 M M.step.other fun _=>some { M with out:=setR M.step.table [] M.out,nc:=setR M.step.table [] M.nc }
theorem Zh5 (h0:HS) (l:Lab) (co cn:C) (M M1:Mp) (hm:Is (Z59 M) M1) (m:MpAt h0 l co cn M) (K:V->HS->Prop)
  (hK:∀ h',MpAt h' l co cn M1->Same h0 h' (labs co++labs cn)->K (.tup []) h'):HSpec prog 149 [.one (.ptr l 0)] h0 K:=by
 refine HSpec.of_vc Tryz.func149 rfl (by kernel_rfl) (n:=90) rfl rfl (by simp) ?_;obtain⟨T,i,ht,hi,hm⟩:=in0K hm;obtain⟨O,j,ht2,hi2,hm⟩:=in0K hm;obtain rfl:=r_ret hm;have hl:=(m.lt l (Y05 ..));simp[m.bx,ne_new hl,Z05 hl];have lne:∀ {k:Lab} {a n:Nat},(a < k.1\/k.1 < a)->k≠(a,n):=fun h h'=>by rw[h'] at h;simp at h
 refine Wait.cut (Plan.then_ [0,1,2,3,4,5] (.two 6 10 (Plan.then_ [7,8,9,10,11,12] .done) (Plan.then_ [6,7,8,9,11,12] .done))) follows (by kernel_rfl) (fun e h=>∃ c lt,e.n=90/\e.get 1=.one (.ptr (h0.ep,16) 0)/\e.get 2=.one (.ptr lt 0)/\e.get 3=.one c/\h.box (h0.ep,16)=some [.ptr l 0]/\MR h 1 c []/\(∀ k ∈ labs c,h0.ep < k.1/\k.1 < h.ep)/\Same h0 h []/\h0.ep < h.ep) ?_ ?_
 .simp[m.bx,ne_new hl,Z05 hl];refine⟨?_,?_⟩
  .have hA:Same h0 (h0.setBox (h0.ep,16) [C.ptr l 0]).next []:=by repeat' first | exact Same.refl | apply Same.next | (refine Same.setBox ?_ (.inr (by simp)))
   refine inPn ht hi (m.frame hA) (hA.mono (by simp)) fun c h2 mc hlc hs bl m2 hs2=>?_;have b1:=hs.2 (h0.ep,16) (by simp) (by simp);have hep:=hs.1;simp at b1 hep;have hne:h2.ep≠h0.ep:=by omega
   have hne':h0.ep≠h2.ep:=by omega
   simp[b1,hne,hne'];refine⟨bl,CutK.of ⟨c,(h2.ep,32),by simp,by simp,by simp,by simp,by simp[b1,hne,hne'],mc.frame fun k hk=>?_,fun k hk=>?_,(hA.trans hs).trans S2,?_⟩⟩
   .simp[lne (.inr (hlc k hk).2)]
   .have hk0:=hlc k hk;simp at hk0 |-;omega
   .simp;omega
  .have hA:Same h0 ((h0.setBox (h0.ep,16) [C.ptr l 0]).next.setBox (h0.ep+1,32) [C.d (D.str empty),C.nil,C.nil]).next []:=by repeat' first | exact Same.refl | apply Same.next | (refine Same.setBox ?_ (.inr (by simp)))
   refine inPn ht hi (m.frame hA) (hA.mono (by simp)) fun c h2 mc hlc hs bl m2 hs2=>?_;have b1:=hs.2 (h0.ep,16) (by simp) (by simp);have b2:=hs.2 (h0.ep+1,32) (by simp) (by simp);have hep:=hs.1;simp at b1 b2 hep;simp[b1,b2];refine⟨bl,CutK.of ⟨c,(h0.ep+1,32),by simp,by simp,by simp,by simp,by simp[b1],mc.frame fun k hk=>?_,fun k hk=>?_,(hA.trans hs).setBox (.inr (by simp)),?_⟩⟩
   .have hk0:=hlc k hk;simp at hk0;simp[lne (a:=h0.ep+1) (n:=32) (k:=k) (.inl (by omega))]
   .have hk0:=hlc k hk;simp at hk0 |-;omega
   .simp;omega
 .rintro e1 h1 ⟨c,lt,en,e1',e2,e3,b1,mc,hlc,hs1,hep1⟩;have m1:=m.frame hs1;have hl1:=(m1.lt l (Y05 ..));have hnA:h1.ep≠h0.ep:=by omega
  have hnB:h0.ep≠h1.ep:=by omega
  simp[en,e1',e2,e3];refine Wait.cut (Plan.then_ [0,1,2,3,4,5] (.two 6 10 (Plan.then_ [7,8,9,10,11,12] .done) (Plan.then_ [6,7,8,9,11,12] .done))) follows (by kernel_rfl) (fun e h=>∃ c2 lu,e.n=90/\e.get 1=.one (.ptr (h0.ep,16) 0)/\e.get 2=.one (.ptr lt 0)/\e.get 3=.one c/\e.get 4=.one (.ptr lu 0)/\e.get 5=.one c2/\h.box (h0.ep,16)=some [.ptr l 0]/\MR h 1 c []/\(∀ k ∈ labs c,h0.ep < k.1/\k.1 < h.ep)/\MR h 1 c2 []/\Same h0 h []/\h0.ep < h.ep) ?_ ?_
  .simp[en,e1',e2,e3,b1,m1.bx,ne_new hl1,Z05 hl1,hnA,hnB];refine⟨?_,?_⟩
   .refine inPn ht2 hi2 m1 (hs1.mono (by simp)) fun c2 h2 mc2 hlc2 hs bl m2 hs2=>?_;have b2:=hs.2 (h0.ep,16) (by simpa using hep1) (by simp);have hep:=hs.1;rw[b1] at b2;have hne:h2.ep≠h0.ep:=by omega
    have hne':h0.ep≠h2.ep:=by omega
    simp[en,e1',e2,e3,b2,hne,hne'];refine⟨bl,CutK.of ⟨c2,(h2.ep,64),by simp[en],by simp[e1'],by simp[e2],by simp[e3],by simp[en],by simp[en],by simp[b2,hne,hne'],mc.frame fun k hk=>?_,fun k hk=>?_,mc2.frame fun k hk=>?_,(hs1.trans hs).trans S2,?_⟩⟩
    .have hk0:=hlc k hk;rw[<- hs.2 k hk0.2 (by simp)];simp[lne (a:=h2.ep) (n:=64) (k:=k) (.inr (by omega))]
    .have hk0:=hlc k hk;simp at hk0 |-;omega
    .simp[lne (.inr (hlc2 k hk).2)]
    .simp;omega
   .have hA:Same h1 (h1.setBox (h1.ep,64) [C.d (D.str empty),C.nil,C.nil]).next []:=by repeat' first | exact Same.refl | apply Same.next | (refine Same.setBox ?_ (.inr (by simp)))
    refine inPn ht2 hi2 (m1.frame hA) ((hs1.trans hA).mono (by simp)) fun c2 h2 mc2 hlc2 hs bl m2 hs2=>?_;have b2:=hs.2 (h0.ep,16) (by simp;omega) (by simp);have b3:=hs.2 (h1.ep,64) (by simp) (by simp);have hep:=hs.1;simp[b1,hnA,hnB] at b2 b3 hep;simp[en,e1',e2,e3,b2,b3,hnA,hnB];refine⟨bl,CutK.of ⟨c2,(h1.ep,64),by simp[en],by simp[e1'],by simp[e2],by simp[e3],by simp[en],by simp[en],by simp[b2,hnA,hnB],mc.frame fun k hk=>?_,fun k hk=>?_,mc2.frame fun k hk=>?_,((hs1.trans hA).trans hs).setBox (.inr (by simp;omega)),?_⟩⟩
    .have hk0:=hlc k hk;have h3:=hs.2 k (by simp;omega) (by simp);have h4:k≠(h1.ep,64):=lne (.inr (by omega));simp[h4] at h3 |-;exact h3
    .have hk0:=hlc k hk;simp at hk0 |-;omega
    .have hk0:=hlc2 k hk;simp at hk0;simp[lne (a:=h1.ep) (n:=64) (k:=k) (.inl (by omega))]
    .simp;omega
  .rintro e2' h2 ⟨c2,lu,en,e1',e2,e3,e4,e5,b1,mc,hlc,mc2,hs2,hep2⟩;simp[en,e1',e2,e3,e4,e5];refine MR.lenK mc ?_;simp[en];refine Wait.skip ?_;simp[en,e1',e2,e3,e4,e5];refine MR.lenK mc2 ?_;simp[en];refine Wait.skip ?_;simp[en,e1',e2,e3,e4,e5];have hA:Same h2 (h2.setBox (h2.ep,96) [C.nil]).next []:=by repeat' first | exact Same.refl | apply Same.next | (refine Same.setBox ?_ (.inr (by simp)))
   have m2:=m.frame (hs2.trans hA);have mb:=(m.frame hs2).bx;have hl2:l.1 < h2.ep:=Nat.lt_trans hl hep2;have hmo:=m.lt;have hnC:h2.ep≠h0.ep:=by omega
   have hnD:h0.ep≠h2.ep:=by omega
   have hlo:∀ k ∈ labs c,k ∉ l::(labs co++labs cn):=fun k hk h9=>by
    have:=hmo k h9
    have:=(hlc k hk).1
    omega
   have hnot:∀ {a n:Nat},h0.ep<=a->(a=h0.ep\/h2.ep<=a)->(a,n) ∉ labs c++labs co:=fun {a n} ha hb hk=>by
    rcases Y02.1 hk with h9 | h9
    .have:=hlc _ h9
     simp at this;omega
    .have:=hmo (a,n) (by simp[h9])
     simp at this;omega
   refine Wait.cutB (fun _=>false) (Plan.then_ [0,1,2,3,4,5,6,7] .done) follows (by kernel_rfl) (fun e h=>e.n=90/\e.get 1=.one (.ptr (h0.ep,16) 0)/\e.get 6=.one (.ptr (h2.ep,96) 0)/\h.box (h0.ep,16)=some [.ptr l 0]/\h.box (h2.ep,96)=some [.nil]/\MpAt h l co cn { M with out:=setR M.step.table [] M.out }/\Same h0 h (labs co++labs cn)) ?_ ?_
   .simp[Plan.then_,Z3y,planOps,isCallAt,callKind,en,e1',e2,e3,e4,e5,b1,hnC,hnD,mb,ne_new hl2,Z05 hl2];refine Z6l (rows:=[]) m2 (by simpa[ones] using mc.frame fun k hk=>hA.2 k (hlc k hk).2 (by simp)) hlo fun h4 m4 hs4=>?_;have b4:=hs4.2 (h0.ep,16) (by simp;omega) (hnot (Y09 _) (.inl rfl));have b6:=hs4.2 (h2.ep,96) (by simp) (hnot (by omega) (.inr (Y09 _)));simp[b1,hnC,hnD] at b4 b6;simp[Plan.then_,Z3y,planOps,isCallAt,callKind];refine CutK.of ⟨by simp[en],by simp[e1'],by simp[en],b4,b6,m4,Same.trans' ((hs2.trans hA).mono (by simp)) hs4 fun k hk=>?_⟩;rcases Y02.1 hk with h9 | h9
    .exact .inr (by have:=(hlc k h9).1;omega)
    .exact .inl (by simp[h9])
   .rintro e4 h4 ⟨en,e1',e6,b1,b6,m4,hs4⟩;simp[en,e1',e6];refine Wait.cutB (fun _=>false) (Plan.then_ [0,1,2,3,4,5,6,7] .done) follows (by kernel_rfl) (fun e h=>MpAt h l co cn { M with out:=setR M.step.table [] M.out,nc:=setR M.step.table [] M.nc }/\Same h0 h (labs co++labs cn)) ?_ ?_
    .simp[Plan.then_,Z3y,planOps,isCallAt,callKind,en,e1',e6,b1,b6,m4.bx];refine setC0 m4 hs4 .refl fun h5 m5 hs5=>?_;simp[Plan.then_,Z3y,planOps,isCallAt,callKind];refine CutK.of ⟨m5,hs5⟩
    .rintro e5 h5 ⟨m5,hs5⟩;simp;exact hK h5 m5 hs5
theorem Z7s {α:Type}:∀ (xs:List α) (i:Nat),Is (forK (fun (_:Nat) (_:α) (s:Unit) next=>next s) (fun s=>some s) xs i ()) ()
 | [],_=>rfl
 | _::xs,i=>Z7s xs (i+1)
theorem Zpb {r:Rel} (h:r.rows=[]):relC r=[.d (.str r.table),.d (.sl [])]:=by
 simp[relC,h]
theorem Zbw (h:HS) (inp:List Rel) (h00:∀ r ∈ inp,r.rows=[]) (hlen:inp.length<=2097152) (K:V->HS->Prop)
  (hk:∀ c h',RelAt h' c inp->Same h h' []->(∀ k ∈ labs c,h.ep<=k.1/\k.1 < h'.ep)->BoxLe h h'->K (.one c) h') :
  HSpec prog 35 [.one (.d (.sl (inp.map Rel.enc)))] h K:=by
 refine HSpec.good Tryz.func35 rfl (by kernel_rfl) fun hg=>?_;refine HSpec.of_vc Tryz.func35 rfl (by kernel_rfl) (n:=23) rfl rfl (by simp) ?_;simp;intro _;refine Wait.for (xs:=inp) (s0:=()) (fun i s e h'=>∃ c,e.n=23/\e.get 3=.one c/\e.get 6=.one (.d (.sl (inp.map Rel.enc)))/\e.get 7=.one (.d (.int .i64 (inp.length:Int)))/\e.get 8=.one (.d (.int .i64 (i:Int)))/\MR h' 2 c ((inp.take i).map relC)/\Same h h' []/\∀ k ∈ labs c,h.ep<=k.1/\k.1 < h'.ep) (Z7s inp 0) ⟨.nil,by simp,by simp,by simp,by simp,by simp,by simpa using MR.nil,.refl,by simp[labs]⟩ ?_ ?_
 .rintro i s e h' ⟨c,hn,h3,h6,h7,h8,hmr,hs,hl⟩ hlt hm;have hw:IntKind.i64.wrap ((i:Int)+1)=(i:Int)+1:=Y0a _ (by omega);have hr0:=h00 _ (Y0p hlt);have hgi:inp[i]? = some inp[i]:=Y01 hlt;simp[hn,h3,h6,h7,h8,hlt,Rel.enc,hr0];have hA:Same h' ((h'.setBox (h'.ep,80) [.d (.str empty),.nil]).next.setBox (h'.ep,80) [.d (.str inp[i].table),.d (.sl [])]) []:=S2;refine Wait.cut (Plan.then_ [0,1,2,3,4,5,6,7,8,9] .done) follows (by kernel_rfl) (fun e h2=>∃ c,e.n=23/\e.get 3=.one c/\e.get 6=.one (.d (.sl (inp.map Rel.enc)))/\e.get 7=.one (.d (.int .i64 (inp.length:Int)))/\e.get 8=.one (.d (.int .i64 (i:Int)))/\MR h2 2 c ((inp.take (i+1)).map relC)/\Same h h2 []/\∀ k ∈ labs c,h.ep<=k.1/\k.1 < h2.ep) ?_ ?_
  .simp[hn,h3,h6,h7,h8];refine Z08 ((c_relation_Clone []).h [] rfl) (by simp) ?_;simp[hn,h3,h6,h7,h8];refine⟨fun _ _ x=>x,?_⟩;have hB:Same h' ((((h'.setBox (h'.ep,80) [.d (.str empty),.nil]).next.setBox (h'.ep,80) [.d (.str inp[i].table),.d (.sl [])]).next.setArr (h'.ep+1+1,304) (some (1,2))).next) []:=by
    repeat' first | exact hA | apply Same.next | apply Same.setArr
   refine app_mr Zab (by kernel_rfl) (by decide) (by decide) (hmr.frame fun k hk=>hB.2 k (hl k hk).2 (by simp)) (RowAt.own1 rfl) (by simp;omega) (fun c' h2 hm2 hs3 hl3=>?_);simp[hn,h3,h6,h7,h8];have hs4:Same h h2 []:=(hs.trans hB).trans' hs3 fun k hk=>.inr (hl k hk).1;refine CutK.of ⟨c',by simp[hn],by simp[hn],by simp[h6],by simp[h7],by simp[h8],?_,hs4,fun k hk=>?_⟩
   .rw[Y10 hlt,Y2c];simpa[Zpb hr0] using hm2
   .rcases hl3 k hk with h9 | h9
    .have:=hl k h9
     have:=hs3.1
     simp at this;omega
    .have:=hs.1
     simp at h9;omega
  .rintro e2 h2 ⟨c2,hn,h3,h6,h7,h8,hmr,hs,hl⟩;simp[hn,h3,h6,h7,h8,hw];refine BackF.of () ⟨⟨c2,by simp[hn],by simp[h3],by simp[h6],by simp[h7],by simp,hmr,hs,hl⟩,hm⟩
 .rintro s e h' ⟨c,hn,h3,h6,h7,h8,hmr,hs,hl⟩ hm;simp[hn,h3,h6,h7,h8];rw[Y1b] at hmr;exact hk _ _ (Zmz hmr) hs hl (hs.boxLe hg)
theorem lenK0 {c:C} {f:Nat->Prop} (h:c.toD=some (.sl [])) (hk:f 0):lenK c (k:=⟨f⟩):=by
 cases c<;>simp[C.toD] at h<;>(try subst h)<;>simpa using hk
theorem Zh8 (h:HS) (c v:C) (hc:c.toD=some (.sl [])) (K:V->HS->Prop) (hk:∀ h',Same h h' []->BoxLe h h'->K (.one (.d (.int .i64 (-1)))) h') :
  HSpec prog 87 [.one c,.one v] h K:=by
 refine HSpec.good Tryz.func87 rfl (by kernel_rfl) fun hg=>?_;refine HSpec.of_vc Tryz.func87 rfl (by kernel_rfl) (n:=19) rfl rfl (by simp) ?_;simp;refine lenK0 hc ?_;simp;refine Wait.skip ?_;simp;exact hk h .refl fun _ _ x=>x
theorem Zfz (h:HS) (c v:C) (hc:c.toD=some (.sl [])) (K:V->HS->Prop) (hk:∀ h',Same h h' []->BoxLe h h'->K (.one c) h') :
  HSpec prog 223 [.one c,.one v] h K:=by
 refine HSpec.good Tryz.func223 rfl (by kernel_rfl) fun hg=>?_;refine HSpec.of_vc Tryz.func223 rfl (by kernel_rfl) (n:=42) rfl rfl (by simp) ?_;simp;refine Z00 (Zh8 _ c v hc _ fun h' hs hb=>?_);simp;exact hk h' hs hb
theorem RelAt.at0 {h:HS} {c:C} {rs:List Rel} {i:Nat} (r:RelAt h c rs) (hi:i < rs.length) (h0:rs[i].rows=[]) :
  ∃ lo cap z c',c=.mrow lo 0 rs.length cap/\h.box lo=some z/\i * 2+2<=z.length/\takeN 1 (z.drop (i * 2+1))=some [c']/\takeN 1 (z.drop (i * 2))=some [.d (.str rs[i].table)]/\takeN 2 (z.drop (i * 2))=some [.d (.str rs[i].table),c']/\c'.toD=some (.sl [])/\Z01 z (i * 2+1) [c']=z:=by
 obtain⟨xs,m,-,hl,he⟩:=r.len;obtain⟨c',hx,hc⟩:=he i rs[i] (Y01 hi);rw[h0] at hc;obtain⟨lo,cap,sp,rfl,hb,hcap⟩:=m.block (by omega);have hxs:i < xs.length:=by omega
 have e1:=Z54 (sp:=sp) (f:=1) (m:=1) m.1 hx (by simp);have e0:=Z54 (sp:=sp) (f:=0) (m:=1) m.1 hx (by simp);have e2:=Z54 (sp:=sp) (f:=0) (m:=2) m.1 hx (by simp);have e3:=Z9a (sp:=sp) (f:=1) (vs:=[c']) m.1 hx (by simp);have hln:=Z84 (sp:=sp) m.1 hxs;have hset:xs.set i (Z01 [.d (.str rs[i].table),c'] 1 [c'])=xs:=by
  have:Z01 [.d (.str rs[i].table),c'] 1 [c']=[C.d (.str rs[i].table),c']:=rfl
  rw[this];obtain⟨h1,h2⟩:=Y00.1 hx;rw[<- h2];exact List.set_getElem_self h1
 rw[hset] at e3;refine⟨lo,cap,rowBox xs sp,c',by rw[hl],hb,hln,by simpa[takeN] using e1,by simpa[takeN] using e0,by simpa[takeN] using e2,by simpa using hc,e3⟩
theorem Zfy (h:HS) (l:Lab) (co cn c:C) (M:Mp) (S:Sch) (rs:List Rel) (i:Nat) (m:MpAt h l co cn M) (r:RelAt h c rs) (hi:i < rs.length) (h00:rs[i].rows=[]) (K:V->HS->Prop) (hk:∀ h',Same h h' []->BoxLe h h'->K (.one .nil) h') :
  HSpec prog 226 [.one (.ptr l 0),.agg (S.enc.map C.d),.one c,.one (.d (.int .i64 (i:Int)))] h K:=by
 refine HSpec.good Tryz.func226 rfl (by kernel_rfl) fun hg=>?_;refine HSpec.of_vc Tryz.func226 rfl (by kernel_rfl) (n:=99) rfl rfl (by simp) ?_;have hl:=m.lt l (Y05 ..);obtain⟨lo,cap,z,c',rfl,hb,hz,t1,t0,t2,hc,-⟩:=r.at0 hi h00;have hlo:=hg lo z hb;rcases Bool.eq_false_or_eq_true (M.step.kind == 13) with hk13 | hk13
 all_goals
  simp[m.bx,ne_new hl,Z05 hl,hk13,hb,hi,t1,ne_new hlo,Z05 hlo];refine lenK0 hc ?_;simp;refine Wait.skip ?_;simp;have hs:Same h (h.setBox (h.ep,80) [C.d (D.sl (S.tables.map Tbl.enc)),C.d (D.sl (S.fks.map Fk.enc)),C.d (D.sl (S.cons.map Cons.enc))]).next []:=by repeat' first | exact Same.refl | apply Same.next | (refine Same.setBox ?_ (.inr (by simp)))
  exact hk _ hs (hs.boxLe hg)
theorem Zrn {h:HS} {l:Lab} {z:List C} (hb:h.box l=some z):Same h (h.setBox l z) []:=⟨Y09 _,fun k _ _=>by by_cases hk:k=l<;>simp[hk,hb]⟩
theorem Zh4 (h:HS) (l9:Lab) (c cr:C) (rs:List Rel) (i:Nat) (hb9:h.box l9=some [c]) (hl9:l9.1 < h.ep) (hn:l9 ∉ labs c) (r:RelAt h c rs) (hi:i < rs.length) (h00:rs[i].rows=[]) (K:V->HS->Prop) (hk:∀ h',Same h h' []->BoxLe h h'->K (.one (.d (.bool false))) h') :
  HSpec prog 222 [.one (.d (.int .i64 (i:Int))),.one cr,.one (.ptr l9 0)] h K:=by
 refine HSpec.good Tryz.func222 rfl (by kernel_rfl) fun hg=>?_;refine HSpec.of_vc Tryz.func222 rfl (by kernel_rfl) (n:=32) rfl rfl (by simp) ?_;obtain⟨lo,cap,z,c',rfl,hb,hz,t1,t0,t2,hc,hset⟩:=r.at0 hi h00;have hlo:=hg lo z hb;simp[hb9,ne_new hl9,Z05 hl9,hb,hi,t1,ne_new hlo,Z05 hlo];refine lenK0 hc ?_;simp;have hs1:Same h (h.setBox (h.ep,64) [cr]).next []:=by repeat' first | exact Same.refl | apply Same.next | (refine Same.setBox ?_ (.inr (by simp)))
 refine Wait.cut (Plan.then_ [0,1,2,3,4,5,6,7,8,9,10,11] .done) follows (by kernel_rfl) (fun e1 h1=>e1.n=32/\e1.get 0=.one (.d (.int .i64 (i:Int)))/\e1.get 2=.one (.ptr l9 0)/\e1.get 6=.one (.d (.int .i64 0))/\h1.box l9=some [.mrow lo 0 rs.length cap]/\h1.box lo=some z/\Same h h1 []) ?_ ?_
 .simp[hb9,ne_new hl9,Z05 hl9,hb,hi,t1,ne_new hlo,Z05 hlo];refine Z00 ?_;simp;refine Zfz _ c' _ hc _ fun h2 hs2 bl=>?_;have b9:=hs2.2 l9 (by simp;omega) (by simp);have bo:=hs2.2 lo (by simp;omega) (by simp);simp[hb9,hb,ne_new hl9,ne_new hlo] at b9 bo;simp[b9,bo,hi];refine⟨bl,by omega,?_⟩;rw[hset];have hs3:=(hs1.trans hs2).trans (Zrn bo);have b9':=hs3.2 l9 hl9 (by simp);have bo':=hs3.2 lo hlo (by simp);rw[hb9] at b9';rw[hb] at bo';refine CutK.of ⟨by simp,by simp,by simp,by simp,b9',bo',hs3⟩
 .rintro e1 h1 ⟨en,e0,e2,e6,b9,bo,hs⟩;simp[en,e0,e2,e6,b9,bo,hi,t1];refine lenK0 hc ?_;simp[en,e0,e2,e6];exact hk _ hs (hs.boxLe hg)
structure VisI (h:HS) (lb l:Lab) (co cn c:C) (M:Mp) (S:Sch) (inst:List Rel) (h':HS):Prop where
 b5:h'.box (h.ep,80)=some [.d (.sl (S.tables.map Tbl.enc)),.d (.sl (S.fks.map Fk.enc)),.d (.sl (S.cons.map Cons.enc))]
 b9:h'.box lb=some [c]
 r:RelAt h' c inst
 m:MpAt h' l co cn M
 s:Same h h' []
 e:h.ep < h'.ep
 e9:lb.1 < h'.ep
 el:∀ k ∈ labs c,h.ep<=k.1/\k.1 < h'.ep
theorem VisI.step {h h1 h2:HS} {lb l:Lab} {co cn c:C} {M:Mp} {S:Sch} {inst:List Rel} (v:VisI h lb l co cn c M S inst h1) (s:Same h1 h2 []):VisI h lb l co cn c M S inst h2:=
 ⟨by rw[s.2 _ (by simpa using v.e) (by simp),v.b5],by rw[s.2 _ v.e9 (by simp),v.b9],v.r.frame fun k hk=>s.2 k (v.el k hk).2 (by simp),v.m.frame s,v.s.trans s,Y04 v.e s.1,Y04 v.e9 s.1,fun k hk=>⟨(v.el k hk).1,Y04 (v.el k hk).2 s.1⟩⟩
theorem Zev (h:HS) (l:Lab) (co cn:C) (M:Mp) (S:Sch) (inst hid:List Rel) (m:MpAt h l co cn M) (h0i:∀ r ∈ inst,r.rows=[]) (h0h:∀ r ∈ hid,r.rows=[]) (hlen:inst.length<=2097152) (hle:hid.length<=inst.length) (K:V->HS->Prop)
  (hk:∀ c h',RelAt h' c inst->Same h h' []->(∀ k ∈ labs c,h.ep<=k.1/\k.1 < h'.ep)->BoxLe h h'->K (.one c) h') :
  HSpec prog 198 [.one (.ptr l 0),.agg (S.enc.map C.d),.one (.d (.sl (inst.map Rel.enc))),.one (.d (.sl (hid.map Rel.enc)))] h K:=by
 refine HSpec.good Tryz.func198 rfl (by kernel_rfl) fun hg=>?_;refine HSpec.of_vc Tryz.func198 rfl (by kernel_rfl) (n:=47) rfl rfl (by simp) ?_;have hl:=m.lt l (Y05 ..);simp[m.bx,ne_new hl,Z05 hl];have hA:Same h (h.setBox (h.ep,80) (S.enc.map C.d)).next []:=by repeat' first | exact Same.refl | apply Same.next | (refine Same.setBox ?_ (.inr (by simp)))
 refine Z00 (Zbw _ inst h0i hlen _ fun c h2 rc hs2 hlc bl=>?_);have b5:=hs2.2 (h.ep,80) (by simp) (by simp);have hep:=hs2.1;simp at b5 hep;have hne:h2.ep≠h.ep:=by omega
 have hne':h.ep≠h2.ep:=by omega
 simp[b5,hne,hne'];intro hhl;obtain⟨h3,hh3⟩:∃ h3,h3=(h2.setBox (h2.ep,144) [C.nil]).next.setBox (h2.ep,144) [c]:=⟨_,rfl⟩;rw[<- hh3];have hB:Same h2 h3 []:=hh3 ▸ S2;have hn9:(h2.ep,144) ∉ labs c:=fun h9=>by have:=(hlc _ h9).2;simp at this
 have v3:VisI h (h2.ep,144) l co cn c M S inst h3:=by
  have s3:=(hA.trans hs2).trans hB;exact⟨by rw[hB.2 _ (by simp;omega) (by simp),b5],by rw[hh3];simp,rc.frame fun k hk=>hB.2 k (hlc k hk).2 (by simp),m.frame s3,s3,Y04 (by omega) hB.1,by rw[hh3];simp,fun k hk=>⟨by have:=(hlc k hk).1;simp at this;omega,Y04 (hlc k hk).2 hB.1⟩⟩
 refine Wait.for (xs:=hid) (s0:=()) (fun i s e h'=>e.n=47/\e.get 0=.one (.ptr l 0)/\e.get 5=.one (.ptr (h.ep,80) 0)/\e.get 9=.one (.ptr (h2.ep,144) 0)/\e.get 10=.one (.fn 222 [.lab (h2.ep,144)])/\e.get 18=.one (.d (.sl (hid.map Rel.enc)))/\e.get 19=.one (.d (.int .i64 (hid.length:Int)))/\e.get 20=.one (.d (.int .i64 (i:Int)))/\VisI h (h2.ep,144) l co cn c M S inst h') (Z7s hid 0) ⟨by simp,by simp,by simp,by simp,by simp,by simp,by simp,by simp,v3⟩ ?_ ?_
 .rintro i s e h' ⟨hn,e0,e5,e9,e10,e18,e19,e20,v⟩ hlt hm;have hw:IntKind.i64.wrap ((i:Int)+1)=(i:Int)+1:=Y0a _ (by omega);have hii:i < inst.length:=by omega
  simp[hn,e0,e5,e9,e10,e18,e19,e20,hlt,Rel.enc];refine Z00 ?_;simp[capV];have hS:Same h' _ []:=S2 (h:=h') (b:=192) (cs:=[C.d (D.str empty),C.nil]) (cs':=[C.d (D.str hid[i].table),C.d (D.sl (List.map (encL GV.enc) hid[i].rows))]);have v1:=v.step hS;refine Zh4 _ (h2.ep,144) c _ inst i v1.b9 v1.e9 hn9 v1.r hii (h0i _ (Y0p hii)) _ fun h4 hs4 bl4=>?_;have v4:=v1.step hs4;simp[hn,e0,e5,e9,e10,e18,e19,e20,hw];refine BackF.of () ⟨⟨by simp[hn],by simp[e0],by simp[e5],by simp[e9],by simp[e10],by simp[e18],by simp[e19],by simp,v4⟩,hm⟩
 .rintro s e h' ⟨hn,e0,e5,e9,e10,e18,e19,e20,v⟩ hm;simp[hn,e0,e5,e9,e10,e18,e19,e20];refine Wait.for (xs:=[()]) (s0:=()) (fun i s e h'=>e.n=47/\e.get 0=.one (.ptr l 0)/\e.get 5=.one (.ptr (h.ep,80) 0)/\e.get 9=.one (.ptr (h2.ep,144) 0)/\e.get 10=.one (.fn 222 [.lab (h2.ep,144)])/\e.get 13=.one (.d (.bool (decide (i=0))))/\VisI h (h2.ep,144) l co cn c M S inst h') (Z7s [()] 0) ⟨by simp[hn],by simp[e0],by simp[e5],by simp[e9],by simp[e10],by simp[hn],v⟩ ?_ ?_
  .rintro i s e h' ⟨hn,e0,e5,e9,e10,e13,v⟩ hlt hm;obtain rfl:i=0:=by simp at hlt;exact hlt
   simp[hn,e0,e5,e9,e10,e13,v.b9];obtain⟨xs,mx,-,hxl,-⟩:=v.r.len;refine MR.lenK mx ?_;simp[hn,hxl];refine Wait.for (xs:=inst) (s0:=()) (fun i s e h'=>e.n=47/\e.get 0=.one (.ptr l 0)/\e.get 5=.one (.ptr (h.ep,80) 0)/\e.get 9=.one (.ptr (h2.ep,144) 0)/\e.get 10=.one (.fn 222 [.lab (h2.ep,144)])/\e.get 13=.one (.d (.bool false))/\e.get 33=.one (.d (.int .i64 (inst.length:Int)))/\e.get 34=.one (.d (.int .i64 (i:Int)))/\VisI h (h2.ep,144) l co cn c M S inst h') (Z7s inst 0) ⟨by simp[hn],by simp[e0],by simp[e5],by simp[e9],by simp[e10],by simp[hn],by simp[hn],by simp[hn],v⟩ ?_ ?_
   .rintro i s e h' ⟨hn,e0,e5,e9,e10,e13,e33,e34,v⟩ hlt hm;have hw:IntKind.i64.wrap ((i:Int)+1)=(i:Int)+1:=Y0a _ (by omega);have hr0:=h0i _ (Y0p hlt);simp[hn,e0,e5,e9,e10,e13,e33,e34,hlt,v.b5,v.b9];refine Z00 (Zfy _ l co cn c M S inst i v.m v.r hlt hr0 _ fun h4 hs4 bl4=>?_);have v4:=v.step hs4;simp[hn,e0,e5,e9,e10,e13,e33,e34];refine Z00 ?_;simp[capV];refine Zh4 _ (h2.ep,144) c _ inst i v4.b9 v4.e9 hn9 v4.r hlt hr0 _ fun h5 hs5 bl5=>?_;have v5:=v4.step hs5;simp[hn,e0,e5,e9,e10,e13,e33,e34,hw];refine BackF.of () ⟨⟨by simp[hn],by simp[e0],by simp[e5],by simp[e9],by simp[e10],by simp[e13],by simp[e33],by simp,v5⟩,hm⟩
   .rintro s e h' ⟨hn,e0,e5,e9,e10,e13,e33,e34,v⟩ _;simp[hn,e0,e5,e9,e10,e13,e33,e34];refine BackF.of () ⟨⟨by simp[hn],by simp[e0],by simp[e5],by simp[e9],by simp[e10],by simp[e13],v⟩,hm⟩
  .rintro s e h' ⟨hn,e0,e5,e9,e10,e13,v⟩ hm;simp[hn,e0,e5,e9,e10,e13,v.b9];exact hk c h' v.r v.s v.el (v.s.boxLe hg)
def noRows (rs:List Rel):Bool:=rs.all fun r=>r.rows.isEmpty
theorem Z7d {rs:List Rel} (h:noRows rs=true):∀ r ∈ rs,r.rows=[]:=fun r hr=>by simpa using Y1a.1 h r hr
def Z27 (M:Mp):Option Mp:=
 chkK (noRows M.inp=true/\noRows M.comp=true/\M.comp.length<=M.inp.length/\M.src.tables.length<=M.inp.length/\M.inp.length<=2097152) (some { M with out:=M.inp })
theorem MpAt.newOut {h h':HS} {l:Lab} {co cn c:C} {M:Mp} {o:List Rel} (m:MpAt h l co cn M) (s:Same h h' []) (r:RelAt h' c o) (hl:∀ k ∈ labs c,h.ep<=k.1/\k.1 < h'.ep) :
  MpAt (h'.setBox l (mpC { M with out:=o } c cn)) l c cn { M with out:=o }/\Same h (h'.setBox l (mpC { M with out:=o } c cn)) [l]:=by
 have hlt:=m.lt;have hep:=s.1;have nk:∀ k ∈ labs c,k≠l:=fun k hk h9=>by subst h9;have:=(hl k hk).1;have:=hlt k (Y05 ..);omega
 refine⟨⟨by simp,r.frame fun k hk=>by simp[nk k hk],(m.frame s).nc.frame fun k hk=>?_,fun k hk=>?_,fun h9=>nk l h9 rfl,m.nl.2.1,fun k hk h9=>?_⟩,(s.mono (by simp)).setBox (.inl (by simp))⟩
 .have:k≠l:=fun h9=>m.nl.2.1 (h9 ▸ hk)
  simp[this]
 .simp only[Y08,Y02] at hk;simp;rcases hk with rfl | hk | hk
  .have:=hlt k (Y05 ..);omega
  .exact (hl k hk).2
  .have:=hlt k (by simp[hk]);omega
 .have:=(hl k hk).1
  have:=hlt k (by simp[h9])
  omega
theorem Z68 (h0:HS) (l:Lab) (co cn:C) (M M1:Mp) (hm:Is (Z27 M) M1) (m:MpAt h0 l co cn M) (K:V->HS->Prop)
  (hK:∀ h' co' cn',MpAt h' l co' cn' M1->Same h0 h' (l::(labs co++labs cn))->K (.tup []) h'):HSpec prog 153 [.one (.ptr l 0)] h0 K:=by
 refine HSpec.of_vc Tryz.func153 rfl (by kernel_rfl) (n:=88) rfl rfl (by simp) ?_;obtain⟨⟨hi,hc,hle,hst,hil⟩,hm⟩:=hm.chk;obtain rfl:=r_ret hm;have hl:=m.lt l (Y05 ..);simp[m.bx,ne_new hl,Z05 hl];refine Wait.cut (Plan.then_ [0,1,2,3,4,5,6,7,8,9,10,11,12,13,14,15,16,17] .done) follows (by kernel_rfl) (fun e h=>∃ c,e.n=88/\e.get 0=.one (.ptr l 0)/\MpAt h l c cn { M with out:=M.inp }/\Same h0 h (l::(labs co++labs cn))) ?_ ?_
 .simp[m.bx,ne_new hl,Z05 hl];refine Z00 ?_;simp;refine Zev _ l co cn M M.dst M.inp M.comp m (Z7d hi) (Z7d hc) hil hle _ fun c h2 r hs2 hlc bl=>?_;simp[(m.frame hs2).bx];refine⟨bl,?_⟩;have hn:=m.newOut (o:=M.inp) hs2 r hlc;refine CutK.of ⟨c,by simp,by simp,hn.1,hn.2.mono (by simp +contextual)⟩
 .rintro e h ⟨c,en,e0,m1,hs1⟩;simp[en,e0,m1.bx];intro htl;refine Wait.for (xs:=M.src.tables) (s0:=()) (fun i s e h'=>e.n=88/\e.get 0=.one (.ptr l 0)/\e.get 29=.one (.d (.sl (M.src.tables.map Tbl.enc)))/\e.get 30=.one (.d (.int .i64 (M.src.tables.length:Int)))/\e.get 31=.one (.d (.int .i64 (i:Int)))/\MpAt h' l c cn { M with out:=M.inp }/\Same h0 h' (l::(labs co++labs cn))) (Z7s _ 0) ⟨by simp[en],by simp[e0],by simp[en],by simp[en],by simp[en],m1,hs1⟩ ?_ ?_
  .rintro i s e h' ⟨en,e0,e29,e30,e31,m2,hs2⟩ hlt hm;have hw:IntKind.i64.wrap ((i:Int)+1)=(i:Int)+1:=Y0a _ (by omega);have hii:i < M.inp.length:=by omega
   have hl2:=m2.lt l (Y05 ..);have hr0:=Z7d hi _ (Y0p hii);simp[en,e0,e29,e30,e31,hlt,m2.bx,ne_new hl2,Z05 hl2,Tbl.enc,Rel.enc,hii,hr0];refine Wait.skip ?_;simp[en,e0,e29,e30,e31,hw];have hS:Same h' _ []:=S2 (h:=h') (b:=48) (cs:=[C.d (D.str empty),C.nil,C.nil]) (cs':=[C.d (D.str M.src.tables[i].name),C.d (D.sl (List.map Col.enc M.src.tables[i].cols)),C.d (D.sl (List.map encI M.src.tables[i].pk))]);refine BackF.of () ⟨⟨by simp[en],by simp[e0],by simp[e29],by simp[e30],by simp,m2.frame hS,hs2.trans (hS.mono (by simp))⟩,hm⟩
  .rintro s e h' ⟨en,e0,e29,e30,e31,m2,hs2⟩ _;simp[en,e0,e29,e30,e31];exact hK h' c cn m2 hs2
end
section
open Go.Am
def Z2d (s1:List Rel) (s2:List Rel) (eq:Rel->Rel->Option Bool):Option Bool:=
 (bif ((s1.length:Int) != (s2.length:Int)) then (some false) else (forK (fun (i5:Nat) (x5:Rel) (s5:Unit) next_5=>(getK s2 (i5:Int) fun x7=>(bindK (eq x5 x7) fun v9=>(bif !v9 then (some false) else (next_5 ()))))) (fun (s5:Unit)=>(some true)) s1 0 ()))
instance i_slices_EqualFunc_Relation (s1:List Rel) (s2:List Rel) (eq:Rel->Rel->Option Bool) {g:FuncId} {caps:List (List D)} [ConG eq prog (fun x=>.agg x.enc) (fun x=>.agg x.enc) (fun v=>.one (.d (.bool v))) g caps]:Con (Z2d s1 s2 eq) prog 91 [.one (.d (.sl (s1.map Rel.enc))),.one (.d (.sl (s2.map Rel.enc))),.one (.fn g caps)] (fun r=>.one (.d (.bool r))):=by
 unfold Z2d;have l1:LH (σ:=Unit) 17 [1,2,15,16] []:=.intro;exact go 32 Tryz.func91 rfl (by kernel_rfl) rfl rfl (by simp)
def Z51 (s1:List (List GV)) (s2:List (List GV)) (eq:(List GV)->(List GV)->Option Bool):Option Bool:=
 (bif ((s1.length:Int) != (s2.length:Int)) then (some false) else (forK (fun (i5:Nat) (x5:List GV) (s5:Unit) next_5=>(getK s2 (i5:Int) fun x6=>(bindK (eq x5 x6) fun v7=>(bif !v7 then (some false) else (next_5 ()))))) (fun (s5:Unit)=>(some true)) s1 0 ()))
instance i_slices_EqualFunc_Row (s1:List (List GV)) (s2:List (List GV)) (eq:(List GV)->(List GV)->Option Bool) {g:FuncId} {caps:List (List D)} [ConG eq prog (fun x=>.one (.d (.sl (x.map GV.enc)))) (fun x=>.one (.d (.sl (x.map GV.enc)))) (fun v=>.one (.d (.bool v))) g caps]:Con (Z51 s1 s2 eq) prog 112 [.one (.d (.sl (s1.map (encL GV.enc)))),.one (.d (.sl (s2.map (encL GV.enc)))),.one (.fn g caps)] (fun r=>.one (.d (.bool r))):=by
 unfold Z51;have l1:LH (σ:=Unit) 17 [1,2,15,16] []:=.intro;exact go 32 Tryz.func112 rfl (by kernel_rfl) rfl rfl (by simp)
def Z5n (s1:List GV) (s2:List GV):Option Bool:=
 (bif ((s1.length:Int) != (s2.length:Int)) then (some false) else (forK (fun (i5:Nat) (x5:GV) (s5:Unit) next_5=>(getK s2 (i5:Int) fun x6=>(bif (!(x5.kind == x6.kind) || (!(x5.int == x6.int) || (!(x5.text == x6.text)))) then (some false) else (next_5 ())))) (fun (s5:Unit)=>(some true)) s1 0 ()))
instance c_slices_Equal_Value (s1:List GV) (s2:List GV):Con (Z5n s1 s2) prog 114 [.one (.d (.sl (s1.map GV.enc))),.one (.d (.sl (s2.map GV.enc)))] (fun r=>.one (.d (.bool r))):=by
 unfold Z5n;have l1:LH (σ:=Unit) 13 [0,1,12] []:=.intro;have p1:PH [6] (Plan.then_ [0,1,2,3,4,5,6,7,8] .done):=.intro;exact go 26 Tryz.func114 rfl (by kernel_rfl) rfl rfl (by simp)
def Z56 (x:List GV) (y:List GV):Option Bool:=
 (bindK (Z5n x y) fun v1=>(some v1))
instance c_relation_Equal_1 (x:List GV) (y:List GV):Con (Z56 x y) prog 113 [.one (.d (.sl (x.map GV.enc))),.one (.d (.sl (y.map GV.enc)))] (fun r=>.one (.d (.bool r))):=by
 unfold Z56;exact go 8 Tryz.func113 rfl (by kernel_rfl) rfl rfl (by simp)
instance f_relation_Equal_1  : ConG (fun x y=>Z56 x y) prog (fun x=>.one (.d (.sl (x.map GV.enc)))) (fun x=>.one (.d (.sl (x.map GV.enc)))) (fun r=>.one (.d (.bool r))) 113 []:=⟨fun x y=>(c_relation_Equal_1 x y)⟩
def Z6y (a:List (List GV)) (b:List (List GV)):Option Bool:=
 (bindK (Z51 a b (fun xa_ xb_=>Z56 xa_ xb_)) fun v1=>(some v1))
instance c_relation_Equal (a:List (List GV)) (b:List (List GV)):Con (Z6y a b) prog 93 [.one (.d (.sl (a.map (encL GV.enc)))),.one (.d (.sl (b.map (encL GV.enc))))] (fun r=>.one (.d (.bool r))):=by
 unfold Z6y;exact go 8 Tryz.func93 rfl (by kernel_rfl) rfl rfl (by simp)
def Z48 (x:Rel) (y:Rel):Option Bool:=
 (bif strEq x.table y.table then (bindK (Z6y x.rows y.rows) fun v4=>(some v4)) else (some false))
instance c_instance_Equal_1 (x:Rel) (y:Rel):Con (Z48 x y) prog 92 [.agg x.enc,.agg y.enc] (fun r=>.one (.d (.bool r))):=by
 unfold Z48;exact go 17 Tryz.func92 rfl (by kernel_rfl) rfl rfl (by simp)
instance f_instance_Equal_1  : ConG (fun x y=>Z48 x y) prog (fun x=>.agg x.enc) (fun x=>.agg x.enc) (fun r=>.one (.d (.bool r))) 92 []:=⟨fun x y=>(c_instance_Equal_1 x y)⟩
def Z1z (a:List Rel) (b:List Rel):Option Bool:=
 (bindK (Z2d a b (fun xa_ xb_=>Z48 xa_ xb_)) fun v1=>(some v1))
instance c_instance_Equal (a:List Rel) (b:List Rel):Con (Z1z a b) prog 59 [.one (.d (.sl (a.map Rel.enc))),.one (.d (.sl (b.map Rel.enc)))] (fun r=>.one (.d (.bool r))):=by
 unfold Z1z;exact go 8 Tryz.func59 rfl (by kernel_rfl) rfl rfl (by simp)
instance f_instance_Equal  : ConG (fun x y=>Z1z x y) prog (fun x=>.one (.d (.sl (x.map Rel.enc)))) (fun x=>.one (.d (.sl (x.map Rel.enc)))) (fun r=>.one (.d (.bool r))) 59 []:=⟨fun x y=>(c_instance_Equal x y)⟩
end
section
open Go Go.Am
def Z26 (M:Mp):Option Mp:=
 bindK (Z19 M.src) fun z=>chkK (noRows M.inp=true/\noRows z=true/\z.length<=M.inp.length/\M.inp.length<=2097152/\noRows M.comp=true/\M.src.tables.length<=M.comp.length)
  (bindK (Z1z M.inp M.inp) fun q=>chkK (q=true) (some M))
theorem Z67 (h0:HS) (l:Lab) (co cn:C) (M M1:Mp) (hm:Is (Z26 M) M1) (m:MpAt h0 l co cn M) (K:V->HS->Prop)
  (hK:∀ h',MpAt h' l co cn M1->Same h0 h' (labs co++labs cn)->K (.tup []) h'):HSpec prog 154 [.one (.ptr l 0)] h0 K:=by
 refine HSpec.of_vc Tryz.func154 rfl (by kernel_rfl) (n:=113) rfl rfl (by simp) ?_;obtain⟨z,hz,hm⟩:=hm.bind;obtain⟨⟨hi,hz0,hle,hil,hc,hst⟩,hm⟩:=hm.chk;obtain⟨q,hq,hm⟩:=hm.bind;obtain⟨hq1,hm⟩:=hm.chk;subst hq1;obtain rfl:=r_ret hm;have hl:=m.lt l (Y05 ..);simp[m.bx,ne_new hl,Z05 hl];refine Wait.cut (Plan.then_ [0,1,2,3,4,5,6,7,8,9,10,11,12,15,16,17,18,13,14,19,20] .done) follows (by kernel_rfl) (fun e h=>e.n=113/\e.get 0=.one (.ptr l 0)/\e.get 28=.one (.d (.bool false))/\Same h0 h []) ?_ ?_
 .simp[m.bx,ne_new hl,Z05 hl];refine Z08 ((c_instance_Empty M.src).h z hz) (by simp) ?_;simp[m.bx,ne_new hl,Z05 hl];refine⟨fun _ _ x=>x,?_⟩;have hA:Same h0 h0.next []:=.next .refl;refine Z00 ?_;refine Zev _ l co cn M M.src M.inp z (m.frame hA) (Z7d hi) (Z7d hz0) hil hle _ fun c h2 r hs2 hlc bl=>?_;have m2:=m.frame (hA.trans hs2);simp[m2.bx];refine⟨bl,?_⟩;refine Z00 (HSpec.of_lend ((c_instance_Equal M.inp M.inp).h true hq) ⟨.one (.frz r.frz),.one (.frz (.data rfl)),trivial⟩ (by simp[RV.flat,RV1.flat,RC.flat,D.flat]) ?_);simp[m2.bx];refine⟨fun _ _ x=>x,CutK.of ⟨by simp,by simp,by simp,(hA.trans hs2).next⟩⟩
 .rintro e h ⟨en,e0,e28,hs1⟩;have m1:=m.frame hs1;have hl1:=m1.lt l (Y05 ..);simp[en,e0,e28,m1.bx];intro htl;refine Wait.for (xs:=M.src.tables) (s0:=()) (fun i s e h'=>e.n=113/\e.get 0=.one (.ptr l 0)/\e.get 36=.one (.d (.sl (M.src.tables.map Tbl.enc)))/\e.get 37=.one (.d (.int .i64 (M.src.tables.length:Int)))/\e.get 38=.one (.d (.int .i64 (i:Int)))/\MpAt h' l co cn M/\Same h0 h' []) (Z7s _ 0) ⟨by simp[en],by simp[e0],by simp[en],by simp[en],by simp[en],m1,hs1⟩ ?_ ?_
  .rintro i s e h' ⟨en,e0,e29,e30,e31,m2,hs2⟩ hlt hm;have hw:IntKind.i64.wrap ((i:Int)+1)=(i:Int)+1:=Y0a _ (by omega);have hii:i < M.comp.length:=by omega
   have hl2:=m2.lt l (Y05 ..);have hr0:=Z7d hc _ (Y0p hii);simp[en,e0,e29,e30,e31,hlt,m2.bx,ne_new hl2,Z05 hl2,Tbl.enc,Rel.enc,hii,hr0];refine Wait.skip ?_;simp[en,e0,e29,e30,e31,hw];have hS:Same h' _ []:=S2 (h:=h') (b:=48) (cs:=[C.d (D.str empty),C.nil,C.nil]) (cs':=[C.d (D.str M.src.tables[i].name),C.d (D.sl (List.map Col.enc M.src.tables[i].cols)),C.d (D.sl (List.map encI M.src.tables[i].pk))]);refine BackF.of () ⟨⟨by simp[en],by simp[e0],by simp[e29],by simp[e30],by simp,m2.frame hS,hs2.trans hS⟩,hm⟩
  .rintro s e h' ⟨en,e0,e29,e30,e31,m2,hs2⟩ _;simp[en,e0,e29,e30,e31];exact hK h' m2 (hs2.mono (by simp))
theorem Z8n (h:HS) (c:C) (xs:List (List C)) (hr:RowAt h 2 c xs) (K:V->HS->Prop)
  (hk:∀ c' h',MR h' 2 c' xs->Same h h' []->(∀ l ∈ labs c',h.ep<=l.1/\l.1 < h'.ep)->BoxLe h h'->K (.one c') h') :
  HSpec prog 124 [.one c] h K:=by
 have F:=Tryz.func124;have EL:=@Zab;exact Z9o
end
section
open Go.Am

def Z0p (m:Mp):Option Mp:=
 (bif !m.fwd then (bindK (Z0m m m.step.newName) fun v2=>(bindK (Z30 m m.step.table v2.2) fun v4=>(some v4))) else (bindK (Z0m m m.step.table) fun v5=>(bindK (Z30 m m.step.newName v5.2) fun v7=>(some v7))))
instance c_lens_mapping__renameTable (m:Mp):ConM (Z0p m) m (fun r=>r) prog 144 [] (fun _=>.tup []):=by
 unfold Z0p;have p1:PH [0] (Plan.then_ [0,1,2,3,4,5,6,7,8,9,10,11] .done):=.intro;exact goM 33 Tryz.func144 rfl (by kernel_rfl) rfl rfl trivial (by simp)

def Z4b (step:Stp):Option ByteArray:=
 (bif (step.kind == 10) then (some step.newTable.name) else (some step.table))
instance c_evolution_TableName (step:Stp):Con (Z4b step) prog 197 [.agg step.enc] (fun r=>.one (.d (.str r))):=by
 unfold Z4b;exact go 11 Tryz.func197 rfl (by kernel_rfl) rfl rfl (by simp)
def Z0c (m:Mp) (hide:Bool):Option Mp:=
 (bindK (Z4b m.step) fun v1=>(bif hide then (bindK (Z0m m v1) fun v3=>(bindK (Z3g m v1 v3.2) fun v5=>(some v5))) else (bindK (Z06 m.cs m.comp v1) fun v6=>(bindK (Z30 m v1 v6.2) fun v8=>(bindK (Z0j v6.2) fun v9=>(bindK (Z3g v8 v1 v9) fun v10=>(some v10)))))))
instance c_lens_mapping__hideTable (m:Mp) (hide:Bool):ConM (Z0c m hide) m (fun r=>r) prog 152 [.one (.d (.bool hide))] (fun _=>.tup []):=by
 unfold Z0c;have p1:PH [4] (Plan.then_ [0,1,2,3,4,5,6,7,8] (.two 9 13 (Plan.then_ [10,11,12,13,14,15] .done) (Plan.then_ [9,10,11,12,14,15] .done))):=.intro;exact goM 47 Tryz.func152 rfl (by kernel_rfl) rfl rfl trivial (by simp)
end
section
open Go Go.Am
def Z11 (M:Mp):Option Mp:=chkK (1<=M.step.kind/\M.step.kind<=16) <|
 if M.step.kind=1 then (if M.fwd then Z0a M else Z09 M)
 else if M.step.kind=2 then (if M.fwd then Z09 M else Z0a M)
 else if M.step.kind=3 then some M
 else if M.step.kind=4 then Z0p M
 else if M.step.kind=5 then Z1r M
 else if M.step.kind=6 then (if M.fwd then Z45 M else Z4j M)
 else if M.step.kind=7 then (if M.fwd then Z4j M else Z45 M)
 else if M.step.kind=8 then (if M.fwd then Z4f M else Z59 M)
 else if M.step.kind=9 then (if M.fwd then Z5a M else Z4q M)
 else if M.step.kind=10 then Z0c M (!M.fwd)
 else if M.step.kind=11 then Z0c M M.fwd
 else if M.step.kind=12 then Z1r M
 else if M.step.kind=13\/M.step.kind=15 then (if M.fwd then Z27 M else Z26 M)
 else (if M.fwd then Z26 M else Z27 M)
def DoneM (f:FuncId) (vs:List V) (h0:HS) (l:Lab) (co cn:C) (M1:Mp):Prop:=
 ∀ K:V->HS->Prop,(∀ h' co' cn',MpAt h' l co' cn' M1->Same h0 h' (l::(labs co++labs cn))->K (.tup []) h')->HSpec prog f (.one (.ptr l 0)::vs) h0 K
theorem DoneM.of {f:FuncId} {vs:List V} {h0:HS} {l:Lab} {co cn:C} {M1:Mp} (H:∀ K:V->HS->Prop,(∀ h',MpAt h' l co cn M1->Same h0 h' (labs co++labs cn)->K (.tup []) h')->HSpec prog f (.one (.ptr l 0)::vs) h0 K):DoneM f vs h0 l co cn M1:=
 fun K hK=>H K fun h' m' hs=>hK h' co cn m' (hs.mono (by simp +contextual))
theorem DoneM.con {f:FuncId} {vs:List V} {av:List AV} {h0:HS} {l:Lab} {co cn:C} {M M1:Mp} {m1:Option Mp} [i:ConM m1 M (fun r=>r) prog f av (fun _=>.tup [])] (hm:Is m1 M1) (m:MpAt h0 l co cn M) (hv:toAs h0 vs=some av):DoneM f vs h0 l co cn M1:=
 .of fun K hK=>i.h M1 hm h0 l co cn vs K m hv hK
theorem DoneM.call {f:FuncId} {vs:List V} {h0:HS} {l:Lab} {co cn:C} {M1:Mp} {d:Nat} {e:Env} {K:V->HS->Prop} {Kc:Env->HS->Prop} (H:DoneM f vs h0 l co cn M1) (hK:∀ h' co' cn',MpAt h' l co' cn' M1->Same h0 h' (l::(labs co++labs cn))->K (.tup []) h')
  (hk:∀ h',K (.tup []) h'->Kc (e.put (some d) (.tup [])) h'):callK prog f [] (.one (.ptr l 0)::vs) d e h0 (K:=⟨Kc⟩):=
 Z00 (by simpa using H (fun v h'=>Kc (e.put (some d) v) h') fun h' co' cn' m' hs=>hk h' (hK h' co' cn' m' hs))
theorem Zdl (h0:HS) (l:Lab) (co cn:C) (M M1:Mp) (hm:Is (Z11 M) M1) (m:MpAt h0 l co cn M) (K:V->HS->Prop)
  (hK:∀ h' co' cn',MpAt h' l co' cn' M1->Same h0 h' (l::(labs co++labs cn))->K (.tup []) h'):HSpec prog 123 [.one (.ptr l 0)] h0 K:=by
 refine HSpec.of_vc Tryz.func123 rfl (by kernel_rfl) (n:=98) rfl rfl (by simp) ?_;unfold Z11 at hm;obtain⟨hk,hm⟩:=hm.chk;have hb:=m.bx;have hfw:M.fwd=true\/M.fwd=false:=by cases M.fwd<;>simp
 have hkk:M.step.kind=1\/M.step.kind=2\/M.step.kind=3\/M.step.kind=4\/M.step.kind=5\/M.step.kind=6\/M.step.kind=7\/M.step.kind=8\/M.step.kind=9\/M.step.kind=10\/M.step.kind=11\/M.step.kind=12\/M.step.kind=13\/M.step.kind=14\/M.step.kind=15\/M.step.kind=16:=by omega
 rcases hkk with hk | hk | hk | hk | hk | hk | hk | hk | hk | hk | hk | hk | hk | hk | hk | hk<;>rcases hfw with hf | hf<;>simp[hk,hf] at hm<;>simp[hb,hk,hf]
 .exact DoneM.call (DoneM.con (m1:=Z0a M) hm m rfl) hK fun h' hk'=>by simpa using hk'
 .exact DoneM.call (DoneM.con (m1:=Z09 M) hm m rfl) hK fun h' hk'=>by simpa using hk'
 .exact DoneM.call (DoneM.con (m1:=Z09 M) hm m rfl) hK fun h' hk'=>by simpa using hk'
 .exact DoneM.call (DoneM.con (m1:=Z0a M) hm m rfl) hK fun h' hk'=>by simpa using hk'
 .obtain rfl:=r_ret hm;exact hK h0 co cn m .refl
 .obtain rfl:=r_ret hm;exact hK h0 co cn m .refl
 .exact DoneM.call (DoneM.con (m1:=Z0p M) hm m rfl) hK fun h' hk'=>by simpa using hk'
 .exact DoneM.call (DoneM.con (m1:=Z0p M) hm m rfl) hK fun h' hk'=>by simpa using hk'
 .exact DoneM.call (DoneM.of (Z4c h0 l co cn M M1 hm m)) hK fun h' hk'=>by simpa using hk'
 .exact DoneM.call (DoneM.of (Z4c h0 l co cn M M1 hm m)) hK fun h' hk'=>by simpa using hk'
 .exact DoneM.call (DoneM.of (Zcb h0 l co cn M M1 hm m)) hK fun h' hk'=>by simpa using hk'
 .exact DoneM.call (DoneM.of (Zdk h0 l co cn M M1 hm m)) hK fun h' hk'=>by simpa using hk'
 .exact DoneM.call (DoneM.of (Zdk h0 l co cn M M1 hm m)) hK fun h' hk'=>by simpa using hk'
 .exact DoneM.call (DoneM.of (Zcb h0 l co cn M M1 hm m)) hK fun h' hk'=>by simpa using hk'
 .exact DoneM.call (DoneM.of (Zcn h0 l co cn M M1 hm m)) hK fun h' hk'=>by simpa using hk'
 .exact DoneM.call (DoneM.of (Zh5 h0 l co cn M M1 hm m)) hK fun h' hk'=>by simpa using hk'
 .exact DoneM.call (DoneM.of (Zh6 h0 l co cn M M1 hm m)) hK fun h' hk'=>by simpa using hk'
 .exact DoneM.call (DoneM.of (Zeb h0 l co cn M M1 hm m)) hK fun h' hk'=>by simpa using hk'
 .exact DoneM.call (DoneM.con (m1:=Z0c M false) hm m (by simp)) hK fun h' hk'=>by simpa using hk'
 .exact DoneM.call (DoneM.con (m1:=Z0c M true) hm m (by simp)) hK fun h' hk'=>by simpa using hk'
 .exact DoneM.call (DoneM.con (m1:=Z0c M true) hm m (by simp)) hK fun h' hk'=>by simpa using hk'
 .exact DoneM.call (DoneM.con (m1:=Z0c M false) hm m (by simp)) hK fun h' hk'=>by simpa using hk'
 .exact DoneM.call (DoneM.of (Z4c h0 l co cn M M1 hm m)) hK fun h' hk'=>by simpa using hk'
 .exact DoneM.call (DoneM.of (Z4c h0 l co cn M M1 hm m)) hK fun h' hk'=>by simpa using hk'
 .exact DoneM.call (fun K hK=>Z68 h0 l co cn M M1 hm m K hK) hK fun h' hk'=>by simpa using hk'
 .exact DoneM.call (DoneM.of (Z67 h0 l co cn M M1 hm m)) hK fun h' hk'=>by simpa using hk'
 .exact DoneM.call (DoneM.of (Z67 h0 l co cn M M1 hm m)) hK fun h' hk'=>by simpa using hk'
 .exact DoneM.call (fun K hK=>Z68 h0 l co cn M M1 hm m K hK) hK fun h' hk'=>by simpa using hk'
 .exact DoneM.call (fun K hK=>Z68 h0 l co cn M M1 hm m K hK) hK fun h' hk'=>by simpa using hk'
 .exact DoneM.call (DoneM.of (Z67 h0 l co cn M M1 hm m)) hK fun h' hk'=>by simpa using hk'
 .exact DoneM.call (DoneM.of (Z67 h0 l co cn M M1 hm m)) hK fun h' hk'=>by simpa using hk'
 .exact DoneM.call (fun K hK=>Z68 h0 l co cn M M1 hm m K hK) hK fun h' hk'=>by simpa using hk'
theorem toD_rd {c:C} {xs:List (List D)} (h:c.toD=some (.sl xs)):Rd c xs:=by
 cases c<;>simp[C.toD] at h<;>subst h<;>exact⟨rfl,rfl,fun _=>rfl⟩
def mpIn (M:Mp):List C:=M.step.enc.map C.d++[.d (.bool M.fwd),.d (.sl (M.src.tables.map Tbl.enc)),.d (.sl (M.src.fks.map Fk.enc)),.d (.sl (M.src.cons.map Cons.enc)),.d (.sl (M.dst.tables.map Tbl.enc)),.d (.sl (M.dst.fks.map Fk.enc)),.d (.sl (M.dst.cons.map Cons.enc)),
 .d (.sl (M.cs.tables.map Tbl.enc)),.d (.sl (M.cs.fks.map Fk.enc)),.d (.sl (M.cs.cons.map Cons.enc)),.nil,.nil,.nil,.nil,.d (.int .i64 0)]
def Z7e (M:Mp) (inp comp:List Rel):Option (List Rel × List Rel × Int):=
 bindK (Z0t M.src inp) fun e1=>bif e1 != 0 then some ([],[],e1) else
 bindK (Z0t M.cs comp) fun e2=>bif e2 != 0 then some ([],[],e2) else
 bindK (Z07 inp) fun i2=>bindK (Z07 comp) fun c2=>bindK (Z19 M.dst) fun o=>bindK (Z19 M.cs) fun n=>
 forK (fun (i:Nat) (rel:Rel) (s:List Rel) next=>bindK (Z02 M.src rel.table) fun f=>
  bif f.2 then bindK (Z06 M.src inp rel.table) fun q=>next (s.set i ⟨rel.table,q.2⟩) else next s)
 (fun s=>bindK (Z11 { M with inp:=i2,comp:=c2,out:=s,nc:=n,err:=0 }) fun M2=>chkK (M2.out.length+M2.nc.length<=2097152)
  (forK (fun (_:Nat) (rel:Rel) (e:Int) next=>next (bif decide (24 < rel.rows.length) && (e == 0) then 12 else e))
   (fun e=>bif e != 0 then some ([],[],e) else some (M2.out,M2.nc,0)) (M2.out++M2.nc) 0 M2.err)) o 0 o
theorem Zew (h0:HS) (l:Lab) (M:Mp) (inp comp:List Rel) (r:List Rel × List Rel × Int) (hb:h0.box l=some (mpIn M)) (hl1:l.1 < h0.ep) (hm:Is (Z7e M inp comp) r) (K:V->HS->Prop)
  (hK:∀ c1 c2 h',Frz h' c1 (.sl (r.1.map Rel.enc))->Frz h' c2 (.sl (r.2.1.map Rel.enc))->K (.tup [.one c1,.one c2,.one (.d (.int .i64 r.2.2))]) h') :
  HSpec prog 111 [.one (.ptr l 0),.one (.d (.sl (inp.map Rel.enc))),.one (.d (.sl (comp.map Rel.enc)))] h0 K:=by
 refine HSpec.of_vc Tryz.func111 rfl (by kernel_rfl) (n:=150) rfl rfl (by simp) ?_;unfold Z7e at hm;have hne:=ne_new hl1;have hne':=Z05 hl1;simp only[mpIn,Stp.enc,Y0d,Y0g,Y0s,Y0v] at hb;obtain⟨e1,he1,hm⟩:=hm.bind;simp[hb];refine Z08 ((c_instance_Conforms M.src inp).h e1 he1) (by simp) ?_;simp;refine r_cond hm ?_ ?_<;>clear hm<;>intro hc1 hm
 .obtain rfl:=r_ret hm;simp[retH,resVs,resV,notTup];exact hK .nil .nil _ (.data rfl) (.data rfl)
 obtain⟨e2,he2,hm⟩:=hm.bind;simp[hb];refine Z08 ((c_instance_Conforms M.cs comp).h e2 he2) (by simp) ?_;simp;refine r_cond hm ?_ ?_<;>clear hm<;>intro hc2 hm
 .obtain rfl:=r_ret hm;simp[retH,resVs,resV,notTup];exact hK .nil .nil _ (.data rfl) (.data rfl)
 obtain⟨i2,hi2,hm⟩:=hm.bind;obtain⟨c2,hcc2,hm⟩:=hm.bind;simp[hb];refine Z08 ((c_instance_Clone inp).h i2 hi2) (by simp) ?_;simp[hb];refine Z08 ((c_instance_Clone comp).h c2 hcc2) (by simp) ?_;simp[hb];obtain⟨o,ho,hm⟩:=hm.bind;obtain⟨n,hn,hm⟩:=hm.bind;have hlt2:∀ k,h0.ep<=k->l.1 < k:=fun k hk=>by omega
 refine Wait.cut (Plan.then_ [0,1,2,3,4,5,7,8,9,10,6,11,12,13,14,15,16,17] .done) follows (by kernel_rfl) (fun E1 h1=>∃ co cn,E1.n=150/\E1.get 0=.one (.ptr l 0)/\E1.get 1=.one (.d (.sl (inp.map Rel.enc))) /\
  MpAt h1 l co cn { M with inp:=i2,comp:=c2,out:=o,nc:=n,err:=0 }/\Same h0 h1 [l]/\∀ k ∈ labs co++labs cn,h0.ep<=k.1) ?_ ?_
 .simp;refine Z00 (Z8x _ M.dst o ho _ fun co h1 ro hs1 hla hb1=>?_);have b1:=hs1.2 l (by simp;omega) (by simp);simp at b1;simp[b1];refine⟨hb1,?_⟩;refine Z00 (Z8x _ M.cs n hn _ fun cn h2 rn hs2 hlb hb2=>?_);have b2:=hs2.2 l (by have:=hs1.1;simp at this;omega) (by simp);rw[b1] at b2;simp[b2];have hep1:=hs1.1;have hep2:=hs2.1;simp at hep1;have hla':∀ k ∈ labs co,h0.ep<=k.1/\k.1 < h1.ep:=fun k hk=>by have:=hla k hk;simp at this;omega
  have hlb':∀ k ∈ labs cn,h1.ep<=k.1/\k.1 < h2.ep:=fun k hk=>hlb k hk;have hnl:∀ k ∈ labs co,k≠l:=fun k hk he=>by have:=(hla' k hk).1;rw[he] at this;omega
  have hnl2:∀ k ∈ labs cn,k≠l:=fun k hk he=>by have:=(hlb' k hk).1;rw[he] at this;omega
  refine⟨hb2,CutK.of ⟨co,cn,by simp,by simp,by simp,⟨by simp[mpC,Mp.enc,Stp.enc],ro.frame fun k hk=>?_,rn.frame fun k hk=>?_,fun k hk=>?_,?_,?_,?_⟩,?_,fun k hk=>?_⟩⟩
  .have:=hs2.2 k (hla' k hk).2 (by simp)
   simp[hnl k hk,this]
  .simp[hnl2 k hk]
  .simp only[Y08,Y02] at hk;simp;rcases hk with rfl | hk | hk
   .omega
   .have:=(hla' k hk).2;omega
   .exact (hlb' k hk).2
  .exact fun h9=>hnl l h9 rfl
  .exact fun h9=>hnl2 l h9 rfl
  .exact fun k hk h9=>by have:=(hla' k hk).2;have:=(hlb' k h9).1;omega
  .refine Same.setBox (Same.setBox ?_ (.inl (by simp))) (.inl (by simp));refine Same.trans ?_ (hs2.mono (by simp));refine Same.trans ?_ (hs1.mono (by simp))
   repeat' first | exact Same.refl | apply Same.next | apply Same.setArr | (refine Same.setBox ?_ (.inl (by simp)))
  .rcases Y02.1 hk with h9 | h9
   .exact (hla' k h9).1
   .have:=(hlb' k h9).1;omega
 .rintro E1 h1 ⟨co,cn,en,e0,e1',mA,hsA,hlA⟩;have hbA:=mA.box;simp only[mpC,Mp.enc,Stp.enc,Y0d,Y0g,Y0s,Y0v] at hbA;obtain⟨xs,mx,-,hlen,hel⟩:=mA.out.len;simp[en,e0,hbA];refine MR.lenK mx ?_;simp[en,e0,hbA];have hon:o.length<=2097152:=by have:=mx.2.1;rw[hlen] at this;simpa using this
  have hl1A:l.1 < h1.ep:=mA.lt l (by simp);refine Wait.for (xs:=o) (s0:=o) (fun i s e h'=>e.n=150/\e.get 0=.one (.ptr l 0)/\e.get 1=.one (.d (.sl (inp.map Rel.enc)))/\e.get 64=.one co/\e.get 65=.one (.d (.int .i64 (o.length:Int)))/\e.get 66=.one (.d (.int .i64 (i:Int))) /\
   MpAt h' l co cn { M with inp:=i2,comp:=c2,out:=s,nc:=n,err:=0 }/\Same h1 h' (labs co)/\s.length=o.length/\∀ j,i<=j->s[j]? = o[j]?) hm ⟨by simp[en],by simp[e0],by simp[e1'],by simp,by simp[hlen],by simp,mA,.refl,rfl,fun _ _=>rfl⟩ ?_ ?_
  .rintro i s e h' ⟨en,e0,e1',e64,e65,e66,m1,hs,hsl,hj⟩ hlt hm;have hw:IntKind.i64.wrap ((i:Int)+1)=(i:Int)+1:=Y0a _ (by omega);have hb1:=m1.box;simp only[mpC,Mp.enc,Stp.enc,Y0d,Y0g,Y0s,Y0v] at hb1;obtain⟨ys,my,he',hyl,hye⟩:=m1.out.len;have hsi:s[i]? = some o[i]:=by rw[hj i (Y09 _)];exact Y01 hlt
   obtain⟨c',hx,hc'⟩:=hye i _ hsi;have hyi:i < ys.length:=(Y00.1 hx).1;obtain⟨lo,cap,sp,rfl,hbo,hcap⟩:=my.block (by omega);have ht0:takeN 2 ((rowBox ys sp).drop (i * 2))=some [.d (.str o[i].table),c']:=by
    have h9:=Z54 (sp:=sp) (f:=0) (m:=2) my.1 hx (by simp);simpa[takeN] using h9
   have hln:=Z84 (sp:=sp) my.1 (k:=i) hyi;have hlh:l.1 < h'.ep:=m1.lt l (by simp);have hnl:=ne_new hlh;have hnl':=Z05 hlh;have hlo:lo.1 < h'.ep:=m1.lt lo (by simp[labs]);have hno:=ne_new hlo;have hno':=Z05 hlo;obtain⟨f,hf,hm⟩:=hm.bind;simp[en,e0,e1',e64,e65,e66,hlt,hb1,hyi,hbo,ht0];refine Wait.cut (Plan.then_ [0,1,2,3,4,5,6,7,8,9,10,11] .done) follows (by kernel_rfl) (fun e2 h2=>e2.n=150/\e2.get 0=.one (.ptr l 0)/\e2.get 1=.one (.d (.sl (inp.map Rel.enc)))/\e2.get 64=.one (.mrow lo 0 ys.length cap)/\e2.get 65=.one (.d (.int .i64 (o.length:Int)))/\e2.get 66=.one (.d (.int .i64 (i:Int))) /\
    e2.get 11=.one (.d (.int .i64 (i:Int)))/\e2.get 12=.one (.ptr (h'.ep,192) 0)/\h2.box (h'.ep,192)=some [.d (.str o[i].table),c']/\e2.get 14=.one (.d (.bool f.2))/\Same h' h2 []/\h'.ep < h2.ep) ?_ ?_
   .simp[en,e0,e1',e64,e65,e66,hb1,hnl,hnl'];refine Z08 ((c_schema_FindTable M.src o[i].table).h f hf) (by simp) ?_;simp[en,e0,e1',e64,e65,e66,hb1,hnl,hnl']
    try refine⟨fun _ _ x=>x,?_⟩
    refine CutK.of ⟨by simp[en],by simp[e0,en],by simp[e1',en],by simp[e64,en],by simp[e65,en],by simp[e66,en],by simp[en],by simp[en],by simp,by simp,?_,by simp⟩
    repeat' first | exact Same.refl | apply Same.next | apply Same.setArr | (refine Same.setBox ?_ (.inr (by simp)))
   .rintro e2 h2 ⟨en,e0,e1',e64,e65,e66,e11,e12,b12,e14,hs2,hep2⟩;have m2:=m1.frame hs2;have hb2:=m2.box;simp only[mpC,Mp.enc,Stp.enc,Y0d,Y0g,Y0s,Y0v] at hb2;have hbo2:=(hs2.2 lo hlo (by simp)).trans hbo;simp[en,e0,e1',e64,e65,e66,e11,e12,e14];refine r_cond hm ?_ ?_<;>clear hm<;>intro hc hm
    .obtain⟨q,hq,hm⟩:=hm.bind;simp[en,e0,e1',e64,e65,e66,e11,e12,e14];have hle:i * 2+1+1<=(rowBox ys sp).length:=by omega
     refine Wait.cut (Plan.then_ [0,1,2,3,4,5,6,7,8,9,10,11,12,13,14,15,16,17,18] .done) follows (by kernel_rfl) (fun e3 h3=>e3.n=150/\e3.get 0=.one (.ptr l 0)/\e3.get 1=.one (.d (.sl (inp.map Rel.enc)))/\e3.get 64=.one (.mrow lo 0 ys.length cap)/\e3.get 65=.one (.d (.int .i64 (o.length:Int)))/\e3.get 66=.one (.d (.int .i64 (i:Int))) /\
      MpAt h3 l (.mrow lo 0 ys.length cap) cn { M with inp:=i2,comp:=c2,out:=s.set i ⟨o[i].table,q.2⟩,nc:=n,err:=0 }/\Same h' h3 [lo]) ?_ ?_
     .simp[en,e0,e1',e64,e65,e66,e11,e12,e14,hb2,b12];refine Z08 ((c_instance_Table M.src inp o[i].table).h q hq) (by simp) ?_;simp[en,e0,e1',e64,e65,e66,e11,e12,e14,hb2,b12,hyi,hbo2,hle];have hne1:=m1.nl.1;simp[labs] at hne1
      try refine⟨fun _ _ x=>x,?_⟩
      refine CutK.of ⟨by simp[en],by simp[e0,en],by simp[e1',en],by simp[e64,en],by simp[e65,en],by simp[e66,en],⟨?_,?_,?_,?_,m1.nl⟩,?_⟩
      .simp[hne1];exact m2.box
      .exact Zi1 my.1 rfl my.2.1 hcap hx rfl he' _
      .exact m2.nc.frame fun k hkn=>by
        have:=m1.nl.2.2 lo (by simp[labs])
        have:k≠lo:=by rintro rfl;exact this hkn
        simp[this]
      .intro k hk
       have:=m2.lt k hk
       simp;omega
      .exact ((hs2.mono (by simp)).next).setBox (.inl (by simp))
     .rintro e3 h3 ⟨en,e0,e1',e64,e65,e66,m3,hs3⟩;simp[en,e0,e1',e64,e65,e66,hw];exact BackF.of (s.set i ⟨o[i].table,q.2⟩) ⟨⟨by simp[en],by simp[e0],by simp[e1'],by simp[e64],by simp[e65],by simp,m3,hs.trans (hs3.mono (by simp[labs])),by simpa using hsl,fun j hij=>by rw[Y1d (by omega)];exact hj j (by omega)⟩,hm⟩
    .simp[en,e0,e1',e64,e65,e66,e11,e12,e14,hw];exact BackF.of s ⟨⟨by simp[en],by simp[e0],by simp[e1'],by simp[e64],by simp[e65],by simp,m2,hs.trans (hs2.mono (by simp)),hsl,fun j hij=>hj j (by omega)⟩,hm⟩
  .rintro s e h' ⟨en,e0,e1',e64,e65,e66,m1,hs,hsl,hj⟩ hm;simp[en,e0,e1',e64,e65,e66];obtain⟨M2,hM2,hm⟩:=hm.bind;obtain⟨hlen2,hm⟩:=hm.chk;refine Z00 (Zdl _ l co cn _ M2 hM2 m1 _ fun h2 co2 cn2 m2 hs2=>?_);have hb2:=m2.box;simp only[mpC,Mp.enc,Stp.enc,Y0d,Y0g,Y0s,Y0v] at hb2;obtain⟨xo,mo,hxo,hol,hoe⟩:=m2.out.len;obtain⟨xn,mn,hxn,hnl,hne2⟩:=m2.nc.len;simp[en,e0,e1',e64,e65,e66];refine Wait.cut (Plan.then_ [0,1,2,3,5,6,7,8,11,4,9,10] .done) follows (by kernel_rfl) (fun e3 h3=>∃ ca,e3.n=150/\e3.get 0=.one (.ptr l 0)/\e3.get 112=.one ca/\e3.get 113=.one (.d (.int .i64 ((xo++xn).length:Int)))/\e3.get 114=.one (.d (.int .i64 0))/\MR h3 2 ca (xo++xn)/\Same h2 h3 []/\(∀ k ∈ labs ca,h2.ep<=k.1/\k.1 < h3.ep)) ?_ ?_
   .simp[en,e0,hb2];refine Z00 (Z8n _ co2 xo mo.rd _ fun ca h3 ma hsa hla hba=>?_);simp[en,e0,hb2];refine⟨hba,?_⟩;refine app_mr Zab (by kernel_rfl) (by decide) (by decide) ma (MR.rd (mn.frame fun k hk=>hsa.2 k (m2.lt k (by simp[hk])) (by simp))) (by rw[hol,hnl];exact hlen2) fun ca2 h4 ma2 hsa2 hla2=>?_;simp[en,e0,hb2];refine MR.lenK ma2 ?_;simp[en,e0,hb2];refine CutK.of ⟨ca2,by simp[en],by simp[e0,en],by simp[en],by simp[en],by simp[en],ma2,hsa.trans' hsa2 fun k hk=>.inr (hla k hk).1,fun k hk=>?_⟩;rcases hla2 k hk with h9 | h9
    .exact⟨(hla k h9).1,Y04 (hla k h9).2 hsa2.1⟩
    .exact⟨Y0y hsa.1 h9.1,h9.2⟩
   .rintro e3 h3 ⟨ca,en,e0,e112,e113,e114,ma,hs3,hla⟩;have m3:=m2.frame hs3;have hL:(xo++xn).length=(M2.out++M2.nc).length:=by simp[hol,hnl]
    have hel2:∀ (i:Nat) (rel:Rel),(M2.out++M2.nc)[i]? = some rel->∃ c',(xo++xn)[i]? = some [.d (.str rel.table),c']/\c'.toD=some (.sl (rel.rows.map (encL GV.enc))):=by
     intro i rel hi;rcases Y0t i M2.out.length with h9 | h9
     .rw[Y0j h9] at hi;rw[Y0j (by omega)];exact hoe i rel hi
     .rw[Y13 h9] at hi;rw[Y13 (by omega),hol];exact hne2 _ rel hi
    generalize M2.out++M2.nc=L at hm hL hel2;generalize xo++xn=X at e113 ma hL hel2;refine Wait.for (xs:=L) (s0:=M2.err) (fun i s e h'=>e.n=150/\e.get 0=.one (.ptr l 0)/\e.get 112=.one ca/\e.get 113=.one (.d (.int .i64 (L.length:Int)))/\e.get 114=.one (.d (.int .i64 (i:Int))) /\
     MpAt h' l co2 cn2 { M2 with err:=s }/\MR h' 2 ca (X)/\∀ k ∈ labs ca,k≠l/\k.1 < h'.ep) hm ⟨by simp[en],by simp[e0],by simp[e112],by simp[e113,hL],by simp[e114],m3,ma,fun k hk=>⟨fun he=>?_,(hla k hk).2⟩⟩ ?_ ?_
    .have:=(hla k hk).1
     have:=m2.lt l (by simp)
     rw[he] at *;omega
    .rintro i s e h' ⟨en,e0,e112,e113,e114,m4,ma4,hla4⟩ hlt hm;have hw:IntKind.i64.wrap ((i:Int)+1)=(i:Int)+1:=Y0a _ (by have:=ma4.2.1;rw[hL] at this;simp at this;omega);have hb4:=m4.box;simp only[mpC,Mp.enc,Stp.enc,Y0d,Y0g,Y0s,Y0v] at hb4;obtain⟨c',hx,hc'⟩:=hel2 i _ (Y01 hlt);have hyi:i < X.length:=by omega
     obtain⟨la,cap,sp,rfl,hba,hcap⟩:=ma4.block (by omega);have ht0:takeN 2 ((rowBox X sp).drop (i * 2))=some [.d (.str L[i].table),c']:=by
      have h9:=Z54 (sp:=sp) (f:=0) (m:=2) ma4.1 hx (by simp);simpa[takeN] using h9
     have hlh:l.1 < h'.ep:=m4.lt l (by simp);have hnl4:=ne_new hlh;have hnl4':=Z05 hlh;simp[en,e0,e112,e113,e114,hlt,hyi,hba,ht0];refine Zfv (toD_rd hc').1 (fun hll=>?_);simp[en,e0,e112,e113,e114,hb4,hnl4,hnl4'];have same:∀ (h6:HS) (e6:Env),Same h' h6 []->e6.n=150->e6.get 0=.one (.ptr l 0)->e6.get 112=.one (.mrow la 0 X.length cap)->e6.get 113=.one (.d (.int .i64 (L.length:Int)))->e6.get 114=.one (.d (.int .i64 ((i:Int)+1))) ->
       (bif decide (24 < L[i].rows.length) && (s == 0) then 12 else s)=s->BackF (I:=⟨fun s' e h=>(e.n=150/\e.get 0=.one (.ptr l 0)/\e.get 112=.one (.mrow la 0 X.length cap)/\e.get 113=.one (.d (.int .i64 (L.length:Int)))/\e.get 114=.one (.d (.int .i64 ((i+1:Nat):Int))) /\
     MpAt h l co2 cn2 { M2 with err:=s' }/\MR h 2 (.mrow la 0 X.length cap) X/\∀ k ∈ labs (.mrow la 0 X.length cap),k≠l/\k.1 < h.ep)/\Is (forK (fun (_:Nat) (rel:Rel) (e:Int) next=>next (bif decide (24 < rel.rows.length) && (e == 0) then 12 else e)) (fun e=>bif e != 0 then some ([],[],e) else some (M2.out,M2.nc,0)) (L.drop (i+1)) (i+1) s') r⟩) e6 h6:=by
      intro h6 e6 hs6 en6 g0 g112 g113 g114 heq;rw[heq] at hm;exact BackF.of s ⟨⟨en6,g0,g112,g113,by simpa using g114,m4.frame hs6,ma4.frame fun k hk=>hs6.2 k (hla4 k hk).2 (by simp),fun k hk=>⟨(hla4 k hk).1,Y04 (hla4 k hk).2 hs6.1⟩⟩,hm⟩
     by_cases hg:24 < L[i].rows.length
     .have hgI:(24:Int) < (L[i].rows.length:Int):=by omega
      by_cases hz:s=0
      .subst hz;simp[hg] at hm;simp[en,e0,e112,e113,e114,hw,hb4,hnl4,hnl4',hgI];refine BackF.of 12 ⟨⟨by simp[en],by simp[e0],by simp[e112],by simp[e113],by simp,⟨by simp[mpC,Mp.enc,Stp.enc],m4.out.frame fun k hk=>?_,m4.nc.frame fun k hk=>?_,fun k hk=>?_,m4.nl⟩,ma4.frame fun k hk=>?_,fun k hk=>⟨(hla4 k hk).1,?_⟩⟩,by simpa using hm⟩
       .have h1:k≠l:=by rintro rfl;exact m4.nl.1 hk
        have h2:=ne_new (l:=k) (n:=h'.ep) (m4.lt k (by simp[hk]));simp[h1,h2]
       .have h1:k≠l:=by rintro rfl;exact m4.nl.2.1 hk
        have h2:=ne_new (l:=k) (n:=h'.ep) (m4.lt k (by simp[hk]));simp[h1,h2]
       .have:=m4.lt k hk
        simp;omega
       .have h1:=(hla4 k hk).1;have h2:=ne_new (l:=k) (n:=h'.ep) (hla4 k hk).2;simp[h1,h2]
       .have:=(hla4 k hk).2
        simp;omega
      .have hzb:(s == 0)=false:=by simpa using hz
       simp[en,e0,e112,e113,e114,hw,hb4,hnl4,hnl4',hgI,hzb];refine same _ _ ?_ ?_ ?_ ?_ ?_ ?_ ?_
       .repeat' first | exact Same.refl | apply Same.next | apply Same.setArr | (refine Same.setBox ?_ (.inr (by simp)))
       .simp[en]
       .simp[e0]
       .simp[e112]
       .simp[e113]
       .simp
       .rw[hzb,Bool.and_false];rfl
     .have hgI:¬ (24:Int) < (L[i].rows.length:Int):=by omega
      simp[en,e0,e112,e113,e114,hw,hb4,hnl4,hnl4',hgI];refine same _ _ ?_ ?_ ?_ ?_ ?_ ?_ ?_
      .repeat' first | exact Same.refl | apply Same.next | apply Same.setArr | (refine Same.setBox ?_ (.inr (by simp)))
      .simp[en]
      .simp[e0]
      .simp[e112]
      .simp[e113]
      .simp
      .simp[hg]
    .rintro s e h' ⟨en,e0,e112,e113,e114,m4,ma4,hla4⟩ hm;have hb4:=m4.box;simp only[mpC,Mp.enc,Stp.enc,Y0d,Y0g,Y0s,Y0v] at hb4;simp[en,e0,e112,e113,e114,hb4];refine r_cond hm ?_ ?_<;>clear hm<;>intro hc hm
     .obtain rfl:=r_ret hm;simp[en,e0,e112,e113,e114,hb4];refine Wait.cut (Plan.then_ [0,1,2,3,4,5,6] .done) follows (by kernel_rfl) (fun e4 h4=>e4.n=150/\e4.get 6=.one .nil/\e4.get 7=.one .nil/\e4.get 8=.one (.d (.int .i64 s))) ?_ ?_
      .simp[en,e0,hb4];exact CutK.of (by simp[en])
      .rintro e4 h4 ⟨en,e6,e7,e8⟩;simp[retH,resVs,resV,notTup,en,e6,e7,e8];exact hK .nil .nil _ (.data rfl) (.data rfl)
     .obtain rfl:=r_ret hm;simp[en,e0,e112,e113,e114,hb4];refine Wait.cut (Plan.then_ [0,1,2,3,4,5,6,7,8,9,10] .done) follows (by kernel_rfl) (fun e4 h4=>h4=h'/\e4.n=150/\e4.get 6=.one co2/\e4.get 7=.one cn2/\e4.get 8=.one (.d (.int .i64 0))) ?_ ?_
      .simp[en,e0,hb4];exact CutK.of ⟨rfl,by simp[en]⟩
      .rintro e4 h4 ⟨rfl,en,e6,e7,e8⟩;simp[retH,resVs,resV,notTup,en,e6,e7,e8];exact hK co2 cn2 _ m4.out.frz m4.nc.frz
end
section
open Go.Am
def Z50 (s_:List (List GV)) (f:(List GV)->Option Bool):Option Int:=
 (forK (fun (i2:Nat) (x2:List GV) (s2:Unit) next_2=>(bindK (f x2) fun v3=>(bif v3 then (some (i2:Int)) else (next_2 ())))) (fun (s2:Unit)=>(some (-1))) s_ 0 ())
instance i_slices_IndexFunc_Row (s_:List (List GV)) (f:(List GV)->Option Bool) {g:FuncId} {caps:List (List D)} [ConF f prog (fun x=>.one (.d (.sl (x.map GV.enc)))) (fun v=>.one (.d (.bool v))) g caps]:Con (Z50 s_ f) prog 87 [.one (.d (.sl (s_.map (encL GV.enc)))),.one (.fn g caps)] (fun r=>.one (.d (.int .i64 r))):=by
 unfold Z50;have l1:LH (σ:=Unit) 8 [0,1,7] []:=.intro;exact go 19 Tryz.func87 rfl (by kernel_rfl) rfl rfl (by simp)
def Z2y (s_:List (List GV)) (f:(List GV)->Option Bool):Option Bool:=
 (bindK (Z50 s_ f) fun v1=>(some (decide (0<=v1))))
instance i_slices_ContainsFunc_Row (s_:List (List GV)) (f:(List GV)->Option Bool) {g:FuncId} {caps:List (List D)} [ConF f prog (fun x=>.one (.d (.sl (x.map GV.enc)))) (fun v=>.one (.d (.bool v))) g caps]:Con (Z2y s_ f) prog 52 [.one (.d (.sl (s_.map (encL GV.enc)))),.one (.fn g caps)] (fun r=>.one (.d (.bool r))):=by
 unfold Z2y;exact go 9 Tryz.func52 rfl (by kernel_rfl) rfl rfl (by simp)
def Z5b (s_:Sch) (inst:List Rel) (fk:Fk) (row:List GV):Option Bool:=
 (bindK (Z06 s_ inst fk.ref) fun v3=>(forK (fun (i6:Nat) (x6:Int) (s6:(List GV)) next_6=>(bif decide (x6 < 0) then (some true) else (bif decide ((row.length:Int)<=x6) then (some true) else (getK row x6 fun x10=>(bif (x10.kind == 0) then (some true) else (appK2 s6 [x10] fun _=>(next_6 (s6++[x10])))))))) (fun (s6:(List GV))=>(bindK (Z4m v3.1 v3.2 s6) fun v14=>(some v14.2))) fk.cols 0 []))
instance c_instance_References (s_:Sch) (inst:List Rel) (fk:Fk) (row:List GV):Con (Z5b s_ inst fk row) prog 54 [.agg s_.enc,.one (.d (.sl (inst.map Rel.enc))),.agg fk.enc,.one (.d (.sl (row.map GV.enc)))] (fun r=>.one (.d (.bool r))):=by
 unfold Z5b;have l1:LH (σ:=(List GV)) 27 [3,9,10,25,26] [.g 11 3 (fun s=>s.map GV.enc)]:=.intro;exact go 63 Tryz.func54 rfl (by kernel_rfl) rfl rfl (by simp)
def Z47 (row:List GV) (k0:Sch) (k1:List Rel) (k2:Fk):Option Bool:=
 (bindK (Z5b k0 k1 k2 row) fun v1=>(some !v1))
instance c_instance_Validate_1 (row:List GV) (k0:Sch) (k1:List Rel) (k2:Fk):Con (Z47 row k0 k1 k2) prog 53 [.one (.d (.sl (row.map GV.enc))),.one (.rp [.sl (k0.tables.map Tbl.enc),.sl (k0.fks.map Fk.enc),.sl (k0.cons.map Cons.enc)]),.one (.rp [.sl (k1.map Rel.enc)]),.one (.rp [.str k2.table,.sl (k2.cols.map encI),.str k2.ref])] (fun r=>.one (.d (.bool r))):=by
 unfold Z47;exact go 12 Tryz.func53 rfl (by kernel_rfl) rfl rfl (by simp)
instance f_instance_Validate_1 (k0:Sch) (k1:List Rel) (k2:Fk):ConF (fun x=>Z47 x k0 k1 k2) prog (fun x=>.one (.d (.sl (x.map GV.enc)))) (fun r=>.one (.d (.bool r))) 53 [[.sl (k0.tables.map Tbl.enc),.sl (k0.fks.map Fk.enc),.sl (k0.cons.map Cons.enc)],[.sl (k1.map Rel.enc)],[.str k2.table,.sl (k2.cols.map encI),.str k2.ref]]:=⟨fun x=>(c_instance_Validate_1 x k0 k1 k2)⟩
def Z5o (c:Cons) (row:List GV):Option Bool:=
 (bif decide (c.left < 0) then (some true) else (bif decide ((row.length:Int)<=c.left) then (some true) else (bif decide ((row.length:Int)<=c.right) then (some true) else (bif decide (0<=c.right) then (getK row c.right fun x9=>(getK row c.left fun x10=>(bindK (Z1p x10 c.op x9) fun v11=>(bif v11.1 then (some true) else (some (v11.2 != 0)))))) else (getK row c.left fun x13=>(bindK (Z1p x13 c.op c.value) fun v14=>(bif v14.1 then (some true) else (some (v14.2 != 0)))))))))
instance c_instance_Satisfies (c:Cons) (row:List GV):Con (Z5o c row) prog 56 [.agg c.enc,.one (.d (.sl (row.map GV.enc)))] (fun r=>.one (.d (.bool r))):=by
 unfold Z5o;have p1:PH [6] (Plan.then_ [0,1,2,3,4,5,6,7,8,9,10,11,12,13] .done):=.intro;exact go 52 Tryz.func56 rfl (by kernel_rfl) rfl rfl (by simp)
def Z46 (row:List GV) (k0:Cons):Option Bool:=
 (bindK (Z5o k0 row) fun v1=>(some !v1))
instance c_instance_Validate_2 (row:List GV) (k0:Cons):Con (Z46 row k0) prog 55 [.one (.d (.sl (row.map GV.enc))),.one (.rp [.str k0.table,.int .i64 k0.left,.str k0.op,.int .i64 k0.right,.int .i64 k0.value.kind,.int .i64 k0.value.int,.str k0.value.text])] (fun r=>.one (.d (.bool r))):=by
 unfold Z46;exact go 8 Tryz.func55 rfl (by kernel_rfl) rfl rfl (by simp)
instance f_instance_Validate_2 (k0:Cons):ConF (fun x=>Z46 x k0) prog (fun x=>.one (.d (.sl (x.map GV.enc)))) (fun r=>.one (.d (.bool r))) 55 [[.str k0.table,.int .i64 k0.left,.str k0.op,.int .i64 k0.right,.int .i64 k0.value.kind,.int .i64 k0.value.int,.str k0.value.text]]:=⟨fun x=>(c_instance_Validate_2 x k0)⟩
def Z2u (s_:Sch) (inst:List Rel):Option Int:=
 (bindK (Z0t s_ inst) fun v3=>(bif (v3 != 0) then (some v3) else (forK (fun (i6:Nat) (x6:Fk) (s6:Unit) next_6=>(bindK (Z06 s_ inst x6.table) fun v8=>(bindK (Z2y v8.2 (fun xa_=>Z47 xa_ s_ inst x6)) fun v10=>(bif v10 then (some 10) else (next_6 ()))))) (fun (s6:Unit)=>(forK (fun (i13:Nat) (x13:Cons) (s13:Unit) next_13=>(bindK (Z06 s_ inst x13.table) fun v15=>(bindK (Z2y v15.2 (fun xa_=>Z46 xa_ x13)) fun v17=>(bif v17 then (some 11) else (next_13 ()))))) (fun (s13:Unit)=>(some 0)) s_.cons 0 ())) s_.fks 0 ())))
instance c_instance_Validate (s_:Sch) (inst:List Rel):Con (Z2u s_ inst) prog 31 [.agg s_.enc,.one (.d (.sl (inst.map Rel.enc)))] (fun r=>.one (.d (.int .i64 r))):=by
 unfold Z2u;have l1:LH (σ:=Unit) 23 [2,3,21,22] []:=.intro;have l2:LH (σ:=Unit) 42 [2,3,40,41] []:=.intro;exact go 58 Tryz.func31 rfl (by kernel_rfl) rfl rfl (by simp)
end
section
open Go Go.Am
def e0 (t:Tbl):Rel:=⟨t.name,[]⟩
def EI (S:Sch):List Rel:=S.tables.map e0
theorem Z8t (S:Sch):∀ r ∈ EI S,r.rows=[]:=by
 intro r hr;obtain⟨t,_,rfl⟩:=Y0m.1 hr;rfl
theorem EI_len (S:Sch):(EI S).length=S.tables.length:=by simp[EI]
theorem EI_no (S:Sch):noRows (EI S)=true:=by
 simp[noRows];intro r hr;exact Z8t S r hr
theorem Zd1 (S:Sch) (h:S.tables.length<=1048576):Wp (Z19 S) fun r=>r=EI S:=by
 have hL:=LIM_eq;unfold Z19;refine Wp.for (fun i (s:List Rel)=>s=(EI S).take i) (by simp) ?_ (fun s hs=>Wp.ret (by rw[hs,<- EI_len,Y1b]));intro i x s next hx _ hI hn;obtain⟨h8,h9⟩:=Y00.1 hx;refine Wp.app (by rw[hI];simp;omega) (hn _ ?_);have h7:i < (EI S).length:=by rw[EI_len];exact h8
 rw[Y10 h7,hI];simp[EI,e0,h9]
theorem Z7l (S:Sch):Wp (Z0t S (EI S)) fun r=>r=0:=by
 unfold Z0t;refine Wp.cond (fun h=>by simp[EI_len] at h) fun _=>?_;refine Wp.for (fun _ _=>True) trivial ?_ (fun s _=>Wp.ret rfl);intro i x s next hx _ _ hn;obtain⟨h8,h9⟩:=Y00.1 hx;have hi:i < S.tables.length:=by rw[<- EI_len];exact h8
 have hxe:x=e0 S.tables[i]:=by rw[<- h9];simp[EI]
 subst hxe;refine Wp.getN (Y01 hi) ?_;refine Wp.cond (fun h=>by simp[e0,Z7c] at h) fun _=>?_;refine Wp.cond (fun h=>by simp[e0] at h) fun _=>?_;exact hn () trivial
theorem Zcr (S:Sch) (h:S.tables.length<=1048576):Wp (Z07 (EI S)) fun r=>r=EI S:=
 Zck _ (by rw[EI_len];exact h) fun x hx=>by rw[Z8t S x hx];simp
theorem Zaw (S:Sch) (h:S.tables.length<=1048576) (n:ByteArray):Wp (Z06 S (EI S) n) fun q=>q.2=[]:=by
 unfold Z06;refine Wp.bind (Z1d S n) fun f _ hf=>Wp.cond (fun _=>Wp.ret rfl) fun hb=>?_;obtain⟨h0,h1,-⟩:=hf;obtain⟨-,T,hT,-⟩:=h1 (by simpa using hb);obtain⟨h8,h9⟩:=Y00.1 hT;refine Wp.get h0 (by omega) fun T' _ _=>Wp.bind (R:=fun _=>True) ⟨_,rfl,trivial⟩ fun y _ _=>Wp.cond (fun _=>Wp.ret rfl) fun _=>?_;refine Wp.get h0 (by rw[EI_len];omega) fun r _ hr=>?_;rw[Z8t S r hr];exact Wp.ret rfl
theorem Zcq (S:Sch):Wp (Z1z (EI S) (EI S)) fun r=>r=true:=by
 unfold Z1z Z2d;refine Wp.bind (R:=fun b=>b=true) ?_ fun b _ hb=>Wp.ret hb;refine Wp.cond (fun h=>by simp at h) fun _=>?_;refine Wp.for (fun _ _=>True) trivial ?_ fun _ _=>Wp.ret rfl;intro i x s next hx hm _ hn;refine Wp.getN hx ?_;refine Wp.bind (R:=fun b=>b=true) ?_ fun b _ hb=>by rw[hb];exact hn () trivial
 unfold Z48;simp only[Z7c,Z8t S x hm,cond_true];exact⟨true,rfl,rfl⟩
theorem Zhs (S:Sch) (h:S.tables.length<=1048576):Wp (Z2u S (EI S)) fun r=>r=0:=by
 unfold Z2u;refine Wp.bind (Z7l S) fun e _ he=>Wp.cond (fun h=>by simp[he] at h) fun _=>?_;refine Wp.for (fun _ _=>True) trivial ?_ fun _ _=>?_
 .intro i x s next hx _ _ hn;refine Wp.bind (Zaw S h _) fun q _ hq=>?_;rw[hq];refine Wp.bind (R:=fun b=>b=false) ⟨false,rfl,rfl⟩ fun b _ hb=>?_;rw[hb];exact hn () trivial
 .refine Wp.for (fun _ _=>True) trivial ?_ fun _ _=>Wp.ret rfl;intro i x s next hx _ _ hn;refine Wp.bind (Zaw S h _) fun q _ hq=>?_;rw[hq];refine Wp.bind (R:=fun b=>b=false) ⟨false,rfl,rfl⟩ fun b _ hb=>?_;rw[hb];exact hn () trivial
theorem setR_E (t:ByteArray) (S:Sch):setR t [] (EI S)=EI S:=by
 unfold setR EI;rw[Y28];refine Y2y fun x _=>?_;simp only[Function.comp,e0];cases strEq x.name t<;>rfl
end
end Go.Proofs.YtbcejndfbklikaaGreatDoor
section
namespace Go.Proofs.YtbcejndfbklikaaGreatDoor
open Go Go.Am
section
variable {α β:Type}
def AscK (κ:α->List GV) (rows:List α):Prop:=rows.Pairwise fun a b=>cmpR (κ a) (κ b) < 0
theorem Znn (a:List GV):cmpR a a=0:=by
 have h1:¬ cmpR a a < 0:=fun h=>by
  induction a with
  | nil=>simp[cmpR] at h
  | cons x xs ih=>
    simp only[cmpR,Znl] at h;exact ih (by simpa using h)
 have h2:¬ 0 < cmpR a a:=fun h=>h1 (Zpu h);omega
theorem Zbc {a:List GV}:¬ cmpR a a < 0:=by rw[Znn];omega
theorem AscK.ext {κ:α->List GV}:∀ {a b:List α},AscK κ a->AscK κ b->(∀ x,x ∈ a↔x ∈ b)->a=b
 | [],[],_,_,_=>rfl
 | [],y::_,_,_,h=>absurd ((h y).2 (Y05 ..)) (by simp)
 | x::_,[],_,_,h=>absurd ((h x).1 (Y05 ..)) (by simp)
 | x::xs,y::ys,ha,hb,h=>by
   have ha':=List.pairwise_cons.1 ha;have hb':=List.pairwise_cons.1 hb;have hxy:x=y:=by
    rcases Y08.1 ((h x).1 (Y05 ..)) with e | e
    .exact e
    rcases Y08.1 ((h y).2 (Y05 ..)) with e2 | e2
    .exact e2.symm
    exact absurd (Zez (ha'.1 y e2) (hb'.1 x e)) Zbc
   subst hxy;rw[AscK.ext ha'.2 hb'.2 fun z=>⟨fun hz=>?_,fun hz=>?_⟩]
   .rcases Y08.1 ((h z).1 (Y0c _ hz)) with e | e
    .subst e;exact absurd (ha'.1 z hz) Zbc
    .exact e
   .rcases Y08.1 ((h z).2 (Y0c _ hz)) with e | e
    .subst e;exact absurd (hb'.1 z hz) Zbc
    .exact e
theorem AscK.inj {κ:α->List GV}:∀ {rows:List α},AscK κ rows->∀ {a b:α},a ∈ rows->b ∈ rows->κ a=κ b->a=b
 | [],_,_,_,h,_,_=>absurd h (by simp)
 | x::xs,ha,a,b,h1,h2,he=>by
   have ha':=List.pairwise_cons.1 ha;rcases Y08.1 h1 with e1 | e1<;>rcases Y08.1 h2 with e2 | e2
   .rw[e1,e2]
   .subst e1;exact absurd (ha'.1 b e2) (by rw[he];exact Zbc)
   .subst e2;exact absurd (ha'.1 a e1) (by rw[he];exact Zbc)
   .exact AscK.inj ha'.2 e1 e2 he
theorem AscK.map {κ:α->List GV} {κ':β->List GV} {f:α->β} {rows:List α} (ha:AscK κ rows) (hk:∀ r ∈ rows,κ' (f r)=κ r):AscK κ' (rows.map f):=by
 unfold AscK;rw[List.pairwise_map];exact ha.imp_of_mem fun h1 h2 h=>by rw[hk _ h1,hk _ h2];exact h
theorem AscK.filter {κ:α->List GV} {p:α->Bool} {rows:List α} (ha:AscK κ rows):AscK κ (rows.filter p):=List.Pairwise.filter p ha
end
end Go.Proofs.YtbcejndfbklikaaGreatDoor
end
namespace Go.Proofs.YtbcejndfbklikaaGreatDoor
section
open Go Go.Am
theorem ba_ext {a b:ByteArray} (h:a.toList=b.toList):a=b:=by
 have e:∀ x:ByteArray,x.toList=x.data.toList:=fun x=>Go.ByteArray.toList_eq x;rw[e,e] at h;cases a;cases b
 congr 1
 exact Array.toList_inj.1 h
theorem Zct {a b:ByteArray}:strEq a b=true↔a=b:=⟨fun h=>ba_ext (Z7n.1 h),by rintro rfl;exact Z7n.2 rfl⟩
structure RO (T:Tbl) (rows:List (List GV)):Prop where
 l24:rows.length<=24
 row:∀ r ∈ rows,CR T r
 asc:AscK (keyF T) rows
theorem Zpk {ts:List Tbl} (hA:NamesA ts) {i:Nat} {T T':Tbl} (hT:ts[i]? = some T) (U:Tbl):U ∈ ts.set i T'↔U=T'\/(U ∈ ts/\U.name≠T.name):=by
 have hi:=(Y00.1 hT).1
 constructor
 .intro h;obtain⟨j,hj⟩:=Y1n.1 h
  by_cases e:i=j
  .subst e;rw[Y19 hi] at hj;cases hj;exact .inl rfl
  .rw[Y1d e] at hj;exact .inr ⟨Y03 hj,fun hn=>e (NamesA.uniq (S:=⟨ts,[],[]⟩) hA i j T U hT hj (Zct.2 hn.symm))⟩
 .rintro (rfl | ⟨h,hn⟩)
  .exact Y1n.2 ⟨i,Y19 hi⟩
  .obtain⟨j,hj⟩:=Y1n.1 h;refine Y1n.2 ⟨j,?_⟩;rw[Y1d,hj];rintro rfl;rw[hT] at hj;cases hj;exact hn rfl
theorem Zj6 {ts:List Tbl} (hA:NamesA ts) {i:Nat} {T:Tbl} (hT:ts[i]? = some T) (U:Tbl):U ∈ ts.take i++ts.drop (i+1)↔U ∈ ts/\U.name≠T.name:=by
 have hi:=(Y00.1 hT).1
 constructor
 .intro h;rcases Y02.1 h with h | h
  .obtain⟨j,hj⟩:=Y1n.1 h;have hjl:=(Y00.1 hj).1;simp only[Y12] at hjl;rw[Y2g (by omega)] at hj;exact⟨Y03 hj,fun hn=>by have:=NamesA.uniq (S:=⟨ts,[],[]⟩) hA i j T U hT hj (Zct.2 hn.symm);omega⟩
  .obtain⟨j,hj⟩:=Y1n.1 h;rw[Y16] at hj;exact⟨Y03 hj,fun hn=>by have:=NamesA.uniq (S:=⟨ts,[],[]⟩) hA i _ T U hT hj (Zct.2 hn.symm);omega⟩
 .rintro⟨h,hn⟩;obtain⟨j,hj⟩:=Y1n.1 h;rcases Nat.lt_trichotomy j i with h1 | h1 | h1
  .exact Y21 _ (Y1n.2 ⟨j,by rw[Y2g h1];exact hj⟩)
  .subst h1;rw[hT] at hj;cases hj;exact absurd rfl hn
  .exact Y1m _ (Y1n.2 ⟨j - (i+1),by rw[Y16,show i+1+(j - (i+1))=j by omega];exact hj⟩)
theorem Zbr {n:Nat} {ts:List Tbl} {T:Tbl} (U:Tbl):U ∈ outerS ltT n 1 (ts++[T])↔U=T\/U ∈ ts:=by
 rw[(Zag ltT n 1 (ts++[T])).mem_iff,Y02,Y20];exact Or.comm
def Chgd (S:Sch) (ts:List Tbl) (olds:List ByteArray) (news:List Tbl):Prop:=∀ U,U ∈ ts↔U ∈ news\/(U ∈ S.tables/\U.name ∉ olds)
theorem Chgd.set {S:Sch} (hA:NamesA S.tables) {i:Nat} {T T':Tbl} {n:ByteArray} (hT:S.tables[i]? = some T) (hn:strEq T.name n=true):Chgd S (S.tables.set i T') [n] [T']:=fun U=>by
 rw[Zpk hA hT,<- Zct.1 hn];simp
theorem Zgq {ts:List Tbl} (hA:NamesA ts) {i:Nat} {T T':Tbl} (hT:ts[i]? = some T) (hn:T'.name=T.name):NamesA (ts.set i T'):=by
 have e:(ts.set i T').map Tbl.name=ts.map Tbl.name:=by
  rw[Y11,hn];exact Zb1 (by rw[Y0b,hT];rfl)
 have h1:∀ us:List Tbl,NamesA us↔(us.map Tbl.name).Pairwise fun a b=>Z6x a b=true:=fun us=>by unfold NamesA;rw[List.pairwise_map]
 rw[h1,e,<- h1];exact hA
def Fnd (S:Sch) (n:ByteArray):Prop:=∃ T ∈ S.tables,strEq T.name n=true
theorem Fnd.at {S:Sch} {n:ByteArray} {i:Nat} {T:Tbl} (h:S.tables[i]? = some T) (hn:strEq T.name n=true):Fnd S n:=⟨T,Y03 h,hn⟩
theorem set_at {ts:List Tbl} {i:Nat} {T T':Tbl} (h:ts[i]? = some T):T' ∈ ts.set i T':=by
 obtain⟨h1,_⟩:=Y00.1 h;exact Y03 (i:=i) (by simp[h1])
structure TabsOK (S S':Sch) (x:Stp):Prop where
 src:x.kind=1\/x.kind=2\/5<=x.kind/\x.kind<=9\/x.kind=12->Fnd S x.table/\Fnd S' x.table
 two:x.kind=6\/x.kind=8->Fnd S' x.other
 one:x.kind=7\/x.kind=9->Fnd S x.other
theorem Zi3 {S:Sch} (hA:NamesA S.tables) {i j:Nat} {T O:Tbl} (hi:S.tables[i]? = some T) (hj:S.tables[j]? = some O) (hij:i≠j):strEq T.name O.name=false:=by
 cases h:strEq T.name O.name with
 | false=>rfl
 | true=>exact absurd (hA.uniq i j T O hi hj h) hij
theorem tabsOK {S S':Sch} {x:Stp} (hS:VS S) (ev:EvT S S'.tables x):TabsOK S S' x:=by
 have hA:=hS.ord.1;have two:∀ {i:Nat} {T T':Tbl},S.tables[i]? = some T->strEq T.name x.table=true->S'.tables=S.tables.set i T'->T'.name=T.name->Fnd S x.table/\Fnd S' x.table:=fun hi hn e hT=>⟨.at hi hn,⟨_,e ▸ set_at hi,by rw[hT];exact hn⟩⟩;cases ev with
 | add k hi hn hd e=>exact⟨fun _=>two hi hn e rfl,by omega,by omega⟩
 | drop k hi hn hc hcol hp hd e=>exact⟨fun _=>two hi hn e rfl,by omega,by omega⟩
 | rencol k hi hn hcol e=>exact⟨by omega,by omega,by omega⟩
 | ren k hi hn ho e=>exact⟨by omega,by omega,by omega⟩
 | type k hi hn hc hcol hp e=>exact⟨fun _=>two hi hn e rfl,by omega,by omega⟩
 | split k hi hn ho hs e=>
   rename_i i T;refine⟨fun _=>⟨.at hi hn,⟨rmT T x.cols,?_,hn⟩⟩,fun _=>⟨⟨x.other,(T.pk++x.cols).map (colF T),seqI T.pk.length⟩,?_,Z7c _⟩,by omega⟩
   .rw[e];exact (Zbr _).2 (.inr (set_at hi))
   .rw[e];exact (Zbr _).2 (.inl rfl)
 | join k hi hn hj ho hij hp hk e=>
   rename_i i j T O;refine⟨fun _=>⟨.at hi hn,⟨{ T with cols:=T.cols++O.cols.drop T.pk.length },?_,hn⟩⟩,by omega,fun _=>.at hj ho⟩;rw[e];have hj':(S.tables.set i { T with cols:=T.cols++O.cols.drop T.pk.length })[j]? = some O:=by rw[Y1d hij];exact hj
   refine (Zj6 (Zgq (T':={ T with cols:=T.cols++O.cols.drop T.pk.length }) hA hi rfl) hj' _).2 ⟨set_at hi,fun h=>?_⟩
   have:=Zi3 hA hi hj hij
   rw[show T.name=O.name from h,Z7c] at this;cases this
 | part k hi hn hc hcol hq hv hk ho e=>
   rename_i i T c col b;refine⟨fun _=>⟨.at hi hn,⟨T,?_,hn⟩⟩,fun _=>⟨{ T with name:=x.other },?_,Z7c _⟩,by omega⟩
   .rw[e];exact (Zbr _).2 (.inr (Y03 hi))
   .rw[e];exact (Zbr _).2 (.inl rfl)
 | merge k hi hn hj ho hij hc hp e=>
   rename_i i j T O;refine⟨fun _=>⟨.at hi hn,⟨{ T with pk:=T.pk++[(T.cols.length:Int)],cols:=T.cols++[⟨x.column,2,false⟩] },by rw[e];exact List.mem_filter.2 ⟨set_at hi,by simp[Zi3 hA hi hj hij]⟩,hn⟩⟩,by omega,fun _=>.at hj ho⟩
 | create k ho e=>exact⟨by omega,by omega,by omega⟩
 | droptab k ho e=>exact⟨by omega,by omega,by omega⟩
 | concat k hi hn hx ha hab hb hka hkb hp e=>exact⟨fun _=>two hi hn e rfl,by omega,by omega⟩
 | rule k e=>exact⟨by omega,by omega,by omega⟩
end
end Go.Proofs.YtbcejndfbklikaaGreatDoor
section
namespace Go.Proofs.YtbcejndfbklikaaGreatDoor
open Go Go.Am
def ME (st:Stp) (fwd:Bool) (A B C:Sch):Mp:=⟨st,fwd,A,B,C,EI A,EI C,EI B,EI C,0⟩
theorem Zcp {S:Sch} {n:ByteArray} (hf:Fnd S n):Wp (Z06 S (EI S) n) fun q=>q.2=[]/\q.1 ∈ S.tables:=by
 obtain⟨U,hU,hUn⟩:=hf;unfold Z06;refine Wp.bind (Z1d S n) fun f _ hf=>Wp.cond (fun h=>?_) fun hb=>?_
 .have:=hf.2.2 (by simpa using h) U hU
  rw[hUn] at this;cases this
 obtain⟨h0,h1,-⟩:=hf;obtain⟨-,T,hT,-⟩:=h1 (by simpa using hb);obtain⟨h8,h9⟩:=Y00.1 hT;refine Wp.get h0 (by omega) fun T' _ hm=>Wp.bind (R:=fun y=>y=T') ⟨_,rfl,by cases T';rfl⟩ fun y _ hy=>?_;subst hy;refine Wp.cond (fun _=>Wp.ret ⟨rfl,hm⟩) fun _=>?_;refine Wp.get h0 (by rw[EI_len];omega) fun r _ hr=>?_;rw[Z8t S r hr];exact Wp.ret ⟨rfl,hm⟩
variable {st:Stp} {fwd:Bool} {A B C:Sch}
theorem w_in0 {ρ:Type} {Q:ρ->Prop} {t:ByteArray} {k:Tbl->Option ρ} (hf:Fnd A t) (hk:∀ T ∈ A.tables,Wp (k T) Q):Wp (in0 (ME st fwd A B C) t k) Q:=by
 unfold in0;refine Wp.bind (Zcp hf) fun q _ hq=>Wp.bind (Z1d A t) fun f _ hff=>Wp.chk ⟨?_,hq.1⟩ (hk _ hq.2);obtain⟨U,hU,hUn⟩:=hf;cases hb:f.2 with
 | true=>rfl
 | false=>have:=hff.2.2 hb U hU;rw[hUn] at this;cases this
theorem Zat {t:ByteArray} (hf:Fnd B t):Wp (Z0q (ME st fwd A B C) t) fun T=>T ∈ B.tables:=by
 unfold Z0q;obtain⟨U,hU,hUn⟩:=hf;refine Wp.bind (Z1d B t) fun f _ hf=>?_;have hb:f.2=true:=by
  cases hb:f.2 with
  | true=>rfl
  | false=>have:=hf.2.2 hb U hU;rw[hUn] at this;cases this
 obtain⟨h1,-⟩:=hf.2.1 hb;exact Wp.get hf.1 h1 fun T _ hm=>Wp.ret hm
theorem Zhp (t:ByteArray) (h:A.tables.length<=1048576):Wp (Z0m (ME st fwd A B C) t) fun q=>q.2=[]:=by
 unfold Z0m;exact Wp.bind (Zaw A h t) fun q _ hq=>Wp.ret hq
theorem ME_set {t u:ByteArray}:({ ME st fwd A B C with out:=setR t [] (ME st fwd A B C).out,nc:=setR u [] (ME st fwd A B C).nc }:Mp)=ME st fwd A B C:=by
 simp[ME,setR_E]
theorem Zis (h1:Fnd A st.table) (h2:Fnd B st.table):Wp (Z0a (ME st fwd A B C)) fun M=>M=ME st fwd A B C:=by
 unfold Z0a;refine Wp.bind (Zcp h1) fun q _ hq=>Wp.bind (Z1d A st.table) fun f _ hff=>Wp.chk ⟨?_,?_⟩ ?_
 .obtain⟨U,hU,hUn⟩:=h1;cases hb:f.2 with
  | true=>rfl
  | false=>have:=hff.2.2 hb U hU;rw[hUn] at this;cases this
 .rw[hq.1];simp[RowsOK]
 refine Wp.bind (Zat h2) fun T2 _ _=>Wp.bind (Z3q _ _) fun at_ _ _=>?_;rw[hq.1];exact Wp.ret ME_set
theorem Zir (h1:Fnd A st.table):Wp (Z09 (ME st fwd A B C)) fun M=>M=ME st fwd A B C:=by
 unfold Z09;refine Wp.bind (Zcp h1) fun q _ hq=>Wp.bind (Z1d A st.table) fun f _ hff=>Wp.chk ⟨?_,?_⟩ ?_
 .obtain⟨U,hU,hUn⟩:=h1;cases hb:f.2 with
  | true=>rfl
  | false=>have:=hff.2.2 hb U hU;rw[hUn] at this;cases this
 .rw[hq.1];simp[RowsOK]
 refine Wp.bind (Z3q _ _) fun at_ _ _=>?_;rw[hq.1];exact Wp.ret ME_set
theorem Zho (h1:Fnd A st.table):Wp (Z4f (ME st fwd A B C)) fun M=>M=ME st fwd A B C:=
 w_in0 h1 fun T _=>Wp.ret (by simp[ME,setR_E])
theorem Zqa (h1:Fnd A st.table) (h2:Fnd A st.other):Wp (Z59 (ME st fwd A B C)) fun M=>M=ME st fwd A B C:=
 w_in0 h1 fun T _=>w_in0 h2 fun _ _=>Wp.ret (by simp[ME,setR_E])
theorem Zqc (h0:Fnd B st.table) (h1:Fnd A st.table) (h2:Fnd A st.other):Wp (Z5a (ME st fwd A B C)) fun M=>M=ME st fwd A B C:=
 Wp.bind (Zat h0) fun _ _ _=>w_in0 h1 fun T _=>w_in0 h2 fun _ _=>Wp.ret (by simp[ME,setR_E])
theorem Zlp (h1:Fnd A st.table):Wp (Z4q (ME st fwd A B C)) fun M=>M=ME st fwd A B C:=
 w_in0 h1 fun T _=>Wp.ret (by simp[ME,setR_E])
theorem w_hide (hide:Bool) (hA:A.tables.length<=1048576) (hC:C.tables.length<=1048576):Wp (Z0c (ME st fwd A B C) hide) fun M=>M=ME st fwd A B C:=by
 unfold Z0c;refine Wp.bind (R:=fun _=>True) (by unfold Z4b;exact Wp.cond (fun _=>Wp.ret trivial) fun _=>Wp.ret trivial) fun v _ _=>Wp.cond (fun _=>?_) fun _=>?_
 .refine Wp.bind (Zhp v hA) fun q _ hq=>?_;rw[hq];exact Wp.ret (by simp[ME,setR_E])
 .refine Wp.bind (Zaw C hC v) fun q _ hq=>?_;rw[hq];exact Wp.ret (by simp[ME,setR_E])
theorem Ziq (hA:A.tables.length<=1048576):Wp (Z0p (ME st fwd A B C)) fun M=>M=ME st fwd A B C:=by
 unfold Z0p;refine Wp.cond (fun _=>?_) fun _=>?_
 .refine Wp.bind (Zhp _ hA) fun q _ hq=>?_;rw[hq];exact Wp.ret (by simp[ME,setR_E])
 .refine Wp.bind (Zhp _ hA) fun q _ hq=>?_;rw[hq];exact Wp.ret (by simp[ME,setR_E])
theorem Z9s (hA:A.tables.length<=6) (hAB:B.tables=A.tables) (hC:C.tables=A.tables):Wp (Z27 (ME st fwd A B C)) fun M=>M=ME st fwd A B C:=by
 unfold Z27;refine Wp.chk ⟨EI_no A,EI_no C,?_,?_,?_⟩ (Wp.ret ?_)
 .simp[ME,EI_len,hC]
 .simp[ME,EI_len]
 .simp[ME,EI_len];omega
 .simp[ME,EI,hAB]
theorem Z9r (hA:A.tables.length<=6) (hC:C.tables=A.tables):Wp (Z26 (ME st fwd A B C)) fun M=>M=ME st fwd A B C:=by
 unfold Z26;refine Wp.bind (Zd1 A (by omega)) fun z _ hz=>?_;subst hz;refine Wp.chk ⟨EI_no A,EI_no A,Y09 _,?_,EI_no C,?_⟩ (Wp.bind (Zcq A) fun q _ hq=>Wp.chk hq (Wp.ret rfl))
 .simp[ME,EI_len];omega
 .simp[ME,EI_len,hC]
end Go.Proofs.YtbcejndfbklikaaGreatDoor
end
section
namespace Go.Proofs.YtbcejndfbklikaaGreatDoor
open Go Go.Am
variable {st:Stp} {fwd:Bool} {A B C:Sch}
def One (C:Sch):Prop:=∃ ct,C.tables[0]? = some ct/\ct.cols.length<=100/\ct.pk.length<=100
theorem Zlr {W:Tbl} (hC:One C) (hW:W.cols.length<=100):Wp (Z0u (ME st fwd A B C) W) fun _=>True:=by
 have hL:=LIM_eq;obtain⟨ct,h0,h1,h2⟩:=hC;unfold Z0u;refine Wp.cond (fun _=>Wp.ret trivial) fun _=>?_;refine Wp.getN (i:=0) h0 (Wp.chk (by simp only[okI];omega) ?_);refine Wp.count (fun i (s:List Int)=>s.length=i) rfl ?_ fun _ _=>Wp.ret trivial;intro i s next hi hs hn;refine Wp.chk (by simp only[okI];omega) (Wp.chk (by simp only[okI];omega) (Wp.app (by simp;omega) (Wp.chk (by simp only[okI];omega) (hn _ ?_))));simp[hs]
theorem Zlq (hA:VS A) (h1:Fnd A st.table) (hC:One C):Wp (Z45 (ME st fwd A B C)) fun M=>M=ME st fwd A B C:=
 w_in0 h1 fun T hT=>Wp.bind (Zlr hC (by have:=(hA.tab T hT).cols6;omega)) fun _ _ _=>Wp.ret (by simp[ME,setR_E])
theorem w_join (hB:VS B) (h1:Fnd A st.table) (h2:Fnd A st.other) (h3:Fnd B st.table) (hC:One C):Wp (Z4j (ME st fwd A B C)) fun M=>M=ME st fwd A B C:=
 w_in0 h1 fun T hT=>w_in0 h2 fun _ _=>Wp.bind (Zat h3) fun W _ hW=>Wp.bind (Zlr hC (by have:=(hB.tab W hW).cols6;omega)) fun _ _ _=>Wp.ret (by simp[ME,setR_E])
theorem Zny (t:ByteArray) (h:Fnd A t):Wp (Z0m (ME st fwd A B C) t) fun q=>q.2=[]/\q.1 ∈ A.tables:=by
 unfold Z0m;exact Wp.bind (Zcp h) fun q _ hq=>Wp.ret hq
theorem Zau (hA:VS A) (hB:VS B) (h1:Fnd A st.table) (h3:Fnd B st.table) (hC:One C):Wp (Z1r (ME st fwd A B C)) fun M=>M=ME st fwd A B C:=by
 obtain⟨ct,h0,-,-⟩:=hC;refine w_in0 h1 fun T hT=>Wp.bind (R:=fun _=>True) ?_ fun _ _ _=>Wp.getN (i:=0) h0 (Wp.bind (Zat h3) fun W _ hW=>Wp.ret (by simp[ME,setR_E]));unfold Z1k;refine Wp.bind (Zny _ h1) fun q _ hq=>Wp.bind (Zat h3) fun W _ hW=>Wp.bind (Z3q _ _) fun _ _ _=>Wp.bind (Z3q _ _) fun _ _ _=>?_
 have:=(hB.tab W hW).cols6
 have:=(hA.tab _ hq.2).cols6
 refine Wp.cond (fun _=>Wp.ret trivial) fun _=>Wp.cond (fun _=>Wp.chk (by simp only[okI];omega) (Wp.ret trivial)) fun _=>Wp.chk (by simp only[okI];omega) (Wp.ret trivial)
end Go.Proofs.YtbcejndfbklikaaGreatDoor
end
namespace Go.Proofs.YtbcejndfbklikaaGreatDoor
section
open Go Go.Am
structure COK (S:Sch) (x:Stp) (C:Sch):Prop where
 len:C.tables.length<=6
 one:5<=x.kind/\x.kind<=8\/x.kind=12->One C
 all:13<=x.kind->C.tables=S.tables
theorem Zel {S S' C:Sch} {x:Stp} (hS:VS S) (hS':VS S') (tb:TabsOK S S' x) (hr:13<=x.kind->S'.tables=S.tables) (hk:1<=x.kind/\x.kind<=16) (hC:COK S x C) :
  Wp (Z11 (ME x true S S' C)) (fun M=>M=ME x true S S' C)/\Wp (Z11 (ME x false S' S C)) (fun M=>M=ME x false S' S C):=by
 have t6:=hS.t6;have t6':=hS'.t6;have c6:=hC.len;unfold Z11;have hkk:x.kind=1\/x.kind=2\/x.kind=3\/x.kind=4\/x.kind=5\/x.kind=6\/x.kind=7\/x.kind=8\/x.kind=9\/x.kind=10\/x.kind=11\/x.kind=12\/x.kind=13\/x.kind=14\/x.kind=15\/x.kind=16:=by omega
 refine⟨Wp.chk hk ?_,Wp.chk hk ?_⟩
 .have e:∀ k:Int,x.kind=k->(ME x true S S' C).step.kind=k:=fun _ h=>h;have ef:(ME x true S S' C).fwd=true:=rfl;rcases hkk with h | h | h | h | h | h | h | h | h | h | h | h | h | h | h | h
  .simp[e _ h,ef];exact Zis (tb.src (by omega)).1 (tb.src (by omega)).2
  .simp[e _ h,ef];exact Zir (tb.src (by omega)).1
  .simp[e _ h,ef];exact Wp.ret rfl
  .simp[e _ h,ef];exact Ziq (by omega)
  .simp[e _ h,ef];exact Zau hS hS' (tb.src (by omega)).1 (tb.src (by omega)).2 (hC.one (by omega))
  .simp[e _ h,ef];exact Zlq hS (tb.src (by omega)).1 (hC.one (by omega))
  .simp[e _ h,ef];exact w_join hS' (tb.src (by omega)).1 (tb.one (by omega)) (tb.src (by omega)).2 (hC.one (by omega))
  .simp[e _ h,ef];exact Zho (tb.src (by omega)).1
  .simp[e _ h,ef];exact Zqc (tb.src (by omega)).2 (tb.src (by omega)).1 (tb.one (by omega))
  .simp[e _ h,ef];exact w_hide _ (by omega) (by omega)
  .simp[e _ h,ef];exact w_hide _ (by omega) (by omega)
  .simp[e _ h,ef];exact Zau hS hS' (tb.src (by omega)).1 (tb.src (by omega)).2 (hC.one (by omega))
  .simp[e _ h,ef];exact Z9s hS.t6 (hr (by omega)) (hC.all (by omega))
  .simp[e _ h,ef];exact Z9r hS.t6 (hC.all (by omega))
  .simp[e _ h,ef];exact Z9s hS.t6 (hr (by omega)) (hC.all (by omega))
  .simp[e _ h,ef];exact Z9r hS.t6 (hC.all (by omega))
 .have e:∀ k:Int,x.kind=k->(ME x false S' S C).step.kind=k:=fun _ h=>h;have ef:(ME x false S' S C).fwd=false:=rfl;rcases hkk with h | h | h | h | h | h | h | h | h | h | h | h | h | h | h | h
  .simp[e _ h,ef];exact Zir (tb.src (by omega)).2
  .simp[e _ h,ef];exact Zis (tb.src (by omega)).2 (tb.src (by omega)).1
  .simp[e _ h,ef];exact Wp.ret rfl
  .simp[e _ h,ef];exact Ziq (by omega)
  .simp[e _ h,ef];exact Zau hS' hS (tb.src (by omega)).2 (tb.src (by omega)).1 (hC.one (by omega))
  .simp[e _ h,ef];exact w_join hS (tb.src (by omega)).2 (tb.two (by omega)) (tb.src (by omega)).1 (hC.one (by omega))
  .simp[e _ h,ef];exact Zlq hS' (tb.src (by omega)).2 (hC.one (by omega))
  .simp[e _ h,ef];exact Zqa (tb.src (by omega)).2 (tb.two (by omega))
  .simp[e _ h,ef];exact Zlp (tb.src (by omega)).2
  .simp[e _ h,ef];exact w_hide _ (by omega) (by omega)
  .simp[e _ h,ef];exact w_hide _ (by omega) (by omega)
  .simp[e _ h,ef];exact Zau hS' hS (tb.src (by omega)).2 (tb.src (by omega)).1 (hC.one (by omega))
  .simp[e _ h,ef];exact Z9r hS'.t6 ((hC.all (by omega)).trans (hr (by omega)).symm)
  .simp[e _ h,ef];exact Z9s hS'.t6 (hr (by omega)).symm ((hC.all (by omega)).trans (hr (by omega)).symm)
  .simp[e _ h,ef];exact Z9r hS'.t6 ((hC.all (by omega)).trans (hr (by omega)).symm)
  .simp[e _ h,ef];exact Z9s hS'.t6 (hr (by omega)).symm ((hC.all (by omega)).trans (hr (by omega)).symm)
end
end Go.Proofs.YtbcejndfbklikaaGreatDoor
namespace Go.Proofs
section
open Go.Shelf
def Tryz.laysM171_ren:Go.Shelf.Ren:=⟨fun | 171=>214 | 243=>229 | 246=>238 | 283=>245 | 284=>246 | 285=>247 | 286=>248 | 129=>254 | 317=>253 | 318=>255 | 319=>256 | 320=>257 | 337=>267 | 338=>268 | n=>n,fun | 3=>3 | 9=>9 | 2=>2 | 4=>4 | 171=>289 | 0=>0 | 53=>290 | 37=>194 | 5=>5 | 173=>293 | 212=>297 | 51=>298 | 20=>20 | 213=>299 | 46=>288 | 232=>318 | 233=>319 | n=>n,fun | 17=>1 | 18=>4 | 19=>5 | n=>n⟩
theorem Tryz.laysM171:Go.Proofs.LaysM.n171 Tryz.prog Tryz.laysM171_ren:={
 mixed:=by kernel_rfl
 f129:=Tryz.func254.trans (congrArg some (by kernel_rfl))
 f171:=Tryz.func214.trans (congrArg some (by kernel_rfl))
 f243:=Tryz.func229.trans (congrArg some (by kernel_rfl))
 f246:=Tryz.func238.trans (congrArg some (by kernel_rfl))
 f283:=Tryz.func245.trans (congrArg some (by kernel_rfl))
 f284:=Tryz.func246.trans (congrArg some (by kernel_rfl))
 f285:=Tryz.func247.trans (congrArg some (by kernel_rfl))
 f286:=Tryz.func248.trans (congrArg some (by kernel_rfl))
 f317:=Tryz.func253.trans (congrArg some (by kernel_rfl))
 f318:=Tryz.func255.trans (congrArg some (by kernel_rfl))
 f319:=Tryz.func256.trans (congrArg some (by kernel_rfl))
 f320:=Tryz.func257.trans (congrArg some (by kernel_rfl))
 f337:=Tryz.func267.trans (congrArg some (by kernel_rfl))
 f338:=Tryz.func268.trans (congrArg some (by kernel_rfl))
 t0:=Tryz.underlying0
 a0:=Tryz.isAgg0
 z0:=Tryz.sizeOf0
 v0:=Tryz.zeroValue0
 t2:=Tryz.underlying2
 a2:=Tryz.isAgg2
 z2:=Tryz.sizeOf2
 v2:=Tryz.zeroValue2
 t3:=Tryz.underlying3
 a3:=Tryz.isAgg3
 z3:=Tryz.sizeOf3
 v3:=Tryz.zeroValue3
 t4:=Tryz.underlying4
 a4:=Tryz.isAgg4
 z4:=Tryz.sizeOf4
 v4:=Tryz.zeroValue4
 t5:=Tryz.underlying5
 a5:=Tryz.isAgg5
 z5:=Tryz.sizeOf5
 v5:=Tryz.zeroValue5
 t9:=Tryz.underlying9
 a9:=Tryz.isAgg9
 z9:=Tryz.sizeOf9
 v9:=Tryz.zeroValue9
 t20:=Tryz.underlying20
 a20:=Tryz.isAgg20
 z20:=Tryz.sizeOf20
 v20:=Tryz.zeroValue20
 t37:=Tryz.underlying194
 a37:=Tryz.isAgg194
 z37:=Tryz.sizeOf194
 v37:=Tryz.zeroValue194
 t46:=Tryz.underlying288
 a46:=Tryz.isAgg288
 z46:=Tryz.sizeOf288
 v46:=Tryz.zeroValue288
 t51:=Tryz.underlying298
 a51:=Tryz.isAgg298
 z51:=Tryz.sizeOf298
 v51:=Tryz.zeroValue298
 t53:=Tryz.underlying290
 a53:=Tryz.isAgg290
 z53:=Tryz.sizeOf290
 v53:=Tryz.zeroValue290
 t171:=Tryz.underlying289
 a171:=Tryz.isAgg289
 z171:=Tryz.sizeOf289
 v171:=Tryz.zeroValue289
 t173:=Tryz.underlying293
 a173:=Tryz.isAgg293
 z173:=Tryz.sizeOf293
 v173:=Tryz.zeroValue293
 t212:=Tryz.underlying297
 a212:=Tryz.isAgg297
 z212:=Tryz.sizeOf297
 v212:=Tryz.zeroValue297
 t213:=Tryz.underlying299
 a213:=Tryz.isAgg299
 z213:=Tryz.sizeOf299
 t232:=Tryz.underlying318
 a232:=Tryz.isAgg318
 z232:=Tryz.sizeOf318
 v232:=Tryz.zeroValue318
 t233:=Tryz.underlying319
 a233:=Tryz.isAgg319
 z233:=Tryz.sizeOf319
 v233:=Tryz.zeroValue319
 g17:=by kernel_rfl
 g18:=by kernel_rfl
 g19:=by kernel_rfl
 i0:=by kernel_rfl
 i2:=by kernel_rfl
 i3:=by kernel_rfl
 i4:=by kernel_rfl
 i5:=by kernel_rfl
 i9:=by kernel_rfl
 i20:=by kernel_rfl
 i37:=by kernel_rfl
 i46:=by kernel_rfl
 i51:=by kernel_rfl
 i53:=by kernel_rfl
 i171:=by kernel_rfl
 i173:=by kernel_rfl
 i212:=by kernel_rfl
 i232:=by kernel_rfl
 i233:=by kernel_rfl
 m17:=by kernel_rfl
 m18:=by kernel_rfl
 m19:=by kernel_rfl }
end
end Go.Proofs
namespace Go.Proofs.YtbcejndfbklikaaGreatDoor
section
open Go Go.Am
open Go.RowKit (Below)
theorem PSpec.of_calls {P:Program} {f:FuncId} {av:List AV} {r:RV} {v:Value} (hok:FnOK P f) (hr:∀ m,RepRV m (fun _=>(none,0)) r v) (hf:r.fr=[])
  (h:∀ (w:World) (m t:CM) (vals:Array Value),GOK w->Zc6 m t av vals->Calls P f vals w fun e w'=>e=.returned v/\Below w.heap.size w w'):PSpec P f av r:=by
 refine⟨hok,fun w m t vals hg hm ht hargs=>(h w m t vals hg hargs).mono ?_⟩;rintro e w' ⟨rfl,hb⟩;refine⟨v,m,fun _=>(none,0),rfl,Sub.refl _,fun _ _ _ _ h=>h,hm.of_heap fun b o v hv=>hb.block b (hm.lt hv),hb,hr m,?_⟩;rw[hf];exact⟨fun x hx=>by simp at hx,fun x hx=>by simp at hx⟩
theorem Zq0 {m t:CM} {av:List AV} {a:AV} {vals:Array Value} {u:Value} (h:Zc6 m t [a] vals) (hu:∀ v,RepAV m t a v->v=u):vals=#[u]:=by
 obtain⟨hs,hg⟩:=h;obtain⟨u0,h0,r0⟩:=hg 0 _ rfl
 have:=hu u0 r0
 subst this;apply Y2m;intro i
 match i with
 | 0=>simpa using h0
 | i+1=>rw[Y1r (by simp at hs;omega)];simp
theorem tab_of {P:Program} {w:World} {nm:String} {g:Nat} {zs:List Int} (h:∃ T l,w.heap[g]? = some (.cells (zs.map fun z=>Value.int .u64 z).toArray T l)) (hn:P.globalNamed nm=some g):Lib.TabIs P w nm .u64 zs:=by
 obtain⟨T,l,q⟩:=h;unfold Lib.TabIs World.var?;rw[hn];simp[q]
def Z4w (i:Int):Option ByteArray:=chkK (okI i) (some ⟨(Lib.itoa i).toArray⟩)
theorem Za8 (i:Int) (r:ByteArray) (hm:Is (Z4w i) r):PSpec prog 214 [.one (.d (.int .i64 i))] (.one (.d (.str r))):=by
 obtain⟨hi,hm⟩:=hm.chk;obtain rfl:=r_ret hm;refine PSpec.of_calls ⟨_,Tryz.func214,by kernel_rfl,by kernel_rfl⟩ (fun m=>RepD.str _) rfl fun w m t vals hg hargs=>?_;obtain rfl:=Zq0 (av:=[]) (u:=.int .i64 i) hargs fun v hv=>RepD.int_inv (m:=m) hv;refine (Any.strconv_Itoa Tryz.laysM171 i hi.1 hi.2 w (tab_of hg.2.1 (by kernel_rfl))).mono ?_;rintro e w' ⟨rfl,k,os,rfl⟩;exact⟨rfl,Lib.below_grow _ _ (Y09 _) _ _⟩
end
section
open Go.Am
instance i_strconv_Itoa (i:Int):Con (Z4w i) prog 214 [.one (.d (.int .i64 i))] (fun r=>.one (.d (.str r))):=⟨fun r hm=>Za8 i r hm⟩
def Z0g (t:Tbl) (columns:List Col):Option Tbl:=
 (forK (fun (i5:Nat) (x5:Int) (s5:(List Col) × (List Int)) next_5=>(getK t.cols x5 fun x6=>(bindK (Z4w (i5:Int)) fun v8=>(chkK (({ data:=#[107] }:ByteArray).size+v8.size<=9223372036854775807) (appK2 s5.1 [(Col.mk (({ data:=#[107] }:ByteArray)++v8) x6.kind x6.nullable)] fun _=>(appK2 s5.2 [(i5:Int)] fun _=>(next_5 ((s5.1++[(Col.mk (({ data:=#[107] }:ByteArray)++v8) x6.kind x6.nullable)]),(s5.2++[(i5:Int)]))))))))) (fun (s5:(List Col) × (List Int))=>(appK2 s5.1 columns fun _=>(some (Tbl.mk t.name (s5.1++columns) s5.2)))) t.pk 0 ([],[]))
theorem Z2g (t:Tbl) (columns:List Col) (r:Tbl) (hm:Is (Z0g t columns) r):PSpec prog 178 [.agg t.enc,.one (.d (.sl (columns.map Col.enc)))] (.agg (r.enc.map RC.d)):=by
 unfold Z0g at hm;refine PSpec.of_vc Tryz.func178 rfl (by kernel_rfl) (n:=48) rfl rfl (by simp) ?_
 try simp[*]
 intro hl4;replace hl4:t.pk.length<=2097152:=by simpa using hl4
 refine Wait.for (xs:=t.pk) (s0:=([],[])) (fun i5 s5 e5 h5=>∃ c5_0 c5_1:C,(e5.n=48/\e5.get 1=.one (.d (.sl (columns.map Col.enc)))/\e5.get 2=.one (.ptr (0,32) 0)/\e5.get 4=.one (.ptr (1,64) 0)/\e5.get 5=.one (.ptr (2,80) 0)/\e5.get 13=.one (.d (.sl (t.pk.map encI)))/\e5.get 14=.one (.d (.int .i64 (t.pk.length:Int)))/\e5.get 15=.one (.d (.int .i64 (i5:Int)))/\h5.box (0,32)=some [.d (.str t.name),.d (.sl (t.cols.map Col.enc)),.d (.sl (t.pk.map encI))]/\h5.box (1,64)=some [.d (.str empty),.nil,.nil]/\h5.box (2,80)=some [.d (.str t.name),c5_0,c5_1]/\Grows h5 3 c5_0 (s5.1.map Col.enc)/\Grows h5 1 c5_1 (s5.2.map encI))/\Apart c5_0 c5_1) hm ⟨.nil,.nil,by simp (maxDischargeDepth:=20) [*],(by simp)⟩ ?_ ?_
 .rintro i5 s5 e5 h5 ⟨c5_0,c5_1,⟨hn5,h5_1,h5_2,h5_4,h5_5,h5_13,h5_14,h5_15,hb5_b1,hb5_b2,hb5_b3,gc5_0,gc5_1⟩,apc5_0_c5_1⟩ hlt5 hm;have hlc5_0:=gc5_0.list;have hdc5_0:=gc5_0.toD;have hac5_0:=gc5_0.toA;have huc5_0:=gc5_0.useUp_arr;have hlc5_1:=gc5_1.list;have hdc5_1:=gc5_1.toD;have hac5_1:=gc5_1.toA;have huc5_1:=gc5_1.useUp_arr;have hw5:IntKind.i64.wrap ((i5:Int)+1)=(i5:Int)+1:=Y0a _ (by omega)
  try simp[*]
  replace hm:=hm.get;obtain⟨x6,h0x6,hxx6,hm⟩:=hm
  try simp[*]
  refine r_call (av:=[.one (.d (.int .i64 (i5:Int)))]) hm (fun v hv=>Za8 _ v hv) (by simp[*]) ?_;clear hm;intro v8 hvv8 hm
  try simp[*]
  replace hm:=hm.chk;obtain⟨hw9,hm⟩:=hm;have hw92:=hw9
  try simp at hw92
  try simp[*]
  refine r_app (xs:=s5.1) (ys:=[(Col.mk (({ data:=#[107] }:ByteArray)++v8) x6.kind x6.nullable)]) (enc:=Col.enc) hm Z97 (by first | exact Grows.nil | (simp (maxDischargeDepth:=20) [*];done) | (simp (maxDischargeDepth:=20) [*];refine⟨?_,by omega⟩;intro hq;subst hq;simp at hz2<;>omega)) (by simp[*]) (by decide) (by decide) (fun _=>rfl) ?_;clear hm;intro hl11 hm g10
  try simp[*]
  refine r_app (xs:=s5.2) (ys:=[(i5:Int)]) (enc:=encI) hm Z96 (by first | exact Grows.nil | (simp (maxDischargeDepth:=20) [*];done) | (simp (maxDischargeDepth:=20) [*];refine⟨?_,by omega⟩;intro hq;subst hq;simp at hz2<;>omega)) (by simp[*]) (by decide) (by decide) (fun _=>rfl) ?_;clear hm;intro hl13 hm g12
  try simp[*]
  exact BackF.of ((s5.1++[(Col.mk (({ data:=#[107] }:ByteArray)++v8) x6.kind x6.nullable)]),(s5.2++[(i5:Int)])) ⟨⟨.own (h5.ep+3,528) ((s5.1++[(Col.mk (({ data:=#[107] }:ByteArray)++v8) x6.kind x6.nullable)]).map Col.enc),.own (h5.ep+5,624) ((s5.2++[(i5:Int)]).map encI),by simp (maxDischargeDepth:=20) [*],(by simp)⟩,hm⟩
 .rintro s5 e5 h5 ⟨c5_0,c5_1,⟨hn5,h5_1,h5_2,h5_4,h5_5,h5_13,h5_14,h5_15,hb5_b1,hb5_b2,hb5_b3,gc5_0,gc5_1⟩,apc5_0_c5_1⟩ hm;have hlc5_0:=gc5_0.list;have hdc5_0:=gc5_0.toD;have hac5_0:=gc5_0.toA;have huc5_0:=gc5_0.useUp_arr;have hlc5_1:=gc5_1.list;have hdc5_1:=gc5_1.toD;have hac5_1:=gc5_1.toA;have huc5_1:=gc5_1.useUp_arr
  try simp[*]
  refine r_app (xs:=s5.1) (ys:=columns) (enc:=Col.enc) hm Z97 (by first | exact Grows.nil | (simp (maxDischargeDepth:=20) [*];done) | (simp (maxDischargeDepth:=20) [*];refine⟨?_,by omega⟩;intro hq;subst hq;simp at hz2<;>omega)) (by simp[*]) (by decide) (by decide) (fun _=>rfl) ?_;clear hm;intro hl15 hm g14
  try simp[*]
  obtain rfl:=r_ret hm;exact ret0 (vs:=[_]) (by simp[*];try exact rfl) (by simp[*])
def Z0k (c:Col) (name:ByteArray):Option Col:=
 (some (Col.mk name c.kind c.nullable))
instance c_complement_renamed (c:Col) (name:ByteArray):Con (Z0k c name) prog 179 [.agg c.enc,.one (.d (.str name))] (fun r=>.agg (r.enc.map RC.d)):=by
 unfold Z0k;exact go 8 Tryz.func179 rfl (by kernel_rfl) rfl rfl (by simp)
def Z29 (columns:List Col):Option ((List Col)):=
 (forK (fun (i2:Nat) (x2:Col) (s2:(List Col)) next_2=>(bindK (Z4w (i2:Int)) fun v4=>(chkK (({ data:=#[98] }:ByteArray).size+v4.size<=9223372036854775807) (bindK (Z0k x2 (({ data:=#[98] }:ByteArray)++v4)) fun v6=>(appK2 s2 [v6] fun _=>(next_2 (s2++[v6]))))))) (fun (s2:(List Col))=>(some s2)) columns 0 [])
instance c_complement_numbered (columns:List Col):Con (Z29 columns) prog 180 [.one (.d (.sl (columns.map Col.enc)))] (fun r=>.one (.d (.sl (r.map Col.enc)))):=by
 unfold Z29;have l1:LH (σ:=(List Col)) 8 [6,7] [.g 3 3 (fun s=>s.map Col.enc)]:=.intro;have p1:PH [5] (Plan.then_ [0,1,2,3,4,5,6,7,8] .done):=.intro;exact go 23 Tryz.func180 rfl (by kernel_rfl) rfl rfl (by simp)
set_option maxHeartbeats 2000000
def Z1s (s_:Sch) (target:Sch) (step:Stp):Option Tbl:=
 (bif (step.kind == 10) then (bindK (Z21 step.newTable) fun v6=>(some v6)) else (bindK (Z02 s_ step.table) fun v7=>(getK s_.tables v7.1 fun x8=>(bif (step.kind == 11) then (bindK (Z21 x8) fun v11=>(some v11)) else (bindK (Z02 target step.table) fun v12=>(getK target.tables v12.1 fun x13=>(chkK (okI ((x13.cols.length:Int) - 1)) (getK x13.cols ((x13.cols.length:Int) - 1) fun x16=>(bindK (Z03 x8 step.column) fun v18=>(bif (step.kind == 1) then (bindK (Z0k x16 ({ data:=#[111,108,100] })) fun v20=>(bindK (Z0g x8 [v20]) fun v21=>(some v21))) else (bif (step.kind == 2) then (getK x8.cols v18.1 fun x23=>(bindK (Z0k x23 ({ data:=#[111,108,100] })) fun v24=>(bindK (Z0g x8 [v24]) fun v25=>(some v25)))) else (bif (step.kind == 5) then (getK x8.cols v18.1 fun x27=>(getK x13.cols v18.1 fun x28=>(bindK (Z0k x27 ({ data:=#[111,108,100] })) fun v29=>(bindK (Z0k x28 ({ data:=#[110,101,119] })) fun v30=>(bindK (Z0g x8 [v29,v30]) fun v31=>(some v31)))))) else (bif (step.kind == 12) then (getK step.cols 0 fun x33=>(getK x8.cols x33 fun x34=>(getK step.cols 1 fun x35=>(getK x8.cols x35 fun x36=>(bindK (Z0k x34 ({ data:=#[111,108,100,48] })) fun v37=>(bindK (Z0k x36 ({ data:=#[111,108,100,49] })) fun v38=>(bindK (Z0k x16 ({ data:=#[110,101,119] })) fun v39=>(bindK (Z0g x8 [v37,v38,v39]) fun v40=>(some v40))))))))) else (bif (step.kind == 8) then (bindK (Z0g x8 [(Col.mk ({ data:=#[111,116,104,101,114] }) 2 false)]) fun v42=>(some v42)) else (bif (step.kind == 7) then (chkK (0<=(x8.cols.length:Int)/\(x8.cols.length:Int)<=(x13.cols.length:Int)/\(x13.cols.length:Int)<=(x13.cols.length:Int)) (bindK (Z29 ((x13.cols.take x13.cols.length).drop x8.cols.length)) fun v46=>(bindK (Z0g x8 v46) fun v47=>(some v47)))) else (forK (fun (i49:Nat) (x49:Col) (s49:(List Col)) next_49=>(bindK (Z0d step.cols (i49:Int)) fun v51=>(bif v51 then (appK2 s49 [x49] fun _=>(next_49 (s49++[x49]))) else (next_49 s49)))) (fun (s49:(List Col))=>(bindK (Z29 s49) fun v55=>(bindK (Z0g x8 v55) fun v56=>(some v56)))) x8.cols 0 []))))))))))))))))
theorem Zbe (s_:Sch) (target:Sch) (step:Stp) (r:Tbl) (hm:Is (Z1s s_ target step) r):PSpec prog 141 [.agg s_.enc,.agg target.enc,.agg step.enc] (.agg (r.enc.map RC.d)):=by
 unfold Z1s at hm;refine PSpec.of_vc Tryz.func141 rfl (by kernel_rfl) (n:=166) rfl rfl (by simp) ?_
 try simp[*]
 refine r_cond hm ?_ ?_<;>clear hm<;>intro hc5 hm
 .try simp[*]
  refine r_call (av:=[.agg step.newTable.enc]) hm (fun v hv=>c_schema_CloneTable _ v hv) (by simp[*]) ?_;clear hm;intro v6 hvv6 hm
  try simp[*]
  obtain rfl:=r_ret hm;exact ret0 (vs:=[_]) (by simp[*];try exact rfl) (by simp[*])
 .try simp[*]
  refine r_call (av:=[.agg s_.enc,.one (.d (.str step.table))]) hm (fun v hv=>c_schema_FindTable _ _ v hv) (by simp[*]) ?_;clear hm;intro v7 hvv7 hm
  try simp[*]
  replace hm:=hm.get;obtain⟨x8,h0x8,hxx8,hm⟩:=hm
  try simp[*]
  refine r_cond hm ?_ ?_<;>clear hm<;>intro hc10 hm
  .try simp[*]
   refine r_call (av:=[.agg x8.enc]) hm (fun v hv=>c_schema_CloneTable _ v hv) (by simp[*]) ?_;clear hm;intro v11 hvv11 hm
   try simp[*]
   obtain rfl:=r_ret hm;exact ret0 (vs:=[_]) (by simp[*];try exact rfl) (by simp[*])
  .try simp[*]
   refine r_call (av:=[.agg target.enc,.one (.d (.str step.table))]) hm (fun v hv=>c_schema_FindTable _ _ v hv) (by simp[*]) ?_;clear hm;intro v12 hvv12 hm
   try simp[*]
   replace hm:=hm.get;obtain⟨x13,h0x13,hxx13,hm⟩:=hm
   try simp[*]
   intro hl14;replace hl14:x13.cols.length<=2097152:=by simpa using hl14
   replace hm:=hm.chk;obtain⟨hw15,hm⟩:=hm;replace hw15:=Zf4 hw15
   try simp[*]
   replace hm:=hm.get;obtain⟨x16,h0x16,hxx16,hm⟩:=hm
   try simp at h0x16
   try simp at hxx16
   try simp[*]
   refine r_call (av:=[.agg x8.enc,.one (.d (.str step.column))]) hm (fun v hv=>c_schema_FindColumn _ _ v hv) (by simp[*]) ?_;clear hm;intro v18 hvv18 hm
   try simp[*]
   refine r_cond hm ?_ ?_<;>clear hm<;>intro hc19 hm
   .try simp[*]
    refine Wait.of (SWP.draw (Plan.then_ [0,1,2,3,4,5] .done) follows (by kernel_rfl) ?_)
    try simp[*]
    refine r_call (av:=[.agg x16.enc,.one (.d (.str ({ data:=#[111,108,100] })))]) hm (fun v hv=>c_complement_renamed _ _ v hv) (by simp[*]) ?_;clear hm;intro v20 hvv20 hm
    try simp[*]
    try refine⟨fun (_:Lab) (_:List C) hl=>hl,?_⟩
    refine r_call (av:=[.agg x8.enc,.one (.d (.sl ([v20].map Col.enc)))]) hm (fun v hv=>Z2g _ _ v hv) (by simp[*]) ?_;clear hm;intro v21 hvv21 hm
    try simp[*]
    try refine⟨fun (_:Lab) (_:List C) hl=>hl,?_⟩
    obtain rfl:=r_ret hm;exact ret0 (vs:=[_]) (by simp[*];try exact rfl) (by simp[*])
   .try simp[*]
    refine r_cond hm ?_ ?_<;>clear hm<;>intro hc22 hm
    .try simp[*]
     refine Wait.of (SWP.draw (Plan.then_ [0,1,2,3,4,5,6,7,8,9] .done) follows (by kernel_rfl) ?_)
     try simp[*]
     replace hm:=hm.get;obtain⟨x23,h0x23,hxx23,hm⟩:=hm
     try simp[*]
     refine r_call (av:=[.agg x23.enc,.one (.d (.str ({ data:=#[111,108,100] })))]) hm (fun v hv=>c_complement_renamed _ _ v hv) (by simp[*]) ?_;clear hm;intro v24 hvv24 hm
     try simp[*]
     try refine⟨fun (_:Lab) (_:List C) hl=>hl,?_⟩
     refine r_call (av:=[.agg x8.enc,.one (.d (.sl ([v24].map Col.enc)))]) hm (fun v hv=>Z2g _ _ v hv) (by simp[*]) ?_;clear hm;intro v25 hvv25 hm
     try simp[*]
     try refine⟨fun (_:Lab) (_:List C) hl=>hl,?_⟩
     obtain rfl:=r_ret hm;exact ret0 (vs:=[_]) (by simp[*];try exact rfl) (by simp[*])
    .try simp[*]
     refine r_cond hm ?_ ?_<;>clear hm<;>intro hc26 hm
     .try simp[*]
      refine Wait.of (SWP.draw (Plan.then_ [0,1,2,3,4,5,7,8,9,10,6,11,12,13,14] .done) follows (by kernel_rfl) ?_)
      try simp[*]
      replace hm:=hm.get;obtain⟨x27,h0x27,hxx27,hm⟩:=hm
      try simp[*]
      replace hm:=hm.get;obtain⟨x28,h0x28,hxx28,hm⟩:=hm
      try simp[*]
      refine r_call (av:=[.agg x27.enc,.one (.d (.str ({ data:=#[111,108,100] })))]) hm (fun v hv=>c_complement_renamed _ _ v hv) (by simp[*]) ?_;clear hm;intro v29 hvv29 hm
      try simp[*]
      try refine⟨fun (_:Lab) (_:List C) hl=>hl,?_⟩
      refine r_call (av:=[.agg x28.enc,.one (.d (.str ({ data:=#[110,101,119] })))]) hm (fun v hv=>c_complement_renamed _ _ v hv) (by simp[*]) ?_;clear hm;intro v30 hvv30 hm
      try simp[*]
      try refine⟨fun (_:Lab) (_:List C) hl=>hl,?_⟩
      refine r_call (av:=[.agg x8.enc,.one (.d (.sl ([v29,v30].map Col.enc)))]) hm (fun v hv=>Z2g _ _ v hv) (by simp[*]) ?_;clear hm;intro v31 hvv31 hm
      try simp[*]
      try refine⟨fun (_:Lab) (_:List C) hl=>hl,?_⟩
      obtain rfl:=r_ret hm;exact ret0 (vs:=[_]) (by simp[*];try exact rfl) (by simp[*])
     .try simp[*]
      refine r_cond hm ?_ ?_<;>clear hm<;>intro hc32 hm
      .try simp[*]
       refine Wait.of (SWP.draw (Plan.then_ [0,1,2,3,4,5,6,7,8,10,11,12,13,14,15,16,17,19,9,18,20,21,22,23] .done) follows (by kernel_rfl) ?_)
       try simp[*]
       replace hm:=hm.get;obtain⟨x33,h0x33,hxx33,hm⟩:=hm
       try simp at h0x33
       try simp at hxx33
       try simp[*]
       replace hm:=hm.get;obtain⟨x34,h0x34,hxx34,hm⟩:=hm
       try simp[*]
       replace hm:=hm.get;obtain⟨x35,h0x35,hxx35,hm⟩:=hm
       try simp at h0x35
       try simp at hxx35
       try simp[*]
       replace hm:=hm.get;obtain⟨x36,h0x36,hxx36,hm⟩:=hm
       try simp[*]
       refine r_call (av:=[.agg x34.enc,.one (.d (.str ({ data:=#[111,108,100,48] })))]) hm (fun v hv=>c_complement_renamed _ _ v hv) (by simp[*]) ?_;clear hm;intro v37 hvv37 hm
       try simp[*]
       try refine⟨fun (_:Lab) (_:List C) hl=>hl,?_⟩
       refine r_call (av:=[.agg x36.enc,.one (.d (.str ({ data:=#[111,108,100,49] })))]) hm (fun v hv=>c_complement_renamed _ _ v hv) (by simp[*]) ?_;clear hm;intro v38 hvv38 hm
       try simp[*]
       try refine⟨fun (_:Lab) (_:List C) hl=>hl,?_⟩
       refine r_call (av:=[.agg x16.enc,.one (.d (.str ({ data:=#[110,101,119] })))]) hm (fun v hv=>c_complement_renamed _ _ v hv) (by simp[*]) ?_;clear hm;intro v39 hvv39 hm
       try simp[*]
       try refine⟨fun (_:Lab) (_:List C) hl=>hl,?_⟩
       refine r_call (av:=[.agg x8.enc,.one (.d (.sl ([v37,v38,v39].map Col.enc)))]) hm (fun v hv=>Z2g _ _ v hv) (by simp[*]) ?_;clear hm;intro v40 hvv40 hm
       try simp[*]
       try refine⟨fun (_:Lab) (_:List C) hl=>hl,?_⟩
       obtain rfl:=r_ret hm;exact ret0 (vs:=[_]) (by simp[*];try exact rfl) (by simp[*])
      .try simp[*]
       refine r_cond hm ?_ ?_<;>clear hm<;>intro hc41 hm
       .try simp[*]
        refine r_call (av:=[.agg x8.enc,.one (.d (.sl ([(Col.mk ({ data:=#[111,116,104,101,114] }) 2 false)].map Col.enc)))]) hm (fun v hv=>Z2g _ _ v hv) (by simp[*]) ?_;clear hm;intro v42 hvv42 hm
        try simp[*]
        obtain rfl:=r_ret hm;exact ret0 (vs:=[_]) (by simp[*];try exact rfl) (by simp[*])
       .try simp[*]
        refine r_cond hm ?_ ?_<;>clear hm<;>intro hc43 hm
        .try simp[*]
         refine Wait.of (SWP.draw (Plan.then_ [0,1,2,3,4,5,6,7,8] .done) follows (by kernel_rfl) ?_)
         try simp[*]
         intro hl44;replace hl44:x8.cols.length<=2097152:=by simpa using hl44
         replace hm:=hm.chk;obtain⟨⟨hax45,hbx45,hdx45⟩,hm⟩:=hm;have hex45:=hbx45;try simp at hex45;have hfx45:=hdx45;try simp at hfx45
         try simp[*]
         refine r_call (av:=[.one (.d (.sl (((x13.cols.take x13.cols.length).drop x8.cols.length).map Col.enc)))]) hm (fun v hv=>c_complement_numbered _ v hv) (by simp[*]) ?_;clear hm;intro v46 hvv46 hm
         try simp[*]
         try refine⟨fun (_:Lab) (_:List C) hl=>hl,?_⟩
         refine r_call (av:=[.agg x8.enc,.one (.d (.sl (v46.map Col.enc)))]) hm (fun v hv=>Z2g _ _ v hv) (by simp[*]) ?_;clear hm;intro v47 hvv47 hm
         try simp[*]
         try refine⟨fun (_:Lab) (_:List C) hl=>hl,?_⟩
         obtain rfl:=r_ret hm;exact ret0 (vs:=[_]) (by simp[*];try exact rfl) (by simp[*])
        .try simp[*]
         intro hl48;replace hl48:x8.cols.length<=2097152:=by simpa using hl48
         refine Wait.for (xs:=x8.cols) (s0:=[]) (fun i49 s49 e49 h49=>∃ c49_0:C,e49.n=166/\e49.get 5=.one (.ptr (2,80) 0)/\e49.get 6=.one (.ptr (3,96) 0)/\e49.get 9=.one (.ptr (5,144) 0)/\e49.get 16=.one c49_0/\e49.get 146=.one (.d (.sl (x8.cols.map Col.enc)))/\e49.get 147=.one (.d (.int .i64 (x8.cols.length:Int)))/\e49.get 148=.one (.d (.int .i64 (i49:Int)))/\h49.box (2,80)=some [.d (.int .i64 step.kind),.d (.str step.table),.d (.str step.other),.d (.str step.column),.d (.str step.newName),.d (.int .i64 step.type),.d (.sl (step.cols.map encI)),.d (.str step.op),.d (.int .i64 step.value.kind),.d (.int .i64 step.value.int),.d (.str step.value.text),.d (.str step.newTable.name),.d (.sl (step.newTable.cols.map Col.enc)),.d (.sl (step.newTable.pk.map encI)),.d (.str step.cons.table),.d (.int .i64 step.cons.left),.d (.str step.cons.op),.d (.int .i64 step.cons.right),.d (.int .i64 step.cons.value.kind),.d (.int .i64 step.cons.value.int),.d (.str step.cons.value.text),.d (.str step.fk.table),.d (.sl (step.fk.cols.map encI)),.d (.str step.fk.ref)]/\h49.box (3,96)=some [.d (.str empty),.nil,.nil]/\h49.box (5,144)=some [.d (.str x8.name),.d (.sl (x8.cols.map Col.enc)),.d (.sl (x8.pk.map encI))]/\Grows h49 3 c49_0 (s49.map Col.enc)) hm ⟨.nil,by simp (maxDischargeDepth:=20) [*]⟩ ?_ ?_
         .rintro i49 s49 e49 h49 ⟨c49_0,hn49,h49_5,h49_6,h49_9,h49_16,h49_146,h49_147,h49_148,hb49_b3,hb49_b4,hb49_b9,gc49_0⟩ hlt49 hm;have hlc49_0:=gc49_0.list;have hdc49_0:=gc49_0.toD;have hac49_0:=gc49_0.toA;have huc49_0:=gc49_0.useUp_arr;have hw49:IntKind.i64.wrap ((i49:Int)+1)=(i49:Int)+1:=Y0a _ (by omega)
          try simp[*]
          refine r_call (av:=[.one (.d (.sl (step.cols.map encI))),.one (.d (.int .i64 (i49:Int)))]) hm (fun v hv=>c_slices_Contains_Int _ _ v hv) (by simp[*]) ?_;clear hm;intro v51 hvv51 hm
          try simp[*]
          refine r_cond hm ?_ ?_<;>clear hm<;>intro hc52 hm
          .try simp[*]
           refine r_app (xs:=s49) (ys:=[x8.cols[i49]]) (enc:=Col.enc) hm Z97 (by first | exact Grows.nil | (simp (maxDischargeDepth:=20) [*];done) | (simp (maxDischargeDepth:=20) [*];refine⟨?_,by omega⟩;intro hq;subst hq;simp at hz2<;>omega)) (by simp[*]) (by decide) (by decide) (fun _=>rfl) ?_;clear hm;intro hl54 hm g53
           try simp[*]
           exact BackF.of (s49++[x8.cols[i49]]) ⟨⟨.own (h49.ep+3,2560) ((s49++[x8.cols[i49]]).map Col.enc),by simp (maxDischargeDepth:=20) [*]⟩,hm⟩
          .try simp[*]
           exact BackF.of s49 ⟨⟨c49_0,by simp (maxDischargeDepth:=20) [*]⟩,hm⟩
         .rintro s49 e49 h49 ⟨c49_0,hn49,h49_5,h49_6,h49_9,h49_16,h49_146,h49_147,h49_148,hb49_b3,hb49_b4,hb49_b9,gc49_0⟩ hm;have hlc49_0:=gc49_0.list;have hdc49_0:=gc49_0.toD;have hac49_0:=gc49_0.toA;have huc49_0:=gc49_0.useUp_arr
          try simp[*]
          refine Wait.of (SWP.draw (Plan.then_ [0,1,2,3,4] .done) follows (by kernel_rfl) ?_)
          try simp[*]
          refine r_call (av:=[.one (.d (.sl (s49.map Col.enc)))]) hm (fun v hv=>c_complement_numbered _ v hv) (by simp[*]) ?_;clear hm;intro v55 hvv55 hm
          try simp[*]
          try refine⟨fun (_:Lab) (_:List C) hl=>hl,?_⟩
          refine r_call (av:=[.agg x8.enc,.one (.d (.sl (v55.map Col.enc)))]) hm (fun v hv=>Z2g _ _ v hv) (by simp[*]) ?_;clear hm;intro v56 hvv56 hm
          try simp[*]
          try refine⟨fun (_:Lab) (_:List C) hl=>hl,?_⟩
          obtain rfl:=r_ret hm;exact ret0 (vs:=[_]) (by simp[*];try exact rfl) (by simp[*])
instance i_complement_table (s_:Sch) (target:Sch) (step:Stp):Con (Z1s s_ target step) prog 141 [.agg s_.enc,.agg target.enc,.agg step.enc] (fun r=>.agg (r.enc.map RC.d)):=⟨fun r hm=>Zbe s_ target step r hm⟩
def Z1m (s_:Sch) (step:Stp):Option (Sch × Int):=
 (bindK (Z0f s_ step) fun v4=>(bif (v4.2 != 0) then (some ((Sch.mk [] [] []),v4.2)) else (bif (step.kind == 13) then (bindK (Z15 s_) fun v8=>(some ((Sch.mk v8.tables [] []),0))) else (bif (step.kind == 14) then (bindK (Z15 s_) fun v10=>(some ((Sch.mk v10.tables [] []),0))) else (bif (step.kind == 15) then (bindK (Z15 s_) fun v12=>(some ((Sch.mk v12.tables [] []),0))) else (bif (step.kind == 16) then (bindK (Z15 s_) fun v14=>(some ((Sch.mk v14.tables [] []),0))) else (bif (step.kind == 3) then (some ((Sch.mk [] [] []),0)) else (bif (step.kind == 4) then (some ((Sch.mk [] [] []),0)) else (bif (step.kind == 9) then (some ((Sch.mk [] [] []),0)) else (bindK (Z1s s_ v4.1 step) fun v18=>(some ((Sch.mk [v18] [] []),0))))))))))))
instance c_complement_Schema (s_:Sch) (step:Stp):Con (Z1m s_ step) prog 122 [.agg s_.enc,.agg step.enc] (fun r=>.tup [.agg (r.1.enc.map RC.d),.one (.d (.int .i64 r.2))]):=by
 unfold Z1m;exact go 40 Tryz.func122 rfl (by kernel_rfl) rfl rfl (by simp)
def Z2z (s_:Sch) (step:Stp):Option (Sch × Sch × Int):=
 (bindK (Z0f s_ step) fun v5=>(bif (v5.2 != 0) then (some ((Sch.mk [] [] []),(Sch.mk [] [] []),v5.2)) else (bindK (Z1m s_ step) fun v8=>(some (v5.1,v8.1,v8.2)))))
theorem Z8a (s_:Sch) (step:Stp) (r:Sch × Sch × Int) (hm:Is (Z2z s_ step) r):PSpec prog 108 [.agg s_.enc,.agg step.enc] (.tup [.agg (r.1.enc.map RC.d),.agg (r.2.1.enc.map RC.d),.one (.d (.int .i64 r.2.2))]):=by
 unfold Z2z at hm;refine PSpec.of_vc Tryz.func108 rfl (by kernel_rfl) (n:=30) rfl rfl (by simp) ?_
 try simp[*]
 refine r_call (av:=[.agg s_.enc,.agg step.enc]) hm (fun v hv=>Z5j _ _ v hv) (by simp[*]) ?_;clear hm;intro v5 hvv5 hm
 try simp[*]
 refine r_cond hm ?_ ?_<;>clear hm<;>intro hc7 hm
 .try simp[*]
  obtain rfl:=r_ret hm;exact ret0 (vs:=[_,_,_]) (by simp[*];try exact⟨rfl,rfl,rfl⟩) (by simp[*])
 .try simp[*]
  refine r_call (av:=[.agg s_.enc,.agg step.enc]) hm (fun v hv=>c_complement_Schema _ _ v hv) (by simp[*]) ?_;clear hm;intro v8 hvv8 hm
  try simp[*]
  refine Wait.cut (Plan.then_ [0,2] (.two 1 3 (Plan.then_ [3,4,5] .done) (Plan.then_ [1,4,5] .done))) follows (by kernel_rfl) (fun e10 h10=>e10.n=30/\e10.get 4=.one (.ptr (2,64) 0)/\e10.get 5=.one (.ptr (3,80) 0)/\e10.get 6=.one (.d (.int .i64 v8.2))/\h10.box (2,64)=some [.d (.sl (v5.1.tables.map Tbl.enc)),.d (.sl (v5.1.fks.map Fk.enc)),.d (.sl (v5.1.cons.map Cons.enc))]/\h10.box (3,80)=some [.d (.sl (v8.1.tables.map Tbl.enc)),.d (.sl (v8.1.fks.map Fk.enc)),.d (.sl (v8.1.cons.map Cons.enc))]) ?_ ?_
  .try simp[*]
   repeat' (first | with_reducible refine And.intro ?_ ?_ | (refine CutK.of ?_;simp[*];done))
  .rintro e10 h10 ⟨hn10,h10_4,h10_5,h10_6,hb10_b3,hb10_b4⟩
   try simp[*]
   obtain rfl:=r_ret hm;exact ret0 (vs:=[_,_,_]) (by simp[*];try exact⟨rfl,rfl,rfl⟩) (by simp[*])
instance i_lens_schemas (s_:Sch) (step:Stp):Con (Z2z s_ step) prog 108 [.agg s_.enc,.agg step.enc] (fun r=>.tup [.agg (r.1.enc.map RC.d),.agg (r.2.1.enc.map RC.d),.one (.d (.int .i64 r.2.2))]):=⟨fun r hm=>Z8a s_ step r hm⟩
def Z3u (step:Stp):Option Stp:=
 (bindK (Z3a step.cols) fun v3=>(bindK (Z21 step.newTable) fun v4=>(bindK (Z3a step.fk.cols) fun v5=>(some (Stp.mk step.kind step.table step.other step.column step.newName step.type v3 step.op step.value v4 step.cons (Fk.mk step.fk.table v5 step.fk.ref))))))
instance c_evolution_Clone (step:Stp):Con (Z3u step) prog 110 [.agg step.enc] (fun r=>.agg (r.enc.map RC.d)):=by
 unfold Z3u;exact go 18 Tryz.func110 rfl (by kernel_rfl) rfl rfl (by simp)
end
section
open Go Go.Am
def Z4x (S:Sch) (step:Stp) (source comp:List Rel):Option (List Rel × List Rel × Int):=
 bindK (Z2z S step) fun q=>bif q.2.2 != 0 then some ([],[],q.2.2) else
 bindK (Z3u step) fun st=>bindK (Z15 S) fun S2=>Z7e ⟨st,true,S2,q.1,q.2.1,[],[],[],[],0⟩ source comp
def Z4n (S:Sch) (step:Stp) (target comp:List Rel):Option (List Rel × List Rel × Int):=
 bindK (Z2z S step) fun q=>bif q.2.2 != 0 then some ([],[],q.2.2) else
 bindK (Z3u step) fun st=>bindK (Z15 S) fun S2=>Z7e ⟨st,false,q.1,S2,q.2.1,[],[],[],[],0⟩ target comp
theorem Zee (S:Sch) (step:Stp) (source comp:List Rel) (r:List Rel × List Rel × Int) (hm:Is (Z4x S step source comp) r) :
  PSpec prog 89 [.agg S.enc,.agg step.enc,.one (.d (.sl (source.map Rel.enc))),.one (.d (.sl (comp.map Rel.enc)))] (.tup [.one (.d (.sl (r.1.map Rel.enc))),.one (.d (.sl (r.2.1.map Rel.enc))),.one (.d (.int .i64 r.2.2))]):=by
 unfold Z4x at hm;refine PSpec.of_heap ?_;show HSpec _ _ [.agg (S.enc.map C.d),.agg (step.enc.map C.d),.one (.d (.sl (source.map Rel.enc))),.one (.d (.sl (comp.map Rel.enc)))] HS.init _;refine HSpec.of_vc Tryz.func89 rfl (by kernel_rfl) (n:=40) rfl rfl (by simp) ?_;obtain⟨q,hq,hm⟩:=hm.bind;simp;refine Z08 (Z8a S step q hq) (by simp) ?_;simp;refine r_cond hm ?_ ?_<;>clear hm<;>intro hc hm
 .obtain rfl:=r_ret hm;simp[retH,resVs,resV,notTup];exact⟨.data rfl,.data rfl,.data rfl,trivial⟩
 .obtain⟨st,hst,hm⟩:=hm.bind;obtain⟨S2,hS2,hm⟩:=hm.bind;simp;refine Wait.cut (Plan.then_ [0,2,4,5,1,3,6,7,8] .done) follows (by kernel_rfl) (fun e1 h1=>∃ l,e1.n=40/\e1.get 2=.one (.d (.sl (source.map Rel.enc)))/\e1.get 3=.one (.d (.sl (comp.map Rel.enc)))/\e1.get 14=.one (.ptr l 0)/\l.1 < h1.ep/\h1.box l=some (mpIn ⟨st,true,S2,q.1,q.2.1,[],[],[],[],0⟩)) ?_ ?_
  .simp;refine Z08 ((c_evolution_Clone step).h st hst) (by simp) ?_;simp
   try refine⟨fun _ _ x=>x,?_⟩
   refine Z08 (Z5x S S2 hS2) (by simp) ?_;simp;refine⟨fun _ _ x=>x,?_⟩
   try simp
   exact CutK.of ⟨(7,512),by simp,by simp,by simp,by simp,by simp,by simp[mpIn,Stp.enc]⟩
  .rintro e1 h1 ⟨l,en,e2,e3,e14,hl,hb⟩;simp[en,e2,e3,e14];refine Z00 (Zew _ l _ source comp r hb hl hm _ fun c1 c2 h2 f1 f2=>?_);simp[retH,resVs,resV,notTup,en];exact⟨f1,f2,.data rfl,trivial⟩
theorem Zdz (S:Sch) (step:Stp) (target comp:List Rel) (r:List Rel × List Rel × Int) (hm:Is (Z4n S step target comp) r) :
  PSpec prog 90 [.agg S.enc,.agg step.enc,.one (.d (.sl (target.map Rel.enc))),.one (.d (.sl (comp.map Rel.enc)))] (.tup [.one (.d (.sl (r.1.map Rel.enc))),.one (.d (.sl (r.2.1.map Rel.enc))),.one (.d (.int .i64 r.2.2))]):=by
 unfold Z4n at hm;refine PSpec.of_heap ?_;show HSpec _ _ [.agg (S.enc.map C.d),.agg (step.enc.map C.d),.one (.d (.sl (target.map Rel.enc))),.one (.d (.sl (comp.map Rel.enc)))] HS.init _;refine HSpec.of_vc Tryz.func90 rfl (by kernel_rfl) (n:=40) rfl rfl (by simp) ?_;obtain⟨q,hq,hm⟩:=hm.bind;simp;refine Z08 (Z8a S step q hq) (by simp) ?_;simp;refine r_cond hm ?_ ?_<;>clear hm<;>intro hc hm
 .obtain rfl:=r_ret hm;simp[retH,resVs,resV,notTup];exact⟨.data rfl,.data rfl,.data rfl,trivial⟩
 .obtain⟨st,hst,hm⟩:=hm.bind;obtain⟨S2,hS2,hm⟩:=hm.bind;simp;refine Wait.cut (Plan.then_ [0,2,3,5,1,4,6,7,8] .done) follows (by kernel_rfl) (fun e1 h1=>∃ l,e1.n=40/\e1.get 2=.one (.d (.sl (target.map Rel.enc)))/\e1.get 3=.one (.d (.sl (comp.map Rel.enc)))/\e1.get 14=.one (.ptr l 0)/\l.1 < h1.ep/\h1.box l=some (mpIn ⟨st,false,q.1,S2,q.2.1,[],[],[],[],0⟩)) ?_ ?_
  .simp;refine Z08 ((c_evolution_Clone step).h st hst) (by simp) ?_;simp
   try refine⟨fun _ _ x=>x,?_⟩
   refine Z08 (Z5x S S2 hS2) (by simp) ?_;simp;refine⟨fun _ _ x=>x,?_⟩
   try simp
   exact CutK.of ⟨(7,512),by simp,by simp,by simp,by simp,by simp,by simp[mpIn,Stp.enc]⟩
  .rintro e1 h1 ⟨l,en,e2,e3,e14,hl,hb⟩;simp[en,e2,e3,e14];refine Z00 (Zew _ l _ target comp r hb hl hm _ fun c1 c2 h2 f1 f2=>?_);simp[retH,resVs,resV,notTup,en];exact⟨f1,f2,.data rfl,trivial⟩
theorem Z8c (x:Stp):Wp (Z3u x) fun r=>r=x:=by
 unfold Z3u;refine Wp.bind (R:=fun r=>r=x.cols) (Wp.ret rfl) fun a _ ha=>Wp.bind (R:=fun r=>r=x.newTable) (Wp.ret (by cases x.newTable;rfl)) fun b _ hb=>Wp.bind (R:=fun r=>r=x.fk.cols) (Wp.ret rfl) fun c _ hc=>Wp.ret ?_;subst ha hb hc;cases x;rfl
theorem w_run {st:Stp} {fwd:Bool} {A B C:Sch} (hA:A.tables.length<=6) (hB:B.tables.length<=6) (hC:C.tables.length<=6) (hd:Wp (Z11 (ME st fwd A B C)) fun M=>M=ME st fwd A B C) :
  Wp (Z7e ⟨st,fwd,A,B,C,[],[],[],[],0⟩ (EI A) (EI C)) fun r=>r=(EI B,EI C,0):=by
 unfold Z7e;refine Wp.bind (Z7l A) fun e1 _ h1=>Wp.cond (fun h=>by simp[h1] at h) fun _=>?_;refine Wp.bind (Z7l C) fun e2 _ h2=>Wp.cond (fun h=>by simp[h2] at h) fun _=>?_;refine Wp.bind (Zcr A (by omega)) fun i2 _ hi2=>Wp.bind (Zcr C (by omega)) fun c2 _ hc2=>Wp.bind (Zd1 B (by omega)) fun o _ ho=>Wp.bind (Zd1 C (by omega)) fun n _ hn=>?_;subst hi2 hc2 ho hn;refine Wp.for (fun _ s=>s=EI B) rfl ?_ ?_
 .intro i rel s next hx hm hs hnx;subst hs;refine Wp.bind (Z1d A rel.table) fun f _ _=>Wp.cond (fun _=>?_) fun _=>hnx _ rfl;refine Wp.bind (Zaw A (by omega) rel.table) fun q _ hq=>hnx _ ?_;have hr:=Z8t B rel hm
  have:(⟨rel.table,q.2⟩:Rel)=rel:=by rw[hq,<- hr]
  rw[this];obtain⟨h8,h9⟩:=Y00.1 hx;rw[<- h9];exact List.set_getElem_self h8
 .intro s hs;subst hs;refine Wp.bind (R:=fun M=>M=ME st fwd A B C) hd fun M _ hM=>?_;subst hM;refine Wp.chk (by simp[ME,EI_len];omega) ?_;refine Wp.for (fun _ (e:Int)=>e=0) rfl ?_ ?_
  .intro i rel e next hx hm he hnx;have hr:rel.rows=[]:=by
    rcases Y02.1 hm with h | h
    .exact Z8t B rel h
    .exact Z8t C rel h
   refine hnx _ ?_;simp[hr,he]
  .intro e he;subst he;exact Wp.cond (fun h=>by simp at h) fun _=>Wp.ret rfl
structure StepOK (S S' C:Sch) (x:Stp):Prop where
 s:VS S
 s':VS S'
 tb:TabsOK S S' x
 hr:13<=x.kind->S'.tables=S.tables
 k:1<=x.kind/\x.kind<=16
 c:COK S x C
 sch:Z2z S x=some (S',C,0)
theorem Zlt {S S' C:Sch} {x:Stp} (h:StepOK S S' C x):Z4x S x (EI S) (EI C)=some (EI S',EI C,0):=by
 have hs:=h.s.t6;have hs8:=h.s.f8
 suffices Wp (Z4x S x (EI S) (EI C)) fun r=>r=(EI S',EI C,0) by
  obtain⟨r,hr,rfl⟩:=this;exact hr
 unfold Z4x;refine Wp.bind (R:=fun q=>q=(S',C,0)) ⟨_,h.sch,rfl⟩ fun q _ hq=>?_;subst hq;refine Wp.cond (fun h=>by simp at h) fun _=>Wp.bind (Z8c x) fun st _ hst=>Wp.bind (Z5r S (by omega) (by omega)) fun S2 _ hS2=>?_;subst hst hS2;exact w_run h.s.t6 h.s'.t6 h.c.len (Zel h.s h.s' h.tb h.hr h.k h.c).1
theorem Zjs {S S' C:Sch} {x:Stp} (h:StepOK S S' C x):Z4n S x (EI S') (EI C)=some (EI S,EI C,0):=by
 have hs:=h.s.t6;have hs8:=h.s.f8
 suffices Wp (Z4n S x (EI S') (EI C)) fun r=>r=(EI S,EI C,0) by
  obtain⟨r,hr,rfl⟩:=this;exact hr
 unfold Z4n;refine Wp.bind (R:=fun q=>q=(S',C,0)) ⟨_,h.sch,rfl⟩ fun q _ hq=>?_;subst hq;refine Wp.cond (fun h=>by simp at h) fun _=>Wp.bind (Z8c x) fun st _ hst=>Wp.bind (Z5r S (by omega) (by omega)) fun S2 _ hS2=>?_;subst hst hS2;exact w_run h.s'.t6 h.s.t6 h.c.len (Zel h.s h.s' h.tb h.hr h.k h.c).2
theorem Zpm:∀ i:Fin 100,(Lib.itoa (i.val:Int)).length<=1000:=by decide +kernel
theorem w_Itoa (i:Nat) (h:i < 100):Wp (Z4w (i:Int)) fun v=>v.size<=1000:=by
 unfold Z4w;refine Wp.chk (by simp only[okI];omega) (Wp.ret ?_)
 have:=Zpm ⟨i,h⟩
 simpa[ByteArray.size] using this
theorem Zqd {T:Tbl} (hT:VT T) (hp:T.pk.length<=6) (cols:List Col) (hc:cols.length<=50):Wp (Z0g T cols) fun r=>r.cols.length<=60/\r.pk.length<=6:=by
 have hL:=LIM_eq;unfold Z0g;refine Wp.for (fun i (s:List Col × List Int)=>s.1.length=i/\s.2.length=i) ⟨rfl,rfl⟩ ?_ ?_
 .intro i x s next hx hm hs hn;have hi:=(Y00.1 hx).1;have hr:=hT.pk x hm;refine Wp.get hr.1 hr.2 fun c _ _=>Wp.bind (w_Itoa i (by omega)) fun v _ hv=>Wp.chk ?_ (Wp.app (by simp;omega) (Wp.app (by simp;omega) (hn _ ?_)))
  .have:(({ data:=#[107] }:ByteArray).size:Nat)=1:=rfl
   omega
  .simp[hs.1,hs.2]
 .intro s hs;refine Wp.app (by omega) (Wp.ret ?_);simp only[Y0f];omega
theorem Zej (cols:List Col) (hc:cols.length<=50):Wp (Z29 cols) fun r=>r.length=cols.length:=by
 have hL:=LIM_eq;unfold Z29;refine Wp.for (fun i (s:List Col)=>s.length=i) rfl ?_ fun s hs=>Wp.ret hs;intro i x s next hx hm hs hn;have hi:=(Y00.1 hx).1;refine Wp.bind (w_Itoa i (by omega)) fun v _ hv=>Wp.chk ?_ (Wp.bind (R:=fun _=>True) (Wp.ret trivial) fun _ _ _=>Wp.app (by simp;omega) (hn _ ?_))
 .have:(({ data:=#[98] }:ByteArray).size:Nat)=1:=rfl
  omega
 .simp[hs]
theorem w_find {S:Sch} (hA:NamesA S.tables) {n:ByteArray} {T:Tbl} (hT:T ∈ S.tables) (hn:strEq T.name n=true):Wp (Z02 S n) fun f=>f.2=true/\0<=f.1/\f.1 < S.tables.length/\S.tables[f.1.toNat]? = some T:=by
 refine (Z1d S n).mono fun f _ hf=>?_;have hb:f.2=true:=by
  cases hb:f.2 with
  | true=>rfl
  | false=>have:=hf.2.2 hb T hT;rw[hn] at this;cases this
 obtain⟨h1,U,hU,hUn⟩:=hf.2.1 hb;obtain⟨i,hi,rfl⟩:=Y1g hT;have he:strEq U.name S.tables[i].name=true:=by
  rw[Z7n] at hUn hn |-;rw[hUn,hn]
 have:=hA.uniq _ _ U S.tables[i] hU (Y01 hi) he
 refine⟨hb,hf.1,h1,?_⟩;rw[this];exact Y01 hi
structure Two (S S':Sch) (x:Stp) (T T':Tbl):Prop where
 s:T ∈ S.tables
 s':T' ∈ S'.tables
 n:strEq T.name x.table=true
 n':strEq T'.name x.table=true
 col:x.kind=2\/x.kind=5->∃ c,Z03 T x.column=some (c,true)/\0<=c/\c < T.cols.length/\(x.kind=5->c < T'.cols.length)
 con:x.kind=12->∃ a b,x.cols=[a,b]/\0<=a/\a < T.cols.length/\0<=b/\b < T.cols.length
 join:x.kind=7->T.cols.length<=T'.cols.length
theorem two_of {S S':Sch} {x:Stp} (hS:VS S) (ev:EvT S S'.tables x) (hk:x.kind=1\/x.kind=2\/5<=x.kind/\x.kind<=8\/x.kind=12):∃ T T',Two S S' x T T':=by
 have hA:=hS.ord.1;have col:∀ {T:Tbl} {c:Int} {col:Col},Z03 T x.column=some (c,true)->T.cols[c.toNat]? = some col->0<=c/\c < T.cols.length:=fun {T c col} hc hcol=>by
  obtain⟨r,hr,h0⟩:=Z3q T x.column;rw[hc] at hr;cases hr
  have:=(Y00.1 hcol).1
  have:=h0.1
  omega
 have mk:∀ {i:Nat} {T T':Tbl},S.tables[i]? = some T->strEq T.name x.table=true->S'.tables=S.tables.set i T'->T'.name=T.name ->
   (x.kind=2\/x.kind=5->∃ c,Z03 T x.column=some (c,true)/\0<=c/\c < T.cols.length/\(x.kind=5->c < T'.cols.length)) ->
   (x.kind=12->∃ a b,x.cols=[a,b]/\0<=a/\a < T.cols.length/\0<=b/\b < T.cols.length)->(x.kind=7->T.cols.length<=T'.cols.length)->∃ T T',Two S S' x T T':=
  fun hi hn e hT h1 h2 h3=>⟨_,_,Y03 hi,e ▸ set_at hi,hn,by rw[hT];exact hn,h1,h2,h3⟩
 cases ev with
 | add k hi hn hd e=>exact mk hi hn e rfl (by omega) (by omega) (by omega)
 | drop k hi hn hc hcol hp hd e=>exact mk hi hn e rfl (fun _=>⟨_,hc,(col hc hcol).1,(col hc hcol).2,by omega⟩) (by omega) (by omega)
 | rencol k hi hn hcol e=>omega
 | ren k hi hn ho e=>omega
 | type k hi hn hc hcol hp e=>exact mk hi hn e rfl (fun _=>⟨_,hc,(col hc hcol).1,(col hc hcol).2,fun _=>by simpa using (col hc hcol).2⟩) (by omega) (by omega)
 | split k hi hn ho hs e=>rename_i i T;exact⟨T,rmT T x.cols,Y03 hi,by rw[e];exact (Zbr _).2 (.inr (set_at hi)),hn,hn,by omega,by omega,by omega⟩
 | join k hi hn hj ho hij hp hk e=>
   rename_i i j T O;have hj':(S.tables.set i { T with cols:=T.cols++O.cols.drop T.pk.length })[j]? = some O:=by rw[Y1d hij];exact hj
   refine⟨T,{ T with cols:=T.cols++O.cols.drop T.pk.length },Y03 hi,?_,hn,hn,by omega,by omega,fun _=>by simp⟩;rw[e];refine (Zj6 (Zgq (T':={ T with cols:=T.cols++O.cols.drop T.pk.length }) hA hi rfl) hj' _).2 ⟨set_at hi,fun h=>?_⟩
   have:=Zi3 hA hi hj hij
   rw[show T.name=O.name from h,Z7c] at this;cases this
 | part k hi hn hc hcol hq hv hk ho e=>exact⟨_,_,Y03 hi,by rw[e];exact (Zbr _).2 (.inr (Y03 hi)),hn,hn,by omega,by omega,by omega⟩
 | merge k hi hn hj ho hij hc hp e=>omega
 | create k ho e=>omega
 | droptab k ho e=>omega
 | concat k hi hn hx ha hab hb hka hkb hp e=>exact mk hi hn e rfl (by omega) (fun _=>⟨_,_,hx,ha,by omega,by omega,hb⟩) (by omega)
 | rule k e=>omega
theorem Zqb {S S':Sch} {x:Stp} (hS:VS S) (hS':VS S') (hk:x.kind=1\/x.kind=2\/5<=x.kind/\x.kind<=8\/x.kind=12) {T T':Tbl} (t:Two S S' x T T'):Wp (Z1s S S' x) fun r=>r.cols.length<=100/\r.pk.length<=100:=by
 have hL:=LIM_eq;have hV:=hS.tab T t.s;have hV':=hS'.tab T' t.s';have h6:=hV'.cols6;have h0:=hV'.cols0;have k6:∀ cols:List Col,cols.length<=50->Wp (Z0g T cols) fun r=>r.cols.length<=100/\r.pk.length<=100:=fun cols h=>(Zqd hV hV.pk6 cols h).mono fun r _ h=>by omega
 unfold Z1s;refine Wp.cond (fun h=>by simp at h;omega) fun _=>Wp.bind (w_find hS.ord.1 t.s t.n) fun f _ hf=>?_;refine Wp.get hf.2.1 hf.2.2.1 fun x8 hx8 _=>?_;obtain rfl:T=x8:=by rw[hf.2.2.2] at hx8;exact Option.some.inj hx8
 refine Wp.cond (fun h=>by simp at h;omega) fun _=>Wp.bind (w_find hS'.ord.1 t.s' t.n') fun f' _ hf'=>?_;refine Wp.get hf'.2.1 hf'.2.2.1 fun x13 hx13 _=>?_;obtain rfl:T'=x13:=by rw[hf'.2.2.2] at hx13;exact Option.some.inj hx13
 refine Wp.chk (by simp only[okI];omega) (Wp.get (by omega) (by omega) fun x16 _ _=>Wp.bind (R:=fun v=>Z03 T x.column=some v) ?_ fun v18 _ hv=>?_)
 .obtain⟨r,hr,_⟩:=Z3q T x.column;exact⟨r,hr,hr⟩
 have rn:∀ (c:Col) (n:ByteArray),Wp (Z0k c n) fun _=>True:=fun _ _=>Wp.ret trivial;have fin:∀ cols:List Col,cols.length<=50->Wp (bindK (Z0g T cols) fun v=>some v) fun r=>r.cols.length<=100/\r.pk.length<=100:=fun cols h=>Wp.bind (k6 cols h) fun r _ hr=>Wp.ret hr;refine Wp.cond (fun _=>Wp.bind (rn _ _) fun _ _ _=>fin _ (by simp)) fun h1=>?_;refine Wp.cond (fun h=>?_) fun h2=>?_
 .obtain⟨c,hc,c0,c1,-⟩:=t.col (.inl (by simpa using h));rw[hv] at hc;cases hc;exact Wp.get c0 c1 fun _ _ _=>Wp.bind (rn _ _) fun _ _ _=>fin _ (by simp)
 refine Wp.cond (fun h=>?_) fun h5=>?_
 .obtain⟨c,hc,c0,c1,c2⟩:=t.col (.inr (by simpa using h));rw[hv] at hc;cases hc;exact Wp.get c0 c1 fun _ _ _=>Wp.get c0 (c2 (by simpa using h)) fun _ _ _=>Wp.bind (rn _ _) fun _ _ _=>Wp.bind (rn _ _) fun _ _ _=>fin _ (by simp)
 refine Wp.cond (fun h=>?_) fun h12=>?_
 .obtain⟨a,b,hx,a0,a1,b0,b1⟩:=t.con (by simpa using h);rw[hx];refine Wp.getN (i:=0) rfl (Wp.get a0 a1 fun _ _ _=>Wp.getN (i:=1) rfl (Wp.get b0 b1 fun _ _ _=>Wp.bind (rn _ _) fun _ _ _=>Wp.bind (rn _ _) fun _ _ _=>Wp.bind (rn _ _) fun _ _ _=>fin _ (by simp)))
 refine Wp.cond (fun _=>fin _ (by simp)) fun h8=>?_;refine Wp.cond (fun h=>?_) fun h7=>?_
 .have:=t.join (by simpa using h)
  refine Wp.chk (by omega) (Wp.bind (Zej _ (by simp;omega)) fun ns _ hn=>fin _ ?_);rw[hn];simp;omega
 have c6:=hV.cols6;refine Wp.for (fun i (s:List Col)=>s.length<=i) (Y09 _) ?_ ?_
 .intro i c s next hx hm hs hn;have hi:=(Y00.1 hx).1;refine Wp.bind (R:=fun _=>True) ((Z5s _ _).mono fun _ _ _=>trivial) fun b _ _=>Wp.cond (fun _=>Wp.app (by simp;omega) (hn _ (by simp;omega))) fun _=>hn _ (by omega)
 .intro s hs;exact Wp.bind (Zej _ (by omega)) fun ns _ hn=>fin _ (by omega)
theorem Zna {S S':Sch} {x:Stp} (h:Is (Z0f S x) (S',0)):1<=x.kind/\x.kind<=16:=by
 unfold Z0f at h;obtain⟨e,he,h⟩:=h.bind;cases h1:(e != 0) with
 | true=>rw[h1] at h;cases h;simp at h1
 | false=>
   rw[h1] at h;obtain⟨e2,he2,h⟩:=Is.bind h;cases h2:(e2 != 0) with
   | true=>rw[h2] at h;cases h;simp at h2
   | false=>
     obtain⟨r,hr,hq⟩:=Z74 x;obtain rfl:e2=r:=Option.some.inj (he2.symm.trans hr);exact hq (by simpa using h2)
theorem Zgj {S S':Sch} {x:Stp} (hap:Z0f S x=some (S',0)) (hS:VS S) (hS':VS S') (ev:EvT S S'.tables x):Wp (Z1m S x) fun q=>q.2=0/\COK S x q.1:=by
 have hk:=Zna hap;have h6:=hS.t6;have h8:=hS.f8;have rule:∀ {k:Int},x.kind=k->13<=k->Wp (bindK (Z15 S) fun v=>some (Sch.mk v.tables [] [],(0:Int))) fun q=>q.2=0/\COK S x q.1:=fun {k} he hk1=>
  Wp.bind (Z5r S (by omega) (by omega)) fun v _ hv=>Wp.ret ⟨rfl,by subst hv;exact⟨h6,by omega,fun _=>rfl⟩⟩
 have none:x.kind=3\/x.kind=4\/x.kind=9->COK S x (Sch.mk [] [] []):=fun h=>⟨by simp,by omega,by omega⟩;unfold Z1m;refine Wp.bind (R:=fun v=>v=(S',0)) ⟨_,hap,rfl⟩ fun v _ hv=>?_;subst hv;refine Wp.cond (fun h=>by simp at h) fun _=>Wp.cond (fun h=>rule (by simpa using h) (by omega)) fun n13=>Wp.cond (fun h=>rule (by simpa using h) (by omega)) fun n14=>Wp.cond (fun h=>rule (by simpa using h) (by omega)) fun n15=>Wp.cond (fun h=>rule (by simpa using h) (by omega)) fun n16=>?_;refine Wp.cond (fun h=>Wp.ret ⟨rfl,none (.inl (by simpa using h))⟩) fun n3=>Wp.cond (fun h=>Wp.ret ⟨rfl,none (.inr (.inl (by simpa using h)))⟩) fun n4=>Wp.cond (fun h=>Wp.ret ⟨rfl,none (.inr (.inr (by simpa using h)))⟩) fun n9=>?_;simp at n13 n14 n15 n16 n3 n4 n9
 by_cases h10:x.kind=10
 .refine Wp.bind (R:=fun _=>True) ?_ fun v _ _=>Wp.ret ⟨rfl,⟨by simp,by omega,by omega⟩⟩;unfold Z1s;refine Wp.cond (fun _=>Wp.bind (R:=fun _=>True) (Wp.ret trivial) fun _ _ _=>Wp.ret trivial) fun h=>by simp at h;omega
 by_cases h11:x.kind=11
 .refine Wp.bind (R:=fun _=>True) ?_ fun v _ _=>Wp.ret ⟨rfl,⟨by simp,by omega,by omega⟩⟩;have hf:∃ T ∈ S.tables,strEq T.name x.table=true:=by
   cases ev with
   | droptab k ho e=>exact ho
   | _=>omega
  obtain⟨T,hT,hn⟩:=hf;unfold Z1s;refine Wp.cond (fun h=>by simp at h;omega) fun _=>Wp.bind (w_find hS.ord.1 hT hn) fun f _ hf=>Wp.get hf.2.1 hf.2.2.1 fun x8 _ _=>?_;refine Wp.cond (fun _=>Wp.bind (R:=fun _=>True) (Wp.ret trivial) fun _ _ _=>Wp.ret trivial) fun h=>by simp at h;omega
 have hk2:x.kind=1\/x.kind=2\/5<=x.kind/\x.kind<=8\/x.kind=12:=by omega
 obtain⟨T,T',t⟩:=two_of hS ev hk2;exact Wp.bind (Zqb hS hS' hk2 t) fun v _ hv=>Wp.ret ⟨rfl,⟨by simp,fun _=>⟨v,rfl,hv.1,hv.2⟩,by omega⟩⟩
theorem stepOK {S S':Sch} {x:Stp} (hx:SmallX x) (hap:Z0f S x=some (S',0)):∃ C,StepOK S S' C x:=by
 obtain⟨r,hr,h⟩:=Zlv S x hx;rw[hap] at hr;cases hr;obtain⟨hS',hS,ev⟩:=h rfl;obtain⟨⟨C,e⟩,hc,he,hC⟩:=Zgj hap hS hS' ev;simp only at he;subst he;refine⟨C,hS,hS',tabsOK hS ev,fun h=>?_,Zna hap,hC,?_⟩
 .cases ev with
  | rule k e=>exact e
  | _=>omega
 .unfold Z2z;rw[hap,hc];rfl
def Z1o (h:HS) (c:C) (ds:List D):Prop:=∃ rs,MR h 1 c (ones rs)/\rs.map C.toD=ds.map some
theorem Z1o.frame {h h':HS} {c:C} {ds:List D} (m:Z1o h c ds) (hb:∀ l ∈ labs c,h'.box l=h.box l):Z1o h' c ds:=by
 obtain⟨rs,hm,he⟩:=m;exact⟨rs,hm.frame hb,he⟩
theorem Z1o.frz {h:HS} {c:C} {ds:List D} (m:Z1o h c ds):Frz h c (.sl (ds.map fun d=>[d])):=by
 obtain⟨rs,hm,he⟩:=m;have hl:rs.length=ds.length:=by have:=congrArg List.length he;simpa using this
 refine hm.frz (by simp[ones,hl]) (fun t ht=>by obtain⟨y,_,rfl⟩:=Y0m.1 ht;rfl) fun i x t hx ht=>?_;simp only[ones,Y0b] at hx ht;have h9:=congrArg (fun z=>z[i]?) he;simp only[Y0b] at h9;cases hr:rs[i]? with
 | none=>rw[hr] at hx;cases hx
 | some r=>
   cases hd:ds[i]? with
   | none=>rw[hd] at ht;cases ht
   | some d=>
     rw[hr] at hx h9;rw[hd] at ht h9;cases hx;cases ht;exact⟨.data (by simpa using h9),trivial⟩
theorem Z1o.at {h:HS} {c:C} {ds:List D} (m:Z1o h c ds) {i:Nat} (hi:i < ds.length):∃ lr cap bs,c=.mrow lr 0 ds.length cap/\h.box lr=some bs/\i+1<=bs.length/\(∃ x,takeN 1 (bs.drop i)=some [x]/\some (x.toD)=some (ds[i]?)) /\
  ∀ (H:HS) (x:C) (d:D),x.toD=some d->Z1o (H.setBox lr (Z01 bs i [x])) c (ds.set i d):=by
 obtain⟨rs,hm,he⟩:=m;have hl:rs.length=ds.length:=by have:=congrArg List.length he;simpa using this
 obtain⟨lr,cap,sp,hc,hb,hcap⟩:=hm.block (by simp[ones];omega);rw[Zb7] at hb hcap;simp only[ones,Y0z,hl] at hc;refine⟨lr,cap,rs++sp,hc,hb,by simp;omega,⟨rs[i]'(by omega),?_,?_⟩,fun H x d hx=>⟨rs.set i x,?_,?_⟩⟩
 .have hd:(rs++sp).drop i=rs[i]'(by omega)::(rs.drop (i+1)++sp):=by
   rw[Y1e (by omega),Y14 (by omega)];rfl
  rw[hd];simp[takeN]
 .have h9:=congrArg (fun z=>z[i]?) he;simp only[Y0b,Y01 (show i < rs.length by omega),Y01 hi,Y0h,Y06] at h9;rw[h9,Y01 hi]
 .have:=Zj4 (h:=H) (l:=lr) (cap:=cap) (i:=i) (rs:=rs) (sp:=sp) (x:=x) hcap (by have:=hm.2.1;simpa[ones] using this) (by omega)
  rw[hl] at this;rw[hc];exact this
 .rw[Y11,Y11,he,hx]
theorem Z1o.make {h:HS} {l:Lab} {n:Nat} {zc:C} {d:D} (hb:h.box l=some (List.replicate n zc)) (hz:zc.toD=some d) (hn:n<=2097152):Z1o h (.mrow l 0 n n) (List.replicate n d):=by
 refine⟨List.replicate n zc,?_,by simp[hz]⟩
 have:=Zfq (h:=h) (l:=l) (cap:=n) (rs:=List.replicate n zc) (sp:=[]) (by simpa using hb) (by simp) (by simpa using hn)
 simpa using this
def Z3f (S:Sch) (steps:List Stp) (source:List Rel) (comps:List (List Rel)):Option (List Rel × List (List Rel) × Int):=
 bindK (Z0i S steps) fun q=>bif q.2 != 0 then some ([],[],q.2) else bif (comps.length:Int) != (steps.length:Int) then some ([],[],3) else
 bindK (Z0t S source) fun e=>bif e != 0 then some ([],[],e) else bindK (Z07 source) fun inst=>
 forK (fun (i:Nat) (step:Stp) (s:List Rel × List (List Rel)) next=>getK q.1 i fun sch=>getK comps i fun c=>bindK (Z4x sch step s.1 c) fun r=>
  bif r.2.2 != 0 then some ([],[],r.2.2) else next (r.1,s.2.set i r.2.1)) (fun s=>some (s.1,s.2,0)) steps 0 (inst,List.replicate steps.length [])
def Z2s (S:Sch) (steps:List Stp) (target:List Rel) (comps:List (List Rel)):Option (List Rel × List (List Rel) × Int):=
 bindK (Z0i S steps) fun q=>bif q.2 != 0 then some ([],[],q.2) else bif (comps.length:Int) != (steps.length:Int) then some ([],[],3) else
 getK q.1 steps.length fun last=>bindK (Z0t last target) fun e=>bif e != 0 then some ([],[],e) else bindK (Z07 target) fun inst=>
 whileK (fun (s:Int × List Rel × List (List Rel)) next=>bif decide (0<=s.1) then getK q.1 s.1 fun sch=>getK steps s.1 fun step=>getK comps s.1 fun c=>bindK (Z4n sch step s.2.1 c) fun r=>
  bif r.2.2 != 0 then some ([],[],r.2.2) else next (s.1 - 1,r.1,s.2.2.set s.1.toNat r.2.1) else some (s.2.1,s.2.2,0)) (steps.length+1) ((steps.length:Int) - 1,inst,List.replicate steps.length [])
abbrev encI_ (inst:List Rel):D:=.sl (inst.map Rel.enc)
theorem Z8y (S:Sch) (steps:List Stp) (source:List Rel) (comps:List (List Rel)) (r:List Rel × List (List Rel) × Int) (hm:Is (Z3f S steps source comps) r) :
  PSpec prog 57 [.agg S.enc,.one (.d (.sl (steps.map Stp.enc))),.one (.d (.sl (source.map Rel.enc))),.one (.d (.sl (comps.map (encL Rel.enc))))] (.tup [.one (.d (.sl (r.1.map Rel.enc))),.one (.d (.sl (r.2.1.map (encL Rel.enc)))),.one (.d (.int .i64 r.2.2))]):=by
 unfold Z3f at hm;refine PSpec.of_heap ?_;show HSpec _ _ [.agg (S.enc.map C.d),.one (.d (.sl (steps.map Stp.enc))),.one (.d (.sl (source.map Rel.enc))),.one (.d (.sl (comps.map (encL Rel.enc))))] HS.init _;refine HSpec.of_vc Tryz.func57 rfl (by kernel_rfl) (n:=74) rfl rfl (by simp) ?_;obtain⟨q,hq,hm⟩:=hm.bind;simp;refine Z08 (Z71 S steps q hq) (by simp) ?_;simp;refine r_cond hm ?_ ?_<;>clear hm<;>intro hc hm
 .obtain rfl:=r_ret hm;simp[retH,resVs,resV,notTup];exact⟨.data rfl,.data rfl,.data rfl,trivial⟩
 simp;intro hcl hsl;refine r_cond hm ?_ ?_<;>clear hm<;>intro hc2 hm
 .obtain rfl:=r_ret hm;simp[retH,resVs,resV,notTup];exact⟨.data rfl,.data rfl,.data rfl,trivial⟩
 obtain⟨e,he,hm⟩:=hm.bind;simp;refine Z08 ((c_instance_Conforms S source).h e he) (by simp) ?_;simp;refine r_cond hm ?_ ?_<;>clear hm<;>intro hc3 hm
 .obtain rfl:=r_ret hm;simp[retH,resVs,resV,notTup];exact⟨.data rfl,.data rfl,.data rfl,trivial⟩
 obtain⟨inst,hi,hm⟩:=hm.bind;simp;refine Z08 ((c_instance_Clone source).h inst hi) (by simp) ?_;simp;intro hsl1;refine⟨by omega,fun hsl2=>?_⟩;refine Wait.for (xs:=steps) (s0:=(inst,List.replicate steps.length [])) (fun i s e h'=>∃ c,e.n=74/\e.get 3=.one (.d (.sl (comps.map (encL Rel.enc))))/\e.get 11=.one (.d (.sl (q.1.map Sch.enc)))/\e.get 14=.one (.d (.sl (s.1.map Rel.enc)))/\e.get 15=.one c /\
  e.get 43=.one (.d (.sl (steps.map Stp.enc)))/\e.get 44=.one (.d (.int .i64 (steps.length:Int)))/\e.get 45=.one (.d (.int .i64 (i:Int)))/\Z1o h' c (s.2.map encI_)/\s.2.length=steps.length/\∀ k ∈ labs c,k.1 < h'.ep) hm
  ⟨.mrow (4,672) 0 steps.length steps.length,by simp,by simp,by simp,by simp,by simp,by simp,by simp,by simp,?_,by simp,by simp[labs]⟩ ?_ ?_
 .rw[Y2e];refine Z1o.make (zc:=.nil) ?_ rfl (by omega);simp
 .rintro i s e h' ⟨c,en,e3,e11,e14,e15,e43,e44,e45,mC,hsn,hlc⟩ hlt hm;have hw:IntKind.i64.wrap ((i:Int)+1)=(i:Int)+1:=Y0a _ (by omega);obtain⟨sch,hsch,hm⟩:=hm.getN;obtain⟨cm,hcm,hm⟩:=hm.getN;obtain⟨r2,hr2,hm⟩:=hm.bind;have hi2:i < (s.2.map encI_).length:=by simp;omega
  obtain⟨lr,cap,bs,rfl,hbr,hbl,-,hset⟩:=mC.at hi2;simp at hi2;have hlr:lr.1 < h'.ep:=hlc lr (by simp[labs]);have hno:=ne_new hlr;have hno':=Z05 hlr;simp[en,e3,e11,e14,e15,e43,e44,e45,hlt];refine Wait.cut (Plan.then_ [0,1,2,3,4,5,6,7,8,9,10,11,12,13,14,15,16,17,18,19,20] .done) follows (by kernel_rfl) (fun e1 h1=>e1.n=74/\e1.get 3=.one (.d (.sl (comps.map (encL Rel.enc))))/\e1.get 11=.one (.d (.sl (q.1.map Sch.enc)))/\e1.get 14=.one (.d (.sl (r2.1.map Rel.enc)))/\e1.get 15=.one (.mrow lr 0 (s.2.map encI_).length cap) /\
   e1.get 43=.one (.d (.sl (steps.map Stp.enc)))/\e1.get 44=.one (.d (.int .i64 (steps.length:Int)))/\e1.get 45=.one (.d (.int .i64 (i:Int)))/\e1.get 12=.one (.d (.int .i64 r2.2.2))/\Z1o h1 (.mrow lr 0 (s.2.map encI_).length cap) ((s.2.set i r2.2.1).map encI_)/\lr.1 < h1.ep) ?_ ?_
  .simp[en,e3,e11,e14,e15,e43,e44,e45,hsch,hcm];refine Z08 (Zee sch steps[i] s.1 cm r2 hr2) (by simp) ?_;simp[en,e3,e11,e14,e15,e43,e44,e45,hsch,hcm,hi2,hbr,hno,hno',hbl];refine⟨fun _ _ x=>x,?_⟩
   try simp[en,e3,e11,e14,e15,e43,e44,e45,hsch,hcm,hi2,hbr,hno,hno',hbl]
   refine CutK.of ⟨by simp[en],by simp[e3,en],by simp[e11,en],by simp[en],by simp[e15,en],by simp[e43,en],by simp[e44,en],by simp[e45,en],by simp[en],?_,?_⟩
   .rw[Y11];exact hset _ _ _ rfl
   .simp;omega
  .rintro e1 h1 ⟨en,e3,e11,e14,e15,e43,e44,e45,e12,mC,hlr⟩;simp[en,e3,e11,e14,e15,e43,e44,e45,e12,hw];refine r_cond hm ?_ ?_<;>clear hm<;>intro hc hm
   .obtain rfl:=r_ret hm;simp[retH,resVs,resV,notTup,en,e12];exact⟨.data rfl,.data rfl,.data rfl,trivial⟩
   .simp[en,e3,e11,e14,e15,e43,e44,e45,e12,hw];exact BackF.of (r2.1,s.2.set i r2.2.1) ⟨⟨_,by simp[en],by simp[e3],by simp[e11],by simp[e14],by simp[e15],by simp[e43],by simp[e44],by simp,mC,by simpa using hsn,by simpa[labs] using hlr⟩,hm⟩
 .rintro s e h' ⟨c,en,e3,e11,e14,e15,e43,e44,e45,mC,hsn,hlc⟩ hm;obtain rfl:=r_ret hm;simp[retH,resVs,resV,notTup,en,e3,e11,e14,e15,e43,e44,e45];refine⟨.data rfl,?_,.data rfl,trivial⟩;have e1:(s.2.map encI_).map (fun d=>[d])=s.2.map (encL Rel.enc):=by rw[Y28];rfl
  show Frz h' c _;rw[<- e1];exact mC.frz
theorem Z8j (S:Sch) (steps:List Stp) (target:List Rel) (comps:List (List Rel)) (r:List Rel × List (List Rel) × Int) (hm:Is (Z2s S steps target comps) r) :
  PSpec prog 58 [.agg S.enc,.one (.d (.sl (steps.map Stp.enc))),.one (.d (.sl (target.map Rel.enc))),.one (.d (.sl (comps.map (encL Rel.enc))))] (.tup [.one (.d (.sl (r.1.map Rel.enc))),.one (.d (.sl (r.2.1.map (encL Rel.enc)))),.one (.d (.int .i64 r.2.2))]):=by
 unfold Z2s at hm;refine PSpec.of_heap ?_;show HSpec _ _ [.agg (S.enc.map C.d),.one (.d (.sl (steps.map Stp.enc))),.one (.d (.sl (target.map Rel.enc))),.one (.d (.sl (comps.map (encL Rel.enc))))] HS.init _;refine HSpec.of_vc Tryz.func58 rfl (by kernel_rfl) (n:=79) rfl rfl (by simp) ?_;obtain⟨q,hq,hm⟩:=hm.bind;simp;refine Z08 (Z71 S steps q hq) (by simp) ?_;simp;refine r_cond hm ?_ ?_<;>clear hm<;>intro hc hm
 .obtain rfl:=r_ret hm;simp[retH,resVs,resV,notTup];exact⟨.data rfl,.data rfl,.data rfl,trivial⟩
 simp;intro hcl hsl;refine r_cond hm ?_ ?_<;>clear hm<;>intro hc2 hm
 .obtain rfl:=r_ret hm;simp[retH,resVs,resV,notTup];exact⟨.data rfl,.data rfl,.data rfl,trivial⟩
 obtain⟨last,hlast,hm⟩:=hm.getN;obtain⟨e,he,hm⟩:=hm.bind;simp;intro hsl0;simp[hlast];refine Z08 ((c_instance_Conforms last target).h e he) (by simp) ?_;simp;refine r_cond hm ?_ ?_<;>clear hm<;>intro hc3 hm
 .obtain rfl:=r_ret hm;simp[retH,resVs,resV,notTup];exact⟨.data rfl,.data rfl,.data rfl,trivial⟩
 obtain⟨inst,hi,hm⟩:=hm.bind;simp;refine Z08 ((c_instance_Clone target).h inst hi) (by simp) ?_;simp;intro hsl1;refine⟨by omega,fun hsl2=>?_⟩;have hw0:IntKind.i64.wrap ((steps.length:Int) - 1)=(steps.length:Int) - 1:=Y0a _ (by omega);simp[hw0];refine Wait.while (fun s e h'=>∃ c,e.n=79/\e.get 1=.one (.d (.sl (steps.map Stp.enc)))/\e.get 3=.one (.d (.sl (comps.map (encL Rel.enc))))/\e.get 11=.one (.d (.sl (q.1.map Sch.enc)))/\e.get 14=.one (.d (.sl (s.2.1.map Rel.enc)))/\e.get 15=.one c /\
  e.get 16=.one (.d (.int .i64 s.1))/\Z1o h' c (s.2.2.map encI_)/\s.2.2.length=steps.length/\-1<=s.1/\s.1 < (steps.length:Int)/\∀ k ∈ labs c,k.1 < h'.ep) hm
  ⟨.mrow (4,720) 0 steps.length steps.length,by simp,by simp,by simp,by simp,by simp,by simp,by simp,?_,by simp,by simp;omega,by simp;omega,by simp[labs]⟩ ?_
 .show Z1o _ _ (List.map encI_ (List.replicate steps.length []));rw[Y2e];refine Z1o.make (zc:=.nil) ?_ rfl (by omega);simp
 .rintro n ⟨i,ins,cs⟩ e h' ⟨c,en,e1,e3,e11,e14,e15,e16,mC,hsn,hi0,hi1,hlc⟩ hm;simp only at e14 e16 mC hsn hi0 hi1 hm;simp[en,e1,e3,e11,e14,e15,e16];refine r_cond hm ?_ ?_<;>clear hm<;>intro hc hm
  .obtain⟨sch,hi2,hsch,hm⟩:=hm.get;obtain⟨step,-,hstep,hm⟩:=hm.get;obtain⟨cm,-,hcm,hm⟩:=hm.get;obtain⟨r2,hr2,hm⟩:=hm.bind;have hw:IntKind.i64.wrap (i - 1)=i - 1:=Y0a _ (by omega);have hi3:i.toNat < (cs.map encI_).length:=by simp;omega
   obtain⟨lr,cap,bs,rfl,hbr,hbl,-,hset⟩:=mC.at hi3;simp at hi3;have hlr:lr.1 < h'.ep:=hlc lr (by simp[labs]);have hno:=ne_new hlr;have hno':=Z05 hlr;simp[en,e1,e3,e11,e14,e15,e16];refine Wait.cut (Plan.then_ [0,1,2,3,4,5,6,7,8,9,10,11,12,13,14,15,16,17,18,19,20,21,22,23] .done) follows (by kernel_rfl) (fun e2 h2=>e2.n=79/\e2.get 1=.one (.d (.sl (steps.map Stp.enc)))/\e2.get 3=.one (.d (.sl (comps.map (encL Rel.enc))))/\e2.get 11=.one (.d (.sl (q.1.map Sch.enc)))/\e2.get 14=.one (.d (.sl (r2.1.map Rel.enc)))/\e2.get 15=.one (.mrow lr 0 (cs.map encI_).length cap) /\
    e2.get 16=.one (.d (.int .i64 i))/\e2.get 12=.one (.d (.int .i64 r2.2.2))/\Z1o h2 (.mrow lr 0 (cs.map encI_).length cap) ((cs.set i.toNat r2.2.1).map encI_)/\lr.1 < h2.ep) ?_ ?_
   .simp[en,e1,e3,e11,e14,e15,e16,hi2,hsch,hcm,hstep];refine Z08 (Zdz sch step ins cm r2 hr2) (by simp) ?_;simp[en,e1,e3,e11,e14,e15,e16,hi2,hsch,hcm,hstep,hi3,hbr,hno,hno',hbl]
    try refine⟨fun _ _ x=>x,?_⟩
    try simp[en,e1,e3,e11,e14,e15,e16,hi2,hsch,hcm,hstep,hi3,hbr,hno,hno',hbl]
    refine CutK.of ⟨by simp[en],by simp[e1,en],by simp[e3,en],by simp[e11,en],by simp[en],by simp[e15,en],by simp[e16,en],by simp[en],?_,?_⟩
    .rw[Y11];exact hset _ _ _ rfl
    .simp;omega
   .rintro e2 h2 ⟨en,e1,e3,e11,e14,e15,e16,e12,mC,hlr⟩;simp[en,e1,e3,e11,e14,e15,e16,e12,hw];refine r_cond hm ?_ ?_<;>clear hm<;>intro hc2 hm
    .obtain rfl:=r_ret hm;simp[retH,resVs,resV,notTup,en,e12];exact⟨.data rfl,.data rfl,.data rfl,trivial⟩
    .simp[en,e1,e3,e11,e14,e15,e16,e12,hw];exact BackF.of (i - 1,r2.1,cs.set i.toNat r2.2.1) ⟨⟨_,by simp[en],by simp[e1],by simp[e3],by simp[e11],by simp[e14],by simp[e15],by simp,mC,by simpa using hsn,by simp;omega,by simp;omega,by simpa[labs] using hlr⟩,hm⟩
  .obtain rfl:=r_ret hm;simp[retH,resVs,resV,notTup,en,e1,e3,e11,e14,e15,e16];refine⟨.data rfl,?_,.data rfl,trivial⟩;have e1:(cs.map encI_).map (fun d=>[d])=cs.map (encL Rel.enc):=by rw[Y28];rfl
   show Frz h' c _;rw[<- e1];exact mC.frz
end
section
open Go.Am
def Z2o (s_:Sch) (step:Stp):Option ((List Rel) × Int):=
 (bindK (Z2z s_ step) fun v3=>(bif (v3.2.2 != 0) then (some ([],v3.2.2)) else (bindK (Z19 v3.2.1) fun v7=>(some (v7,0)))))
instance c_lens_EmptyComplement (s_:Sch) (step:Stp):Con (Z2o s_ step) prog 83 [.agg s_.enc,.agg step.enc] (fun r=>.tup [.one (.d (.sl (r.1.map Rel.enc))),.one (.d (.int .i64 r.2))]):=by
 unfold Z2o;exact go 21 Tryz.func83 rfl (by kernel_rfl) rfl rfl (by simp)
def Z1w (s_:Sch) (script:List Stp):Option ((List (List Rel)) × Int):=
 (bindK (Z0i s_ script) fun v2=>(bif (v2.2 != 0) then (some ([],v2.2)) else (forK (fun (i5:Nat) (x5:Stp) (s5:(List (List Rel))) next_5=>(getK v2.1 (i5:Int) fun x7=>(bindK (Z2o x7 x5) fun v8=>(bif (v8.2 != 0) then (some ([],v8.2)) else (appK2 s5 [v8.1] fun _=>(next_5 (s5++[v8.1]))))))) (fun (s5:(List (List Rel)))=>(some (s5,0))) script 0 [])))
instance c_script_EmptyComplements (s_:Sch) (script:List Stp):Con (Z1w s_ script) prog 44 [.agg s_.enc,.one (.d (.sl (script.map Stp.enc)))] (fun r=>.tup [.one (.d (.sl (r.1.map (encL Rel.enc)))),.one (.d (.int .i64 r.2))]):=by
 unfold Z1w;have l1:LH (σ:=(List (List Rel))) 24 [6,22,23] [.g 8 1 (fun s=>s.map (encL Rel.enc))]:=.intro;have p1:PH [8] (Plan.then_ [0,1,2,3,4,5,6,7,8,9,10] .done):=.intro;exact go 47 Tryz.func44 rfl (by kernel_rfl) rfl rfl (by simp)
end
end Go.Proofs.YtbcejndfbklikaaGreatDoor
