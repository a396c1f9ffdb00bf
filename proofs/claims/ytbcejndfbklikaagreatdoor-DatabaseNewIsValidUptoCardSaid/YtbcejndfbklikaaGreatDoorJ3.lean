/- joined by a program out of 34 texts -/
import Derived.Test.YtbcejndfbklikaaGreatDoorJ2
set_option linter.unusedVariables false
set_option linter.unusedSimpArgs false
set_option maxRecDepth 20000
open Go.Proofs.Tryz(prog)
open ByteArray(empty)
namespace Go.Proofs.YtbcejndfbklikaaGreatDoor
section
open Go Go.Am
theorem Z7k (a b:List Int):Wp (Z1g a b) fun r=>r=true->a=b:=by
 unfold Z1g;refine Wp.cond (fun _=>Wp.ret (by simp)) fun h=>?_;have hl:a.length=b.length:=by simp at h;omega
 refine Wp.for (fun i _=>∀ j,j < i->a[j]? = b[j]?) (by intro j h;omega) ?_ ?_
 .intro i x s next hx hm hI hn;have hi:=(Y00.1 hx).1;refine Wp.get (by omega) (by omega) fun y hy _=>Wp.cond (fun _=>Wp.ret (by simp)) fun h2=>hn () fun j hj=>?_;rcases Y0t j i with h3 | h3
  .exact hI j h3
  .obtain rfl:j=i:=by omega
   rw[hx,show (some x:Option Int)=some y by simp at h2;rw[h2],<- hy]
   congr 1
 .intro s hI;refine Wp.ret fun _=>Y2r fun j=>?_;rcases Y0t j a.length with h3 | h3
  .exact hI j h3
  .rw[Y1t h3,Y1t (by omega)]
theorem Z40 (a b:Fk):Wp (Z0b a b) fun _=>True:=by
 unfold Z0b;exact Wp.cond (fun _=>Wp.bind (Z7k _ _) fun _ _ _=>Wp.cond (fun _=>Wp.ret trivial) fun _=>Wp.ret trivial) fun _=>Wp.ret trivial
theorem Z3t (xs:List Fk) (f:Fk->Option Bool) (hf:∀ x ∈ xs,Wp (f x) fun _=>True):Wp (Z04 xs f) fun _=>True:=by
 unfold Z04 Z0h;exact Wp.bind (Wp.index hf) fun _ _ _=>Wp.ret trivial
theorem Zlu (a b:GV):Wp (Z35 a b) fun _=>True:=by
 unfold Z35 Z2r Z4l
 repeat' first | exact Wp.ret trivial | refine Wp.bind (R:=fun _=>True) ?_ fun _ _ _=>?_ | refine Wp.cond (fun _=>?_) fun _=>?_
theorem Zcz (a:GV) (op:ByteArray) (b:GV):Wp (Z1p a op b) fun _=>True:=by
 unfold Z1p
 repeat' first | exact Wp.ret trivial | refine Wp.bind (Zlu _ _) fun _ _ _=>?_ | refine Wp.cond (fun _=>?_) fun _=>?_
theorem Z6w (a:GV):Wp (Z0y a) fun _=>True:=by
 unfold Z0y
 repeat' first | exact Wp.ret trivial | refine Wp.cond (fun _=>?_) fun _=>?_
def VF (f:Fk):Prop:=f.cols.length<=6/\∀ v ∈ f.cols,0<=v/\v < 6
def VO (c:Cons):Prop:=(0<=c.left/\c.left < 6)/\-1<=c.right/\c.right < 6
theorem VT.pk6 {T:Tbl} (h:VT T):T.pk.length<=6:=by
 have:∀ (n:Nat) (v:Int),T.pk[n]? = some v->(n:Int)<=v:=by
  intro n
  induction n with
  | zero=>intro v hv;have:=(h.pk v (Y03 hv)).1;omega
  | succ n ih=>
    intro v hv;have hn:=(Y00.1 hv).1;have h1:=ih _ (Y01 (by omega));have h2:=h.asc n _ v (Y01 (by omega)) hv;omega
 have hp:=h.pk0;have h1:=this (T.pk.length - 1) _ (Y01 (by omega));have h2:=(h.pk _ (Y0p (show T.pk.length - 1 < T.pk.length by omega))).2;have h3:=h.cols6;omega
theorem Z72 (S:Sch) (hT:∀ T ∈ S.tables,VT T) (f:Fk):Wp (Z10 S f) fun e=>e=0->VF f:=by
 unfold Z10;refine Wp.bind (Z1d S f.table) fun v _ hv=>Wp.bind (Z1d S f.ref) fun w _ hw=>Wp.cond (fun _=>Wp.ret (by simp)) fun h1=>Wp.cond (fun _=>Wp.ret (by simp)) fun h2=>?_;have h1':v.2=true:=by simpa using h1
 have h2':w.2=true:=by simpa using h2
 refine Wp.get hv.1 (hv.2.1 h1').1 fun T hTx hTm=>Wp.get hw.1 (hw.2.1 h2').1 fun R hRx hRm=>Wp.cond (fun _=>Wp.ret (by simp)) fun h3=>?_;have VTT:=hT T hTm;have VTR:=hT R hRm;have hl:f.cols.length=R.pk.length:=by simp at h3;omega
 refine Wp.for (fun i _=>∀ (j:Nat) (v:Int),j < i->f.cols[j]? = some v->0<=v/\v < 6) (by intro j v h;omega) ?_ ?_
 .intro i x s next hx hm hI hn;have hi:=(Y00.1 hx).1;refine Wp.cond (fun _=>Wp.ret (by simp)) fun h4=>Wp.cond (fun _=>Wp.ret (by simp)) fun h5=>?_;have hx0:0<=x:=by simpa using h4
  have hx1:x < T.cols.length:=by simpa using h5
  refine Wp.get hx0 hx1 fun a _ _=>Wp.get (by omega) (by omega) fun p _ hp=>Wp.get (VTR.pk p hp).1 (VTR.pk p hp).2 fun b _ _=>Wp.cond (fun _=>Wp.ret (by simp)) fun _=>hn () fun j v hj hv'=>?_;rcases Y0t j i with h6 | h6
  .exact hI j v h6 hv'
  .obtain rfl:j=i:=by omega
   rw[hx] at hv';cases hv'
   have:=VTT.cols6
   omega
 .intro s hI;refine Wp.ret fun _=>⟨by rw[hl];exact VTR.pk6,fun v hv'=>?_⟩;obtain⟨j,hj,rfl⟩:=Y1g hv';exact hI j _ hj (Y01 hj)
theorem Z73 (S:Sch) (hT:∀ T ∈ S.tables,VT T) (c:Cons):Wp (Z1l S c) fun e=>e=0->VO c:=by
 unfold Z1l;refine Wp.bind (Z1d S c.table) fun v _ hv=>Wp.cond (fun _=>Wp.ret (by simp)) fun h1=>?_;have h1':v.2=true:=by simpa using h1
 refine Wp.get hv.1 (hv.2.1 h1').1 fun T hTx hTm=>Wp.bind (Zcz _ _ _) fun q _ _=>?_;have VTT:=hT T hTm;have h6:=VTT.cols6;refine Wp.cond (fun _=>Wp.ret (by simp)) fun h2=>Wp.cond (fun _=>Wp.ret (by simp)) fun h3=>Wp.cond (fun _=>Wp.ret (by simp)) fun _=>Wp.cond (fun _=>Wp.ret (by simp)) fun h4=>Wp.cond (fun _=>Wp.ret (by simp)) fun h5=>?_;have a2:0<=c.left:=by simpa using h2
 have a3:c.left < T.cols.length:=by simpa using h3
 have a4:-1<=c.right:=by simpa using h4
 have a5:c.right < T.cols.length:=by simpa using h5
 have hv0:VO c:=⟨⟨a2,by omega⟩,a4,by omega⟩;refine Wp.cond (fun h7=>?_) fun _=>?_
 .have a7:0<=c.right:=by simpa using h7
  exact Wp.cond (fun _=>Wp.ret (by simp)) fun _=>Wp.get a2 a3 fun _ _ _=>Wp.get a7 a5 fun _ _ _=>Wp.cond (fun _=>Wp.ret (by simp)) fun _=>Wp.ret fun _=>hv0
 .exact Wp.get a2 a3 fun _ _ _=>Wp.cond (fun _=>Wp.ret (by simp)) fun _=>Wp.bind (Z6w _) fun _ _ _=>Wp.ret fun _=>hv0
theorem Z94 (xs:List Cons) (c:Cons):Wp (Z1h xs c) fun _=>True:=by
 unfold Z1h Z1b;refine Wp.bind (R:=fun _=>True) (Wp.for (fun _ _=>True) trivial (fun i x s next _ _ _ hn=>Wp.cond (fun _=>Wp.ret trivial) fun _=>hn () trivial) fun _ _=>Wp.ret trivial) fun _ _ _=>Wp.ret trivial
structure VS0 (S:Sch):Prop where
 t6:S.tables.length<=6
 f8:S.fks.length<=8
 o8:S.cons.length<=8
 tab:∀ T ∈ S.tables,VT T
 fk:∀ f ∈ S.fks,VF f
 con:∀ c ∈ S.cons,VO c
theorem Z77 {α:Type} {xs:List α} {p:α->Prop} (h:∀ (j:Nat) (x:α),j < xs.length->xs[j]? = some x->p x):∀ x ∈ xs,p x:=by
 intro x hx;obtain⟨j,hj,rfl⟩:=Y1g hx;exact h j _ hj (Y01 hj)
theorem Z5u {α:Type} {xs:List α} {p:α->Prop} {i:Nat} {x:α} (h:∀ (j:Nat) (y:α),j < i->xs[j]? = some y->p y) (hx:xs[i]? = some x) (hp:p x):∀ (j:Nat) (y:α),j < i+1->xs[j]? = some y->p y:=by
 intro j y hj hy;rcases Y0t j i with h1 | h1
 .exact h j y h1 hy
 .obtain rfl:j=i:=by omega
  rw[hx] at hy;cases hy;exact hp
theorem Zas (S:Sch):Wp (Z0n S) fun e=>e=0->VS0 S:=by
 unfold Z0n;refine Wp.cond (fun _=>Wp.ret (by simp)) fun h1=>Wp.cond (fun _=>Wp.ret (by simp)) fun h2=>Wp.cond (fun _=>Wp.ret (by simp)) fun h3=>?_;have a1:S.tables.length<=6:=by simp at h1;omega
 have a2:S.fks.length<=8:=by simp at h2;omega
 have a3:S.cons.length<=8:=by simp at h3;omega
 refine Wp.for (fun i _=>∀ (j:Nat) (T:Tbl),j < i->S.tables[j]? = some T->VT T) (by intro j T h;omega) ?_ ?_
 .intro i T s next hx hm hI hn;have hi:=(Y00.1 hx).1;refine Wp.bind (Z93 T) fun e _ he=>Wp.cond (fun h=>Wp.ret (by intro h0;simp[h0] at h)) fun h4=>?_;have hT:VT T:=he (by simpa using h4);refine Wp.cond (fun h5=>?_) fun _=>hn () (Z5u hI hx hT);have h5':0 < i:=by simpa using h5
  exact Wp.chk ⟨by omega,by omega⟩ (Wp.get (by omega) (by omega) fun _ _ _=>Wp.cond (fun _=>Wp.ret (by simp)) fun _=>hn () (Z5u hI hx hT))
 intro s hI;have hT:=Z77 hI;refine Wp.for (fun i _=>∀ (j:Nat) (f:Fk),j < i->S.fks[j]? = some f->VF f) (by intro j T h;omega) ?_ ?_
 .intro i f s next hx hm hI hn;have hi:=(Y00.1 hx).1;refine Wp.bind (Z72 S hT f) fun e _ he=>Wp.cond (fun h=>Wp.ret (by intro h0;simp[h0] at h)) fun h4=>?_;refine Wp.chk ⟨by omega,by omega,by omega⟩ (Wp.bind (Z3t _ _ fun x _=>?_) fun _ _ _=>Wp.cond (fun _=>Wp.ret (by simp)) fun _=>hn () (Z5u hI hx (he (by simpa using h4))));unfold Z2t;exact Wp.bind (Z40 _ _) fun _ _ _=>Wp.ret trivial
 intro s hF;refine Wp.for (fun i _=>∀ (j:Nat) (f:Cons),j < i->S.cons[j]? = some f->VO f) (by intro j T h;omega) ?_ ?_
 .intro i f s next hx hm hI hn;have hi:=(Y00.1 hx).1;refine Wp.bind (Z73 S hT f) fun e _ he=>Wp.cond (fun h=>Wp.ret (by intro h0;simp[h0] at h)) fun h4=>?_;exact Wp.chk ⟨by omega,by omega,by omega⟩ (Wp.bind (Z94 _ _) fun _ _ _=>Wp.cond (fun _=>Wp.ret (by simp)) fun _=>hn () (Z5u hI hx (he (by simpa using h4))))
 intro s hO;exact Wp.ret fun _=>⟨a1,a2,a3,hT,Z77 hF,Z77 hO⟩
structure VS (S:Sch):Prop extends VS0 S where
 ok:Z0n S=some 0
theorem Z5c (S:Sch):Wp (Z0n S) fun e=>e=0->VS S:=
 (Zas S).mono fun r hr h h0=>{ h h0 with ok:=by rw[hr,h0] }
end
end Go.Proofs.YtbcejndfbklikaaGreatDoor
namespace Go.Am
section
open Go
def rowBox (xs:List (List C)) (sp:List C):List C:=xs.flatten++sp
def AllC (n:Nat) (xs:List (List C)):Prop:=∀ x ∈ xs,x.length=n
theorem AllC.nil {n:Nat}:AllC n []:=by simp[AllC]
theorem AllC.cons {n:Nat} {x:List C} {xs:List (List C)}:AllC n (x::xs)↔x.length=n/\AllC n xs:=by simp[AllC]
theorem AllC.append {n:Nat} {xs ys:List (List C)}:AllC n (xs++ys)↔AllC n xs/\AllC n ys:=by
 simp only[AllC,Y02];exact⟨fun h=>⟨fun y hy=>h y (.inl hy),fun y hy=>h y (.inr hy)⟩,fun h y hy=>hy.elim (h.1 y) (h.2 y)⟩
theorem AllC.take {n k:Nat} {xs:List (List C)} (h:AllC n xs):AllC n (xs.take k):=fun x hx=>h x (Y2t hx)
theorem AllC.drop {n k:Nat} {xs:List (List C)} (h:AllC n xs):AllC n (xs.drop k):=fun x hx=>h x (List.mem_of_mem_drop hx)
theorem AllC.set {n k:Nat} {xs:List (List C)} {x:List C} (h:AllC n xs) (hx:x.length=n):AllC n (xs.set k x):=fun y hy=>by
 rcases Y2f hy with h1 | rfl
 .exact h y h1
 .exact hx
theorem AllC.get {n k:Nat} {xs:List (List C)} {x:List C} (h:AllC n xs) (hx:xs[k]? = some x):x.length=n:=h x (Y03 hx)
theorem AllC.flatten {n:Nat}:∀ {xs:List (List C)},AllC n xs->xs.flatten.length=xs.length * n
 | [],_=>by simp
 | x::xs,h=>by
   obtain⟨h1,h2⟩:=AllC.cons.1 h;simp[AllC.flatten h2,h1,Y0x];omega
theorem Z0e {n:Nat} {xs:List (List C)} {sp:List C} (h:AllC n xs):(rowBox xs sp).length=xs.length * n+sp.length:=by simp[rowBox,h.flatten]
theorem Z6p {n:Nat}:∀ {k:Nat} {xs:List (List C)} {sp:List C},AllC n xs->k<=xs.length->(rowBox xs sp).drop (k * n)=rowBox (xs.drop k) sp
 | 0,xs,sp,_,_=>by simp
 | k+1,[],sp,_,hk=>by simp at hk
 | k+1,x::xs,sp,h,hk=>by
   obtain⟨h1,h2⟩:=AllC.cons.1 h;have e:(k+1) * n=x.length+k * n:=by rw[h1,Y0x];omega
   rw[e];simp only[rowBox,Y2q,Y0n,Y1e,List.drop_succ_cons];rw[<- Y1p,Y2v];exact Z6p (xs:=xs) (sp:=sp) h2 (by simpa using hk)
theorem Z6o {n:Nat}:∀ {k:Nat} {xs:List (List C)} {sp:List C},AllC n xs->k<=xs.length->(rowBox xs sp).take (k * n)=(xs.take k).flatten
 | 0,xs,sp,_,_=>by simp
 | k+1,[],sp,_,hk=>by simp at hk
 | k+1,x::xs,sp,h,hk=>by
   obtain⟨h1,h2⟩:=AllC.cons.1 h;have e:(k+1) * n=x.length+k * n:=by rw[h1,Y0x];omega
   rw[e];simp only[rowBox,Y2q,Y0n,Y2z];rw[List.take_length_add_append]
   congr 1
   exact Z6o (xs:=xs) (sp:=sp) h2 (by simpa using hk)
theorem Zfm {n k f:Nat} {xs:List (List C)} {sp x:List C} (h:AllC n xs) (hx:xs[k]? = some x) (hf:f<=n):(rowBox xs sp).drop (k * n+f)=x.drop f++rowBox (xs.drop (k+1)) sp:=by
 have hk:=(Y00.1 hx).1;have hxl:=h.get hx;rw[<- Y1p,Z6p h (by omega),Y14 hk]
 have:xs[k]=x:=(Y00.1 hx).2
 rw[this];simp only[rowBox,Y2q,Y0n];rw[Y1e (by omega)]
theorem Z54 {n k f m:Nat} {xs:List (List C)} {sp x:List C} (h:AllC n xs) (hx:xs[k]? = some x) (hf:f+m<=n):takeN m ((rowBox xs sp).drop (k * n+f))=takeN m (x.drop f):=by
 have hxl:=h.get hx;rw[Zfm h hx (by omega)];have h1:m<=(x.drop f).length:=by simp;omega
 simp only[takeN,h1,if_true,Y0f];rw[if_pos (by omega),Y1f h1]
theorem Zfn {n k:Nat} {xs:List (List C)} {sp x:List C} (h:AllC n xs) (hx:xs[k]? = some x):takeN n ((rowBox xs sp).drop (k * n))=some x:=by
 have h1:=Z54 (sp:=sp) (f:=0) (m:=n) h hx (by omega);simp only[Y1q,Y27] at h1;rw[h1,<- h.get hx];simp[takeN]
theorem Zfj {α:Type} {xs:List α} {a:Nat} {x:α} (h:a < xs.length):(xs.set a x).take (a+1)=xs.take a++[x]:=by
 rw[Y10 (by simpa using h),List.getElem_set_self,List.take_set_of_le (Y09 a)]
theorem Z84 {n k:Nat} {xs:List (List C)} {sp:List C} (h:AllC n xs) (hk:k < xs.length):k * n+n<=(rowBox xs sp).length:=by
 rw[Z0e h]
 have:(k+1) * n<=xs.length * n:=Y1j n (by omega)
 rw[Y0x] at this;omega
theorem Z9a {n k f:Nat} {xs:List (List C)} {sp x vs:List C} (h:AllC n xs) (hx:xs[k]? = some x) (hf:f+vs.length<=n):Z01 (rowBox xs sp) (k * n+f) vs=rowBox (xs.set k (Z01 x f vs)) sp:=by
 have hk:=(Y00.1 hx).1;have hxl:=h.get hx;have e1:(rowBox xs sp).take (k * n+f)=(xs.take k).flatten++x.take f:=by
  rw[List.take_add,Z6o h (by omega),Z6p h (by omega),Y14 hk]
  have:xs[k]=x:=(Y00.1 hx).2
  rw[this];simp only[rowBox,Y2q,Y0n];rw[Y1f (by omega)]
 have e2:(rowBox xs sp).drop (k * n+f+vs.length)=x.drop (f+vs.length)++rowBox (xs.drop (k+1)) sp:=by
  rw[Nat.add_assoc,Zfm h hx (by omega)]
 have e3:xs.set k (Z01 x f vs)=xs.take k++Z01 x f vs::xs.drop (k+1):=List.set_eq_take_append_cons_drop.trans (by rw[if_pos hk]);rw[Z01,e1,e2,e3];simp[rowBox,Z01]
def MR (h:HS) (n:Nat) (c:C) (xs:List (List C)):Prop:=
 AllC n xs/\xs.length<=LIM/\((xs=[]/\(c=.nil\/c=.z))\/∃ l cap sp,c=.mrow l 0 xs.length cap/\h.box l=some (rowBox xs sp)/\(rowBox xs sp).length=cap * n)
def labs:C->List Lab
 | .mrow l _ _ _=>[l]
 | _=>[]
theorem MR.frame {h h':HS} {n:Nat} {c:C} {xs:List (List C)} (m:MR h n c xs) (hb:∀ l ∈ labs c,h'.box l=h.box l):MR h' n c xs:=by
 refine⟨m.1,m.2.1,?_⟩;rcases m.2.2 with h1 | ⟨l,cap,sp,h1,h2,h3⟩
 .exact .inl h1
 .exact .inr ⟨l,cap,sp,h1,by rw[hb l (by simp[h1,labs])];exact h2,h3⟩
theorem MR.nil {h:HS} {n:Nat}:MR h n .nil []:=⟨AllC.nil,by simp,.inl ⟨rfl,.inl rfl⟩⟩
theorem MR.z {h:HS} {n:Nat}:MR h n .z []:=⟨AllC.nil,by simp,.inl ⟨rfl,.inr rfl⟩⟩
theorem MR.block {h:HS} {n:Nat} {c:C} {xs:List (List C)} (m:MR h n c xs) (h0:0 < xs.length):∃ l cap sp,c=.mrow l 0 xs.length cap/\h.box l=some (rowBox xs sp)/\(rowBox xs sp).length=cap * n:=by
 rcases m.2.2 with h1 | h1
 .rw[h1.1] at h0;simp at h0
 .exact h1
theorem Z8g {n off k:Nat} {h:HS} {l:Lab} {xs:List (List C)} {sp:List C} {cap:Nat} (h0:AllC n xs) (hb:h.box l=some (rowBox xs sp)) (hk:off+k<=xs.length):Z0x h n (.mrow l (off * n) k cap)=some (((xs.drop off).take k).flatten):=by
 simp only[Z0x,hb];rw[Z6p h0 (by omega)];have h1:=Z6o (n:=n) (k:=k) (xs:=xs.drop off) (sp:=sp) h0.drop (by simp;omega);have h2:k * n<=(rowBox (xs.drop off) sp).length:=by
  rw[Z0e h0.drop]
  have:k * n<=(xs.drop off).length * n:=Y1j n (by simp;omega)
  omega
 simp only[takeN,h2,if_true,h1]
theorem Zfl {n i:Nat} {xs ys:List (List C)} {sp:List C} (h0:AllC n xs) (h1:AllC n ys) (hi:i<=xs.length):Z01 (rowBox xs sp) (i * n) ys.flatten=rowBox (xs.take i++ys) ((rowBox xs sp).drop ((i+ys.length) * n)):=by
 rw[Z01,Z6o h0 hi,h1.flatten,<- Y0x];simp[rowBox]
theorem Zj1 {n:Nat} {xs:List (List C)} {sp vs:List C} (h0:AllC n xs):Z01 (rowBox xs sp) (xs.length * n) vs=rowBox xs (Z01 sp 0 vs):=by
 have e1:(rowBox xs sp).take (xs.length * n)=xs.flatten:=by rw[Z6o h0 (Y09 _)];simp
 have e2:(rowBox xs sp).drop (xs.length * n+vs.length)=sp.drop vs.length:=by
  rw[<- Y1p,Z6p h0 (Y09 _)];simp[rowBox]
 rw[Z01,e1,e2];simp[rowBox,Z01]
theorem Z0z {cs vs:List C} {o:Nat} (h:o+vs.length<=cs.length):(Z01 cs o vs).length=cs.length:=by
 simp[Z01];omega
theorem Zc2 {P:Program} {ty el:TypeId} {n by_:Nat} {l:Lab} {off k cap:Nat} {h:HS} {cs z:List C} {f:V->HS->Prop} (hel:elT P ty=some (el,n,by_)) (hz:zeT P el=some z) (hb:h.box l=some cs) (h0:0 < n) (hle:off+k * n<=cs.length)
  (hk:f .top (h.setBox l (Z01 cs off (List.replicate k z).flatten))):clearK P ty (.mrow l off k cap) h (K:=⟨f⟩):=by
 unfold clearK Z95;simp only[hel,hz,hb];exact⟨⟨h0,hle⟩,hk⟩
def Same (h h':HS) (ls:List Lab):Prop:=h.ep<=h'.ep/\∀ k:Lab,k.1 < h.ep->k ∉ ls->h'.box k=h.box k
theorem Same.refl {h:HS} {ls:List Lab}:Same h h ls:=⟨Y09 _,fun _ _ _=>rfl⟩
theorem Same.trans {h h1 h2:HS} {ls:List Lab} (a:Same h h1 ls) (b:Same h1 h2 ls):Same h h2 ls:=⟨Y0y a.1 b.1,fun k hk hn=>(b.2 k (by have:=a.1;omega) hn).trans (a.2 k hk hn)⟩
theorem Same.next {h h':HS} {ls:List Lab} (a:Same h h' ls):Same h h'.next ls:=⟨by have:=a.1;simp;omega,fun k hk hn=>a.2 k hk hn⟩
theorem Same.setArr {h h':HS} {ls:List Lab} {l:Lab} {x:Option (Nat × Nat)} (a:Same h h' ls):Same h (h'.setArr l x) ls:=⟨by simpa using a.1,fun k hk hn=>a.2 k hk hn⟩
theorem Same.setBox {h h':HS} {ls:List Lab} {l:Lab} {cs:List C} (a:Same h h' ls) (hl:l ∈ ls\/h.ep<=l.1):Same h (h'.setBox l cs) ls:=⟨by simpa using a.1,fun k hk hn=>by
 have:k≠l:=by
  rintro rfl;rcases hl with hl | hl
  .exact hn hl
  .omega
 simp[this,a.2 k hk hn]⟩
def keep (p:List D->Bool):List (List C)->List (List D)->List (List C)
 | x::xs,t::ts=>if p t then keep p xs ts else x::keep p xs ts
 | _,_=>[]
theorem AllC.keep {n:Nat} {p:List D->Bool}:∀ {xs:List (List C)} {ts:List (List D)},AllC n xs->AllC n (keep p xs ts)
 | [],_,_=>by simp[Go.Am.keep,AllC]
 | _::_,[],_=>by simp[Go.Am.keep,AllC]
 | x::xs,t::ts,h=>by
   obtain⟨h1,h2⟩:=AllC.cons.1 h;unfold Go.Am.keep;split
   .exact AllC.keep h2
   .exact AllC.cons.2 ⟨h1,AllC.keep h2⟩
theorem Zdg {p:List D->Bool}:∀ {j:Nat} {xs:List (List C)} {ts:List (List D)} {x:List C} {t:List D},xs[j]? = some x->ts[j]? = some t ->
  keep p (xs.take (j+1)) (ts.take (j+1))=if p t then keep p (xs.take j) (ts.take j) else keep p (xs.take j) (ts.take j)++[x]
 | 0,x::xs,t::ts,_,_,hx,ht=>by
   simp at hx ht;subst hx ht;simp[keep]
 | j+1,x::xs,t::ts,y,u,hx,ht=>by
   have ih:=Zdg (p:=p) (j:=j) (xs:=xs) (ts:=ts) (x:=y) (t:=u) (by simpa using hx) (by simpa using ht);simp only[Y2z,keep] at ih |-;rw[ih]
   split<;>split<;>rfl
 | _,[],_,_,_,hx,_=>by simp at hx
 | _,_::_,[],_,_,_,ht=>by simp at ht
theorem Znb {p:List D->Bool}:∀ {xs:List (List C)} {ts:List (List D)},(keep p xs ts).length<=xs.length
 | [],_=>by simp[keep]
 | _::_,[]=>by simp[keep]
 | x::xs,t::ts=>by
   unfold keep
   have:=Znb (p:=p) (xs:=xs) (ts:=ts)
   split<;>simp<;>omega
theorem Zfx {p:List D->Bool}:∀ {xs:List (List C)} {ts:List (List D)},xs.length=ts.length->(∀ t ∈ ts,p t=false)->keep p xs ts=xs
 | [],_,_,_=>by simp[keep]
 | _::_,[],h,_=>by simp at h
 | x::xs,t::ts,h,hp=>by
   unfold keep;rw[hp t (by simp),Zfx (by simpa using h) (fun u hu=>hp u (by simp[hu]))];simp
theorem MR.frz {h:HS} {n:Nat} {c:C} {xs:List (List C)} {ts:List (List D)} (m:MR h n c xs) (hl:xs.length=ts.length) (ht:∀ t ∈ ts,t.length=n) (hf:∀ (i:Nat) (x:List C) (t:List D),xs[i]? = some x->ts[i]? = some t->FrzCs h x t):Frz h c (.sl ts):=by
 rcases m.2.2 with ⟨h1,h2⟩ | ⟨l,cap,sp,rfl,hb,hcap⟩
 .subst h1
  have:ts=[]:=Y0o (by simpa using hl.symm)
  subst this;rcases h2 with rfl | rfl
  .exact .data rfl
  .exact .data rfl
 .rw[hl];refine Frz.mrow (es:=n) (f:=fun i j=>((xs[i]?).getD [])[j]?.getD .nil) hb (by rw[<- hl];exact m.2.1) ht (fun i t hi j d hd=>?_) (fun i t hi j d hd=>?_)
  .have hlt:i < xs.length:=by rw[hl];exact (Y00.1 hi).1
   have hx:xs[i]? = some xs[i]:=Y01 hlt;have hj:j < n:=by rw[<- ht t (Y03 hi)];exact (Y00.1 hd).1
   have hxl:=m.1.get hx
   have:=Zfm (sp:=sp) m.1 hx (f:=j) (by omega)
   have h2:((rowBox xs sp).drop (i * n+j))[0]? = xs[i][j]?:=by
    rw[this,Y0j (by simp;omega)];simp
   simp only[Y16,Y1q] at h2;rw[Y25,h2,hx];simp[Y01 (show j < xs[i].length by omega)]
  .have hlt:i < xs.length:=by rw[hl];exact (Y00.1 hi).1
   have hx:xs[i]? = some xs[i]:=Y01 hlt;obtain⟨_,hg⟩:=(hf i _ _ hx hi).get;obtain⟨c,hc,hfc⟩:=hg j d hd;simp only[hx,Option.getD_some,hc];exact hfc
@[simp] theorem envV_n {n:Nat} {vs:List V}:(envV n vs).n=n:=rfl
@[simp] theorem Zun {n k:Nat} {vs:List V}:(envV n vs).get k=(vs[k]?).getD .undef:=rfl
@[simp] theorem Zu5 {P:Program} {k:Nat} {K:V->HS->Prop} {e:Env} {h:HS}:retH P [.tmp k] K .ret e h=K (e.get k) h:=rfl
@[simp] theorem Zt9 {P:Program} {k:Nat} {K:V->HS->Prop} {e:Env} {h:HS}:retH P [.tmp k] K .normal e h=K (e.get k) h:=rfl
@[simp] theorem Zta {P:Program} {K:V->HS->Prop} {e:Env} {h:HS}:retH P [] K .ret e h=K (.tup []) h:=by simp[retH,resVs]
@[simp] theorem Zsj {P:Program} {K:V->HS->Prop} {e:Env} {h:HS}:retH P [] K .normal e h=K (.tup []) h:=by simp[retH,resVs]
theorem Z1f {a b:Prop} [Decidable a] [Decidable b] {c d:C} {f:V->Prop} (ha:a) (h1:b->f (.one c)) (h2:¬ b->f (.one d)):optV (Option.map V.one (if a then (if b then some c else some d) else none)) (k:=⟨f⟩):=by
 rw[if_pos ha]
 by_cases hb:b
 .rw[if_pos hb];exact h1 hb
 .rw[if_neg hb];exact h2 hb
def RowAt (h:HS) (n:Nat) (c:C) (xs:List (List C)):Prop:=Z0x h n c=some xs.flatten/\cLen c=some xs.length/\AllC n xs/\xs.length<=LIM
theorem MR.rd {h:HS} {n:Nat} {c:C} {xs:List (List C)} (m:MR h n c xs):RowAt h n c xs:=by
 refine⟨?_,?_,m.1,m.2.1⟩
 .rcases m.2.2 with ⟨h1,rfl | rfl⟩ | ⟨l,cap,sp,rfl,hb,hcap⟩
  .subst h1;simp[Z0x,C.list?]
  .subst h1;simp[Z0x,C.list?]
  .have:=Z8g (n:=n) (off:=0) (k:=xs.length) (cap:=cap) m.1 hb (by simp)
   simpa using this
 .rcases m.2.2 with ⟨h1,rfl | rfl⟩ | ⟨l,cap,sp,rfl,hb,hcap⟩
  .subst h1;simp[cLen,C.list?]
  .subst h1;simp[cLen,C.list?]
  .simp[cLen]
theorem RowAt.data {h:HS} {n:Nat} {ts:List (List D)} (ht:∀ t ∈ ts,t.length=n) (hl:ts.length<=LIM):RowAt h n (.d (.sl ts)) (ts.map (·.map C.d)):=by
 refine⟨?_,by simp[cLen,C.list?],?_,by simpa using hl⟩
 .show (if ∀ x ∈ ts,x.length=n then some (ts.flatten.map C.d) else none)=_;rw[if_pos ht,List.map_flatten]
 .intro x hx;simp at hx;obtain⟨t,h1,rfl⟩:=hx;simpa using ht t h1
theorem Zrs {P:Program} {ty:TypeId} {z:TypeId × Nat × Nat} {h:HS} {n:Nat} {c:C} {xs:List (List C)} {f:V->Prop} (hel:elT P ty=some z) (hr:RowAt h n c xs) (h1:xs=[]->f (dbool true)) (h2:f (dbool false)):nilK P .eql ty c (K:=⟨f⟩):=by
 have hlen:=hr.2.1;have key:∀ ys,c.list? = some ys->cLen c=some ys.length->nilK P .eql ty c (K:=⟨f⟩):=fun ys hy hc=>by
  refine Z9d hel rfl hy (fun b hb=>?_);cases b with
  | false=>exact h2
  | true=>
    have:ys=[]:=Classical.byContradiction fun h=>by simpa using hb h
    subst this;rw[hc] at hlen;exact h1 (Y0o (by simpa using hlen.symm))
 match c,hlen with
 | .d (.sl ys),_=>exact key ys rfl rfl
 | .own _ ys,_=>exact key ys rfl rfl
 | .nil,_=>exact key [] rfl rfl
 | .z,_=>exact key [] rfl rfl
 | .mrow _ _ _ _,_=>exact Zn5 hel rfl h2
theorem Zq2 {h:HS} {n:Nat}:appHdr h n .z=some (0,0,[],none):=rfl
theorem Zs2 {P:Program} {ty el:TypeId} {n by_ d:Nat} {h:HS} {x:C} {xs:List (List C)} {K:V->HS->Prop} (hel:elT P ty=some (el,n,by_)) (hz:(zeT P el).isSome=true) (h0:0 < n) (hb:by_<=4096) (hr:RowAt h n x xs)
  (hk:∀ c' h',MR h' n c' xs->Same h h' []->(∀ l ∈ labs c',h.ep<=l.1/\l.1 < h'.ep)->K (.one c') h'):appK P ty .z x d h (K:=⟨K⟩):=by
 obtain⟨hc,hl,ha,hm⟩:=hr;refine Z8s hel Zq2 hc hl hz h0 hb (by simpa using hm) ha.flatten (by simp) (fun h1=>?_) (fun h1 h2=>by omega) (fun h1 h2 cap' hcap=>?_)
 .have:xs=[]:=Y0o h1
  subst this;exact hk _ _ MR.z .refl (by simp[labs])
 .refine hk _ _ ⟨ha,hm,.inr ⟨(h.ep,16 * d),cap',List.replicate ((cap' - xs.length) * n) .any,by simp,by simp[rowBox],?_⟩⟩ ((Same.refl.setBox (.inr (Y09 _))).next) (by simp[labs]);rw[Z0e ha,Y1l,<- Y0x]
  congr 1
  omega
inductive Sh where
 | d
 | r (es:List Sh)
inductive Ow (h:HS):List Sh->List C->List D->List Lab->Prop where
 | nil:Ow h [] [] [] []
 | data {c:C} {x:D} {ss:List Sh} {cs:List C} {ds:List D} {ls:List Lab} (hx:c.toD=some x) (hr:Ow h ss cs ds ls):Ow h (.d::ss) (c::cs) (x::ds) ls
 | emp {es:List Sh} {c:C} {ss:List Sh} {cs:List C} {ds:List D} {ls:List Lab} (hx:c.toD=some (.sl [])) (hr:Ow h ss cs ds ls):Ow h (.r es::ss) (c::cs) (.sl []::ds) ls
 | row {es:List Sh} {c:C} {qs:List (List C × List D × List Lab)} {ss:List Sh} {cs:List C} {ds:List D} {ls:List Lab} (hm:MR h es.length c (qs.map (·.1))) (hq:∀ q ∈ qs,Ow h es q.1 q.2.1 q.2.2)
   (hr:Ow h ss cs ds ls):Ow h (.r es::ss) (c::cs) (.sl (qs.map (·.2.1))::ds) (labs c++qs.flatMap (·.2.2)++ls)
theorem Ow.len {h:HS} {ss:List Sh} {cs:List C} {ds:List D} {ls:List Lab} (o:Ow h ss cs ds ls):cs.length=ss.length/\ds.length=ss.length:=by
 induction o with
 | nil=>simp
 | data hx hr ih=>simp[ih]
 | emp hx hr ih=>simp[ih]
 | row hm hq hr ihq ih=>simp[ih]
theorem Ow.frame {h h':HS} {ss:List Sh} {cs:List C} {ds:List D} {ls:List Lab} (o:Ow h ss cs ds ls) (hb:∀ l ∈ ls,h'.box l=h.box l):Ow h' ss cs ds ls:=by
 induction o with
 | nil=>exact .nil
 | data hx hr ih=>exact .data hx (ih hb)
 | emp hx hr ih=>exact .emp hx (ih hb)
 | @row es c qs ss cs ds ls hm hq hr ihq ih=>
   refine .row (hm.frame fun l hl=>hb l (by simp[hl])) (fun q hqm=>ihq q hqm fun l hl=>hb l ?_) (ih fun l hl=>hb l (by simp[hl]));simp only[Y02,Y0w];exact .inl (.inr ⟨q,hqm,hl⟩)
theorem Ow.frz {h:HS} {ss:List Sh} {cs:List C} {ds:List D} {ls:List Lab} (o:Ow h ss cs ds ls):FrzCs h cs ds:=by
 induction o with
 | nil=>trivial
 | data hx hr ih=>exact⟨.data hx,ih⟩
 | emp hx hr ih=>exact⟨.data hx,ih⟩
 | @row es c qs ss cs ds ls hm hq hr ihq ih=>
   refine⟨hm.frz (by simp) (fun t ht=>?_) (fun i x t hx ht=>?_),ih⟩
   .obtain⟨q,hqm,rfl⟩:=Y0m.1 ht;exact (hq q hqm).len.2
   .rw[Y0b] at hx ht;cases hqi:qs[i]? with
    | none=>rw[hqi] at hx;simp at hx
    | some q=>
      rw[hqi] at hx ht;simp only[Y0h,Y06] at hx ht;subst hx ht;exact ihq q (Y03 hqi)
theorem Ow.inv_nil {h:HS} {cs:List C} {ds:List D} {ls:List Lab} (o:Ow h [] cs ds ls):cs=[]/\ds=[]/\ls=[]:=by
 cases o;exact⟨rfl,rfl,rfl⟩
theorem Ow.inv_d {h:HS} {ss:List Sh} {cs:List C} {ds:List D} {ls:List Lab} (o:Ow h (.d::ss) cs ds ls):∃ c x cs' ds',cs=c::cs'/\ds=x::ds'/\c.toD=some x/\Ow h ss cs' ds' ls:=by
 cases o with
 | data hx hr=>exact⟨_,_,_,_,rfl,rfl,hx,hr⟩
theorem Ow.inv_r {h:HS} {es ss:List Sh} {cs:List C} {ds:List D} {ls:List Lab} (o:Ow h (.r es::ss) cs ds ls):(∃ (c:C) (cs':List C) (ds':List D),cs=c::cs'/\ds=.sl []::ds'/\c.toD=some (.sl [])/\Ow h ss cs' ds' ls) \/
  ∃ (c:C) (qs:List (List C × List D × List Lab)) (cs':List C) (ds':List D) (ls':List Lab),cs=c::cs'/\ds=.sl (qs.map (·.2.1))::ds'/\ls=labs c++qs.flatMap (·.2.2)++ls' /\
  MR h es.length c (qs.map (·.1))/\(∀ q ∈ qs,Ow h es q.1 q.2.1 q.2.2)/\Ow h ss cs' ds' ls':=by
 cases o with
 | emp hx hr=>exact .inl ⟨_,_,_,rfl,rfl,hx,hr⟩
 | row hm hq hr=>exact .inr ⟨_,_,_,_,_,rfl,rfl,rfl,hm,hq,hr⟩
def OwB (h:HS) (l:Lab) (ss:List Sh) (ds:List D) (ls:List Lab):Prop:=∃ cs,h.box l=some cs/\Ow h ss cs ds ls/\(l::ls).Nodup/\∀ k ∈ l::ls,k.1 < h.ep
theorem OwB.frame {h h':HS} {l:Lab} {ss:List Sh} {ds:List D} {ls lx:List Lab} (o:OwB h l ss ds ls) (hs:Same h h' lx) (hd:∀ k ∈ l::ls,k ∉ lx):OwB h' l ss ds ls:=by
 obtain⟨cs,hb,ho,hn,hl⟩:=o;have hk:∀ k ∈ l::ls,h'.box k=h.box k:=fun k hk=>hs.2 k (hl k hk) (hd k hk);exact⟨cs,by rw[hk l (by simp)];exact hb,ho.frame fun k hk'=>hk k (by simp[hk']),hn,fun k hk'=>Y04 (hl k hk') hs.1⟩
theorem Same.mono {h h':HS} {ls ls':List Lab} (s:Same h h' ls) (hl:∀ k ∈ ls,k ∈ ls'):Same h h' ls':=⟨s.1,fun k hk hn=>s.2 k hk fun hm=>hn (hl k hm)⟩
theorem Same.drop {h h':HS} {ls ls':List Lab} (s:Same h h' ls) (hl:∀ k ∈ ls,k ∈ ls'\/h.ep<=k.1):Same h h' ls':=⟨s.1,fun k hk hn=>s.2 k hk fun hm=>(hl k hm).elim hn fun he=>absurd hk (by omega)⟩
theorem Same.trans' {h h1 h2:HS} {ls ls1:List Lab} (a:Same h h1 ls) (b:Same h1 h2 ls1) (hl:∀ k ∈ ls1,k ∈ ls\/h.ep<=k.1):Same h h2 ls:=
 ⟨Y0y a.1 b.1,fun k hk hn=>(b.2 k (by have:=a.1;omega) fun hm=>(hl k hm).elim hn fun he=>absurd hk (by omega)).trans (a.2 k hk hn)⟩
theorem Ow.datas {h:HS}:∀ {ds:List D},Ow h (ds.map fun _=>Sh.d) (ds.map C.d) ds []
 | []=>.nil
 | _::_=>.data rfl Ow.datas
def Good (h:HS):Prop:=∀ l cs,h.box l=some cs->l.1 < h.ep
theorem HSpec.good {P:Program} {h:HS} {f:FuncId} {fn:Func} {c:Code} {vs:List V} {K:V->HS->Prop} (hf:P.funcs[f]? = some fn) (hb:fn.body=some c) (hnm:(fn.name == "runtime.NumGoroutine")=false) (hg:Good h->HSpec P f vs h K):HSpec P f vs h K:=
 ⟨⟨fn,hf,hnm,by rw[hb];rfl⟩,fun Γ μ w vals hI hR=>(hg fun l cs hl=>by
  obtain⟨b,n,T,conc,h1,_⟩:=hI.box l cs hl;exact hI.lt l (by rw[h1];simp)).2 Γ μ w vals hI hR⟩
theorem Same.boxLe {h h':HS} (s:Same h h' []) (g:Good h):BoxLe h h':=fun l cs hl=>by rw[s.2 l (g l cs hl) (by simp),hl]
theorem Zmt {a b:Nat} {xs u v:List C} (h1:takeN a xs=some u) (h2:takeN b (xs.drop a)=some v):takeN (a+b) xs=some (u++v):=by
 unfold takeN at *;split at h1
 .split at h2
  .rename_i h3 h4;simp only[Y1u] at h4;rw[if_pos (by omega),List.take_add];simp only[Y06] at h1 h2;rw[h1,h2]
  .cases h2
 .cases h1
theorem Zp6 {cs l:List C} (h:∀ i,i < l.length->cs[i]? = l[i]?):takeN l.length cs=some l:=by
 have hl:l.length<=cs.length:=by
  by_cases h0:l.length=0
  .omega
  .have:=h (l.length - 1) (by omega)
   rw[Y01 (show l.length - 1 < l.length by omega)] at this
   have:=(Y00.1 this).1
   omega
 unfold takeN;rw[if_pos hl]
 congr 1
 refine Y2r fun i=>?_
 by_cases hi:i < l.length
 .rw[Y2g hi,h i hi]
 .rw[Y1t (by simp;omega),Y1t (by omega)]
theorem Zf0 {n:Nat} {cs:List C}:∀ {ts:List (List D)} {off:Nat},(∀ t ∈ ts,t.length=n)->(∀ (i:Nat) x,ts[i]? = some x->∀ (j:Nat) d,x[j]? = some d->cs[off+(i * n+j)]? = some (.d d)) ->
  takeN (ts.length * n) (cs.drop off)=some (ts.map (·.map C.d)).flatten\/(ts.length * n=0/\ts.flatten=[])
 | [],off,_,_=>.inr (by simp)
 | t::ts,off,ht,hc=>by
   have h0:=ht t (by simp);refine .inl ?_;have h1:takeN n (cs.drop off)=some (t.map C.d):=by
    have:=Zp6 (cs:=cs.drop off) (l:=t.map C.d) (fun i hi=>by
     simp only[Y0z] at hi
     have:=hc 0 t (by simp) i t[i] (Y01 hi)
     rw[Y16,Y0b,Y01 hi];simpa using this)
    rw[Y0z,h0] at this;exact this
   have ih:=Zf0 (cs:=cs) (ts:=ts) (off:=off+n) (fun x hx=>ht x (by simp[hx])) (fun i x hx j d hd=>by
    have:=hc (i+1) x (by simpa using hx) j d hd
    rw[show off+n+(i * n+j)=off+((i+1) * n+j) by rw[Y0x];omega];exact this)
   have h2:takeN (ts.length * n) ((cs.drop off).drop n)=some (ts.map (·.map C.d)).flatten:=by
    rw[Y1p];rcases ih with h | ⟨h,h'⟩
    .exact h
    .rw[h]
     have:(ts.map (·.map C.d)).flatten=[]:=by rw[<- List.map_flatten,h'];rfl
     rw[this];simp[takeN]
   have:=Zmt h1 h2
   rw[show (t::ts).length * n=n+ts.length * n by simp[Y0x];omega];simpa using this
theorem Frz.flat {h:HS} {c:C} {x:D} (f:Frz h c x) (hx:x.flat=true):c=.d x:=by
 cases f with
 | data h1=>
   cases c<;>simp[C.toD] at h1
   .rw[h1]
   all_goals (subst h1;simp[D.flat] at hx)
 | mrow=>simp[D.flat] at hx
theorem Frz.rowAt {h:HS} {c:C} {ts:List (List D)} {n:Nat} (f:Frz h c (.sl ts)) (ht:∀ t ∈ ts,t.length=n/\∀ d ∈ t,d.flat=true) (hl:ts.length<=LIM):RowAt h n c (ts.map (·.map C.d)):=by
 have hall:AllC n (ts.map (·.map C.d)):=by
  intro x hx;obtain⟨t,h1,rfl⟩:=Y0m.1 hx;simpa using (ht t h1).1
 have key:∀ c,c.list? = some ts->RowAt h n c (ts.map (·.map C.d)):=by
  intro c hc;have h1:∀ x ∈ ts,x.length=n:=fun x hx=>(ht x hx).1;have h2:ts.flatten.map C.d=(ts.map (·.map C.d)).flatten:=List.map_flatten;cases c<;>simp[C.list?] at hc
  all_goals exact⟨by simp only[Z0x,C.list?,hc];first | (rw[if_pos h1,h2]) | (subst hc;simp),by simp[cLen,C.list?,hc],hall,by simpa using hl⟩
 cases f with
 | data h1=>
   refine key c ?_;cases c<;>simp[C.toD] at h1
   .subst h1;rfl
   .subst h1;rfl
   .subst h1;rfl
   .subst h1;rfl
 | @mrow l off cap es xs cs g hb hl hes hc hf=>
   refine⟨?_,by simp[cLen],hall,by simpa using hl⟩;simp only[Z0x,hb];have h1:∀ t ∈ ts,t.length=n:=fun t h=>(ht t h).1
   have:=Zf0 (n:=n) (cs:=cs) (ts:=ts) (off:=off) h1 (fun i x hx j d hd=>by
    have hxm:=Y03 hx;have e:es=n:=(hes x hxm).symm.trans (h1 x hxm);have h3:=hc i x hx j d hd;rw[e] at h3;rw[h3,(hf i x hx j d hd).flat ((ht x hxm).2 d (Y03 hd))])
   rcases this with h | ⟨h,h'⟩
   .exact h
   .rw[h]
    have:(ts.map (·.map C.d)).flatten=[]:=by rw[<- List.map_flatten,h'];rfl
    rw[this];simp[takeN]
end
end Go.Am
namespace Go.Proofs.YtbcejndfbklikaaGreatDoor
section
open Go Go.Am
theorem Z9o {p:Prop} (H:p:=by
   refine HSpec.good F rfl (by kernel_rfl) fun hg=>?_;refine HSpec.of_vc F rfl (by kernel_rfl) (n:=8) rfl rfl (by simp) ?_;simp;refine Zrs EL hr (fun h1=>?_) ?_
   .subst h1;simp;exact hk _ _ MR.nil .refl (by simp[labs]) (BoxLe.refl h)
   .simp;refine Zpp (by simp) ?_;simp;refine Zs2 EL (by kernel_rfl) (by decide) (by decide) hr (fun c' h' hm hs hl=>?_);simp;exact hk _ _ hm hs hl (hs.boxLe hg)):p:=H
theorem Znj {n:Nat} {h:HS} {l:Lab} {cap i j m o:Nat} {xs:List (List C)} {K:V->HS->Prop} (hall:AllC n xs) (hlim:xs.length<=LIM) (hij:i<=j) (hj:j<=xs.length)
  (hk:∀ c' h',MR h' n c' (xs.take i++xs.drop j)->(∀ k,k ∉ labs (.mrow l 0 xs.length cap)->h'.box k=h.box k)->h'.ep=h.ep->h'.arr=h.arr->labs c'=labs (.mrow l 0 xs.length cap)->K (.one c') h') (hm:i+(xs.length - j)=m)
  {sp1 vs:List C} {h1:HS} (hl:(rowBox (xs.take i++xs.drop j) sp1).length=cap * n) (ho:o=m * n) (hv:o+vs.length<=cap * n) (hs:∀ k,k≠l->h1.box k=h.box k) (he:h1.ep=h.ep) (ha:h1.arr=h.arr) :
  K (.one (.mrow l 0 m cap)) (h1.setBox l (Z01 (rowBox (xs.take i++xs.drop j) sp1) o vs)):=by
 have hlen:(xs.take i++xs.drop j).length=m:=by simp;omega
 have ha2:AllC n (xs.take i++xs.drop j):=AllC.append.2 ⟨hall.take,hall.drop⟩;have e2:=Zj1 (sp:=sp1) (vs:=vs) ha2;rw[hlen,<- ho] at e2;rw[e2];refine hk _ _ ⟨ha2,by rw[hlen];omega,.inr ⟨l,cap,Z01 sp1 0 vs,by rw[hlen],by simp,?_⟩⟩ (fun k hk1=>?_) he ha rfl
 .rw[<- e2,Z0z (by omega),hl]
 .have:k≠l:=by simpa[labs] using hk1
  simp[this,hs k this]
theorem Zry {n cap i j:Nat} {h:HS} {l:Lab} {xs:List (List C)} {sp:List C} (hj:xs.length<=j) (hb:h.box l=some (rowBox xs sp)) (hcap:(rowBox xs sp).length=cap * n) :
  ∃ sp1,h.box l=some (rowBox (xs.take i++xs.drop j) sp1)/\(rowBox (xs.take i++xs.drop j) sp1).length=cap * n:=by
 refine⟨(xs.drop i).flatten++sp,?_,?_⟩
 .rw[hb,Y23 hj];simp[rowBox,<- Y0n,<- Y2a]
 .rw[<- hcap,Y23 hj];simp[rowBox,<- Y0n,<- Y2a]
theorem Zrx {n cap i j:Nat} {xs:List (List C)} {sp:List C} (hall:AllC n xs) (hi:i<=xs.length) (hij:i<=j) (hj:j<=xs.length) (hcap:(rowBox xs sp).length=cap * n) (hc:xs.length<=cap) :
  ∃ sp1,Z01 (rowBox xs sp) (0+i * n) (xs.drop j).flatten=rowBox (xs.take i++xs.drop j) sp1/\(rowBox (xs.take i++xs.drop j) sp1).length=cap * n:=by
 refine⟨_,by rw[Y25,Zfl hall hall.drop hi],?_⟩;rw[<- Zfl hall hall.drop hi,Z0z,hcap];rw[hall.drop.flatten,<- Y0x,hcap,Y1u];exact Y1j n (by omega)
theorem Zro {n cap i:Nat} {h:HS} {l:Lab} {xs:List (List C)} {sp:List C} (hall:AllC n xs) (hb:h.box l=some (rowBox xs sp)) (hi:i<=xs.length):appHdr h n (.mrow l 0 i cap)=some (i,cap,(xs.take i).flatten,some (l,0)):=by
 have:=Z8g (off:=0) (k:=i) (cap:=cap) hall hb (by omega)
 simp only[Nat.zero_mul,Y27] at this;simp only[appHdr,this]
theorem Zdu {p:Prop} (H:p:=by
   obtain⟨hall,hlim,h1 | ⟨l,cap,sp,rfl,hb,hcap⟩⟩:=hm
   .obtain⟨rfl,hc⟩:=h1;obtain rfl:j=0:=by simpa using hj
    obtain rfl:i=0:=by omega
    refine HSpec.of_vc F rfl (by kernel_rfl) (n:=33) rfl rfl (by simp) ?_;rcases hc with rfl | rfl<;>simp<;>exact hk _ _ (by first | (simpa using MR.nil) | (simpa using MR.z)) (fun _ _=>rfl) rfl rfl rfl
   .have hlen:xs.length<=cap:=by
     have h1:=Z0e (sp:=sp) hall;omega
    have hi:i<=xs.length:=by omega
    refine HSpec.of_vc F rfl (by kernel_rfl) (n:=33) rfl rfl (by simp) ?_;simp;refine Z1f ⟨⟨hij,hj⟩,hlen⟩ (fun _=>?_) (fun _=>?_)
    all_goals
     simp;refine Z79 (fun he=>?_) (fun hne=>?_)
     .simp;obtain rfl:i=j:=by simp at he;omega
      refine hk _ _ ⟨?_,?_,.inr ⟨l,cap,sp,?_,?_,?_⟩⟩ (fun _ _=>rfl) rfl rfl rfl<;>simp[*]
     .simp;have hlt:i < j:=by
       have:(i:Int)≠j:=by simpa using hne
       omega
      have hjc:j<=cap:=by omega
      have hic:i<=cap:=by omega
      have hc0:0 < cap:=by omega
      refine Wait.of (SWP.draw (Plan.then_ [0,1,2,3,4,5,6,7] .done) follows (by kernel_rfl) ?_);simp[hjc,hic,hlen,hj,hc0];have happ:=Zro (cap:=cap) hall hb hi;have hxt:(xs.drop j).take (xs.length - j)=xs.drop j:=Y0l (by simp);generalize hm:i+(xs.length - j)=m at *;have hm3:m < xs.length:=by omega
      have hm2:m<=xs.length:=by omega
      have hm4:m < cap:=by omega
      by_cases hjc2:j < cap
      all_goals
       simp[hjc2]
       first
       | refine Z8s EL happ (by have:=Z8g (off:=j) (k:=xs.length - j) (cap:=cap - j) hall hb (by omega);rw[hxt] at this;first | exact this | simpa using this) (m:=xs.length - j) rfl (by simp) (by decide) (by decide) (by simp at hlim |-;omega) ?_ ?_ (fun h0=>?_) (fun h0 _=>?_) (fun _ _=>by omega)
       | refine Z8s EL happ (new:=[]) (m:=0) (by simp[Z0x]) rfl (by simp) (by decide) (by decide) (by simp at hlim |-;omega) rfl ?_ (fun h0=>?_) (fun h0=>absurd h0 (by omega)) (fun h0=>absurd h0 (by omega))
       all_goals first
       | (rw[hall.drop.flatten];simp;done)
       | (rw[hall.take.flatten];simp;omega)
       | (obtain⟨sp1,hb2,hl2⟩:=Zry (i:=i) (j:=j) (by omega) hb hcap
          obtain rfl:i=m:=by omega
          simp[hjc2,hlen,hm2,hm3,hm4];refine Zc2 EL ZE hb2 (by decide) (by rw[hl2];omega) ?_;simp;exact Znj hall hlim hij hj hk hm hl2 (by simp) (by simp;omega) (fun _ _=>rfl) rfl rfl)
       | (rintro l' off he'
          simp only[Y06,Y07] at he';obtain⟨rfl,rfl⟩:=he';obtain⟨sp1,e1,hl2⟩:=Zrx hall hi hij hj hcap hlen;refine⟨_,hb,by rw[hcap];omega,?_⟩;rw[e1,hm];simp[hjc2,hlen,hm2,hm3,hm4];refine Zc2 EL ZE (by simp;rfl) (by decide) (by rw[hl2];omega) ?_;simp;exact Znj hall hlim hij hj hk hm hl2 (by simp) (by simp;omega) (fun k hk=>by simp[hk]) rfl rfl)):p:=H
def BoxAt (n:Nat) (h:HS) (l:Lab) (cap:Nat) (ys:List (List C)) (sp:List C):Prop:=AllC n ys/\h.box l=some (rowBox ys sp)/\(rowBox ys sp).length=cap * n
theorem Zms {n:Nat} {x:List C} (h:x.length=n):takeN n x=some x:=by subst h;simp[takeN]
theorem Zgr {cs vs:List C} (h:cs.length<=vs.length):Z01 cs 0 vs=vs:=by simp[Z01,Y23 h]
theorem Zpr {n cap a o:Nat} {h h1:HS} {l:Lab} {xs ys:List (List C)} {ts:List (List D)} {p:List D->Bool} {sp vs:List C} {K:V->HS->Prop} (hall:AllC n xs) (hlim:xs.length<=LIM) (hya:AllC n ys) (hyk:ys.take a=keep p xs ts) (ha:a<=ys.length)
  (hl:(rowBox ys sp).length=cap * n) (hs:Same h h1 [l]) (ho:o=a * n) (hv:o+vs.length<=cap * n)
  (hk:∀ c' h',MR h' n c' (keep p xs ts)->Same h h' (labs (.mrow l 0 xs.length cap))->labs c'=labs (.mrow l 0 xs.length cap)->K (.one c') h'):K (.one (.mrow l 0 a cap)) (h1.setBox l (Z01 (rowBox ys sp) o vs)):=by
 have hyal:(ys.take a).length=a:=by simp;omega
 have hbx:rowBox ys sp=rowBox (ys.take a) ((ys.drop a).flatten++sp):=by
  simp only[rowBox,<- Y0n,<- Y2a,Y17]
 have e:=Zj1 (sp:=(ys.drop a).flatten++sp) (vs:=vs) (hya.take (k:=a));rw[hyal,<- hbx,hyk,<- ho] at e;rw[e];refine hk _ _ ⟨hall.keep,?_,.inr ⟨l,cap,_,by rw[<- hyk,hyal],Zbk.trans (if_pos rfl),?_⟩⟩ (hs.setBox (l:=l) (.inl (by simp))) rfl
 .have:=Znb (p:=p) (xs:=xs) (ts:=ts);omega
 .rw[<- e,Z0z (by omega),hl]
theorem Zg9 {q:Prop} (H:q:=by
   refine HSpec.of_vc F rfl (by kernel_rfl) (n:=42) rfl rfl (by simp) ?_;simp;refine Z00 (HSpec.of_lend hidx ⟨.one (.frz (hm.frz hl ht (hf h .refl))),.one hcf,trivial⟩ rfl ?_);simp;refine Z79 (fun he=>?_) (fun hne=>?_)
   .simp;have hall:∀ t ∈ ts,p t=false:=by
     intro t htm;cases hfi:ts.findIdx? p with
     | none=>simpa using List.findIdx?_eq_none_iff.1 hfi t htm
     | some i=>rw[hi0,hfi] at he;simp at he
    exact hk _ _ (by rw[Zfx hl hall];exact hm.frame fun _ _=>rfl) (Same.refl.next) rfl
   .obtain⟨i,hfi,rfl⟩:∃ i,ts.findIdx? p=some i/\i0=(i:Int):=by
     cases hfi:ts.findIdx? p with
     | none=>rw[hi0,hfi] at hne;simp at hne
     | some i=>rw[hfi] at hi0;exact⟨i,rfl,hi0⟩
    obtain⟨hit,hpi,hbef⟩:=List.findIdx?_eq_some_iff_getElem.1 hfi;obtain⟨l,cap,sp,rfl,hb,hcap⟩:=hm.block (by omega);have hlim:xs.length<=2097152:=hm.2.1;have hall:=hm.1;have hlen:xs.length<=cap:=by
     have h1:=Z0e (sp:=sp) hall;omega
    have hw0:IntKind.i64.wrap ((i:Int)+1)=(i:Int)+1:=Y0a _ (by omega);have hk0:keep p (xs.take (i+1)) (ts.take (i+1))=xs.take i:=by
     rw[Zdg (x:=xs[i]'(by omega)) (t:=ts[i]) (Y01 _) (Y01 _),if_pos hpi];refine Zfx (by simp;omega) (fun t htm=>?_);obtain⟨j,hj,rfl⟩:=Y1g htm;simp only[Y12] at hj;rw[List.getElem_take];simpa using hbef j (by omega)
    simp[hw0];refine Wait.rounds (fun n e h'=>∃ (a j:Nat) (ys:List (List C)),n=xs.length - j/\a < j/\j<=xs.length/\ys.length=xs.length/\ys.take a=keep p (xs.take j) (ts.take j)/\ys.drop j=xs.drop j /\
     e.n=42/\e.get 0=.one (.mrow l 0 xs.length cap)/\e.get 1=.one (.fn g caps)/\e.get 5=.one (.d (.int .i64 (a:Int)))/\e.get 6=.one (.d (.int .i64 (j:Int)))/\Same h h' [l]/\∃ sp',B h' l cap ys sp') (xs.length - (i+1))
     ⟨i,i+1,xs,rfl,by omega,by omega,rfl,by rw[hk0],rfl,by simp,by simp,by simp,by simp,by simp,Same.refl.next,sp,by rw[hB];exact⟨hall,hb,hcap⟩⟩ ?_
    rintro n e h' ⟨a,j,ys,rfl,haj,hj,hyl,hyk,hyd,hn,h0,h1,h5,h6,hs,sp',hbb⟩;rw[hB] at hbb;obtain⟨hya,hb',hl'⟩:=hbb;simp[h0,h1,h5,h6,hn];refine Z4d (fun hlt=>?_) (fun hge=>?_)
    .have hwj:IntKind.i64.wrap ((j:Int)+1)=(j:Int)+1:=Y0a _ (by omega);have hwa:IntKind.i64.wrap ((a:Int)+1)=(a:Int)+1:=Y0a _ (by omega);have hjt:j < ts.length:=by omega
     obtain⟨x,hxj⟩:∃ x,xs[j]? = some x:=⟨_,Y01 hlt⟩;have hxl:=hall.get hxj;have hT:=Zms hxl;have hsc:∀ z:List C,z.length<=x.length->Z01 z 0 x=x:=fun _=>Zgr;have hxn:x≠[]:=by rintro rfl;simp at hxl
     obtain⟨tj,htj⟩:∃ t,ts[j]? = some t:=⟨_,Y01 hjt⟩;have hyj:ys[j]? = some x:=by
      have h1:(ys.drop j)[0]? = (xs.drop j)[0]?:=by rw[hyd]
      simpa[hxj] using h1
     have hrd:=Zfn (sp:=sp') hya hyj;have hkt:=Zdg (p:=p) hxj htj;have hne':l≠(h'.ep,112):=by
      have h1:=hlab l (by simp[labs]);have h2:=hs.1;rintro rfl;simp at h1;omega
     simp[h0,h1,h5,h6,hn,hlt,hb',hrd,hT,hxn,hxl,hsc];have hs2:∀ z,Same h ((h'.setBox (h'.ep,112) z).next.setBox (h'.ep,112) x) [l]:=fun z=>Same.setBox (Same.setBox hs (.inr hs.1)).next (.inr hs.1);refine Z00 (HSpec.of_lend (hp tj (Y03 htj)) ⟨.agg (hf _ (hs2 _) j _ _ hxj htj),hcv _ (hs2 _)⟩ rfl ?_);simp[h0,h1,h5,h6,hn];cases hpt:p tj with
     | true=>
       rw[hpt,if_pos rfl] at hkt;simp[h0,h1,h5,h6,hn,hwj];refine Back.of (n':=xs.length - (j+1)) (by omega) ⟨a,j+1,ys,rfl,by omega,by omega,hyl,by rw[hkt,hyk],by rw[<- Y1p,hyd,Y1p],by simp[hn],by simp[h0],by simp[h1],by simp[h5],by simp,(hs2 _).next,sp',by rw[hB];exact⟨hya,by simp[hne',hb'],hl'⟩⟩
     | false=>
       rw[hpt] at hkt;simp only[Y1k,if_false] at hkt;have haj2:a < xs.length:=by omega
       have hst:=Z9a (sp:=sp') (k:=a) (f:=0) (vs:=x) (x:=ys[a]'(by omega)) hya (Y01 _) (by omega);have hlen2:=Z84 (sp:=sp') (k:=a) hya (by omega);have hxa:=hya.get (k:=a) (Y01 (by omega));rw[hsc _ (by omega)] at hst;simp only[Y1q] at hst;simp[h0,h1,h5,h6,hn,hwj,haj2,hne',hb',hwa,hxl,hT,hxn,hsc]
       try refine⟨hlen2,?_⟩
       refine Back.of (n':=xs.length - (j+1)) (by omega) ⟨a+1,j+1,ys.set a x,rfl,by omega,by omega,by simpa using hyl,?_,?_,by simp[hn],by simp[h0],by simp[h1],by simp,by simp,((hs2 _).next).setBox (.inl (by simp)),sp',?_⟩
       .rw[hkt,<- hyk,Zfj (by omega)]
       .rw[List.drop_set_of_lt (by omega),<- Y1p,hyd,Y1p]
       .rw[hB];exact⟨hya.set hxl,by simp[hst],by rw[Z0e (hya.set hxl),Y2b,<- Z0e (sp:=sp') hya,hl']⟩
    .obtain rfl:j=xs.length:=by omega
     have hyk2:ys.take a=keep p xs ts:=by
      rw[hyk,Y0l (Y09 _),Y0l (by omega)]
     have hac:a < cap:=by omega
     have hale:a<=xs.length:=by omega
     simp[h0,h1,h5,h6,hn];refine Z1f ⟨hale,hlen⟩ (fun _=>?_) (fun h=>absurd hac h);simp[h0,h1,h5,h6,hn];refine Zc2 EL ZE hb' (by decide) (by rw[hl'];omega) ?_;simp[h0,h1,h5,h6,hn,hlen,hac];refine Z1f (by omega) (fun _=>?_) (fun h=>absurd (by omega) h);simp[hn];exact Zpr hall hlim hya hyk2 (by omega) hl' hs (by simp) (by simp;omega) hk):q:=H
theorem Z3c (h:HS) (c:C) (xs:List (List C)) (hr:RowAt h 1 c xs) (K:V->HS->Prop)
  (hk:∀ c' h',MR h' 1 c' xs->Same h h' []->(∀ l ∈ labs c',h.ep<=l.1/\l.1 < h'.ep)->BoxLe h h'->K (.one c') h') :
  HSpec prog 86 [.one c] h K:=by
 have F:=Tryz.func86;have EL:=@Z96;exact Z9o
theorem Z9i (h:HS) (c:C) (xs:List (List C)) (hr:RowAt h 3 c xs) (K:V->HS->Prop)
  (hk:∀ c' h',MR h' 3 c' xs->Same h h' []->(∀ l ∈ labs c',h.ep<=l.1/\l.1 < h'.ep)->BoxLe h h'->K (.one c') h') :
  HSpec prog 109 [.one c] h K:=by
 have F:=Tryz.func109;have EL:=@Z97;exact Z9o
theorem Z87 (h:HS) (c:C) (xs:List (List C)) (hr:RowAt h 7 c xs) (K:V->HS->Prop)
  (hk:∀ c' h',MR h' 7 c' xs->Same h h' []->(∀ l ∈ labs c',h.ep<=l.1/\l.1 < h'.ep)->BoxLe h h'->K (.one c') h') :
  HSpec prog 84 [.one c] h K:=by
 have F:=Tryz.func84;have EL:=@Zac;exact Z9o
theorem Z6s (h:HS) (c:C) (xs:List (List C)) (ts:List (List D)) (g:FuncId) (caps:List Cap) (dss:List (List D)) (p:List D->Bool) (i0:Int) (hm:MR h 7 c xs) (hlab:∀ k ∈ labs c,k.1 < h.ep) (hl:xs.length=ts.length)
  (ht:∀ t ∈ ts,t.length=7) (hf:∀ h',Same h h' (labs c)->∀ (i:Nat) (x:List C) (t:List D),xs[i]? = some x->ts[i]? = some t->FrzCs h' x t)
  (hcv:∀ h',Same h h' (labs c)->LendVs h' (caps.map capV) (capsOf dss)) (hcf:LendC h (.fn g caps) (.fn g dss))
  (hp:∀ t ∈ ts,PSpec prog g (.agg t::capsOf dss) (.one (.d (.bool (p t)))))
  (hidx:PSpec prog 228 [.one (.d (.sl ts)),.one (.fn g dss)] (.one (.d (.int .i64 i0)))) (hi0:i0=match ts.findIdx? p with | some i=>(i:Int) | none=>-1) (K:V->HS->Prop)
  (hk:∀ c' h',MR h' 7 c' (keep p xs ts)->Same h h' (labs c)->labs c'=labs c->K (.one c') h') :
  HSpec prog 209 [.one c,.one (.fn g caps)] h K:=by
 have F:=Tryz.func209;have EL:=@Zac;have ZE:=@Zfc;obtain⟨B,hB⟩:∃ B,B=BoxAt 7:=⟨_,rfl⟩;exact Zg9
theorem Z6r (h:HS) (c:C) (xs:List (List C)) (ts:List (List D)) (g:FuncId) (caps:List Cap) (dss:List (List D)) (p:List D->Bool) (i0:Int) (hm:MR h 3 c xs) (hlab:∀ k ∈ labs c,k.1 < h.ep) (hl:xs.length=ts.length)
  (ht:∀ t ∈ ts,t.length=3) (hf:∀ h',Same h h' (labs c)->∀ (i:Nat) (x:List C) (t:List D),xs[i]? = some x->ts[i]? = some t->FrzCs h' x t)
  (hcv:∀ h',Same h h' (labs c)->LendVs h' (caps.map capV) (capsOf dss)) (hcf:LendC h (.fn g caps) (.fn g dss))
  (hp:∀ t ∈ ts,PSpec prog g (.agg t::capsOf dss) (.one (.d (.bool (p t)))))
  (hidx:PSpec prog 97 [.one (.d (.sl ts)),.one (.fn g dss)] (.one (.d (.int .i64 i0)))) (hi0:i0=match ts.findIdx? p with | some i=>(i:Int) | none=>-1) (K:V->HS->Prop)
  (hk:∀ c' h',MR h' 3 c' (keep p xs ts)->Same h h' (labs c)->labs c'=labs c->K (.one c') h') :
  HSpec prog 207 [.one c,.one (.fn g caps)] h K:=by
 have F:=Tryz.func207;have EL:=@Zd5;have ZE:=@Zfb;obtain⟨B,hB⟩:∃ B,B=BoxAt 3:=⟨_,rfl⟩;exact Zg9
theorem Z86 (h:HS) (c:C) (xs:List (List C)) (ts:List (List D)) (g:FuncId) (caps:List Cap) (dss:List (List D)) (p:List D->Bool) (i0:Int) (hm:MR h 3 c xs) (hlab:∀ k ∈ labs c,k.1 < h.ep) (hl:xs.length=ts.length)
  (ht:∀ t ∈ ts,t.length=3) (hf:∀ h',Same h h' (labs c)->∀ (i:Nat) (x:List C) (t:List D),xs[i]? = some x->ts[i]? = some t->FrzCs h' x t)
  (hcv:∀ h',Same h h' (labs c)->LendVs h' (caps.map capV) (capsOf dss)) (hcf:LendC h (.fn g caps) (.fn g dss))
  (hp:∀ t ∈ ts,PSpec prog g (.agg t::capsOf dss) (.one (.d (.bool (p t)))))
  (hidx:PSpec prog 73 [.one (.d (.sl ts)),.one (.fn g dss)] (.one (.d (.int .i64 i0)))) (hi0:i0=match ts.findIdx? p with | some i=>(i:Int) | none=>-1) (K:V->HS->Prop)
  (hk:∀ c' h',MR h' 3 c' (keep p xs ts)->Same h h' (labs c)->labs c'=labs c->K (.one c') h') :
  HSpec prog 205 [.one c,.one (.fn g caps)] h K:=by
 have F:=Tryz.func205;have EL:=@Zd6;have ZE:=@Zfd;obtain⟨B,hB⟩:∃ B,B=BoxAt 3:=⟨_,rfl⟩;exact Zg9
theorem Z7u (h:HS) (c:C) (xs:List (List C)) (i j:Nat) (hm:MR h 7 c xs) (hij:i<=j) (hj:j<=xs.length) (K:V->HS->Prop)
  (hk:∀ c' h',MR h' 7 c' (xs.take i++xs.drop j)->(∀ l,l ∉ labs c->h'.box l=h.box l)->h'.ep=h.ep->h'.arr=h.arr->labs c'=labs c->K (.one c') h') :
  HSpec prog 157 [.one c,.one (.d (.int .i64 i)),.one (.d (.int .i64 j))] h K:=by
 have F:=Tryz.func157;have EL:=@Zac;have ZE:=@Zfc;exact Zdu
theorem Z5k (h:HS) (c:C) (xs:List (List C)) (i j:Nat) (hm:MR h 3 c xs) (hij:i<=j) (hj:j<=xs.length) (K:V->HS->Prop)
  (hk:∀ c' h',MR h' 3 c' (xs.take i++xs.drop j)->(∀ l,l ∉ labs c->h'.box l=h.box l)->h'.ep=h.ep->h'.arr=h.arr->labs c'=labs c->K (.one c') h') :
  HSpec prog 159 [.one c,.one (.d (.int .i64 i)),.one (.d (.int .i64 j))] h K:=by
 have F:=Tryz.func159;have EL:=@Zd5;have ZE:=@Zfb;exact Zdu
theorem Z6q (h:HS) (c:C) (xs:List (List C)) (i j:Nat) (hm:MR h 3 c xs) (hij:i<=j) (hj:j<=xs.length) (K:V->HS->Prop)
  (hk:∀ c' h',MR h' 3 c' (xs.take i++xs.drop j)->(∀ l,l ∉ labs c->h'.box l=h.box l)->h'.ep=h.ep->h'.arr=h.arr->labs c'=labs c->K (.one c') h') :
  HSpec prog 161 [.one c,.one (.d (.int .i64 i)),.one (.d (.int .i64 j))] h K:=by
 have F:=Tryz.func161;have EL:=@Zd6;have ZE:=@Zfd;exact Zdu
def innerS {α:Type} (lt:α->α->Bool):Nat->List α->List α
 | 0,ws=>ws
 | j+1,ws=>match ws[j+1]?,ws[j]? with
   | some x,some y=>if lt x y then innerS lt j ((ws.set (j+1) y).set j x) else ws
   | _,_=>ws
def outerS {α:Type} (lt:α->α->Bool):Nat->Nat->List α->List α
 | 0,_,ws=>ws
 | k+1,i,ws=>outerS lt k (i+1) (innerS lt i ws)
theorem Zd9 {α:Type}:∀ {us:List α} {j:Nat} {x y:α},us[j+1]? = some x->us[j]? = some y->((us.set (j+1) y).set j x).Perm us
 | [],_,_,_,h,_=>by simp at h
 | [_],j,_,_,h,_=>by simp at h
 | a::b::us,0,x,y,h,h2=>by
   simp at h h2;subst h h2;simp[List.set];exact .swap _ _ _
 | a::us,j+1,x,y,h,h2=>by
   simp only[List.set_cons_succ];exact .cons _ (Zd9 (by simpa using h) (by simpa using h2))
theorem Zdj {α:Type} (lt:α->α->Bool):∀ (j:Nat) (ws:List α),(innerS lt j ws).Perm ws
 | 0,ws=>.refl _
 | j+1,ws=>by
   unfold innerS;split
   .rename_i x y hx hy;split
    .refine (Zdj lt j _).trans ?_;exact Zd9 hx hy
    .exact .refl _
   .exact .refl _
theorem Zen {n k:Nat} {xs:List (List C)} {sp v:List C} (h:AllC n xs) (hk:k < xs.length) (hv:v.length=n):Z01 (rowBox xs sp) (k * n) v=rowBox (xs.set k v) sp:=by
 have h1:=Z9a (sp:=sp) (f:=0) (vs:=v) h (Y01 hk) (by omega);have h2:=h.get (Y01 hk);have h3:Z01 xs[k] 0 v=v:=by
  rw[Z01];simp[h2,hv]
 rw[h3] at h1;simpa using h1
def cmpLt (cmp:List D->List D->Int) (x y:List C × List D):Bool:=decide (cmp x.2 y.2 < 0)
theorem Z9j (h:HS) (c:C) (qs:List (List C × List D)) (g:FuncId) (caps:List Cap) (dss:List (List D)) (cmp:List D->List D->Int) (hm:MR h 3 c (qs.map (·.1))) (hlab:∀ k ∈ labs c,k.1 < h.ep)
  (hf:∀ h',Same h h' (labs c)->∀ q ∈ qs,FrzCs h' q.1 q.2) (hcv:∀ h',Same h h' (labs c)->LendVs h' (caps.map capV) (capsOf dss))
  (hp:∀ q ∈ qs,∀ q' ∈ qs,PSpec prog g (.agg q.2::.agg q'.2::capsOf dss) (.one (.d (.int .i64 (cmp q.2 q'.2))))) (K:V->HS->Prop)
  (hk:∀ h',MR h' 3 c ((outerS (cmpLt cmp) (qs.length - 1) 1 qs).map (·.1))->Same h h' (labs c)->K (.tup []) h') :
  HSpec prog 236 [.one c,.one (.d (.int .i64 0)),.one (.d (.int .i64 (qs.length:Int))),.one (.fn g caps)] h K:=by
 refine HSpec.of_vc Tryz.func236 rfl (by kernel_rfl) (n:=53) rfl rfl (by simp) ?_;simp;have hlim:qs.length<=2097152:=by simpa using hm.2.1
 refine Wait.rounds (fun n e h'=>∃ (i:Nat) (ws:List (List C × List D)),n=qs.length - i/\1<=i/\ws.Perm qs/\outerS (cmpLt cmp) (qs.length - i) i ws=outerS (cmpLt cmp) (qs.length - 1) 1 qs /\
  e.n=53/\e.get 0=.one c/\e.get 1=.one (.d (.int .i64 0))/\e.get 2=.one (.d (.int .i64 (qs.length:Int)))/\e.get 3=.one (.fn g caps)/\e.get 8=.one (.d (.int .i64 (i:Int)))/\Same h h' (labs c)/\MR h' 3 c (ws.map (·.1))) (qs.length - 1)
  ⟨1,qs,rfl,by omega,.refl _,rfl,by simp,by simp,by simp,by simp,by simp,by simp;exact (Y0a _ (by omega)),Same.refl,hm⟩ ?_
 rintro n e h' ⟨i,ws,rfl,hi1,hperm,hout,hn,h0,h1,h2,h3,h8,hs,hm'⟩;simp[h0,h1,h2,h3,h8,hn];refine Z4d (fun hlt=>?_) (fun hge=>?_)
 .simp[h0,h1,h2,h3,h8,hn];refine Wait.rounds (fun n e h'=>∃ (j:Nat) (us:List (List C × List D)),n=j/\j<=i/\us.Perm qs/\innerS (cmpLt cmp) j us=innerS (cmpLt cmp) i ws /\
   e.n=53/\e.get 0=.one c/\e.get 1=.one (.d (.int .i64 0))/\e.get 2=.one (.d (.int .i64 (qs.length:Int)))/\e.get 3=.one (.fn g caps)/\e.get 8=.one (.d (.int .i64 (i:Int)))/\e.get 9=.one (.d (.int .i64 (j:Int)))/\Same h h' (labs c)/\MR h' 3 c (us.map (·.1))) i
   ⟨i,ws,rfl,by omega,hperm,rfl,by simp[hn],by simp[h0],by simp[h1],by simp[h2],by simp[h3],by simp[h8],by simp,hs,hm'⟩ ?_
  clear h0 h1 h2 h3 h8 hn hm' hs;rintro j e h' ⟨_,us,rfl,hji,hpu,hin,hn,h0,h1,h2,h3,h8,h9,hs,hm'⟩;have hD:Same h (h'.next) (labs c):=hs.next;cases j with
  | zero=>
    refine Wait.cut (Plan.then_ [0,1,2,3,4,5,6,7,8,9,10,11,12,13,14,15,16] .done) follows (by kernel_rfl) (fun e1 h1'=>h1'=h'/\e1.n=53/\e1.get 0=.one c/\e1.get 1=.one (.d (.int .i64 0))/\e1.get 2=.one (.d (.int .i64 (qs.length:Int)))/\e1.get 3=.one (.fn g caps)/\e1.get 8=.one (.d (.int .i64 (i:Int)))/\e1.get 34=.one (.d (.bool false))) ?_ ?_
    .simp[*];exact⟨fun _ x y=>y,CutK.of (by simp[*])⟩
    .rintro e1 h1' ⟨rfl,hn1,h01,h11,h21,h31,h81,h34⟩;simp[*];refine Back.of (n':=qs.length - (i+1)) (by omega) ⟨i+1,us,rfl,by omega,hpu,?_,by simp[hn1],by simp[h01],by simp[h11],by simp[h21],by simp[h31],?_,hs,hm'⟩
     .rw[<- hout];have e1:qs.length - i=(qs.length - (i+1))+1:=by omega
      rw[e1,outerS,<- hin,innerS]
     .have:=Y0a ((i:Int)+1) (by omega)
      simp[this]
  | succ j=>
    have hul:us.length=qs.length:=hpu.length_eq;have hml:=hm'.2.1;have hall:=hm'.1;obtain⟨l,cap,sp,hc,hb,hcap⟩:=hm'.block (by simp;omega);simp only[Y0z,hul] at hc;subst hc;have hx1:us[j+1]? = some us[j+1]:=Y01 (by omega);have hx0:us[j]? = some us[j]:=Y01 (by omega);generalize us[j+1]=q1 at hx1;generalize us[j]=q0 at hx0;have hq1:q1 ∈ qs:=hpu.mem_iff.1 (Y03 hx1);have hq0:q0 ∈ qs:=hpu.mem_iff.1 (Y03 hx0);obtain⟨k1,t1⟩:=q1;obtain⟨k0,t0⟩:=q0;have hy1:(us.map (·.1))[j+1]? = some k1:=by simp[hx1]
    have hy0:(us.map (·.1))[j]? = some k0:=by simp[hx0]
    have hl1:=hall.get hy1;have hl0:=hall.get hy0;have hr1:=Zfn (sp:=sp) hall hy1;have hr0:=Zfn (sp:=sp) hall hy0;have hwj:IntKind.i64.wrap (j:Int)=(j:Int):=Y0a _ (by omega);have hj1:j+1 < qs.length:=by omega
    have hj0:j < qs.length:=by omega
    have hz:(0:Int)<=(j:Int)+1:=by omega
    refine Wait.cut (Plan.then_ [0,1,2,3,4,5,6,7,8,9,10,11,12,13,14,15,16] .done) follows (by kernel_rfl) (fun e1 h1'=>Same h h1' [l]/\h1'.box l=h'.box l/\e1.n=53/\e1.get 0=.one (.mrow l 0 qs.length cap)/\e1.get 1=.one (.d (.int .i64 0))/\e1.get 2=.one (.d (.int .i64 (qs.length:Int)))/\e1.get 3=.one (.fn g caps)/\e1.get 8=.one (.d (.int .i64 (i:Int)))/\e1.get 9=.one (.d (.int .i64 ((j+1:Nat):Int)))/\e1.get 34=.one (.d (.bool (decide (cmp t1 t0 < 0))))) ?_ ?_
    .simp[h0,h1,h2,h3,h8,h9,hn,hz,hj1,hj0,hwj,hb,hr1,hr0];refine Z00 (HSpec.of_lend (hp _ hq1 _ hq0) ⟨.agg (hf _ hs _ hq1),.agg (hf _ hs _ hq0),hcv _ hs⟩ rfl ?_);simp[h0,h1,h2,h3,h8,h9,hn,hz,hj1,hj0,hwj,hb,hr1,hr0];have hsn:Same h h'.next [l]:=hs.next;exact⟨fun _ _ x=>x,CutK.of (by simp[h0,h1,h2,h3,h8,h9,hn,hsn])⟩
    .rintro e1 h1' ⟨hs1,hb1,hn1,h01,h11,h21,h31,h81,h91,h34⟩;rw[hb] at hb1;simp[h01,h11,h21,h31,h81,h91,h34,hn1];have hst1:cmp t1 t0 < 0->innerS (cmpLt cmp) j ((us.set (j+1) (k0,t0)).set j (k1,t1))=innerS (cmpLt cmp) i ws:=fun hx=>by rw[<- hin];simp[innerS,hx1,hx0,cmpLt,hx]
     have hst2:¬ cmp t1 t0 < 0->us=innerS (cmpLt cmp) i ws:=fun hx=>by rw[<- hin];simp[innerS,hx1,hx0,cmpLt,hx]
     refine Z4d (fun hlt2=>?_) (fun hge2=>?_)
     .simp[hn1];refine Wait.cut (Plan.then_ [0,1,2,3,4,5,6,7,8,9,10,11,12,13,14,15,16,17] .done) follows (by kernel_rfl) (fun e2 h2'=>Same h h2' [l]/\e2.n=53/\e2.get 0=.one (.mrow l 0 qs.length cap)/\e2.get 1=.one (.d (.int .i64 0))/\e2.get 2=.one (.d (.int .i64 (qs.length:Int)))/\e2.get 3=.one (.fn g caps)/\e2.get 8=.one (.d (.int .i64 (i:Int)))/\e2.get 9=.one (.d (.int .i64 ((j+1:Nat):Int)))/\h2'.box l=some (rowBox (((us.set (j+1) (k0,t0)).set j (k1,t1)).map (·.1)) sp)) ?_ ?_
      .simp[h01,h11,h21,h31,h81,h91,h34,hn1,hz,hj1,hj0,hwj,hb1,hr1,hr0];rw[Zen hall (by simp;omega) hl0,Zen (hall.set hl0) (by simp;omega) hl1];refine⟨⟨hl0,Z84 hall (by simp;omega)⟩,⟨hl1,Z84 (hall.set hl0) (by simp;omega)⟩,CutK.of ?_⟩;simp[h01,h11,h21,h31,h81,h91,hn1];exact (hs1.setBox (.inl (by simp))).setBox (.inl (by simp))
      .rintro e2 h2' ⟨hs2,hn2,h02,h12,h22,h32,h82,h92,hb2⟩;simp[h02,h12,h22,h32,h82,h92,hn2,hwj];have hpm:((us.set (j+1) (k0,t0)).set j (k1,t1)).Perm us:=Zd9 hx1 hx0;have hfin:=hpm.trans hpu;refine Back.of (n':=j) (by omega) ⟨j,_,rfl,by omega,hfin,hst1 hlt2,by simp[hn2],by simp[h02],by simp[h12],by simp[h22],by simp[h32],by simp[h82],by simp,hs2,?_⟩;have e1:((us.set (j+1) (k0,t0)).set j (k1,t1)).map (·.1)=((us.map (·.1)).set (j+1) k0).set j k1:=by simp[Y11]
       refine⟨by rw[e1];exact (hall.set hl0).set hl1,by simpa using hml,.inr ⟨l,cap,sp,by simp[hul],hb2,?_⟩⟩;rw[e1,Z0e ((hall.set hl0).set hl1),Y2b,Y2b,<- Z0e (sp:=sp) hall,hcap]
     .have hst3:=hst2 hge2;simp[h01,h11,h21,h31,h81,h91,h34,hn1];refine Back.of (n':=qs.length - (i+1)) (by omega) ⟨i+1,us,rfl,by omega,hpu,?_,by simp[hn1],by simp[h01],by simp[h11],by simp[h21],by simp[h31],?_,hs1,hm'.frame (by intro k hk;simp[labs] at hk;subst hk;rw[hb1,hb])⟩
      .rw[<- hout];have e1:qs.length - i=(qs.length - (i+1))+1:=by omega
       rw[e1,outerS,<- hst3]
      .have:=Y0a ((i:Int)+1) (by omega)
       simp[this]
 .simp[hn]
  have:qs.length - i=0:=by omega
  rw[this] at hout;simp only[outerS] at hout;exact hk _ (by rw[<- hout];exact hm') hs
def sortS (cmp:List D->List D->Int) (qs:List (List C × List D)):List (List C × List D):=outerS (cmpLt cmp) (qs.length - 1) 1 qs
theorem Z9e (h:HS) (c:C) (qs:List (List C × List D)) (g:FuncId) (caps:List Cap) (dss:List (List D)) (cmp:List D->List D->Int) (hm:MR h 3 c (qs.map (·.1))) (hlab:∀ k ∈ labs c,k.1 < h.ep) (hq:qs.length < 20)
  (hf:∀ h',Same h h' (labs c)->∀ q ∈ qs,FrzCs h' q.1 q.2) (hcv:∀ h',Same h h' (labs c)->LendVs h' (caps.map capV) (capsOf dss))
  (hp:∀ q ∈ qs,∀ q' ∈ qs,PSpec prog g (.agg q.2::.agg q'.2::capsOf dss) (.one (.d (.int .i64 (cmp q.2 q'.2))))) (K:V->HS->Prop)
  (hk:∀ h',MR h' 3 c ((sortS cmp qs).map (·.1))->Same h h' (labs c)->K (.tup []) h') :
  HSpec prog 227 [.one c,.one (.d (.int .i64 (qs.length:Int))),.one (.fn g caps)] h K:=by
 refine HSpec.of_vc Tryz.func227 rfl (by kernel_rfl) (n:=63) rfl rfl (by simp) ?_;simp;refine Wait.rounds (fun n e h'=>h'=h/\e.n=63/\e.get 0=.one c/\e.get 1=.one (.d (.int .i64 (qs.length:Int)))/\e.get 2=.one (.fn g caps)/\e.get 6=.one (.d (.int .i64 20))/\e.get 7=.one (.d (.int .i64 0))/\e.get 8=.one (.d (.int .i64 20))) 0
  ⟨rfl,by simp,by simp,by simp,by simp,by simp,by simp,by simp⟩ ?_
 rintro n e h' ⟨rfl,hn,h0,h1,h2,h6,h7,h8⟩;simp[h0,h1,h2,h6,h7,h8,hn];refine Z4d (fun hlt=>absurd hlt (by omega)) (fun hge=>?_);simp[h0,h1,h2,h6,h7,h8,hn];refine Z00 (Z9j h' c qs g caps dss cmp hm hlab hf hcv hp _ (fun h1' hm' hs'=>?_));simp[h0,h1,h2,h6,h7,h8,hn];refine Wait.rounds (fun n e h2'=>h2'=h1'/\e.n=63/\e.get 1=.one (.d (.int .i64 (qs.length:Int)))/\e.get 6=.one (.d (.int .i64 20))) 0
  ⟨rfl,by simp[hn],by simp[h1],by simp[h6]⟩ ?_
 clear hn h0 h1 h2 h6 h7 h8;rintro n e h2' ⟨rfl,hn,h1,h6⟩;simp[h1,h6,hn];refine Z4d (fun hlt=>absurd hlt (by omega)) (fun hge=>?_);simp[h1,h6,hn];exact hk _ hm' hs'
theorem Z91 (h:HS) (c:C) (qs:List (List C × List D)) (g:FuncId) (caps:List Cap) (dss:List (List D)) (cmp:List D->List D->Int) (hm:MR h 3 c (qs.map (·.1))) (hlab:∀ k ∈ labs c,k.1 < h.ep) (hq:qs.length < 20)
  (hf:∀ h',Same h h' (labs c)->∀ q ∈ qs,FrzCs h' q.1 q.2) (hcv:∀ h',Same h h' (labs c)->LendVs h' (caps.map capV) (capsOf dss))
  (hp:∀ q ∈ qs,∀ q' ∈ qs,PSpec prog g (.agg q.2::.agg q'.2::capsOf dss) (.one (.d (.int .i64 (cmp q.2 q'.2))))) (K:V->HS->Prop)
  (hk:∀ h',MR h' 3 c ((sortS cmp qs).map (·.1))->Same h h' (labs c)->K (.tup []) h') :
  HSpec prog 200 [.one c,.one (.fn g caps)] h K:=by
 refine HSpec.of_vc Tryz.func200 rfl (by kernel_rfl) (n:=9) rfl rfl (by simp) ?_;simp;have key:∀ (n:Int) (K1:V->HS->Prop),n=(qs.length:Int)->(∀ h',MR h' 3 c ((sortS cmp qs).map (·.1))->Same h h' (labs c)->K1 (.tup []) h')->HSpec prog 227 [.one c,.one (.d (.int .i64 n)),.one (.fn g caps)] h K1:=
  fun n K1 hn hk1=>by subst hn;exact Z9e h c qs g caps dss cmp hm hlab hq hf hcv hp K1 hk1
 rcases hm.2.2 with ⟨h1,rfl | rfl⟩ | ⟨l,cap,sp,rfl,_,_⟩
 .have h2:qs.length=0:=by simpa using congrArg List.length h1
  simp;refine Z00 (key _ _ (by omega) (fun h' hm' hs'=>?_));simp;exact hk _ hm' hs'
 .have h2:qs.length=0:=by simpa using congrArg List.length h1
  simp;refine Z00 (key _ _ (by omega) (fun h' hm' hs'=>?_));simp;exact hk _ hm' hs'
 .simp only[Y0z] at key hm hk |-;simp;refine Z00 (key _ _ rfl (fun h' hm' hs'=>?_));simp;exact hk _ hm' hs'
def TblSh:List Sh:=[.d,.r [.d,.d,.d],.r [.d]]
def FkSh:List Sh:=[.d,.r [.d],.d]
theorem Ow.rowD {h:HS} {n:Nat} {c:C} {ts:List (List D)} {es ss:List Sh} {cs:List C} {ds:List D} {ls:List Lab} (hm:MR h n c (ts.map (·.map C.d))) (hes:es=List.replicate n .d) (ht:∀ t ∈ ts,t.length=n) (hr:Ow h ss cs ds ls):Ow h (.r es::ss) (c::cs) (.sl ts::ds) (labs c++ls):=by
 subst hes
 have:=Ow.row (es:=List.replicate n .d) (c:=c) (qs:=ts.map fun t=>(t.map C.d,t,[])) (by simpa[Function.comp_def] using hm) (fun q hq=>by
  obtain⟨t,h1,rfl⟩:=Y0m.1 hq
  have:=Ow.datas (h:=h) (ds:=t)
  simp only[List.map_const',ht t h1] at this;exact this) hr
 have e:∀ us:List (List D),us.flatMap (fun _=>([]:List Lab))=[]:=fun us=>by induction us<;>simp_all
 simpa[Function.comp_def,List.flatMap_map,e] using this
theorem Z1t {c:C}:(labs c).Nodup:=by cases c<;>simp[labs]
def NewOw (h:HS) (sh:List Sh) (ds:List D) (K:V->HS->Prop):Prop:=∀ cs' h' ls',Ow h' sh cs' ds ls'->ls'.Nodup->(∀ k ∈ ls',h.ep<=k.1/\k.1 < h'.ep)->Same h h' []->BoxLe h h'->K (.agg cs') h'
theorem Z61 (h:HS) (cs:List C) (T:Tbl) (hf:∀ h',Same h h' []->FrzCs h' cs T.enc) (hl:T.cols.length<=LIM/\T.pk.length<=LIM) (K:V->HS->Prop)
  (hk:NewOw h TblSh T.enc K) :
  HSpec prog 85 [.agg cs] h K:=by
 refine HSpec.good Tryz.func85 rfl (by kernel_rfl) fun hg=>?_;refine HSpec.of_vc Tryz.func85 rfl (by kernel_rfl) (n:=12) rfl rfl (by simp) ?_;have hf0:=hf h .refl
 match cs,hf0 with
 | [c0,c1,c2],hf0=>
 obtain rfl:=hf0.1.flat rfl;simp;refine Wait.cut (Plan.then_ [0,1,2,3,5,6,4,7,8,9] .done) follows (by kernel_rfl) (fun e h'=>∃ cs' ls',e.n=12/\e.get 2=.one (.ptr (h.ep+1,32) 0)/\h'.box (h.ep+1,32)=some cs'/\Ow h' TblSh cs' T.enc ls'/\ls'.Nodup/\(∀ k ∈ ls',h.ep<=k.1/\k.1 < h'.ep)/\Same h h' []) ?_ ?_
 .simp;have hs1:Same h ((h.setBox (h.ep,16) [.d (.str T.name),c1,c2]).next.setBox (h.ep+1,32) [C.d (D.str empty),C.nil,C.nil]).next []:=((Same.refl.setBox (.inr (by simp))).next.setBox (.inr (by simp))).next;have hr1:=(hf _ hs1).2.1.rowAt (n:=3) (by simp[D.flat]) (by simpa using hl.1);refine Z00 (Z9i _ _ _ hr1 _ (fun cc h1 hm1 hs2 hl1 hb1=>?_));simp;refine⟨hb1,?_⟩;have hs3:=hs1.trans hs2;have hr2:=(hf _ hs3).2.2.1.rowAt (n:=1) (by simp[D.flat]) (by simpa using hl.2);refine Z00 (Z3c _ _ _ hr2 _ (fun pc h2 hm2 hs4 hl2 hb2=>?_));have hb0:h1.box (h.ep+1,32)=some [C.d (D.str empty),C.nil,C.nil]:=hb1 _ _ (by simp);have hb3:=hb2 _ _ hb0;simp[hb3];refine⟨hb2,CutK.of ?_⟩;simp at hl1;have hc1:∀ k ∈ labs cc,(h2.setBox (h.ep+1,32) [C.d (D.str T.name),cc,pc]).box k=h1.box k:=fun k hk'=>by
   have h3:=hl1 k.1 k.2 hk';have h4:k≠(h.ep+1,32):=by rintro rfl;simp at h3;omega
   simp[h4,hs4.2 k h3.2 (by simp)]
  have hc2:∀ k ∈ labs pc,(h2.setBox (h.ep+1,32) [C.d (D.str T.name),cc,pc]).box k=h2.box k:=fun k hk'=>by
   have h3:=hl2 k hk';have h5:=hs2.1;simp at h5;have h4:k≠(h.ep+1,32):=by rintro rfl;simp at h3;omega
   simp[h4]
  have ho:=Ow.data (h:=h2.setBox (h.ep+1,32) [C.d (D.str T.name),cc,pc]) (c:=.d (.str T.name)) rfl (Ow.rowD (es:=[.d,.d,.d]) (hm1.frame hc1) rfl (by simp) (Ow.rowD (es:=[.d]) (hm2.frame hc2) rfl (by simp) .nil));refine⟨_,_,by simp,by simp,by simp,ho,?_,?_,(hs3.trans hs4).setBox (.inr (by simp))⟩
  .rw[Y0k,Y0e];refine⟨Z1t,Z1t,fun x hx y hy=>?_⟩;rintro rfl;have h3:=hl1 x.1 x.2 hx;have h4:=hl2 x hy;omega
  .have h5:=hs2.1;have h6:=hs4.1;simp at h5;intro k hk';rw[Y0k,Y02] at hk';rcases hk' with hk' | hk'
   .have:=hl1 k.1 k.2 hk'
    simp;omega
   .have:=hl2 k hk'
    simp;omega
 .rintro e h' ⟨cs',ls',hn,h2,hb,ho,hd,hlt,hs⟩;obtain⟨a,b,d,rfl⟩:∃ a b d,cs'=[a,b,d]:=by
   have:=ho.len.1
   match cs',this with
   | [a,b,d],_=>exact⟨a,b,d,rfl⟩
  simp[hn,h2,hb,retH,resVs,resV];exact hk _ _ _ ho hd hlt hs (hs.boxLe hg)
abbrev Q:=List C × List D × List Lab
def plabs (c:C) (qs:List Q):List Lab:=labs c++qs.flatMap (·.2.2)
structure Part (h:HS) (sh:List Sh) (c:C) (qs:List Q) (ds:List (List D)):Prop where
 mr:MR h sh.length c (qs.map (·.1))
 ds:qs.map (·.2.1)=ds
 ow:∀ q ∈ qs,Ow h sh q.1 q.2.1 q.2.2
theorem Part.frame {h h':HS} {sh:List Sh} {c:C} {qs:List Q} {ds:List (List D)} (p:Part h sh c qs ds) (hb:∀ k ∈ plabs c qs,h'.box k=h.box k):Part h' sh c qs ds:=
 ⟨p.mr.frame fun l hl=>hb l (by simp[plabs,hl]),p.ds,fun q hq=>(p.ow q hq).frame fun l hl=>hb l (by
  simp only[plabs,Y02,Y0w];exact .inr ⟨q,hq,hl⟩)⟩
theorem Part.frz {h:HS} {sh:List Sh} {c:C} {qs:List Q} {ds:List (List D)} (p:Part h sh c qs ds):Frz h c (.sl ds):=by
 obtain⟨hm,rfl,ho⟩:=p;exact (Ow.row (es:=sh) hm ho .nil).frz.1
def ConSh:List Sh:=[.d,.d,.d,.d,.d,.d,.d]
structure SchC (h:HS) (l:Lab) (S:Sch) (tc fc oc:C) (qt qf qo:List Q):Prop where
 box:h.box l=some [tc,fc,oc]
 t:Part h TblSh tc qt (S.tables.map Tbl.enc)
 f:Part h FkSh fc qf (S.fks.map Fk.enc)
 o:Part h ConSh oc qo (S.cons.map Cons.enc)
 nd:(l::(plabs tc qt++(plabs fc qf++plabs oc qo))).Nodup
 lt:∀ k ∈ l::(plabs tc qt++(plabs fc qf++plabs oc qo)),k.1 < h.ep
def OwS (h:HS) (l:Lab) (S:Sch) (ls:List Lab):Prop:=∃ tc fc oc qt qf qo,ls=plabs tc qt++(plabs fc qf++plabs oc qo)/\SchC h l S tc fc oc qt qf qo
theorem Zdc {ep:Nat} {A X X' B:List Lab} (h:(A++(X++B)).Nodup) (hx:X'.Nodup) (hn:∀ k ∈ X',k ∈ X\/ep<=k.1) (hl:∀ k ∈ A++(X++B),k.1 < ep):(A++(X'++B)).Nodup:=by
 simp only[Y0e,Y02] at h hl |-;obtain⟨hA,⟨hX,hB,hXB⟩,hd⟩:=h;refine⟨hA,⟨hx,hB,fun a ha b hb=>?_⟩,fun a ha b hb=>?_⟩
 .rintro rfl;rcases hn a ha with h1 | h1
  .exact hXB a h1 a hb rfl
  .have:=hl a (.inr (.inr hb));omega
 .rintro rfl;rcases hb with hb | hb
  .rcases hn a hb with h1 | h1
   .exact hd a ha a (.inl h1) rfl
   .have:=hl a (.inl ha);omega
  .exact hd a ha a (.inr hb) rfl
theorem SchC.ne {h:HS} {l:Lab} {S:Sch} {tc fc oc:C} {qt qf qo:List Q} (s:SchC h l S tc fc oc qt qf qo):l ∉ plabs tc qt/\l ∉ plabs fc qf/\l ∉ plabs oc qo/\(∀ k ∈ plabs tc qt,k ∉ plabs fc qf/\k ∉ plabs oc qo)/\(∀ k ∈ plabs fc qf,k ∉ plabs oc qo):=by
 have:=s.nd
 simp only[Y1z,Y0e,Y02,not_or] at this;obtain⟨⟨h1,h2,h3⟩,_,⟨_,_,h4⟩,h5⟩:=this;exact⟨h1,h2,h3,fun k hk=>⟨fun h6=>h5 k hk k (.inl h6) rfl,fun h6=>h5 k hk k (.inr h6) rfl⟩,fun k hk h6=>h4 k hk k h6 rfl⟩
theorem SchC.setO {h h':HS} {l:Lab} {S:Sch} {tc fc oc oc':C} {qt qf qo qo':List Q} {os:List Cons} (s:SchC h l S tc fc oc qt qf qo) (hb:h'.box l=some [tc,fc,oc']) (hp:Part h' ConSh oc' qo' (os.map Cons.enc)) (hs:Same h h' (l::plabs oc qo))
  (hnd:(plabs oc' qo').Nodup) (hn:∀ k ∈ plabs oc' qo',k ∈ plabs oc qo\/(h.ep<=k.1/\k.1 < h'.ep)):SchC h' l { S with cons:=os } tc fc oc' qt qf qo':=by
 obtain⟨n1,n2,n3,n4,n5⟩:=s.ne;have hlt:=s.lt;simp only[Y08,Y02] at hlt;refine⟨hb,s.t.frame fun k hk=>hs.2 k (hlt k (.inr (.inl hk))) ?_,s.f.frame fun k hk=>hs.2 k (hlt k (.inr (.inr (.inl hk)))) ?_,hp,?_,?_⟩
 .simp only[Y08,not_or];exact⟨fun he=>n1 (he ▸ hk),(n4 k hk).2⟩
 .simp only[Y08,not_or];exact⟨fun he=>n2 (he ▸ hk),n5 k hk⟩
 .have:=Zdc (ep:=h.ep) (A:=l::(plabs tc qt++plabs fc qf)) (X:=plabs oc qo) (X':=plabs oc' qo') (B:=[]) (by simpa using s.nd) hnd (fun k hk=>(hn k hk).imp_right And.left) (fun k hk=>s.lt k (by simpa using hk))
  simpa using this
 .intro k hk
  have:=hs.1
  simp only[Y08,Y02] at hk;rcases hk with hk | hk | hk | hk
  .have:=hlt k (.inl hk);omega
  .have:=hlt k (.inr (.inl hk));omega
  .have:=hlt k (.inr (.inr (.inl hk)));omega
  .rcases hn k hk with h1 | h1
   .have:=hlt k (.inr (.inr (.inr h1)));omega
   .exact h1.2
theorem SchC.setF {h h':HS} {l:Lab} {S:Sch} {tc fc fc' oc:C} {qt qf qf' qo:List Q} {fs:List Fk} (s:SchC h l S tc fc oc qt qf qo) (hb:h'.box l=some [tc,fc',oc]) (hp:Part h' FkSh fc' qf' (fs.map Fk.enc)) (hs:Same h h' (l::plabs fc qf))
  (hnd:(plabs fc' qf').Nodup) (hn:∀ k ∈ plabs fc' qf',k ∈ plabs fc qf\/(h.ep<=k.1/\k.1 < h'.ep)):SchC h' l { S with fks:=fs } tc fc' oc qt qf' qo:=by
 obtain⟨n1,n2,n3,n4,n5⟩:=s.ne;have hlt:=s.lt;simp only[Y08,Y02] at hlt;refine⟨hb,s.t.frame fun k hk=>hs.2 k (hlt k (.inr (.inl hk))) ?_,hp,s.o.frame fun k hk=>hs.2 k (hlt k (.inr (.inr (.inr hk)))) ?_,?_,?_⟩
 .simp only[Y08,not_or];exact⟨fun he=>n1 (he ▸ hk),(n4 k hk).1⟩
 .simp only[Y08,not_or];exact⟨fun he=>n3 (he ▸ hk),fun h6=>n5 k h6 hk⟩
 .have:=Zdc (ep:=h.ep) (A:=l::plabs tc qt) (X:=plabs fc qf) (X':=plabs fc' qf') (B:=plabs oc qo) (by simpa using s.nd) hnd (fun k hk=>(hn k hk).imp_right And.left) (fun k hk=>s.lt k (by simpa using hk))
  simpa using this
 .intro k hk
  have:=hs.1
  simp only[Y08,Y02] at hk;rcases hk with hk | hk | hk | hk
  .have:=hlt k (.inl hk);omega
  .have:=hlt k (.inr (.inl hk));omega
  .rcases hn k hk with h1 | h1
   .have:=hlt k (.inr (.inr (.inl h1)));omega
   .exact h1.2
  .have:=hlt k (.inr (.inr (.inr hk)));omega
theorem SchC.setT {h h':HS} {l:Lab} {S:Sch} {tc tc' fc oc:C} {qt qt' qf qo:List Q} {ts:List Tbl} (s:SchC h l S tc fc oc qt qf qo) (hb:h'.box l=some [tc',fc,oc]) (hp:Part h' TblSh tc' qt' (ts.map Tbl.enc)) (hs:Same h h' (l::plabs tc qt))
  (hnd:(plabs tc' qt').Nodup) (hn:∀ k ∈ plabs tc' qt',k ∈ plabs tc qt\/(h.ep<=k.1/\k.1 < h'.ep)):SchC h' l { S with tables:=ts } tc' fc oc qt' qf qo:=by
 obtain⟨n1,n2,n3,n4,n5⟩:=s.ne;have hlt:=s.lt;simp only[Y08,Y02] at hlt;refine⟨hb,hp,s.f.frame fun k hk=>hs.2 k (hlt k (.inr (.inr (.inl hk)))) ?_,s.o.frame fun k hk=>hs.2 k (hlt k (.inr (.inr (.inr hk)))) ?_,?_,?_⟩
 .simp only[Y08,not_or];exact⟨fun he=>n2 (he ▸ hk),fun h6=>(n4 k h6).1 hk⟩
 .simp only[Y08,not_or];exact⟨fun he=>n3 (he ▸ hk),fun h6=>(n4 k h6).2 hk⟩
 .have:=Zdc (ep:=h.ep) (A:=[l]) (X:=plabs tc qt) (X':=plabs tc' qt') (B:=plabs fc qf++plabs oc qo) (by simpa using s.nd) hnd (fun k hk=>(hn k hk).imp_right And.left) (fun k hk=>s.lt k (by simpa using hk))
  simpa using this
 .intro k hk
  have:=hs.1
  simp only[Y08,Y02] at hk;rcases hk with hk | hk | hk | hk
  .have:=hlt k (.inl hk);omega
  .rcases hn k hk with h1 | h1
   .have:=hlt k (.inr (.inl h1));omega
   .exact h1.2
  .have:=hlt k (.inr (.inr (.inl hk)));omega
  .have:=hlt k (.inr (.inr (.inr hk)));omega
def KeepS (h:HS) (l:Lab) (ls:List Lab) (S':Sch) (v:V) (K:V->HS->Prop):Prop:=∀ h' ls',OwS h' l S' ls'->Same h h' (l::ls)->(∀ k ∈ ls',k ∈ ls\/h.ep<=k.1)->K v h'
theorem Zij {α β:Type} {f:α->List β} {xs ys:List α} (h:xs.Sublist ys):(xs.flatMap f).Sublist (ys.flatMap f):=by
 induction h with
 | slnil=>exact .slnil
 | cons a _ ih=>rw[Y0r];exact ih.trans (List.sublist_append_right _ _)
 | cons_cons a _ ih=>rw[Y0r,Y0r];exact (List.Sublist.refl _).append ih
theorem Z9b {c c':C} {qs qs':List Q} (h:qs'.Sublist qs) (hc:labs c'=labs c):(plabs c' qs').Sublist (plabs c qs):=by
 unfold plabs;rw[hc];exact (List.Sublist.refl _).append (Zij h)
theorem Part.sub {h h2:HS} {sh:List Sh} {c c':C} {qs qs':List Q} {ds:List (List D)} (p:Part h sh c qs ds) (hq:∀ q ∈ qs',q ∈ qs) (hm:MR h2 sh.length c' (qs'.map (·.1))) (hnd:(plabs c qs).Nodup) (hb:∀ k,k ∉ labs c->(∃ q ∈ qs,k ∈ q.2.2)->h2.box k=h.box k):Part h2 sh c' qs' (qs'.map (·.2.1)):=by
 refine⟨hm,rfl,fun q hqm=>(p.ow q (hq q hqm)).frame fun k hk=>hb k (fun hk2=>?_) ⟨q,hq q hqm,hk⟩⟩;simp only[plabs,Y0e] at hnd;exact hnd.2.2 k hk2 k (Y0w.2 ⟨q,hq q hqm,hk⟩) rfl
theorem SchC.nds {h:HS} {l:Lab} {S:Sch} {tc fc oc:C} {qt qf qo:List Q} (s:SchC h l S tc fc oc qt qf qo):(plabs tc qt).Nodup/\(plabs fc qf).Nodup/\(plabs oc qo).Nodup:=by
 have:=s.nd
 simp only[Y1z,Y0e] at this;exact⟨this.2.1,this.2.2.1.1,this.2.2.1.2.1⟩
theorem Zga {α:Type} {qs:List α} {i j:Nat} (h:i<=j):(qs.take i++qs.drop j).Sublist qs:=by
 have h1:(qs.drop j).Sublist (qs.drop i):=by
  have:qs.drop j=(qs.drop i).drop (j - i):=by rw[Y1p];congr 1;omega
  rw[this];exact List.drop_sublist _ _
 have h2:=(List.Sublist.refl (qs.take i)).append h1
 rwa [Y17] at h2
theorem SchC.frame {h h':HS} {l:Lab} {S:Sch} {tc fc oc:C} {qt qf qo:List Q} (s:SchC h l S tc fc oc qt qf qo) (hs:Same h h' []):SchC h' l S tc fc oc qt qf qo:=by
 have hb:∀ k ∈ l::(plabs tc qt++(plabs fc qf++plabs oc qo)),h'.box k=h.box k:=fun k hk=>hs.2 k (s.lt k hk) (by simp);simp only[Y08,Y02] at hb;exact⟨by rw[hb l (.inl rfl),s.box],s.t.frame fun k hk=>hb k (.inr (.inl hk)),s.f.frame fun k hk=>hb k (.inr (.inr (.inl hk))),s.o.frame fun k hk=>hb k (.inr (.inr (.inr hk))),s.nd,fun k hk=>Y04 (s.lt k hk) hs.1⟩
theorem FrzCs.datas {h:HS}:∀ {ds:List D},FrzCs h (ds.map C.d) ds
 | []=>trivial
 | _::_=>⟨.data rfl,FrzCs.datas⟩
end
end Go.Proofs.YtbcejndfbklikaaGreatDoor
section
namespace Go.Proofs.YtbcejndfbklikaaGreatDoor
open Go Go.Am
theorem le_s {n m:Nat} (h:n<=m):n<=m+1:=Nat.le_succ_of_le h
theorem ne_new {l:Lab} {n:Nat} (hl:l.1 < n):∀ m b,n<=m->(l=(m,b))=False:=fun m b h=>eq_false fun he=>by rw[he] at hl;simp at hl;omega
theorem Z05 {l:Lab} {n:Nat} (hl:l.1 < n):∀ m b,n<=m->((m,b)=l)=False:=fun m b h=>eq_false fun he=>by rw[<- he] at hl;simp at hl;omega
theorem Zb1 {α:Type} {xs:List α} {i:Nat} {x:α} (h:xs[i]? = some x):xs.set i x=xs:=by
 obtain⟨hi,rfl⟩:=Y00.1 h;exact List.set_getElem_self hi
theorem Z7o {c:C} {qs:List Q} {i:Nat} {q q':Q} (hi:qs[i]? = some q) (hl:q'.2.2=q.2.2):plabs c (qs.set i q')=plabs c qs:=by
 unfold plabs
 congr 1
 have:(qs.set i q').map (·.2.2)=qs.map (·.2.2):=by
  rw[Y11,hl];exact Zb1 (by rw[Y0b,hi];rfl)
 rw[List.flatMap_def,List.flatMap_def,this]
theorem Z7p {c:C} {qs:List Q} {i j:Nat} {q q2:Q} {k:Lab} (hnd:(plabs c qs).Nodup) (hi:qs[i]? = some q) (hj:qs[j]? = some q2) (hne:j≠i) (hk:k ∈ q2.2.2):k ∉ labs c/\k ∉ q.2.2:=by
 simp only[plabs,Y0e] at hnd;refine⟨fun h=>hnd.2.2 k h k (Y0w.2 ⟨q2,Y03 hj,hk⟩) rfl,fun h=>?_⟩;have h1:=(List.pairwise_flatMap.1 hnd.2.1).2;rw[Y24] at h1;obtain⟨li,ei⟩:=Y00.1 hi;obtain⟨lj,ej⟩:=Y00.1 hj;rcases Nat.lt_or_gt_of_ne hne with hlt | hlt
 .exact h1 j i lj li hlt k (by rw[ej];exact hk) k (by rw[ei];exact h) rfl
 .exact h1 i j li lj hlt k (by rw[ei];exact h) k (by rw[ej];exact hk) rfl
theorem Z4v {c:C} {qs:List Q} {i:Nat} {q:Q} {k:Lab} (hnd:(plabs c qs).Nodup) (hi:qs[i]? = some q) (hk:k ∈ q.2.2):k ∉ labs c:=by
 simp only[plabs,Y0e] at hnd;exact fun h=>hnd.2.2 k h k (Y0w.2 ⟨q,Y03 hi,hk⟩) rfl
theorem Z42 {c:C} {qs:List Q} {i:Nat} {q:Q} {k:Lab} (hi:qs[i]? = some q) (hk:k ∈ q.2.2):k ∈ plabs c qs:=by
 simp only[plabs,Y02,Y0w];exact .inr ⟨q,Y03 hi,hk⟩
theorem Zfo {c:C} {qs:List Q} {i:Nat} {q:Q} (hnd:(plabs c qs).Nodup) (hi:qs[i]? = some q):q.2.2.Nodup:=by
 simp only[plabs,Y0e] at hnd;exact (List.pairwise_flatMap.1 hnd.2.1).1 q (Y03 hi)
theorem Part.upd {h h':HS} {sh:List Sh} {c:C} {qs:List Q} {ds:List (List D)} {i:Nat} {q q':Q} (P:Part h sh c qs ds) (hi:qs[i]? = some q) (hm:MR h' sh.length c ((qs.map (·.1)).set i q'.1)) (ho:Ow h' sh q'.1 q'.2.1 q'.2.2)
  (hb:∀ j q2,j≠i->qs[j]? = some q2->∀ k ∈ q2.2.2,h'.box k=h.box k):Part h' sh c (qs.set i q') (ds.set i q'.2.1):=by
 refine⟨by rw[Y11];exact hm,by rw[Y11,P.ds],fun q2 hq=>?_⟩;obtain⟨j,hj⟩:=Y1c hq
 by_cases hji:j=i
 .subst hji;have hlt:j < qs.length:=(Y00.1 hi).1;rw[Y19 hlt] at hj;cases hj;exact ho
 .rw[Y1d (fun h=>hji h.symm)] at hj;exact (P.ow q2 (Y03 hj)).frame fun k hk=>hb j q2 hji hj k hk
theorem Part.at {h:HS} {sh:List Sh} {c:C} {qs:List Q} {ds:List (List D)} (P:Part h sh c qs ds) {i:Nat} {d:List D} (hi:ds[i]? = some d) :
  ∃ q lr cap sp,qs[i]? = some q/\q.2.1=d/\Ow h sh q.1 d q.2.2/\c=.mrow lr 0 ds.length cap/\h.box lr=some (rowBox (qs.map (·.1)) sp)/\(rowBox (qs.map (·.1)) sp).length=cap * sh.length/\AllC sh.length (qs.map (·.1))/\(qs.map (·.1))[i]? = some q.1:=by
 have hd:=P.ds;subst hd;rw[Y0b] at hi;cases hq:qs[i]? with
 | none=>rw[hq] at hi;simp at hi
 | some q=>
   rw[hq] at hi;simp only[Y0h,Y06] at hi;have hlt:i < qs.length:=(Y00.1 hq).1;obtain⟨lr,cap,sp,h1,h2,h3⟩:=P.mr.block (by simp;omega);refine⟨q,lr,cap,sp,rfl,hi,hi ▸ P.ow q (Y03 hq),by simpa using h1,h2,h3,P.mr.1,by rw[Y0b,hq];rfl⟩
theorem Part.wr {h:HS} {sh:List Sh} {c:C} {qs:List Q} {ds:List (List D)} {i f n cap:Nat} {q:Q} {lr:Lab} {sp vs:List C} {d':List D} (P:Part h sh c qs ds) (hnd:(plabs c qs).Nodup) (hi:qs[i]? = some q) (hc:c=.mrow lr 0 n cap) (hB:h.box lr=some (rowBox (qs.map (·.1)) sp))
  (hlen:(rowBox (qs.map (·.1)) sp).length=cap * sh.length) (hf:f+vs.length<=sh.length) (ho:Ow h sh (Z01 q.1 f vs) d' q.2.2) :
  Part (h.setBox lr (Z01 (rowBox (qs.map (·.1)) sp) (i * sh.length+f) vs)) sh c (qs.set i (Z01 q.1 f vs,d',q.2.2)) (ds.set i d'):=by
 have hx:(qs.map (·.1))[i]? = some q.1:=by rw[Y0b,hi];rfl
 have hlr:labs c=[lr]:=by rw[hc];rfl
 have hself:∀ k ∈ q.2.2,k≠lr:=fun k hk he=>Z4v hnd hi hk (by rw[hlr,he];simp);refine P.upd (q':=(Z01 q.1 f vs,d',q.2.2)) hi ?_ (ho.frame fun k hk=>by simp[hself k hk]) (fun j q2 hne hj k hk=>?_)
 .have hset:=Z9a (sp:=sp) (vs:=vs) P.mr.1 hx hf;have hq1:=P.mr.1.get hx;refine⟨P.mr.1.set (by rw[Z0z (by omega)];exact hq1),by simpa using P.mr.2.1,.inr ⟨lr,cap,sp,?_,by simp[hset],?_⟩⟩
  .rcases P.mr.2.2 with ⟨h1,h2⟩ | ⟨l2,cap2,sp2,h1,_⟩
   .rw[h1] at hx;simp at hx
   .rw[hc] at h1 |-;simp at h1;simp[h1]
  .rw[<- hset,Z0z ?_,hlen]
   have:=Z84 (sp:=sp) P.mr.1 (Y00.1 hx).1
   omega
 .have:=(Z7p hnd hi hj hne hk).1
  rw[hlr] at this;have h2:k≠lr:=fun he=>this (by simp[he]);simp[h2]
end Go.Proofs.YtbcejndfbklikaaGreatDoor
namespace Go.Am
open Go Go.Proofs.YtbcejndfbklikaaGreatDoor
theorem Ow.flat {h:HS} {ss:List Sh} {cs:List C} {ds:List D} {ls:List Lab} (o:Ow h ss cs ds ls):∀ {n:Nat},ss=List.replicate n .d->(∀ d ∈ ds,d.flat=true)->cs=ds.map C.d/\ls=[]:=by
 induction o with
 | nil=>intro n _ _;exact⟨rfl,rfl⟩
 | @data c x ss cs ds ls hx hr ih=>
   intro n he hf;cases n with
   | zero=>simp at he
   | succ n=>
     simp[Y2i] at he;obtain⟨h1,h2⟩:=ih he (fun d hd=>hf d (by simp[hd]));have h3:=(Frz.data (h:=h) hx).flat (hf x (by simp));exact⟨by rw[h1,h3];rfl,h2⟩
 | @emp es c ss cs ds ls hx hr ih=>
   intro n he hf;cases n<;>simp[Y2i] at he
 | @row es c qs ss cs ds ls hm hq hr ihq ih=>
   intro n he hf;cases n<;>simp[Y2i] at he
end Go.Am
namespace Go.Proofs.YtbcejndfbklikaaGreatDoor
open Go Go.Am
end Go.Proofs.YtbcejndfbklikaaGreatDoor
namespace Go.Am
open Go Go.Proofs.YtbcejndfbklikaaGreatDoor
theorem Ow.inv_part {h:HS} {es ss:List Sh} {cs:List C} {ts:List (List D)} {ds:List D} {ls:List Lab} (o:Ow h (.r es::ss) cs (.sl ts::ds) ls):ts=[]\/∃ (c:C) (qs:List Q) (cs':List C) (ls':List Lab),cs=c::cs'/\ls=plabs c qs++ls'/\Part h es c qs ts/\Ow h ss cs' ds ls':=by
 rcases o.inv_r with ⟨c,cs',ds',rfl,h2,_⟩ | ⟨c,qs,cs',ds',ls',rfl,h2,rfl,hm,hq,hr⟩
 .simp at h2;exact .inl h2.1
 .simp at h2;obtain⟨h2,h3⟩:=h2;refine .inr ⟨c,qs,cs',ls',rfl,rfl,⟨hm,h2.symm,hq⟩,?_⟩;rw[h3];exact hr
end Go.Am
namespace Go.Proofs.YtbcejndfbklikaaGreatDoor
open Go Go.Am
end Go.Proofs.YtbcejndfbklikaaGreatDoor
namespace Go.Am
open Go Go.Proofs.YtbcejndfbklikaaGreatDoor
theorem Ow.mk_part {h:HS} {es ss:List Sh} {c:C} {qs:List Q} {cs:List C} {ts:List (List D)} {ds:List D} {ls:List Lab} (P:Part h es c qs ts) (o:Ow h ss cs ds ls):Ow h (.r es::ss) (c::cs) (.sl ts::ds) (plabs c qs++ls):=by
 obtain⟨hm,rfl,hq⟩:=P;exact .row hm hq o
end Go.Am
namespace Go.Proofs.YtbcejndfbklikaaGreatDoor
open Go Go.Am
def Sc (h:HS) (l:Lab) (S:Sch) (tc fc oc:C) (ta fa oa:List Lab):Prop:=∃ qt qf qo,ta=plabs tc qt/\fa=plabs fc qf/\oa=plabs oc qo/\SchC h l S tc fc oc qt qf qo
section
variable {h h':HS} {l:Lab} {S:Sch} {tc fc oc:C} {ta fa oa:List Lab}
theorem Sc.box (s:Sc h l S tc fc oc ta fa oa):h.box l=some [tc,fc,oc]:=by
 obtain⟨_,_,_,_,_,_,s⟩:=s;exact s.box
theorem Sc.frame (s:Sc h l S tc fc oc ta fa oa) (hs:Same h h' []):Sc h' l S tc fc oc ta fa oa:=by
 obtain⟨qt,qf,qo,h1,h2,h3,s⟩:=s;exact⟨qt,qf,qo,h1,h2,h3,s.frame hs⟩
theorem Sc.ows (s:Sc h l S tc fc oc ta fa oa):OwS h l S (ta++(fa++oa)):=by
 obtain⟨qt,qf,qo,rfl,rfl,rfl,s⟩:=s;exact⟨tc,fc,oc,qt,qf,qo,rfl,s⟩
theorem OwS.sc {ls:List Lab} (o:OwS h l S ls):∃ tc fc oc ta fa oa,ls=ta++(fa++oa)/\Sc h l S tc fc oc ta fa oa:=by
 obtain⟨tc,fc,oc,qt,qf,qo,h1,s⟩:=o;exact⟨tc,fc,oc,_,_,_,h1,qt,qf,qo,rfl,rfl,rfl,s⟩
theorem Sc.lt (s:Sc h l S tc fc oc ta fa oa):∀ k ∈ l::(ta++(fa++oa)),k.1 < h.ep:=by
 obtain⟨qt,qf,qo,rfl,rfl,rfl,s⟩:=s;exact s.lt
theorem Sc.nd (s:Sc h l S tc fc oc ta fa oa):(l::(ta++(fa++oa))).Nodup:=by
 obtain⟨qt,qf,qo,rfl,rfl,rfl,s⟩:=s;exact s.nd
theorem Sc.tfrz (s:Sc h l S tc fc oc ta fa oa):Frz h tc (.sl (S.tables.map Tbl.enc)):=by
 obtain⟨qt,qf,qo,rfl,rfl,rfl,s⟩:=s;exact s.t.frz
theorem Sc.ffrz (s:Sc h l S tc fc oc ta fa oa):Frz h fc (.sl (S.fks.map Fk.enc)):=by
 obtain⟨qt,qf,qo,rfl,rfl,rfl,s⟩:=s;exact s.f.frz
theorem Sc.ofrz (s:Sc h l S tc fc oc ta fa oa):Frz h oc (.sl (S.cons.map Cons.enc)):=by
 obtain⟨qt,qf,qo,rfl,rfl,rfl,s⟩:=s;exact s.o.frz
theorem Sc.frz (s:Sc h l S tc fc oc ta fa oa):FrzCs h [tc,fc,oc] S.enc:=⟨s.tfrz,s.ffrz,s.ofrz,trivial⟩
end
end Go.Proofs.YtbcejndfbklikaaGreatDoor
namespace Go.Am
open Go Go.Proofs.YtbcejndfbklikaaGreatDoor
theorem MR.len {h:HS} {n:Nat} {c:C} {xs:List (List C)} (m:MR h n c xs):cLen c=some xs.length:=m.rd.2.1
end Go.Am
namespace Go.Proofs.YtbcejndfbklikaaGreatDoor
open Go Go.Am
theorem Sc.len {h:HS} {l:Lab} {S:Sch} {tc fc oc:C} {ta fa oa:List Lab} (s:Sc h l S tc fc oc ta fa oa):(cLen tc=some S.tables.length/\S.tables.length<=LIM)/\(cLen fc=some S.fks.length/\S.fks.length<=LIM)/\cLen oc=some S.cons.length/\S.cons.length<=LIM:=by
 obtain⟨qt,qf,qo,rfl,rfl,rfl,s⟩:=s;have e1:qt.length=S.tables.length:=by have:=congrArg List.length s.t.ds;simpa using this
 have e2:qf.length=S.fks.length:=by have:=congrArg List.length s.f.ds;simpa using this
 have e3:qo.length=S.cons.length:=by have:=congrArg List.length s.o.ds;simpa using this
 have h1:=s.t.mr.rd;have h2:=s.f.mr.rd;have h3:=s.o.mr.rd;refine⟨⟨?_,?_⟩,⟨?_,?_⟩,?_,?_⟩
 .rw[h1.2.1];simp[e1]
 .rw[<- e1];simpa using h1.2.2.2
 .rw[h2.2.1];simp[e2]
 .rw[<- e2];simpa using h2.2.2.2
 .rw[h3.2.1];simp[e3]
 .rw[<- e3];simpa using h3.2.2.2
theorem Z1n {c:C} {n:Nat} {f:Nat->Prop} (hc:cLen c=some n) (hk:f n):lenK c (k:=⟨f⟩):=by
 unfold lenK;cases c<;>simp[cLen,C.list?] at hc<;>first | (subst hc;exact hk) | skip
 .rename_i x;cases x<;>simp at hc;subst hc;exact fun _=>hk
 .subst hc;exact fun _=>hk
 .subst hc;exact fun _=>hk
 .subst hc;exact fun _=>hk
theorem Zjr:FkSh.length=3:=rfl
theorem Ze2:TblSh.length=3:=rfl
theorem SchC.wrF {h h':HS} {l:Lab} {S:Sch} {tc fc oc:C} {qt qf qf' qo:List Q} {fs:List Fk} (s:SchC h l S tc fc oc qt qf qo) (hp:Part h' FkSh fc qf' (fs.map Fk.enc)) (hs:Same h h' (plabs fc qf)) (hl:plabs fc qf'=plabs fc qf):SchC h' l { S with fks:=fs } tc fc oc qt qf' qo:=
 s.setF (by rw[hs.2 l (s.lt l (by simp)) s.ne.2.1];exact s.box) hp (hs.mono fun k hk=>by simp[hk]) (by rw[hl];exact s.nds.2.1) (fun k hk=>.inl (hl ▸ hk))
theorem SchC.wrO {h h':HS} {l:Lab} {S:Sch} {tc fc oc:C} {qt qf qo qo':List Q} {os:List Cons} (s:SchC h l S tc fc oc qt qf qo) (hp:Part h' ConSh oc qo' (os.map Cons.enc)) (hs:Same h h' (plabs oc qo)) (hl:plabs oc qo'=plabs oc qo):SchC h' l { S with cons:=os } tc fc oc qt qf qo':=
 s.setO (by rw[hs.2 l (s.lt l (by simp)) s.ne.2.2.1];exact s.box) hp (hs.mono fun k hk=>by simp[hk]) (by rw[hl];exact s.nds.2.2) (fun k hk=>.inl (hl ▸ hk))
end Go.Proofs.YtbcejndfbklikaaGreatDoor
namespace Go.Am
open Go Go.Proofs.YtbcejndfbklikaaGreatDoor
theorem Same.set1 {h:HS} {l:Lab} {cs:List C} {ls:List Lab} (hl:l ∈ ls):Same h (h.setBox l cs) ls:=Same.refl.setBox (.inl hl)
end Go.Am
namespace Go.Proofs.YtbcejndfbklikaaGreatDoor
open Go Go.Am
structure Elem (h:HS) (lr:Lab) (i n:Nat) (x:List C) (B:List C):Prop where
 box:h.box lr=some B
 rd:∀ g m,g+m<=n->takeN m (B.drop (i * n+g))=takeN m (x.drop g)
 rd0:∀ m,m<=n->takeN m (B.drop (i * n))=takeN m x
 le:i * n+n<=B.length
theorem Part.elem {h:HS} {sh:List Sh} {c:C} {qs:List Q} {ds:List (List D)} (P:Part h sh c qs ds) {i:Nat} {d:List D} (hi:ds[i]? = some d) :
  ∃ q lr cap sp,qs[i]? = some q/\q.2.1=d/\Ow h sh q.1 d q.2.2/\c=.mrow lr 0 ds.length cap/\(rowBox (qs.map (·.1)) sp).length=cap * sh.length/\Elem h lr i sh.length q.1 (rowBox (qs.map (·.1)) sp):=by
 obtain⟨q,lr,cap,sp,h1,h2,h3,h4,h5,h6,h7,h8⟩:=P.at hi;refine⟨q,lr,cap,sp,h1,h2,h3,h4,h6,h5,fun g m hg=>Z54 h7 h8 hg,fun m hm=>?_,Z84 h7 (Y00.1 h8).1⟩
 have:=Z54 (sp:=sp) (f:=0) (m:=m) h7 h8 (by omega)
 simpa using this
end Go.Proofs.YtbcejndfbklikaaGreatDoor
end
namespace Go.Proofs.YtbcejndfbklikaaGreatDoor
section
open Go Go.Am
theorem Z6c {α β:Type} {f:α->β} {xs:List α} {i:Nat} {x:α} (h:xs[i]? = some x):(xs.map f)[i]? = some (f x):=by rw[Y0b,h];rfl
theorem Z8l {α β:Type} {f:α->β} {xs:List α} {i:Nat} {x:α}:(xs.set i x).map f=(xs.map f).set i (f x):=Y11
theorem Part.elemD {h:HS} {n:Nat} {sh:List Sh} {c:C} {qs:List Q} {ds:List (List D)} (P:Part h sh c qs ds) (hsh:sh=List.replicate n .d) {i:Nat} {d:List D} (hi:ds[i]? = some d) (hf:∀ x ∈ d,x.flat=true) :
  ∃ lr cap B,c=.mrow lr 0 ds.length cap/\Elem h lr i n (d.map C.d) B/\qs[i]? = some (d.map C.d,d,[]) /\
    (∀ g vs d',(plabs c qs).Nodup->g+vs.length<=n->Z01 (d.map C.d) g vs=d'.map C.d->d'.length=n->∃ qs',plabs c qs'=plabs c qs/\Part (h.setBox lr (Z01 B (i * n+g) vs)) sh c qs' (ds.set i d')):=by
 obtain⟨q,lr,cap,sp,h1,h2,h3,h4,h5,h6⟩:=P.elem hi;have hn:sh.length=n:=by rw[hsh];simp
 obtain⟨e1,e2⟩:=h3.flat hsh hf;have eq:q=(d.map C.d,d,[]):=by rw[<- e1,<- e2,<- h2]
 subst eq;rw[hn] at h5 h6;refine⟨lr,cap,_,h4,h6,h1,fun g vs d' hnd hg hs hd=>?_⟩;refine⟨qs.set i (Z01 (d.map C.d) g vs,d',[]),Z7o h1 rfl,?_⟩
 have:=P.wr (f:=g) (vs:=vs) (d':=d') hnd h1 h4 h6.box (by rw[h5,hn]) (by rw[hn];exact hg) (by
  rw[hs,hsh]
  have:=Ow.datas (h:=h) (ds:=d')
  simp only[List.map_const',hd] at this;exact this)
 rw[hn] at this;exact this
theorem Cons.flat (c:Cons):∀ x ∈ c.enc,x.flat=true:=by simp[D.flat]
theorem Col.flat (c:Col):∀ x ∈ c.enc,x.flat=true:=by simp[D.flat]
theorem Zdt (c:Int):∀ x ∈ encI c,x.flat=true:=by simp[D.flat]
theorem Sc.con {h:HS} {l:Lab} {S:Sch} {tc fc oc:C} {ta fa oa:List Lab} (s:Sc h l S tc fc oc ta fa oa) {i:Nat} {c:Cons} (hi:S.cons[i]? = some c) :
  ∃ lo cap B,oc=.mrow lo 0 S.cons.length cap/\lo ∈ oa/\Elem h lo i 7 (c.enc.map C.d) B /\
    ∀ g vs c',g+vs.length<=7->Z01 (c.enc.map C.d) g vs=c'.enc.map C.d->Sc (h.setBox lo (Z01 B (i * 7+g) vs)) l { S with cons:=S.cons.set i c' } tc fc oc ta fa oa:=by
 obtain⟨qt,qf,qo,rfl,rfl,rfl,s⟩:=s;obtain⟨lo,cap,B,h1,h2,h3,h4⟩:=s.o.elemD (n:=7) rfl (Z6c hi) c.flat;have hm:lo ∈ plabs oc qo:=by rw[h1];simp[plabs,labs]
 refine⟨lo,cap,B,by simpa using h1,hm,h2,fun g vs c' hg hs=>?_⟩;obtain⟨qo',h5,h6⟩:=h4 g vs c'.enc s.nds.2.2 hg hs rfl;refine⟨qt,qf,qo',rfl,rfl,h5.symm,s.wrO (by rw[Z8l];exact h6) (Same.set1 hm) h5⟩
theorem Sc.fk {h:HS} {l:Lab} {S:Sch} {tc fc oc:C} {ta fa oa:List Lab} (s:Sc h l S tc fc oc ta fa oa) {i:Nat} {f:Fk} (hi:S.fks[i]? = some f) :
  ∃ lf cap B c1,fc=.mrow lf 0 S.fks.length cap/\lf ∈ fa/\Elem h lf i 3 [.d (.str f.table),c1,.d (.str f.ref)] B/\(∀ h',Same h h' []->Frz h' c1 (.sl (f.cols.map encI)))/\(cLen c1=some f.cols.length/\f.cols.length<=LIM) /\
    (∀ g vs f',f'.cols=f.cols->g+vs.length<=3->Z01 [.d (.str f.table),c1,.d (.str f.ref)] g vs=[.d (.str f'.table),c1,.d (.str f'.ref)]->Sc (h.setBox lf (Z01 B (i * 3+g) vs)) l { S with fks:=S.fks.set i f' } tc fc oc ta fa oa) /\
    (∀ k v,f.cols[k]? = some v->∃ l2 cap2 B2,c1=.mrow l2 0 f.cols.length cap2/\l2 ∈ fa/\l2≠lf/\Elem h l2 k 1 [.d (.int .i64 v)] B2 /\
     ∀ v',Sc (h.setBox l2 (Z01 B2 (k * 1) [.d (.int .i64 v')])) l { S with fks:=S.fks.set i { f with cols:=f.cols.set k v' } } tc fc oc ta fa oa):=by
 obtain⟨qt,qf,qo,rfl,rfl,rfl,s⟩:=s;have hnd:=s.nds.2.1;have hlt:∀ k ∈ plabs fc qf,k.1 < h.ep:=fun k hk=>s.lt k (by simp[hk]);obtain⟨q,lf,cap,sp,h1,h2,h3,h4,h5,h6⟩:=s.f.elem (Z6c (f:=Fk.enc) hi);have hm:lf ∈ plabs fc qf:=by rw[h4];simp[plabs,labs]
 rw[Zjr] at h5 h6;obtain⟨qc,qd,ql⟩:=q;simp only at h2 h3 h6;subst h2;obtain⟨c0,x0,cs,ds,rfl,e1,e2,h7⟩:=h3.inv_d;simp only[Fk.enc,List.cons.injEq] at e1;obtain⟨rfl,rfl⟩:=e1;obtain rfl:=(Frz.data (h:=h) e2).flat rfl;have hfz:∀ h',Same h h' []->FrzCs h' cs [.sl (f.cols.map encI),.str f.ref]:=fun h' hs=>(h7.frame fun k hk=>hs.2 k (hlt k (Z42 h1 hk)) (by simp)).frz;have key:∃ c1,cs=[c1,.d (.str f.ref)]/\(cLen c1=some f.cols.length/\f.cols.length<=LIM):=by
  rcases h7.inv_r with ⟨c1,cs',ds',rfl,e3,e4,h8⟩ | ⟨c1,qs1,cs',ds',ls',rfl,e3,_,hm1,_,h8⟩
  .simp only[List.cons.injEq] at e3;obtain⟨e3,rfl⟩:=e3;obtain⟨c2,x2,cs2,ds2,rfl,e5,e6,h9⟩:=h8.inv_d;simp only[List.cons.injEq] at e5;obtain⟨rfl,rfl⟩:=e5;obtain rfl:=(Frz.data (h:=h) e6).flat rfl;obtain⟨rfl,_,_⟩:=h9.inv_nil;simp at e3;refine⟨c1,rfl,?_,by simp[e3]⟩;cases c1<;>simp[C.toD] at e4<;>subst_vars<;>simp[cLen,C.list?,e3]
  .simp only[List.cons.injEq] at e3;obtain⟨e3,rfl⟩:=e3;obtain⟨c2,x2,cs2,ds2,rfl,e5,e6,h9⟩:=h8.inv_d;simp only[List.cons.injEq] at e5;obtain⟨rfl,rfl⟩:=e5;obtain rfl:=(Frz.data (h:=h) e6).flat rfl;obtain⟨rfl,_,_⟩:=h9.inv_nil;simp at e3;have e4:=congrArg List.length e3;simp at e4;exact⟨c1,rfl,by rw[MR.len hm1];simp[e4],by rw[e4];simpa using hm1.2.1⟩
 obtain⟨c1,rfl,hcl⟩:=key;refine⟨lf,cap,_,c1,by simpa using h4,hm,h6,fun h' hs=>(hfz h' hs).1,hcl,fun g vs f' hc hg hset=>?_,fun k v hk=>?_⟩
 .refine⟨qt,qf.set i ([.d (.str f'.table),c1,.d (.str f'.ref)],f'.enc,ql),qo,rfl,(Z7o (q':=(_,f'.enc,ql)) h1 rfl).symm,rfl,s.wrF ?_ (Same.set1 hm) (Z7o (q':=(_,f'.enc,ql)) h1 rfl)⟩
  have:=s.f.wr (f:=g) (vs:=vs) (d':=f'.enc) hnd h1 h4 h6.box h5 hg (by
   rw[hset];refine .data (x:=.str f'.table) rfl ?_;rcases h7.inv_r with ⟨c1,cs',ds',e0,e3,e4,h8⟩ | ⟨c1,qs1,cs',ds',ls',e0,e3,rfl,hm1,hq1,h8⟩
   .simp at e3 e0;obtain⟨e3,rfl⟩:=e3;obtain⟨rfl,rfl⟩:=e0;obtain⟨c2,x2,cs2,ds2,e4',e5,e6,h9⟩:=h8.inv_d;simp only[List.cons.injEq] at e5 e4';obtain⟨rfl,rfl⟩:=e5;obtain⟨rfl,rfl⟩:=e4';rw[hc,e3];exact .emp e4 (.data (x:=.str f'.ref) rfl h9)
   .simp at e3 e0;obtain⟨e3,rfl⟩:=e3;obtain⟨rfl,rfl⟩:=e0;obtain⟨c2,x2,cs2,ds2,e4',e5,e6,h9⟩:=h8.inv_d;simp only[List.cons.injEq] at e5 e4';obtain⟨rfl,rfl⟩:=e5;obtain⟨rfl,rfl⟩:=e4';rw[hc,show f.cols.map encI=qs1.map (fun q=>q.2.1) by simpa using e3];exact .row hm1 hq1 (.data (x:=.str f'.ref) rfl h9))
  rw[hset,Zjr] at this;rw[Z8l];exact this
 .rcases h7.inv_part with e | ⟨c1',qs1,cs',ls',e0,rfl,P1,h8⟩
  .have:f.cols=[]:=by simpa using e
   rw[this] at hk;simp at hk
  .simp only[List.cons.injEq] at e0;obtain⟨rfl,rfl⟩:=e0;obtain⟨l2,cap2,B2,k1,k2,k3,k4⟩:=P1.elemD (n:=1) rfl (Z6c (f:=encI) hk) (Zdt v);have hl2:l2 ∈ plabs c1 qs1:=by rw[k1];simp[plabs,labs]
   have hl2q:l2 ∈ plabs fc qf:=Z42 h1 (by simp[hl2]);have hne:l2≠lf:=fun he=>Z4v hnd h1 (k:=l2) (by simp[hl2]) (by rw[he,h4];simp[labs]);have hndq:=Zfo hnd h1;simp only at hndq;refine⟨l2,cap2,B2,by simpa using k1,hl2q,hne,k2,fun v'=>?_⟩;obtain⟨qs1',k5,k6⟩:=k4 0 [.d (.int .i64 v')] [.int .i64 v'] ((Y0e.1 hndq).1) (by simp) (by simp) (by simp);refine⟨qt,qf.set i ([.d (.str f.table),c1,.d (.str f.ref)],({ f with cols:=f.cols.set k v' }:Fk).enc,plabs c1 qs1++ls'),qo,rfl,(Z7o (q':=(_,({ f with cols:=f.cols.set k v' }:Fk).enc,plabs c1 qs1++ls')) h1 rfl).symm,rfl,s.wrF ?_ (Same.set1 hl2q) (Z7o (q':=(_,({ f with cols:=f.cols.set k v' }:Fk).enc,plabs c1 qs1++ls')) h1 rfl)⟩;rw[Z8l];refine s.f.upd (q':=(_,_,_)) h1 ?_ ?_ ?_
   .have:(qf.map (·.1)).set i [.d (.str f.table),c1,.d (.str f.ref)]=qf.map (·.1):=Zb1 (Z6c (f:=fun q:Q=>q.1) h1)
    rw[this];refine s.f.mr.frame fun k hk=>?_
    have:k≠l2:=fun he=>Z4v hnd h1 (k:=l2) (by simp[hl2]) (he ▸ hk)
    simp[this]
   .refine .data rfl ?_;rw[<- k5];simp only[Y1q] at k6;refine Ow.mk_part (ts:=(f.cols.set k v').map encI) (by rw[Z8l];exact k6) (h8.frame fun k hk=>?_)
    have:k≠l2:=fun he=>(Y0e.1 hndq).2.2 l2 hl2 k hk he.symm
    simp[this]
   .intro j q2 hj hq2 k hk
    have:=(Z7p hnd h1 hq2 hj hk).2
    have:k≠l2:=fun he=>this (by simp[he,hl2])
    simp[this]
end
end Go.Proofs.YtbcejndfbklikaaGreatDoor
section
namespace Go.Proofs.YtbcejndfbklikaaGreatDoor
open Go Go.Am
end Go.Proofs.YtbcejndfbklikaaGreatDoor
namespace Go.Am
open Go Go.Proofs.YtbcejndfbklikaaGreatDoor
theorem Ow.split {h:HS} {s:Sh} {ss:List Sh} {cs:List C} {x:D} {ds:List D} {ls:List Lab} (o:Ow h (s::ss) cs (x::ds) ls):∃ c cs' l1 l2,cs=c::cs'/\ls=l1++l2/\Ow h [s] [c] [x] l1/\Ow h ss cs' ds l2:=by
 cases o with
 | data hx hr=>exact⟨_,_,[],_,rfl,rfl,.data hx .nil,hr⟩
 | emp hx hr=>exact⟨_,_,[],_,rfl,rfl,.emp hx .nil,hr⟩
 | row hm hq hr=>exact⟨_,_,_,_,rfl,rfl,by simpa using Ow.row hm hq .nil,hr⟩
end Go.Am
namespace Go.Proofs.YtbcejndfbklikaaGreatDoor
open Go Go.Am
end Go.Proofs.YtbcejndfbklikaaGreatDoor
namespace Go.Am
open Go Go.Proofs.YtbcejndfbklikaaGreatDoor
theorem Ow.join {h:HS} {s:Sh} {ss:List Sh} {c:C} {cs:List C} {x:D} {ds:List D} {l1 l2:List Lab} (o:Ow h [s] [c] [x] l1) (o2:Ow h ss cs ds l2):Ow h (s::ss) (c::cs) (x::ds) (l1++l2):=by
 cases o with
 | data hx hr=>obtain⟨_,_,rfl⟩:=hr.inv_nil;exact .data hx o2
 | emp hx hr=>obtain⟨_,_,rfl⟩:=hr.inv_nil;exact .emp hx o2
 | row hm hq hr=>
   obtain⟨_,_,rfl⟩:=hr.inv_nil
   have:=Ow.row hm hq o2
   simpa using this
end Go.Am
namespace Go.Proofs.YtbcejndfbklikaaGreatDoor
open Go Go.Am
end Go.Proofs.YtbcejndfbklikaaGreatDoor
namespace Go.Am
open Go Go.Proofs.YtbcejndfbklikaaGreatDoor
theorem Ow.nlen {h:HS} {es:List Sh} {c:C} {ts:List (List D)} {ls:List Lab} (o:Ow h [.r es] [c] [.sl ts] ls):cLen c=some ts.length/\ts.length<=LIM:=by
 rcases o.inv_r with ⟨c1,cs',ds',e1,e3,e4,h8⟩ | ⟨c1,qs1,cs',ds',ls',e1,e3,_,hm1,_,h8⟩
 .simp at e1 e3;obtain⟨rfl,rfl⟩:=e1;refine⟨?_,by simp[e3]⟩;cases c<;>simp[C.toD] at e4<;>subst_vars<;>simp[cLen,C.list?,e3]
 .simp at e1 e3;obtain⟨rfl,rfl⟩:=e1;have e4:=congrArg List.length e3.1;simp at e4;exact⟨by rw[MR.len hm1];simp[e4],by rw[e4];simpa using hm1.2.1⟩
end Go.Am
namespace Go.Proofs.YtbcejndfbklikaaGreatDoor
open Go Go.Am
end Go.Proofs.YtbcejndfbklikaaGreatDoor
namespace Go.Am
open Go Go.Proofs.YtbcejndfbklikaaGreatDoor
theorem Ow.npart {h:HS} {es:List Sh} {c:C} {ts:List (List D)} {ls:List Lab} (o:Ow h [.r es] [c] [.sl ts] ls) (h0:ts≠[]):∃ qs,ls=plabs c qs/\Part h es c qs ts:=by
 rcases o.inv_part with e | ⟨c1,qs1,cs',ls',e0,rfl,P1,h8⟩
 .exact absurd e h0
 .simp at e0;obtain⟨rfl,rfl⟩:=e0;obtain⟨_,_,rfl⟩:=h8.inv_nil;exact⟨qs1,by simp,P1⟩
end Go.Am
namespace Go.Proofs.YtbcejndfbklikaaGreatDoor
open Go Go.Am
end Go.Proofs.YtbcejndfbklikaaGreatDoor
namespace Go.Am
open Go Go.Proofs.YtbcejndfbklikaaGreatDoor
theorem Ow.of_part {h:HS} {es:List Sh} {c:C} {qs:List Q} {ts:List (List D)} (P:Part h es c qs ts):Ow h [.r es] [c] [.sl ts] (plabs c qs):=by
 simpa using Ow.mk_part P (.nil)
end Go.Am
namespace Go.Proofs.YtbcejndfbklikaaGreatDoor
open Go Go.Am
end Go.Proofs.YtbcejndfbklikaaGreatDoor
namespace Go.Am
open Go Go.Proofs.YtbcejndfbklikaaGreatDoor
theorem Ow.nlabs {h:HS} {es:List Sh} {c:C} {ts:List (List D)} {ls:List Lab} (o:Ow h [.r es] [c] [.sl ts] ls):∀ k ∈ labs c,k ∈ ls:=by
 rcases o.inv_r with ⟨c1,cs',ds',e1,e3,e4,h8⟩ | ⟨c1,qs1,cs',ds',ls',e1,e3,rfl,hm1,_,h8⟩
 .simp at e1;obtain⟨rfl,rfl⟩:=e1;cases c<;>simp[C.toD] at e4<;>simp[labs]
 .simp at e1;obtain⟨rfl,rfl⟩:=e1;intro k hk;simp[hk]
end Go.Am
namespace Go.Proofs.YtbcejndfbklikaaGreatDoor
open Go Go.Am
end Go.Proofs.YtbcejndfbklikaaGreatDoor
namespace Go.Am
open Go Go.Proofs.YtbcejndfbklikaaGreatDoor
theorem Ow.nfrz {h:HS} {es:List Sh} {c:C} {ts:List (List D)} {ls:List Lab} (o:Ow h [.r es] [c] [.sl ts] ls):Frz h c (.sl ts):=o.frz.1
end Go.Am
namespace Go.Proofs.YtbcejndfbklikaaGreatDoor
open Go Go.Am
end Go.Proofs.YtbcejndfbklikaaGreatDoor
namespace Go.Am
open Go Go.Proofs.YtbcejndfbklikaaGreatDoor
theorem Ow.nrow {h:HS} {n:Nat} {es:List Sh} {c:C} {ts:List (List D)} (hm:MR h n c (ts.map (·.map C.d))) (hes:es=List.replicate n .d) (ht:∀ t ∈ ts,t.length=n):Ow h [.r es] [c] [.sl ts] (labs c):=by
 simpa using Ow.rowD hm hes ht .nil
end Go.Am
namespace Go.Proofs.YtbcejndfbklikaaGreatDoor
open Go Go.Am
theorem Zbq {A X X' B:List Lab} (h:(A++(X++B)).Nodup) (hx:X'.Nodup) (hn:∀ k ∈ X',k ∈ X\/k ∉ A++(X++B)):(A++(X'++B)).Nodup:=by
 simp only[Y0e,Y02,not_or] at h hn |-;obtain⟨hA,⟨hX,hB,hXB⟩,hd⟩:=h;refine⟨hA,⟨hx,hB,fun a ha b hb=>?_⟩,fun a ha b hb=>?_⟩
 .rintro rfl;rcases hn a ha with h1 | h1
  .exact hXB a h1 a hb rfl
  .exact h1.2.2 hb
 .rintro rfl;rcases hb with hb | hb
  .rcases hn a hb with h1 | h1
   .exact hd a ha a (.inl h1) rfl
   .exact h1.1 ha
  .exact hd a ha a (.inr hb) rfl
theorem SchC.setT2 {h h':HS} {l:Lab} {S:Sch} {tc tc' fc oc:C} {qt qt' qf qo:List Q} {ts:List Tbl} (s:SchC h l S tc fc oc qt qf qo) (hb:h'.box l=some [tc',fc,oc]) (hp:Part h' TblSh tc' qt' (ts.map Tbl.enc)) (hs:Same h h' (l::plabs tc qt))
  (hnd:(plabs tc' qt').Nodup) (hn:∀ k ∈ plabs tc' qt',k ∈ plabs tc qt\/(k ∉ l::(plabs tc qt++(plabs fc qf++plabs oc qo))/\k.1 < h'.ep)):SchC h' l { S with tables:=ts } tc' fc oc qt' qf qo:=by
 obtain⟨n1,n2,n3,n4,n5⟩:=s.ne;have hlt:=s.lt;simp only[Y08,Y02] at hlt;refine⟨hb,hp,s.f.frame fun k hk=>hs.2 k (hlt k (.inr (.inr (.inl hk)))) ?_,s.o.frame fun k hk=>hs.2 k (hlt k (.inr (.inr (.inr hk)))) ?_,?_,?_⟩
 .simp only[Y08,not_or];exact⟨fun he=>n2 (he ▸ hk),fun h6=>(n4 k h6).1 hk⟩
 .simp only[Y08,not_or];exact⟨fun he=>n3 (he ▸ hk),fun h6=>(n4 k h6).2 hk⟩
 .have:=Zbq (A:=[l]) (X:=plabs tc qt) (X':=plabs tc' qt') (B:=plabs fc qf++plabs oc qo) (by simpa using s.nd) hnd (fun k hk=>(hn k hk).imp_right fun h=>by simpa using h.1)
  simpa using this
 .intro k hk
  have:=hs.1
  simp only[Y08,Y02] at hk;rcases hk with hk | hk | hk | hk
  .have:=hlt k (.inl hk);omega
  .rcases hn k hk with h1 | h1
   .have:=hlt k (.inr (.inl h1));omega
   .exact h1.2
  .have:=hlt k (.inr (.inr (.inl hk)));omega
  .have:=hlt k (.inr (.inr (.inr hk)));omega
theorem SchC.setF2 {h h':HS} {l:Lab} {S:Sch} {tc fc fc' oc:C} {qt qf qf' qo:List Q} {fs:List Fk} (s:SchC h l S tc fc oc qt qf qo) (hb:h'.box l=some [tc,fc',oc]) (hp:Part h' FkSh fc' qf' (fs.map Fk.enc)) (hs:Same h h' (l::plabs fc qf))
  (hnd:(plabs fc' qf').Nodup) (hn:∀ k ∈ plabs fc' qf',k ∈ plabs fc qf\/(k ∉ l::(plabs tc qt++(plabs fc qf++plabs oc qo))/\k.1 < h'.ep)):SchC h' l { S with fks:=fs } tc fc' oc qt qf' qo:=by
 obtain⟨n1,n2,n3,n4,n5⟩:=s.ne;have hlt:=s.lt;simp only[Y08,Y02] at hlt;refine⟨hb,s.t.frame fun k hk=>hs.2 k (hlt k (.inr (.inl hk))) ?_,hp,s.o.frame fun k hk=>hs.2 k (hlt k (.inr (.inr (.inr hk)))) ?_,?_,?_⟩
 .simp only[Y08,not_or];exact⟨fun he=>n1 (he ▸ hk),(n4 k hk).1⟩
 .simp only[Y08,not_or];exact⟨fun he=>n3 (he ▸ hk),fun h6=>n5 k h6 hk⟩
 .have:=Zbq (A:=l::plabs tc qt) (X:=plabs fc qf) (X':=plabs fc' qf') (B:=plabs oc qo) (by simpa using s.nd) hnd (fun k hk=>(hn k hk).imp_right fun h=>by simpa using h.1)
  simpa using this
 .intro k hk
  have:=hs.1
  simp only[Y08,Y02] at hk;rcases hk with hk | hk | hk | hk
  .have:=hlt k (.inl hk);omega
  .have:=hlt k (.inr (.inl hk));omega
  .rcases hn k hk with h1 | h1
   .have:=hlt k (.inr (.inr (.inl h1)));omega
   .exact h1.2
  .have:=hlt k (.inr (.inr (.inr hk)));omega
theorem Zrm {α:Type} {xs:List α} {i:Nat} {x:α} (h:xs[i]? = some x) (y:α):xs=xs.take i++x::xs.drop (i+1)/\xs.set i y=xs.take i++y::xs.drop (i+1):=by
 obtain⟨hi,rfl⟩:=Y00.1 h;exact⟨by rw[<- Y14 hi,Y17],by rw[List.set_eq_take_append_cons_drop,if_pos hi]⟩
theorem Zgx {c:C} {xs:List Q} {i:Nat} {x:Q} (h:xs[i]? = some x) (y:Q):plabs c xs=(labs c++(xs.take i).flatMap (·.2.2))++(x.2.2++(xs.drop (i+1)).flatMap (·.2.2))/\plabs c (xs.set i y)=(labs c++(xs.take i).flatMap (·.2.2))++(y.2.2++(xs.drop (i+1)).flatMap (·.2.2)):=by
 obtain⟨h1,h2⟩:=Zrm h y;refine⟨?_,?_⟩
 .have:=congrArg (fun zs:List Q=>labs c++zs.flatMap (·.2.2)) h1
  simpa[plabs] using this
 .rw[plabs,h2];simp
theorem Zgw {c:C} {qs:List Q} {i:Nat} {q q':Q} (hnd:(plabs c qs).Nodup) (hi:qs[i]? = some q) (hq:q'.2.2.Nodup) (hn:∀ k ∈ q'.2.2,k ∈ q.2.2\/k ∉ plabs c qs):(plabs c (qs.set i q')).Nodup:=by
 obtain⟨h1,h2⟩:=Zgx (c:=c) hi q';rw[h1] at hnd hn;rw[h2];exact Zbq hnd hq hn
theorem Z9c {c:C} {qs:List Q} {i:Nat} {q q':Q} (hi:qs[i]? = some q) {k:Lab} (hk:k ∈ plabs c (qs.set i q')):k ∈ plabs c qs\/k ∈ q'.2.2:=by
 obtain⟨h1,h2⟩:=Zgx (c:=c) hi q';rw[h2] at hk;rw[h1];simp only[Y02] at hk |-;rcases hk with (h | h) | h | h
 .exact .inl (.inl (.inl h))
 .exact .inl (.inl (.inr h))
 .exact .inr h
 .exact .inl (.inr (.inr h))
theorem SchC.updT {h h':HS} {l:Lab} {S:Sch} {tc fc oc:C} {qt qf qo:List Q} {i:Nat} {q:Q} {T':Tbl} {cs':List C} {lq':List Lab} (s:SchC h l S tc fc oc qt qf qo) (hi:qt[i]? = some q) (hm:MR h' 3 tc ((qt.map (·.1)).set i cs')) (ho:Ow h' TblSh cs' T'.enc lq')
  (hs:Same h h' (labs tc++q.2.2)) (hq:lq'.Nodup) (hn:∀ k ∈ lq',k ∈ q.2.2\/(k ∉ l::(plabs tc qt++(plabs fc qf++plabs oc qo))/\k.1 < h'.ep)):SchC h' l { S with tables:=S.tables.set i T' } tc fc oc (qt.set i (cs',T'.enc,lq')) qf qo:=by
 have hnd:=s.nds.1;have hlt:∀ k ∈ plabs tc qt,k.1 < h.ep:=fun k hk=>s.lt k (by simp[hk]);have hsub:∀ k ∈ labs tc++q.2.2,k ∈ plabs tc qt:=fun k hk=>by
  rcases Y02.1 hk with h1 | h1
  .simp[plabs,h1]
  .exact Z42 hi h1
 have hl:h'.box l=h.box l:=hs.2 l (s.lt l (by simp)) fun hk=>s.ne.1 (hsub l hk);refine s.setT2 (by rw[hl];exact s.box) ?_ (hs.mono fun k hk=>by simp[hsub k hk]) (Zgw hnd hi hq fun k hk=>(hn k hk).imp_right fun h2 h3=>h2.1 (by simp[h3])) (fun k hk=>?_)
 .rw[Z8l];refine s.t.upd (q':=(cs',T'.enc,lq')) hi hm ho (fun j q2 hj hq2 k hk=>?_);have h1:=Z7p hnd hi hq2 hj hk;refine hs.2 k (hlt k (Z42 hq2 hk)) fun h2=>?_;rcases Y02.1 h2 with h2 | h2
  .exact h1.1 h2
  .exact h1.2 h2
 .rcases Z9c hi hk with h1 | h1
  .exact .inl h1
  .rcases hn k h1 with h2 | h2
   .exact .inl (Z42 hi h2)
   .exact .inr h2
theorem Elem.set {h:HS} {lr:Lab} {i n:Nat} {x B:List C} (e:Elem h lr i n x B) {g:Nat} {vs:List C} (hx:x.length=n) (hg:g+vs.length<=n):Elem (h.setBox lr (Z01 B (i * n+g) vs)) lr i n (Z01 x g vs) (Z01 B (i * n+g) vs):=by
 have hle:=e.le;have h0:=e.rd0 n (Y09 _);have ht:takeN n x=some x:=by simp[takeN,hx,Y0l]
 rw[ht] at h0;obtain⟨h1,h2⟩:=Z8f h0;have hB:B=B.take (i * n)++(x++B.drop (i * n+n)):=by
  have e3:=Y17 n (B.drop (i * n));rw[<- h2,Y1p] at e3;rw[e3,Y17]
 have hA:(B.take (i * n)).length=i * n:=by simp;omega
 have key:Z01 B (i * n+g) vs=B.take (i * n)++(Z01 x g vs++B.drop (i * n+n)):=by
  rw[show Z01 B (i * n+g) vs=Z01 (B.take (i * n)++(x++B.drop (i * n+n))) (i * n+g) vs from congrArg (fun z=>Z01 z (i * n+g) vs) hB];generalize B.take (i * n)=A at hA |-;generalize B.drop (i * n+n)=Z;rw[<- hA];simp only[Z01];rw[List.take_length_add_append,Nat.add_assoc,List.drop_length_add_append,Y1f (by omega),Y1e (by omega)];simp
 have hsl:(Z01 x g vs).length=n:=by rw[Z0z (by omega)];exact hx
 have rd:∀ g' m,g'+m<=n->takeN m ((Z01 B (i * n+g) vs).drop (i * n+g'))=takeN m ((Z01 x g vs).drop g'):=fun g' m hm=>by
  rw[key];generalize B.take (i * n)=A at hA |-;rw[<- hA,List.drop_length_add_append,Y1e (by omega)];simp only[takeN]
  have:m<=((Z01 x g vs).drop g').length:=by simp;omega
  rw[if_pos (by simp at this |-;omega),if_pos this,Y1f this]
 refine⟨by simp,rd,fun m hm=>?_,?_⟩
 .have:=rd 0 m (by omega)
  simpa using this
 .rw[Z0z (by omega)];exact hle
theorem Elem.uniq {h:HS} {lr:Lab} {i n:Nat} {x y B B':List C} (e:Elem h lr i n x B) (e':Elem h lr i n y B') (hx:x.length=n) (hy:y.length=n):x=y/\B=B':=by
 have h1:=e.box;rw[e'.box] at h1;cases h1;have h2:=e.rd0 n (Y09 _);rw[e'.rd0 n (Y09 _)] at h2;have tx:takeN n x=some x:=by simp[takeN,hx,Y0l]
 have ty:takeN n y=some y:=by simp[takeN,hy,Y0l]
 rw[tx,ty] at h2;exact⟨(Option.some.inj h2).symm,rfl⟩
theorem Elem.frame {h h':HS} {lr:Lab} {i n:Nat} {x B:List C} (e:Elem h lr i n x B) (hb:h'.box lr=h.box lr):Elem h' lr i n x B:=⟨by rw[hb];exact e.box,e.rd,e.rd0,e.le⟩
structure TblV (h:HS) (l:Lab) (S:Sch) (tc fc oc:C) (ta fa oa:List Lab) (i:Nat) (T:Tbl) (lt:Lab) (c1 c2:C) (B:List C):Prop where
 el:Elem h lt i 3 [.d (.str T.name),c1,c2] B
 hd:∃ cap,tc=.mrow lt 0 S.tables.length cap
 tm:lt ∈ ta
 f1:∀ h',Same h h' []->Frz h' c1 (.sl (T.cols.map Col.enc))
 f2:∀ h',Same h h' []->Frz h' c2 (.sl (T.pk.map encI))
 n1:cLen c1=some T.cols.length/\T.cols.length<=LIM
 n2:cLen c2=some T.pk.length/\T.pk.length<=LIM
 l1:∀ k ∈ labs c1,k ∈ ta/\k≠lt
 l2:∀ k ∈ labs c2,k ∈ ta/\k≠lt
 l12:∀ k ∈ labs c1,k ∉ labs c2
 m1:T.cols≠[]->MR h 3 c1 (T.cols.map fun c=>c.enc.map C.d)
 m2:T.pk≠[]->MR h 1 c2 (T.pk.map fun c=>(encI c).map C.d)
 e1:∀ (k:Nat) (c:Col),T.cols[k]? = some c->∃ l2 cap2 B2,c1=.mrow l2 0 T.cols.length cap2/\Elem h l2 k 3 (c.enc.map C.d) B2 /\
  ∀ (g:Nat) (vs:List C) (c':Col),g+vs.length<=3->Z01 (c.enc.map C.d) g vs=c'.enc.map C.d->Sc (h.setBox l2 (Z01 B2 (k * 3+g) vs)) l { S with tables:=S.tables.set i { T with cols:=T.cols.set k c' } } tc fc oc ta fa oa
 e2:∀ (k:Nat) (v:Int),T.pk[k]? = some v->∃ l2 cap2 B2,c2=.mrow l2 0 T.pk.length cap2/\Elem h l2 k 1 [.d (.int .i64 v)] B2 /\
  ∀ v',Sc (h.setBox l2 (Z01 B2 (k * 1) [.d (.int .i64 v')])) l { S with tables:=S.tables.set i { T with pk:=T.pk.set k v' } } tc fc oc ta fa oa
 s1:∀ (h':HS) (c1':C) (cols':List Col),MR h' 3 c1' (cols'.map fun c=>c.enc.map C.d)->Same h h' (labs c1)->(∀ k ∈ labs c1',k ∈ labs c1\/(k ∉ l::(ta++(fa++oa))/\k.1 < h'.ep)) ->
  ∃ ta',Sc (h'.setBox lt (Z01 B (i * 3+1) [c1'])) l { S with tables:=S.tables.set i { T with cols:=cols' } } tc fc oc ta' fa oa/\∀ k ∈ ta',k ∈ ta\/k ∈ labs c1'
 s2:∀ (h':HS) (c2':C) (pk':List Int),MR h' 1 c2' (pk'.map fun c=>(encI c).map C.d)->Same h h' (labs c2)->(∀ k ∈ labs c2',k ∈ labs c2\/(k ∉ l::(ta++(fa++oa))/\k.1 < h'.ep)) ->
  ∃ ta',Sc (h'.setBox lt (Z01 B (i * 3+2) [c2'])) l { S with tables:=S.tables.set i { T with pk:=pk' } } tc fc oc ta' fa oa/\∀ k ∈ ta',k ∈ ta\/k ∈ labs c2'
theorem Z5i {α:Type} {f:α->List D} {xs:List α}:(xs.map fun c=>(f c).map C.d)=(xs.map f).map (·.map C.d):=by simp
theorem Part.data {h:HS} {n:Nat} {sh:List Sh} {c:C} {qs:List Q} {ds:List (List D)} (P:Part h sh c qs ds) (hsh:sh=List.replicate n .d) (hf:∀ d ∈ ds,∀ x ∈ d,x.flat=true):MR h n c (ds.map (·.map C.d))/\plabs c qs=labs c:=by
 have hd:=P.ds;subst hd;have key:∀ q ∈ qs,q.1=q.2.1.map C.d/\q.2.2=[]:=fun q hq=>(P.ow q hq).flat hsh (hf q.2.1 (Y0m.2 ⟨q,hq,rfl⟩));have e:qs.map (·.1)=(qs.map (·.2.1)).map (·.map C.d):=by
  rw[Y28];exact Y2y fun q hq=>(key q hq).1
 have hn:sh.length=n:=by rw[hsh];simp
 refine⟨by rw[<- e,<- hn];exact P.mr,?_⟩
 have:qs.flatMap (·.2.2)=[]:=by
  rw[Y2j];exact fun q hq=>(key q hq).2
 rw[plabs,this,Y0k]
set_option maxHeartbeats 1000000 in
theorem Sc.tbl {h:HS} {l:Lab} {S:Sch} {tc fc oc:C} {ta fa oa:List Lab} (s:Sc h l S tc fc oc ta fa oa) {i:Nat} {T:Tbl} (hi:S.tables[i]? = some T):∃ lt c1 c2 B,TblV h l S tc fc oc ta fa oa i T lt c1 c2 B:=by
 obtain⟨qt,qf,qo,rfl,rfl,rfl,s⟩:=s;have hnd:=s.nds.1;have hlt:∀ k ∈ plabs tc qt,k.1 < h.ep:=fun k hk=>s.lt k (by simp[hk]);obtain⟨q,lt,cap,sp,h1,h2,h3,h4,h5,h6⟩:=s.t.elem (Z6c (f:=Tbl.enc) hi);have hm:lt ∈ plabs tc qt:=by rw[h4];simp[plabs,labs]
 rw[Ze2] at h5 h6;obtain⟨qc,qd,ql⟩:=q;simp only at h2 h3 h6;subst h2;obtain⟨c0,x0,cs,ds,rfl,e1,e2,h7⟩:=h3.inv_d;simp only[Tbl.enc,List.cons.injEq] at e1;obtain⟨rfl,rfl⟩:=e1;obtain rfl:=(Frz.data (h:=h) e2).flat rfl;obtain⟨c1,cs1,lc,lr,rfl,rfl,o1,h8⟩:=h7.split;obtain⟨c2,cs2,lp,lz,rfl,rfl,o2,h9⟩:=h8.split;obtain⟨rfl,_,rfl⟩:=h9.inv_nil;have hndq:=Zfo hnd h1;simp only[Y0k,Y0e] at hndq;obtain⟨nd1,nd2,nd12⟩:=hndq;have hself:∀ k,k ∈ lc\/k ∈ lp->k ∈ plabs tc qt/\k≠lt:=fun k hk=>⟨Z42 h1 (by simpa using hk),fun he=>Z4v hnd h1 (k:=k) (by simpa using hk) (by rw[he,h4];simp[labs])⟩;have hset0:(qt.map (·.1)).set i [C.d (.str T.name),c1,c2]=qt.map (·.1):=Zb1 (Z6c (f:=fun q:Q=>q.1) h1);have f1':∀ h',(∀ k ∈ lc,h'.box k=h.box k)->Ow h' [.r [.d,.d,.d]] [c1] [.sl (T.cols.map Col.enc)] lc:=fun h' hb=>o1.frame hb;have f2':∀ h',(∀ k ∈ lp,h'.box k=h.box k)->Ow h' [.r [.d]] [c2] [.sl (T.pk.map encI)] lp:=fun h' hb=>o2.frame hb;have mk:∀ {h':HS} {c1' c2':C} {T':Tbl} {a b:List Lab},T'.name=T.name->Ow h' [.r [.d,.d,.d]] [c1'] [.sl (T'.cols.map Col.enc)] a->Ow h' [.r [.d]] [c2'] [.sl (T'.pk.map encI)] b->Ow h' TblSh [.d (.str T.name),c1',c2'] T'.enc (a++b):=fun hn x y=>by
  have:=Ow.data (c:=.d (.str T.name)) (x:=.str T.name) rfl (x.join (y.join .nil))
  rw[Y0k] at this;rw[Tbl.enc,hn];exact this
 have nw:∀ {l2:Lab} {B2:List C},l2 ∈ lc\/l2 ∈ lp->Same h (h.setBox l2 B2) (labs tc++(lc++(lp++[]))):=fun hl=>Same.set1 (by simpa using .inr hl);have mrk:∀ {h':HS},(∀ k,h'.box lt=h.box lt)->MR h' 3 tc ((qt.map (·.1)).set i [C.d (.str T.name),c1,c2]):=fun hb=>by
  rw[hset0];exact s.t.mr.frame fun k hk=>by
   rw[h4] at hk;simp[labs] at hk;rw[hk];exact hb lt
 have p1:T.cols≠[]->∃ qs1,lc=plabs c1 qs1/\Part h [.d,.d,.d] c1 qs1 (T.cols.map Col.enc):=fun h0=>o1.npart (by simpa using h0);have p2:T.pk≠[]->∃ qs2,lp=plabs c2 qs2/\Part h [.d] c2 qs2 (T.pk.map encI):=fun h0=>o2.npart (by simpa using h0);have n1:=o1.nlen;have n2:=o2.nlen;refine⟨lt,c1,c2,_,h6,⟨cap,by simpa using h4⟩,hm,fun h' hs=>(f1' h' fun k hk=>hs.2 k (hlt k (hself k (.inl hk)).1) (by simp)).nfrz,fun h' hs=>(f2' h' fun k hk=>hs.2 k (hlt k (hself k (.inr hk)).1) (by simp)).nfrz,by simpa using n1,by simpa using n2,
  fun k hk=>⟨(hself k (.inl (o1.nlabs k hk))).1,(hself k (.inl (o1.nlabs k hk))).2⟩,fun k hk=>⟨(hself k (.inr (o2.nlabs k hk))).1,(hself k (.inr (o2.nlabs k hk))).2⟩,fun k hk hk2=>nd12 k (o1.nlabs k hk) k (o2.nlabs k hk2) rfl,fun h0=>?_,fun h0=>?_,fun k c hk=>?_,fun k v hk=>?_,fun h' c1' cols' hm1 hs1 hl1=>?_,fun h' c2' pk' hm2 hs2 hl2=>?_⟩
 .obtain⟨qs1,_,P1⟩:=p1 h0;rw[Z5i];exact (P1.data (n:=3) rfl (by simp[D.flat])).1
 .obtain⟨qs2,_,P2⟩:=p2 h0;rw[Z5i];exact (P2.data (n:=1) rfl (by simp[D.flat])).1
 .obtain⟨qs1,rfl,P1⟩:=p1 (fun h0=>by rw[h0] at hk;simp at hk);obtain⟨l2,cap2,B2,k1,k2,k3,k4⟩:=P1.elemD (n:=3) rfl (Z6c (f:=Col.enc) hk) c.flat;have hl2:l2 ∈ plabs c1 qs1:=by rw[k1];simp[plabs,labs]
  refine⟨l2,cap2,B2,by simpa using k1,k2,fun g vs c' hg hset=>?_⟩;obtain⟨qs1',k5,k6⟩:=k4 g vs c'.enc nd1 hg hset rfl;have ho:=mk (h':=h.setBox l2 (Z01 B2 (k * 3+g) vs)) (T':={ T with cols:=T.cols.set k c' }) rfl (by rw[Z8l];exact k5 ▸ Ow.of_part k6) (f2' _ fun k' hk'=>by
   have:k'≠l2:=fun he=>nd12 l2 hl2 k' hk' he.symm
   simp[this])
  have:=s.updT h1 (mrk fun _=>by have:=(hself l2 (.inl hl2)).2;simp[this.symm]) ho (nw (.inl hl2)) (by rw[Y0e];exact⟨nd1,nd2,nd12⟩) (fun k hk=>.inl (by simpa using hk))
  exact⟨_,qf,qo,(Z7o h1 (by simp)).symm,rfl,rfl,this⟩
 .obtain⟨qs1,rfl,P1⟩:=p2 (fun h0=>by rw[h0] at hk;simp at hk);obtain⟨l2,cap2,B2,k1,k2,k3,k4⟩:=P1.elemD (n:=1) rfl (Z6c (f:=encI) hk) (Zdt v);have hl2:l2 ∈ plabs c2 qs1:=by rw[k1];simp[plabs,labs]
  refine⟨l2,cap2,B2,by simpa using k1,k2,fun v'=>?_⟩;obtain⟨qs1',k5,k6⟩:=k4 0 [.d (.int .i64 v')] [.int .i64 v'] nd2 (by simp) (by simp) (by simp);simp only[Y1q] at k6;have ho:=mk (h':=h.setBox l2 (Z01 B2 (k * 1) [.d (.int .i64 v')])) (T':={ T with pk:=T.pk.set k v' }) rfl (f1' _ fun k' hk'=>by
   have:k'≠l2:=fun he=>nd12 k' hk' l2 hl2 he
   simp[this]) (by rw[Z8l];exact k5 ▸ Ow.of_part k6)
  have:=s.updT h1 (mrk fun _=>by have:=(hself l2 (.inr hl2)).2;simp[this.symm]) ho (nw (.inr hl2)) (by rw[Y0e];exact⟨nd1,nd2,nd12⟩) (fun k hk=>.inl (by simpa using hk))
  exact⟨_,qf,qo,(Z7o h1 (by simp)).symm,rfl,rfl,this⟩
 .have hlt2:h'.box lt=h.box lt:=hs1.2 lt (hlt lt hm) fun hk=>(hself lt (.inl (o1.nlabs lt hk))).2 rfl;have hn1:∀ k ∈ labs c1',k≠lt/\k ∉ lp/\(k ∈ lc\/(k ∉ l::(plabs tc qt++(plabs fc qf++plabs oc qo))/\k.1 < h'.ep)):=fun k hk=>by
   rcases hl1 k hk with h2 | h2
   .have:=o1.nlabs k h2
    exact⟨(hself k (.inl this)).2,fun h3=>nd12 k this k h3 rfl,.inl this⟩
   .exact⟨fun he=>h2.1 (by simp[he,hm]),fun h3=>h2.1 (by simp[(hself k (.inr h3)).1]),.inr h2⟩
  have ho:=mk (h':=h'.setBox lt (Z01 (rowBox (qt.map (·.1)) sp) (i * 3+1) [c1'])) (c2':=c2) (T':={ T with cols:=cols' }) rfl (Ow.nrow (n:=3) (by
    rw[<- Z5i];exact hm1.frame fun k hk=>by simp[(hn1 k hk).1]) rfl (by simp)) (f2' _ fun k' hk'=>by
   have h2:=hself k' (.inr hk')
   have:h'.box k'=h.box k':=hs1.2 k' (hlt k' h2.1) fun h3=>nd12 k' (o1.nlabs k' h3) k' hk' rfl
   simp[h2.2,this])
  have hset:=Z9a (sp:=sp) (vs:=[c1']) (f:=1) s.t.mr.1 (Z6c (f:=fun q:Q=>q.1) h1) (by simp[TblSh]);simp only[Ze2] at hset
  have:=s.updT (T':={ T with cols:=cols' }) h1 (h':=h'.setBox lt (Z01 (rowBox (qt.map (·.1)) sp) (i * 3+1) [c1'])) (cs':=[.d (.str T.name),c1',c2]) (lq':=labs c1'++lp) ?_ ho ?_ ?_ ?_
  .refine⟨_,⟨_,qf,qo,rfl,rfl,rfl,this⟩,fun k hk=>?_⟩;rcases Z9c h1 hk with h2 | h2
   .exact .inl h2
   .simp only[Y02] at h2;rcases h2 with h2 | h2
    .exact .inr h2
    .exact .inl (hself k (.inr h2)).1
  .refine⟨s.t.mr.1.set (by simp[TblSh]),by simpa using s.t.mr.2.1,.inr ⟨lt,cap,sp,?_,by simp[hset],?_⟩⟩
   .have e3:qt.length=S.tables.length:=by have:=congrArg List.length s.t.ds;simpa using this
    rw[h4];simp[e3]
   .have e4:rowBox ((qt.map (·.1)).set i [.d (.str T.name),c1',c2]) sp=Z01 (rowBox (qt.map (·.1)) sp) (i * 3+1) [c1']:=by rw[hset];simp
    rw[e4,Z0z (by have:=h6.le;simp;omega)];exact h5
  .exact (hs1.mono fun k hk=>by simp[o1.nlabs k hk]).setBox (.inl (by rw[h4];simp[labs]))
  .rw[Y0e];exact⟨Z1t,nd2,fun a ha b hb he=>(hn1 a ha).2.1 (he ▸ hb)⟩
  .intro k hk;rcases Y02.1 hk with h2 | h2
   .exact (hn1 k h2).2.2.imp (fun h3=>by simp[h3]) id
   .exact .inl (by simp[h2])
 .have hlt2:h'.box lt=h.box lt:=hs2.2 lt (hlt lt hm) fun hk=>(hself lt (.inr (o2.nlabs lt hk))).2 rfl;have hn1:∀ k ∈ labs c2',k≠lt/\k ∉ lc/\(k ∈ lp\/(k ∉ l::(plabs tc qt++(plabs fc qf++plabs oc qo))/\k.1 < h'.ep)):=fun k hk=>by
   rcases hl2 k hk with h2 | h2
   .have:=o2.nlabs k h2
    exact⟨(hself k (.inr this)).2,fun h3=>nd12 k h3 k this rfl,.inl this⟩
   .exact⟨fun he=>h2.1 (by simp[he,hm]),fun h3=>h2.1 (by simp[(hself k (.inl h3)).1]),.inr h2⟩
  have ho:=mk (h':=h'.setBox lt (Z01 (rowBox (qt.map (·.1)) sp) (i * 3+2) [c2'])) (c1':=c1) (T':={ T with pk:=pk' }) rfl (f1' _ fun k' hk'=>by
   have h2:=hself k' (.inl hk')
   have:h'.box k'=h.box k':=hs2.2 k' (hlt k' h2.1) fun h3=>nd12 k' hk' k' (o2.nlabs k' h3) rfl
   simp[h2.2,this]) (Ow.nrow (n:=1) (by
    rw[<- Z5i];exact hm2.frame fun k hk=>by simp[(hn1 k hk).1]) rfl (by simp))
  have hset:=Z9a (sp:=sp) (vs:=[c2']) (f:=2) s.t.mr.1 (Z6c (f:=fun q:Q=>q.1) h1) (by simp[TblSh]);simp only[Ze2] at hset
  have:=s.updT (T':={ T with pk:=pk' }) h1 (h':=h'.setBox lt (Z01 (rowBox (qt.map (·.1)) sp) (i * 3+2) [c2'])) (cs':=[.d (.str T.name),c1,c2']) (lq':=lc++labs c2') ?_ ho ?_ ?_ ?_
  .refine⟨_,⟨_,qf,qo,rfl,rfl,rfl,this⟩,fun k hk=>?_⟩;rcases Z9c h1 hk with h2 | h2
   .exact .inl h2
   .simp only[Y02] at h2;rcases h2 with h2 | h2
    .exact .inl (hself k (.inl h2)).1
    .exact .inr h2
  .refine⟨s.t.mr.1.set (by simp[TblSh]),by simpa using s.t.mr.2.1,.inr ⟨lt,cap,sp,?_,by simp[hset],?_⟩⟩
   .have e3:qt.length=S.tables.length:=by have:=congrArg List.length s.t.ds;simpa using this
    rw[h4];simp[e3]
   .have e4:rowBox ((qt.map (·.1)).set i [.d (.str T.name),c1,c2']) sp=Z01 (rowBox (qt.map (·.1)) sp) (i * 3+2) [c2']:=by rw[hset];simp
    rw[e4,Z0z (by have:=h6.le;simp;omega)];exact h5
  .exact (hs2.mono fun k hk=>by simp[o2.nlabs k hk]).setBox (.inl (by rw[h4];simp[labs]))
  .rw[Y0e];exact⟨nd1,Z1t,fun a ha b hb he=>(hn1 b hb).2.1 (he ▸ ha)⟩
  .intro k hk;rcases Y02.1 hk with h2 | h2
   .exact .inl (by simp[h2])
   .exact (hn1 k h2).2.2.imp (fun h3=>by simp[h3]) id
theorem Sc.tblK {h:HS} {l:Lab} {S:Sch} {fc oc:C} {ta fa oa:List Lab} {lr:Lab} {n cap i:Nat} {B:List C} {T:Tbl} (s:Sc h l S (.mrow lr 0 n cap) fc oc ta fa oa) (hb:h.box lr=some B) (hi:S.tables[i]? = some T):∃ c1 c2,TblV h l S (.mrow lr 0 n cap) fc oc ta fa oa i T lr c1 c2 B:=by
 obtain⟨lt,c1,c2,B2,v⟩:=s.tbl hi;obtain⟨cap2,e⟩:=v.hd;simp at e;obtain⟨rfl,-,-⟩:=e;have e2:=v.el.box;rw[hb] at e2;cases e2;exact⟨c1,c2,v⟩
end Go.Proofs.YtbcejndfbklikaaGreatDoor
end
section
namespace Go.Am
open Go
theorem AllC.app {n:Nat} {xs ys:List (List C)} (h1:AllC n xs) (h2:AllC n ys):AllC n (xs++ys):=AllC.append.2 ⟨h1,h2⟩
theorem app_mr {P:Program} {ty el:TypeId} {n by_ d:Nat} {h:HS} {c x:C} {xs ys:List (List C)} {K:V->HS->Prop} (hel:elT P ty=some (el,n,by_)) (hz:(zeT P el).isSome=true) (h0:0 < n) (hb:by_<=4096) (hm:MR h n c xs) (hr:RowAt h n x ys) (hl:xs.length+ys.length<=LIM)
  (hk:∀ c' h',MR h' n c' (xs++ys)->Same h h' (labs c)->(∀ k ∈ labs c',k ∈ labs c\/(h.ep<=k.1/\k.1 < h'.ep))->K (.one c') h'):appK P ty c x d h (K:=⟨K⟩):=by
 obtain⟨hc,hln,ha,_⟩:=hr;have hal:=hm.1;have key:∀ cap',(xs++ys).length<=cap'->∀ h',h'.box (h.ep,16 * d)=some (rowBox (xs++ys) (List.replicate ((cap' - (xs++ys).length) * n) .any))->MR h' n (.mrow (h.ep,16 * d) 0 (xs++ys).length cap') (xs++ys):=fun cap' hcap h' hbx=>by
  refine⟨hal.app ha,by simpa using hl,.inr ⟨_,cap',_,rfl,hbx,?_⟩⟩;rw[Z0e (hal.app ha),Y1l,<- Y0x]
  congr 1
  omega
 rcases hm.2.2 with ⟨rfl,hcz⟩ | ⟨l,cap,sp,rfl,hbx,hcap⟩
 .have hh:appHdr h n c=some (0,0,[],none):=by rcases hcz with rfl | rfl<;>rfl
  refine Z8s hel hh hc hln hz h0 hb (by simpa using hl) ha.flatten (by simp) (fun h1=>?_) (fun h1 h2=>by omega) (fun h1 h2 cap' hcap=>?_)
  .have:ys=[]:=Y0o h1
   subst this;exact hk _ _ (by simpa using hm) .refl (fun k hk=>.inl hk)
  .simp only[Y25] at hcap |-;refine hk _ _ (key cap' (by simpa using hcap) _ ?_) ((Same.refl.setBox (.inr (Y09 _))).next) (by simp[labs]);simp[rowBox]
 .have hrc:=Z8g (n:=n) (off:=0) (k:=xs.length) (cap:=cap) hal hbx (by simp);have hh:appHdr h n (.mrow l 0 xs.length cap)=some (xs.length,cap,xs.flatten,some (l,0)):=by
   simp only[Nat.zero_mul,Y27,Y1b] at hrc;show (match Z0x h n (.mrow l 0 xs.length cap) with | some cs=>_ | none=>_)=_;rw[hrc]
  refine Z8s hel hh hc hln hz h0 hb hl ha.flatten hal.flatten (fun h1=>?_) (fun h1 h2 l' off he=>?_) (fun h1 h2 cap' hcap'=>?_)
  .have:ys=[]:=Y0o h1
   subst this;exact hk _ _ (by simpa using hm) .refl (fun k hk=>.inl hk)
  .simp only[Y06,Y07] at he;obtain⟨rfl,rfl⟩:=he;have hle:(xs.length+ys.length) * n<=cap * n:=Y1j n h2;refine⟨_,hbx,by rw[hcap];omega,?_⟩;have hput:=Zfl (sp:=sp) (i:=xs.length) hal ha (Y09 _);rw[Y1b] at hput;rw[Y25,hput];refine hk _ _ ⟨hal.app ha,by simpa using hl,.inr ⟨l,cap,(rowBox xs sp).drop ((xs.length+ys.length) * n),by simp,by simp,?_⟩⟩ (Same.refl.setBox (.inl (by simp[labs]))) (fun k hk=>.inl hk);rw[Z0e (hal.app ha),Y1u,hcap,Y0f];omega
  .have hk2:=key cap' (by simpa using hcap') (((h.setBox (h.ep,16 * d) (xs.flatten++ys.flatten++List.replicate ((cap' - (xs.length+ys.length)) * n) .any)).next)) (by simp[rowBox]);rw[Y0f] at hk2;refine hk _ _ hk2 ((Same.refl.setBox (.inr (Y09 _))).next) (by simp[labs])
theorem Zim {P:Program} {ty el:TypeId} {n by_ d:Nat} {h:HS} {c x:C} {xs ys:List (List C)} {K:V->HS->Prop} (hel:elT P ty=some (el,n,by_)) (hz:(zeT P el).isSome=true) (h0:0 < n) (hb:by_<=4096) (hm:MR h n c xs) (hr:RowAt h n x ys) (hl:xs.length+ys.length<=LIM)
  (hk:∀ c' h',MR h' n c' (xs++ys)->((Same h h' (labs c)/\labs c'=labs c)\/(Same h h' []/\∀ k ∈ labs c',h.ep<=k.1/\k.1 < h'.ep))->K (.one c') h'):appK P ty c x d h (K:=⟨K⟩):=by
 obtain⟨hc,hln,ha,_⟩:=hr;have hal:=hm.1;have key:∀ cap',(xs++ys).length<=cap'->∀ h',h'.box (h.ep,16 * d)=some (rowBox (xs++ys) (List.replicate ((cap' - (xs++ys).length) * n) .any))->MR h' n (.mrow (h.ep,16 * d) 0 (xs++ys).length cap') (xs++ys):=fun cap' hcap h' hbx=>by
  refine⟨hal.app ha,by simpa using hl,.inr ⟨_,cap',_,rfl,hbx,?_⟩⟩;rw[Z0e (hal.app ha),Y1l,<- Y0x]
  congr 1
  omega
 rcases hm.2.2 with ⟨rfl,hcz⟩ | ⟨l,cap,sp,rfl,hbx,hcap⟩
 .have hh:appHdr h n c=some (0,0,[],none):=by rcases hcz with rfl | rfl<;>rfl
  refine Z8s hel hh hc hln hz h0 hb (by simpa using hl) ha.flatten (by simp) (fun h1=>?_) (fun h1 h2=>by omega) (fun h1 h2 cap' hcap=>?_)
  .have:ys=[]:=Y0o h1
   subst this;exact hk _ _ (by simpa using hm) (.inl ⟨.refl,rfl⟩)
  .simp only[Y25] at hcap |-;refine hk _ _ (key cap' (by simpa using hcap) _ ?_) (.inr ⟨(Same.refl.setBox (.inr (Y09 _))).next,by simp[labs]⟩);simp[rowBox]
 .have hrc:=Z8g (n:=n) (off:=0) (k:=xs.length) (cap:=cap) hal hbx (by simp);have hh:appHdr h n (.mrow l 0 xs.length cap)=some (xs.length,cap,xs.flatten,some (l,0)):=by
   simp only[Nat.zero_mul,Y27,Y1b] at hrc;show (match Z0x h n (.mrow l 0 xs.length cap) with | some cs=>_ | none=>_)=_;rw[hrc]
  refine Z8s hel hh hc hln hz h0 hb hl ha.flatten hal.flatten (fun h1=>?_) (fun h1 h2 l' off he=>?_) (fun h1 h2 cap' hcap'=>?_)
  .have:ys=[]:=Y0o h1
   subst this;exact hk _ _ (by simpa using hm) (.inl ⟨.refl,rfl⟩)
  .simp only[Y06,Y07] at he;obtain⟨rfl,rfl⟩:=he;have hle:(xs.length+ys.length) * n<=cap * n:=Y1j n h2;refine⟨_,hbx,by rw[hcap];omega,?_⟩;have hput:=Zfl (sp:=sp) (i:=xs.length) hal ha (Y09 _);rw[Y1b] at hput;rw[Y25,hput];refine hk _ _ ⟨hal.app ha,by simpa using hl,.inr ⟨l,cap,(rowBox xs sp).drop ((xs.length+ys.length) * n),by simp,by simp,?_⟩⟩ (.inl ⟨Same.refl.setBox (.inl (by simp[labs])),rfl⟩);rw[Z0e (hal.app ha),Y1u,hcap,Y0f];omega
  .have hk2:=key cap' (by simpa using hcap') (((h.setBox (h.ep,16 * d) (xs.flatten++ys.flatten++List.replicate ((cap' - (xs.length+ys.length)) * n) .any)).next)) (by simp[rowBox]);rw[Y0f] at hk2;refine hk _ _ hk2 (.inr ⟨(Same.refl.setBox (.inr (Y09 _))).next,by simp[labs]⟩)
end Go.Am
namespace Go.Proofs.YtbcejndfbklikaaGreatDoor
open Go Go.Am
theorem Zag {α:Type} (lt:α->α->Bool):∀ (k i:Nat) (ws:List α),(outerS lt k i ws).Perm ws
 | 0,_,ws=>.refl _
 | k+1,i,ws=>(Zag lt k (i+1) _).trans (Zdj lt i ws)
theorem Zeu {α β:Type} {lt:α->α->Bool} {lt':β->β->Bool} {f:α->β} (hl:∀ x y,lt' (f x) (f y)=lt x y):∀ (j:Nat) (ws:List α),innerS lt' j (ws.map f)=(innerS lt j ws).map f
 | 0,ws=>rfl
 | j+1,ws=>by
   unfold innerS;rw[Y0b,Y0b];cases h1:ws[j+1]? with
   | none=>rfl
   | some x=>
     cases h2:ws[j]? with
     | none=>rfl
     | some y=>
       simp only[Y0h,hl];cases lt x y with
       | false=>rfl
       | true=>
         simp only[if_true];rw[<- Zeu hl j,Y11,Y11]
theorem Z9x {α β:Type} {lt:α->α->Bool} {lt':β->β->Bool} {f:α->β} (hl:∀ x y,lt' (f x) (f y)=lt x y):∀ (k i:Nat) (ws:List α),outerS lt' k i (ws.map f)=(outerS lt k i ws).map f
 | 0,_,ws=>rfl
 | k+1,i,ws=>by
   simp only[outerS];rw[Zeu hl,Z9x hl k]
end Go.Proofs.YtbcejndfbklikaaGreatDoor
end
section
namespace Go.Proofs.YtbcejndfbklikaaGreatDoor
open Go Go.Am
theorem Part.add {h h':HS} {sh:List Sh} {c c':C} {qs:List Q} {ds:List (List D)} {x:List C} {d:List D} {lx:List Lab} (P:Part h sh c qs ds) (hnd:(plabs c qs).Nodup) (hlt:∀ k ∈ plabs c qs,k.1 < h.ep) (hm:MR h' sh.length c' (qs.map (·.1)++[x])) (hs:Same h h' (labs c)) (ho:Ow h' sh x d lx) :
  Part h' sh c' (qs++[(x,d,lx)]) (ds++[d]):=by
 have hd:=P.ds;subst hd;refine⟨by simpa using hm,by simp,fun q hq=>?_⟩;rcases Y02.1 hq with hq | hq
 .refine (P.ow q hq).frame fun k hk=>?_;obtain⟨i,hi⟩:=Y1c hq;exact hs.2 k (hlt k (Z42 hi hk)) (Z4v hnd hi hk)
 .simp at hq;subst hq;exact ho
theorem Zb6 {c c':C} {qs:List Q} {x:List C} {d:List D} {lx:List Lab} {ep:Nat} (hnd:(plabs c qs).Nodup) (hlt:∀ k ∈ plabs c qs,k.1 < ep) (hc:∀ k ∈ labs c',k ∈ labs c\/ep<=k.1) (hx:lx.Nodup) (hx2:∀ k ∈ lx,k ∉ plabs c qs/\k ∉ labs c'):(plabs c' (qs++[(x,d,lx)])).Nodup:=by
 simp only[plabs,List.flatMap_append,Y0r,Y26,Y0k,Y0e,Y02] at hnd hlt hx2 |-;refine⟨Z1t,⟨hnd.2.1,hx,fun a ha b hb he=>(hx2 b hb).1 (.inr (he ▸ ha))⟩,fun a ha b hb he=>?_⟩;subst he;rcases hb with hb | hb
 .rcases hc a ha with h1 | h1
  .exact hnd.2.2 a h1 a hb rfl
  .have:=hlt a (.inr hb);omega
 .exact (hx2 a hb).2 ha
theorem Z2x {c':C} {qs:List Q} {x:List C} {d:List D} {lx:List Lab} {k:Lab} (hk:k ∈ plabs c' (qs++[(x,d,lx)])):k ∈ labs c'\/k ∈ qs.flatMap (·.2.2)\/k ∈ lx:=by
 simpa[plabs] using hk
def Adds (h:HS) (n:Nat) (c:C) (len:Nat) (sh:List Sh) (own:List Lab) (R:HS->C->List D->List Lab->Prop):Prop:=∃ xs,MR h n c xs/\xs.length=len /\
 ∀ (h':HS) (c':C) (x:List C) (d:List D) (lx:List Lab),MR h' n c' (xs++[x])->Same h h' (labs c)->(∀ k ∈ labs c',k ∈ labs c\/(h.ep<=k.1/\k.1 < h'.ep))->Ow h' sh x d lx->lx.Nodup->(∀ k ∈ lx,k.1 < h'.ep/\k ∉ own/\k ∉ labs c')->R h' c' d lx
theorem Sc.addT {h:HS} {l:Lab} {S:Sch} {tc fc oc:C} {ta fa oa:List Lab} (s:Sc h l S tc fc oc ta fa oa):Adds h 3 tc S.tables.length TblSh (l::(ta++(fa++oa))) fun h' c' d lx=>∀ T,d=Tbl.enc T ->
  ∃ ta',Sc (h'.setBox l [c',fc,oc]) l { S with tables:=S.tables++[T] } c' fc oc ta' fa oa/\∀ k ∈ ta',k ∈ ta\/k ∈ lx\/h.ep<=k.1:=by
 obtain⟨qt,qf,qo,rfl,rfl,rfl,s⟩:=s;have hlen:qt.length=S.tables.length:=by have:=congrArg List.length s.t.ds;simpa using this
 have hlt:∀ k ∈ plabs tc qt,k.1 < h.ep:=fun k hk=>s.lt k (by simp[hk]);refine⟨qt.map (fun q:Q=>q.1),s.t.mr,by simpa using hlen,fun h' c' x d lx hm hs hl ho hx hx2 T hd=>?_⟩;subst hd;have hp:=s.t.add s.nds.1 hlt hm hs ho;have hnl:∀ k ∈ plabs c' (qt++[(x,T.enc,lx)]),k≠l:=fun k hk he=>by
  subst he;rcases Z2x hk with h1 | h1 | h1
  .rcases hl k h1 with h2 | h2
   .exact s.ne.1 (by simp[plabs,h2])
   .have:=s.lt k (by simp);omega
  .exact s.ne.1 (by simp[plabs];right;simpa using h1)
  .exact (hx2 k h1).2.1 (by simp)
 refine⟨_,⟨_,qf,qo,rfl,rfl,rfl,s.setT2 (by simp) (qt':=qt++[(x,T.enc,lx)]) (by simpa using hp.frame fun k hk=>by simp[hnl k hk]) ((hs.mono fun k hk=>by simp[plabs,hk]).setBox (.inl (by simp))) (Zb6 s.nds.1 hlt (fun k hk=>(hl k hk).imp_right And.left) hx fun k hk=>⟨fun h2=>(hx2 k hk).2.1 (by simp[h2]),(hx2 k hk).2.2⟩) fun k hk=>?_⟩,fun k hk=>?_⟩
 .rcases Z2x hk with h1 | h1 | h1
  .rcases hl k h1 with h2 | h2
   .exact .inl (by simp[plabs,h2])
   .exact .inr ⟨fun h3=>by have:=s.lt k h3;omega,by simpa using h2.2⟩
  .exact .inl (by simp[plabs];right;simpa using h1)
  .exact .inr ⟨(hx2 k h1).2.1,by simpa using (hx2 k h1).1⟩
 .rcases Z2x hk with h1 | h1 | h1
  .rcases hl k h1 with h2 | h2
   .exact .inl (by simp[plabs,h2])
   .exact .inr (.inr h2.1)
  .exact .inl (by simp[plabs];right;simpa using h1)
  .exact .inr (.inl h1)
theorem Sc.addF {h:HS} {l:Lab} {S:Sch} {tc fc oc:C} {ta fa oa:List Lab} (s:Sc h l S tc fc oc ta fa oa):Adds h 3 fc S.fks.length FkSh (l::(ta++(fa++oa))) fun h' c' d lx=>∀ T,d=Fk.enc T ->
  ∃ fa',Sc (h'.setBox l [tc,c',oc]) l { S with fks:=S.fks++[T] } tc c' oc ta fa' oa/\∀ k ∈ fa',k ∈ fa\/k ∈ lx\/h.ep<=k.1:=by
 obtain⟨qt,qf,qo,rfl,rfl,rfl,s⟩:=s;have hlen:qf.length=S.fks.length:=by have:=congrArg List.length s.f.ds;simpa using this
 have hlt:∀ k ∈ plabs fc qf,k.1 < h.ep:=fun k hk=>s.lt k (by simp[hk]);refine⟨qf.map (fun q:Q=>q.1),s.f.mr,by simpa using hlen,fun h' c' x d lx hm hs hl ho hx hx2 T hd=>?_⟩;subst hd;have hp:=s.f.add s.nds.2.1 hlt hm hs ho;have hnl:∀ k ∈ plabs c' (qf++[(x,T.enc,lx)]),k≠l:=fun k hk he=>by
  subst he;rcases Z2x hk with h1 | h1 | h1
  .rcases hl k h1 with h2 | h2
   .exact s.ne.2.1 (by simp[plabs,h2])
   .have:=s.lt k (by simp);omega
  .exact s.ne.2.1 (by simp[plabs];right;simpa using h1)
  .exact (hx2 k h1).2.1 (by simp)
 refine⟨_,⟨qt,_,qo,rfl,rfl,rfl,s.setF2 (by simp) (qf':=qf++[(x,T.enc,lx)]) (by simpa using hp.frame fun k hk=>by simp[hnl k hk]) ((hs.mono fun k hk=>by simp[plabs,hk]).setBox (.inl (by simp))) (Zb6 s.nds.2.1 hlt (fun k hk=>(hl k hk).imp_right And.left) hx fun k hk=>⟨fun h2=>(hx2 k hk).2.1 (by simp[h2]),(hx2 k hk).2.2⟩) fun k hk=>?_⟩,fun k hk=>?_⟩
 .rcases Z2x hk with h1 | h1 | h1
  .rcases hl k h1 with h2 | h2
   .exact .inl (by simp[plabs,h2])
   .exact .inr ⟨fun h3=>by have:=s.lt k h3;omega,by simpa using h2.2⟩
  .exact .inl (by simp[plabs];right;simpa using h1)
  .exact .inr ⟨(hx2 k h1).2.1,by simpa using (hx2 k h1).1⟩
 .rcases Z2x hk with h1 | h1 | h1
  .rcases hl k h1 with h2 | h2
   .exact .inl (by simp[plabs,h2])
   .exact .inr (.inr h2.1)
  .exact .inl (by simp[plabs];right;simpa using h1)
  .exact .inr (.inl h1)
theorem Sc.addO {h:HS} {l:Lab} {S:Sch} {tc fc oc:C} {ta fa oa:List Lab} (s:Sc h l S tc fc oc ta fa oa):∃ xs,MR h 7 oc xs/\xs.length=S.cons.length /\
  ∀ (h':HS) (c':C) (T:Cons),MR h' 7 c' (xs++[T.enc.map C.d])->Same h h' (labs oc)->(∀ k ∈ labs c',k ∈ labs oc\/(h.ep<=k.1/\k.1 < h'.ep)) ->
  ∃ oa',Sc (h'.setBox l [tc,fc,c']) l { S with cons:=S.cons++[T] } tc fc c' ta fa oa'/\∀ k ∈ oa',k ∈ oa\/h.ep<=k.1:=by
 obtain⟨qt,qf,qo,rfl,rfl,rfl,s⟩:=s;have hlen:qo.length=S.cons.length:=by have:=congrArg List.length s.o.ds;simpa using this
 have hlt:∀ k ∈ plabs oc qo,k.1 < h.ep:=fun k hk=>s.lt k (by simp[hk]);refine⟨qo.map (fun q:Q=>q.1),s.o.mr,by simpa using hlen,fun h' c' T hm hs hl=>?_⟩;have ho:Ow h' ConSh (T.enc.map C.d) T.enc []:=Ow.datas (ds:=T.enc);have hp:=s.o.add s.nds.2.2 hlt hm hs ho;have hnl:∀ k ∈ plabs c' (qo++[(T.enc.map C.d,T.enc,[])]),k≠l:=fun k hk he=>by
  subst he;rcases Z2x hk with h1 | h1 | h1
  .rcases hl k h1 with h2 | h2
   .exact s.ne.2.2.1 (by simp[plabs,h2])
   .have:=s.lt k (by simp);omega
  .exact s.ne.2.2.1 (by simp[plabs];right;simpa using h1)
  .simp at h1
 refine⟨_,⟨qt,qf,_,rfl,rfl,rfl,s.setO (by simp) (qo':=qo++[(T.enc.map C.d,T.enc,[])]) (by simpa using hp.frame fun k hk=>by simp[hnl k hk]) ((hs.mono fun k hk=>by simp[plabs,hk]).setBox (.inl (by simp))) (Zb6 s.nds.2.2 hlt (fun k hk=>(hl k hk).imp_right And.left) Y2k (by simp)) fun k hk=>?_⟩,fun k hk=>?_⟩
 .rcases Z2x hk with h1 | h1 | h1
  .rcases hl k h1 with h2 | h2
   .exact .inl (by simp[plabs,h2])
   .exact .inr ⟨h2.1,by simpa using h2.2⟩
  .exact .inl (by simp[plabs];right;simpa using h1)
  .simp at h1
 .rcases Z2x hk with h1 | h1 | h1
  .rcases hl k h1 with h2 | h2
   .exact .inl (by simp[plabs,h2])
   .exact .inr h2.1
  .exact .inl (by simp[plabs];right;simpa using h1)
  .simp at h1
end Go.Proofs.YtbcejndfbklikaaGreatDoor
namespace Go.Am
open Go Go.Proofs.YtbcejndfbklikaaGreatDoor
theorem Ow.ofD {h:HS} {ss:List Sh} {cs:List C} {ds:List D} {ls:List Lab} (o:Ow h ss cs ds ls):∀ {xs:List D},toDs cs=some xs->xs=ds/\∀ h',Ow h' ss (ds.map C.d) ds []:=by
 induction o with
 | nil=>intro xs hx;simp at hx;exact⟨hx,fun _=>.nil⟩
 | @data c x ss cs ds ls hx hr ih=>
   intro xs h1;simp only[toDs,hx] at h1;cases h2:toDs cs with
   | none=>rw[h2] at h1;cases h1
   | some ys=>
     rw[h2] at h1;simp at h1;obtain⟨h3,h4⟩:=ih h2;subst h1 h3;exact⟨rfl,fun h'=>.data rfl (h4 h')⟩
 | @emp es c ss cs ds ls hx hr ih=>
   intro xs h1;simp only[toDs,hx] at h1;cases h2:toDs cs with
   | none=>rw[h2] at h1;cases h1
   | some ys=>
     rw[h2] at h1;simp at h1;obtain⟨h3,h4⟩:=ih h2;subst h1 h3;exact⟨rfl,fun h'=>.emp rfl (h4 h')⟩
 | @row es c qs ss cs ds ls hm hq hr ihq ih=>
   intro xs h1;have h0:c.toD=some (.sl [])/\qs=[]\/c.toD=none:=by
    rcases hm.2.2 with ⟨h2,rfl | rfl⟩ | ⟨l,cap,sp,rfl,_,_⟩
    .exact .inl ⟨rfl,by simpa using h2⟩
    .exact .inl ⟨rfl,by simpa using h2⟩
    .exact .inr rfl
   rcases h0 with ⟨h0,rfl⟩ | h0
   .simp only[toDs,h0] at h1;cases h2:toDs cs with
    | none=>rw[h2] at h1;cases h1
    | some ys=>
      rw[h2] at h1;simp at h1;obtain⟨h3,h4⟩:=ih h2;subst h1 h3;exact⟨rfl,fun h'=>.emp rfl (h4 h')⟩
   .simp[toDs,h0] at h1
end Go.Am
namespace Go.Proofs.YtbcejndfbklikaaGreatDoor
open Go Go.Am
theorem bld_ow {x:List C} {f:List (List D)->Prop} {g:List C->Prop} {a:Option (List (List D))} {b:Option (List C)} (ha:a=(toDs x).map fun d=>[d]) (hb:b=some x) (h1:∀ d,toDs x=some d->f [d]) (h2:toDs x=none->g x):bldV a b (k:=⟨f⟩) (q:=⟨g⟩):=by
 subst ha hb;cases hx:toDs x with
 | none=>exact h2 hx
 | some d=>exact h1 d hx
end Go.Proofs.YtbcejndfbklikaaGreatDoor
namespace Go.Am
open Go Go.Proofs.YtbcejndfbklikaaGreatDoor
theorem RowAt.own1 {h:HS} {n:Nat} {l:Lab} {d:List D} (hd:d.length=n):RowAt h n (.own l [d]) [d.map C.d]:=by
 refine⟨by simp[Z0x,C.list?,hd],by simp[cLen,C.list?],by simp[AllC,hd],by simp⟩
end Go.Am
namespace Go.Proofs.YtbcejndfbklikaaGreatDoor
open Go Go.Am
end Go.Proofs.YtbcejndfbklikaaGreatDoor
namespace Go.Am
open Go Go.Proofs.YtbcejndfbklikaaGreatDoor
theorem RowAt.new1 {h:HS} {n:Nat} {l:Lab} {x:List C} (hx:x.length=n) (hb:h.box l=some x):RowAt h n (.mrow l 0 1 1) [x]:=by
 have:MR h n (.mrow l 0 1 1) [x]:=⟨by simp[AllC,hx],by simp,.inr ⟨l,1,[],rfl,by simpa[rowBox] using hb,by simp[rowBox,hx]⟩⟩
 exact this.rd
end Go.Am
namespace Go.Proofs.YtbcejndfbklikaaGreatDoor
open Go Go.Am
theorem Sc.hlabs {h:HS} {l:Lab} {S:Sch} {tc fc oc:C} {ta fa oa:List Lab} (s:Sc h l S tc fc oc ta fa oa):(∀ k ∈ labs tc,k ∈ ta)/\(∀ k ∈ labs fc,k ∈ fa)/\(∀ k ∈ labs oc,k ∈ oa):=by
 obtain⟨qt,qf,qo,rfl,rfl,rfl,s⟩:=s;exact⟨fun k hk=>by simp[plabs,hk],fun k hk=>by simp[plabs,hk],fun k hk=>by simp[plabs,hk]⟩
theorem Sc.nl {h:HS} {l:Lab} {S:Sch} {tc fc oc:C} {ta fa oa:List Lab} (s:Sc h l S tc fc oc ta fa oa):l ∉ ta/\l ∉ fa/\l ∉ oa:=by
 obtain⟨qt,qf,qo,rfl,rfl,rfl,s⟩:=s;exact⟨s.ne.1,s.ne.2.1,s.ne.2.2.1⟩
theorem Sc.keep {h h':HS} {l:Lab} {S:Sch} {tc fc oc:C} {ta fa oa ls:List Lab} (s:Sc h l S tc fc oc ta fa oa) (hs:Same h h' ls) (hl:∀ k ∈ ls,k ∈ ta\/k ∈ fa\/k ∈ oa):h'.box l=some [tc,fc,oc]:=by
 rw[hs.2 l (s.lt l (by simp)) fun hk=>?_]
 .exact s.box
 .have:=s.nl
  rcases hl l hk with h1 | h1 | h1
  .exact this.1 h1
  .exact this.2.1 h1
  .exact this.2.2 h1
theorem Sc.frame2 {h h':HS} {l:Lab} {S:Sch} {tc fc oc:C} {ta fa oa lz:List Lab} (s:Sc h l S tc fc oc ta fa oa) (hs:Same h h' lz) (hd:∀ k ∈ lz,k ∉ l::(ta++(fa++oa))):Sc h' l S tc fc oc ta fa oa:=by
 obtain⟨qt,qf,qo,rfl,rfl,rfl,s⟩:=s;have hb:∀ k ∈ l::(plabs tc qt++(plabs fc qf++plabs oc qo)),h'.box k=h.box k:=fun k hk=>hs.2 k (s.lt k hk) fun h1=>hd k h1 hk;have hb1:=hb;simp only[Y08,Y02] at hb;exact⟨qt,qf,qo,rfl,rfl,rfl,by rw[hb l (.inl rfl),s.box],s.t.frame fun k hk=>hb k (.inr (.inl hk)),s.f.frame fun k hk=>hb k (.inr (.inr (.inl hk))),s.o.frame fun k hk=>hb k (.inr (.inr (.inr hk))),s.nd,fun k hk=>Y04 (s.lt k hk) hs.1⟩
theorem Sc.fkK {h:HS} {l:Lab} {S:Sch} {tc oc:C} {ta fa oa:List Lab} {lf:Lab} {n cap i:Nat} {B:List C} {f:Fk} (s:Sc h l S tc (.mrow lf 0 n cap) oc ta fa oa) (hb:h.box lf=some B) (hi:S.fks[i]? = some f) :
  lf ∈ fa/\l≠lf/\∃ c1,Elem h lf i 3 [.d (.str f.table),c1,.d (.str f.ref)] B/\(∀ h',Same h h' []->Frz h' c1 (.sl (f.cols.map encI)))/\(cLen c1=some f.cols.length/\f.cols.length<=LIM) /\
   (∀ nm,Sc (h.setBox lf (Z01 B (i * 3) [.d (.str nm)])) l { S with fks:=S.fks.set i ⟨nm,f.cols,f.ref⟩ } tc (.mrow lf 0 n cap) oc ta fa oa) /\
   (∀ nm,Sc (h.setBox lf (Z01 B (i * 3+2) [.d (.str nm)])) l { S with fks:=S.fks.set i ⟨f.table,f.cols,nm⟩ } tc (.mrow lf 0 n cap) oc ta fa oa):=by
 obtain⟨lf2,cap2,B2,c1,e,h1,h2,h3,h4,h5,h6⟩:=s.fk hi;simp at e;obtain⟨rfl,-,rfl⟩:=e;have e2:=h2.box;rw[hb] at e2;cases e2;refine⟨h1,fun he=>s.nl.2.1 (he ▸ h1),c1,h2,h3,h4,fun nm=>?_,fun nm=>?_⟩
 .have:=h5 0 [.d (.str nm)] ⟨nm,f.cols,f.ref⟩ rfl (by simp) (by simp)
  simpa using this
 .exact h5 2 [.d (.str nm)] ⟨f.table,f.cols,nm⟩ rfl (by simp) (by simp)
theorem Sc.fkH {h:HS} {l:Lab} {S:Sch} {tc fc oc:C} {ta fa oa:List Lab} {i:Nat} {f:Fk} (s:Sc h l S tc fc oc ta fa oa) (hi:S.fks[i]? = some f):∃ lf cap B,fc=.mrow lf 0 S.fks.length cap/\h.box lf=some B/\i * 3+3<=B.length:=by
 obtain⟨lf2,cap2,B2,c1,e,h1,h2,h3,h4,h5,h6⟩:=s.fk hi;exact⟨lf2,cap2,B2,e,h2.box,h2.le⟩
theorem Sc.conH {h:HS} {l:Lab} {S:Sch} {tc fc oc:C} {ta fa oa:List Lab} {i:Nat} {f:Cons} (s:Sc h l S tc fc oc ta fa oa) (hi:S.cons[i]? = some f):∃ lf cap B,oc=.mrow lf 0 S.cons.length cap/\h.box lf=some B/\i * 7+7<=B.length:=by
 obtain⟨lf2,cap2,B2,e,h1,h2,h3⟩:=s.con hi;exact⟨lf2,cap2,B2,e,h2.box,h2.le⟩
theorem Sc.conK {h:HS} {l:Lab} {S:Sch} {tc fc:C} {ta fa oa:List Lab} {lf:Lab} {n cap i:Nat} {B:List C} {f:Cons} (s:Sc h l S tc fc (.mrow lf 0 n cap) ta fa oa) (hb:h.box lf=some B) (hi:S.cons[i]? = some f) :
  lf ∈ oa/\l≠lf/\Elem h lf i 7 (f.enc.map C.d) B /\
   (∀ nm,Sc (h.setBox lf (Z01 B (i * 7) [.d (.str nm)])) l { S with cons:=S.cons.set i { f with table:=nm } } tc fc (.mrow lf 0 n cap) ta fa oa) /\
   (∀ nm,Sc (h.setBox lf (Z01 B (i * 7+1) [.d (.int .i64 nm)])) l { S with cons:=S.cons.set i { f with left:=nm } } tc fc (.mrow lf 0 n cap) ta fa oa) /\
   (∀ nm,Sc (h.setBox lf (Z01 B (i * 7+3) [.d (.int .i64 nm)])) l { S with cons:=S.cons.set i { f with right:=nm } } tc fc (.mrow lf 0 n cap) ta fa oa):=by
 obtain⟨lf2,cap2,B2,e,h1,h2,h3⟩:=s.con hi;simp at e;obtain⟨rfl,-,rfl⟩:=e;have e2:=h2.box;rw[hb] at e2;cases e2;refine⟨h1,fun he=>s.nl.2.2 (he ▸ h1),h2,fun nm=>?_,fun nm=>?_,fun nm=>?_⟩
 .have:=h3 0 [.d (.str nm)] { f with table:=nm } (by simp) (by simp)
  simpa using this
 .exact h3 1 [.d (.int .i64 nm)] { f with left:=nm } (by simp) (by simp)
 .exact h3 3 [.d (.int .i64 nm)] { f with right:=nm } (by simp) (by simp)
end Go.Proofs.YtbcejndfbklikaaGreatDoor
end
namespace Go.Proofs.YtbcejndfbklikaaGreatDoor
section
open Go Go.Am
theorem Sc.fkN {h:HS} {l:Lab} {S:Sch} {tc oc c1:C} {ta fa oa:List Lab} {lf:Lab} {n cap i k:Nat} {B:List C} {f:Fk} {v:Int} (s:Sc h l S tc (.mrow lf 0 n cap) oc ta fa oa) (hb:h.box lf=some B) (hi:S.fks[i]? = some f) (hk:f.cols[k]? = some v) (hc:takeN 1 (B.drop (i * 3+1))=some [c1]) :
  ∃ l2 cap2 B2,c1=.mrow l2 0 f.cols.length cap2/\l2 ∈ fa/\l2≠lf/\l≠l2/\h.box l2=some B2/\takeN 1 (B2.drop k)=some [.d (.int .i64 v)]/\k+1<=B2.length /\
    ∀ v',Sc (h.setBox l2 (Z01 B2 k [.d (.int .i64 v')])) l { S with fks:=S.fks.set i ⟨f.table,f.cols.set k v',f.ref⟩ } tc (.mrow lf 0 n cap) oc ta fa oa:=by
 obtain⟨lf2,cap2,B2,c2,e,h1,h2,h3,h4,h5,h6⟩:=s.fk hi;simp at e;obtain⟨rfl,-,rfl⟩:=e;have e2:=h2.box;rw[hb] at e2;cases e2;have e3:=h2.rd 1 1 (by omega);rw[hc] at e3;simp at e3;subst e3;obtain⟨l2,cap2,B2,k1,k2,k3,k4,k5⟩:=h6 k v hk;have e4:=k4.rd0 1 (by omega);have e5:=k4.le;simp at e4 e5;refine⟨l2,cap2,B2,k1,k2,k3,fun he=>s.nl.2.1 (he ▸ k2),k4.box,e4,e5,fun v'=>?_⟩;simpa using k5 v'
def Zjb (table:ByteArray) (mr:Int->Option Int) {ρ:Type} (i:Nat) (S:Sch) (next:Sch->Option ρ):Option ρ:=
 getK S.fks (i:Int) fun f=>bif strEq f.table table then
  countK (fun k (S:Sch) next=>getK S.fks (i:Int) fun f=>getK f.cols (k:Int) fun v=>bindK (mr v) fun v'=>next { S with fks:=S.fks.set i ⟨f.table,f.cols.set k v',f.ref⟩ }) next f.cols.length 0 S
 else next S
def Zja (table:ByteArray) (mr:Int->Option Int) {ρ:Type} (i:Nat) (S:Sch) (next:Sch->Option ρ):Option ρ:=
 getK S.cons (i:Int) fun c=>bif !(strEq c.table table) then next S else
  bindK (mr c.left) fun v=>bif decide (0<=c.right) then bindK (mr c.right) fun w=>next { S with cons:=S.cons.set i { c with left:=v,right:=w } } else next { S with cons:=S.cons.set i { c with left:=v } }
def Z14 (S:Sch) (table:ByteArray) (mr:Int->Option Int):Option Sch:=
 countK (Zjb table mr) (fun S=>countK (Zja table mr) (fun S=>some S) S.cons.length 0 S) S.fks.length 0 S
theorem Z62 (h:HS) (l:Lab) (tc fc oc:C) (ta fa oa:List Lab) (S S':Sch) (table:ByteArray) (g:FuncId) (caps:List Cap) (dss:List (List D)) (mr:Int->Option Int) (hm:Is (Z14 S table mr) S') (s:Sc h l S tc fc oc ta fa oa)
  (hcv:∀ h',Same h h' (fa++oa)->LendVs h' (caps.map capV) (capsOf dss)) (hp:∀ x v,Is (mr x) v->PSpec prog g (.one (.d (.int .i64 x))::capsOf dss) (.one (.d (.int .i64 v)))) (K:V->HS->Prop)
  (hk:∀ h',Sc h' l S' tc fc oc ta fa oa->Same h h' (fa++oa)->K (.tup []) h') :
  HSpec prog 169 [.one (.ptr l 0),.one (.d (.str table)),.one (.fn g caps)] h K:=by
 have hb:=s.box;refine HSpec.of_vc Tryz.func169 rfl (by kernel_rfl) (n:=89) rfl rfl (by simp) ?_;simp[hb];refine Z1n s.len.2.1.1 ?_;simp;refine Wait.count (N:=(S.fks.length:Int)) (s0:=S) (fun i S1 e h1=>e.n=89/\e.get 0=.one (.ptr l 0)/\e.get 1=.one (.d (.str table))/\e.get 2=.one (.fn g caps)/\e.get 15=.one fc/\e.get 16=.one (.d (.int .i64 (S.fks.length:Int)))/\e.get 17=.one (.d (.int .i64 (i:Int)))/\S1.fks.length=S.fks.length/\Sc h1 l S1 tc fc oc ta fa oa/\Same h h1 (fa++oa)) (by simpa[Z14] using hm) ⟨by simp,by simp,by simp,by simp,by simp,by simp,by simp,rfl,s,.refl⟩ ?_ ?_
 .rintro i S1 e h1 ⟨hn,h0,h1',h2,h15,h16,h17,hl1,s1,hs1⟩ hlt hm;replace hm:=Is.getN hm;obtain⟨f,hf,hm⟩:=hm;have hlt1:i < S.fks.length:=by omega
  have hlt2:i < S1.fks.length:=by omega
  have hfl:=s1.len.2.1.2;simp only[lim_eq] at hfl;have hw:IntKind.i64.wrap ((i:Int)+1)=(i:Int)+1:=Y0a _ (by omega);obtain⟨lf,cf,Bf,rfl,bx,hle⟩:=s1.fkH hf;obtain⟨hlf,hllf,c1,el,-,hcl,-,-⟩:=s1.fkK bx hf;have r0:=el.rd0 3 (by omega);have r1:=el.rd 1 1 (by omega);simp at r0 r1;have hs2:Same h1 ((h1.setBox (h1.ep,112) [C.d (D.str empty),C.nil,C.d (D.str empty)]).next.setBox (h1.ep,112) [.d (.str f.table),c1,.d (.str f.ref)]) []:=((Same.refl.setBox (.inr (Y09 _))).next).setBox (.inr (Y09 _));have s2:=s1.frame hs2;have hne:=ne_new (s1.lt lf (by simp[hlf]));cases hb1:strEq f.table table with
  | false=>
    simp only[hb1,cond_false] at hm;simp[hn,h0,h1',h2,h15,h16,h17,hlt1,hlt2,bx,r0,hb1,hw];exact BackF.of S1 ⟨⟨by simp[hn],by simp[h0],by simp[h1'],by simp[h2],by simp[h15],by simp[h16],by simp,hl1,s2,hs1.trans (hs2.mono (by simp))⟩,hm⟩
  | true=>
    simp only[hb1,cond_true] at hm;simp[hn,h0,h1',h2,h15,h16,h17,hlt1,hlt2,bx,r0,hb1,hw];refine Z1n hcl.1 ?_;simp[hn];have bx2:((h1.setBox (h1.ep,112) [C.d (D.str empty),C.nil,C.d (D.str empty)]).next.setBox (h1.ep,112) [.d (.str f.table),c1,.d (.str f.ref)]).box lf=some Bf:=by
     simp[hne,bx]
    refine Wait.count (N:=(f.cols.length:Int)) (s0:=S1) (fun k S2 e h2=>e.n=89/\e.get 0=.one (.ptr l 0)/\e.get 1=.one (.d (.str table))/\e.get 2=.one (.fn g caps)/\e.get 15=.one (.mrow lf 0 S1.fks.length cf)/\e.get 16=.one (.d (.int .i64 (S.fks.length:Int)))/\e.get 17=.one (.d (.int .i64 (i:Int)))/\e.get 6=.one (.d (.int .i64 (i:Int)))/\e.get 27=.one c1/\e.get 28=.one (.d (.int .i64 (f.cols.length:Int)))/\e.get 29=.one (.d (.int .i64 (k:Int))) /\
      S2.fks.length=S.fks.length/\(∃ f2,S2.fks[i]? = some f2/\f2.cols.length=f.cols.length)/\h2.box lf=some Bf/\Sc h2 l S2 tc (.mrow lf 0 S1.fks.length cf) oc ta fa oa/\Same h h2 (fa++oa)) (by simpa using hm) ⟨by simp[hn],by simp[h0],by simp[h1'],by simp[h2],by simp[h15],by simp[h16],by simp[h17],by simp[h17],by simp,by simp,by simp,hl1,⟨f,hf,rfl⟩,bx2,s2,hs1.trans (hs2.mono (by simp))⟩ ?_ ?_
    .rintro k S2 e h3 ⟨hn,h0,h1',h2,h15,h16,h17,h6,h27,h28,h29,hl2,⟨f2,hf2,hfl2⟩,bx3,s3,hs3⟩ hltk hm;replace hm:=hm.getN;obtain⟨f3,hf3,hm⟩:=hm;rw[hf2] at hf3;cases hf3;replace hm:=hm.getN;obtain⟨v,hv,hm⟩:=hm;replace hm:=hm.bind;obtain⟨v',hv',hm⟩:=hm;have hltk1:k < f.cols.length:=by omega
     have hltk2:k < f2.cols.length:=by omega
     have hcl1:=hcl.2;simp only[lim_eq] at hcl1;have hwk:IntKind.i64.wrap ((k:Int)+1)=(k:Int)+1:=Y0a _ (by omega);obtain⟨l2,cap2,B2,rfl,hl2m,hl2f,hll2,bx4,r4,hle4,w4⟩:=s3.fkN bx3 hf2 hv r1;have hb3:=s3.box;simp[hn,h0,h1',h2,h15,h16,h17,h6,h27,h28,h29,hltk1,hltk2,bx4,r4];refine Wait.cut (Plan.then_ [0,4,8,9,10,1,2,3,5,6,7,11,12,13] .done) follows (by kernel_rfl) (fun e h2=>e.n=89/\e.get 0=.one (.ptr l 0)/\e.get 1=.one (.d (.str table))/\e.get 2=.one (.fn g caps)/\e.get 15=.one (.mrow lf 0 S1.fks.length cf)/\e.get 16=.one (.d (.int .i64 (S.fks.length:Int)))/\e.get 17=.one (.d (.int .i64 (i:Int)))/\e.get 6=.one (.d (.int .i64 (i:Int)))/\e.get 27=.one (.mrow l2 0 f2.cols.length cap2)/\e.get 28=.one (.d (.int .i64 (f.cols.length:Int)))/\e.get 29=.one (.d (.int .i64 (k:Int))) /\
      h2.box lf=some Bf/\Sc h2 l { S2 with fks:=S2.fks.set i ⟨f2.table,f2.cols.set k v',f2.ref⟩ } tc (.mrow lf 0 S1.fks.length cf) oc ta fa oa/\Same h h2 (fa++oa)) ?_ ?_
     .simp[hb3,hn,h0,h1',h2,h15,h16,h17,h6,h27,h28,h29,hltk1,hltk2,hlt2,bx3,bx4,r1,r4];refine Z00 (HSpec.of_lend (hp v v' hv') ⟨.one (.frz (.data rfl)),hcv h3 hs3⟩ rfl ?_);simp[hn,hltk2,bx4];refine⟨fun _ _ x=>x,by omega,CutK.of ⟨by simp[hn],by simp[h0],by simp[h1'],by simp[h2],by simp[h15],by simp[h16],by simp[h17],by simp[h6],by simp[h27],by simp[h28],by simp[h29],?_,?_,?_⟩⟩
      .simp[hl2f.symm,bx3]
      .have:=(s3.frame (Same.refl.next:Same h3 h3.next [])).fkN (by simpa using bx3) hf2 hv r1
       obtain⟨l2',cap2',B2',e1,k2,k3,k4,k5,k6,k7,k8⟩:=this;simp at e1;obtain⟨rfl,rfl⟩:=e1;simp only[Zfs,bx4] at k5;cases k5;exact k8 v'
      .exact (hs3.next).setBox (.inl (by simp[hl2m]))
     .rintro e h4 ⟨hn,h0,h1',h2,h15,h16,h17,h6,h27,h28,h29,bx5,s5,hs5⟩;simp[hn,h29,hwk];have hi2:i < S2.fks.length:=by omega
      exact BackF.of _ ⟨⟨by simp[hn],by simp[h0],by simp[h1'],by simp[h2],by simp[h15],by simp[h16],by simp[h17],by simp[h6],by simp[h27],by simp[h28],by simp,by simpa using hl2,⟨⟨f2.table,f2.cols.set k v',f2.ref⟩,by simp[hi2],by simpa using hfl2⟩,bx5,s5,hs5⟩,hm⟩
    .rintro k S2 e h3 ⟨hn,h0,h1',h2,h15,h16,h17,h6,h27,h28,h29,hl2,⟨f2,hf2,hfl2⟩,bx3,s3,hs3⟩ hge hm;have hge1:¬ k < f.cols.length:=by omega
     simp[hn,h17,h28,h29,hge1,hw];exact BackF.of S2 ⟨⟨by simp[hn],by simp[h0],by simp[h1'],by simp[h2],by simp[h15],by simp[h16],by simp,hl2,s3,hs3⟩,hm⟩
 .rintro i S1 e h1 ⟨hn,h0,h1',h2,h15,h16,h17,hl1,s1,hs1⟩ hge hm;have hge1:¬ i < S.fks.length:=by omega
  have hb1:=s1.box;simp[hn,h0,h16,h17,hge1,hb1];refine Z1n s1.len.2.2.1 ?_;simp[hn];refine Wait.count (N:=(S1.cons.length:Int)) (s0:=S1) (fun i S2 e h2=>e.n=89/\e.get 0=.one (.ptr l 0)/\e.get 1=.one (.d (.str table))/\e.get 2=.one (.fn g caps)/\e.get 52=.one oc/\e.get 53=.one (.d (.int .i64 (S1.cons.length:Int)))/\e.get 54=.one (.d (.int .i64 (i:Int)))/\S2.cons.length=S1.cons.length/\Sc h2 l S2 tc fc oc ta fa oa/\Same h h2 (fa++oa)) (by simpa using hm) ⟨by simp[hn],by simp[h0],by simp[h1'],by simp[h2],by simp,by simp,by simp,rfl,s1,hs1⟩ ?_ ?_
  .rintro i S2 e h3 ⟨hn,h0,h1',h2,h52,h53,h54,hl2,s2,hs2⟩ hlt hm;replace hm:=Is.getN hm;obtain⟨c,hc,hm⟩:=hm;have hlt1:i < S1.cons.length:=by omega
   have hlt2:i < S2.cons.length:=by omega
   have hfl:=s2.len.2.2.2;simp only[lim_eq] at hfl;have hw:IntKind.i64.wrap ((i:Int)+1)=(i:Int)+1:=Y0a _ (by omega);obtain⟨lo,co,Bo,rfl,bx,hle⟩:=s2.conH hc;obtain⟨hlo,hllo,el,-,w1,w3⟩:=s2.conK bx hc;have r0:=el.rd0 7 (by omega);simp at r0;have hz:Same h3 ((h3.setBox (h3.ep,176) [C.d (D.str empty),C.d (D.int IntKind.i64 0),C.d (D.str empty),C.d (D.int IntKind.i64 0),C.d (D.int IntKind.i64 0),C.d (D.int IntKind.i64 0),C.d (D.str empty)]).next.setBox (h3.ep,176) (c.enc.map C.d)) []:=((Same.refl.setBox (.inr (Y09 _))).next).setBox (.inr (Y09 _));have s4:=s2.frame hz;simp only[Cons.enc,Y0d,Y0g] at hz s4;have hne:=ne_new (s2.lt lo (by simp[hlo]));cases hb1:strEq c.table table with
   | false=>
     simp only[hb1,Y29,cond_true] at hm;simp[hn,h0,h1',h2,h52,h53,h54,hlt1,hlt2,bx,r0,hb1,hw];exact BackF.of S2 ⟨⟨by simp[hn],by simp[h0],by simp[h1'],by simp[h2],by simp[h52],by simp[h53],by simp,hl2,s4,hs2.trans (hz.mono (by simp))⟩,hm⟩
   | true=>
     simp only[hb1,Y1v,cond_false] at hm;replace hm:=hm.bind;obtain⟨v,hv,hm⟩:=hm;simp[hn,h0,h1',h2,h52,h53,h54,hlt1,hlt2,bx,r0,hb1,hw];have hb4:=s4.box;have hy:Same h ((h3.setBox (h3.ep,176) [C.d (D.str empty),C.d (D.int IntKind.i64 0),C.d (D.str empty),C.d (D.int IntKind.i64 0),C.d (D.int IntKind.i64 0),C.d (D.int IntKind.i64 0),C.d (D.str empty)]).next.setBox (h3.ep,176) [C.d (D.str c.table),C.d (D.int IntKind.i64 c.left),C.d (D.str c.op),C.d (D.int IntKind.i64 c.right),C.d (D.int IntKind.i64 c.value.kind),C.d (D.int IntKind.i64 c.value.int),C.d (D.str c.value.text)]) (fa++oa):=hs2.trans (hz.mono (by simp));have hep0:h.ep<=h3.ep:=hs2.1;generalize hX:(h3.setBox (h3.ep,176) [C.d (D.str empty),C.d (D.int IntKind.i64 0),C.d (D.str empty),C.d (D.int IntKind.i64 0),C.d (D.int IntKind.i64 0),C.d (D.int IntKind.i64 0),C.d (D.str empty)]).next.setBox (h3.ep,176) [C.d (D.str c.table),C.d (D.int IntKind.i64 c.left),C.d (D.str c.op),C.d (D.int IntKind.i64 c.right),C.d (D.int IntKind.i64 c.value.kind),C.d (D.int IntKind.i64 c.value.int),C.d (D.str c.value.text)]=HX at s4 hb4 hy |-;have bx11:HX.box (h3.ep,176)=some [C.d (D.str c.table),C.d (D.int IntKind.i64 c.left),C.d (D.str c.op),C.d (D.int IntKind.i64 c.right),C.d (D.int IntKind.i64 c.value.kind),C.d (D.int IntKind.i64 c.value.int),C.d (D.str c.value.text)]:=by rw[<- hX];simp
     have bx4:HX.box lo=some Bo:=by rw[<- hX];simp[hne,bx]
     refine Wait.cut (Plan.then_ [0,4,5,6,7,1,2,3,8,9,10,11] .done) follows (by kernel_rfl) (fun e h2=>e.n=89/\e.get 0=.one (.ptr l 0)/\e.get 1=.one (.d (.str table))/\e.get 2=.one (.fn g caps)/\e.get 52=.one (.mrow lo 0 S2.cons.length co)/\e.get 53=.one (.d (.int .i64 (S1.cons.length:Int)))/\e.get 54=.one (.d (.int .i64 (i:Int)))/\e.get 10=.one (.d (.int .i64 (i:Int)))/\e.get 11=.one (.ptr (h3.ep,176) 0) /\
      h2.box (h3.ep,176)=some [C.d (D.str c.table),C.d (D.int IntKind.i64 c.left),C.d (D.str c.op),C.d (D.int IntKind.i64 c.right),C.d (D.int IntKind.i64 c.value.kind),C.d (D.int IntKind.i64 c.value.int),C.d (D.str c.value.text)]/\h2.box lo=some (Z01 Bo (i * 7+1) [.d (.int .i64 v)]) /\
      Sc h2 l { S2 with cons:=S2.cons.set i { c with left:=v } } tc fc (.mrow lo 0 S2.cons.length co) ta fa oa/\Same h h2 (fa++oa)) ?_ ?_
     .simp[hn,h0,h1',h2,h52,h53,h54,hlt1,hlt2,hb4,bx11];refine Z00 (HSpec.of_lend (hp _ v hv) ⟨.one (.frz (.data rfl)),hcv _ hy⟩ rfl ?_);simp[hn,hlt2,bx4];refine⟨fun _ _ x=>x,by omega,CutK.of ⟨by simp[hn],by simp[h0],by simp[h1'],by simp[h2],by simp[h52],by simp[h53],by simp[h54],by simp,by simp,?_,by simp,?_,hy.next.setBox (.inl (by simp[hlo]))⟩⟩
      .have:=hne h3.ep 176 (Y09 _)
       have h9:¬ (h3.ep,176)=lo:=fun he=>by rw[he] at this;simp at this
       simp[h9,bx11]
      .exact ((s4.frame (Same.refl.next:Same HX HX.next [])).conK (by simpa using bx4) hc).2.2.2.2.1 v
     .rintro e h4 ⟨hn,h0,h1',h2,h52,h53,h54,h10,h11,bx12,bx13,s5,hs5⟩;have hci:({ S2 with cons:=S2.cons.set i { c with left:=v } }:Sch).cons[i]? = some { c with left:=v }:=by simp[hlt2]
      cases hr:decide (0<=c.right) with
      | false=>
        simp only[hr,cond_false] at hm;simp at hr;have hr2:¬ 0<=c.right:=by omega
        simp[hn,h0,h1',h2,h52,h53,h54,h10,h11,bx12,hr2,hw];exact BackF.of _ ⟨⟨by simp[hn],by simp[h0],by simp[h1'],by simp[h2],by simp[h52],by simp[h53],by simp,by simpa using hl2,s5,hs5⟩,hm⟩
      | true=>
        simp only[hr,cond_true] at hm;simp at hr;replace hm:=hm.bind;obtain⟨w,hwv,hm⟩:=hm;have hb5:=s5.box;simp[hn,h0,h1',h2,h52,h53,h54,h10,h11,bx12,hr];refine Wait.cut (Plan.then_ [0,4,5,6,7,1,2,3,8,9,10,11] .done) follows (by kernel_rfl) (fun e h2=>e.n=89/\e.get 0=.one (.ptr l 0)/\e.get 1=.one (.d (.str table))/\e.get 2=.one (.fn g caps)/\e.get 52=.one (.mrow lo 0 S2.cons.length co)/\e.get 53=.one (.d (.int .i64 (S1.cons.length:Int)))/\e.get 54=.one (.d (.int .i64 (i:Int))) /\
         Sc h2 l { S2 with cons:=S2.cons.set i { c with left:=v,right:=w } } tc fc (.mrow lo 0 S2.cons.length co) ta fa oa/\Same h h2 (fa++oa)) ?_ ?_
        .simp[hn,h0,h1',h2,h52,h53,h54,h10,h11,hlt1,hlt2,hb5,bx12];refine Z00 (HSpec.of_lend (hp _ w hwv) ⟨.one (.frz (.data rfl)),hcv _ hs5⟩ rfl ?_);have hle5:(Z01 Bo (i * 7+1) [C.d (D.int IntKind.i64 v)]).length=Bo.length:=Z0z (by simp<;>omega);simp[hn,hlt2,bx13,hle5];refine⟨fun _ _ x=>x,by omega,CutK.of ⟨by simp[hn],by simp[h0],by simp[h1'],by simp[h2],by simp[h52],by simp[h53],by simp[h54],?_,hs5.next.setBox (.inl (by simp[hlo]))⟩⟩
         have:=((s5.frame (Same.refl.next:Same h4 h4.next [])).conK (by simpa using bx13) hci).2.2.2.2.2 w
         simpa using this
        .rintro e h4 ⟨hn,h0,h1',h2,h52,h53,h54,s5,hs5⟩;simp[hn,h54,hw];exact BackF.of _ ⟨⟨by simp[hn],by simp[h0],by simp[h1'],by simp[h2],by simp[h52],by simp[h53],by simp,by simpa using hl2,s5,hs5⟩,hm⟩
  .rintro i S2 e h3 ⟨hn,h0,h1',h2,h52,h53,h54,hl2,s2,hs2⟩ hge hm;have hge1:¬ i < S1.cons.length:=by omega
   obtain rfl:=r_ret hm;simp[hn,h53,h54,hge1];exact hk _ s2 hs2
end
section
open Go.Am
def Z13 (column:Int) (k0:List Int):Option Int:=
 (forK (fun (i2:Nat) (x2:Int) (s2:Int) next_2=>(bif decide (x2 < column) then (chkK (okI (s2+1)) (next_2 (s2+1))) else (next_2 s2))) (fun (s2:Int)=>(chkK (okI (column - s2)) (some (column - s2)))) k0 0 0)
instance c_evolution_removeColumns_1 (column:Int) (k0:List Int):Con (Z13 column k0) prog 202 [.one (.d (.int .i64 column)),.one (.rp [.sl (k0.map encI)])] (fun r=>.one (.d (.int .i64 r))):=by
 unfold Z13;have l1:LH (σ:=Int) 9 [0,7,8] [.d 4 (fun s=>.int .i64 s)]:=.intro;exact go 22 Tryz.func202 rfl (by kernel_rfl) rfl rfl (by simp)
def Z38 (s_:List Int) (v_:Int):Option Int:=
 (forK (fun (i2:Nat) (x2:Int) (s2:Unit) next_2=>(bif (v_ == x2) then (some (i2:Int)) else (next_2 ()))) (fun (s2:Unit)=>(some (-1))) s_ 0 ())
instance c_slices_Index_Int (s_:List Int) (v_:Int):Con (Z38 s_ v_) prog 119 [.one (.d (.sl (s_.map encI))),.one (.d (.int .i64 v_))] (fun r=>.one (.d (.int .i64 r))):=by
 unfold Z38;have l1:LH (σ:=Unit) 8 [0,1,7] []:=.intro;exact go 19 Tryz.func119 rfl (by kernel_rfl) rfl rfl (by simp)
def Z0d (s_:List Int) (v_:Int):Option Bool:=
 (bindK (Z38 s_ v_) fun v1=>(some (decide (0<=v1))))
instance c_slices_Contains_Int (s_:List Int) (v_:Int):Con (Z0d s_ v_) prog 106 [.one (.d (.sl (s_.map encI))),.one (.d (.int .i64 v_))] (fun r=>.one (.d (.bool r))):=by
 unfold Z0d;exact go 9 Tryz.func106 rfl (by kernel_rfl) rfl rfl (by simp)
end
section
open Go Go.Am
def Zh2 (removed:List Int) {ρ:Type} (k:Nat) (c:Col) (acc:List Col) (next:List Col->Option ρ):Option ρ:=
 bindK (Z0d removed (k:Int)) fun b=>bif !b then next (acc++[c]) else next acc
def Zh1 (i:Nat) (removed:List Int) {ρ:Type} (k:Nat) (S:Sch) (next:Sch->Option ρ):Option ρ:=
 getK S.tables (i:Int) fun T=>getK T.pk (k:Int) fun v=>bindK (Z13 v removed) fun v'=>next { S with tables:=S.tables.set i { T with pk:=T.pk.set k v' } }
def Z1c (S:Sch) (i:Nat) (removed:List Int):Option Sch:=
 getK S.tables (i:Int) fun T=>forK (Zh2 removed) (fun cols=>countK (Zh1 i removed) (fun S=>getK S.tables (i:Int) fun T=>bindK (Z14 { S with tables:=S.tables.set i { T with cols:=cols } } T.name fun c=>Z13 c removed) some) T.pk.length 0 S) T.cols 0 []
theorem Z4h (h:HS) (l:Lab) (tc fc oc rc:C) (ta fa oa:List Lab) (S S':Sch) (i:Nat) (removed:List Int) (hm:Is (Z1c S i removed) S') (s:Sc h l S tc fc oc ta fa oa) (hf:∀ h',Same h h' (ta++(fa++oa))->Frz h' rc (.sl (removed.map encI))) (K:V->HS->Prop)
  (hk:∀ h' ta',Sc h' l S' tc fc oc ta' fa oa->Same h h' (ta++(fa++oa))->(∀ k ∈ ta',k ∈ ta\/h.ep<=k.1)->K (.tup []) h') :
  HSpec prog 167 [.one (.ptr l 0),.one (.d (.int .i64 (i:Int))),.one rc] h K:=by
 have hb:=s.box;replace hm:=Is.getN hm;obtain⟨T,hi,hm⟩:=hm;obtain⟨lt,c1,c2,B,tv⟩:=s.tbl hi;obtain⟨cap,rfl⟩:=tv.hd;have hlt:i < S.tables.length:=(Y00.1 hi).1;have bx:=tv.el.box;have r0:=tv.el.rd0 1 (by omega);have r1:=tv.el.rd 1 1 (by omega);have r2:=tv.el.rd 2 1 (by omega);simp at r0 r1 r2;have hne:=ne_new (s.lt l (by simp));have hnt:=ne_new (s.lt lt (by simp[tv.tm]));refine HSpec.of_vc Tryz.func167 rfl (by kernel_rfl) (n:=70) rfl rfl (by simp) ?_;simp[hb,hlt,bx,r1,hne,hnt];refine Z1n tv.n1.1 ?_;simp;have hs0:Same h ((h.setBox (h.ep,80) [rc]).next) []:=(Same.refl.setBox (.inr (Y09 _))).next;refine Wait.for (xs:=T.cols) (s0:=[]) (fun k acc e h1=>∃ ch,e.n=70/\e.get 0=.one (.ptr l 0)/\e.get 5=.one (.ptr (h.ep,80) 0)/\e.get 6=.one (.ptr lt (i * 3))/\e.get 7=.one (.fn 202 [.lab (h.ep,80)])/\e.get 8=.one ch/\e.get 23=.one c1/\e.get 24=.one (.d (.int .i64 (T.cols.length:Int)))/\e.get 25=.one (.d (.int .i64 (k:Int))) /\
  acc.length<=k/\h1.box (h.ep,80)=some [rc]/\MR h1 3 ch (acc.map fun c=>c.enc.map C.d)/\(∀ k ∈ labs ch,h.ep < k.1/\k.1 < h1.ep)/\Same h h1 []/\h.ep < h1.ep) hm ⟨.nil,by simp,by simp,by simp,by simp,by simp,by simp,by simp,by simp,by simp,by simp,by simp,MR.nil,by simp[labs],hs0,by simp⟩ ?_ ?_
 .rintro k acc e h1 ⟨ch,hn,h0,h5,h6,h7,h8,h23,h24,h25,hal,hb5,mh,lh,hs1,hep1⟩ hltk hm;replace hm:=Is.bind hm;obtain⟨b,hb',hm⟩:=hm;have hfl:=tv.n1.2;simp only[lim_eq] at hfl;have hw:IntKind.i64.wrap ((k:Int)+1)=(k:Int)+1:=Y0a _ (by omega);have s1:=s.frame hs1;have bx1:h1.box lt=some B:=by rw[hs1.2 lt (s.lt lt (by simp[tv.tm])) (by simp)];exact bx
  obtain⟨c1',c2',tv1⟩:=s1.tblK bx1 hi;obtain rfl:c1'=c1:=by
   have:=tv1.el.rd 1 1 (by omega)
   simp[r1] at this;exact this.symm
  obtain⟨l2,cap2,B2,rfl,el2,-⟩:=tv1.e1 k _ (Y01 hltk);have bx2:=el2.box;have q0:=el2.rd0 3 (by omega);simp at q0;simp[hn,h0,h5,h6,h7,h8,h23,h24,h25,hltk,bx2,q0,hb5,hw];have hz:Same h1 ((h1.setBox (h1.ep,160) [C.d (D.str empty),C.d (D.int IntKind.i64 0),C.d (D.bool false)]).next.setBox (h1.ep,160) [C.d (D.str T.cols[k].name),C.d (D.int IntKind.i64 T.cols[k].kind),C.d (D.bool T.cols[k].nullable)]) []:=((Same.refl.setBox (.inr (Y09 _))).next).setBox (.inr (Y09 _));have hy:=hs1.trans hz;generalize hX:(h1.setBox (h1.ep,160) [C.d (D.str empty),C.d (D.int IntKind.i64 0),C.d (D.bool false)]).next.setBox (h1.ep,160) [C.d (D.str T.cols[k].name),C.d (D.int IntKind.i64 T.cols[k].kind),C.d (D.bool T.cols[k].nullable)]=HX at hz hy |-;have bx10:HX.box (h1.ep,160)=some [C.d (D.str T.cols[k].name),C.d (D.int IntKind.i64 T.cols[k].kind),C.d (D.bool T.cols[k].nullable)]:=by rw[<- hX];simp
  have hb5':HX.box (h.ep,80)=some [rc]:=by rw[hz.2 _ (by simpa using hep1) (by simp)];exact hb5
  have mh':MR HX 3 ch (acc.map fun c=>c.enc.map C.d):=mh.frame fun k hk=>hz.2 k (lh k hk).2 (by simp);have hepx:h1.ep+1=HX.ep:=by rw[<- hX];simp
  refine Z00 (HSpec.of_lend (c_slices_Contains_Int removed k b hb') ⟨.one (.frz (hf _ (hy.mono (by simp)))),.one (.frz (.data rfl)),trivial⟩ rfl ?_);cases b with
  | true=>
    simp only[Y1v,cond_false] at hm;simp[hn,h0,h5,h6,h7,h8,h23,h24,h25,hw];exact BackF.of acc ⟨⟨ch,by simp[hn],by simp[h0],by simp[h5],by simp[h6],by simp[h7],by simp[h8],by simp[h23],by simp[h24],by simp,by omega,by simpa using hb5',mh'.frame (by simp),fun k hk=>⟨(lh k hk).1,by have:=(lh k hk).2;simp<;>omega⟩,hy.next,by simp<;>omega⟩,hm⟩
  | false=>
    simp only[Y29,cond_true] at hm;simp[hn,h0,h5,h6,h7,h8,h23,h24,h25,hw,bx10];refine app_mr (by simp;exact⟨rfl,rfl⟩) (by simp) (by simp) (by simp) (mh'.frame (by simp)) (RowAt.own1 (by simp)) (by simp<;>omega) (fun c' h' hm' hs3 hl3=>?_);have hs4:Same h h' []:=(hy.next.setArr.next).trans' hs3 (fun k hk=>.inr (Y31 (lh k hk).1));have hep2:=hs3.1;simp at hep2;simp[hn,h25,hw];refine BackF.of _ ⟨⟨c',by simp[hn],by simp[h0],by simp[h5],by simp[h6],by simp[h7],by simp,by simp[h23],by simp[h24],by simp,by simp<;>omega,?_,by simpa using hm',fun k hk=>?_,hs4,by omega⟩,hm⟩
    .rw[hs3.2 _ (by simp<;>omega) (fun h2=>by have:=(lh _ h2).1;simp at this)];simpa using hb5'
    .rcases hl3 k hk with h2 | h2
     .have:=lh k h2;exact⟨this.1,by omega⟩
     .simp at h2;exact⟨by omega,h2.2⟩
 .rintro cols e h1 ⟨ch,hn,h0,h5,h6,h7,h8,h23,h24,h25,hal,hb5,mh,lh,hs1,hep1⟩ hm;have s1:=s.frame hs1;have bx1:h1.box lt=some B:=by rw[hs1.2 lt (s.lt lt (by simp[tv.tm])) (by simp)];exact bx
  simp[hn,h6,h24,h25,bx1,r2];refine Z1n tv.n2.1 ?_;simp[hn];refine Wait.count (N:=(T.pk.length:Int)) (s0:=S) (fun k S2 e h2=>e.n=70/\e.get 0=.one (.ptr l 0)/\e.get 5=.one (.ptr (h.ep,80) 0)/\e.get 6=.one (.ptr lt (i * 3))/\e.get 7=.one (.fn 202 [.lab (h.ep,80)])/\e.get 8=.one ch/\e.get 42=.one c2/\e.get 43=.one (.d (.int .i64 (T.pk.length:Int)))/\e.get 44=.one (.d (.int .i64 (k:Int))) /\
   h2.box (h.ep,80)=some [rc]/\MR h2 3 ch (cols.map fun c=>c.enc.map C.d)/\(∀ k ∈ labs ch,h.ep < k.1/\k.1 < h2.ep)/\h2.box lt=some B/\(∃ T2,S2.tables[i]? = some T2/\T2.pk.length=T.pk.length)/\Sc h2 l S2 (.mrow lt 0 S.tables.length cap) fc oc ta fa oa/\Same h h2 ta/\h.ep < h2.ep) (by simpa using hm) ⟨by simp[hn],by simp[h0],by simp[h5],by simp[h6],by simp[h7],by simp[h8],by simp,by simp,by simp,hb5,mh,lh,bx1,⟨T,hi,rfl⟩,s1,hs1.mono (by simp),hep1⟩ ?_ ?_
  .rintro k S2 e h3 ⟨hn,h0,h5,h6,h7,h8,h42,h43,h44,hb5,mh,lh,bx3,⟨T2,hi2,hpl⟩,s3,hs3,hep3⟩ hltk hm;replace hm:=Is.getN hm;obtain⟨T2',hi2',hm⟩:=hm;rw[hi2] at hi2';cases hi2';replace hm:=hm.getN;obtain⟨v,hv,hm⟩:=hm;replace hm:=hm.bind;obtain⟨v',hv',hm⟩:=hm;have hltk1:k < T.pk.length:=by omega
   have hltk2:k < T2.pk.length:=by omega
   have hfl:=tv.n2.2;simp only[lim_eq] at hfl;have hw:IntKind.i64.wrap ((k:Int)+1)=(k:Int)+1:=Y0a _ (by omega);obtain⟨c1',c2',tv3⟩:=s3.tblK bx3 hi2;obtain rfl:c2'=c2:=by
    have:=tv3.el.rd 2 1 (by omega)
    simp[r2] at this;exact this.symm
   obtain⟨l2,cap2,B2,rfl,el2,w2⟩:=tv3.e2 k v hv;have bx4:=el2.box;have q0:=el2.rd0 1 (by omega);have q1:=el2.le;simp at q0 q1;have hl2:=tv3.l2 l2 (by simp[labs]);have hlt2:=s.lt l2 (by simp[hl2.1]);simp[hn,h0,h5,h6,h7,h8,h42,h43,h44,hltk1,hltk2,bx4,q0,hw];refine Wait.cut (Plan.then_ [0,4,5,6,1,2,3,7,8,9] .done) follows (by kernel_rfl) (fun e h2=>e.n=70/\e.get 0=.one (.ptr l 0)/\e.get 5=.one (.ptr (h.ep,80) 0)/\e.get 6=.one (.ptr lt (i * 3))/\e.get 7=.one (.fn 202 [.lab (h.ep,80)])/\e.get 8=.one ch/\e.get 42=.one (.mrow l2 0 T2.pk.length cap2)/\e.get 43=.one (.d (.int .i64 (T.pk.length:Int)))/\e.get 44=.one (.d (.int .i64 (k:Int))) /\
    h2.box (h.ep,80)=some [rc]/\MR h2 3 ch (cols.map fun c=>c.enc.map C.d)/\(∀ k ∈ labs ch,h.ep < k.1/\k.1 < h2.ep)/\h2.box lt=some B/\Sc h2 l { S2 with tables:=S2.tables.set i { T2 with pk:=T2.pk.set k v' } } (.mrow lt 0 S.tables.length cap) fc oc ta fa oa/\Same h h2 ta/\h.ep < h2.ep) ?_ ?_
   .simp[hn,h0,h5,h6,h7,h8,h42,h43,h44,hltk1,hltk2,bx3,bx4,r2,q0];refine Z00 (HSpec.of_lend (c_evolution_removeColumns_1 v removed v' hv') ⟨.one (.frz (.data rfl)),.one (.ptr hb5 ⟨hf h3 (hs3.mono (fun k hk=>by simp[hk])),trivial⟩),trivial⟩ rfl ?_);simp[hn,hltk2,bx4];refine⟨fun _ _ x=>x,by omega,CutK.of ⟨by simp[hn],by simp[h0],by simp[h5],by simp[h6],by simp[h7],by simp[h8],by simp[h42],by simp[h43],by simp[h44],?_,?_,fun k hk=>⟨(lh k hk).1,by have:=(lh k hk).2;simp<;>omega⟩,?_,?_,hs3.next.setBox (.inl hl2.1),by simp<;>omega⟩⟩
    .have:¬ (h.ep,80)=l2:=fun he=>by rw[<- he] at hlt2;simp at hlt2
     simp[this,hb5]
    .refine mh.frame fun k hk=>?_
     have:k≠l2:=fun he=>by have:=(lh k hk).1;rw[he] at this;omega
     simp[this]
    .simp[hl2.2.symm,bx3]
    .obtain⟨c1'',c2'',tv4⟩:=(s3.frame (Same.refl.next:Same h3 h3.next [])).tblK (by simpa using bx3) hi2;obtain rfl:c2''=.mrow l2 0 T2.pk.length cap2:=by
      have:=tv4.el.rd 2 1 (by omega)
      simp[r2] at this;exact this.symm
     obtain⟨l2',cap2',B2',e1,el4,w4⟩:=tv4.e2 k v hv;simp at e1;obtain⟨rfl,rfl⟩:=e1
     have:=el4.box
     simp only[Zfs,bx4] at this;cases this;simpa using w4 v'
   .rintro e h4 ⟨hn,h0,h5,h6,h7,h8,h42,h43,h44,hb5,mh,lh,bx4,s4,hs4,hep4⟩;have hi3:i < S2.tables.length:=(Y00.1 hi2).1;simp[hn,h44,hw];exact BackF.of _ ⟨⟨by simp[hn],by simp[h0],by simp[h5],by simp[h6],by simp[h7],by simp[h8],by simp[h42],by simp[h43],by simp,hb5,mh,lh,bx4,⟨{ T2 with pk:=T2.pk.set k v' },by simp[hi3],by simpa using hpl⟩,s4,hs4,hep4⟩,hm⟩
  .rintro k S2 e h3 ⟨hn,h0,h5,h6,h7,h8,h42,h43,h44,hb5,mh,lh,bx3,⟨T2,hi2,hpl⟩,s3,hs3,hep3⟩ hge hm;have hge1:¬ k < T.pk.length:=by omega
   replace hm:=Is.getN hm;obtain⟨T2',hi2',hm⟩:=hm;rw[hi2] at hi2';cases hi2';replace hm:=hm.bind;obtain⟨S4,hm4,hm⟩:=hm;obtain rfl:=r_ret hm;obtain⟨c1',c2',tv3⟩:=s3.tblK bx3 hi2;obtain⟨ta',s4,hta⟩:=tv3.s1 h3 ch cols mh .refl fun k hk=>.inr ⟨fun h2=>by have:=s.lt k h2;have:=(lh k hk).1;omega,(lh k hk).2⟩;have hle:=tv3.el.le;have el5:=tv3.el.set (g:=1) (vs:=[ch]) (by simp) (by simp);have q0:=el5.rd0 1 (by omega);simp at q0;simp[hn,h0,h6,h7,h8,h43,h44,hge1,bx3];refine⟨by omega,?_⟩;simp[hn,h0,h7,h8,q0];have hs5:Same h (h3.setBox lt (Z01 B (i * 3+1) [ch])) ta:=hs3.setBox (.inl tv.tm);have hlt80:∀ k ∈ ta++(fa++oa),k≠(h.ep,80):=fun k hk he=>by have:=s.lt k (by simp at hk |-;exact .inr hk);rw[he] at this;simp at this
   refine Z00 (Z62 _ l (.mrow lt 0 S.tables.length cap) fc oc ta' fa oa _ S4 T2.name 202 [.lab (h.ep,80)] [[.sl (removed.map encI)]] _ hm4 s4 (fun h' hs'=>?_) (fun x v hv=>c_evolution_removeColumns_1 x removed v hv) _ (fun h' s5 hs'=>?_))
   .have hs6:Same h h' (ta++(fa++oa)):=(hs5.mono fun k hk=>by simp[hk]).trans (hs'.mono fun k hk=>Y1m _ hk);refine⟨.one (.ptr (cs:=[rc]) ?_ ⟨hf h' hs6,trivial⟩),trivial⟩;rw[hs'.2 _ (by simpa using hep3) fun h2=>hlt80 _ (Y1m _ h2) rfl]
    have:¬ (h.ep,80)=lt:=fun he=>hlt80 lt (by simp[tv.tm]) he.symm
    simp[this,hb5]
   .simp[hn];refine hk h' ta' s5 ((hs5.mono fun k hk=>by simp[hk]).trans (hs'.mono fun k hk=>Y1m _ hk)) fun k hk=>?_;rcases hta k hk with h2 | h2
    .exact .inl h2
    .exact .inr (Y31 (lh k h2).1)
end
section
open Go.Am
def Z1i (v_:GV) (c:Col):Option Int:=
 (bindK (Z0y v_) fun v3=>(bif (v3 != 0) then (some v3) else (bif (v_.kind == 0) then (bif !c.nullable then (some 8) else (bif (v_.kind != 0) then (bif (v_.kind != c.kind) then (some 7) else (some 0)) else (some 0))) else (bif (v_.kind != 0) then (bif (v_.kind != c.kind) then (some 7) else (some 0)) else (some 0)))))
instance c_evolution_checkDefault (v_:GV) (c:Col):Con (Z1i v_ c) prog 177 [.agg v_.enc,.agg c.enc] (fun r=>.one (.d (.int .i64 r))):=by
 unfold Z1i;exact go 29 Tryz.func177 rfl (by kernel_rfl) rfl rfl (by simp)
end
end Go.Proofs.YtbcejndfbklikaaGreatDoor
section
namespace Go.Proofs.YtbcejndfbklikaaGreatDoor
open Go Go.Am
def StpSh:List Sh:=[.d,.d,.d,.d,.d,.d,.r [.d],.d,.d,.d,.d,.d,.r [.d,.d,.d],.r [.d],.d,.d,.d,.d,.d,.d,.d,.d,.r [.d],.d]
def stpC (x:Stp) (x6 x12 x13 x22:C):List C:=[.d (.int .i64 x.kind),.d (.str x.table),.d (.str x.other),.d (.str x.column),.d (.str x.newName),.d (.int .i64 x.type),x6,.d (.str x.op),
 .d (.int .i64 x.value.kind),.d (.int .i64 x.value.int),.d (.str x.value.text),.d (.str x.newTable.name),x12,x13,
 .d (.str x.cons.table),.d (.int .i64 x.cons.left),.d (.str x.cons.op),.d (.int .i64 x.cons.right),.d (.int .i64 x.cons.value.kind),.d (.int .i64 x.cons.value.int),.d (.str x.cons.value.text),
 .d (.str x.fk.table),x22,.d (.str x.fk.ref)]
end Go.Proofs.YtbcejndfbklikaaGreatDoor
namespace Go.Am
open Go Go.Proofs.YtbcejndfbklikaaGreatDoor
theorem Ow.dcons {h:HS} {ss:List Sh} {c:C} {cs:List C} {x:D} {ds:List D} {ls:List Lab} (o:Ow h (.d::ss) cs (x::ds) ls) (hx:x.flat=true):∃ cs',cs=.d x::cs'/\Ow h ss cs' ds ls:=by
 obtain⟨c,y,cs',ds',rfl,e,e2,o'⟩:=o.inv_d;simp at e;obtain⟨rfl,rfl⟩:=e;obtain rfl:=(Frz.data (h:=h) e2).flat hx;exact⟨cs',rfl,o'⟩
end Go.Am
namespace Go.Proofs.YtbcejndfbklikaaGreatDoor
open Go Go.Am
end Go.Proofs.YtbcejndfbklikaaGreatDoor
namespace Go.Am
open Go Go.Proofs.YtbcejndfbklikaaGreatDoor
theorem Ow.stp {h:HS} {xs:List C} {x:Stp} {ls:List Lab} (o:Ow h StpSh xs x.enc ls):∃ x6 x12 x13 x22 a b c d,xs=stpC x x6 x12 x13 x22/\ls=a++(b++(c++d))/\Ow h [.r [.d]] [x6] [.sl (x.cols.map encI)] a/\Ow h [.r [.d,.d,.d]] [x12] [.sl (x.newTable.cols.map Col.enc)] b/\Ow h [.r [.d]] [x13] [.sl (x.newTable.pk.map encI)] c/\Ow h [.r [.d]] [x22] [.sl (x.fk.cols.map encI)] d:=by
 simp only[StpSh,Stp.enc] at o;obtain⟨_,rfl,o_0⟩:=o.dcons (c:=.nil) rfl;obtain⟨_,rfl,o_1⟩:=o_0.dcons (c:=.nil) rfl;obtain⟨_,rfl,o_2⟩:=o_1.dcons (c:=.nil) rfl;obtain⟨_,rfl,o_3⟩:=o_2.dcons (c:=.nil) rfl;obtain⟨_,rfl,o_4⟩:=o_3.dcons (c:=.nil) rfl;obtain⟨_,rfl,o_5⟩:=o_4.dcons (c:=.nil) rfl;obtain⟨x6,_,a,_,rfl,rfl,o6,o_6⟩:=o_5.split;obtain⟨_,rfl,o_7⟩:=o_6.dcons (c:=.nil) rfl;obtain⟨_,rfl,o_8⟩:=o_7.dcons (c:=.nil) rfl;obtain⟨_,rfl,o_9⟩:=o_8.dcons (c:=.nil) rfl;obtain⟨_,rfl,o_10⟩:=o_9.dcons (c:=.nil) rfl;obtain⟨_,rfl,o_11⟩:=o_10.dcons (c:=.nil) rfl;obtain⟨x12,_,b,_,rfl,rfl,o12,o_12⟩:=o_11.split;obtain⟨x13,_,c,_,rfl,rfl,o13,o_13⟩:=o_12.split;obtain⟨_,rfl,o_14⟩:=o_13.dcons (c:=.nil) rfl;obtain⟨_,rfl,o_15⟩:=o_14.dcons (c:=.nil) rfl;obtain⟨_,rfl,o_16⟩:=o_15.dcons (c:=.nil) rfl;obtain⟨_,rfl,o_17⟩:=o_16.dcons (c:=.nil) rfl;obtain⟨_,rfl,o_18⟩:=o_17.dcons (c:=.nil) rfl;obtain⟨_,rfl,o_19⟩:=o_18.dcons (c:=.nil) rfl;obtain⟨_,rfl,o_20⟩:=o_19.dcons (c:=.nil) rfl;obtain⟨_,rfl,o_21⟩:=o_20.dcons (c:=.nil) rfl;obtain⟨x22,_,d,_,rfl,rfl,o22,o_22⟩:=o_21.split;obtain⟨_,rfl,o_23⟩:=o_22.dcons (c:=.nil) rfl;obtain⟨rfl,_,rfl⟩:=o_23.inv_nil;exact⟨x6,x12,x13,x22,a,b,c,d,rfl,by simp,o6,o12,o13,o22⟩
end Go.Am
namespace Go.Proofs.YtbcejndfbklikaaGreatDoor
open Go Go.Am
end Go.Proofs.YtbcejndfbklikaaGreatDoor
namespace Go.Am
open Go Go.Proofs.YtbcejndfbklikaaGreatDoor
theorem Ow.mkStp {h:HS} {x:Stp} {x6 x12 x13 x22:C} {a b c d:List Lab} (o6:Ow h [.r [.d]] [x6] [.sl (x.cols.map encI)] a) (o12:Ow h [.r [.d,.d,.d]] [x12] [.sl (x.newTable.cols.map Col.enc)] b) (o13:Ow h [.r [.d]] [x13] [.sl (x.newTable.pk.map encI)] c) (o22:Ow h [.r [.d]] [x22] [.sl (x.fk.cols.map encI)] d):Ow h StpSh (stpC x x6 x12 x13 x22) x.enc (a++(b++(c++d))):=by
 have e:=o22.join (Ow.data (c:=.d (.str x.fk.ref)) (x:=.str x.fk.ref) rfl .nil);have e2:=o13.join (.data (c:=.d (.str x.cons.table)) rfl (.data (c:=.d (.int .i64 x.cons.left)) rfl (.data (c:=.d (.str x.cons.op)) rfl (.data (c:=.d (.int .i64 x.cons.right)) rfl (.data (c:=.d (.int .i64 x.cons.value.kind)) rfl (.data (c:=.d (.int .i64 x.cons.value.int)) rfl (.data (c:=.d (.str x.cons.value.text)) rfl (.data (c:=.d (.str x.fk.table)) rfl e))))))));have e3:=o6.join (.data (c:=.d (.str x.op)) rfl (.data (c:=.d (.int .i64 x.value.kind)) rfl (.data (c:=.d (.int .i64 x.value.int)) rfl (.data (c:=.d (.str x.value.text)) rfl (.data (c:=.d (.str x.newTable.name)) rfl (o12.join e2))))));have e4:=Ow.data (c:=.d (.int .i64 x.kind)) rfl (.data (c:=.d (.str x.table)) rfl (.data (c:=.d (.str x.other)) rfl (.data (c:=.d (.str x.column)) rfl (.data (c:=.d (.str x.newName)) rfl (.data (c:=.d (.int .i64 x.type)) rfl e3)))));simp only[Y0k] at e4;exact e4
end Go.Am
namespace Go.Proofs.YtbcejndfbklikaaGreatDoor
open Go Go.Am
end Go.Proofs.YtbcejndfbklikaaGreatDoor
namespace Go.Am
open Go Go.Proofs.YtbcejndfbklikaaGreatDoor
theorem Ow.nelem {h:HS} {x:C} {vs:List Int} {ls:List Lab} (o:Ow h [.r [.d]] [x] [.sl (vs.map encI)] ls) {k:Nat} {v:Int} (hk:vs[k]? = some v):∃ l2 cap B,x=.mrow l2 0 vs.length cap/\l2 ∈ ls/\h.box l2=some B/\takeN 1 (B.drop k)=some [.d (.int .i64 v)]:=by
 obtain⟨qs,rfl,P⟩:=o.npart (fun h0=>by have:vs=[]:=by simpa using h0
                                       rw[this] at hk;simp at hk)
 obtain⟨l2,cap,B,k1,k2,k3,k4⟩:=P.elemD (n:=1) rfl (Z6c (f:=encI) hk) (Zdt v)
 have:=k2.rd0 1 (by omega)
 simp at this;exact⟨l2,cap,B,by simpa using k1,by rw[k1];simp[plabs,labs],k2.box,this⟩
end Go.Am
namespace Go.Proofs.YtbcejndfbklikaaGreatDoor
open Go Go.Am
def Z4a (S:Sch) (i:Nat) (step:Stp):Option (Sch × Int):=
 bindK (Z1i step.value ⟨step.column,step.type,step.value.kind == 0⟩) fun e=>bif e != 0 then some (S,e) else
 getK S.tables (i:Int) fun T=>chkK (0 < T.cols.length/\T.cols.length < LIM) (some ({ S with tables:=S.tables.set i { T with cols:=T.cols++[⟨step.column,step.type,step.value.kind == 0⟩] } },0))
theorem Zdh {ta ta' fa oa lx:List Lab} {n:Nat} (h:∀ k ∈ ta',k ∈ ta\/n<=k.1):∀ k ∈ ta'++(fa++oa),k ∈ ta++(fa++oa)\/n<=k.1:=fun k hk=>by
 simp only[Y02] at hk |-;rcases hk with hk | hk | hk
 .exact (h k hk).imp_left .inl
 .exact .inl (.inr (.inl hk))
 .exact .inl (.inr (.inr hk))
theorem Z9l (h:HS) (l:Lab) (tc fc oc x6 x12 x13 x22:C) (ta fa oa:List Lab) (S S':Sch) (i:Nat) (step:Stp) (r:Int) (hm:Is (Z4a S i step) (S',r)) (s:Sc h l S tc fc oc ta fa oa) (K:V->HS->Prop)
  (hk:KeepS h l (ta++(fa++oa)) S' (.one (.d (.int .i64 r))) K) :
  HSpec Tryz.prog 139 [.one (.ptr l 0),.one (.d (.int .i64 (i:Int))),.agg (stpC step x6 x12 x13 x22)] h K:=by
 replace hm:=hm.bind;obtain⟨ev,hev,hm⟩:=hm;refine HSpec.of_vc Tryz.func139 rfl (by kernel_rfl) (n:=43) rfl rfl (by simp) ?_;simp[stpC];have hs0:Same h (((h.setBox (h.ep,80) (stpC step x6 x12 x13 x22)).next.setBox (h.ep+1,112) [C.d (D.str ByteArray.empty),C.d (D.int IntKind.i64 0),C.d (D.bool false)]).next.setBox (h.ep+1,112) [C.d (D.str step.column),C.d (D.int IntKind.i64 step.type),C.d (D.bool (step.value.kind == 0))]) []:=(((Same.refl.setBox (.inr (Y09 _))).next.setBox (.inr (by simp))).next.setBox (.inr (by simp)));simp only[stpC] at hs0;generalize hX:(((h.setBox (h.ep,80) _).next.setBox (h.ep+1,112) _).next.setBox (h.ep+1,112) _)=HX at hs0 |-;have bx7:HX.box (h.ep+1,112)=some [C.d (D.str step.column),C.d (D.int IntKind.i64 step.type),C.d (D.bool (step.value.kind == 0))]:=by rw[<- hX];simp
 refine Z00 (HSpec.of_lend (c_evolution_checkDefault step.value ⟨step.column,step.type,step.value.kind == 0⟩ ev hev) ⟨.agg (FrzCs.datas (ds:=step.value.enc)),.agg (FrzCs.datas (ds:=(⟨step.column,step.type,step.value.kind == 0⟩:Col).enc)),trivial⟩ rfl ?_);cases hev0:ev != 0 with
 | true=>
   rw[hev0] at hm;have e1:=r_ret hm;simp only[Y07] at e1;obtain⟨rfl,rfl⟩:=e1;have hev1:¬ ev=0:=by simpa using hev0
   simp[hev0,hev1];exact hk _ _ (s.frame hs0.next).ows (hs0.next.mono (by simp)) (fun k hk=>.inl hk)
 | false=>
   simp only[hev0,cond_false] at hm;have hev1:ev=0:=by simpa using hev0
   replace hm:=hm.getN;obtain⟨T,hi,hm⟩:=hm;replace hm:=hm.chk;obtain⟨⟨hc0,hc1⟩,hm⟩:=hm;have e1:=r_ret hm;simp only[Y07] at e1;obtain⟨rfl,rfl⟩:=e1;simp[hev0,hev1];have s1:=s.frame hs0;have hb1:=s1.box;have hlt:i < S.tables.length:=(Y00.1 hi).1;obtain⟨lt,c1,c2,B,tv⟩:=s1.tbl hi;obtain⟨cap,rfl⟩:=tv.hd;have bx:=tv.el.box;have r1:=tv.el.rd 1 1 (by omega);have hle:=tv.el.le;simp at r1;have hne:=ne_new (s1.lt l (by simp));have hnt:=ne_new (s1.lt lt (by simp[tv.tm]));refine Wait.cut (Plan.then_ [0,1,2,4,5,6,7,8,9,10,11,12,13] (.two 3 14 (Plan.then_ [14,15,16,17,18] .done) (Plan.then_ [] (.two 3 15 (Plan.then_ [15,16,17,18] .done) (Plan.then_ [3,16,17,18] .done))))) follows (by kernel_rfl) (fun e h'=>e.n=43/\∃ ta',Sc h' l { S with tables:=S.tables.set i { T with cols:=T.cols++[⟨step.column,step.type,step.value.kind == 0⟩] } } (.mrow lt 0 S.tables.length cap) fc oc ta' fa oa/\Same h h' ta/\∀ k ∈ ta',k ∈ ta\/h.ep<=k.1) ?_ ?_
   .simp[hb1,bx7,hlt,bx,r1,hne,hnt];have hs2:Same HX (((HX.next).setArr (HX.ep+1,16 * 39) (some (1,3))).next) []:=(Same.refl.next).setArr.next;simp only[Nat.reduceMul] at hs2;obtain⟨c1',c2',tv2⟩:=(s1.frame hs2).tblK (by simpa using bx) hi;obtain rfl:c1'=c1:=by
     have:=tv2.el.rd 1 1 (by omega)
     simp[r1] at this;exact this.symm
    have hc2:T.cols.length < 2097152:=hc1;refine⟨?_,?_,?_⟩
    all_goals
     refine app_mr (by simp;exact⟨rfl,rfl⟩) (by simp) (by simp) (by simp) (tv2.m1 (by intro h0;simp[h0] at hc0)) (RowAt.own1 (by simp)) (by simp<;>omega) (fun c' h' hm' hs3 hl3=>?_);have hbl:h'.box lt=some B:=by
      rw[hs3.2 lt ((s1.frame hs2).lt lt (by simp[tv.tm])) fun h2=>(tv2.l1 lt h2).2 rfl];simpa using bx
     have hbs:h'.box l=some [.mrow lt 0 S.tables.length cap,fc,oc]:=(s1.frame hs2).keep hs3 fun k hk=>.inl (tv2.l1 k hk).1;have hep:=hs3.1;simp at hep;obtain⟨ta',s4,hta⟩:=tv2.s1 h' c' (T.cols++[⟨step.column,step.type,step.value.kind == 0⟩]) (by simpa using hm') hs3 (fun k hk=>(hl3 k hk).imp_right fun h2=>⟨fun h3=>by have:=(s1.frame hs2).lt k h3;omega,h2.2⟩);simp[hlt,hbl,hbs];refine⟨by omega,CutK.of ⟨by simp,ta',s4,?_,fun k hk=>?_⟩⟩
     .exact ((hs0.trans hs2).mono (by simp) |>.trans (hs3.mono fun k hk=>(tv2.l1 k hk).1)).setBox (.inl tv.tm)
     .rcases hta k hk with h2 | h2
      .exact .inl h2
      .rcases hl3 k h2 with h3 | h3
       .exact .inl (tv2.l1 k h3).1
       .refine .inr ?_;have h4:=h3.1;have h5:=hs0.1;simp at h4;omega
   .rintro e h1 ⟨hn,ta',s4,hs4,hta⟩;simp[hn];exact hk _ _ s4.ows (hs4.mono fun k hk=>by simp[hk]) (Zdh (lx:=[]) hta)
end Go.Proofs.YtbcejndfbklikaaGreatDoor
end
namespace Go.Proofs.YtbcejndfbklikaaGreatDoor
section
open Go.Am
def Z1y (fk:Fk) (k0:Tbl) (k1:Int):Option Bool:=
 (bif strEq fk.table k0.name then (bindK (Z0d fk.cols k1) fun v3=>(some v3)) else (some false))
instance c_evolution_checkUnused_1 (fk:Fk) (k0:Tbl) (k1:Int):Con (Z1y fk k0 k1) prog 211 [.agg fk.enc,.one (.rp [.str k0.name,.sl (k0.cols.map Col.enc),.sl (k0.pk.map encI)]),.one (.rp [.int .i64 k1])] (fun r=>.one (.d (.bool r))):=by
 unfold Z1y;exact go 16 Tryz.func211 rfl (by kernel_rfl) rfl rfl (by simp)
instance f_evolution_checkUnused_1 (k0:Tbl) (k1:Int):ConF (fun x=>Z1y x k0 k1) prog (fun x=>.agg x.enc) (fun r=>.one (.d (.bool r))) 211 [[.str k0.name,.sl (k0.cols.map Col.enc),.sl (k0.pk.map encI)],[.int .i64 k1]]:=⟨fun x=>(c_evolution_checkUnused_1 x k0 k1)⟩
def Z17 (s_:List Cons) (f:Cons->Option Bool):Option Int:=
 (forK (fun (i2:Nat) (x2:Cons) (s2:Unit) next_2=>(bindK (f x2) fun v3=>(bif v3 then (some (i2:Int)) else (next_2 ())))) (fun (s2:Unit)=>(some (-1))) s_ 0 ())
instance i_slices_IndexFunc_Constraint (s_:List Cons) (f:Cons->Option Bool) {g:FuncId} {caps:List (List D)} [ConF f prog (fun x=>.agg x.enc) (fun v=>.one (.d (.bool v))) g caps]:Con (Z17 s_ f) prog 228 [.one (.d (.sl (s_.map Cons.enc))),.one (.fn g caps)] (fun r=>.one (.d (.int .i64 r))):=by
 unfold Z17;have l1:LH (σ:=Unit) 8 [0,1,7] []:=.intro;exact go 19 Tryz.func228 rfl (by kernel_rfl) rfl rfl (by simp)
theorem Z70 (s_:List Cons) (g:FuncId) (caps:List (List D)) (f:Cons->Option Bool) (hf:∀ xa v,Is (f xa) v->PSpec prog g (.agg xa.enc::capsOf caps) (.one (.d (.bool v)))) (r:Int) (hm:Is (Z17 s_ f) r):PSpec prog 228 [.one (.d (.sl (s_.map Cons.enc))),.one (.fn g caps)] (.one (.d (.int .i64 r))):=
 haveI:ConF f prog (fun x=>.agg x.enc) (fun v=>.one (.d (.bool v))) g caps:=⟨hf⟩
 (i_slices_IndexFunc_Constraint s_ f).h r hm
def Z1j (s_:List Cons) (f:Cons->Option Bool):Option Bool:=
 (bindK (Z17 s_ f) fun v1=>(some (decide (0<=v1))))
instance i_slices_ContainsFunc_Constraint (s_:List Cons) (f:Cons->Option Bool) {g:FuncId} {caps:List (List D)} [ConF f prog (fun x=>.agg x.enc) (fun v=>.one (.d (.bool v))) g caps]:Con (Z1j s_ f) prog 212 [.one (.d (.sl (s_.map Cons.enc))),.one (.fn g caps)] (fun r=>.one (.d (.bool r))):=by
 unfold Z1j;exact go 9 Tryz.func212 rfl (by kernel_rfl) rfl rfl (by simp)
def Z1x (c:Cons) (k0:Tbl) (k1:Int):Option Bool:=
 (bif strEq c.table k0.name then (bif (c.left == k1) then (some true) else (some (c.right == k1))) else (some false))
instance c_evolution_checkUnused_2 (c:Cons) (k0:Tbl) (k1:Int):Con (Z1x c k0 k1) prog 213 [.agg c.enc,.one (.rp [.str k0.name,.sl (k0.cols.map Col.enc),.sl (k0.pk.map encI)]),.one (.rp [.int .i64 k1])] (fun r=>.one (.d (.bool r))):=by
 unfold Z1x;exact go 22 Tryz.func213 rfl (by kernel_rfl) rfl rfl (by simp)
instance f_evolution_checkUnused_2 (k0:Tbl) (k1:Int):ConF (fun x=>Z1x x k0 k1) prog (fun x=>.agg x.enc) (fun r=>.one (.d (.bool r))) 213 [[.str k0.name,.sl (k0.cols.map Col.enc),.sl (k0.pk.map encI)],[.int .i64 k1]]:=⟨fun x=>(c_evolution_checkUnused_2 x k0 k1)⟩
def Z1q (s_:Sch) (t:Tbl) (column:Int):Option Int:=
 (bindK (Z0d t.pk column) fun v4=>(bif v4 then (some 9) else (bindK (Z04 s_.fks (fun xa_=>Z1y xa_ t column)) fun v6=>(bif v6 then (some 10) else (bindK (Z1j s_.cons (fun xa_=>Z1x xa_ t column)) fun v8=>(bif v8 then (some 11) else (some 0)))))))
instance c_evolution_checkUnused (s_:Sch) (t:Tbl) (column:Int):Con (Z1q s_ t column) prog 176 [.agg s_.enc,.agg t.enc,.one (.d (.int .i64 column))] (fun r=>.one (.d (.int .i64 r))):=by
 unfold Z1q;exact go 19 Tryz.func176 rfl (by kernel_rfl) rfl rfl (by simp)
end
section
open Go Go.Am
def Z3o (S:Sch) (i:Nat) (step:Stp):Option (Sch × Int):=
 getK S.tables (i:Int) fun T=>bindK (Z03 T step.column) fun r=>bif !r.2 then some (S,4) else
 bif step.kind == 3 then bindK (Z03 T step.newName) fun r2=>bif r2.2 then some (S,5) else
  getK T.cols r.1 fun c=>some ({ S with tables:=S.tables.set i { T with cols:=T.cols.set r.1.toNat { c with name:=step.newName } } },0)
 else bindK (Z1q S T r.1) fun e=>bif e != 0 then some (S,e) else
 bif step.kind == 5 then getK T.cols r.1 fun c=>some ({ S with tables:=S.tables.set i { T with cols:=T.cols.set r.1.toNat { c with kind:=step.type } } },0)
 else getK T.cols r.1 fun c=>bindK (Z1i step.value c) fun e=>bif e != 0 then some (S,e) else bindK (Z1c S i [r.1]) fun S'=>some (S',0)
set_option maxHeartbeats 1000000 in
theorem Z8r (h:HS) (l:Lab) (tc fc oc x6 x12 x13 x22:C) (ta fa oa:List Lab) (S S':Sch) (i:Nat) (step:Stp) (r:Int) (hm:Is (Z3o S i step) (S',r)) (s:Sc h l S tc fc oc ta fa oa) (K:V->HS->Prop)
  (hk:KeepS h l (ta++(fa++oa)) S' (.one (.d (.int .i64 r))) K) :
  HSpec prog 140 [.one (.ptr l 0),.one (.d (.int .i64 (i:Int))),.agg (stpC step x6 x12 x13 x22)] h K:=by
 replace hm:=hm.getN;obtain⟨T,hi,hm⟩:=hm;replace hm:=hm.bind;obtain⟨v,hv,hm⟩:=hm;have hlt:i < S.tables.length:=(Y00.1 hi).1;have hs0:Same h ((h.setBox (h.ep,80) (stpC step x6 x12 x13 x22)).next) []:=(Same.refl.setBox (.inr (Y09 _))).next;have s0:=s.frame hs0;obtain⟨lt,c1,c2,B,tv⟩:=s0.tbl hi;obtain⟨cap,rfl⟩:=tv.hd;have hb0:=s0.box;have bx:=tv.el.box;have r0:=tv.el.rd0 3 (by omega);have r1:=tv.el.rd 1 1 (by omega);simp at r0 r1;have bx5:(h.setBox (h.ep,80) (stpC step x6 x12 x13 x22)).next.box (h.ep,80)=some (stpC step x6 x12 x13 x22):=by simp
 refine HSpec.of_vc Tryz.func140 rfl (by kernel_rfl) (n:=94) rfl rfl (by simp) ?_;have hnn:stpC step x6 x12 x13 x22≠[]:=by simp[stpC]
 have hne:=ne_new (s.lt l (by simp));have hbs:=s.box;have hep:h.ep < ((h.setBox (h.ep,80) (stpC step x6 x12 x13 x22)).next).ep:=by simp
 simp[hbs,hne,hlt,hnn];generalize (h.setBox (h.ep,80) (stpC step x6 x12 x13 x22)).next=HX at *;have hxf:∀ h',Same HX h' []->FrzCs h' [C.d (D.str T.name),c1,c2] T.enc:=fun h' hs=>⟨.data rfl,tv.f1 h' hs,tv.f2 h' hs,trivial⟩;refine Wait.cut (Plan.then_ [0,1,2,3,4,5,6,7,8,9,10] .done) follows (by kernel_rfl) (fun e h'=>e.n=94/\e.get 0=.one (.ptr l 0)/\e.get 1=.one (.d (.int .i64 (i:Int)))/\e.get 5=.one (.ptr (h.ep,80) 0)/\e.get 7=.one (.ptr lt (i * 3))/\e.get 8=.one (.d (.int .i64 v.1))/\e.get 9=.one (.d (.bool v.2))/\Same HX h' []) ?_ ?_
 .simp[bx,r0,bx5,stpC];refine Z00 (HSpec.of_lend (c_schema_FindColumn T step.column v hv) ⟨.agg (hxf _ .refl),.one (.frz (.data rfl)),trivial⟩ rfl ?_);simp;exact⟨fun _ _ x=>x,CutK.of (by simp[Same.refl.next])⟩
 .rintro e h1 ⟨hn,h0,h1',h5,h7,h8,h9,hs1⟩;have bx5':h1.box (h.ep,80)=some (stpC step x6 x12 x13 x22):=by rw[hs1.2 _ hep (by simp)];exact bx5
  have bx':h1.box lt=some B:=by rw[hs1.2 _ (s0.lt lt (by simp[tv.tm])) (by simp)];exact bx
  have s1:=s0.frame hs1;have hb1:=s1.box;have hy:=hs0.trans hs1;simp[hn,h0,h1',h5,h7,h8,h9];cases hv2:v.2 with
  | false=>
    rw[hv2] at hm;have e1:=r_ret hm;simp only[Y07] at e1;obtain⟨rfl,rfl⟩:=e1;simp[hn];exact hk _ _ s1.ows (hy.mono (by simp)) (fun k hk=>.inl hk)
  | true=>
    simp only[hv2,Y1v,cond_false] at hm;simp[hn,h5,bx5',stpC];cases hk3:step.kind == 3 with
    | true=>
      simp only[hk3,cond_true] at hm;replace hm:=hm.bind;obtain⟨w,hw,hm⟩:=hm;simp[hk3];refine Wait.cut (Plan.then_ [0,1,2,3,4,5,6,7,8,9,10] .done) follows (by kernel_rfl) (fun e h'=>e.n=94/\e.get 0=.one (.ptr l 0)/\e.get 1=.one (.d (.int .i64 (i:Int)))/\e.get 5=.one (.ptr (h.ep,80) 0)/\e.get 7=.one (.ptr lt (i * 3))/\e.get 8=.one (.d (.int .i64 v.1))/\e.get 11=.one (.d (.bool w.2))/\Same h1 h' []) ?_ ?_
      .simp[hn,h0,h1',h5,h7,h8,bx',r0,bx5',stpC];refine Z00 (HSpec.of_lend (c_schema_FindColumn T step.newName w hw) ⟨.agg (hxf _ hs1),.one (.frz (.data rfl)),trivial⟩ rfl ?_);simp[hn];exact⟨fun _ _ x=>x,CutK.of (by simp[hn,h0,h1',h5,h7,h8,Same.refl.next])⟩
      .rintro e h2 ⟨hn,h0,h1',h5,h7,h8,h11,hs2⟩;have s2:=s1.frame hs2;have hy2:=hy.trans hs2;simp[hn,h11];cases hw2:w.2 with
       | true=>
         rw[hw2] at hm;have e1:=r_ret hm;simp only[Y07] at e1;obtain⟨rfl,rfl⟩:=e1;simp[hn];exact hk _ _ s2.ows (hy2.mono (by simp)) (fun k hk=>.inl hk)
       | false=>
         simp only[hw2,cond_false] at hm;replace hm:=hm.get;obtain⟨c,hv0,hc,hm⟩:=hm;have e1:=r_ret hm;simp only[Y07] at e1;obtain⟨rfl,rfl⟩:=e1;have bx2:h2.box lt=some B:=by rw[hs2.2 _ (s1.lt lt (by simp[tv.tm])) (by simp)];exact bx'
         have bx52:h2.box (h.ep,80)=some (stpC step x6 x12 x13 x22):=by rw[hs2.2 _ (Y04 hep hs1.1) (by simp)];exact bx5'
         obtain⟨c1',c2',tv2⟩:=s2.tblK bx2 hi;obtain rfl:c1'=c1:=by
          have:=tv2.el.rd 1 1 (by omega)
          simp[r1] at this;exact this.symm
         obtain⟨l2,cap2,B2,rfl,el2,w2⟩:=tv2.e1 _ c hc;have bx3:=el2.box;have hle2:=el2.le;have hl2:=tv2.l1 l2 (by simp[labs]);obtain⟨n,hn1⟩:∃ n:Nat,v.1=n:=⟨v.1.toNat,by omega⟩;have hnl:n < T.cols.length:=by
          have:=(Y00.1 hc).1
          omega
         rw[hn1] at h8 hle2 w2;simp;refine Wait.cut (Plan.then_ [0,1,2,3,4,5,6,7,8,9] .done) follows (by kernel_rfl) (fun e h'=>e.n=94/\Sc h' l { S with tables:=S.tables.set i { T with cols:=T.cols.set v.1.toNat { c with name:=step.newName } } } (.mrow lt 0 S.tables.length cap) fc oc ta fa oa/\Same h h' ta) ?_ ?_
         .simp at hle2;simp[hn,h0,h1',h5,h7,h8,bx2,r1,bx52,bx3,hnl,stpC];refine⟨by omega,CutK.of ⟨by simp[hn],?_,(hy2.mono (by simp)).setBox (.inl hl2.1)⟩⟩
          have:=w2 0 [.d (.str step.newName)] { c with name:=step.newName } (by simp) (by simp)
          simpa[hn1] using this
         .rintro e h3 ⟨hn,s3,hs3⟩;simp[hn];exact hk _ _ s3.ows (hs3.mono fun k hk=>by simp[hk]) (fun k hk=>.inl hk)
    | false=>
      simp only[hk3,cond_false] at hm;replace hm:=hm.bind;obtain⟨w,hw,hm⟩:=hm;simp[hk3];refine Wait.cut (Plan.then_ [0,1,2,3,4,5,6,7,8] .done) follows (by kernel_rfl) (fun e h'=>e.n=94/\e.get 0=.one (.ptr l 0)/\e.get 1=.one (.d (.int .i64 (i:Int)))/\e.get 5=.one (.ptr (h.ep,80) 0)/\e.get 7=.one (.ptr lt (i * 3))/\e.get 8=.one (.d (.int .i64 v.1))/\e.get 12=.one (.d (.int .i64 w))/\Same h1 h' []) ?_ ?_
      .simp[hn,h0,h1',h5,h7,h8,bx',r0,hb1];refine Z00 (HSpec.of_lend (c_evolution_checkUnused S T v.1 w hw) ⟨.agg s1.frz,.agg (hxf _ hs1),.one (.frz (.data rfl)),trivial⟩ rfl ?_);simp[hn];exact⟨fun _ _ x=>x,CutK.of (by simp[hn,h0,h1',h5,h7,h8,Same.refl.next])⟩
      .rintro e h2 ⟨hn,h0,h1',h5,h7,h8,h12,hs2⟩;have s2:=s1.frame hs2;have hy2:=hy.trans hs2;have bx2:h2.box lt=some B:=by rw[hs2.2 _ (s1.lt lt (by simp[tv.tm])) (by simp)];exact bx'
       have bx52:h2.box (h.ep,80)=some (stpC step x6 x12 x13 x22):=by rw[hs2.2 _ (Y04 hep hs1.1) (by simp)];exact bx5'
       simp[hn,h12];cases hw0:w != 0 with
       | true=>
         simp only[hw0,cond_true] at hm;have e1:=r_ret hm;simp only[Y07] at e1;obtain⟨rfl,rfl⟩:=e1;have hw1:¬ w=0:=by simpa using hw0
         simp[hn,h12,hw1];exact hk _ _ s2.ows (hy2.mono (by simp)) (fun k hk=>.inl hk)
       | false=>
         simp only[hw0,cond_false] at hm;have hw1:w=0:=by simpa using hw0
         simp[hn,h5,h12,hw1,bx52,stpC];cases hk5:step.kind == 5 with
         | true=>
           simp only[hk5,cond_true] at hm;replace hm:=hm.get;obtain⟨c,hv0,hc,hm⟩:=hm;have e1:=r_ret hm;simp only[Y07] at e1;obtain⟨rfl,rfl⟩:=e1;obtain⟨c1',c2',tv2⟩:=s2.tblK bx2 hi;obtain rfl:c1'=c1:=by
            have:=tv2.el.rd 1 1 (by omega)
            simp[r1] at this;exact this.symm
           obtain⟨l2,cap2,B2,rfl,el2,w2⟩:=tv2.e1 _ c hc;have bx3:=el2.box;have hle2:=el2.le;have hl2:=tv2.l1 l2 (by simp[labs]);obtain⟨n,hn1⟩:∃ n:Nat,v.1=n:=⟨v.1.toNat,by omega⟩;have hnl:n < T.cols.length:=by
            have:=(Y00.1 hc).1
            omega
           rw[hn1] at h8 hle2 w2;simp[hk5];refine Wait.cut (Plan.then_ [0,1,2,3,4,5,6,7,8,9] .done) follows (by kernel_rfl) (fun e h'=>e.n=94/\Sc h' l { S with tables:=S.tables.set i { T with cols:=T.cols.set v.1.toNat { c with kind:=step.type } } } (.mrow lt 0 S.tables.length cap) fc oc ta fa oa/\Same h h' ta) ?_ ?_
           .simp at hle2;simp[hn,h0,h1',h5,h7,h8,bx2,r1,bx52,bx3,hnl,stpC];refine⟨by omega,CutK.of ⟨by simp[hn],?_,(hy2.mono (by simp)).setBox (.inl hl2.1)⟩⟩
            have:=w2 1 [.d (.int .i64 step.type)] { c with kind:=step.type } (by simp) (by simp)
            simpa[hn1] using this
           .rintro e h3 ⟨hn,s3,hs3⟩;simp[hn];exact hk _ _ s3.ows (hs3.mono fun k hk=>by simp[hk]) (fun k hk=>.inl hk)
         | false=>
           simp only[hk5,cond_false] at hm;replace hm:=hm.get;obtain⟨c,hv0,hc,hm⟩:=hm;replace hm:=hm.bind;obtain⟨u,hu,hm⟩:=hm;obtain⟨c1',c2',tv2⟩:=s2.tblK bx2 hi;obtain rfl:c1'=c1:=by
            have:=tv2.el.rd 1 1 (by omega)
            simp[r1] at this;exact this.symm
           obtain⟨l2,cap2,B2,rfl,el2,w2⟩:=tv2.e1 _ c hc;have bx3:=el2.box;have q0:=el2.rd0 3 (by omega);obtain⟨n,hn1⟩:∃ n:Nat,v.1=n:=⟨v.1.toNat,by omega⟩;have hnl:n < T.cols.length:=by
            have:=(Y00.1 hc).1
            omega
           rw[hn1] at h8 q0;simp at q0;simp[hk5];refine Wait.cut (Plan.then_ [0,1,2,3,4,5,6,7,8,9,10] .done) follows (by kernel_rfl) (fun e h'=>e.n=94/\e.get 0=.one (.ptr l 0)/\e.get 1=.one (.d (.int .i64 (i:Int)))/\e.get 8=.one (.d (.int .i64 n))/\e.get 13=.one (.d (.int .i64 u))/\Same h2 h' []) ?_ ?_
           .simp[hn,h0,h1',h5,h7,h8,bx2,r1,bx3,q0,hnl,bx52,stpC];refine Z00 (HSpec.of_lend (c_evolution_checkDefault step.value c u hu) ⟨.agg (FrzCs.datas (ds:=step.value.enc)),.agg (FrzCs.datas (ds:=c.enc)),trivial⟩ rfl ?_);simp[hn];exact⟨fun _ _ x=>x,CutK.of (by simp[hn,h0,h1',h8,Same.refl.next])⟩
           .rintro e h3 ⟨hn,h0,h1',h8,h13,hs3⟩;have s3:=s2.frame hs3;have hy3:=hy2.trans hs3;simp[hn,h13];cases hu0:u != 0 with
            | true=>
              simp only[hu0,cond_true] at hm;have e1:=r_ret hm;simp only[Y07] at e1;obtain⟨rfl,rfl⟩:=e1;have hu1:¬ u=0:=by simpa using hu0
              simp[hn,h13,hu1];exact hk _ _ s3.ows (hy3.mono (by simp)) (fun k hk=>.inl hk)
            | false=>
              simp only[hu0,cond_false] at hm;have hu1:u=0:=by simpa using hu0
              replace hm:=hm.bind;obtain⟨S4,hm4,hm⟩:=hm;have e1:=r_ret hm;simp only[Y07] at e1;obtain⟨rfl,rfl⟩:=e1;simp[hn,h0,h1',h8,h13,hu1];have hz:Same h3 ((h3.setArr (h3.ep,16 * 92) (some (1,1))).next) []:=(Same.refl.setArr).next;simp only[Nat.reduceMul] at hz;refine Z00 (Z4h _ l _ fc oc _ ta fa oa S S4 i [v.1] hm4 (s3.frame hz) (fun h' _=>.data (by simp[hn1])) _ (fun h4 ta4 s4 hs4 hta4=>?_));simp[hn];have hy4:=hy3.trans hz;exact hk _ _ s4.ows ((hy4.mono (by simp)).trans (hs4.mono fun k hk=>Y0c _ hk)) (Zdh (lx:=[]) fun k hk=>(hta4 k hk).imp_right fun h2=>Y0y hy4.1 h2)
def Z34 (S:Sch) (i:Nat) (step:Stp):Option (Sch × Int):=
 getK S.tables (i:Int) fun T=>bif ((step.cols.length:Int) != 2) then some (S,3) else getK step.cols 0 fun a=>bif decide (a < 0) then some (S,3) else getK step.cols 1 fun b=>bif decide (b<=a) then some (S,3) else bif decide ((T.cols.length:Int)<=b) then some (S,3) else
 forK (fun _ (col:Int) (nul:Bool) next=>getK T.cols col fun c=>bif c.kind != 3 then some (S,7) else next (nul && c.nullable)) (fun nul=>
  forK (fun _ (col:Int) (_:Unit) next=>bindK (Z1q S T col) fun e=>bif e != 0 then some (S,e) else next ()) (fun _=>
   bindK (Z1c S i step.cols) fun S1=>getK S1.tables (i:Int) fun T1=>chkK (0 < T1.cols.length/\T1.cols.length < LIM) (some ({ S1 with tables:=S1.tables.set i { T1 with cols:=T1.cols++[⟨step.column,3,nul⟩] } },0))) step.cols 0 ()) step.cols 0 true
set_option maxHeartbeats 1000000 in
theorem Z88 (h:HS) (l:Lab) (tc fc oc:C) (xs:List C) (ta fa oa lx:List Lab) (S S':Sch) (i:Nat) (step:Stp) (r:Int) (hm:Is (Z34 S i step) (S',r)) (s:Sc h l S tc fc oc ta fa oa) (hx:Ow h StpSh xs step.enc lx) (hd:∀ k ∈ lx,k.1 < h.ep/\k ∉ l::(ta++(fa++oa))) (K:V->HS->Prop)
  (hk:KeepS h l (ta++(fa++oa)) S' (.one (.d (.int .i64 r))) K) :
  HSpec prog 138 [.one (.ptr l 0),.one (.d (.int .i64 (i:Int))),.agg xs] h K:=by
 obtain⟨x6,x12,x13,x22,a6,a12,a13,a22,rfl,rfl,o6,o12,o13,o22⟩:=hx.stp;replace hm:=hm.getN;obtain⟨T,hi,hm⟩:=hm;have hlt:i < S.tables.length:=(Y00.1 hi).1;have hs0:Same h ((h.setBox (h.ep,80) (stpC step x6 x12 x13 x22)).next) []:=(Same.refl.setBox (.inr (Y09 _))).next;have s0:=s.frame hs0;obtain⟨lt,c1,c2,B,tv⟩:=s0.tbl hi;obtain⟨cap,rfl⟩:=tv.hd;have hb0:=s0.box;have bx:=tv.el.box;have r0:=tv.el.rd0 3 (by omega);have r1:=tv.el.rd 1 1 (by omega);simp at r0 r1;have bx5:(h.setBox (h.ep,80) (stpC step x6 x12 x13 x22)).next.box (h.ep,80)=some (stpC step x6 x12 x13 x22):=by simp
 have o60:∀ h',Same h h' (l::(ta++(fa++oa)))->Ow h' [.r [.d]] [x6] [.sl (step.cols.map encI)] a6:=fun h' hs=>o6.frame fun k hk=>hs.2 k (hd k (by simp[hk])).1 (hd k (by simp[hk])).2;have hcl:=o6.nlen;simp at hcl;refine HSpec.of_vc Tryz.func138 rfl (by kernel_rfl) (n:=114) rfl rfl (by simp) ?_;have hnn:stpC step x6 x12 x13 x22≠[]:=by simp[stpC]
 have hne:=ne_new (s.lt l (by simp));have hbs:=s.box;have hep:h.ep < ((h.setBox (h.ep,80) (stpC step x6 x12 x13 x22)).next).ep:=by simp
 simp[hbs,hne,hlt,hnn];have e6:takeN 1 ((stpC step x6 x12 x13 x22).drop 6)=some [x6]:=by simp[stpC]
 simp[e6];generalize (h.setBox (h.ep,80) (stpC step x6 x12 x13 x22)).next=HX at *;have hxf:∀ h',Same HX h' []->FrzCs h' [C.d (D.str T.name),c1,c2] T.enc:=fun h' hs=>⟨.data rfl,tv.f1 h' hs,tv.f2 h' hs,trivial⟩;cases hl2:(step.cols.length:Int) != 2 with
 | true=>
   simp only[hl2,cond_true] at hm;have e1:=r_ret hm;have hl3:¬ (step.cols.length:Int)=2:=by simpa using hl2
   simp only[Y07] at e1;obtain⟨rfl,rfl⟩:=e1;refine Wait.cut (Plan.then_ [0,1,2,3,4,5,6,7,8,9,10,11,12,13,14,15,16,17,18,19,20,21,22,23,24,25,26,27,28] .done) follows (by kernel_rfl) (fun e h'=>e.n=114/\e.get 51=.one (.d (.bool true))/\h'=HX) ?_ ?_
   .simp;refine Z1n hcl.1 ?_;simp[hl2,hl3];exact CutK.of (by simp)
   .rintro e h1 ⟨hn,h51,rfl⟩;simp[hn,h51];exact hk _ _ s0.ows (hs0.mono (by simp)) (fun k hk=>.inl hk)
 | false=>
   simp only[hl2,cond_false] at hm;have hl3:(step.cols.length:Int)=2:=by simpa using hl2
   have hl4:step.cols.length=2:=by omega
   replace hm:=hm.get;obtain⟨a,-,ha,hm⟩:=hm;simp at ha;obtain⟨l6,cap6,B6,rfl,hl6,bx6,r6⟩:=(o60 _ (hs0.mono (by simp))).nelem (k:=0) (v:=a) (by simpa using ha);simp at r6;cases ha0:decide (a < 0) with
   | true=>
     simp only[ha0,cond_true] at hm;have e1:=r_ret hm;simp at ha0;simp only[Y07] at e1;obtain⟨rfl,rfl⟩:=e1;refine Wait.cut (Plan.then_ [0,1,2,3,4,5,6,7,8,9,10,11,12,13,14,15,16,17,18,19,20,21,22,23,24,25,26,27,28] .done) follows (by kernel_rfl) (fun e h'=>e.n=114/\e.get 51=.one (.d (.bool true))/\h'=HX) ?_ ?_
     .simp;simp[hl4,bx6,r6,ha0];exact CutK.of (by simp)
     .rintro e h1 ⟨hn,h51,rfl⟩;simp[hn,h51];exact hk _ _ s0.ows (hs0.mono (by simp)) (fun k hk=>.inl hk)
   | false=>
     simp only[ha0,cond_false] at hm;simp at ha0;have ha1:¬ a < 0:=by omega
     replace hm:=hm.get;obtain⟨b,-,hb,hm⟩:=hm;simp at hb;obtain⟨l6',cap6',B6',e6',-,bx6',r61⟩:=(o60 _ (hs0.mono (by simp))).nelem (k:=1) (v:=b) (by simpa using hb);simp at e6';obtain⟨rfl,rfl⟩:=e6';rw[bx6] at bx6';cases bx6';simp at r61;cases hb0':decide (b<=a) with
     | true=>
       simp only[hb0',cond_true] at hm;have e1:=r_ret hm;simp at hb0';simp only[Y07] at e1;obtain⟨rfl,rfl⟩:=e1;refine Wait.cut (Plan.then_ [0,1,2,3,4,5,6,7,8,9,10,11,12,13,14,15,16,17,18,19,20,21,22,23,24,25,26,27,28] .done) follows (by kernel_rfl) (fun e h'=>e.n=114/\e.get 51=.one (.d (.bool true))/\h'=HX) ?_ ?_
       .simp;simp[hl4,bx6,r6,r61,ha1,hb0'];exact CutK.of (by simp)
       .rintro e h1 ⟨hn,h51,rfl⟩;simp[hn,h51];exact hk _ _ s0.ows (hs0.mono (by simp)) (fun k hk=>.inl hk)
     | false=>
       simp only[hb0',cond_false] at hm;simp at hb0';have hb1':¬ b<=a:=by omega
       cases hc0:decide ((T.cols.length:Int)<=b) with
       | true=>
         simp only[hc0,cond_true] at hm;have e1:=r_ret hm;simp at hc0;simp only[Y07] at e1;obtain⟨rfl,rfl⟩:=e1;refine Wait.cut (Plan.then_ [0,1,2,3,4,5,6,7,8,9,10,11,12,13,14,15,16,17,18,19,20,21,22,23,24,25,26,27,28] .done) follows (by kernel_rfl) (fun e h'=>e.n=114/\e.get 51=.one (.d (.bool true))/\h'=HX) ?_ ?_
         .simp;simp[hl4,bx6,r6,r61,ha1,hb1',bx,r1];refine Z1n tv.n1.1 ?_;simp[hc0];exact CutK.of (by simp)
         .rintro e h1 ⟨hn,h51,rfl⟩;simp[hn,h51];exact hk _ _ s0.ows (hs0.mono (by simp)) (fun k hk=>.inl hk)
       | false=>
         simp only[hc0,cond_false] at hm;simp at hc0;have hc1:¬ (T.cols.length:Int)<=b:=by omega
         refine Wait.cut (Plan.then_ [0,1,2,3,4,5,6,7,8,9,10,11,12,13,14,15,16,17,18,19,20,21,22,23,24,25,26,27,28] .done) follows (by kernel_rfl) (fun e h'=>e.n=114/\e.get 0=.one (.ptr l 0)/\e.get 1=.one (.d (.int .i64 (i:Int)))/\e.get 5=.one (.ptr (h.ep,80) 0)/\e.get 7=.one (.ptr lt (i * 3))/\e.get 8=.one (.mrow l6 0 step.cols.length cap6)/\e.get 51=.one (.d (.bool false))/\h'=HX) ?_ ?_
         .simp;simp[hl4,bx6,r6,r61,ha1,hb1',bx,r1];refine Z1n tv.n1.1 ?_;simp[hc1];exact CutK.of (by simp[hl4])
         .rintro e h1 ⟨hn,h0,h1',h5,h7,h8,h51,rfl⟩;simp[hn,h8,h51];have n6:∀ h',Same h h' (l::(ta++(fa++oa)))->h'.box l6=some B6/\∀ (k:Nat) (v:Int),step.cols[k]? = some v->takeN 1 (B6.drop k)=some [.d (.int .i64 v)]:=fun h' hs=>by
           have hl6':=hd l6 (by simp[hl6]);have h2:h'.box l6=some B6:=by
            rw[hs.2 l6 hl6'.1 hl6'.2,<- hs0.2 l6 hl6'.1 (by simp)];exact bx6
           refine⟨h2,fun k v hk=>?_⟩;obtain⟨l7,cap7,B7,e7,-,bx7,r7⟩:=(o60 h' hs).nelem hk;simp at e7;obtain⟨rfl,rfl⟩:=e7;rw[h2] at bx7;cases bx7;exact r7
          refine Wait.for (xs:=step.cols) (s0:=true) (fun k nul e h2=>e.n=114/\e.get 0=.one (.ptr l 0)/\e.get 1=.one (.d (.int .i64 (i:Int)))/\e.get 5=.one (.ptr (h.ep,80) 0)/\e.get 7=.one (.ptr lt (i * 3))/\e.get 8=.one (.mrow l6 0 step.cols.length cap6)/\e.get 52=.one (.mrow l6 0 step.cols.length cap6)/\e.get 53=.one (.d (.int .i64 (step.cols.length:Int)))/\e.get 54=.one (.d (.int .i64 (k:Int)))/\e.get 9=.one (.d (.bool nul))/\h2=h1) hm ⟨by simp[hn],by simp[h0],by simp[h1'],by simp[h5],by simp[h7],by simp[h8],by simp,by simp,by simp,by simp,rfl⟩ ?_ ?_
          .rintro k nul e h2 ⟨hn,h0,h1',h5,h7,h8,h52,h53,h54,h9,rfl⟩ hltk hm;replace hm:=hm.get;obtain⟨c,hc0',hc,hm⟩:=hm;have hltk2:k < 2:=by omega
           have hw:IntKind.i64.wrap ((k:Int)+1)=(k:Int)+1:=Y0a _ (by omega);obtain⟨n6a,n6b⟩:=n6 _ (hs0.mono (by simp));have q6:=n6b k _ (Y01 hltk);obtain⟨l2,cap2,B2,rfl,el2,-⟩:=tv.e1 _ c hc;have bx2:=el2.box;have q1:=el2.rd 1 1 (by omega);have q2:=el2.rd 2 1 (by omega);obtain⟨n,hn1⟩:∃ n:Nat,step.cols[k]=n:=⟨step.cols[k].toNat,by omega⟩;have hnl:n < T.cols.length:=by
            have:=(Y00.1 hc).1
            omega
           rw[hn1] at q6 q1 q2;simp at q1 q2;cases hk3:c.kind != 3 with
           | true=>
             simp only[hk3,cond_true] at hm;have e1:=r_ret hm;simp only[Y07] at e1;obtain⟨rfl,rfl⟩:=e1;have hk4:¬ c.kind=3:=by simpa using hk3
             simp[hn,h7,h8,h52,h53,h54,hltk,n6a,q6,bx,r1,hnl,bx2,q1,hk3,hk4];exact hk _ _ s0.ows (hs0.mono (by simp)) (fun k hk=>.inl hk)
           | false=>
             simp only[hk3,cond_false] at hm;have hk4:c.kind=3:=by simpa using hk3
             simp[hn,h7,h8,h52,h53,h54,hltk,n6a,q6,bx,r1,hnl,bx2,q1,hk4];cases nul with
             | true=>
               simp[hn,h7,h9,h54,bx,r1,hnl,bx2,q2,hw];exact BackF.of _ ⟨⟨by simp[hn],by simp[h0],by simp[h1'],by simp[h5],by simp[h7],by simp[h8],by simp[h52],by simp[h53],by simp,by simp,rfl⟩,hm⟩
             | false=>
               simp[hn,h7,h9,h54,bx,r1,hnl,bx2,q2,hw];exact BackF.of _ ⟨⟨by simp[hn],by simp[h0],by simp[h1'],by simp[h5],by simp[h7],by simp[h8],by simp[h52],by simp[h53],by simp,by simp,rfl⟩,hm⟩
          .rintro nul e h2 ⟨hn,h0,h1',h5,h7,h8,h52,h53,h54,h9,rfl⟩ hm;simp[hn,h8,h53,h54];refine Wait.for (xs:=step.cols) (s0:=()) (fun k _ e h3=>e.n=114/\e.get 0=.one (.ptr l 0)/\e.get 1=.one (.d (.int .i64 (i:Int)))/\e.get 5=.one (.ptr (h.ep,80) 0)/\e.get 7=.one (.ptr lt (i * 3))/\e.get 8=.one (.mrow l6 0 step.cols.length cap6)/\e.get 79=.one (.mrow l6 0 step.cols.length cap6)/\e.get 80=.one (.d (.int .i64 (step.cols.length:Int)))/\e.get 81=.one (.d (.int .i64 (k:Int)))/\e.get 9=.one (.d (.bool nul))/\Same h2 h3 []) hm ⟨by simp[hn],by simp[h0],by simp[h1'],by simp[h5],by simp[h7],by simp[h8],by simp,by simp,by simp,by simp[h9],.refl⟩ ?_ ?_
           .rintro k _ e h3 ⟨hn,h0,h1',h5,h7,h8,h79,h80,h81,h9,hs3⟩ hltk hm;replace hm:=hm.bind;obtain⟨w,hwv,hm⟩:=hm;have hltk2:k < 2:=by omega
            have hw:IntKind.i64.wrap ((k:Int)+1)=(k:Int)+1:=Y0a _ (by omega);have hy:=hs0.trans hs3;have s3:=s0.frame hs3;have hb3:=s3.box;have bx3:h3.box lt=some B:=by rw[hs3.2 _ (s0.lt lt (by simp[tv.tm])) (by simp)];exact bx
            obtain⟨n6a,n6b⟩:=n6 _ (hy.mono (by simp));have q6:=n6b k _ (Y01 hltk);simp[hn,h0,h7,h79,h80,h81,hltk,n6a,q6];refine Wait.cut (Plan.then_ [0,1,2,3,4,5,6,7,8] .done) follows (by kernel_rfl) (fun e h4=>e.n=114/\e.get 0=.one (.ptr l 0)/\e.get 1=.one (.d (.int .i64 (i:Int)))/\e.get 5=.one (.ptr (h.ep,80) 0)/\e.get 7=.one (.ptr lt (i * 3))/\e.get 8=.one (.mrow l6 0 step.cols.length cap6)/\e.get 79=.one (.mrow l6 0 step.cols.length cap6)/\e.get 80=.one (.d (.int .i64 (step.cols.length:Int)))/\e.get 81=.one (.d (.int .i64 (k:Int)))/\e.get 9=.one (.d (.bool nul))/\e.get 14=.one (.d (.int .i64 w))/\Same h2 h4 []) ?_ ?_
            .simp[hn,h0,h1',h5,h7,h8,h9,hb3,bx3,r0];refine Z00 (HSpec.of_lend (c_evolution_checkUnused S T _ w hwv) ⟨.agg s3.frz,.agg (hxf _ hs3),.one (.frz (.data rfl)),trivial⟩ rfl ?_);simp[hn];exact⟨fun _ _ x=>x,CutK.of ⟨by simp[hn],by simp[h0],by simp[h1'],by simp[h5],by simp[h7],by simp[h8],by simp[h79],by simp[h80],by simp[h81],by simp[h9],by simp,hs3.next⟩⟩
            .rintro e h4 ⟨hn,h0,h1',h5,h7,h8,h79,h80,h81,h9,h14,hs4⟩;simp[hn,h14,h81];cases hw0:w != 0 with
             | true=>
               simp only[hw0,cond_true] at hm;have e1:=r_ret hm;simp only[Y07] at e1;obtain⟨rfl,rfl⟩:=e1;have hw1:¬ w=0:=by simpa using hw0
               simp[hn,h14,hw1];exact hk _ _ (s0.frame hs4).ows ((hs0.trans hs4).mono (by simp)) (fun k hk=>.inl hk)
             | false=>
               simp only[hw0,cond_false] at hm;have hw1:w=0:=by simpa using hw0
               simp[hn,h81,hw1,hw];exact BackF.of _ ⟨⟨by simp[hn],by simp[h0],by simp[h1'],by simp[h5],by simp[h7],by simp[h8],by simp[h79],by simp[h80],by simp,by simp[h9],hs4⟩,hm⟩
           .rintro _ e h3 ⟨hn,h0,h1',h5,h7,h8,h79,h80,h81,h9,hs3⟩ hm;replace hm:=hm.bind;obtain⟨S1,hm1,hm⟩:=hm;replace hm:=hm.getN;obtain⟨T1,hi1,hm⟩:=hm;replace hm:=hm.chk;obtain⟨⟨hc0',hc1'⟩,hm⟩:=hm;have e1:=r_ret hm;simp only[Y07] at e1;obtain⟨rfl,rfl⟩:=e1;have hy:=hs0.trans hs3;have s3:=s0.frame hs3;simp[hn,h0,h1',h8,h80,h81];refine Z00 (Z4h _ l _ fc oc _ ta fa oa S S1 i step.cols hm1 s3 (fun h' hs'=>((o60 h' ((hy.mono (by simp)).trans (hs'.mono fun k hk=>Y0c _ hk)))).nfrz) _ (fun h4 ta4 s4 hs4 hta4=>?_));have hlt4:i < S1.tables.length:=(Y00.1 hi1).1;obtain⟨lt4,c14,c24,B4,tv4⟩:=s4.tbl hi1;obtain⟨cap4,e4⟩:=tv4.hd;simp at e4;obtain⟨rfl,e5,rfl⟩:=e4;have bx4:=tv4.el.box;have q1:=tv4.el.rd 1 1 (by omega);have hle4:=tv4.el.le;simp at q1;have bx54:h4.box (h.ep,80)=some (stpC step (.mrow l6 0 step.cols.length cap6) x12 x13 x22):=by
             rw[hs4.2 _ (Y04 hep hs3.1) (fun h2=>by have:=s.lt (h.ep,80) (by simp at h2 |-;exact .inr h2);simp at this),hs3.2 _ hep (by simp)];exact bx5
            simp[hn];refine Wait.cut (Plan.then_ [0,1,2,3,4,5,6,7,8,9,10,11,12,13] .done) follows (by kernel_rfl) (fun e h'=>e.n=114/\∃ ta',Sc h' l { S1 with tables:=S1.tables.set i { T1 with cols:=T1.cols++[⟨step.column,3,nul⟩] } } (.mrow lt 0 S.tables.length cap) fc oc ta' fa oa/\Same h4 h' ta4/\∀ k ∈ ta',k ∈ ta4\/h4.ep<=k.1) ?_ ?_
            .simp[hn,h0,h5,h7,h9,bx4,q1,bx54,stpC];have hz:Same h4 (((h4).setArr (h4.ep,16 * 110) (some (1,3))).next) []:=(Same.refl).setArr.next;simp only[Nat.reduceMul] at hz;obtain⟨c1',c2',tv5⟩:=(s4.frame hz).tblK (by simpa using bx4) hi1;obtain rfl:c1'=c14:=by
              have:=tv5.el.rd 1 1 (by omega)
              simp[q1] at this;exact this.symm
             have hc2:T1.cols.length < 2097152:=hc1';refine app_mr (by simp;exact⟨rfl,rfl⟩) (by simp) (by simp) (by simp) (tv5.m1 (by intro h0;simp[h0] at hc0')) (RowAt.own1 (by simp)) (by simp<;>omega) (fun c' h' hm' hs5 hl5=>?_);have hbl:h'.box lt=some B4:=by
              rw[hs5.2 lt ((s4.frame hz).lt lt (by simp[tv5.tm])) fun h2=>(tv5.l1 lt h2).2 rfl];simpa using bx4
             obtain⟨ta',s6,hta⟩:=tv5.s1 h' c' (T1.cols++[⟨step.column,3,nul⟩]) (by simpa using hm') hs5 (fun k hk=>(hl5 k hk).imp_right fun h2=>⟨fun h3=>by have:=(s4.frame hz).lt k h3;omega,h2.2⟩);simp[hn,h7,hbl];refine⟨by omega,CutK.of ⟨by simp[hn],ta',s6,?_,fun k hk=>?_⟩⟩
             .exact ((hz.mono (by simp)).trans (hs5.mono fun k hk=>(tv5.l1 k hk).1)).setBox (.inl tv5.tm)
             .rcases hta k hk with h2 | h2
              .exact .inl h2
              .rcases hl5 k h2 with h3 | h3
               .exact .inl (tv5.l1 k h3).1
               .refine .inr ?_;have h4':=h3.1;simp at h4';omega
            .rintro e h5 ⟨hn,ta',s6,hs6,hta6⟩;simp[hn];have hep4:h.ep<=h4.ep:=Y0y hy.1 hs4.1;refine hk _ _ s6.ows (((hy.mono (by simp)).trans (hs4.mono fun k hk=>Y0c _ hk)).trans' hs6 fun k hk=>?_) (Zdh (lx:=[]) fun k hk=>?_)
             .exact (hta4 k hk).imp (fun h2=>by simp[h2]) fun h2=>Y0y hy.1 h2
             .rcases hta6 k hk with h2 | h2
              .exact (hta4 k h2).imp_right fun h3=>Y0y hy.1 h3
              .exact .inr (Y0y hep4 h2)
end
section
open Go.Am
def Z0v (other:Fk) (k0:Fk):Option Bool:=
 (bindK (Z0b other k0) fun v2=>(some v2))
instance c_evolution_dropForeignKey_1 (other:Fk) (k0:Fk):Con (Z0v other k0) prog 158 [.agg other.enc,.one (.rp [.str k0.table,.sl (k0.cols.map encI),.str k0.ref])] (fun r=>.one (.d (.bool r))):=by
 unfold Z0v;exact go 7 Tryz.func158 rfl (by kernel_rfl) rfl rfl (by simp)
def Z33 (t:Tbl) (k0:ByteArray):Option Bool:=
 (some (strEq t.name k0))
instance c_evolution_removeTable_1 (t:Tbl) (k0:ByteArray):Con (Z33 t k0) prog 206 [.agg t.enc,.one (.rp [.str k0])] (fun r=>.one (.d (.bool r))):=by
 unfold Z33;exact go 8 Tryz.func206 rfl (by kernel_rfl) rfl rfl (by simp)
def Z32 (fk:Fk) (k0:ByteArray):Option Bool:=
 (some (strEq fk.table k0))
instance c_evolution_removeTable_2 (fk:Fk) (k0:ByteArray):Con (Z32 fk k0) prog 208 [.agg fk.enc,.one (.rp [.str k0])] (fun r=>.one (.d (.bool r))):=by
 unfold Z32;exact go 8 Tryz.func208 rfl (by kernel_rfl) rfl rfl (by simp)
def Z31 (c:Cons) (k0:ByteArray):Option Bool:=
 (some (strEq c.table k0))
instance c_evolution_removeTable_3 (c:Cons) (k0:ByteArray):Con (Z31 c k0) prog 210 [.agg c.enc,.one (.rp [.str k0])] (fun r=>.one (.d (.bool r))):=by
 unfold Z31;exact go 8 Tryz.func210 rfl (by kernel_rfl) rfl rfl (by simp)
def Z2f (fk:Fk) (k0:ByteArray):Option Bool:=
 (bif strEq fk.ref k0 then (some (!(strEq fk.table k0))) else (some false))
instance c_evolution_dropTable_1 (fk:Fk) (k0:ByteArray):Con (Z2f fk k0) prog 175 [.agg fk.enc,.one (.rp [.str k0])] (fun r=>.one (.d (.bool r))):=by
 unfold Z2f;exact go 14 Tryz.func175 rfl (by kernel_rfl) rfl rfl (by simp)
end
end Go.Proofs.YtbcejndfbklikaaGreatDoor
section
namespace Go.Proofs.YtbcejndfbklikaaGreatDoor
open Go Go.Am
def Z2n (S:Sch) (c:Cons):Option (Sch × Int):=
 bindK (Z1b S.cons c) fun k=>if k < 0 then some (S,4) else chkK (k+1<=S.cons.length) (some ({ S with cons:=S.cons.take k.toNat++S.cons.drop (k.toNat+1) },0))
theorem Z7x (h:HS) (l:Lab) (ls:List Lab) (S S':Sch) (c:Cons) (r:Int) (hm:Is (Z2n S c) (S',r)) (ho:OwS h l S ls) (K:V->HS->Prop) (hk:KeepS h l ls S' (.one (.d (.int .i64 r))) K) :
  HSpec Tryz.prog 129 [.one (.ptr l 0),.agg (c.enc.map C.d)] h K:=by
 obtain⟨tc,fc,oc,qt,qf,qo,rfl,s⟩:=ho;obtain⟨k,hk1,hm⟩:=hm.bind;refine HSpec.of_vc Tryz.func129 rfl (by kernel_rfl) (n:=25) rfl rfl (by simp) ?_;simp;have hsame:Same h ((h.setBox (h.ep,48) (c.enc.map C.d)).next) []:=(Same.refl.setBox (.inr (Y09 _))).next;simp at hsame;have s1:=s.frame hsame;have hb1:=s1.box;simp at hb1;refine Wait.cut (Plan.then_ [0,4,1,2,3,5,6] .done) follows (by kernel_rfl) (fun e h'=>Same h h' []/\SchC h' l S tc fc oc qt qf qo/\e.n=25/\e.get 0=.one (.ptr l 0)/\e.get 5=.one (.d (.int .i64 k))) ?_ ?_
 .simp[hb1];refine Z00 (HSpec.of_lend (c_slices_Index_Constraint S.cons c k hk1) ⟨.one (.frz s1.o.frz),.agg (FrzCs.datas (ds:=c.enc)),trivial⟩ rfl ?_);simp;exact⟨fun _ _ x=>x,CutK.of (by simp[hsame.next,s1.frame (Same.refl.next)])⟩
 .rintro e h' ⟨hs2,s2,hn,h0,h5⟩;have hb2:=s2.box;simp[hn,h0,h5];refine Z4d (fun hlt=>?_) (fun hge=>?_)
  .rw[if_pos hlt] at hm;have e1:=r_ret hm;simp only[Y07] at e1;obtain⟨rfl,rfl⟩:=e1;simp[hn];exact hk _ _ ⟨_,_,_,_,_,_,rfl,s2⟩ (hs2.mono (by simp)) (fun _ h=>.inl h)
  .rw[if_neg hge] at hm;obtain⟨hkl,hm⟩:=hm.chk;have e1:=r_ret hm;simp only[Y07] at e1;obtain⟨rfl,rfl⟩:=e1;obtain⟨i,rfl⟩:∃ i:Nat,k=i:=⟨k.toNat,by omega⟩;have hw:IntKind.i64.wrap ((i:Int)+1)=((i+1:Nat):Int):=by
    exact Y0a _ (by have:=s2.o.mr.2.1;have:=congrArg List.length s2.o.ds;simp at *;omega)
   simp[hn,h0,h5,hb2,hw];have hql:qo.length=S.cons.length:=by have:=congrArg List.length s2.o.ds;simpa using this
   refine Z00 (Z7u h' oc (qo.map (·.1)) i (i+1) s2.o.mr (by omega) (by simp;omega) _ (fun c' h2 hm2 hs3 hep harr hlab=>?_));have hbl:h2.box l=some [tc,fc,oc]:=by rw[hs3 l (fun hm=>s2.ne.2.2.1 (by simp[plabs,hm])),hb2]
   simp[hn,h0,h5,hbl];have hsub:(qo.take i++qo.drop (i+1)).Sublist qo:=Zga (by omega);have hpl:=Z9b (c:=oc) (c':=c') hsub hlab;have hp:=s2.o.sub (h2:=h2.setBox l [tc,fc,c']) (c':=c') (qs':=qo.take i++qo.drop (i+1)) (fun q hq=>hsub.subset hq) ?_ s2.nds.2.2 ?_
   .have hp2:Part (h2.setBox l [tc,fc,c']) ConSh c' (qo.take i++qo.drop (i+1)) ((S.cons.take i++S.cons.drop (i+1)).map Cons.enc):=by
     have:=s2.o.ds
     rw[Y2c,Y30,Y2d,<- this];simpa using hp
    have hs4:Same h' (h2.setBox l [tc,fc,c']) (l::plabs oc qo):=by
     refine⟨by simp[hep],fun k hk hn=>?_⟩;simp only[Y08,plabs,Y02,not_or] at hn;simp[hn.1,hs3 k hn.2.1]
    have s3:=s2.setO (by simp) hp2 hs4 (hpl.nodup s2.nds.2.2) (fun k hk=>.inl (hpl.subset hk));refine hk _ _ ⟨_,_,_,_,_,_,rfl,s3⟩ ((hs2.mono (by simp)).trans (hs4.mono ?_)) (fun k hk=>.inl ?_)
    .intro k hk;simp only[Y08,Y02] at hk |-;exact hk.imp_right fun h=>.inr (.inr h)
    .simp only[Y02] at hk |-;exact hk.imp_right fun h=>h.imp_right fun h=>hpl.subset h
   .have hl2:l ∉ labs c':=fun hm=>s2.ne.2.2.1 (by rw[hlab] at hm;simp[plabs,hm]);refine MR.frame (h:=h2) (by simpa[ConSh] using hm2) (fun k hk=>?_)
    have:k≠l:=fun he=>hl2 (he ▸ hk)
    simp[this]
   .rintro k hk1 ⟨q,hq,hk2⟩
    have:k≠l:=fun he=>s2.ne.2.2.1 (by
     simp only[plabs,Y02,Y0w];exact .inr ⟨q,hq,he ▸ hk2⟩)
    simp[this,hs3 k hk1]
def Z0s (S:Sch) (c:Fk):Option (Sch × Int):=
 bindK (Z0h S.fks fun o=>Z0v o c) fun k=>if k < 0 then some (S,4) else chkK (k+1<=S.fks.length) (some ({ S with fks:=S.fks.take k.toNat++S.fks.drop (k.toNat+1) },0))
theorem Z7w (h:HS) (l:Lab) (ls:List Lab) (S S':Sch) (c:Fk) (cs:List C) (r:Int) (hm:Is (Z0s S c) (S',r)) (ho:OwS h l S ls) (hf:∀ h',Same h h' []->FrzCs h' cs c.enc) (K:V->HS->Prop) (hk:KeepS h l ls S' (.one (.d (.int .i64 r))) K) :
  HSpec Tryz.prog 130 [.one (.ptr l 0),.agg cs] h K:=by
 obtain⟨tc,fc,oc,qt,qf,qo,rfl,s⟩:=ho;obtain⟨k,hk1,hm⟩:=hm.bind;obtain⟨a1,a2,a3,rfl⟩:∃ a b d,cs=[a,b,d]:=by
  have:=(hf h .refl).get.1
  match cs,this with
  | [a,b,d],_=>exact⟨a,b,d,rfl⟩
 refine HSpec.of_vc Tryz.func130 rfl (by kernel_rfl) (n:=25) rfl rfl (by simp) ?_;simp;have hsame:Same h ((h.setBox (h.ep,48) [a1,a2,a3]).next) []:=(Same.refl.setBox (.inr (Y09 _))).next;have s1:=s.frame hsame;have hb1:=s1.box;simp at hb1;simp[hb1];refine Z00 (HSpec.of_lend (Z3h S.fks 158 [c.enc] (fun o=>Z0v o c) (fun xa v hv=>c_evolution_dropForeignKey_1 xa c v hv) k hk1) ⟨.one (.frz s1.f.frz),.one (.fn rfl ?_),trivial⟩ rfl ?_)
 .intro i cp ds hi hd;cases i with
  | zero=>
    simp at hi hd;subst hi hd;exact⟨_,by simp,hf _ hsame⟩
  | succ i=>simp at hi
 .have hs2:Same h (((h.setBox (h.ep,48) [a1,a2,a3]).next).next) []:=hsame.next;have s2:=s.frame hs2;simp;have hb2:=s2.box;simp at hb2;refine Z4d (fun hlt=>?_) (fun hge=>?_)
  .rw[if_pos hlt] at hm;have e1:=r_ret hm;simp only[Y07] at e1;obtain⟨rfl,rfl⟩:=e1;simp;exact hk _ _ ⟨_,_,_,_,_,_,rfl,s2⟩ (hs2.mono (by simp)) (fun _ h=>.inl h)
  .rw[if_neg hge] at hm;obtain⟨hkl,hm⟩:=hm.chk;have e1:=r_ret hm;simp only[Y07] at e1;obtain⟨rfl,rfl⟩:=e1;obtain⟨i,rfl⟩:∃ i:Nat,k=i:=⟨k.toNat,by omega⟩;have hql:qf.length=S.fks.length:=by have:=congrArg List.length s2.f.ds;simpa using this
   have hql2:=s2.f.mr.2.1;have hw:IntKind.i64.wrap ((i:Int)+1)=((i+1:Nat):Int):=by
    exact Y0a _ (by simp at hql2;omega)
   simp[hb2,hw];refine Z00 (Z5k _ fc (qf.map (·.1)) i (i+1) s2.f.mr (by omega) (by simp;omega) _ (fun c' h2 hm2 hs3 hep harr hlab=>?_));have hbl:h2.box l=some [tc,fc,oc]:=by rw[hs3 l (fun hm=>s2.ne.2.1 (by simp[plabs,hm])),s2.box]
   simp[hbl];have hsub:(qf.take i++qf.drop (i+1)).Sublist qf:=Zga (by omega);have hpl:=Z9b (c:=fc) (c':=c') hsub hlab;have hp:=s2.f.sub (h2:=h2.setBox l [tc,c',oc]) (c':=c') (qs':=qf.take i++qf.drop (i+1)) (fun q hq=>hsub.subset hq) ?_ s2.nds.2.1 ?_
   .have hp2:Part (h2.setBox l [tc,c',oc]) FkSh c' (qf.take i++qf.drop (i+1)) ((S.fks.take i++S.fks.drop (i+1)).map Fk.enc):=by
     have:=s2.f.ds
     rw[Y2c,Y30,Y2d,<- this];simpa using hp
    have hs4:Same ((h.setBox (h.ep,48) [a1,a2,a3]).next).next (h2.setBox l [tc,c',oc]) (l::plabs fc qf):=by
     refine⟨by rw[Zb2,hep];exact Y09 _,fun k hk hn=>?_⟩;simp only[Y08,plabs,Y02,not_or] at hn;rw[<- hs3 k hn.2.1];simp[hn.1]
    have s3:=s2.setF (by simp) hp2 hs4 (hpl.nodup s2.nds.2.1) (fun k hk=>.inl (hpl.subset hk));refine hk _ _ ⟨_,_,_,_,_,_,rfl,s3⟩ ((hs2.mono (by simp)).trans (hs4.mono ?_)) (fun k hk=>.inl ?_)
    .intro k hk;simp only[Y08,Y02] at hk |-;exact hk.imp_right fun h=>.inr (.inl h)
    .simp only[Y02] at hk |-;exact hk.imp_right fun h=>h.imp_left fun h=>hpl.subset h
   .have hl2:l ∉ labs c':=fun hm=>s2.ne.2.1 (by rw[hlab] at hm;simp[plabs,hm]);refine MR.frame (h:=h2) (by simpa[FkSh] using hm2) (fun k hk=>?_)
    have:k≠l:=fun he=>hl2 (he ▸ hk)
    simp[this]
   .rintro k hk1 ⟨q,hq,hk2⟩
    have:k≠l:=fun he=>s2.ne.2.1 (by
     simp only[plabs,Y02,Y0w];exact .inr ⟨q,hq,he ▸ hk2⟩)
    rw[<- hs3 k hk1];simp[this]
theorem Z9y {α:Type} {f:α->Option Bool} {p:α->Bool} (hf:∀ x,f x=some (p x)):∀ (xs:List α) (i:Nat),forK (fun (i2:Nat) (x2:α) (s2:Unit) next_2=>(bindK (f x2) fun v3=>(bif v3 then (some (i2:Int)) else (next_2 ())))) (fun (s2:Unit)=>(some (-1))) xs i ()=some (match xs.findIdx? p with | some j=>((i+j:Nat):Int) | none=>-1)
 | [],i=>by simp[forK]
 | x::xs,i=>by
   rw[forK,hf x,List.findIdx?_cons];show (bif p x then some (i:Int) else _)=_;cases hp:p x with
   | true=>simp
   | false=>
     have:=Z9y hf xs (i+1)
     simp only[cond_false];rw[this];cases hx:xs.findIdx? p with
     | none=>simp
     | some j=>simp only[Y0h];rw[show i+1+j=i+(j+1) by omega];rfl
theorem Zdi {p:List D->Bool}:∀ {qs:List Q},keep p (qs.map (·.1)) (qs.map (·.2.1))=(qs.filter fun q=>!p q.2.1).map (·.1)
 | []=>rfl
 | q::qs=>by
   simp only[Y0d,keep,List.filter_cons];rw[Zdi];cases p q.2.1<;>simp
def headIs (s:ByteArray):List D->Bool
 | .str t::_=>strEq t s
 | _=>false
theorem Part.keep {h h2:HS} {sh:List Sh} {c c':C} {qs:List Q} {ds:List (List D)} {p:List D->Bool} (P:Part h sh c qs ds) (hm:MR h2 sh.length c' (Go.Am.keep p (qs.map (·.1)) ds)) (hnd:(plabs c qs).Nodup) (hlt:∀ k ∈ plabs c qs,k.1 < h.ep) (hs:Same h h2 (labs c)):Part h2 sh c' (qs.filter fun q=>!p q.2.1) (ds.filter fun t=>!p t):=by
 have hd:=P.ds;subst hd;rw[Zdi] at hm
 have:=P.sub (h2:=h2) (c':=c') (qs':=qs.filter fun q=>!p q.2.1) (fun q hq=>(List.mem_filter.1 hq).1) hm hnd (fun k hk ⟨q,hq,hkq⟩=>hs.2 k (hlt k (by
  simp only[plabs,Y02,Y0w];exact .inr ⟨q,hq,hkq⟩)) hk)
 rw[List.filter_map];exact this
theorem Part.elems {h:HS} {sh:List Sh} {c:C} {qs:List Q} {ds:List (List D)} (P:Part h sh c qs ds) (hnd:(plabs c qs).Nodup) (hlt:∀ k ∈ plabs c qs,k.1 < h.ep):∀ h',Same h h' (labs c)->∀ (i:Nat) (x:List C) (t:List D),(qs.map (·.1))[i]? = some x->ds[i]? = some t->FrzCs h' x t:=by
 have hd:=P.ds;subst hd;intro h' hs i x t hx ht;rw[Y0b] at hx ht;cases hq:qs[i]? with
 | none=>rw[hq] at hx;simp at hx
 | some q=>
   rw[hq] at hx ht;simp only[Y0h,Y06] at hx ht;subst hx ht;have hqm:=Y03 hq;refine ((P.ow q hqm).frame fun k hk=>hs.2 k (hlt k ?_) ?_).frz
   .simp only[plabs,Y02,Y0w];exact .inr ⟨q,hqm,hk⟩
   .simp only[plabs,Y0e] at hnd;exact fun hk2=>hnd.2.2 k hk2 k (Y0w.2 ⟨q,hqm,hk⟩) rfl
theorem Zh7 (h:HS) (c:C) (qs:List Q) (ts:List Tbl) (nm:ByteArray) (b:Lab) (P:Part h TblSh c qs (ts.map Tbl.enc)) (hnd:(plabs c qs).Nodup) (hlt:∀ k ∈ plabs c qs,k.1 < h.ep) (hb:h.box b=some [.d (.str nm)]) (hbc:b ∉ labs c) (hbe:b.1 < h.ep) (K:V->HS->Prop)
  (hk:∀ c' h',Part h' TblSh c' (qs.filter fun q=>!headIs nm q.2.1) ((ts.filter fun t=>!strEq t.name nm).map Tbl.enc)->Same h h' (labs c)->labs c'=labs c->K (.one c') h') :
  HSpec Tryz.prog 205 [.one c,.one (.fn 206 [.lab b])] h K:=by
 have hidx:=Z9y (f:=fun x:Tbl=>Z33 x nm) (p:=fun x=>strEq x.name nm) (fun x=>rfl) ts 0;refine Z86 h c (qs.map fun q:Q=>q.1) (ts.map Tbl.enc) 206 [.lab b] [[.str nm]] (headIs nm) _ P.mr (fun k hk=>hlt k (by simp[plabs,hk])) (by have:=congrArg List.length P.ds;simpa using this) (by simp) (P.elems hnd hlt) ?_ ?_ ?_ (Z8i ts 206 [[.str nm]] (fun x=>Z33 x nm) (fun xa v hv=>c_evolution_removeTable_1 xa nm v hv) _ hidx) ?_ K (fun c' h' hm hs hl=>?_)
 .intro h' hs;exact⟨.one (.ptr ((hs.2 b hbe hbc).trans hb) (FrzCs.datas (ds:=[.str nm]))),trivial⟩
 .refine .fn rfl fun i cp ds hi hd=>?_;cases i with
  | zero=>
    simp at hi hd;subst hi hd;exact⟨_,hb,FrzCs.datas (ds:=[.str nm])⟩
  | succ i=>simp at hi
 .intro t ht;obtain⟨x,_,rfl⟩:=Y0m.1 ht;exact c_evolution_removeTable_1 x nm _ rfl
 .rw[List.findIdx?_map];simp[Function.comp_def,headIs]
  all_goals (cases ts.findIdx? (fun x=>strEq x.name nm)<;>rfl)
 .refine hk c' h' ?_ hs hl
  have:=P.keep hm hnd hlt hs
  rw[List.filter_map] at this;exact this
theorem Znf (h:HS) (c:C) (qs:List Q) (ts:List Fk) (nm:ByteArray) (b:Lab) (P:Part h FkSh c qs (ts.map Fk.enc)) (hnd:(plabs c qs).Nodup) (hlt:∀ k ∈ plabs c qs,k.1 < h.ep) (hb:h.box b=some [.d (.str nm)]) (hbc:b ∉ labs c) (hbe:b.1 < h.ep) (K:V->HS->Prop)
  (hk:∀ c' h',Part h' FkSh c' (qs.filter fun q=>!headIs nm q.2.1) ((ts.filter fun t=>!strEq t.table nm).map Fk.enc)->Same h h' (labs c)->labs c'=labs c->K (.one c') h') :
  HSpec Tryz.prog 207 [.one c,.one (.fn 208 [.lab b])] h K:=by
 have hidx:=Z9y (f:=fun x:Fk=>Z32 x nm) (p:=fun x=>strEq x.table nm) (fun x=>rfl) ts 0;refine Z6r h c (qs.map fun q:Q=>q.1) (ts.map Fk.enc) 208 [.lab b] [[.str nm]] (headIs nm) _ P.mr (fun k hk=>hlt k (by simp[plabs,hk])) (by have:=congrArg List.length P.ds;simpa using this) (by simp) (P.elems hnd hlt) ?_ ?_ ?_ (Z3h ts 208 [[.str nm]] (fun x=>Z32 x nm) (fun xa v hv=>c_evolution_removeTable_2 xa nm v hv) _ hidx) ?_ K (fun c' h' hm hs hl=>?_)
 .intro h' hs;exact⟨.one (.ptr ((hs.2 b hbe hbc).trans hb) (FrzCs.datas (ds:=[.str nm]))),trivial⟩
 .refine .fn rfl fun i cp ds hi hd=>?_;cases i with
  | zero=>
    simp at hi hd;subst hi hd;exact⟨_,hb,FrzCs.datas (ds:=[.str nm])⟩
  | succ i=>simp at hi
 .intro t ht;obtain⟨x,_,rfl⟩:=Y0m.1 ht;exact c_evolution_removeTable_2 x nm _ rfl
 .rw[List.findIdx?_map];simp[Function.comp_def,headIs]
  all_goals (cases ts.findIdx? (fun x=>strEq x.table nm)<;>rfl)
 .refine hk c' h' ?_ hs hl
  have:=P.keep hm hnd hlt hs
  rw[List.filter_map] at this;exact this
theorem Zle (h:HS) (c:C) (qs:List Q) (ts:List Cons) (nm:ByteArray) (b:Lab) (P:Part h ConSh c qs (ts.map Cons.enc)) (hnd:(plabs c qs).Nodup) (hlt:∀ k ∈ plabs c qs,k.1 < h.ep) (hb:h.box b=some [.d (.str nm)]) (hbc:b ∉ labs c) (hbe:b.1 < h.ep) (K:V->HS->Prop)
  (hk:∀ c' h',Part h' ConSh c' (qs.filter fun q=>!headIs nm q.2.1) ((ts.filter fun t=>!strEq t.table nm).map Cons.enc)->Same h h' (labs c)->labs c'=labs c->K (.one c') h') :
  HSpec Tryz.prog 209 [.one c,.one (.fn 210 [.lab b])] h K:=by
 have hidx:=Z9y (f:=fun x:Cons=>Z31 x nm) (p:=fun x=>strEq x.table nm) (fun x=>rfl) ts 0;refine Z6s h c (qs.map fun q:Q=>q.1) (ts.map Cons.enc) 210 [.lab b] [[.str nm]] (headIs nm) _ P.mr (fun k hk=>hlt k (by simp[plabs,hk])) (by have:=congrArg List.length P.ds;simpa using this) (by simp) (P.elems hnd hlt) ?_ ?_ ?_ (Z70 ts 210 [[.str nm]] (fun x=>Z31 x nm) (fun xa v hv=>c_evolution_removeTable_3 xa nm v hv) _ hidx) ?_ K (fun c' h' hm hs hl=>?_)
 .intro h' hs;exact⟨.one (.ptr ((hs.2 b hbe hbc).trans hb) (FrzCs.datas (ds:=[.str nm]))),trivial⟩
 .refine .fn rfl fun i cp ds hi hd=>?_;cases i with
  | zero=>
    simp at hi hd;subst hi hd;exact⟨_,hb,FrzCs.datas (ds:=[.str nm])⟩
  | succ i=>simp at hi
 .intro t ht;obtain⟨x,_,rfl⟩:=Y0m.1 ht;exact c_evolution_removeTable_3 x nm _ rfl
 .rw[List.findIdx?_map];simp[Function.comp_def,headIs]
  all_goals (cases ts.findIdx? (fun x=>strEq x.table nm)<;>rfl)
 .refine hk c' h' ?_ hs hl
  have:=P.keep hm hnd hlt hs
  rw[List.filter_map] at this;exact this
def Z4r (S:Sch) (nm:ByteArray):Sch:=⟨S.tables.filter fun t=>!strEq t.name nm,S.fks.filter fun t=>!strEq t.table nm,S.cons.filter fun t=>!strEq t.table nm⟩
theorem Zg4 {c c':C} {qs:List Q} {p:Q->Bool} (hc:labs c'=labs c):(plabs c' (qs.filter p)).Sublist (plabs c qs):=Z9b (List.filter_sublist) hc
theorem Part.setBox {h:HS} {sh:List Sh} {c:C} {qs:List Q} {ds:List (List D)} {l:Lab} {cs:List C} (p:Part h sh c qs ds) (hl:l ∉ plabs c qs):Part (h.setBox l cs) sh c qs ds:=
 p.frame fun k hk=>by
  have:k≠l:=fun he=>hl (he ▸ hk)
  simp[this]
end Go.Proofs.YtbcejndfbklikaaGreatDoor
namespace Go.Am
open Go Go.Proofs.YtbcejndfbklikaaGreatDoor
theorem Same.hdr {h h':HS} {l:Lab} {c:C} {qs:List Q} {cs:List C} (hs:Same h h' (labs c)):Same h (h'.setBox l cs) (l::plabs c qs):=
 (hs.mono (fun k hk=>by simp[plabs,hk])).setBox (.inl (by simp))
end Go.Am
namespace Go.Proofs.YtbcejndfbklikaaGreatDoor
open Go Go.Am
theorem Z69 (h:HS) (l:Lab) (ls:List Lab) (S:Sch) (nm:ByteArray) (ho:OwS h l S ls) (K:V->HS->Prop) (hk:KeepS h l ls (Z4r S nm) (.tup []) K) :
  HSpec Tryz.prog 174 [.one (.ptr l 0),.one (.d (.str nm))] h K:=by
 obtain⟨tc,fc,oc,qt,qf,qo,rfl,s⟩:=ho;refine HSpec.of_vc Tryz.func174 rfl (by kernel_rfl) (n:=31) rfl rfl (by simp) ?_;simp;have hsame:Same h ((h.setBox (h.ep,48) [.d (.str nm)]).next) []:=(Same.refl.setBox (.inr (Y09 _))).next;have s1:=s.frame hsame;have hb1:=s1.box;simp at hb1;have hbl:∀ k ∈ l::(plabs tc qt++(plabs fc qf++plabs oc qo)),k≠(h.ep,48):=fun k hk he=>by
  have:=s.lt k hk
  rw[he] at this;simp at this
 simp only[Y08,Y02,plabs] at hbl;have hlt1:=s1.lt;simp only[Y08,Y02] at hlt1;simp[hb1];refine Z00 (Zh7 _ tc qt S.tables nm (h.ep,48) s1.t s1.nds.1 (fun k hk=>hlt1 k (.inr (.inl hk))) (by simp) (fun hm=>hbl _ (.inr (.inl (.inl hm))) rfl) (by simp) _ (fun tc' h2 P2 hs2 hl2=>?_));have hx2:h2.box l=some [tc,fc,oc]:=by rw[hs2.2 l (hlt1 l (.inl rfl)) (fun hm=>s1.ne.1 (by simp[plabs,hm])),s1.box]
 simp[hx2];have t1:=Zg4 (p:=fun q=>!headIs nm q.2.1) (qs:=qt) hl2;have s2:=s1.setT (h':=h2.setBox l [tc',fc,oc]) (by simp) (P2.setBox fun hm=>s1.ne.1 (t1.subset hm)) hs2.hdr (t1.nodup s1.nds.1) (fun k hk=>.inl (t1.subset hk));have hlt2:=s2.lt;simp only[Y08,Y02] at hlt2;have hbx:(h2.setBox l [tc',fc,oc]).box (h.ep,48)=some [.d (.str nm)]:=by
  have h3:(h.ep,48)≠l:=fun he=>hbl l (.inl rfl) he.symm;have h4:=hs2.2 (h.ep,48) (by simp) (fun hm=>hbl _ (.inr (.inl (.inl hm))) rfl);simp[h3,h4]
 have hep2:h.ep < (h2.setBox l [tc',fc,oc]).ep:=by
  have:=hs2.1
  simp at this |-;omega
 refine Z00 (Znf _ fc qf S.fks nm (h.ep,48) s2.f s2.nds.2.1 (fun k hk=>hlt2 k (.inr (.inr (.inl hk)))) hbx (fun hm=>hbl _ (.inr (.inr (.inl (.inl hm)))) rfl) hep2 _ (fun fc' h3 P3 hs3 hl3=>?_));have hx3:h3.box l=some [tc',fc,oc]:=by rw[hs3.2 l (hlt2 l (.inl rfl)) (fun hm=>s2.ne.2.1 (by simp[plabs,hm])),s2.box]
 simp[hx3];have t2:=Zg4 (p:=fun q=>!headIs nm q.2.1) (qs:=qf) hl3;have s3:=s2.setF (h':=h3.setBox l [tc',fc',oc]) (by simp) (P3.setBox fun hm=>s2.ne.2.1 (t2.subset hm)) hs3.hdr (t2.nodup s2.nds.2.1) (fun k hk=>.inl (t2.subset hk));have hlt3:=s3.lt;simp only[Y08,Y02] at hlt3;have hbx3:(h3.setBox l [tc',fc',oc]).box (h.ep,48)=some [.d (.str nm)]:=by
  have h4:(h.ep,48)≠l:=fun he=>hbl l (.inl rfl) he.symm;have h5:=hs3.2 (h.ep,48) hep2 (fun hm=>hbl _ (.inr (.inr (.inl (.inl hm)))) rfl);rw[hbx] at h5;simp[h4,h5]
 have hep3:h.ep < (h3.setBox l [tc',fc',oc]).ep:=Y04 hep2 (by simpa using hs3.1);refine Z00 (Zle _ oc qo S.cons nm (h.ep,48) s3.o s3.nds.2.2 (fun k hk=>hlt3 k (.inr (.inr (.inr hk)))) hbx3 (fun hm=>hbl _ (.inr (.inr (.inr (.inl hm)))) rfl) hep3 _ (fun oc' h4 P4 hs4 hl4=>?_));have hx4:h4.box l=some [tc',fc',oc]:=by rw[hs4.2 l (hlt3 l (.inl rfl)) (fun hm=>s3.ne.2.2.1 (by simp[plabs,hm])),s3.box]
 simp[hx4];have t3:=Zg4 (p:=fun q=>!headIs nm q.2.1) (qs:=qo) hl4;have s4:=s3.setO (h':=h4.setBox l [tc',fc',oc']) (by simp) (P4.setBox fun hm=>s3.ne.2.2.1 (t3.subset hm)) hs4.hdr (t3.nodup s3.nds.2.2) (fun k hk=>.inl (t3.subset hk));refine hk _ _ ⟨_,_,_,_,_,_,rfl,s4⟩ ?_ ?_
 .refine (((hsame.mono (by simp)).trans ((hs2.hdr (qs:=qt)).mono ?_)).trans ((hs3.hdr (qs:=qf)).mono ?_)).trans ((hs4.hdr (qs:=qo)).mono ?_)
  .intro k hk;simp only[Y08,Y02] at hk |-;exact hk.imp_right .inl
  .intro k hk;simp only[Y08,Y02] at hk |-;exact hk.imp_right fun h=>.inr (.inl h)
  .intro k hk;simp only[Y08,Y02] at hk |-;exact hk.imp_right fun h=>.inr (.inr h)
 .intro k hk;simp only[Y02] at hk |-;exact .inl (hk.imp (fun h=>t1.subset h) fun h=>h.imp (fun h=>t2.subset h) fun h=>t3.subset h)
theorem KeepS.after {h h1:HS} {l:Lab} {ls:List Lab} {S':Sch} {v:V} {K:V->HS->Prop} (s:Same h h1 []) (hk:KeepS h l ls S' v K):KeepS h1 l ls S' v K:=
 fun h' ls' ho hs hl=>hk h' ls' ho ((s.mono (by simp)).trans hs) fun k hkm=>(hl k hkm).imp_right fun he=>Y0y s.1 he
theorem OwS.frame {h h':HS} {l:Lab} {S:Sch} {ls:List Lab} (o:OwS h l S ls) (s:Same h h' []):OwS h' l S ls:=by
 obtain⟨tc,fc,oc,qt,qf,qo,rfl,c⟩:=o;exact⟨tc,fc,oc,qt,qf,qo,rfl,c.frame s⟩
def Z49 (S:Sch) (nm:ByteArray):Option (Sch × Int):=
 bindK (Z04 S.fks fun o=>Z2f o nm) fun b=>if b=true then some (S,10) else some (Z4r S nm,0)
theorem Z9k (h:HS) (l:Lab) (ls:List Lab) (S S':Sch) (nm:ByteArray) (r:Int) (hm:Is (Z49 S nm) (S',r)) (ho:OwS h l S ls) (K:V->HS->Prop) (hk:KeepS h l ls S' (.one (.d (.int .i64 r))) K) :
  HSpec Tryz.prog 137 [.one (.ptr l 0),.one (.d (.str nm))] h K:=by
 obtain⟨b,hb,hm⟩:=hm.bind;have hsame:Same h ((h.setBox (h.ep,48) [.d (.str nm)]).next) []:=(Same.refl.setBox (.inr (Y09 _))).next;have ho1:=ho.frame hsame;have hlt0:l≠(h.ep,48):=fun he=>by
  obtain⟨tc,fc,oc,qt,qf,qo,-,s⟩:=ho
  have:=s.lt l (by simp)
  rw[he] at this;simp at this
 have ho1':=ho1;obtain⟨tc,fc,oc,qt,qf,qo,hls,s1⟩:=ho1';refine HSpec.of_vc Tryz.func137 rfl (by kernel_rfl) (n:=14) rfl rfl (by simp) ?_;have hb1:=s1.box;simp at hb1;simp[hb1];refine Z00 (HSpec.of_lend (Z2k S.fks 175 [[.str nm]] (fun o=>Z2f o nm) (fun xa v hv=>c_evolution_dropTable_1 xa nm v hv) b hb) ⟨.one (.frz s1.f.frz),.one (.fn rfl ?_),trivial⟩ rfl ?_)
 .intro i cp ds hi hd;cases i with
  | zero=>
    simp at hi hd;subst hi hd;exact⟨_,by simp,FrzCs.datas (ds:=[.str nm])⟩
  | succ i=>simp at hi
 .have hs2:=hsame.next;have ho2:=ho.frame hs2;simp;cases b with
  | true=>
    have e1:=r_ret hm;simp only[Y07] at e1;obtain⟨rfl,rfl⟩:=e1;simp;exact (hk.after hs2) _ _ ho2 .refl (fun _ h=>.inl h)
  | false=>
    have e1:=r_ret hm;simp only[Y07] at e1;obtain⟨rfl,rfl⟩:=e1;simp;refine Z00 (Z69 _ l ls S nm ho2 _ ?_);intro h3 ls3 ho3 hs3 hl3;simp;exact (hk.after hs2) h3 ls3 ho3 hs3 hl3
end Go.Proofs.YtbcejndfbklikaaGreatDoor
end
namespace Go.Proofs.YtbcejndfbklikaaGreatDoor
section
open Go.Am
def Z5w (a:Tbl) (b:Tbl):Option Int:=
 (bindK (Z4l a.name b.name) fun v3=>(some v3))
instance c_evolution_insertTable_1 (a:Tbl) (b:Tbl):Con (Z5w a b) prog 201 [.agg a.enc,.agg b.enc] (fun r=>.one (.d (.int .i64 r))):=by
 unfold Z5w;exact go 10 Tryz.func201 rfl (by kernel_rfl) rfl rfl (by simp)
end
end Go.Proofs.YtbcejndfbklikaaGreatDoor
