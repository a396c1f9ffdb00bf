/- joined by a program out of 42 texts -/
import Derived.Test.YtbledgpconnopaaGreatDoorK1
import Derived.IntWalk
import Derived.Laws.StructEq
import Derived.Test.YtbledgpconnopaaGreatDoorProg
import Derived.KernelRfl
import Derived.Lib.Bytealg
import Derived.WalkKit
import Derived.LoopTactic
import Derived.Lib.ConvBytes
import Derived.Lib.Hide
set_option linter.unusedVariables false
set_option linter.unusedSimpArgs false
set_option maxRecDepth 20000
open Go Go.Proofs
open Go.Proofs.Tryz(prog)
open ByteArray(empty)
section
namespace Go.Am
section
variable{P:Program}
theorem MA{pl e e1}:∀{ps:List (Nat×Operand)} {cs:List C},(∀x∈ps.map (·.2),e1.ev x=e.ev x)->UZ pl e1 ps cs=UZ pl e ps cs
 |[],_,_=>rfl
 |(f,x)::r,cs,h=>by
   have hx:=h x sI;simp only[UZ,hx];cases pl[f]? with
   |none=>rfl
   |some z=>?_
   dsimp only
   split;exact MA (λy hy=>h y (by simp only[Yb,Y9];exact .inr hy));rfl
theorem Mm{e e1 n}:∀{ps:List (Nat×Operand)} {k:Nat},(∀x∈ps.map (·.2),e1.ev x=e.ev x)->VL e1 n ps k=VL e n ps k
 |[],_,_=>rfl
 |(f,x)::r,k,h=>by
   have hx:=h x sI;simp only[VL,hx];rw[Mm (λy hy=>h y (by simp only[Yb,Y9];exact .inr hy))]
theorem Mo{e e1 n}:∀{ps:List (Nat×Operand)} {k:Nat},(∀x∈ps.map (·.2),e1.ev x=e.ev x)->UX e1 n ps k=UX e n ps k
 |[],_,_=>rfl
 |(f,x)::r,k,h=>by
   have hx:=h x sI;simp only[UX,hx];rw[Mo (λy hy=>h y (by simp only[Yb,Y9];exact .inr hy))]
theorem TN{op t c K K1}(hK:∀v,K v->K1 v)(hv:Cd P op t c K):Cd P op t c K1:=by
 obtain⟨h1,hv⟩:=hv;refine⟨h1,?_⟩;split at hv;exact hK _ hv;exact hK _ hv;split at hv;exact λb hb=>hK _ (hv b hb);exact hv
theorem SH{t c x d h K K1}(hK:∀v h',K v h'->K1 v h')(hv:An P t c x d h K):An P t c x d h K1:=by unfold An at hv|-;split at hv;split at hv;exact⟨hv.1,hK _ _ hv.2⟩;exact hv;exact hv
theorem Sp{t c x d h K K1}(hK:∀v h',K v h'->K1 v h')(hv:Al P t c x d h K):Al P t c x d h K1:=by
 unfold Al at hv|-;split at hv;split at hv;obtain⟨h1,h2,h3,h4⟩:=hv;refine⟨h1,λq=>hK _ _ (h2 q),λq r l off hp=>?_,λq r cap' hc=>hK _ _ (h4 q r cap' hc)⟩;obtain⟨cs,h5,h6,h7⟩:=h3 q r l off hp;exact⟨cs,h5,h6,hK _ _ h7⟩;exact hv;exact hv
theorem So{t t' c x d h K K1}(hK:∀v h',K v h'->K1 v h')(hv:D8 P t t' c x d h K):D8 P t t' c x d h K1:=by
 unfold D8 at hv|-;obtain⟨h1,hv⟩:=hv;refine⟨h1,?_⟩;split at hv;split at hv;exact⟨hv.1,λc hc=>hK _ _ (hv.2 c hc)⟩;split at hv;exact⟨hv.1,λc hc=>hK _ _ (hv.2 c hc)⟩;exact hv;exact hv;exact hv
theorem Tr{t c x d h K K1}(hK:∀v h',K v h'->K1 v h')(hv:AS P t c x d h K):AS P t c x d h K1:=by unfold AS at hv|-;split at hv;split at hv;split at hv;exact⟨hv.1,hK _ _ hv.2⟩;exact hv;exact hv;exact hv
theorem SZ{t c d h K K1}(hK:∀v h',K v h'->K1 v h')(hv:Bq P t c d h K):Bq P t c d h K1:=by unfold Bq at hv|-;split at hv;split at hv;split at hv;exact⟨hv.1,hK _ _ hv.2⟩;exact hv;exact hK _ _ hv;exact hK _ _ hv;exact hv;exact hv
theorem H7{e h}(hr:WC e h){k cs}:Zo h ((h.qA (h.ep,k) cs).next):=λl c hl=>by
 have:=hr.fresh hl
 have hne:l≠(h.ep,k):=λhe=>by rw[he] at this;exact absurd this (Nat.lt_irrefl _)
 show(if l=(h.ep,k) then some cs else h.box l)=some c;rw[if_neg hne];exact hl
theorem Z1u{h c}:(C.qI h c).box=h.box:=by cases c<;>rfl
def callKind:Op->Bool
 | .call c=>match c.callee with
   | .value _=>true
   |_=>false
 |_=>false
theorem Mf{op}(h:Vy op=true):callKind op=false:=by
 cases op<;>simp_all [Vy,callKind];rename_i c;cases hc:c.callee<;>simp_all
theorem J3{o e e1 h}{K K1:Env->HS->Prop}(hr:WC e h)(ho:∀x∈o.op.operands,e1.ev x=e.ev x)
  (hK:∀v h',(storeKind o.op=false->callKind o.op=false->Zo h h')->K (e.put o.dst v) h'->K1 (e1.put o.dst v) h')(hv:Z9 P o e h K):Z9 P o e1 h K1:=by
 have ab:(∀(e:Env) (h:HS) (K:Env->HS->Prop),Z9 P o e h K->∃v,Zw P o.op e h=some v/\K (e.put o.dst v) h)->
   (∀(e:Env) (h:HS) (K:Env->HS->Prop) v,Zw P o.op e h=some v->K (e.put o.dst v) h->Z9 P o e h K)->Z9 P o e1 h K1:=λh1 h2=>by
  obtain⟨v,ag,hk⟩:=h1 _ _ _ hv;exact h2 _ _ _ v (Oh ho (λ_=>Zo.refl h) ag) (hK _ _ (λ_ _=>Zo.refl h) hk)
 cases aa:o.op with
 |store t x y=>?_
 |box t x=>?_
 |alloc t=>?_
 |build t ps=>?_
 |buildSlice t len ps=>?_
 |makeSlice t x y=>?_
 |binOp op t x y t'=>?_
 |call c=>?_
 |_=>exact ab (λe h K hv=>by
     simp only[Z9,aa] at hv|-;split at hv
     .exact⟨_,by assumption,hv⟩
     .exact hv.elim) (λe h K v h1 h2=>by
     rw[aa] at h1;simp only[Z9,aa,h1];exact h2)
 rw[aa] at ho hK;have hx:=ho x (by simp[Op.operands]);have hy:=ho y (by simp[Op.operands]);simp only[Z9,aa,hx,hy] at hv|-;split at hv;split at hv;split at hv;exact⟨hv.1,hK _ _ (λhs _=>by simp[storeKind] at hs) hv.2⟩;exact hv;exact hv;exact hv;rw[aa] at ho;have hx:=ho x (by simp[Op.operands]);simp only[Z9,aa,hx] at hv|-;exact⟨hv.1,hK _ _ (λ_ _=>H7 hr) hv.2⟩;simp only[Z9,aa] at hv|-;split at hv;exact hK _ _ (λ_ _=>H7 hr) hv;exact hv;rw[aa] at ho;have ac:∀x∈ps.toList.map (·.2),e1.ev x=e.ev x:=λx hx=>ho x (by simpa[Op.operands] using hx);simp only[Z9,aa,MA ac] at hv|-;split at hv;split at hv;exact hK _ _ (λ_ _=>Zo.refl h) hv;exact hv;exact hv;rw[aa] at ho;have ac:∀x∈ps.toList.map (·.2),e1.ev x=e.ev x:=λx hx=>ho x (by simpa[Op.operands] using hx);simp only[Z9,aa,Mm ac] at hv|-;split at hv;split at hv;exact hv.imp (λhv=>⟨hv.1,hK _ _ (λ_ _=>λl c hl=>hl) hv.2⟩) (λhv=>⟨hv.1,hK _ _ (λ_ _=>Zo.refl h) hv.2⟩);rw[Mo ac];split at hv;exact⟨hv.1,hK _ _ (λ_ _=>H7 hr) hv.2⟩;exact hv;exact hv;rw[aa] at ho;have hx:=ho x (by simp[Op.operands]);have hy:=ho y (by simp[Op.operands]);simp only[Z9,aa,hx,hy] at hv|-;unfold Fs at hv|-;split at hv;split at hv;rename_i h1 h2 h3;simp only[h1,h2,h3];exact⟨hv.1,hK _ _ (λ_ _=>H7 hr) hv.2⟩;exact hv.elim;exact hv.elim;have ak:=ho;rw[aa] at ho;have hx:=ho x (by simp[Op.operands]);have hy:=ho y (by simp[Op.operands]);simp only[Z9,aa,hx,hy] at hv|-;by_cases hnil:isNilConst y=true;rw[if_pos hnil] at hv|-;unfold Hr at hv|-;split at hv;exact TN (λv hk=>hK v h (λ_ _=>Zo.refl h) hk) hv;exact hv;rw[if_neg hnil] at hv|-;split at hv;split at hv;exact⟨hv.1,hK _ _ (λ_ _=>Zo.refl h) hv.2⟩;exact hv;rename_i hn;split at hv;rename_i r af
 have:=hK _ _ (λ_ _=>Zo.refl h) hv
 generalize e.ev x=X at*;generalize e.ev y=Y at*;cases X with
 |agg cs=>cases Y with
   |agg cs'=>exact(hn cs cs' rfl rfl).elim
   |_=>first
     |exact this
     |(simp only[af];exact this)
 |_=>first
   |exact this
   |(simp only[af];exact this)
 exact hv.elim;rw[aa] at ho;have ha:∀x∈c.args.toList,e1.ev x=e.ev x:=λx hx=>ho x (by simp[Op.operands,Call.operands];exact .inr (by simpa using hx));have hm:=XH ha;cases hc:c.callee with
 |value f=>?_
 |invoke r m=>simp only[Z9,aa,hc,Zw] at hv
 |builtin b=>?_
 have hf:=ho f (by simp[Op.operands,Call.operands,hc]);simp only[Z9,aa,hc,hf,hm] at hv|-;have ad:callKind o.op=true:=by rw[aa];simp[callKind,hc]
 split at hv;rcases hv with⟨ah,cs,has,aj,r,hs,hk⟩|hv|⟨v,hx,hk⟩;exact .inl ⟨ah,cs,has,aj,r,hs,hK _ _ (λ_ hq=>by rw[ad] at hq;cases hq) hk⟩;exact .inr (.inl ⟨hv.1,λΓ μ w vals hI hR=>(hv.2 Γ μ w vals hI hR).mono λen w' ⟨u,v,h',μ',h1,h2,h3⟩=>⟨u,v,h',μ',h1,hK _ _ (λ_ hq=>by rw[ad] at hq;cases hq) h2,h3⟩⟩);exact .inr (.inr ⟨v,hx,hK _ _ (λ_ hq=>by rw[ad] at hq;cases hq) hk⟩);exact hv;cases b with
 |len=>?_
 |append=>?_
 |cap=>?_
 |copy=>?_
 |clear=>?_
 |max=>exact ab (λe h K hv=>by
   simp only[Z9,aa,hc] at hv|-;split at hv
   .exact⟨_,by assumption,hv⟩
   .exact hv.elim) (λe h K v h1 h2=>by
   rw[aa] at h1;simp only[Z9,aa,hc,h1];exact h2)
 |min=>exact ab (λe h K hv=>by
   simp only[Z9,aa,hc] at hv|-;split at hv
   .exact⟨_,by assumption,hv⟩
   .exact hv.elim) (λe h K v h1 h2=>by
   rw[aa] at h1;simp only[Z9,aa,hc,h1];exact h2)
 |_=>simp only[Z9,aa,hc,Zw] at hv
 simp only[Z9,aa,hc,hm] at hv|-;split at hv;unfold AU at hv|-;split at hv;split at hv;exact hK _ _ (λ_ _=>Zo.refl h) hv;exact hv;split at hv;exact hK _ _ (λ_ _=>Zo.refl h) hv;split at hv;exact λhb=>hK _ _ (λ_ _=>Zo.refl h) (hv hb);exact hv;exact hv;exact hv;have hst:storeKind o.op=true:=by rw[aa];simp[storeKind,hc]
 simp only[Z9,aa,hc,hm] at hv|-;split at hv;have ae:=λv h' hk=>hK v h' (λhq=>by rw[hst] at hq;cases hq) hk;exact hv.imp (λhv=>⟨hv.1,hv.2.imp (SH ae) (Sp ae)⟩) (So ae);exact hv;simp only[Z9,aa,hc,hm] at hv|-;split at hv;obtain⟨h1,hv⟩:=hv;refine⟨h1,?_⟩;split at hv<;>first|exact hK _ _ (λ_ _=>Zo.refl h) hv|exact hv
 exact hv;have hst:storeKind o.op=true:=by rw[aa];simp[storeKind,hc]
 simp only[Z9,aa,hc,hm] at hv|-;split at hv;exact⟨hv.1,Tr (λv h' hk=>hK v h' (λhq=>by rw[hst] at hq;cases hq) hk) hv.2⟩;exact hv;have hst:storeKind o.op=true:=by rw[aa];simp[storeKind,hc]
 simp only[Z9,aa,hc,hm] at hv|-;split at hv;exact SZ (λv h' hk=>hK v h' (λhq=>by rw[hst] at hq;cases hq) hk) hv;exact hv
def VU(P:Program)(all:List Oper)(o:Oper)(e:Env)(h:HS)(K:Env->HS->Prop):Prop:=ZZ o e/\
    match o.guard with
    |none=>Z9 P o e h K
    |some (j,want)=>match UU all e j with
      | .one (.d (.bool b))=>(b=want->Z9 P o e h K)/\(b≠want->K (e.put o.dst .undef) h)
      | .undef=>K (e.put o.dst .undef) h
      |_=>False
theorem K9{ops}{o:Oper}{e e1:Env}(h:∀t∈o.looksAt ops,e1.get t=e.get t):∀x∈o.op.operands,e1.ev x=e.ev x:=λx hx=>by
 cases x with
 |tmp t=>exact h t (Xn _ (List.mem_filterMap.2 ⟨.tmp t,by simpa using hx,rfl⟩))
 |_=>rfl
theorem EC{ops}{o:Oper}{e e1}(h:∀t∈o.looksAt ops,e1.get t=e.get t){j want}(hg:o.guard=some (j,want)):UU ops.toList e1 j=UU ops.toList e j:=by
 unfold UU;cases hj:ops.toList[j]? with
 |none=>rfl
 |some oj=>?_
 dsimp only
 cases hd:oj.dst with
 |none=>rfl
 |some d=>?_
 have aa:ops[j]?=some oj:=by simpa using hj
 exact h d (by simp[Oper.looksAt,hg,aa,hd])
theorem Nd{ops Γ Q i o}(hi:ops[i]?=some o){e h μ a w K N}
  (hI:Inv Γ h μ w)(hE:Zu μ e a)(hN:∀e' h' μ' a' w',K e' h'->Inv Γ h' μ' w'->Zu μ' e' a'->Mem.Le μ μ'->N a' w')(hv:VU P ops.toList o e h K):wpOp P ops Q i N a w:=by
 obtain⟨hd,hv⟩:=hv;unfold wpOp;simp only[hi];have skip:=λhs=>hN _ _ _ _ _ hs hI (hE.put (Dq hd) (v:=.undef) rfl) (.refl μ);have go:Z9 P o e h K->o.wp P a w N Q:=λhs=>OO hI hE hd hs _ _ hN;split at hv;rename_i hg;rw[if_pos (by simp[Region.wanted,hg])];exact .inl (go hv);rename_i j want hg;split at hv;rename_i b hy;have aa:=MF hE hy;by_cases hb:b=want;rw[if_pos (by simp[Region.wanted,hg,aa,hb])];exact .inl (go (hv.1 hb));rw[if_neg (by simp[Region.wanted,hg,aa,hb])];exact skip (hv.2 hb);rename_i hy;have aa:=M7 hE hy;rw[if_neg (by simp[Region.wanted,hg,aa])];exact skip hv;exact hv.elim
def Fx(P:Program)(md:Region.Mode)(ops:Array Oper)(K:Env->HS->Prop):Nat->Array Bool->Env->HS->Prop
 |0,listed,e,h=>Region.ready md ops listed=[]/\(WC e h->K e h)
 |f+1,listed,e,h=>WC e h->(Region.ready md ops listed=[]->K e h)/\
     ∀i∈Region.ready md ops listed,∃o,ops[i]?=some o/\VU P ops.toList o e h (λe' h'=>(callKind o.op=true->Zo h h')/\Fx P md ops K f (listed.setIfInBounds i true) e' h')
theorem Ms{md}{ops:Array Oper}{Γ Q K}{μ0:Mem}(hN:∀e' h' μ' a' w',K e' h'->Inv Γ h' μ' w'->Zu μ' e' a'->Mem.Le μ0 μ'->Q .normal a' w'):
  ∀f listed {e:Env} {h:HS} {μ:Mem} {a:Act} {w:World},Inv Γ h μ w->Zu μ e a->Mem.Le μ0 μ->Fx P md ops K f listed e h->wpAny P md ops Q f listed a w
 |0,listed,e,h,μ,a,w,hI,hE,aa,hv=>⟨hv.1,hN _ _ _ _ _ (hv.2 ⟨_,_,_,_,hI,hE⟩) hI hE aa⟩
 |f+1,listed,e,h,μ,a,w,hI,hE,aa,hv=>by
   obtain⟨h0,h1⟩:=hv ⟨_,_,_,_,hI,hE⟩;refine⟨λhr=>hN _ _ _ _ _ (h0 hr) hI hE aa,λi hi=>?_⟩;obtain⟨o,ho,hg⟩:=h1 i hi;exact Nd ho hI hE (λe' h' μ' a' w' hk hI' hE' hle'=>Ms hN f _ hI' hE' (aa.trans hle') hk.2) hg
def Aw(P:Program)(ops:Array Oper)(o:Oper)(e:Env)(h:HS)(v:V):Prop:=
 ∀e1 h1 K,e1.n=e.n->(∀t∈o.looksAt ops,e1.get t=e.get t)->(loadKind o.op=true->Zo h h1)->K (e1.put o.dst v) h1->VU P ops.toList o e1 h1 K
theorem Aw.step{ops o e e1 h h1 v}(hg:Aw P ops o e h v)(hn:e1.n=e.n)(he:∀t∈o.looksAt ops,e1.get t=e.get t)(hb:loadKind o.op=true->Zo h h1):Aw P ops o e1 h1 v:=
 λe2 h2 K hn2 he2 hb2 hk=>hg e2 h2 K (hn2.trans hn) (λt ht=>(he2 t ht).trans (he t ht)) (λhl l c hl'=>hb2 hl l c (hb hl l c hl')) hk
theorem Dm{o e e1}(hn:e1.n=e.n)(hd:ZZ o e):ZZ o e1:=by unfold ZZ at*;split at hd;trivial;rw[hn];exact hd
theorem Hu{e:Env}{d v}:(e.put d v).n=e.n:=by cases d<;>rfl
theorem J6{ops:Array Oper}{o:Oper}{e h K}(hp:Vy o.op=true)(hr:WC e h)(hv:VU P ops.toList o e h K):
  ∃v,K (e.put o.dst v) h/\WC (e.put o.dst v) h/\Aw P ops o e h v:=by
 obtain⟨hd,hv⟩:=hv;have skip:K (e.put o.dst .undef) h->(∀e1:Env,∀h1 (K:Env->HS->Prop),e1.n=e.n->(∀t∈o.looksAt ops,e1.get t=e.get t)->K (e1.put o.dst .undef) h1->VU P ops.toList o e1 h1 K)->
   ∃v,K (e.put o.dst v) h/\WC (e.put o.dst v) h/\Aw P ops o e h v:=λhk hall=>
  ⟨.undef,hk,F6 hr (Dq hd) (λ_ _ _ _ _ _=>⟨undef,rfl⟩),λe1 h1 K1 hn he _ hk=>hall e1 h1 K1 hn he hk⟩
 have go:Z9 P o e h K->(∀e1:Env,∀h1 (K:Env->HS->Prop),e1.n=e.n->(∀t∈o.looksAt ops,e1.get t=e.get t)->Z9 P o e1 h1 K->VU P ops.toList o e1 h1 K)->
   ∃v,K (e.put o.dst v) h/\WC (e.put o.dst v) h/\Aw P ops o e h v:=λhs hall=>by
  obtain⟨v,hk,aa,hg⟩:=Z2s hp hr hd hs;exact⟨v,hk,aa,λe1 h1 K1 hn he hb hk=>hall e1 h1 K1 hn he (hg e1 h1 K1 (K9 he) hb hk)⟩
 cases hg:o.guard with|none=>?_|some gw=>?_;simp only[hg] at hv;exact go hv (λe1 h1 K1 hn _ hs=>⟨Dm hn hd,by simp only[hg];exact hs⟩);obtain⟨j,want⟩:=gw;simp only[hg] at hv;split at hv;rename_i b hy;by_cases hb:b=want;exact go (hv.1 hb) (λe1 h1 K1 hn he hs=>⟨Dm hn hd,by
  simp only[hg,EC he hg,hy];exact⟨λ_=>hs,λhne=>absurd hb hne⟩⟩)
 exact skip (hv.2 hb) (λe1 h1 K1 hn he hs=>⟨Dm hn hd,by
  simp only[hg,EC he hg,hy];exact⟨λhq=>absurd hq hb,λ_=>hs⟩⟩)
 rename_i hy;exact skip hv (λe1 h1 K1 hn he hs=>⟨Dm hn hd,by simp only[hg,EC he hg,hy];exact hs⟩);exact hv.elim
theorem Nk{e:Env}{x y v u}(h:∀d,x=some d->y≠some d):(e.put x v).put y u=(e.put y u).put x v:=by
 cases x with
 |none=>rfl
 |some d=>?_
 cases y with
 |none=>rfl
 |some d'=>?_
 have hne:d≠d':=λhe=>h d rfl (he▸rfl);simp only[Env.put,Env.mk.injEq,true_and];funext k;by_cases h1:k=d'<;>by_cases h2:k=d<;>simp_all
theorem Ha{e:Env}{x v t}(h:∀d,x=some d->d≠t):(e.put x v).get t=e.get t:=by
 cases x with
 |none=>rfl
 |some d=>?_
 have:=h d rfl
 show(if t=d then v else e.get t)=e.get t;rw[if_neg (Ne.symm this)]
theorem Z3k{ops:Array Oper}{oi oj:Oper}{e h v}{K:Env->HS->Prop}(ab:oi.apart ops oj=true)(hst:storeKind oj.op=false\/loadKind oi.op=false)(hr:WC (e.put oi.dst v) h)
  (hv:VU P ops.toList oj (e.put oi.dst v) h (λe' h'=>(callKind oj.op=true->Zo h h')/\K e' h')):
  VU P ops.toList oj e h (λe' h'=>(callKind oj.op=true->Zo h h')/\e'.n=e.n/\(∀t∈oi.looksAt ops,e'.get t=e.get t)/\(loadKind oi.op=true->Zo h h')/\K (e'.put oi.dst v) h'):=by
 obtain⟨h1,h2,h3⟩:=Oper.apart_spec ab;have aa:∀t∈oj.looksAt ops,e.get t=(e.put oi.dst v).get t:=λt ht=>(Ha (λd hd he=>h1 d hd (he▸ht))).symm;have fin:∀u h',(storeKind oj.op=false->callKind oj.op=false->Zo h h')->((callKind oj.op=true->Zo h h')/\K ((e.put oi.dst v).put oj.dst u) h')->
   (callKind oj.op=true->Zo h h')/\(e.put oj.dst u).n=e.n/\(∀t∈oi.looksAt ops,(e.put oj.dst u).get t=e.get t)/\(loadKind oi.op=true->Zo h h')/\K ((e.put oj.dst u).put oi.dst v) h':=λu h' hb hk=>
  ⟨hk.1,Hu,λt ht=>Ha (λd hd he=>h3 d hd (he▸ht)),λhl=>by
   cases hc:callKind oj.op with
   |true=>exact hk.1 hc
   |false=>exact hb (hst.resolve_right (by simp[hl])) hc,by rw[<-Nk h2];exact hk.2⟩
 obtain⟨hd,hv⟩:=hv;refine⟨Dm Hu.symm hd,?_⟩;have go:Z9 P oj (e.put oi.dst v) h (λe' h'=>(callKind oj.op=true->Zo h h')/\K e' h')->Z9 P oj e h (λe' h'=>(callKind oj.op=true->Zo h h')/\e'.n=e.n/\(∀t∈oi.looksAt ops,e'.get t=e.get t)/\(loadKind oi.op=true->Zo h h')/\K (e'.put oi.dst v) h'):=λhs=>
  J3 hr (K9 aa) (λu h' hb hk=>fin u h' hb hk) hs
 cases hg:oj.guard with
 |none=>simp only[hg] at hv|-;exact go hv
 |some gw=>?_
 obtain⟨j,want⟩:=gw;simp only[hg] at hv|-;rw[EC aa hg];split at hv;exact⟨λhb=>go (hv.1 hb),λhb=>fin _ _ (λ_ _=>Zo.refl h) (hv.2 hb)⟩;exact fin _ _ (λ_ _=>Zo.refl h) hv;exact hv.elim
theorem V1{all o e h K K1}(hr:WC e h)(hK:∀e' h',K e' h'->K1 e' h')(hv:VU P all o e h K):VU P all o e h K1:=by
 obtain⟨hd,hv⟩:=hv;refine⟨hd,?_⟩;have go:Z9 P o e h K->Z9 P o e h K1:=λhs=>J3 hr (λ_ _=>rfl) (λu h' _ hk=>hK _ _ hk) hs;split at hv;rename_i _;exact go hv;rename_i j want _;split at hv;rename_i _;exact⟨λhb=>go (hv.1 hb),λhb=>hK _ _ (hv.2 hb)⟩;exact hK _ _ hv;exact hv.elim
theorem Aw.real{ops o e h v}(hp:Vy o.op=true)(hr:WC e h)(hg:Aw P ops o e h v):WC (e.put o.dst v) h:=by
 obtain⟨v',h1,h2,_⟩:=J6 hp hr (hg e h (λe2 h2=>e2=e.put o.dst v/\h2=h) rfl (λ_ _=>rfl) (λ_=>Zo.refl h) ⟨rfl,rfl⟩);rw[<-h1.1];exact h2
theorem Ts{md:Region.Mode}{ops:Array Oper}{K:Env->HS->Prop}{i}{oi:Oper}{v}(W:Nat->Bool)(hi:ops[i]?=some oi)(hp:Vy oi.op=true)
  (hW:∀j,W j=true->∃oj,ops[j]?=some oj/\∃x∈oj.after,Region.binds md x=true/\(x.on=i\/W x.on=true)):
  ∀f listed e h,(∀j,W j=true->listed.getD j true=false)->
    (∀j oj,ops[j]?=some oj->j≠i->listed.getD j true=false->W j=false->oi.apart ops oj=true/\(storeKind oj.op=false\/loadKind oi.op=false))->
    i∈Region.ready md ops listed->Aw P ops oi e h v->
    Fx P md ops K f (listed.setIfInBounds i true) (e.put oi.dst v) h->Fx P md ops K (f+1) listed e h:=by
 intro f
 induction f with|zero=>?_|succ f ih=>?_
 intro listed e h _ _ hr hg H hR;refine⟨λh=>(by rw[h] at hr;cases hr),λj hj=>?_⟩;by_cases hji:j=i;subst hji;exact⟨oi,hi,hg e h _ rfl (λ_ _=>rfl) (λ_=>Zo.refl h) ⟨λhc=>(by rw[Mf hp] at hc;cases hc),H⟩⟩
 have:=ready_mono hj hji
 rw[H.1] at this;cases this;intro listed e h ak aa hr hg H hR;have aj:=hg.real hp hR;refine⟨λh=>(by rw[h] at hr;cases hr),λj hj=>?_⟩;by_cases hji:j=i;subst hji;exact⟨oi,hi,hg e h _ rfl (λ_ _=>rfl) (λ_=>Zo.refl h) ⟨λhc=>(by rw[Mf hp] at hc;cases hc),H⟩⟩;obtain⟨oj,ae,h1⟩:=(H aj).2 j (ready_mono hj hji);obtain⟨af,oj',al,hall⟩:=mem_ready.1 hj
 have:oj'=oj:=Option.some.inj (al.symm.trans ae)
 subst this;have ap:∀k,listed.getD k true=false->listed.getD k false=true->False:=λk h1 h2=>by rcases YA k listed.size with h'|h';simp[h'] at h1 h2;rw[h1] at h2;cases h2;simp[X3 h'] at h2
 have ag:W j=false:=by
  cases hw:W j with
  |false=>rfl
  |true=>?_
  obtain⟨ok,ay,x,hx,hb,ab⟩:=hW j hw
  have:ok=oj':=Option.some.inj (ay.symm.trans ae)
  subst this;have h1:=hall x hx hb;rcases ab with ab|ab;rw[ab] at h1;exact(ap i (mem_ready.1 hr).1 h1).elim;exact(ap _ (ak _ ab) h1).elim
 obtain⟨ax,hst⟩:=aa j oj' ae hji af ag;have ac:∀k ok,ops[k]?=some ok->k≠i->(listed.setIfInBounds j true).getD k true=false->
   W k=false->oi.apart ops ok=true/\(storeKind ok.op=false\/loadKind oi.op=false):=λk ok hk au am aq=>by
  refine aa k ok hk au ?_ aq;by_cases ad:j=k;subst ad;exact af;rw[getD_set_ne true ad] at am;exact am
 have ah:∀k,W k=true->(listed.setIfInBounds j true).getD k true=false:=λk hk=>by
  have ad:j≠k:=by rintro rfl;rw[ag] at hk;cases hk
  rw[getD_set_ne true ad];exact ak k hk
 refine⟨oj',ae,V1 hR (λe' h' hk=>?_) (Z3k ax hst aj h1)⟩;obtain⟨ar,hn,aw,hb,hk⟩:=hk;refine⟨ar,?_⟩;refine ih (listed.setIfInBounds j true) e' h' ah ac (ready_mono hr (Ne.symm hji)) (hg.step hn aw hb) ?_;rw[Array.setIfInBounds_comm _ _ hji];exact hk
def Fq(md:Region.Mode)(ops:Array Oper)(i:Nat):Nat->List Nat->List Nat
 |0,w=>w
 |n+1,w=>Fq md ops i n ((List.range ops.size).filter λj=>match ops[j]? with
   |some o=>o.after.any λx=>Region.binds md x&&(x.on==i||w.contains x.on)
   |none=>false)
def P7(md:Region.Mode)(ops:Array Oper)(i:Nat)(w:List Nat):Bool:=w.all λj=>match ops[j]? with
    |some o=>o.after.any λx=>Region.binds md x&&(x.on==i||w.contains x.on)
    |none=>false
def KE(md:Region.Mode)(ops:Array Oper)(listed:Array Bool)(i:Nat):Bool:=
 match ops[i]? with
 |none=>false
 |some oi=>
   let w:=Fq md ops i ops.size []
   Vy oi.op&&(Region.ready md ops listed).contains i&&P7 md ops i w&&w.all (λj=>!listed.getD j true)&&(List.range ops.size).all λj=>j==i||listed.getD j true||w.contains j||match ops[j]? with
    |some oj=>oi.apart ops oj&&(!storeKind oj.op||!loadKind oi.op)
    |none=>true
inductive Plan where
 |done
 |one(i:Nat)(p:Plan)
 |two(i j:Nat)(p q:Plan)
 |three(i j k:Nat)(p q r:Plan)
 |four(i j k l:Nat)(p q r s:Plan)
def WK(md:Region.Mode)(ops:Array Oper):Plan->Nat->Array Bool->Bool
 | .done,f,listed=>f==0&&(Region.ready md ops listed).isEmpty
 | .one _ _,0,_=>false
 | .one i p,f+1,listed=>(Region.ready md ops listed==[i]||KE md ops listed i)&&WK md ops p f (listed.setIfInBounds i true)
 | .two _ _ _ _,0,_=>false
 | .two i j p q,f+1,listed=>Region.ready md ops listed==[i,j]&&WK md ops p f (listed.setIfInBounds i true)&&WK md ops q f (listed.setIfInBounds j true)
 | .three _ _ _ _ _ _,0,_=>false
 | .three i j k p q r,f+1,listed=>Region.ready md ops listed==[i,j,k]&&WK md ops p f (listed.setIfInBounds i true)&&WK md ops q f (listed.setIfInBounds j true)&&WK md ops r f (listed.setIfInBounds k true)
 | .four _ _ _ _ _ _ _ _,0,_=>false
 | .four i j k l p q r s,f+1,listed=>Region.ready md ops listed==[i,j,k,l]&&WK md ops p f (listed.setIfInBounds i true)&&WK md ops q f (listed.setIfInBounds j true)&&WK md ops r f (listed.setIfInBounds k true)&&WK md ops s f (listed.setIfInBounds l true)
def Plan.qB:List Nat->Plan->Plan
 |[],p=>p
 |i::r,p=>.one i (Plan.qB r p)
def planOps(ops:List Oper):List Nat->List Oper
 |[]=>[]
 |i::r=>match ops[i]? with
   |some o=>o::planOps ops r
   |none=>planOps ops r
def isCallAt(ops:List Oper)(i:Nat):Bool:=
 match ops[i]? with
 |some o=>callKind o.op
 |none=>false
def vcPlan(P:Program)(ops:List Oper)(K:Env->HS->Prop):Plan->Env->HS->Prop
 | .done,e,h=>K e h
 | .one i p,e,h=>W6 P ops (planOps ops [i]) e h (λe' h'=>(isCallAt ops i=true->Zo h h')/\vcPlan P ops K p e' h')
 | .two i j p q,e,h=>W6 P ops (planOps ops [i]) e h (λe' h'=>(isCallAt ops i=true->Zo h h')/\vcPlan P ops K p e' h')/\W6 P ops (planOps ops [j]) e h (λe' h'=>(isCallAt ops j=true->Zo h h')/\vcPlan P ops K q e' h')
 | .four i j k l p q r s,e,h=>W6 P ops (planOps ops [i]) e h (λe' h'=>(isCallAt ops i=true->Zo h h')/\vcPlan P ops K p e' h')/\W6 P ops (planOps ops [j]) e h (λe' h'=>(isCallAt ops j=true->Zo h h')/\vcPlan P ops K q e' h')/\W6 P ops (planOps ops [k]) e h (λe' h'=>(isCallAt ops k=true->Zo h h')/\vcPlan P ops K r e' h')/\W6 P ops (planOps ops [l]) e h (λe' h'=>(isCallAt ops l=true->Zo h h')/\vcPlan P ops K s e' h')
 | .three i j k p q r,e,h=>W6 P ops (planOps ops [i]) e h (λe' h'=>(isCallAt ops i=true->Zo h h')/\vcPlan P ops K p e' h')/\W6 P ops (planOps ops [j]) e h (λe' h'=>(isCallAt ops j=true->Zo h h')/\vcPlan P ops K q e' h')/\W6 P ops (planOps ops [k]) e h (λe' h'=>(isCallAt ops k=true->Zo h h')/\vcPlan P ops K r e' h')
theorem UT{md ops listed i}(hm:i∈Region.ready md ops listed){e h l K}(hv:W6 P ops.toList (planOps ops.toList (i::l)) e h K):
  ∃o,ops[i]?=some o/\isCallAt ops.toList i=callKind o.op/\VU P ops.toList o e h (λe h=>W6 P ops.toList (planOps ops.toList l) e h K):=by
 obtain⟨_,o,ho,_⟩:=mem_ready.1 hm;have aa:ops.toList[i]?=some o:=by simpa using ho
 refine⟨o,ho,by simp only[isCallAt,aa],?_⟩;simp only[planOps,aa] at hv;exact hv
theorem UR{md ops K}:∀p f listed e h,WK md ops p f listed=true->
  vcPlan P ops.toList K p e h->Fx P md ops K f listed e h
 | .done,f,listed,e,h,hB,hv=>by
   unfold WK at hB;simp only[YC,beq_iff_eq] at hB;obtain⟨rfl,hB⟩:=hB;exact⟨by simpa using hB,λ_=>hv⟩
 | .one i p,0,listed,e,h,hB,hv=>by unfold WK at hB;cases hB
 | .one i p,f+1,listed,e,h,hB,hv=>by
   unfold WK at hB;simp only[YC,X9] at hB;obtain⟨hB,ae⟩:=hB;have ih:=λe h=>UR (K:=K) p f (listed.setIfInBounds i true) e h ae;have ad:i∈Region.ready md ops listed:=by rcases hB with hB|hB;rw[eq_of_beq hB];simp;unfold KE at hB;split at hB;cases hB;simp only[YC] at hB;simpa using hB.1.1.1.2
   obtain⟨o,ho,ab,aa⟩:=UT ad hv;rw[ab] at aa;by_cases hR:WC e h;rcases hB with hB|hB;intro _;refine⟨λh0=>(by rw[h0] at ad;cases ad),λj hj=>?_⟩;rw[eq_of_beq hB] at hj
   have:j=i:=by simpa using hj
   subst this;exact⟨o,ho,V1 hR (λe' h' hk=>⟨hk.1,ih e' h' hk.2⟩) aa⟩;unfold KE at hB;simp only[ho,YC] at hB;obtain⟨⟨⟨⟨hp,_⟩,ag⟩,af⟩,hall⟩:=hB;obtain⟨v,hk,_,hg⟩:=J6 hp hR aa;generalize Fq md ops i ops.size []=w at ag af hall;refine Ts (λj=>w.contains j) ho hp (λj hj=>?_) f listed e h (λj hj=>?_) (λj oj hj hne al ah=>?_) ad hg (ih _ _ hk.2);have h1:=YW.1 ag j (by simpa using hj);split at h1;rename_i o aj;obtain⟨x,hx,hb⟩:=Array.any_eq_true'.1 h1;simp only[YC,X9,beq_iff_eq] at hb;exact⟨o,aj,x,hx,hb.1,hb.2⟩;cases h1;have h1:=YW.1 af j (by simpa using hj);simpa using h1;have h1:=YW.1 hall j (XR.2 (YF.1 hj).1);simp only[hj,X9,beq_iff_eq,hne,false_or,al,YH,ah] at h1;simp only[YC,X9,Bool.not_eq_true'] at h1;exact h1;exact λak=>absurd ak hR
 | .two i j p q,0,listed,e,h,hB,_=>by unfold WK at hB;cases hB
 | .two i j p q,f+1,listed,e,h,hB,hv=>by
   unfold WK at hB;simp only[YC] at hB;have hr:=eq_of_beq hB.1.1;intro hR;refine⟨λh0=>(by rw[hr] at h0;cases h0),λk hk=>?_⟩;have ac:=hk;rw[hr] at ac;simp only[Y9,Xj,or_false] at ac;rcases ac with rfl|rfl;obtain⟨o,ho,ab,aa⟩:=UT hk hv.1;rw[ab] at aa;exact⟨o,ho,V1 hR (λe' h' hk=>⟨hk.1,UR p f _ e' h' hB.1.2 hk.2⟩) aa⟩;obtain⟨o,ho,ab,aa⟩:=UT hk hv.2;rw[ab] at aa;exact⟨o,ho,V1 hR (λe' h' hk=>⟨hk.1,UR q f _ e' h' hB.2 hk.2⟩) aa⟩
 | .three i j l p q r,0,listed,e,h,hB,_=>by unfold WK at hB;cases hB
 | .three i j l p q r,f+1,listed,e,h,hB,hv=>by
   unfold WK at hB;simp only[YC] at hB;have hr:=eq_of_beq hB.1.1.1;intro hR;refine⟨λh0=>(by rw[hr] at h0;cases h0),λk hk=>?_⟩;have ac:=hk;rw[hr] at ac;simp only[Y9,Xj,or_false] at ac;rcases ac with rfl|rfl|rfl;obtain⟨o,ho,ab,aa⟩:=UT hk hv.1;rw[ab] at aa;exact⟨o,ho,V1 hR (λe' h' hk=>⟨hk.1,UR p f _ e' h' hB.1.1.2 hk.2⟩) aa⟩;obtain⟨o,ho,ab,aa⟩:=UT hk hv.2.1;rw[ab] at aa;exact⟨o,ho,V1 hR (λe' h' hk=>⟨hk.1,UR q f _ e' h' hB.1.2 hk.2⟩) aa⟩;obtain⟨o,ho,ab,aa⟩:=UT hk hv.2.2;rw[ab] at aa;exact⟨o,ho,V1 hR (λe' h' hk=>⟨hk.1,UR r f _ e' h' hB.2 hk.2⟩) aa⟩
 | .four i j l m p q r s,0,listed,e,h,hB,_=>by unfold WK at hB;cases hB
 | .four i j l m p q r s,f+1,listed,e,h,hB,hv=>by
   unfold WK at hB;simp only[YC] at hB;have hr:=eq_of_beq hB.1.1.1.1;intro hR;refine⟨λh0=>(by rw[h0] at hr;cases hr),λk hk=>?_⟩;have ac:=hk;rw[hr] at ac;simp only[Y9,Xj,or_false] at ac;rcases ac with rfl|rfl|rfl|rfl;obtain⟨o,ho,ab,aa⟩:=UT hk hv.1;rw[ab] at aa;exact⟨o,ho,V1 hR (λe' h' hk=>⟨hk.1,UR p f _ e' h' hB.1.1.1.2 hk.2⟩) aa⟩;obtain⟨o,ho,ab,aa⟩:=UT hk hv.2.1;rw[ab] at aa;exact⟨o,ho,V1 hR (λe' h' hk=>⟨hk.1,UR q f _ e' h' hB.1.1.2 hk.2⟩) aa⟩;obtain⟨o,ho,ab,aa⟩:=UT hk hv.2.2.1;rw[ab] at aa;exact⟨o,ho,V1 hR (λe' h' hk=>⟨hk.1,UR r f _ e' h' hB.1.2 hk.2⟩) aa⟩;obtain⟨o,ho,ab,aa⟩:=UT hk hv.2.2.2;rw[ab] at aa;exact⟨o,ho,V1 hR (λe' h' hk=>⟨hk.1,UR s f _ e' h' hB.2 hk.2⟩) aa⟩
theorem Wi.draw{id ops Q e h}(plan)(hm:P.follows .mixedOrders=true)
  (hB:WK .any ops plan ops.size (Array.replicate ops.size false)=true)(hv:vcPlan P ops.toList (Q .normal) plan e h):Wi P (.region id ops true) Q e h:=by
 intro Γ a w μ hI hE;exact wp_region_any hm (Ms (λe' h' μ' a' w' hk ab aa ac=>⟨e',h',μ',hk,ab,aa,ac⟩) ops.size _ (hI.drew) hE (.refl μ) (UR plan _ _ e h hB hv))
end
end Go.Am
end
section
namespace Go.Am
open Go.RowKit (Below)
section
variable{P:Program}{w:World}{a:Act}{e:Env}{h:HS}{μ:Mem}{Γ:Ctx}
inductive Frz(h:HS):C->D->Prop
 |data {c:C} {x:D} (hx:c.toD=some x):Frz h c x
 |mrow {l:Z2} {off cap es:Nat} {xs:List (List D)} {cs:List C} (f:Nat->Nat->C) (hb:h.box l=some cs) (hl:xs.length<=Zs) (hes:∀x∈xs,x.length=es)
   (hc:∀i x,xs[i]?=some x->∀j d,x[j]?=some d->cs[off+(i*es+j)]?=some (f i j))
   (hf:∀i x,xs[i]?=some x->∀j d,x[j]?=some d->Frz h (f i j) d):Frz h (.mrow l off xs.length cap) (.sl xs)
theorem Kv(hI:Inv Γ h μ w){m}(hs:Wq μ.cell m)(hm:∀l cs b n o u,h.box l=some cs->μ.loc l=some (some b,n)->w.cell? ⟨b,o,none⟩=some u->m b o=some u)
  {c x}(hf:Frz h c x):∀{v:Value},ZX μ c v->RepD m x v:=by
 induction hf with
 |data hx=>intro v hc;exact(Vz hc hx).mono hs
 |@mrow l off cap es xs cs f hb hl hes hc _ ih=>?_
 intro v hv;obtain⟨b,k,aa,rfl,hcap⟩:=hv;obtain⟨b',n,T,conc,h1,_,h3,h4,_⟩:=hI.box l cs hb;rw[aa] at h1;simp only[Ya,Yt] at h1;obtain⟨rfl,_⟩:=h1;refine .sl xs _ cap es b off (λi j=>conc.getD (off+(i*es+j)) undef) hl hcap hes (λ_=>rfl) (λi x hx j d hd=>?_) (λi x hx j d hd=>?_);obtain⟨u,hu,_⟩:=h4.2 _ _ (hc i x hx j d hd);refine hm l cs b k _ _ hb aa ?_;simp[World.cell?,h3,hu,YO];obtain⟨u,hu,hr⟩:=h4.2 _ _ (hc i x hx j d hd)
 have:conc.getD (off+(i*es+j)) undef=u:=by rw[YO,hu];rfl
 simp only[this];exact ih i x hx j d hd hr
def Zx(h:HS):List C->List D->Prop
 |[],[]=>True
 |c::cs,x::xs=>Frz h c x/\Zx h cs xs
 |_,_=>False
theorem Zx.get:∀{cs:List C} {xs:List D},Zx h cs xs->cs.length=xs.length/\∀(i:Nat) x,xs[i]?=some x->∃c,cs[i]?=some c/\Frz h c x
 |[],[],_=>⟨rfl,λi x hi=>by simp at hi⟩
 |c::cs,y::xs,hr=>by
   obtain⟨h1,h2⟩:=Zx.get hr.2;refine⟨by simp[h1],λi x hi=>?_⟩;cases i with
   |zero=>simp at hi;subst hi;exact⟨c,sI,hr.1⟩
   |succ i=>obtain⟨c',h3,h4⟩:=h2 i x (by simpa using hi);exact⟨c',by simpa using h3,h4⟩
 |[],_::_,hr=>hr.elim
 |_::_,[],hr=>hr.elim
def ZR:V->Bool
 | .tup _=>false
 |_=>true
def ZG(P:Program)(rs:List ResultVar)(K:V->HS->Prop):Exit->Env->HS->Prop:=λx e h=>
 match x with
 | .normal| .ret=>match Zz P e h rs with
   |some [v]=>K v h
   |some vs=>vs.all ZR=true/\K (.tup vs) h
   |none=>False
 |_=>False
def BG(n:Nat)(vs:List V):Env:={n,get:=λk=>(vs[k]?).getD .undef}
theorem Z3.qN{f fn c}{n:Nat}{vs K}(hf:P.funcs[f]?=some fn)(hb:fn.body=some c)(al:(fn.name== "runtime.NumGoroutine")=false)(hn:fn.ntmps=n){rs}(ak:fn.results.toList=rs)(has:vs.length<=n)
  (hv:vc P c (ZG P rs K) (BG n vs) h):Z3 P f vs h K:=by
 subst ak;refine⟨⟨fn,hf,al,by rw[hb];rfl⟩,λΓ μ w vals hI hargs=>?_⟩;have hE:Zu μ (BG n vs) {tmps:=vals++Array.replicate (fn.ntmps-vals.size) undef,defers:=[]}:=by
  refine⟨rfl,?_,λk=>?_⟩;simp[BG,hargs.1,hn];omega;simp only[BG];cases hk:vs[k]? with|some x=>?_|none=>?_;obtain⟨u,hu,hr⟩:=hargs.2 k x hk;have hlt:=(YF.1 hu).1
  have:(vals++Array.replicate (fn.ntmps-vals.size) undef).getD k undef=u:=by rw[YO,Xh hlt,hu];rfl
  simp only[this,Option.getD_some];exact hr;have hge:vals.size<=k:=by rw[hargs.1];exact List.getElem?_eq_none_iff.1 hk
  show(vals++Array.replicate (fn.ntmps-vals.size) undef).getD k undef=undef;rw[YO,Xd hge];cases hx:(Array.replicate (fn.ntmps-vals.size) undef)[k-vals.size]? with
  |none=>rfl
  |some u=>?_
  obtain⟨_,he⟩:=YF.1 hx;simp at he;simp[he]
 refine calls_of_wp hf hb (Code.wp_mono ?_ (VZ c _ _ _ hv Γ _ w _ hI hE));rintro ex a' w' ⟨e',h',μ',hq,ad,ah,aj⟩;have fin:(match Zz P e' h' fn.results.toList with
  |some [v]=>K v h'
  |some vs=>vs.all ZR=true/\K (.tup vs) h'
  |none=>False)->a'.defers=[]/\∃v,(results fn a'.tmps).run P w'=.ok v w'/\∃u v' h'' μ'',Ending.returned v=.returned u/\K v' h''/\Inv Γ h'' μ'' w'/\ZS μ'' v' u/\Mem.Le μ μ'':=by
  intro aa;cases hvs:Zz P e' h' fn.results.toList with
  |none=>rw[hvs] at aa;exact aa.elim
  |some vs'=>?_
  rw[hvs] at aa;obtain⟨us,af,hlen,hR⟩:=Kl ad ah fn.results.toList vs' hvs;have ag:(results fn a'.tmps).run P w'=.ok (if hh:us.toArray.size=1 then us.toArray[0] else .tuple us.toArray) w':=by
   rw[MN,Sem.run_bind,Array.mapM_eq_mapM_toList];have ae:(Functor.map List.toArray (fn.results.toList.mapM (DB a'.tmps))).run P w'=.ok us.toArray w':=by rw[Sem.run_map,af];rfl
   rw[ae];rfl
  refine⟨ah.1,_,ag,?_⟩;by_cases h1:∃v,vs'=[v];obtain⟨v,rfl⟩:=h1;obtain⟨u,hu,ac⟩:=hR 0 v sI;obtain⟨u',rfl⟩:∃u',us=[u']:=by
   match us,hlen with
   |[u'],_=>exact⟨u',rfl⟩
  obtain rfl:u'=u:=by simpa using hu
  exact⟨u',v,h',μ',rfl,aa,ad,ac,aj⟩;have hne:¬us.toArray.size=1:=by
   simp only[XO,hlen];intro hq;exact h1 (by
    match vs',hq with
    |[v],_=>exact⟨v,rfl⟩)
  rw[dif_neg hne];have ab:vs'.all ZR=true/\K (.tup vs') h':=by
   clear hR hvs hlen hne
   revert h1 aa
   match vs' with
   |[]=>exact λaa _=>aa
   |[v]=>exact λ_ h1=>(h1 ⟨v,rfl⟩).elim
   |_::_::_=>exact λaa _=>aa
  refine⟨_,.tup vs',h',μ',rfl,ab.2,ad,⟨us.toArray,rfl,by simp[hlen],λi x hi=>?_⟩,aj⟩;obtain⟨u,hu,ac⟩:=hR i x hi;refine⟨u,by simpa using hu,?_⟩;have hx:=YW.1 ab.1 x (Y4 hi);cases x with
  |tup _=>simp[ZR] at hx
  |_=>exact ac
 cases ex with
 |normal=>exact fin hq
 |ret=>exact fin hq
 |exit id=>exact hq.elim
 |goto l=>exact hq.elim
 |panic ch=>exact hq.elim
 |outgrown=>exact hq.elim
def AB(h:HS):List C->List RC->Prop
 |[],[]=>True
 |c::cs,.d x::rs=>Frz h c x/\AB h cs rs
 |_,_=>False
def AZ(h:HS)(v:V):RV->Prop
 | .one (.d x)=>match v with
   | .one c=>Frz h c x
   |_=>False
 | .agg rs=>match v with
   | .agg cs=>AB h cs rs
   |_=>False
 |_=>False
def AA(h:HS):List V->List RV->Prop
 |[],[]=>True
 |v::vs,r::rs=>AZ h v r/\AA h vs rs
 |_,_=>False
def Du(h:HS)(v:V):RV->Prop
 | .tup rs=>match v with
   | .tup vs=>AA h vs rs
   |_=>False
 |r=>AZ h v r
theorem AB.get:∀{cs:List C} {rs:List RC},AB h cs rs->cs.length=rs.length/\∀(i:Nat) r,rs[i]?=some r->∃c x,cs[i]?=some c/\r=.d x/\Frz h c x
 |[],[],_=>⟨rfl,λi r hi=>by simp at hi⟩
 |c::cs,.d x::rs,hr=>by
   obtain⟨h1,h2⟩:=AB.get hr.2;refine⟨by simp[h1],λi r hi=>?_⟩;cases i with
   |zero=>simp at hi;subst hi;exact⟨c,x,sI,rfl,hr.1⟩
   |succ i=>obtain⟨c',x',h3,h4⟩:=h2 i r (by simpa using hi);exact⟨c',x',by simpa using h3,h4⟩
 |[],_::_,hr=>hr.elim
 |_::_,[],hr=>hr.elim
 |_::_,.fresh _ _ _::_,hr=>hr.elim
theorem AA.get:∀{vs:List V} {rs:List RV},AA h vs rs->vs.length=rs.length/\∀(i:Nat) r,rs[i]?=some r->∃v,vs[i]?=some v/\AZ h v r
 |[],[],_=>⟨rfl,λi r hi=>by simp at hi⟩
 |c::cs,r::rs,hr=>by
   obtain⟨h1,h2⟩:=AA.get hr.2;refine⟨by simp[h1],λi r' hi=>?_⟩;cases i with
   |zero=>simp at hi;subst hi;exact⟨c,sI,hr.1⟩
   |succ i=>obtain⟨c',h3,h4⟩:=h2 i r' (by simpa using hi);exact⟨c',by simpa using h3,h4⟩
 |[],_::_,hr=>hr.elim
 |_::_,[],hr=>hr.elim
theorem AB.fr:∀{cs:List C} {rs:List RC},AB h cs rs->rs.flatMap RC.fr=[]
 |[],[],_=>rfl
 |c::cs,.d x::rs,hr=>by rw[YB,AB.fr hr.2];rfl
 |[],_::_,hr=>hr.elim
 |_::_,[],hr=>hr.elim
 |_::_,.fresh _ _ _::_,hr=>hr.elim
theorem AZ.fr{v r}(hr:AZ h v r):RV1.fr r=[]:=by
 cases r with
 |one c=>cases c with
   |d x=>rfl
   |fresh j es xs=>exact hr.elim
 |agg rs=>cases v<;>first|exact hr.elim|exact AB.fr hr
 |tup rs=>exact hr.elim
theorem AA.fr:∀{vs:List V} {rs:List RV},AA h vs rs->rs.flatMap RV1.fr=[]
 |[],[],_=>rfl
 |v::vs,r::rs,hr=>by rw[YB,AA.fr hr.2,AZ.fr hr.1];rfl
 |[],_::_,hr=>hr.elim
 |_::_,[],hr=>hr.elim
theorem Du.fr{v r}(hr:Du h v r):r.fr=[]:=by
 cases r with
 |tup rs=>cases v<;>first|exact hr.elim|exact AA.fr hr
 |one c=>exact AZ.fr hr
 |agg rs=>exact AZ.fr (r:=.agg rs) hr
theorem JB{m blk}(key:∀{c:C} {x:D} {v:Value},Frz h c x->ZX μ c v->RepD m x v){v r u}(hv:ZS μ v u)(hr:AZ h v r):BC m blk r u:=by
 cases r with
 |one c=>?_
 |agg rs=>?_
 |tup rs=>exact hr.elim
 cases c with
 |d x=>cases v<;>first|exact hr.elim|exact key hr hv
 |fresh j es xs=>exact hr.elim
 cases v with
 |agg cs=>?_
 |_=>exact hr.elim
 obtain⟨vs,h1,h2⟩:=hv;obtain⟨h3,h4⟩:=AB.get hr;refine⟨vs,h1,by rw[h2.1,h3],λi r hi=>?_⟩;obtain⟨c,x,h5,rfl,h6⟩:=h4 i r hi;obtain⟨u',h7,h8⟩:=h2.2 i c h5;exact⟨u',h7,key h6 h8⟩
theorem ZS.xJ{μ v u}(hn:∀vs,v≠.tup vs)(hv:Ay μ v u):ZS μ v u:=by
 cases v with
 |tup vs=>exact(hn vs rfl).elim
 |_=>exact hv
theorem Z1k{m blk}(key:∀{c:C} {x:D} {v:Value},Frz h c x->ZX μ c v->RepD m x v){v r u}(hv:ZS μ v u)(hr:Du h v r):Az m blk r u:=by
 cases r with
 |tup rs=>?_
 |one c=>exact JB key hv hr
 |agg rs=>exact JB (r:=.agg rs) key hv hr
 cases v with
 |tup vs=>?_
 |_=>exact hr.elim
 obtain⟨us,h1,h2,h3⟩:=hv;obtain⟨h4,h5⟩:=AA.get hr;refine⟨us,h1,by rw[h2,h4],λi r hi=>?_⟩;obtain⟨v,h6,h7⟩:=h5 i r hi;obtain⟨u',h8,h9⟩:=h3 i v h6;refine⟨u',h8,JB key (ZS.xJ (λvs he=>by subst he;exact h9.elim) h9) h7⟩
theorem Zj.of_heap{f:FuncId}{ae:List AV}{r:RV}(hs:Z3 P f (ae.map AV.toV) HS.init (λv h=>Du h v r)):Zj P f ae r:=by
 refine⟨hs.1,λw m t vals hg hm ht ac=>?_⟩;have hI:Inv ⟨w,m,t,hg⟩ HS.init {cell:=m,tmp:=t,loc:=λ_=>none} w:=
  ⟨hm,rfl,ht,λb o v hv=>ht.lt hv,Wq.refl _,λ_ _ _ _ h=>h,Below.refl _ _,λl cs hl=>by simp[HS.init] at hl,λl es n hl=>by simp[HS.init] at hl,
   λl l' b n n' hl=>by rcases hl with hl|hl<;>simp[HS.init] at hl,λl hl=>absurd rfl hl,λl hl=>by simp[HS.init] at hl⟩
 refine(hs.2 ⟨w,m,t,hg⟩ _ w vals hI ⟨by simp[ac.1],λi v hi=>?_⟩).mono ?_;rw[Y8] at hi;cases hx:ae[i]? with
 |none=>simp[hx] at hi
 |some x=>?_
 simp[hx] at hi;subst hi;obtain⟨u,hu,hr⟩:=ac.2 i x hx;exact⟨u,hu,Pr hr⟩;rintro en w' ⟨u,v,h',μ',rfl,ag,ab,ah,_⟩
 let m':CM:=λb o=>match μ'.cell b o with
  |some v=>some v
  |none=>if w.heap.size<=b then w'.cell? ⟨b,o,none⟩ else none
 have ad:Wq μ'.cell m':=λb o v hv=>by show(match μ'.cell b o with|some v=>some v|none=>_)=some v;rw[hv]
 have af:V7 m' w':=λb o v hv=>by
  have aa:(match μ'.cell b o with|some v=>some v|none=>if w.heap.size<=b then w'.cell? ⟨b,o,none⟩ else none)=some v:=hv;cases hx:μ'.cell b o with
  |some y=>rw[hx] at aa;injection aa with aa;subst aa;exact ab.cell _ _ _ hx
  |none=>?_
  rw[hx] at aa;simp only at aa;split at aa;exact aa;cases aa
 refine⟨u,m',λ_=>(none,0),rfl,λb o v hv=>ad _ _ _ (ab.ext _ _ _ hv),λb o v hb hv=>?_,af,ab.below,?_,?_⟩;have aa:(match μ'.cell b o with|some v=>some v|none=>if w.heap.size<=b then w'.cell? ⟨b,o,none⟩ else none)=some v:=hv;cases hx:μ'.cell b o with
 |some y=>rw[hx] at aa;injection aa with aa;subst aa;exact ab.old _ _ _ hb hx
 |none=>rw[hx] at aa;simp only at aa;rw[if_neg oM] at aa;cases aa
 refine Z1k (λhf hc=>Kv ab ad (λl cs b n o u hb hl hu=>?_) hf hc) ah ag;obtain⟨b',n',T,conc,h1,h2,h3,_,h5⟩:=ab.box l cs hb;rw[hl] at h1;simp only[Ya,Yt] at h1;obtain⟨rfl,_⟩:=h1;show(match μ'.cell b o with|some v=>some v|none=>if w.heap.size<=b then w'.cell? ⟨b,o,none⟩ else none)=some u;rw[h5 o];simp only;rw[if_pos h2];exact hu;rw[ag.fr];exact⟨λx hx=>by simp at hx,λx hx=>by simp at hx⟩
theorem Z3.ov{f:FuncId}{fn:Func}{c:Code}{n:Nat}{vs:List V}{K:V->HS->Prop}{rs:List ResultVar}(hf:P.funcs[f]?=some fn)(hv:vc P c (ZG P rs K) (BG n vs) h)(hb:fn.body=some c:=by rfl)(ab:(fn.name== "runtime.NumGoroutine")=false:=by kernel_rfl)(hn:fn.ntmps=n:=by rfl)(aa:fn.results.toList=rs:=by rfl)(has:vs.length<=n:=by simp):Z3 P f vs h K:=.qN hf hb ab hn aa has hv
end
end Go.Am
end
section
namespace Go.Am
open Go.RowKit (Below)
section
variable{P:Program}{w:World}{a:Act}{e:Env}{h:HS}{μ:Mem}{Γ:Ctx}
inductive LendC(h:HS):C->A->Prop
 |frz {c:C} {x:D} (hf:Frz h c x):LendC h c (.d x)
 |ptr {l:Z2} {off:Nat} {cs:List C} {ds:List D} (hb:h.box l=some cs) (hf:Zx h (cs.drop off) ds):LendC h (.ptr l off) (.rp ds)
 |rp {cs:List D}:LendC h (.rp cs) (.rp cs)
 |fn {f:FuncId} {caps:List Cap} {dss:List (List D)} (hl:caps.length=dss.length) (hc:∀(i:Nat) c ds,caps[i]?=some c->dss[i]?=some ds->match c with
   | .lab l=>∃cs,h.box l=some cs/\Zx h cs ds
   | .rp cs=>cs=ds):LendC h (.fn f caps) (.fn f dss)
inductive LendV(h:HS):V->AV->Prop
 |one {c:C} {x:A} (hc:LendC h c x):LendV h (.one c) (.one x)
 |agg {cs:List C} {ds:List D} (hc:Zx h cs ds):LendV h (.agg cs) (.agg ds)
def VN(h:HS):List V->List AV->Prop
 |[],[]=>True
 |v::vs,x::xs=>LendV h v x/\VN h vs xs
 |_,_=>False
theorem VN.get:∀{vs:List V} {xs:List AV},VN h vs xs->vs.length=xs.length/\∀(i:Nat) x,xs[i]?=some x->∃v,vs[i]?=some v/\LendV h v x
 |[],[],_=>⟨rfl,λi x hi=>by simp at hi⟩
 |c::cs,y::xs,hr=>by
   obtain⟨h1,h2⟩:=VN.get hr.2;refine⟨by simp[h1],λi x hi=>?_⟩;cases i with
   |zero=>simp at hi;subst hi;exact⟨c,sI,hr.1⟩
   |succ i=>obtain⟨c',h3,h4⟩:=h2 i x (by simpa using hi);exact⟨c',by simpa using h3,h4⟩
 |[],_::_,hr=>hr.elim
 |_::_,[],hr=>hr.elim
theorem JP(hI:Inv Γ h μ w){c x v}(hf:Frz h c x)(hc:ZX μ c v):RepD (Wx w) x v:=
 Kv hI hI.cell (λ_ _ _ _ _ _ _ _ hu=>hu) hf hc
theorem O0(hI:Inv Γ h μ w){l cs}{off:Nat}{ds:List D}(hb:h.box l=some cs)(hf:Zx h (cs.drop off) ds){b n:Nat}(hl:μ.loc l=some (some b,n)):VE (Wx w) (Wx w) ds (.pointer (some ⟨b,off,none⟩)):=by
 obtain⟨b',n',T,conc,h1,_,h3,h4,_⟩:=hI.box l cs hb;rw[hl] at h1;simp only[Ya,Yt] at h1;obtain⟨rfl,_⟩:=h1;obtain⟨_,hg⟩:=hf.get;refine⟨b,off,rfl,λj c hj=>?_⟩;obtain⟨c',aa,ab⟩:=hg j c hj;rw[YJ] at aa;obtain⟨u,hu,hr⟩:=h4.2 _ _ aa;refine⟨u,.inl ?_,JP hI ab hr⟩;show w.cell? ⟨b,off+j,none⟩=some u;simp[World.cell?,h3,hu]
theorem OK(hI:Inv Γ h μ w){cs v}(hr:VE μ.cell μ.tmp cs v):VE (Wx w) (Wx w) cs v:=by
 obtain⟨b,off,rfl,hc⟩:=hr;refine⟨b,off,rfl,λj c hj=>?_⟩;obtain⟨u,hu,aa⟩:=hc j c hj;refine⟨u,.inl ?_,aa.mono hI.cell⟩;rcases hu with hu|hu;exact hI.cell _ _ _ hu;rw[hI.tmp] at hu;exact hI.tcell _ _ _ hu
theorem Z2z(hI:Inv Γ h μ w){c x v}(hl:LendC h c x)(hc:ZX μ c v):L3 (Wx w) (Wx w) x v:=by
 cases hl with
 |frz hf=>exact JP hI hf hc
 |ptr hb hf=>obtain⟨b,n,hl,rfl⟩:=hc;exact O0 hI hb hf hl
 |rp=>exact OK hI hc
 |fn hlen hcs=>?_
 obtain⟨vs,h1,h2,h3⟩:=hc;refine⟨vs,h1,by rw[h2,hlen],λi ds hi=>?_⟩;rename_i f caps ab;have hlt:i<caps.length:=by rw[hlen];exact(Y0.1 hi).1
 have aa:=Y1 hlt;obtain⟨u,hu,hr⟩:=h3 i _ aa;refine⟨u,hu,?_⟩
 have:=hcs i _ ds aa hi
 generalize caps[i]=cp at this hr;cases cp with
 |lab l=>?_
 |rp cs=>subst this;exact OK hI hr
 obtain⟨cs,hb,hf⟩:=this;obtain⟨b,n,hl,rfl⟩:=hr;exact O0 hI hb (by simpa using hf) hl
theorem Z2y(hI:Inv Γ h μ w){v x u}(hl:LendV h v x)(hv:ZS μ v u):Ci (Wx w) (Wx w) x u:=by
 cases hl with
 |one hc=>exact Z2z hI hc hv
 |agg hc=>?_
 obtain⟨vs,h1,h2⟩:=hv;obtain⟨h3,h4⟩:=hc.get;refine⟨vs,h1,by rw[h2.1,h3],λi x hi=>?_⟩;obtain⟨c,h5,h6⟩:=h4 i x hi;obtain⟨u',h7,h8⟩:=h2.2 i c h5;exact⟨u',h7,JP hI h6 h8⟩
def D.flat:D->Bool
 | .sl _=>false
 |_=>true
def RC.flat:RC->Bool
 | .d x=>x.flat
 | .fresh _ _ xs=>xs.all λy=>y.all D.flat
def RV1.flat:RV->Bool
 | .one c=>c.flat
 | .agg cs=>cs.all RC.flat
 | .tup _=>true
def RV.flat:RV->Bool
 | .tup vs=>vs.all RV1.flat
 |v=>RV1.flat v
theorem Oe{m m' x v}(hf:x.flat=true)(h:RepD m x v):RepD m' x v:=by
 cases h with
 |int k n=>exact .int k n
 |bool b=>exact .bool b
 |str s=>exact .str s
 |raw v h=>exact .raw v h
 |sl=>simp[D.flat] at hf
theorem Z3.qD{f}{vs:List V}{ap:List AV}{r:RV}{K}(hs:Zj P f ap r)(hl:VN h vs ap)(ab:r.flat=true)(hk:K (r.toV h.ep 0) ((h.qM 0 r.fr).next)):Z3 P f vs h K:=by
 refine⟨hs.1,λΓ μ w vals hI hR=>?_⟩;obtain⟨hlen,ax⟩:=hl.get;have am:Bw (Wx w) (Wx w) ap vals:=⟨by rw[hR.1,hlen],λi x hi=>by obtain⟨v,hv,a7⟩:=ax i x hi;obtain⟨u,hu,hr⟩:=hR.2 i v hv;exact⟨u,hu,Z2y hI a7 hr⟩⟩
 refine(hs.2 w (Wx w) (Wx w) vals hI.glob (EJ w) (EJ w) am).mono ?_;rintro en w' ⟨v,m',aa,rfl,au,_,ak,hb,hr,ah⟩
 let m2:CM:=λb o=>match μ.cell b o with
  |some v=>some v
  |none=>if w.heap.size<=b then m' b o else none
 have e2:∀b o,m2 b o=match μ.cell b o with
  |some v=>some v
  |none=>if w.heap.size<=b then m' b o else none:=λ_ _=>rfl
 have ac:Wq μ.cell m2:=λb o v hv=>by rw[e2,hv]
 have aj:Wq m2 m':=λb o v hv=>by
  rw[e2] at hv;cases hx:μ.cell b o with
  |some y=>rw[hx] at hv;injection hv with hv;subst hv;exact au _ _ _ (hI.cell _ _ _ hx)
  |none=>?_
  rw[hx] at hv;simp only at hv;split at hv;exact hv;cases hv
 have ag:∀b o,w.heap.size<=b->m2 b o=m' b o:=λb o hb=>by
  rw[e2];cases hx:μ.cell b o with
  |some y=>have:=hI.cell.lt hx;omega
  |none=>simp only;rw[if_pos hb]
 have aq:∀b o u,b<w.heap.size->m2 b o=some u->μ.cell b o=some u:=λb o u hb hu=>by
  rw[e2] at hu;cases hx:μ.cell b o with
  |some y=>rw[hx] at hu;exact hu
  |none=>rw[hx] at hu;simp only at hu;rw[if_neg oM] at hu;cases hu
 have ae:V7 m2 w':=λb o v hv=>ak _ _ _ (aj _ _ _ hv);have ar:Dn m2 w w' aa r.fr:=⟨λx hx=>by
  have h1:=ah.1 x hx;refine⟨h1.1,λg hg=>?_⟩;obtain⟨h2,T,cur,h3,h4,h5,h6,h7⟩:=h1.2 g hg;exact⟨h2,T,cur,h3,h4,h5,h6,λo ho=>by rw[ag g o h2];exact h7 o ho⟩,ah.2⟩
 have rc:∀(c:RC) (u:Value),c.flat=true->(∀x∈c.fr,x∈r.fr)->Ch m' aa c u->Ch m2 aa c u:=λc u hf af hc=>by
  cases c with
  |d x=>exact Oe hf hc
  |fresh j es xs=>?_
  obtain⟨h1,h2⟩:=hc;refine⟨?_,h2⟩;have aw:=ah.1 (j,es,xs.length) (af _ (by simp[RC.fr]));generalize hv:u=uu at h1;cases h1 with|sl xs ad cap es' b off f hl hc hes ha hcl hrep=>?_;subst hv;refine .sl xs ad cap es' b off f hl hc hes ha (λi x hx j' d hd=>?_) (λi x hx j' d hd=>Oe ?_ (hrep i x hx j' d hd));have hne:xs≠[]:=by rintro rfl;simp at hx
  have az:=ha hne;rw[az] at h2;simp only[hdr,Value.slice.injEq] at h2;obtain⟨h3,_⟩:=h2;cases hg:(aa j).1 with
  |none=>rw[hg] at h3;cases h3
  |some g=>?_
  rw[hg] at h3;simp only[Yj,Ya,Addr.mk.injEq] at h3;obtain⟨rfl,_⟩:=h3
  have:=(aw.2 b hg).1
  rw[ag b _ this];exact hcl i x hx j' d hd;simp only[RC.flat] at hf;have h4:=YW.1 hf x (Y4 hx);exact YW.1 h4 d (Y4 hd)
 have al:∀(c:RV) (u:Value),RV1.flat c=true->(∀x∈RV1.fr c,x∈r.fr)->BC m' aa c u->BC m2 aa c u:=λc u hf af hc=>by
  cases c with
  |one c=>exact rc c u hf af hc
  |agg cs=>?_
  |tup vs=>exact hc.elim
  obtain⟨us,h1,h2,h3⟩:=hc;refine⟨us,h1,h2,λi c hi=>?_⟩;obtain⟨u',h4,h5⟩:=h3 i c hi;refine⟨u',h4,rc c u' (YW.1 hf c (Y4 hi)) (λx hx=>af x ?_) h5⟩;exact Yx.2 ⟨c,Y4 hi,hx⟩
 have ay:Az m2 aa r v:=by
  cases r with
  |tup rs=>?_
  |one c=>exact al (.one c) v ab (λx hx=>hx) hr
  |agg cs=>exact al (.agg cs) v ab (λx hx=>hx) hr
  obtain⟨us,h1,h2,h3⟩:=hr;refine⟨us,h1,h2,λi c hi=>?_⟩;obtain⟨u',h4,h5⟩:=h3 i c hi;refine⟨u',h4,al c u' (YW.1 ab c (Y4 hi)) (λx hx=>?_) h5⟩;exact Yx.2 ⟨c,Y4 hi,hx⟩
 have a1:Mem.Le μ (WU μ h.ep 0 m2 aa):=⟨ac,rfl,λl x hl=>by
  have:=hI.lt l (by rw[hl];simp)
  simp only[WU];rw[if_neg oM];exact hl⟩
 exact⟨v,_,_,WU μ h.ep 0 m2 aa,rfl,hk,hI.call 0 ac aq ae hb ar,HE ay h.ep 0,a1⟩
end
end Go.Am
end
section
namespace Go.Am
class Hid(α:Type) where
 out:α
def ZK{α:Type}(x:Option α)[k:Hid (α->Prop)]:Prop:=
 match x with
 |some v=>k.out v
 |none=>False
@[simp] theorem Zeb{α:Type}{v}{f:α->Prop}:ZK (some v) (k:=⟨f⟩)=f v:=rfl
@[simp] theorem Zec{α:Type}{k:Hid (α->Prop)}:ZK none (k:=k)=False:=rfl
def KX(x:V)[k:Hid (Z2->Nat->Prop)]:Prop:=
 match x with
 | .one (.ptr l off)=>k.out l off
 |_=>False
@[simp] theorem Zf7{l off f}:KX (.one (.ptr l off)) (k:=⟨f⟩)=f l off:=rfl
def L6(x:V)[k:Hid (FuncId->List Cap->Prop)]:Prop:=
 match x with
 | .one (.fn f caps)=>k.out f caps
 |_=>False
@[simp] theorem Zgq{g caps f}:L6 (.one (.fn g caps)) (k:=⟨f⟩)=f g caps:=rfl
def Vj(x:V)[k:Hid (C->Prop)]:Prop:=
 match x with
 | .one c=>k.out c
 |_=>False
@[simp] theorem Zf8{c f}:Vj (.one c) (k:=⟨f⟩)=f c:=rfl
def BD(x:V)[p:Hid (Unit->Prop)][q:Hid (Bool->Prop)]:Prop:=
 match x with
 | .one (.d (.bool t))=>(t=true->p.out ())/\(t=false->q.out true)
 |_=>False
@[simp] theorem Zds{f q}:BD (.one (.d (.bool true))) (p:=⟨f⟩) (q:=q)=f ():=by simp[BD]
@[simp] theorem Zd2{p g}:BD (.one (.d (.bool false))) (p:=p) (q:=⟨g⟩)=g true:=by simp[BD]
theorem Aq{t f g}(h1:t=true->f ())(h2:t=false->g true):BD (.one (.d (.bool t))) (p:=⟨f⟩) (q:=⟨g⟩):=⟨h1,h2⟩
theorem WR{a:Prop}[Decidable a]{f g}(h1:a->f ())(h2:¬a->g true):BD (.one (.d (.bool (decide a)))) (p:=⟨f⟩) (q:=⟨g⟩):=
 ⟨λh=>h1 (of_decide_eq_true h),λh=>h2 (of_decide_eq_false h)⟩
def UB(x:V)(want:Bool)[p:Hid (Unit->Prop)][q:Hid (Bool->Prop)]:Prop:=
 match x with
 | .one (.d (.bool b))=>(b=want->p.out ())/\(b≠want->q.out true)
 | .undef=>q.out true
 |_=>False
@[simp] theorem Zem{f q}:UB (.one (.d (.bool true))) true (p:=⟨f⟩) (q:=q)=f ():=by simp[UB]
@[simp] theorem Zep{f q}:UB (.one (.d (.bool false))) false (p:=⟨f⟩) (q:=q)=f ():=by simp[UB]
@[simp] theorem Zen{p g}:UB (.one (.d (.bool true))) false (p:=p) (q:=⟨g⟩)=g true:=by simp[UB]
@[simp] theorem Zeo{p g}:UB (.one (.d (.bool false))) true (p:=p) (q:=⟨g⟩)=g true:=by simp[UB]
@[simp] theorem Zcr{want p g}:UB .undef want (p:=p) (q:=⟨g⟩)=g true:=rfl
def DG(P:Program)(op:BinOp)(t:TypeId)(x y:V)[k:Hid (V->Prop)]:Prop:=
 match x,y with
 | .agg cs,.agg cs'=>match Zt cs,Zt cs' with
   |some a,some b=>(AX op=true/\a.map WW=b.map WW/\Kd.other∉a.map WW/\Cp P t (a.map WW))/\k.out (Wm (if op=.neq then !(UG a b) else UG a b))
   |_,_=>False
 |u,v=>match Cm (C9 P t) op u v with
   |some r=>k.out r
   |none=>False
@[simp] theorem Zfq{P op t c c' f}:DG P op t (.one c) (.one c') (k:=⟨f⟩)=ZK (Cm (C9 P t) op (.one c) (.one c')) (k:=⟨f⟩):=by unfold DG;dsimp only;split<;>simp_all [ZK]
@[simp] theorem Zfr{P op t cs cs' f}:DG P op t (.agg cs) (.agg cs') (k:=⟨f⟩)=
  ZK (Zt cs) (k:=⟨λa=>ZK (Zt cs') (k:=⟨λb=>(AX op=true/\a.map WW=b.map WW/\Kd.other∉a.map WW/\Cp P t (a.map WW))/\f (Wm (if op=.neq then !(UG a b) else UG a b))⟩)⟩):=by
 simp only[DG];cases Zt cs<;>cases Zt cs'<;>rfl
def DF(a:Option (List (List D)))(b:Option (List C))[k:Hid (List (List D)->Prop)][q:Hid (List C->Prop)]:Prop:=
 match a with
 |some xs=>k.out xs
 |none=>match b with
   |some cs=>q.out cs
   |none=>False
@[simp] theorem Zer{xs b f}{q:Hid (List C->Prop)}:DF (some xs) b (k:=⟨f⟩)=f xs:=rfl
@[simp] theorem Zes{cs k f}:DF none (some cs) (k:=k) (q:=⟨f⟩)=f cs:=rfl
def KZ(x y:V)[k:Hid (Int->Int->Prop)]:Prop:=
 match x,y with
 | .one (.d (.int _ a)),.one (.d (.int _ b))=>k.out a b
 |_,_=>False
@[simp] theorem Zfb{i j a b f}:KZ (.one (.d (.int i a))) (.one (.d (.int j b))) (k:=⟨f⟩)=f a b:=rfl
def I3(b:Bool)[p:Hid (Unit->Prop)][q:Hid (Bool->Prop)]:Prop:=
 match b with
 |true=>p.out ()
 |false=>q.out true
@[simp] theorem Zet{f}{q:Hid (Bool->Prop)}:I3 true (p:=⟨f⟩)=f ():=rfl
@[simp] theorem Zdv{p g}:I3 false (p:=p) (q:=⟨g⟩)=g true:=rfl
def KY(x:V)[k:Hid (C->Prop)]:Prop:=
 match x with
 | .one c=>k.out c
 |_=>False
def Z4(P:Program)[c:Hid Code][Q:Hid (Exit->Env->HS->Prop)](e:Env)(h:HS):Prop:=Wi P c.out Q.out e h
theorem Z4.of{P c Q e h}(hs:Wi P c Q e h):Z4 P (c:=⟨c⟩) (Q:=⟨Q⟩) e h:=hs
theorem Z4.loop{P c Q e h}(I:Nat->Env->HS->Prop)(n)(h0:I n e h)
  (round:∀n e h,I n e h->vc P c (V3 (λe' h'=>∃n',n'<n/\I n' e' h') Q) e h):Z4 P (c:=⟨.loop c⟩) (Q:=⟨Q⟩) e h:=Wi.loop I n h0 round
def Ud[I:Hid (Nat->Env->HS->Prop)](n:Nat)(e:Env)(h:HS):Prop:=∃n',n'<n/\I.out n' e h
theorem Ud.of{I n n' e h}(hn:n'<n)(hI:I n' e h):Ud (I:=⟨I⟩) n e h:=⟨n',hn,hI⟩
theorem Z4.rounds{P c Q e h}(I n)(h0:I n e h)
  (round:∀n e h,I n e h->vc P c (V3 (λe' h'=>Ud (I:=⟨I⟩) n e' h') Q) e h):Z4 P (c:=⟨.loop c⟩) (Q:=⟨Q⟩) e h:=Wi.loop I n h0 round
def lenK(c:C)[k:Hid (Nat->Prop)]:Prop:=
 match c with
 | .mrow _ _ n _=>k.out n
 |c=>match c.qE with
   |some xs=>xs.length<=Zs->k.out xs.length
   |none=>False
@[simp] theorem Zed{l off n cap f}:lenK (.mrow l off n cap) (k:=⟨f⟩)=f n:=rfl
@[simp] theorem Zfe{l xs f}:lenK (.own l xs) (k:=⟨f⟩)=(xs.length<=Zs->f xs.length):=rfl
@[simp] theorem Zg7{xs f}:lenK (.d (.sl xs)) (k:=⟨f⟩)=(xs.length<=Zs->f xs.length):=rfl
@[simp] theorem Zff{f}:lenK .nil (k:=⟨f⟩)=f 0:=by simp[lenK,C.qE]
@[simp] theorem Zgo{f}:lenK .z (k:=⟨f⟩)=f 0:=by simp[lenK,C.qE]
theorem As{c xs f}(hc:c.qE=some xs)(hk:xs.length<=Zs->f xs.length):lenK c (k:=⟨f⟩):=by unfold lenK;split;simp[C.qE] at hc;rw[hc];exact hk
def C.xG:C->Option ByteArray
 | .d (.str s)=>some s
 |_=>none
@[simp] theorem Zh3{s}:C.xG (.d (.str s))=some s:=rfl
section
variable{P:Program}{Q:Exit->Env->HS->Prop}{N:Env->HS->Prop}{K:Env->HS->Prop}{e:Env}{h:HS}
@[simp↓] theorem Zft:vc P .skip Q e h=Q .normal e h:=rfl
@[simp↓] theorem Zdw{id l}:vc P (.region id l.toArray false) Q e h=W6 P l l e h (Q .normal):=rfl
@[simp↓] theorem Zgf{a b}:vc P (.seq a b) Q e h=vc P a (V3 (λe h=>vc P b Q e h) Q) e h:=rfl
@[simp↓] theorem Zfx{c a b}:vc P (.cond c a b) Q e h=BD (e.ev c) (p:=⟨λ_=>vc P a Q e h⟩) (q:=⟨λ_=>vc P b Q e h⟩):=rfl
@[simp↓] theorem Zeu{id c}:vc P (.block id c) Q e h=vc P c (Cb id Q) e h:=rfl
@[simp↓] theorem Zfv{id}:vc P (.exit id) Q e h=Q (.exit id) e h:=rfl
@[simp↓] theorem Zgg:vc P .ret Q e h=Q .ret e h:=rfl
@[simp↓] theorem Zfu{c}:vc P (.loop c) Q e h=Z4 P (c:=⟨.loop c⟩) (Q:=⟨Q⟩) e h:=rfl
@[simp↓] theorem Zfw{id l}:vc P (.region id l true) Q e h=Z4 P (c:=⟨.region id l true⟩) (Q:=⟨Q⟩) e h:=rfl
@[simp↓] theorem Zco:V3 N Q .normal e h=N e h:=rfl
@[simp↓] theorem Ze7:V3 N Q .ret e h=Q .ret e h:=rfl
@[simp↓] theorem Zdc{id}:V3 N Q (.exit id) e h=Q (.exit id) e h:=rfl
@[simp↓] theorem Zcl{id}:Cb id Q .normal e h=Q .normal e h:=rfl
@[simp↓] theorem Zdu{id}:Cb id Q .ret e h=Q .ret e h:=rfl
@[simp↓] theorem Zc1{id}:Cb id Q (.exit id) e h=Q .normal e h:=by simp[Cb]
@[simp↓] theorem Zf4{rs r}:HP P rs r .ret e h=U7 P rs r e h:=rfl
@[simp↓] theorem Zcx{rs r}:HP P rs r .normal e h=U7 P rs r e h:=rfl
@[simp↓] theorem Zdx{all}:W6 P all [] e h K=K e h:=rfl
@[simp↓] theorem Zct{all:List Oper}{d:Option Nat}{op:Op}{t:TypeId}{p:String}{af:Array Edge}{os:List Oper}:W6 P all ({dst:=d,op:=op,type:=t,pos:=p,after:=af,guard:=none}::os) e h K=
  (ZZ {dst:=d,op:=op,type:=t,pos:=p,after:=af,guard:=none} e/\Z9 P {dst:=d,op:=op,type:=t,pos:=p,after:=af,guard:=none} e h λe h=>W6 P all os e h K):=rfl
@[simp↓] theorem Zcu{all:List Oper}{d:Option Nat}{op:Op}{t:TypeId}{p:String}{af:Array Edge}{j}{want:Bool}{os:List Oper}:W6 P all ({dst:=d,op:=op,type:=t,pos:=p,after:=af,guard:=some (j,want)}::os) e h K=
  (ZZ {dst:=d,op:=op,type:=t,pos:=p,after:=af,guard:=some (j,want)} e/\UB (UU all e j) want (p:=⟨λ_=>Z9 P {dst:=d,op:=op,type:=t,pos:=p,after:=af,guard:=some (j,want)} e h λe h=>W6 P all os e h K⟩) (q:=⟨λ_=>W6 P all os (e.put d .undef) h K⟩)):=rfl
section
variable{d:Option Nat}{t:TypeId}{p:String}{af:Array Edge}{g:Option (Nat×Bool)}
@[simp] theorem Zdq{k:Nat}{op}:ZZ {dst:=some k,op:=op,type:=t,pos:=p,after:=af,guard:=g} e=(k<e.n):=rfl
@[simp] theorem Zdr{op}:ZZ {dst:=none,op:=op,type:=t,pos:=p,after:=af,guard:=g} e=True:=rfl
@[simp↓] theorem Ze0{x}:Z9 P {dst:=d,op:=.move x,type:=t,pos:=p,after:=af,guard:=g} e h K=K (e.put d (e.ev x)) h:=rfl
@[simp↓] theorem Zcv{x}:Z9 P {dst:=d,op:=.assign x,type:=t,pos:=p,after:=af,guard:=g} e h K=K (e.put d (e.ev x)) h:=rfl
@[simp↓] theorem Zdz{c x y}:Z9 P {dst:=d,op:=.pick c x y,type:=t,pos:=p,after:=af,guard:=g} e h K=ZK (Zw P (.pick c x y) e h) (k:=⟨λv=>K (e.put d v) h⟩):=by unfold Z9;dsimp only;split<;>simp_all [ZK]
@[simp↓] theorem Zdy{op ty x}:Z9 P {dst:=d,op:=.unOp op ty x,type:=t,pos:=p,after:=af,guard:=g} e h K=ZK (Zw P (.unOp op ty x) e h) (k:=⟨λv=>K (e.put d v) h⟩):=by unfold Z9;dsimp only;split<;>simp_all [ZK]
@[simp↓] theorem Zc8{ty f:Nat}{x}:Z9 P {dst:=d,op:=.fieldAddr ty x f,type:=t,pos:=p,after:=af,guard:=g} e h K=ZK (Zw P (.fieldAddr ty x f) e h) (k:=⟨λv=>K (e.put d v) h⟩):=by unfold Z9;dsimp only;split<;>simp_all [ZK]
@[simp↓] theorem Zd5{ty f:Nat}{x}:Z9 P {dst:=d,op:=.field ty x f,type:=t,pos:=p,after:=af,guard:=g} e h K=ZK (Zw P (.field ty x f) e h) (k:=⟨λv=>K (e.put d v) h⟩):=by unfold Z9;dsimp only;split<;>simp_all [ZK]
@[simp↓] theorem Ze2{ty:Nat}{x}:Z9 P {dst:=d,op:=.load ty x,type:=t,pos:=p,after:=af,guard:=g} e h K=ZK (Zw P (.load ty x) e h) (k:=⟨λv=>K (e.put d v) h⟩):=by unfold Z9;dsimp only;split<;>simp_all [ZK]
@[simp↓] theorem Sn{ty:Nat}{x i}:Z9 P {dst:=d,op:=.indexAddr ty x i,type:=t,pos:=p,after:=af,guard:=g} e h K=ZK (Zw P (.indexAddr ty x i) e h) (k:=⟨λv=>K (e.put d v) h⟩):=by unfold Z9;dsimp only;split<;>simp_all [ZK]
@[simp↓] theorem Zd4{ty:Nat}{x lo hi mx}:Z9 P {dst:=d,op:=.slice ty x lo hi mx,type:=t,pos:=p,after:=af,guard:=g} e h K=ZK (Zw P (.slice ty x lo hi mx) e h) (k:=⟨λv=>K (e.put d v) h⟩):=by unfold Z9;dsimp only;split<;>simp_all [ZK]
@[simp↓] theorem Zcm{i x}:Z9 P {dst:=d,op:=.extract x i,type:=t,pos:=p,after:=af,guard:=g} e h K=ZK (Zw P (.extract x i) e h) (k:=⟨λv=>K (e.put d v) h⟩):=by unfold Z9;dsimp only;split<;>simp_all [ZK]
@[simp↓] theorem Zcg{fn x y}:Z9 P {dst:=d,op:=.makeFunc fn x y,type:=t,pos:=p,after:=af,guard:=g} e h K=ZK (Zw P (.makeFunc fn x y) e h) (k:=⟨λv=>K (e.put d v) h⟩):=by unfold Z9;dsimp only;split<;>simp_all [ZK]
@[simp↓] theorem Zcf{x}:Z9 P {dst:=d,op:=.nilCheck x,type:=t,pos:=p,after:=af,guard:=g} e h K=ZK (Zw P (.nilCheck x) e h) (k:=⟨λv=>K (e.put d v) h⟩):=by unfold Z9;dsimp only;split<;>simp_all [ZK]
@[simp↓] theorem Zd3{ty x y}:Z9 P {dst:=d,op:=.store ty x y,type:=t,pos:=p,after:=af,guard:=g} e h K=ZK (ZV P ty) (k:=⟨λz=>KX (e.ev x) (k:=⟨λl off=>ZK (h.box l) (k:=⟨λcs=>
  ((e.ev y).cells.length=z.2/\0<z.2/\off+z.2<=cs.length)/\K (e.put d .undef) (h.qA l (Zg cs off (e.ev y).cells))⟩)⟩)⟩):=by
 simp only[Z9,ZK,KX];cases ZV P ty with
 |none=>rfl
 |some z=>?_
 dsimp only
 generalize e.ev x=X;cases X with
 |one c=>cases c with
   |ptr l off=>dsimp only;cases h.box l<;>rfl
   |_=>rfl
 |_=>rfl
@[simp↓] theorem Zez{ty x}{k:Nat}:Z9 P {dst:=some k,op:=.box ty x,type:=t,pos:=p,after:=af,guard:=g} e h K=
  ((e.ev x).cells≠[]/\K (e.put (some k) (.one (.ptr (h.ep,16*k) 0))) ((h.qA (h.ep,16*k) (e.ev x).cells).next)):=rfl
@[simp↓] theorem Zdb{ty}{k:Nat}:Z9 P {dst:=some k,op:=.alloc ty,type:=t,pos:=p,after:=af,guard:=g} e h K=ZK (ZP P ty) (k:=⟨λcs=>K (e.put (some k) (.one (.ptr (h.ep,16*k) 0))) ((h.qA (h.ep,16*k) cs).next)⟩):=by simp only[Z9,ZK];cases ZP P ty<;>rfl
@[simp↓] theorem Zd9{ty ps}:Z9 P {dst:=d,op:=.build ty ps.toArray,type:=t,pos:=p,after:=af,guard:=g} e h K=ZK (ZP P ty) (k:=⟨λz=>ZK (Vq P ty) (k:=⟨λpl=>ZK (UZ pl e ps z) (k:=⟨λcs=>K (e.put d (.agg cs)) h⟩)⟩)⟩):=by
 simp only[Z9,ZK];cases ZP P ty with
 |none=>rfl
 |some z=>cases Vq P ty with
   |none=>rfl
   |some pl=>dsimp only;cases UZ pl e ps z<;>rfl
def Fv(n:Nat)(d:Nat)(h:HS)[K:Hid (V->HS->Prop)]:Prop:=(0<n/\n<=64)/\(K.out (.one (.own (h.ep,16*d) [])) ((h.qC (h.ep,16*d) (some (0,n))).next)\/K.out (.one .z) h)
theorem D6{n d f}(h0:0<n/\n<=64)(hk:f (.one (.own (h.ep,16*d) [])) ((h.qC (h.ep,16*d) (some (0,n))).next)):Fv n d h (K:=⟨f⟩):=⟨h0,.inl hk⟩
theorem Z59{n d f}(h0:0<n/\n<=64)(hk:f (.one .z) h):Fv n d h (K:=⟨f⟩):=⟨h0,.inr hk⟩
theorem Tq{ty}{k:Nat}:Z9 P {dst:=some k,op:=.buildSlice ty 0 [].toArray,type:=t,pos:=p,after:=af,guard:=g} e h K=ZK (Zv P ty) (k:=⟨λz=>Fv z.2.1 k h (K:=⟨λv h'=>K (e.put (some k) v) h'⟩)⟩):=by
 simp only[Z9,ZK];cases Zv P ty with
 |none=>rfl
 |some z=>?_
 simp only[VL,Fv,Xt,true_and,XX];apply propext;constructor;rintro(⟨⟨h1,h2⟩,h3⟩|⟨⟨h1,h2⟩,h3⟩);exact⟨⟨h1,h2⟩,.inl h3⟩;exact⟨⟨h1,h2⟩,.inr h3⟩;rintro⟨⟨h1,h2⟩,h3|h3⟩;exact .inl ⟨⟨h1,h2⟩,h3⟩;exact .inr ⟨⟨h1,h2⟩,h3⟩
@[simp↓] theorem Zd6{ty}{k:Nat}:Z9 P {dst:=some k,op:=.buildSlice ty 0 #[],type:=t,pos:=p,after:=af,guard:=g} e h K=ZK (Zv P ty) (k:=⟨λz=>Fv z.2.1 k h (K:=⟨λv h'=>K (e.put (some k) v) h'⟩)⟩):=Tq
@[simp↓] theorem Zc3{ty}{len k:Nat}{q ps}:Z9 P {dst:=some k,op:=.buildSlice ty len (q::ps).toArray,type:=t,pos:=p,after:=af,guard:=g} e h K=ZK (Zv P ty) (k:=⟨λz=>DF (VL e z.2.1 (q::ps) 0) (UX e z.2.1 (q::ps) 0)
  (k:=⟨λxs=>(xs.length=len/\0<z.2.1/\len<=64/\z.2.1<=64)/\K (e.put (some k) (.one (.own (h.ep,16*k) xs))) ((h.qC (h.ep,16*k) (some (len,z.2.1))).next)⟩)
  (q:=⟨λcs=>((q::ps).length=len/\0<z.2.1/\len<=64/\z.2.1<=64)/\K (e.put (some k) (.one (.mrow (h.ep,16*k) 0 len len))) ((h.qA (h.ep,16*k) cs).next)⟩)⟩):=by
 simp only[Z9,ZK,DF];cases Zv P ty with
 |none=>rfl
 |some z=>?_
 dsimp only
 cases VL e z.2.1 (q::ps) 0 with
 |some xs=>simp[ZU]
 |none=>cases UX e z.2.1 (q::ps) 0<;>rfl
@[simp↓] theorem Ze1{ty x y}{k:Nat}:Z9 P {dst:=some k,op:=.makeSlice ty x y,type:=t,pos:=p,after:=af,guard:=g} e h K=ZK (Zv P ty) (k:=⟨λz=>ZK (ZP P z.1) (k:=⟨λzc=>KZ (e.ev x) (e.ev y) (k:=⟨λa b=>
  (0<=a/\a<=b/\b<=Zs/\z.2.2<=4096/\0<z.2.1/\z.2.1<=8)/\K (e.put (some k) (.one (.mrow (h.ep,16*k) 0 a.toNat b.toNat))) ((h.qA (h.ep,16*k) (List.replicate b.toNat zc).flatten).next)⟩)⟩)⟩):=by
 simp only[Z9,Fs,ZK,KZ];cases Zv P ty with
 |none=>rfl
 |some z=>?_
 obtain⟨el,n,b⟩:=z
 dsimp only
 cases ZP P el with
 |none=>rfl
 |some zc=>?_
 dsimp only
 generalize e.ev x=X;generalize e.ev y=Y;cases X with
 |one c=>cases c with
   |d u=>cases u with
     |int k a=>cases Y with
       |one c=>cases c with
         |d u=>cases u<;>rfl
         |_=>rfl
       |_=>rfl
     |_=>rfl
   |_=>rfl
 |_=>rfl
@[simp↓] theorem Zda{op ty aa x y}:Z9 P {dst:=d,op:=.binOp op ty x y aa,type:=t,pos:=p,after:=af,guard:=g} e h K=
  I3 (isNilConst y) (p:=⟨λ_=>KY (e.ev x) (k:=⟨λc=>Cd P op ty c (λv=>K (e.put d v) h)⟩)⟩) (q:=⟨λ_=>DG P op ty (e.ev x) (e.ev y) (k:=⟨λv=>K (e.put d v) h⟩)⟩):=by
 simp only[Z9,DG,I3,KY];cases hn:isNilConst y with
 |true=>simp only[if_true,Hr];cases e.ev x<;>rfl
 |false=>?_
 simp only[YH,if_false];generalize e.ev x=X;generalize e.ev y=Y;cases X<;>cases Y<;>rfl
def FF(P:Program)(op:BinOp)(ty:TypeId)(c:C)[K:Hid (V->Prop)]:Prop:=Cd P op ty c K.out
def I2(P:Program)(ty:TypeId)(c:C)[K:Hid (V->Prop)]:Prop:=KK P ty c K.out
@[simp↓] theorem Zey{x ty}:Z9 P {dst:=d,op:=.call {callee:=.builtin .cap,args:=[x].toArray,argTypes:=[ty].toArray},type:=t,pos:=p,after:=af,guard:=g} e h K=
  Vj (e.ev x) (k:=⟨λc=>I2 P ty c (K:=⟨λv=>K (e.put d v) h⟩)⟩):=by
 simp only[Z9,Vj,Yb,Yd,I2];cases e.ev x<;>rfl
theorem GJ{ty el n b:Nat}(h:Zv P ty=some (el,n,b)):∃el,P.underlying ty=some (.slice el):=by obtain⟨i,z,hu,_⟩:=Un h;exact⟨_,hu⟩
@[simp] theorem Zf9{op ty c f}:KY (.one c) (k:=⟨λc=>Cd P op ty c f⟩)=FF P op ty c (K:=⟨f⟩):=rfl
theorem EU{op ty z c f}(ab:Zv P ty=some z)(aa:AX op=true){xs}(hc:c.qE=some xs)(hk:∀b:Bool,(xs≠[]->b=false)->f (Wm (if op=.neq then !b else b))):FF P op ty c (K:=⟨f⟩):=by
 refine⟨⟨aa,GJ ab⟩,?_⟩;split;simp[C.qE] at hc
 have:=hk true (λh=>by subst hc;exact absurd rfl h)
 simpa using this;simp[C.qE] at hc;rw[hc];exact hk
theorem Z2v{op ty z l off n cap f}(ab:Zv P ty=some z)(aa:AX op=true)(hk:f (Wm (if op=.neq then true else false))):FF P op ty (.mrow l off n cap) (K:=⟨f⟩):=⟨⟨aa,GJ ab⟩,hk⟩
theorem Di{ty z f}(aa:Zv P ty=some z)(hk:f (Wk .i64 0)):I2 P ty .nil (K:=⟨f⟩):=⟨GJ aa,hk⟩
theorem NC{ty z l off n cap f}(aa:Zv P ty=some z)(hk:f (Wk .i64 cap)):I2 P ty (.mrow l off n cap) (K:=⟨f⟩):=⟨GJ aa,hk⟩
def V4(P:Program)(f:FuncId)(caps:List Cap)(vs:List V)(d:Nat)(e:Env)(h:HS)[K:Hid (Env->HS->Prop)]:Prop:=
 (∃ars cs,W1 h vs=some ars/\Vi h caps=some cs/\∃r,Zj P f (ars++We cs) r/\K.out (e.put (some d) (r.toV h.ep d)) ((h.qM d r.fr).next))\/
 Z3 P f (vs++caps.map WX) h (λv h'=>K.out (e.put (some d) v) h')\/
 ∃v,Dz P f (vs++caps.map WX) h v/\K.out (e.put (some d) v) h
theorem P0{f vs d v}(hx:Dz P f vs h v)(hk:K (e.put (some d) v) h):V4 P f [] vs d e h (K:=⟨K⟩):=.inr (.inr ⟨v,by simpa using hx,hk⟩)
theorem Z5g{f caps vs av cs d r}(has:W1 h vs=some av)(aa:Vi h caps=some cs)(hs:Zj P f (av++We cs) r)
  (hk:K (e.put (some d) (r.toV h.ep d)) ((h.qM d r.fr).next)):V4 P f caps vs d e h (K:=⟨K⟩):=.inl ⟨av,cs,has,aa,r,hs,hk⟩
theorem Zq{f vs av d r}(hs:Zj P f av r)(has:W1 h vs=some av)
  (hk:K (e.put (some d) (r.toV h.ep d)) ((h.qM d r.fr).next)):V4 P f [] vs d e h (K:=⟨K⟩):=.inl ⟨av,[],has,rfl,r,by simpa[We] using hs,hk⟩
theorem Za{f caps vs d}(hs:Z3 P f (vs++caps.map WX) h (λv h'=>K (e.put (some d) v) h')):V4 P f caps vs d e h (K:=⟨K⟩):=.inr (.inl hs)
@[simp↓] theorem Ze4{f}{args:List Operand}{ts}{k:Nat}:Z9 P {dst:=some k,op:=.call {callee:=.value f,args:=args.toArray,argTypes:=ts},type:=t,pos:=p,after:=af,guard:=g} e h K=
  L6 (e.ev f) (k:=⟨λfn caps=>V4 P fn caps (args.map e.ev) k e h (K:=⟨K⟩)⟩):=by
 simp only[Z9,L6,V4];generalize e.ev f=X;cases X with
 |one c=>cases c<;>rfl
 |_=>rfl
@[simp↓] theorem Zex{x ty}:Z9 P {dst:=d,op:=.call {callee:=.builtin .len,args:=[x].toArray,argTypes:=[ty].toArray},type:=t,pos:=p,after:=af,guard:=g} e h K=
  ZK (Wy P ty) (k:=⟨λs=>Vj (e.ev x) (k:=⟨λc=>match s with
   |true=>ZK c.xG (k:=⟨λs=>K (e.put d (Wk .i64 s.size)) h⟩)
   |false=>lenK c (k:=⟨λn=>K (e.put d (Wk .i64 n)) h⟩)⟩)⟩):=by
 simp only[Z9,ZK,Vj,Yb,Yd];cases hl:Wy P ty with
 |none=>cases e.ev x<;>simp[AU,hl]
 |some s=>?_
 cases e.ev x with
 |one c=>cases s with
   |true=>
     simp only[AU,hl];cases c with
     |d x=>cases x<;>rfl
     |_=>rfl
   |false=>
     simp only[AU,hl];cases c with
     |mrow l off n cap=>rfl
     |d x=>cases x<;>rfl
     |_=>rfl
 |_=>rfl
@[simp↓] theorem Zew{x y ts}:Z9 P {dst:=d,op:=.call {callee:=.builtin .max,args:=[x,y].toArray,argTypes:=ts},type:=t,pos:=p,after:=af,guard:=g} e h K=
  ZK (Zw P (.call {callee:=.builtin .max,args:=[x,y].toArray,argTypes:=ts}) e h) (k:=⟨λv=>K (e.put d v) h⟩):=by
 unfold Z9;dsimp only;split<;>simp_all [ZK]
@[simp↓] theorem Zev{x y ts}:Z9 P {dst:=d,op:=.call {callee:=.builtin .min,args:=[x,y].toArray,argTypes:=ts},type:=t,pos:=p,after:=af,guard:=g} e h K=
  ZK (Zw P (.call {callee:=.builtin .min,args:=[x,y].toArray,argTypes:=ts}) e h) (k:=⟨λv=>K (e.put d v) h⟩):=by
 unfold Z9;dsimp only;split<;>simp_all [ZK]
def Vv(P:Program)(ty:TypeId)(c x:C)(d:Nat)(h:HS)[K:Hid (V->HS->Prop)]:Prop:=An P ty c x d h K.out\/Al P ty c x d h K.out
def FA(P:Program)(ty:TypeId)(c x:C)(h:HS)[K:Hid (V->HS->Prop)]:Prop:=AS P ty c x 0 h K.out
def Hx(P:Program)(ty:TypeId)(c:C)(h:HS)[K:Hid (V->HS->Prop)]:Prop:=Bq P ty c 0 h K.out
def Zi(h:HS)(es:Nat)(c:C)(xs:List (List D)):Prop:=((c=.nil/\xs=[])\/∃l,c=.own l xs/\h.arr l=some (xs.length,es)/\l.1<h.ep)/\∀y∈xs,y.length=es
theorem Zi.nil{h es}:Zi h es .nil []:=⟨.inl ⟨rfl,rfl⟩,sI⟩
theorem Zi.own{h es l xs}(ha:h.arr l=some (xs.length,es))(hl:l.1<h.ep)(hy:∀y∈xs,y.length=es):Zi h es (.own l xs) xs:=⟨.inr ⟨l,rfl,ha,hl⟩,hy⟩
theorem Zi.next{h es c xs}(g:Zi h es c xs):Zi h.next es c xs:=by refine⟨?_,g.2⟩;rcases g.1 with h1|⟨l,h1,h2,h3⟩;exact .inl h1;exact .inr ⟨l,h1,h2,Nat.lt_succ_of_lt h3⟩
theorem Zi.qA{h es c xs k cs}(g:Zi h es c xs):Zi (h.qA k cs) es c xs:=g
theorem Zi.qC{h es c xs k x}(g:Zi h es c xs)(hk:h.ep<=k.1):Zi (h.qC k x) es c xs:=by
 refine⟨?_,g.2⟩;rcases g.1 with h1|⟨l,h1,h2,h3⟩;exact .inl h1;refine .inr ⟨l,h1,?_,h3⟩
 have:l≠k:=λhe=>by rw[he] at h3;omega
 simp only[HS.qC,this,if_false,h2]
theorem Zi.list{h es c xs}(g:Zi h es c xs):c.qE=some xs:=by rcases g.1 with⟨h1,h2⟩|⟨l,h1,_,_⟩;rw[h1,h2];rfl;rw[h1];rfl
theorem Zi.toD{h es c xs}(g:Zi h es c xs):c.toD=some (.sl xs):=by rcases g.1 with⟨h1,h2⟩|⟨l,h1,_,_⟩;rw[h1,h2];rfl;rw[h1];rfl
theorem Zi.toA{h es c xs}(g:Zi h es c xs)(h'):c.toA h'=some (.d (.sl xs)):=by rcases g.1 with⟨h1,h2⟩|⟨l,h1,_,_⟩;rw[h1,h2];rfl;rw[h1];rfl
theorem Zi.can{h es c xs}(g:Zi h es c xs):Dr h es c=true:=by rcases g.1 with⟨h1,_⟩|⟨l,h1,h2,_⟩;rw[h1];rfl;rw[h1];simp[Dr,h2]
theorem U3{ty el es by_ d}{c x:C}{K xs ys}(aa:Zv P ty=some (el,es,by_))(hc:Zi h es c xs)(hx:x.qE=some ys)(h0:0<es)(hb:by_<=4096)(hy:∀y∈ys,y.length=es)(hl:xs.length+ys.length<=Zs)
  (hk:K (.one (.own (h.ep,16*d) (xs++ys))) (((c.qI h).qC (h.ep,16*d) (some ((xs++ys).length,es))).next)):Vv P ty c x d h (K:=⟨K⟩):=by
 refine .inl ?_;unfold An;rw[aa];simp only;rw[hc.list,hx];simp only;rw[Ye] at hk;exact⟨⟨hc.can,h0,hb,hc.2,hy,hl⟩,hk⟩
theorem C3{ty el n by_ d k cap m s x K old new pl}(ae:Zv P ty=some (el,n,by_))(hs:Vm h n s=some (k,cap,old,pl))(hx:Wg h n x=some new)(hm:ZW x=some m)
  (hz:(ZP P el).isSome=true)(h0:0<n)(hb:by_<=4096)(hl:k+m<=Zs)(ab:new.length=m*n)(aa:old.length=k*n)
  (hk0:m=0->K (.one s) h)
  (ad:0<m->k+m<=cap->∀l off,pl=some (l,off)->∃cs,h.box l=some cs/\off+(k+m)*n<=cs.length/\K (.one (.mrow l off (k+m) cap)) (h.qA l (Zg cs (off+k*n) new)))
  (ac:0<m->cap<k+m->∀cap',k+m<=cap'->K (.one (.mrow (h.ep,16*d) 0 (k+m) cap')) ((h.qA (h.ep,16*d) (old++new++List.replicate ((cap'-(k+m))*n) .any)).next)):Vv P ty s x d h (K:=⟨K⟩):=by
 refine .inr ?_;unfold Al;rw[ae];simp only;rw[hs,hx,hm];exact⟨⟨hz,h0,hb,hl,ab,aa⟩,hk0,ad,ac⟩
theorem Zi.app{h:HS}{es l xs}(hl:l.1=h.ep)(hy:∀y∈xs,y.length=es):Zi ((h.qC l (some (xs.length,es))).next) es (.own l xs) xs:=
 Zi.own (by simp[HS.qC,HS.next]) (by show l.1<h.ep+1;omega) hy
@[simp↓] theorem Zcw{x y ty}{k:Nat}:Z9 P {dst:=some k,op:=.call {callee:=.builtin .append,args:=[x,y].toArray,argTypes:=[ty,ty].toArray},type:=t,pos:=p,after:=af,guard:=g} e h K=
  Vj (e.ev x) (k:=⟨λc=>Vj (e.ev y) (k:=⟨λc'=>Vv P ty c c' k h (K:=⟨λv h'=>K (e.put (some k) v) h'⟩)⟩)⟩):=by
 simp only[Z9,Vj,Yb,Yd,Vv];cases e.ev x with
 |one c=>?_
 |_=>rfl
 cases e.ev y with
 |one c'=>?_
 |_=>rfl
 simp only[true_or,true_and];exact propext ⟨λh=>h.elim id λh=>absurd rfl h.1.1,.inl⟩
def Fp(P:Program)(ty aa:TypeId)(c x:C)(d:Nat)(h:HS)[K:Hid (V->HS->Prop)]:Prop:=(AD P aa=true/\(An P ty c x d h K.out\/Al P ty c x d h K.out))\/D8 P ty aa c x d h K.out
theorem ME{ty ty' c x d K}(hs:AD P ty'=true)(hk:Vv P ty c x d h (K:=⟨K⟩)):Fp P ty ty' c x d h (K:=⟨K⟩):=.inl ⟨hs,hk⟩
@[simp↓] theorem Zcn{x y ty ty'}{k:Nat}(hne:ty≠ty'):Z9 P {dst:=some k,op:=.call {callee:=.builtin .append,args:=[x,y].toArray,argTypes:=[ty,ty'].toArray},type:=t,pos:=p,after:=af,guard:=g} e h K=
  Vj (e.ev x) (k:=⟨λc=>Vj (e.ev y) (k:=⟨λc'=>Fp P ty ty' c c' k h (K:=⟨λv h'=>K (e.put (some k) v) h'⟩)⟩)⟩):=by
 simp only[Z9,Vj,Yb,Yd,Fp];cases e.ev x with
 |one c=>?_
 |_=>rfl
 cases e.ev y with
 |one c'=>simp only[hne,false_or];rfl
 |_=>rfl
theorem N6{ty ty' el}{n aa d k cap off:Nat}{l}{m:Int}{kk ki old K}(ac:Zv P ty=some (el,n,aa))(hne:ty≠ty')(hu:P.underlying ty'=some (.int kk))(hz:(ZP P el).isSome=true)(h0:0<n)(hb:aa<=4096)(h1:0<m)(h2:k+m<=Zs)(hc:cap<k+m.toNat)
  (ho:Wg h n (.mrow l off k cap)=some old)(ab:old.length=k*n)
  (hk:∀cap',k+m.toNat<=cap'->K (.one (.mrow (h.ep,16*d) 0 (k+m.toNat) cap')) ((h.qA (h.ep,16*d) (old++List.replicate ((cap'-k)*n) .any)).next)):Fp P ty ty' (.mrow l off k cap) (.d (.int ki m)) d h (K:=⟨K⟩):=by
 refine .inr ⟨⟨hne,_,hu⟩,?_⟩;rw[ac];simp only[ho];exact⟨⟨hz,h0,hb,h1,h2,hc,ab⟩,hk⟩
theorem Jk{ty ty' el n by_ d}{m:Int}{k kk K}(aa:Zv P ty=some (el,n,by_))(hne:ty≠ty')(hu:P.underlying ty'=some (.int kk))(hz:(ZP P el).isSome=true)(h0:0<n)(hb:by_<=4096)(h1:0<m)(h2:m<=Zs)
  (hk:∀cap',m.toNat<=cap'->K (.one (.mrow (h.ep,16*d) 0 m.toNat cap')) ((h.qA (h.ep,16*d) (List.replicate (cap'*n) .any)).next)):Fp P ty ty' .nil (.d (.int k m)) d h (K:=⟨K⟩):=by
 refine .inr ⟨⟨hne,_,hu⟩,?_⟩;rw[aa];exact⟨⟨hz,h0,hb,h1,h2⟩,hk⟩
@[simp↓] theorem Ze3{x y ty}:Z9 P {dst:=d,op:=.call {callee:=.builtin .copy,args:=[x,y].toArray,argTypes:=[ty,ty].toArray},type:=t,pos:=p,after:=af,guard:=g} e h K=
  Vj (e.ev x) (k:=⟨λc=>Vj (e.ev y) (k:=⟨λc'=>FA P ty c c' h (K:=⟨λv h'=>K (e.put d v) h'⟩)⟩)⟩):=by
 simp only[Z9,Vj,Yb,Yd,FA];cases e.ev x with
 |one c=>?_
 |_=>rfl
 cases e.ev y with
 |one c'=>simp only[true_or,true_and];rfl
 |_=>rfl
def KH(P:Program)(ty aa:TypeId)(c x:C)(h:HS)[K:Hid (V->HS->Prop)]:Prop:=AD P aa=true/\AS P ty c x 0 h K.out
theorem NB{ty ty' c x K}(hs:AD P ty'=true)(hk:FA P ty c x h (K:=⟨K⟩)):KH P ty ty' c x h (K:=⟨K⟩):=⟨hs,hk⟩
@[simp↓] theorem Zd7{x y ty ty'}(hne:ty≠ty'):Z9 P {dst:=d,op:=.call {callee:=.builtin .copy,args:=[x,y].toArray,argTypes:=[ty,ty'].toArray},type:=t,pos:=p,after:=af,guard:=g} e h K=
  Vj (e.ev x) (k:=⟨λc=>Vj (e.ev y) (k:=⟨λc'=>KH P ty ty' c c' h (K:=⟨λv h'=>K (e.put d v) h'⟩)⟩)⟩):=by
 simp only[Z9,Vj,Yb,Yd,KH];cases e.ev x with
 |one c=>?_
 |_=>rfl
 cases e.ev y with
 |one c'=>simp only[hne,false_or];rfl
 |_=>rfl
@[simp↓] theorem Zd8{x ty}:Z9 P {dst:=d,op:=.call {callee:=.builtin .clear,args:=[x].toArray,argTypes:=[ty].toArray},type:=t,pos:=p,after:=af,guard:=g} e h K=
  Vj (e.ev x) (k:=⟨λc=>Hx P ty c h (K:=⟨λv h'=>K (e.put d v) h'⟩)⟩):=by
 simp only[Z9,Vj,Yb,Yd,Hx];cases e.ev x<;>rfl
end
end
@[simp] theorem Zg5{e:Env}{d k v}:(e.put (some d) v).get k=if k=d then v else e.get k:=rfl
@[simp] theorem Zf6{e:Env}{v}:e.put none v=e:=rfl
@[simp] theorem Zh4{e:Env}{d v}:(e.put d v).n=e.n:=by cases d<;>rfl
@[simp] theorem Zgx{n ars}:(BH n ars).n=n:=rfl
@[simp] theorem Zfo{n k ars}:(BH n ars).get k=(ars[k]?.map AV.toV).getD .undef:=by simp only[BH];cases ars[k]?<;>rfl
@[simp] theorem J5{h:HS}{l k cs}:(h.qA l cs).box k=if k=l then some cs else h.box k:=rfl
@[simp] theorem Zdf{h:HS}{l k cs}:(h.qA l cs).arr k=h.arr k:=rfl
@[simp] theorem H0{h:HS}{l cs}:(h.qA l cs).ep=h.ep:=by cases h;exact id rfl
@[simp] theorem Zdh{h:HS}{l k x}:(h.qC l x).arr k=if k=l then x else h.arr k:=rfl
@[simp] theorem Zdg{h:HS}{l k x}:(h.qC l x).box k=h.box k:=rfl
@[simp] theorem Ze8{h:HS}{l x}:(h.qC l x).ep=h.ep:=by cases h;exact id rfl
@[simp] theorem JV{h:HS}{k}:h.next.box k=h.box k:=rfl
@[simp] theorem Zfa{h:HS}{k}:h.next.arr k=h.arr k:=rfl
@[simp] theorem OP{h:HS}:h.next.ep=h.ep+1:=by cases h;exact id rfl
@[simp] theorem Zfi{k}:HS.init.box k=none:=rfl
@[simp] theorem Zfj{k}:HS.init.arr k=none:=rfl
@[simp] theorem Zgb:HS.init.ep=0:=rfl
@[simp] theorem Zgr{e:Env}{t:Nat}:e.ev (.tmp t)=e.get t:=rfl
@[simp] theorem Zgc{e:Env}{f:Nat}:e.ev (.func f)=.one (.fn f []):=rfl
@[simp] theorem Zgu{e:Env}{k n}:e.ev (.const (.int k n))=Wk k n:=rfl
@[simp] theorem Zgd{e:Env}{b}:e.ev (.const (.bool b))=Wm b:=rfl
@[simp] theorem Zgs{e:Env}{s}:e.ev (.const (.string s))=I0 s:=rfl
@[simp] theorem Zgt{e:Env}:e.ev (.const (.slice none 0 0))=.one .nil:=rfl
@[simp] theorem Zgv{e:Env}{cs}:e.ev (.const (.agg cs))=if cs.all Value.oneCell' then .agg (cs.toList.map Ca) else .top:=rfl
@[simp] theorem Zgy{x}:AV.toV (.one (.d x))=.one (.d x):=rfl
@[simp] theorem Zgh{x}:AV.toV (.one (.rp x))=.one (.rp x):=rfl
@[simp] theorem Zgi{f x}:AV.toV (.one (.fn f x))=.one (.fn f (x.map Cap.rp)):=rfl
@[simp] theorem Zfy{x}:AV.toV (.agg x)=.agg (x.map C.d):=rfl
@[simp] theorem Ze5{h l xs}:C.qI h (.own l xs)=h.qC l none:=rfl
@[simp] theorem Ze6{h}:C.qI h .nil=h:=rfl
@[simp] theorem Zfc{l xs}:C.qE (.own l xs)=some xs:=rfl
@[simp] theorem Zfd:C.qE .nil=some []:=rfl
@[simp] theorem Zgn:C.qE .z=some []:=rfl
@[simp] theorem Zgz:C.toD .z=some (.sl []):=rfl
@[simp] theorem Zg6{xs}:C.qE (.d (.sl xs))=some xs:=rfl
@[simp] theorem Zfz{l xs}:C.toD (.own l xs)=some (.sl xs):=rfl
@[simp] theorem Zg0:C.toD .nil=some (.sl []):=rfl
@[simp] theorem Zh0{x}:C.toD (.d x)=some x:=rfl
@[simp] theorem Zf1{l off n cap}:C.toD (.mrow l off n cap)=none:=rfl
@[simp] theorem Zf0:Zt []=some []:=rfl
@[simp] theorem Zdj{t:Nat}:isNilConst (.tmp t)=false:=rfl
@[simp] theorem Zcy{t:Nat}:isNilConst (.func t)=false:=rfl
@[simp] theorem Zdm{k n}:isNilConst (.const (.int k n))=false:=rfl
@[simp] theorem Zcz{b}:isNilConst (.const (.bool b))=false:=rfl
@[simp] theorem Zdk{s}:isNilConst (.const (.string s))=false:=rfl
@[simp] theorem Zdn{s}:isNilConst (.const (.agg s))=false:=rfl
@[simp] theorem Zdl:isNilConst (.const (.slice none 0 0))=true:=rfl
@[simp] theorem Zh2{h x}:C.toA h (.d x)=some (.d x):=rfl
@[simp] theorem Zg2{h l xs}:C.toA h (.own l xs)=some (.d (.sl xs)):=rfl
@[simp] theorem Zg3{h}:C.toA h .nil=some (.d (.sl [])):=rfl
@[simp] theorem Zh1{h}:C.toA h .z=some (.d (.sl [])):=rfl
@[simp] theorem Zf3{h l off n cap}:C.toA h (.mrow l off n cap)=none:=rfl
@[simp] theorem Zg4{h}:C.toA h .any=none:=rfl
@[simp] theorem Zg1{h l}:C.toA h (.ptr l 0)=match h.box l with
  |some cs=>(Zt cs).map A.rp
  |none=>none:=rfl
@[simp] theorem Zf2{h l k}:C.toA h (.ptr l (k+1))=none:=rfl
@[simp] theorem Zgj{h cs}:C.toA h (.rp cs)=some (.rp cs):=rfl
@[simp] theorem Zgk{h f caps}:C.toA h (.fn f caps)=(Vi h caps).map (A.fn f):=rfl
@[simp] theorem Zdd{cs}:Zl 0 cs=some []:=by simp[Zl]
@[simp] theorem Zde{n c cs}:Zl (n+1) (c::cs)=(Zl n cs).map (c::·):=by
 simp only[Zl,YN,Nat.add_le_add_iff_right,XU]
 split<;>rfl
@[simp] theorem Zcq{cs}:Zg cs 0 []=cs:=by simp[Zg]
@[simp] theorem Zch{c v cs vs}:Zg (c::cs) 0 (v::vs)=v::Zg cs 0 vs:=by simp[Zg]
@[simp] theorem Zci{c cs vs k}:Zg (c::cs) (k+1) vs=c::Zg cs k vs:=by simp only[Zg,XU,Yk,Nat.add_right_comm k 1,List.drop_succ_cons]
@[simp] theorem Zhp:BJ []=false:=rfl
@[simp] theorem Zho{a}:BJ [a]=false:=by cases a<;>rfl
@[simp] theorem Zhn{a b c l}:BJ (a::b::c::l)=false:=by cases a<;>cases b<;>rfl
@[simp] theorem Zhl{d}:BJ [.d d,.nil]=true:=rfl
@[simp] theorem Zhm{a d}:BJ [a,.d d]=false:=by cases a<;>rfl
@[simp] theorem Zga{a l xs}:BJ [a,.own l xs]=false:=by cases a<;>rfl
attribute [simp] Ce UC Hs Wg Vm ZW UX Ca V.cells Zt Cn Wk Wm I0 KD KC Cm Au UZ VL Dr HS.qM Ck Vi V.toA W1 RC.toC RV1.toV RV.toV RC.fr RV1.fr RV.fr We UU Zz ZL AX WW I9 UG BA Vu FC Uc Cg
@[simp] theorem Zfp{P c x y e h}:Zw P (.pick c x y) e h=match e.ev c with
  | .one (.d (.bool t))=>some (if t then e.ev x else e.ev y)
  |_=>none:=rfl
attribute [simp] Zw
theorem V8{P rs r e h vs}(hv:Zz P e h rs=some vs)(hr:BA h (λ_=>none) vs r):U7 P rs r e h:=by
 simp only[U7,hv];exact⟨λ_=>none,λ_ _ _ hj _=>(by cases hj),hr⟩
theorem Z96{P rs r e h vs}(o)(hv:Zz P e h rs=some vs)(hr:BA h (λj=>if j=0 then o else none) vs r):U7 P rs r e h:=by
 simp only[U7,hv];refine⟨λj=>if j=0 then o else none,λj j' l hj aa=>?_,hr⟩;by_cases h1:j=0;by_cases h2:j'=0;rw[h1,h2];simp[h2] at aa;simp[h1] at hj
theorem Uc.xA{h es c xs}(g:Zi h es c xs):∃o,∀aa:Nat->Option Z2,aa 0=o->Uc h aa c (.fresh 0 es xs):=by
 rcases g.1 with⟨h1,h2⟩|⟨l,h1,h2,_⟩;exact⟨none,λaa hr=>by simp only[Uc,hr];exact⟨h1,h2⟩⟩;exact⟨some l,λaa hr=>by simp only[Uc,hr];exact⟨h1,h2⟩⟩
theorem Z2q{P}{k es:Nat}{e h c xs}(hv:e.get k=.one c)(g:Zi h es c xs):U7 P [.tmp k] (.one (.fresh 0 es xs)) e h:=by obtain⟨o,ho⟩:=Uc.xA g;refine Z96 o (vs:=[.one c]) (by simp[hv]) ?_;simp only[BA,Vu];exact ho _ rfl
def U6(h:HS)(es:Nat)(v:V)(xs:List (List D)):Prop:=∃c,v=.one c/\Zi h es c xs
theorem U6.nil{h es}:U6 h es (.one .nil) []:=⟨_,rfl,Zi.nil⟩
theorem U6.app{h:HS}{es n l xs ys}(hl:l.1=h.ep)(hn:n=xs.length)(hy:∀y∈ys,y.length=es)(he:xs=ys):U6 ((h.qC l (some (n,es))).next) es (.one (.own l xs)) ys:=by subst he hn;exact⟨_,rfl,Zi.app hl hy⟩
theorem De{h c}:(C.qI h c).ep=h.ep:=by cases c<;>rfl
attribute [simp] De
theorem Aj{P}{k es:Nat}{e h}{xs:List (List D)}(g:U6 h es (e.get k) xs):U7 P [.tmp k] (.one (.fresh 0 es xs)) e h:=by obtain⟨c,hv,g⟩:=g;exact Z2q hv g
theorem Z8e{P}{k:Nat}{e h x c}(hv:e.get k=.one c)(hx:c.toD=some x):U7 P [.tmp k] (.one (.d x)) e h:=
 V8 (vs:=[.one c]) (by simp[hv]) (by simpa[BA,Vu] using hx)
theorem Z5f{h caps}:Vi h (caps.map Cap.rp)=some caps:=by
 induction caps with
 |nil=>rfl
 |cons x xs ih=>simp[Vi,Ck,ih]
attribute [simp] Z5f
end Go.Am
end
section
namespace Go.Am
section
variable{ρ α β σ:Type}
def Is(m:Option ρ)(r:ρ):Prop:=m=some r
def Z1(m:Option α)(K:α->Option ρ):Option ρ:=match m with
 |some x=>K x
 |none=>none
def Z7(xs:List α)(i:Int)(K:α->Option ρ):Option ρ:=if 0<=i then Z1 xs[i.toNat]? K else none
def Zp(b:Prop)[Decidable b](m:Option ρ):Option ρ:=if b then m else none
def W9(n:Int):Prop:=-9223372036854775808<=n/\n<=9223372036854775807
instance(n:Int):Decidable (W9 n):=inferInstanceAs (Decidable (_/\_))
def W0(xs ys:List α)(K:List α->Option ρ):Option ρ:=Zp (xs.length+ys.length<=Zs) (K (xs++ys))
def PM(s:ByteArray)(i:Int)(K:Int->Option ρ):Option ρ:=if 0<=i then(match s[i.toNat]? with
 |some b=>K b.toNat
 |none=>none) else none
def Zc(body:Nat->α->σ->(σ->Option ρ)->Option ρ)(k:σ->Option ρ):List α->Nat->σ->Option ρ
 |[],_,s=>k s
 |x::xs,i,s=>body i x s λs'=>Zc body k xs (i+1) s'
def WI(body:Nat->σ->(σ->Option ρ)->Option ρ)(k:σ->Option ρ):Nat->Nat->σ->Option ρ
 |0,_,s=>k s
 |n+1,i,s=>body i s λs'=>WI body k n (i+1) s'
def UA(body:σ->(σ->Option ρ)->Option ρ):Nat->σ->Option ρ
 |0,_=>none
 |n+1,s=>body s λs'=>UA body n s'
abbrev DH:Nat:=16777216
theorem Zh{v r:ρ}(h:Is (some v) r):v=r:=Option.some.inj h
theorem ZJ{a c:α}{b d:β}(h:Is (some (a,b)) (c,d)):a=c/\b=d:=Prod.mk.inj (Zh h)
theorem Is.bind{m}{K:α->Option ρ}{r}(h:Is (Z1 m K) r):∃x,Is m x/\Is (K x) r:=by
 unfold Z1 at h;cases m with
 |some x=>exact⟨x,rfl,h⟩
 |none=>cases h
theorem Is.get{xs}{i:Int}{K:α->Option ρ}{r}(h:Is (Z7 xs i K) r):∃x,0<=i/\xs[i.toNat]?=some x/\Is (K x) r:=by unfold Z7 at h;by_cases h0:0<=i;rw[if_pos h0] at h;obtain⟨x,hx,h⟩:=h.bind;exact⟨x,h0,hx,h⟩;rw[if_neg h0] at h;cases h
theorem Is.qG{xs}{i:Nat}{K:α->Option ρ}{r}(h:Is (Z7 xs i K) r):∃x,xs[i]?=some x/\Is (K x) r:=by obtain⟨x,_,hx,h⟩:=h.get;exact⟨x,by simpa using hx,h⟩
theorem Is.chk{b:Prop}[Decidable b]{m}{r:ρ}(h:Is (Zp b m) r):b/\Is m r:=by unfold Zp at h;by_cases hb:b;rw[if_pos hb] at h;exact⟨hb,h⟩;rw[if_neg hb] at h;cases h
theorem Kg{n:Int}(h:W9 n):IntKind.i64.wrap n=n:=Y5 _ ⟨h.1,h.2⟩
theorem Is.app{xs ys:List α}{K:List α->Option ρ}{r}(h:Is (W0 xs ys K) r):xs.length+ys.length<=Zs/\Is (K (xs++ys)) r:=Is.chk h
theorem Is.chr{s}{i:Int}{K}{r:ρ}(h:Is (PM s i K) r):∃b,0<=i/\s[i.toNat]?=some b/\Is (K b.toNat) r:=by
 unfold PM at h;by_cases h0:0<=i;rw[if_pos h0] at h;cases hs:s[i.toNat]? with
 |some b=>rw[hs] at h;exact⟨b,h0,rfl,h⟩
 |none=>rw[hs] at h;cases h
 rw[if_neg h0] at h;cases h
theorem Zy{b A B}{r:ρ}{f g}(hm:Is (cond b A B) r)(h1:b=true->Is A r->f ())(h2:b=false->Is B r->g true):BD (.one (.d (.bool b))) (p:=⟨f⟩) (q:=⟨g⟩):=by
 cases b with
 |true=>exact Aq (λ_=>h1 rfl hm) (λh=>by cases h)
 |false=>exact Aq (λh=>by cases h) (λ_=>h2 rfl hm)
theorem F7{b A B}{r:ρ}{f g}(hm:Is (cond b A B) r)(h1:b=true->Is A r->f ())(h2:b=false->Is B r->g true):UB (.one (.d (.bool b))) true (p:=⟨f⟩) (q:=⟨g⟩):=by
 cases b with
 |true=>simp;exact h1 rfl hm
 |false=>simp;exact h2 rfl hm
theorem H9{b A B}{r:ρ}{f g}(hm:Is (cond b A B) r)(h1:b=true->Is A r->g true)(h2:b=false->Is B r->f ()):UB (.one (.d (.bool b))) false (p:=⟨f⟩) (q:=⟨g⟩):=by
 cases b with
 |true=>simp;exact h1 rfl hm
 |false=>simp;exact h2 rfl hm
theorem VJ{P f vs av}{d:Nat}{e:Env}{h Kc}{er:α->RV}{m K}{r:ρ}(hm:Is (Z1 m K) r)(hs:∀v,Is m v->Zj P f av (er v))(has:W1 h vs=some av)
  (hk:∀v,Is m v->Is (K v) r->Kc (e.put (some d) ((er v).toV h.ep d)) ((h.qM d (er v).fr).next)):V4 P f [] vs d e h (K:=⟨Kc⟩):=by
 obtain⟨x,hx,hm⟩:=hm.bind;exact Zq (hs x hx) has (hk x hx hm)
theorem ON{P f vs av caps}{cs:List (List D)}{d:Nat}{e h Kc}{er:α->RV}{m K}{r:ρ}(hm:Is (Z1 m K) r)(hs:∀v,Is m v->Zj P f (av++We cs) (er v))(has:W1 h vs=some av)(aa:Vi h caps=some cs)
  (hk:∀v,Is m v->Is (K v) r->Kc (e.put (some d) ((er v).toV h.ep d)) ((h.qM d (er v).fr).next)):V4 P f caps vs d e h (K:=⟨Kc⟩):=by
 obtain⟨x,hx,hm⟩:=hm.bind;exact Z5g has aa (hs x hx) (hk x hx hm)
theorem AW{P ty el}{es ab d:Nat}{c x h Kc}{K:List α->Option ρ}{r enc xs ys}(hm:Is (W0 xs ys K) r)(ac:Zv P ty=some (el,es,ab))(hc:Zi h es c (xs.map enc))(hx:x.qE=some (ys.map enc))
  (h0:0<es)(hb:ab<=4096)(hy:∀y:α,(enc y).length=es)
  (hk:xs.length+ys.length<=Zs->Is (K (xs++ys)) r->Zi (((c.qI h).qC (h.ep,16*d) (some ((xs++ys).length,es))).next) es (.own (h.ep,16*d) ((xs++ys).map enc)) ((xs++ys).map enc)->
   Kc (.one (.own (h.ep,16*d) ((xs++ys).map enc))) (((c.qI h).qC (h.ep,16*d) (some ((xs++ys).length,es))).next)):Vv P ty c x d h (K:=⟨Kc⟩):=by
 obtain⟨hl,hm⟩:=hm.app;have hall:∀y∈(xs++ys).map enc,y.length=es:=by intro y aa;obtain⟨z,_,rfl⟩:=Yi.1 aa;exact hy z
 refine U3 ac hc hx h0 hb ?_ (by simpa using hl) ?_;intro y aa;obtain⟨z,_,rfl⟩:=Yi.1 aa;exact hy z;have e1:xs.map enc++ys.map enc=(xs++ys).map enc:=sI
 rw[e1];have g:Zi (((c.qI h).qC (h.ep,16*d) (some (((xs++ys).map enc).length,es))).next) es (.own (h.ep,16*d) ((xs++ys).map enc)) ((xs++ys).map enc):=
  Zi.own (by simp[HS.qC,HS.next]) (by show h.ep<(C.qI h c).ep+1;rw[De];omega) hall
 simp only[Yh] at g|-;exact hk hl hm g
def Zb[J:Hid (Env->HS->Prop)](e:Env)(h:HS):Prop:=J.out e h
theorem Zb.of{J e h}(hJ:J e h):Zb (J:=⟨J⟩) e h:=hJ
theorem Z4.cut{P}{id:Nat}{ops Q e h}(plan)(hm:P.follows .mixedOrders=true)
  (hB:WK .any ops plan ops.size (Array.replicate ops.size false)=true)(J)(h1:vcPlan P ops.toList (λe h=>Zb (J:=⟨J⟩) e h) plan e h)(h2:∀e h,J e h->Q .normal e h):
  Z4 P (c:=⟨.region id ops true⟩) (Q:=⟨Q⟩) e h:=by
 refine Wi.mono (Q:=λx e h=>match x with| .normal=>J e h|_=>False) (Wi.draw plan hm hB h1) ?_;intro x e h hq;cases x with
 |normal=>exact h2 e h hq
 |_=>exact hq.elim
def Ze{σ:Type}[I:Hid (σ->Env->HS->Prop)](e:Env)(h:HS):Prop:=∃s,I.out s e h
theorem Ze.of{σ:Type}{I e h}(s:σ)(hI:I s e h):Ze (I:=⟨I⟩) e h:=⟨s,hI⟩
def FD:Prop:=False
theorem Wi.rQ{P c Q e h}(I:Nat->Env->HS->Prop)(n:Nat)(h0:I n e h)
  (round:∀n e h,I n e h->Wi P c (V3 (λe' h'=>∃n',n'<n/\I n' e' h') Q) e h):Wi P (.loop c) Q e h:=by
 intro Γ a w μ hI hE;intro b k cs;have key:∀n e h a w μ,I n e h->Inv Γ h μ w->Zu μ e a->
   ∃ex a' w',(∃e' h' μ',Q ex e' h'/\Inv Γ h' μ' w'/\Zu μ' e' a'/\Mem.Le μ μ')/\Arrives P (lone (b.at a (.code c::.inLoop c::k)) cs w) b k cs ex a' w':=by
  intro n
  induction n using Nat.strongRecOn with|_ n ih=>?_
  intro e h a w μ hIn hI hE;obtain⟨ex,a₁,w₁,⟨e₁,h₁,μ₁,hq,ad,ac,ab⟩,aa⟩:=(round n e h hIn) Γ a w μ hI hE b (.inLoop c::k) cs;cases ex with
  |normal=>?_
  |exit id=>exact⟨_,a₁,w₁,⟨e₁,h₁,μ₁,hq,ad,ac,ab⟩,.pass rfl (λ_ _=>.inl sI) aa⟩
  |goto l=>exact⟨_,a₁,w₁,⟨e₁,h₁,μ₁,hq,ad,ac,ab⟩,.pass rfl (λ_ _=>.inl sI) aa⟩
  |ret=>exact⟨_,a₁,w₁,⟨e₁,h₁,μ₁,hq,ad,ac,ab⟩,.pass rfl (λ_ _=>.inl sI) aa⟩
  |panic ch=>exact⟨_,a₁,w₁,⟨e₁,h₁,μ₁,hq,ad,ac,ab⟩,.pass rfl (λ_ _=>.inl sI) aa⟩
  |outgrown=>exact⟨_,a₁,w₁,⟨e₁,h₁,μ₁,hq,ad,ac,ab⟩,.pass rfl (λ_ _=>.inl sI) aa⟩
  obtain⟨n',hlt,af⟩:=hq;obtain⟨e₂,a₂,w₂,⟨e₃,h₃,μ₃,q1,q2,q3,q4⟩,ae⟩:=ih n' hlt e₁ h₁ a₁ w₁ μ₁ af ad ac;exact⟨e₂,a₂,w₂,⟨e₃,h₃,μ₃,q1,q2,q3,ab.trans q4⟩,.of_steps (Steps.trans aa (.one step_inLoop)) ae⟩
 obtain⟨ex,a',w',hq,aa⟩:=key n e h a w μ h0 hI hE;exact⟨ex,a',w',hq,.of_steps (.one step_loop) aa⟩
theorem D4{N N' Q}(hN:∀e h,N e h->N' e h):∀x e h,V3 N Q x e h->V3 N' Q x e h
 | .normal,e,h,hq=>hN e h hq
 | .exit _,_,_,hq=>hq
 | .goto _,_,_,hq=>hq
 | .ret,_,_,hq=>hq
 | .panic _,_,_,hq=>hq
 | .outgrown,_,_,hq=>hq
theorem Z4.for{P c Q e h xs s0}{body:Nat->α->σ->(σ->Option ρ)->Option ρ}{k r}(R:Nat->σ->Env->HS->Prop)
  (hm:Is (Zc body k xs 0 s0) r)(h0:R 0 s0 e h)
  (round:∀i s e h,R i s e h->∀hlt:i<xs.length,Is (body i xs[i] s (λs'=>Zc body k (xs.drop (i+1)) (i+1) s')) r->
   vc P c (V3 (λe' h'=>Ze (I:=⟨λs' e h=>R (i+1) s' e h/\Is (Zc body k (xs.drop (i+1)) (i+1) s') r⟩) e' h') Q) e h)
  (fin:∀s e h,R xs.length s e h->Is (k s) r->vc P c (V3 (λ_ _=>FD) Q) e h):
  Z4 P (c:=⟨.loop c⟩) (Q:=⟨Q⟩) e h:=by
 refine Wi.rQ (λn e h=>∃i s,i<=xs.length/\n=xs.length-i/\R i s e h/\Is (Zc body k (xs.drop i) i s) r) xs.length ⟨0,s0,oM,oM,h0,by simpa using hm⟩ ?_;rintro n e h ⟨i,s,hi,rfl,hR,hm⟩;rcases YA i xs.length with hlt|hge;rw[Ys hlt] at hm;refine(VZ _ _ _ _ (round i s e h hR hlt hm)).mono (D4 ?_);rintro e' h' ⟨s',aa,ab⟩;exact⟨xs.length-(i+1),oM,i+1,s',oM,rfl,aa,ab⟩;obtain rfl:i=xs.length:=oM
 rw[YQ (Y7 _)] at hm;exact(VZ _ _ _ _ (fin s e h hR hm)).mono (D4 λ_ _ hf=>hf.elim)
theorem Z4.count{P c Q e h}{N:Int}{s0 body k}{r:ρ}(R:Nat->σ->Env->HS->Prop)
  (hm:Is (WI body k N.toNat 0 s0) r)(h0:R 0 s0 e h)
  (round:∀i s e h,R i s e h->(i:Int)<N->Is (body i s (λs'=>WI body k (N.toNat-(i+1)) (i+1) s')) r->
   vc P c (V3 (λe' h'=>Ze (I:=⟨λs' e h=>R (i+1) s' e h/\Is (WI body k (N.toNat-(i+1)) (i+1) s') r⟩) e' h') Q) e h)
  (fin:∀i s e h,R i s e h->¬(i:Int)<N->Is (k s) r->vc P c (V3 (λ_ _=>FD) Q) e h):
  Z4 P (c:=⟨.loop c⟩) (Q:=⟨Q⟩) e h:=by
 refine Wi.rQ (λn e h=>∃i s,i<=N.toNat/\n=N.toNat-i/\R i s e h/\Is (WI body k (N.toNat-i) i s) r) N.toNat ⟨0,s0,oM,oM,h0,by simpa using hm⟩ ?_;rintro n e h ⟨i,s,hi,rfl,hR,hm⟩;rcases YA i N.toNat with hlt|hge;obtain⟨j,hj⟩:∃j,N.toNat-i=j+1:=⟨N.toNat-i-1,oM⟩;rw[hj] at hm;have aa:j=N.toNat-(i+1):=oM
 subst aa;refine(VZ _ _ _ _ (round i s e h hR oM hm)).mono (D4 ?_);rintro e' h' ⟨s',ab,ac⟩;exact⟨N.toNat-(i+1),oM,i+1,s',oM,rfl,ab,ac⟩;obtain rfl:i=N.toNat:=oM;rw[Nat.sub_self] at hm;exact(VZ _ _ _ _ (fin N.toNat s e h hR oM hm)).mono (D4 λ_ _ hf=>hf.elim)
theorem Z4.jN{P c Q e h}{m:Nat}{s0 body}{r:ρ}(R:σ->Env->HS->Prop)
  (hm:Is (UA body m s0) r)(h0:R s0 e h)
  (round:∀n s e h,R s e h->Is (body s (λs'=>UA body n s')) r->
   vc P c (V3 (λe' h'=>Ze (I:=⟨λs' e h=>R s' e h/\Is (UA body n s') r⟩) e' h') Q) e h):
  Z4 P (c:=⟨.loop c⟩) (Q:=⟨Q⟩) e h:=by
 refine Wi.rQ (λn e h=>∃s,R s e h/\Is (UA body n s) r) m ⟨s0,h0,hm⟩ ?_;rintro n e h ⟨s,hR,hm⟩;cases n with
 |zero=>cases hm
 |succ n=>?_
 refine(VZ _ _ _ _ (round n s e h hR hm)).mono (D4 ?_);rintro e' h' ⟨s',aa,ab⟩;exact⟨n,oM,s',aa,ab⟩
end
def UY(es:Nat)(xs:List (List D)):Prop:=∀y∈xs,y.length=es
theorem Zi.qW{h}{es:Nat}{c xs}{a b:Nat}{x}(g:Zi h es c xs)(hk:h.ep<=a):Zi (h.qC (a,b) x) es c xs:=g.qC hk
theorem Z1p{es:Nat}:UY es []=True:=by simp[UY]
theorem TI{es:Nat}{y ys}:UY es (y::ys)=(y.length=es/\UY es ys):=by simp[UY]
theorem SR{es:Nat}{xs ys}:UY es (xs++ys)=(UY es xs/\UY es ys):=by
 simp only[UY,Y2,eq_iff_iff];exact⟨λh=>⟨λy hy=>h y (.inl hy),λy hy=>h y (.inr hy)⟩,λh y hy=>hy.elim (h.1 y) (h.2 y)⟩
theorem Z1q{α:Type}{f}{es:Nat}{xs:List α}(h:∀a,(f a).length=es):UY es (xs.map f)=True:=by refine eq_true ?_;intro y hy;obtain⟨a,_,rfl⟩:=Yi.1 hy;exact h a
theorem Z35{h}{es:Nat}{l xs ys}:Zi h es (.own l xs) ys=(xs=ys/\h.arr l=some (xs.length,es)/\l.1<h.ep/\UY es xs):=by
 apply propext;constructor;rintro⟨h1|⟨l',h1,h2,h3⟩,hy⟩;cases h1.1;injection h1 with e1 e2
 subst e1 e2;exact⟨rfl,h2,h3,hy⟩;rintro⟨rfl,h2,h3,hy⟩;exact Zi.own h2 h3 hy
def Ws(c c':C):Prop:=∀l xs ys,c=.own l xs->c'=.own l ys->False
theorem Ws.symm{c c'}(h:Ws c c'):Ws c' c:=λl xs ys h1 h2=>h l ys xs h2 h1
theorem NF{c}:Ws .nil c=True:=eq_true λ_ _ _ h _=>by cases h
theorem N4{c}:Ws c .nil=True:=eq_true λ_ _ _ _ h=>by cases h
theorem Z3b{l l' xs ys}:Ws (.own l xs) (.own l' ys)=(l≠l'):=by
 apply propext;constructor;rintro h rfl;exact h _ _ _ rfl rfl;intro h k _ _ h1 h2;injection h1 with a _
 injection h2 with b _
 exact h (a.trans b.symm)
theorem Zi.apart{h}{es:Nat}{c xs ys}(g:Zi h es c xs){l}(hl:h.ep<=l.1):Ws (.own l ys) c:=by
 intro k _ _ h1 h2;injection h1 with a _
 rcases g.1 with⟨h3,_⟩|⟨l',h3,_,h5⟩;rw[h3] at h2;cases h2;rw[h3] at h2;injection h2 with b _;rw[b,<-a] at h5;omega
theorem Zi.qH{h}{es:Nat}{c xs}(g:Zi h es c xs):∀h' l,h.ep<=l.1->(C.qI h' c).arr l=h'.arr l:=by
 intro h' l hl;rcases g.1 with⟨h3,_⟩|⟨l',h3,_,h5⟩;rw[h3];rfl;rw[h3]
 have:l≠l':=by rintro rfl;omega
 simp[C.qI,HS.qC,this]
theorem Zi.qI{h}{es:Nat}{c c' xs}(g:Zi h es c' xs)(ha:Ws c c'):Zi (C.qI h c) es c' xs:=by
 refine⟨?_,g.2⟩;rcases g.1 with h3|⟨l',h3,h4,h5⟩;exact .inl h3;refine .inr ⟨l',h3,?_,by rw[De];exact h5⟩;cases c with
 |own l ys=>?_
 |_=>exact h4
 have:l'≠l:=by rintro rfl;exact ha _ _ _ rfl h3
 simp[C.qI,HS.qC,this,h4]
theorem Zi.wX{h}{es:Nat}{c c' xs}(g:Zi h es c' xs)(ha:Ws c' c):Zi (C.qI h c) es c' xs:=g.qI ha.symm
theorem Z36{h}{es:Nat}{ys}:Zi h es .nil ys=(ys=[]):=by apply propext;constructor;rintro⟨h1|⟨l',h1,_,_⟩,_⟩;exact h1.2;cases h1;rintro rfl;exact Zi.nil
def HV(z:Option (TypeId×Nat×Nat))(x i:V):Option V:=
 match z with
 |some (_,n,_)=>match x,i with
   | .one c,.one (.d (.int _ k))=>match c.qE with
     |some xs=>if 0<=k then match xs[k.toNat]? with
       |some y=>if y.length=n/\0<n then some (.one (.rp y)) else none
       |none=>none
      else none
     |none=>match c with
       | .mrow l off m _=>if 0<=k/\k.toNat<m/\0<n then some (.one (.ptr l (off+k.toNat*n))) else none
       |_=>none
   |_,_=>none
 |none=>none
def FH(z:Option (TypeId×Nat×Nat))(ar:Option (Nat×Nat))(x i:V):Option V:=
 match z with
 |some z=>HV (some z) x i
 |none=>match ar with
   |some (len,n)=>match x,i with
     | .one (.ptr l off),.one (.d (.int _ k))=>if 0<=k/\k<len then some (.one (.ptr l (off+k.toNat*n))) else none
     |_,_=>none
   |none=>none
@[simp] theorem Zel{z ar x i}:FH (some z) ar x i=HV (some z) x i:=rfl
@[simp] theorem Zfl{len n off:Nat}{l kk}{k:Int}:FH none (some (len,n)) (.one (.ptr l off)) (.one (.d (.int kk k)))=if 0<=k/\k<len then some (.one (.ptr l (off+k.toNat*n))) else none:=rfl
@[simp high] theorem SM{P t x i e h}:Zw P (.indexAddr t x i) e h=FH (Zv P t) (DJ P t) (e.ev x) (e.ev i):=by
 simp only[Zw,FH,HV];cases Zv P t with
 |none=>rfl
 |some z=>?_
 obtain⟨a,n,b⟩:=z
 dsimp only
 generalize e.ev x=X;generalize e.ev i=I;cases X with
 |one c=>cases I with
   |one c'=>cases c' with
     |d y=>cases y with
       |int k j=>cases c with
         |d z=>cases z<;>rfl
         |_=>rfl
       |_=>cases c<;>rfl
     |_=>cases c<;>rfl
   |_=>cases c<;>rfl
 |_=>rfl
@[simp] theorem Zfk{a n b:Nat}{c k}{j:Int}:HV (some (a,n,b)) (.one c) (.one (.d (.int k j)))=match c.qE with
   |some xs=>if 0<=j then match xs[j.toNat]? with
     |some y=>if y.length=n/\0<n then some (.one (.rp y)) else none
     |none=>none
    else none
   |none=>match c with
     | .mrow l off m _=>if 0<=j/\j.toNat<m/\0<n then some (.one (.ptr l (off+j.toNat*n))) else none
     |_=>none:=rfl
def Rd(c:C)(xs:List (List D)):Prop:=c.qE=some xs/\c.toD=some (.sl xs)/\∀h,c.toA h=some (.d (.sl xs))
theorem Zi.rd{h}{es:Nat}{c xs}(g:Zi h es c xs):Rd c xs:=⟨g.list,g.toD,g.toA⟩
theorem Rd.d{xs}:Rd (.d (.sl xs)) xs:=⟨rfl,rfl,λ_=>rfl⟩
theorem Rd.own{l xs}:Rd (.own l xs) xs:=⟨rfl,rfl,λ_=>rfl⟩
theorem Rd.nil:Rd .nil []:=⟨rfl,rfl,λ_=>rfl⟩
theorem Z97{xs ys}:Rd (.d (.sl xs)) ys=(xs=ys):=by apply propext;constructor;intro h;exact Option.some.inj h.1;rintro rfl;exact Rd.d
attribute [simp] Z35 Z36 Z97 Zi.next Zi.qA Zi.qW Zi.qI Zi.wX Z1p TI SR Z1q NF N4 Z3b
theorem Z4.cu{P:Program}{id:Nat}{ops:Array Oper}{Q:Exit->Env->HS->Prop}{e:Env}{h:HS}(l:List Nat)(J:Env->HS->Prop)(h1:vcPlan P ops.toList (λe h=>Zb (J:=⟨J⟩) e h) (Plan.qB l .done) e h)(h2:∀e h,J e h->Q .normal e h)(hm:P.follows .mixedOrders=true:=by kernel_rfl)(hB:WK .any ops (Plan.qB l .done) ops.size (Array.replicate ops.size false)=true:=by kernel_rfl):Z4 P (c:=⟨.region id ops true⟩) (Q:=⟨Q⟩) e h:=.cut _ hm hB J h1 h2
end Go.Am
end
namespace Go.Am
section
def HW(rec:TypeId->Option (List Kd)):List Field->Nat->Option (List Kd)
 |[],_=>some []
 |f::fs,off=>if f.name≠ "_"/\f.offset=off then
     match rec f.type with
     |some ks=>match HW rec fs (off+ks.length) with
       |some r=>some (ks++r)
       |none=>none
     |none=>none
  else none
def Co(P:Program):Nat->TypeId->Option (List Kd)
 |0,_=>none
 |d+1,t=>match P.underlying t with
   |some (.int k)=>some [.int k]
   |some .bool=>some [.bool]
   |some .string=>some [.str]
   |some (.struct fs)=>if P.stoodInHeld t=true then none else
     match HW (Co P d) fs.toList 0 with
     |some ks=>match P.info? t with
       |some i=>if i.size=ks.length then some ks else none
       |none=>none
     |none=>none
   |_=>none
theorem Ex:∀{ks ls:List Kd} {vs:List Value},VM (ks++ls) vs->∃a b,vs=a++b/\VM ks a/\VM ls b/\a.length=ks.length
 |[],ls,vs,h=>⟨[],vs,rfl,trivial,h,rfl⟩
 |k::ks,ls,[],h=>by cases k<;>exact h.elim
 |k::ks,ls,v::vs,h=>by
   cases k with
   |int i=>?_
   |bool=>?_
   |str=>?_
   |other=>exact h.elim
   obtain⟨hv,h⟩:=h;obtain⟨a,b,rfl,h1,h2,h3⟩:=Ex (ks:=ks) (ls:=ls) h;exact⟨v::a,b,rfl,⟨hv,h1⟩,h2,by simp[h3]⟩;obtain⟨hv,h⟩:=h;obtain⟨a,b,rfl,h1,h2,h3⟩:=Ex (ks:=ks) (ls:=ls) h;exact⟨v::a,b,rfl,⟨hv,h1⟩,h2,by simp[h3]⟩;obtain⟨hv,h⟩:=h;obtain⟨a,b,rfl,h1,h2,h3⟩:=Ex (ks:=ks) (ls:=ls) h;exact⟨v::a,b,rfl,⟨hv,h1⟩,h2,by simp[h3]⟩
theorem Mb:∀{a b x y:List Value},a.length=x.length->VA (a++b) (x++y)=(VA a x&&VA b y)
 |[],b,[],y,_=>rfl
 |u::a,b,v::x,y,h=>by
   simp only[Yk,VA];rw[Mb (a:=a) (x:=x) (by simpa using h),Bool.and_assoc]
 |[],_,_::_,_,h=>by cases h
 |_::_,_,[],_,h=>by cases h
theorem GL:∀{ks:List Kd} {vs:List Value},VM ks vs->vs.length=ks.length
 |[],[],_=>rfl
 |[],_::_,h=>h.elim
 |k::ks,[],h=>by cases k<;>exact h.elim
 |k::ks,v::vs,h=>by
   cases k with
   |int i=>simp[GL h.2]
   |bool=>simp[GL h.2]
   |str=>simp[GL h.2]
   |other=>exact h.elim
def UE(P:Program)(t:TypeId)(vs:List Value)(v:Value):Prop:=
 match P.underlying t with
 |some d=>if Ub d=true then v=.agg vs.toArray else vs=[v]
 |none=>False
theorem MK{P:Program}{d:Nat}{t:TypeId}{ks:List Kd}(hk:Co P d t=some ks){cs a rest:List Value}{off:Nat}(hc:cs.drop off=a++rest)(ha:VM ks a)(w:World):
  ∃v,(part t cs.toArray off).run P w=.ok v w/\UE P t a v:=by
 have hlen:=GL ha;cases d with
 |zero=>cases hk
 |succ d=>?_
 unfold Co at hk;have leaf:∀k v,P.underlying t=some k->Ub k=false->a=[v]->∃u,(part t cs.toArray off).run P w=.ok u w/\UE P t a u:=by
  intro k v hu hg ab;subst ab;have aa:cs[off]?=some v:=by
   have:(cs.drop off)[0]?=some v:=by rw[hc];rfl
   simpa using this
  exact⟨v,by simp[part,Bj hu,hg,aa],by simp[UE,hu,hg]⟩
 split at hk;rename_i k hu;cases hk;obtain⟨v,rfl⟩:∃v,a=[v]:=by
  match a,hlen with
  |[v],_=>exact⟨v,rfl⟩
 exact leaf _ v hu rfl rfl;rename_i hu;cases hk;obtain⟨v,rfl⟩:∃v,a=[v]:=by
  match a,hlen with
  |[v],_=>exact⟨v,rfl⟩
 exact leaf _ v hu rfl rfl;rename_i hu;cases hk;obtain⟨v,rfl⟩:∃v,a=[v]:=by
  match a,hlen with
  |[v],_=>exact⟨v,rfl⟩
 exact leaf _ v hu rfl rfl;rename_i fs hu;split at hk;cases hk;split at hk;rename_i ad _;split at hk;rename_i i hi;split at hk;rename_i ac;cases hk;have hex:(cs.drop off).take i.size=a:=by rw[ac,<-hlen,hc];simp
 exact⟨.agg a.toArray,by simp[part,Bj hu,Ub,sizeOf,typeInfo,hi,hex],by simp[UE,hu,Ub]⟩;cases hk;cases hk;cases hk;cases hk
theorem NA{P:Program}:∀(d:Nat) (t:TypeId) (ks:List Kd),Co P d t=some ks->∀(D:Nat),d<=D->∀(vs us:List Value) (v u:Value) (w:World),VM ks vs->VM ks us->UE P t vs v->UE P t us u->
  (Op.equalIn D t v u).run P w=.ok (VA vs us) w
 |0,t,ks,hk=>by cases hk
 |d+1,t,ks,hk=>by
   intro D hD vs us v u w hv hu av au;obtain⟨D,rfl⟩:∃n,D=n+1:=⟨D-1,oM⟩;unfold Co at hk;split at hk;rename_i k aa;cases hk;simp only[UE,aa,Ub,YH,if_false] at av au;subst av au;obtain⟨⟨n,rfl⟩,_⟩:=hv;obtain⟨⟨m,rfl⟩,_⟩:=hu;rw[run_equalIn_int w D t k k n m aa];simp[VA,Dv];rename_i aa;cases hk;simp only[UE,aa,Ub,YH,if_false] at av au;subst av au;obtain⟨⟨n,rfl⟩,_⟩:=hv;obtain⟨⟨m,rfl⟩,_⟩:=hu;rw[run_equalIn_bool' w D t n m aa];simp[VA,Dv];rename_i aa;cases hk;simp only[UE,aa,Ub,YH,if_false] at av au;subst av au;obtain⟨⟨n,rfl⟩,_⟩:=hv;obtain⟨⟨m,rfl⟩,_⟩:=hu;rw[run_equalIn_string w D t n m aa,<-beq_toListBytes];simp[VA,Dv];rename_i fs aa;split at hk;cases hk;rename_i hst;split at hk;rename_i aj ag;split at hk;rename_i i hi;split at hk;cases hk;simp only[UE,aa,Ub,if_true] at av au;subst av au;have hf:P.fieldsOf t=fs:=by simp[Program.fieldsOf,aa]
   rw[run_equalIn_agg w D t _ _ (by rw[hf];exact aa) (by simpa using hst),hf];have key:∀(l:List Field) (off:Nat) (ls:List Kd) (a b:List Value),HW (Co P d) l off=some ls->vs.drop off=a->us.drop off=b->VM ls a->VM ls b->∀w,(Op.eqFields D vs.toArray us.toArray l).run P w=.ok (VA a b) w:=by
    intro l
    induction l with|nil=>?_|cons f l ih=>?_
    intro off ls a b hl ha hb sa sb w;cases hl;have ea:a=[]:=by cases a with|nil=>rfl|cons _ _=>exact sa.elim
    have eb:b=[]:=by cases b with|nil=>rfl|cons _ _=>exact sb.elim
    subst ea eb;simp[Op.eqFields,VA];intro off ls a b hl ha hb sa sb w;unfold HW at hl;split at hl;rename_i hc;split at hl;rename_i k1 ab;split at hl;rename_i r hr;cases hl;obtain⟨a1,a2,rfl,s1,s2,l1⟩:=Ex sa;obtain⟨b1,b2,rfl,t1,t2,m1⟩:=Ex sb;obtain⟨v1,ae,af⟩:=MK ab (cs:=vs) ha s1 w;obtain⟨u1,ad,ah⟩:=MK ab (cs:=us) hb t1 w;have he:=NA d f.type k1 ab D oM a1 b1 v1 u1 w s1 t1 af ah;have ac:=ih (off+k1.length) r a2 b2 hr (by rw[<-Xb,ha,<-l1];simp) (by rw[<-Xb,hb,<-m1];simp) s2 t2 w;rw[<-hc.2] at ae ad;simp only[Op.eqFields,hc.1,ne_eq,not_false_eq_true,if_true,Sem.run_bind,ae,ad,Result.andThen_ok,he];rw[Mb oM];cases hb1:VA a1 b1 with
    |true=>simpa using ac
    |false=>simp
    cases hl;cases hl;cases hl
   exact key fs.toList 0 _ vs us ag rfl rfl hv hu w;cases hk;cases hk;cases hk;cases hk
theorem KF{P:Program}{t:TypeId}{ks:List Kd}{fs:Array Field}(hu:P.underlying t=some (.struct fs))(hg:P.eqGuardType P.depth t=false)(hk:Co P 20 t=some ks):Cp P t ks:=by
 intro op vs us w x y ab hv aa;have he:=NA 20 t ks hk 10000 oM vs us (.agg vs.toArray) (.agg us.toArray) w hv aa (by simp[UE,hu,Ub]) (by simp[UE,hu,Ub]);simp only[Sem.run_bind,run_eqGuard_agg w op t x y _ _ hg,Result.andThen_ok];cases op with
 |eql=>rw[run_eql_struct,he];simp
 |neq=>rw[run_neq_struct,he];simp
 |_=>cases ab
theorem Z7j:ZV prog 3=some (false,1):=kR
theorem Z7g:ZP prog 3=some [.d (.int .i64 0)]:=kR
theorem Z7i:ZV prog 4=some (false,1):=kR
theorem Z7l:C9 prog 4=true:=kR
theorem Z7f:ZP prog 4=some [.d (.bool false)]:=kR
theorem Z7h:ZV prog 9=some (false,1):=kR
theorem Z7k:Zv prog 9=none:=kR
theorem Z6a:Wy prog 9=some true:=kR
theorem Z63:Dy prog 9=true:=kR
theorem Z6t:ZV prog 22=some (false,1):=kR
theorem Fe:Zv prog 22=some (116,3,64):=kR
theorem Z4c:Wy prog 22=some false:=kR
theorem Z6s:ZV prog 23=some (false,1):=kR
theorem Fc:Zv prog 23=some (132,3,56):=kR
theorem Z4b:Wy prog 23=some false:=kR
theorem Z6r:ZV prog 24=some (false,1):=kR
theorem C5:Zv prog 24=some (130,7,80):=kR
theorem Z4a:Wy prog 24=some false:=kR
theorem Z6q:ZV prog 26=some (true,3):=kR
theorem Z2g:ZB prog 26 0=some (0,false,1):=kR
theorem Z2f:ZB prog 26 1=some (1,false,1):=kR
theorem Z2e:ZB prog 26 2=some (2,false,1):=kR
theorem Z69:Vq prog 26=some [(0,1),(1,1),(2,1)]:=kR
theorem Z62:ZP prog 26=some [.nil,.nil,.nil]:=kR
theorem Z6p:ZV prog 27=some (false,1):=kR
theorem OF:Zv prog 27=some (138,2,32):=kR
theorem Z49:Wy prog 27=some false:=kR
theorem Z6o:ZV prog 29=some (true,4):=kR
theorem Z2d:ZB prog 29 0=some (0,true,3):=kR
theorem Z2c:ZB prog 29 1=some (3,false,1):=kR
theorem Z68:Vq prog 29=some [(0,3),(3,1)]:=kR
theorem Z61:ZP prog 29=some [.nil,.nil,.nil,.nil]:=kR
theorem Z6n:ZV prog 30=some (false,1):=kR
theorem Bu:Zv prog 30=some (65,1,24):=kR
theorem Z48:Wy prog 30=some false:=kR
theorem Z6m:ZV prog 31=some (false,1):=kR
theorem Hg:Zv prog 31=some (30,1,24):=kR
theorem Z47:Wy prog 31=some false:=kR
theorem Z6l:ZV prog 33=some (true,2):=kR
theorem Z2b:ZB prog 33 0=some (0,false,1):=kR
theorem Z2a:ZB prog 33 1=some (1,false,1):=kR
theorem Z67:Vq prog 33=some [(0,1),(1,1)]:=kR
theorem Z60:ZP prog 33=some [.nil,.nil]:=kR
theorem OE:Zv prog 34=some (43,2,32):=kR
theorem Z46:Wy prog 34=some false:=kR
theorem Kk:Zv prog 37=some (45,2,16):=kR
theorem Z45:Wy prog 37=some false:=kR
theorem Z6k:ZV prog 38=some (false,1):=kR
theorem Z5z:ZP prog 38=some [.d (.int .i64 0)]:=kR
theorem Z6j:ZV prog 41=some (false,1):=kR
theorem Dj:Zv prog 41=some (54,4,72):=kR
theorem Z44:Wy prog 41=some false:=kR
theorem Z6i:ZV prog 43=some (true,2):=kR
theorem Z29:ZB prog 43 0=some (0,false,1):=kR
theorem Z28:ZB prog 43 1=some (1,false,1):=kR
theorem Z5y:ZP prog 43=some [.d (.int .i64 0),.nil]:=kR
theorem Z6h:ZV prog 45=some (true,2):=kR
theorem Z27:ZB prog 45 1=some (1,false,1):=kR
theorem Z66:Vq prog 45=some [(0,1),(1,1)]:=kR
theorem Z5x:ZP prog 45=some [.d (.int .i64 0),.d (.int .i64 0)]:=kR
theorem Kj:Zv prog 51=some (127,3,32):=kR
theorem Z43:Wy prog 51=some false:=kR
theorem Fb:AD prog 51=true:=kR
theorem Z6g:ZV prog 52=some (false,1):=kR
theorem Wv:Zv prog 52=some (127,3,32):=kR
theorem Z42:Wy prog 52=some false:=kR
theorem Ki:ZP prog 52=some [.nil]:=kR
theorem Z6f:ZV prog 54=some (true,4):=kR
theorem Z26:ZB prog 54 0=some (0,false,1):=kR
theorem Z25:ZB prog 54 1=some (1,false,1):=kR
theorem Z24:ZB prog 54 2=some (2,false,1):=kR
theorem Z23:ZB prog 54 3=some (3,false,1):=kR
theorem Z65:Vq prog 54=some [(0,1),(1,1),(2,1),(3,1)]:=kR
theorem Z5w:ZP prog 54=some [.d (.int .i64 0),.d (.str empty),.nil,.nil]:=kR
theorem OD:Zv prog 64=some (87,2,40):=kR
theorem Z6e:ZV prog 65=some (false,1):=kR
theorem Bt:Zv prog 65=some (87,2,40):=kR
theorem Z41:Wy prog 65=some false:=kR
theorem Z5v:ZP prog 65=some [.nil]:=kR
theorem OC:Zv prog 71=some (41,1,24):=kR
theorem Z40:Wy prog 71=some false:=kR
theorem Z6d:ZV prog 74=some (false,1):=kR
theorem Bs:Zv prog 74=some (3,1,8):=kR
theorem Z3z:Wy prog 74=some false:=kR
theorem Z6c:ZV prog 85=some (false,1):=kR
theorem ZQ:Zv prog 85=some (52,1,24):=kR
theorem Z3y:Wy prog 85=some false:=kR
theorem Z5u:ZP prog 85=some [.nil]:=kR
theorem Z6b:ZV prog 87=some (true,2):=kR
theorem Z22:ZB prog 87 0=some (0,false,1):=kR
theorem Z21:ZB prog 87 1=some (1,false,1):=kR
theorem Z64:Vq prog 87=some [(0,1),(1,1)]:=kR
theorem Z5t:ZP prog 87=some [.d (.str empty),.nil]:=kR
theorem NV:Zv prog 102=some (38,1,8):=kR
theorem Z20:Wy prog 102=some false:=kR
theorem NU:Zv prog 105=some (26,3,72):=kR
theorem Z1z:Wy prog 105=some false:=kR
theorem Z4n:ZV prog 114=some (false,1):=kR
theorem BZ:Zv prog 114=some (125,3,32):=kR
theorem Z1y:Wy prog 114=some false:=kR
theorem Z4m:ZV prog 116=some (true,3):=kR
theorem Z0t:ZB prog 116 0=some (0,false,1):=kR
theorem Z0s:ZB prog 116 1=some (1,false,1):=kR
theorem Z0r:ZB prog 116 2=some (2,false,1):=kR
theorem Z3x:Vq prog 116=some [(0,1),(1,1),(2,1)]:=kR
theorem JL:ZP prog 116=some [.d (.str empty),.nil,.nil]:=kR
theorem Z4l:ZV prog 125=some (true,3):=kR
theorem Z0q:ZB prog 125 0=some (0,false,1):=kR
theorem Z0p:ZB prog 125 1=some (1,false,1):=kR
theorem Z0o:ZB prog 125 2=some (2,false,1):=kR
theorem Z3w:Vq prog 125=some [(0,1),(1,1),(2,1)]:=kR
theorem Z3p:ZP prog 125=some [.d (.str empty),.d (.int .i64 0),.d (.bool false)]:=kR
theorem Z4k:ZV prog 127=some (true,3):=kR
theorem Z0n:ZB prog 127 0=some (0,false,1):=kR
theorem Z0m:ZB prog 127 1=some (1,false,1):=kR
theorem Z0l:ZB prog 127 2=some (2,false,1):=kR
theorem Z3v:Vq prog 127=some [(0,1),(1,1),(2,1)]:=kR
theorem NM:ZP prog 127=some [.d (.int .i64 0),.d (.int .i64 0),.d (.str empty)]:=kR
theorem Z4j:ZV prog 130=some (true,7):=kR
theorem Z0k:ZB prog 130 0=some (0,false,1):=kR
theorem Z0j:ZB prog 130 1=some (1,false,1):=kR
theorem Z0i:ZB prog 130 2=some (2,false,1):=kR
theorem Z0h:ZB prog 130 3=some (3,false,1):=kR
theorem Z0g:ZB prog 130 4=some (4,true,3):=kR
theorem JK:ZP prog 130=some [.d (.str empty),.d (.int .i64 0),.d (.str empty),.d (.int .i64 0),.d (.int .i64 0),.d (.int .i64 0),.d (.str empty)]:=kR
theorem Z4i:ZV prog 132=some (true,3):=kR
theorem Z0f:ZB prog 132 0=some (0,false,1):=kR
theorem Z0e:ZB prog 132 1=some (1,false,1):=kR
theorem Z0d:ZB prog 132 2=some (2,false,1):=kR
theorem Z3u:Vq prog 132=some [(0,1),(1,1),(2,1)]:=kR
theorem JJ:ZP prog 132=some [.d (.str empty),.nil,.d (.str empty)]:=kR
theorem Z4h:ZV prog 134=some (true,24):=kR
theorem Z0c:ZB prog 134 0=some (0,false,1):=kR
theorem Z0b:ZB prog 134 1=some (1,false,1):=kR
theorem Z0a:ZB prog 134 2=some (2,false,1):=kR
theorem Z09:ZB prog 134 3=some (3,false,1):=kR
theorem Z08:ZB prog 134 4=some (4,false,1):=kR
theorem Z07:ZB prog 134 5=some (5,false,1):=kR
theorem Z06:ZB prog 134 6=some (6,false,1):=kR
theorem Z05:ZB prog 134 7=some (7,false,1):=kR
theorem Z04:ZB prog 134 8=some (8,true,3):=kR
theorem Z03:ZB prog 134 9=some (11,true,3):=kR
theorem Tu:ZB prog 134 10=some (14,true,7):=kR
theorem Tt:ZB prog 134 11=some (21,true,3):=kR
theorem Z3t:Vq prog 134=some [(0,1),(1,1),(2,1),(3,1),(4,1),(5,1),(6,1),(7,1),(8,3),(11,3),(14,7),(21,3)]:=kR
theorem Z3o:ZP prog 134=some [.d (.int .i64 0),.d (.str empty),.d (.str empty),.d (.str empty),.d (.str empty),.d (.int .i64 0),.nil,.d (.str empty),.d (.int .i64 0),.d (.int .i64 0),.d (.str empty),.d (.str empty),.nil,.nil,.d (.str empty),.d (.int .i64 0),.d (.str empty),.d (.int .i64 0),.d (.int .i64 0),.d (.int .i64 0),.d (.str empty),.d (.str empty),.nil,.d (.str empty)]:=kR
theorem NT:Zv prog 135=some (134,24,352):=kR
theorem Z4g:ZV prog 136=some (false,1):=kR
theorem NS:Zv prog 136=some (134,24,352):=kR
theorem Z1x:Wy prog 136=some false:=kR
theorem Z4f:ZV prog 138=some (true,2):=kR
theorem Z02:ZB prog 138 0=some (0,false,1):=kR
theorem Z01:ZB prog 138 1=some (1,false,1):=kR
theorem Z3s:Vq prog 138=some [(0,1),(1,1)]:=kR
theorem Z3n:ZP prog 138=some [.d (.int .i64 0),.nil]:=kR
theorem NP:Zv prog 151=some (4,1,1):=kR
theorem H8:Zv prog 187=some (191,2,16):=kR
theorem Z1w:Wy prog 187=some false:=kR
theorem Z4e:ZV prog 191=some (true,2):=kR
theorem Z00:ZB prog 191 0=some (0,false,1):=kR
theorem TZ:ZB prog 191 1=some (1,false,1):=kR
theorem Z3r:Vq prog 191=some [(0,1),(1,1)]:=kR
theorem Z3m:ZP prog 191=some [.d (.int .i64 0),.d (.bool false)]:=kR
theorem NO:Zv prog 214=some (5,1,1):=kR
theorem Z4d:ZV prog 223=some (false,1):=kR
theorem TY:ZB prog 225 0=some (0,true,24):=kR
theorem TX:ZB prog 225 1=some (24,false,1):=kR
theorem TW:ZB prog 225 2=some (25,true,3):=kR
theorem TV:ZB prog 225 3=some (28,true,3):=kR
theorem TU:ZB prog 225 4=some (31,true,3):=kR
theorem TT:ZB prog 225 5=some (34,false,1):=kR
theorem TS:ZB prog 225 6=some (35,false,1):=kR
theorem TR:ZB prog 225 7=some (36,false,1):=kR
theorem TQ:ZB prog 225 8=some (37,false,1):=kR
theorem TP:ZB prog 225 9=some (38,false,1):=kR
theorem Z3q:Vq prog 225=some [(0,24),(24,1),(25,3),(28,3),(31,3),(34,1),(35,1),(36,1),(37,1),(38,1)]:=kR
theorem Z3l:ZP prog 225=some [.d (.int .i64 0),.d (.str empty),.d (.str empty),.d (.str empty),.d (.str empty),.d (.int .i64 0),.nil,.d (.str empty),.d (.int .i64 0),.d (.int .i64 0),.d (.str empty),.d (.str empty),.nil,.nil,.d (.str empty),.d (.int .i64 0),.d (.str empty),.d (.int .i64 0),.d (.int .i64 0),.d (.int .i64 0),.d (.str empty),.d (.str empty),.nil,.d (.str empty),.d (.bool false),.nil,.nil,.nil,.nil,.nil,.nil,.nil,.nil,.nil,.nil,.nil,.nil,.nil,.d (.int .i64 0)]:=kR
theorem NN:Zv prog 283=some (9,1,16):=kR
theorem Z1v:Wy prog 283=some false:=kR
theorem Z4o:Zv prog 284=none:=kR
theorem Z4p:DJ prog 284=some (2,1):=kR
attribute [simp] Z7j Z7g Z7i Z7l Z7f Z7h Z7k Z6a Z63 Z6t Fe Z4c Z6s Fc Z4b Z6r C5 Z4a Z6q Z2g Z2f Z2e Z69 Z62 Z6p OF Z49 Z6o Z2d Z2c Z68 Z61 Z6n Bu Z48 Z6m Hg Z47 Z6l Z2b Z2a Z67 Z60 OE Z46 Kk Z45 Z6k Z5z Z6j Dj Z44 Z6i Z29 Z28 Z5y Z6h Z27 Z66 Z5x Kj Z43 Fb Z6g Wv Z42 Ki Z6f Z26 Z25 Z24 Z23 Z65 Z5w OD Z6e Bt Z41 Z5v OC Z40 Z6d Bs Z3z Z6c ZQ Z3y Z5u Z6b Z22 Z21 Z64 Z5t NV Z20 NU Z1z Z4n BZ Z1y Z4m Z0t Z0s Z0r Z3x JL Z4l Z0q Z0p Z0o Z3w Z3p Z4k Z0n Z0m Z0l Z3v NM Z4j Z0k Z0j Z0i Z0h Z0g JK Z4i Z0f Z0e Z0d Z3u JJ Z4h Z0c Z0b Z0a Z09 Z08 Z07 Z06 Z05 Z04 Z03 Tu Tt Z3t Z3o NT Z4g NS Z1x Z4f Z02 Z01 Z3s Z3n NP H8 Z1w Z4e Z00 TZ Z3r Z3m NO Z4d TY TX TW TV TU TT TS TR TQ TP Z3q Z3l NN Z1v Z4o Z4p
theorem follows:prog.follows .mixedOrders=true:=kR
structure GV where
 kind:Int
 int:Int
 text:ByteArray
def GV.enc(v:GV):List D:=[.int .i64 v.kind,.int .i64 v.int,.str v.text]
def GV.zero:GV:=⟨0,0,empty⟩
def Zd(n:Int):List D:=[.int .i64 n]
structure Col where
 name:ByteArray
 kind:Int
 nullable:Bool
def Col.enc(c:Col):List D:=[.str c.name,.int .i64 c.kind,.bool c.nullable]
structure Tbl where
 name:ByteArray
 cols:List Col
 pk:List Int
def Tbl.enc(t:Tbl):List D:=[.str t.name,.sl (t.cols.map Col.enc),.sl (t.pk.map Zd)]
structure Fk where
 table:ByteArray
 cols:List Int
 ref:ByteArray
def Fk.enc(k:Fk):List D:=[.str k.table,.sl (k.cols.map Zd),.str k.ref]
structure Cons where
 table:ByteArray
 left:Int
 op:ByteArray
 right:Int
 value:GV
def Cons.enc(c:Cons):List D:=[.str c.table,.int .i64 c.left,.str c.op,.int .i64 c.right,.int .i64 c.value.kind,.int .i64 c.value.int,.str c.value.text]
structure Sch where
 tables:List Tbl
 fks:List Fk
 cons:List Cons
def Sch.enc(s:Sch):List D:=[.sl (s.tables.map Tbl.enc),.sl (s.fks.map Fk.enc),.sl (s.cons.map Cons.enc)]
@[simp] theorem GV.jB{v:GV}:v.enc.length=3:=rfl
@[simp] theorem Zd1{v:Int}:(Zd v).length=1:=rfl
@[simp] theorem Col.jB{v:Col}:v.enc.length=3:=rfl
@[simp] theorem Tbl.jB{v:Tbl}:v.enc.length=3:=rfl
@[simp] theorem Fk.jB{v:Fk}:v.enc.length=3:=rfl
@[simp] theorem Cons.jB{v:Cons}:v.enc.length=7:=rfl
@[simp] theorem Sch.jB{v:Sch}:v.enc.length=3:=rfl
def HY(b:Bool):List D:=[.bool b]
def FI(b:ByteArray):List D:=[.str b]
def Z6{α:Type}(f:α->List D)(xs:List α):List D:=[.sl (xs.map f)]
structure Rel where
 table:ByteArray
 rows:List (List GV)
def Rel.enc(x:Rel):List D:=[.str x.table,.sl (x.rows.map (Z6 GV.enc))]
structure Chg where
 kind:Int
 table:ByteArray
 key:List GV
 row:List GV
def Chg.enc(x:Chg):List D:=[.int .i64 x.kind,.str x.table,.sl (x.key.map GV.enc),.sl (x.row.map GV.enc)]
structure Stp where
 kind:Int
 table:ByteArray
 other:ByteArray
 column:ByteArray
 newName:ByteArray
 type:Int
 cols:List Int
 op:ByteArray
 value:GV
 newTable:Tbl
 cons:Cons
 fk:Fk
def Stp.enc(x:Stp):List D:=[.int .i64 x.kind,.str x.table,.str x.other,.str x.column,.str x.newName,.int .i64 x.type,.sl (x.cols.map Zd),.str x.op,
 .int .i64 x.value.kind,.int .i64 x.value.int,.str x.value.text,.str x.newTable.name,.sl (x.newTable.cols.map Col.enc),.sl (x.newTable.pk.map Zd),
 .str x.cons.table,.int .i64 x.cons.left,.str x.cons.op,.int .i64 x.cons.right,.int .i64 x.cons.value.kind,.int .i64 x.cons.value.int,.str x.cons.value.text,
 .str x.fk.table,.sl (x.fk.cols.map Zd),.str x.fk.ref]
structure Edg where
 parent:Int
 script:List Stp
def Edg.enc(x:Edg):List D:=[.int .i64 x.parent,.sl (x.script.map Stp.enc)]
structure Gr where
 base:Sch
 edges:List Edg
def Gr.enc(x:Gr):List D:=[.sl (x.base.tables.map Tbl.enc),.sl (x.base.fks.map Fk.enc),.sl (x.base.cons.map Cons.enc),.sl (x.edges.map Edg.enc)]
structure Db where
 insts:List (List Rel)
 comps:List (List (List Rel))
def Db.enc(x:Db):List D:=[.sl (x.insts.map (Z6 Rel.enc)),.sl (x.comps.map (Z6 (Z6 Rel.enc)))]
structure Rule where
 user:ByteArray
 version:Int
 table:ByteArray
 cols:List Int
 preds:List Cons
 write:Bool
def Rule.enc(x:Rule):List D:=[.str x.user,.int .i64 x.version,.str x.table,.sl (x.cols.map Zd),.sl (x.preds.map Cons.enc),.bool x.write]
structure Hop where
 edge:Int
 back:Bool
def Hop.enc(x:Hop):List D:=[.int .i64 x.edge,.bool x.back]
structure Rej where
 version:Int
 err:Int
def Rej.enc(x:Rej):List D:=[.int .i64 x.version,.int .i64 x.err]
structure Wr where
 version:Int
 changes:List Chg
def Wr.enc(x:Wr):List D:=[.int .i64 x.version,.sl (x.changes.map Chg.enc)]
structure Mp where
 step:Stp
 fwd:Bool
 src:Sch
 dst:Sch
 cs:Sch
 inp:List Rel
 comp:List Rel
 out:List Rel
 nc:List Rel
 err:Int
def Mp.enc(m:Mp):List D:=m.step.enc++[.bool m.fwd,.sl (m.src.tables.map Tbl.enc),.sl (m.src.fks.map Fk.enc),.sl (m.src.cons.map Cons.enc),.sl (m.dst.tables.map Tbl.enc),.sl (m.dst.fks.map Fk.enc),.sl (m.dst.cons.map Cons.enc),
 .sl (m.cs.tables.map Tbl.enc),.sl (m.cs.fks.map Fk.enc),.sl (m.cs.cons.map Cons.enc),.sl (m.inp.map Rel.enc),.sl (m.comp.map Rel.enc)]
structure Txn where
 version:Int
 snapshot:List Rel
 tables:List ByteArray
 changes:List Chg
def Txn.enc(x:Txn):List D:=[.int .i64 x.version,.sl (x.snapshot.map Rel.enc),.sl (x.tables.map FI),.sl (x.changes.map Chg.enc)]
attribute [simp] Txn.enc Zd HY FI Z6 Hop.enc Rej.enc Wr.enc Mp.enc GV.enc Col.enc Tbl.enc Fk.enc Cons.enc Sch.enc Rel.enc Chg.enc Stp.enc Edg.enc Gr.enc Db.enc Rule.enc
@[simp] theorem Zfs:({data:=#[]}:ByteArray)=empty:=rfl
attribute [simp] Z1u
@[simp] theorem U4{n:Nat}:(n<=Zs)=(n<=2097152):=rfl
@[simp] theorem Zfm:Cp prog 127 [.int .i64,.int .i64,.str]:=KF (fs:=prog.fieldsOf 127) kR kR kR
@[simp] theorem Zeq:Cp prog 125 [.str,.int .i64,.bool]:=KF (fs:=prog.fieldsOf 125) kR kR kR
@[simp] theorem Zge:Cp prog 130 [.str,.int .i64,.str,.int .i64,.int .i64,.int .i64,.str]:=KF (fs:=prog.fieldsOf 130) kR kR kR
theorem Hz{P:Program}{f:FuncId}{xs:List (List D)}{rest:List AV}{r:RV}(hf:I7 P f)(h:xs.length<=Zs->Zj P f (.l xs::rest) r):Zj P f (.l xs::rest) r:=by
 refine⟨hf,λw m t vals hg hm ht aa=>?_⟩;obtain⟨u,_,hr⟩:=aa.2 0 _ rfl;have ab:RepD m (.sl xs) u:=hr;obtain⟨_,_,_,_,hl⟩:=ab.slice;exact(h hl).2 w m t vals hg hm ht aa
theorem Ro(a b:ByteArray)(w:World):
  Calls prog 143 #[.string a,.string b] w λe w'=>e=.returned (.int .i64 (Lib.compareBytes a.data.toList b.data.toList))/\w'=w:=by
 go_enter Tryz.func143,Tryz.ntmps143
 go_wp2
 rw[run_callFunc_extern Tryz.func163 kR kR kR (e:=Extern.BytealgCompare.compare) kR,Lib.run_compareString];simp only[Result.andThen];rw[Oper.upon_value]
 go_wp2
 go_ret
 exact⟨rfl,rfl⟩
def Cj(a b:ByteArray):Int:=Lib.compareBytes a.data.toList b.data.toList
theorem SO(a b:ByteArray):Zj prog 143 [.s a,.s b] (.i (Cj a b)):=by
 refine⟨⟨_,Tryz.func143,kR,kR⟩,λw m t vals ab hm ht aa=>?_⟩;obtain⟨hs,hg⟩:=aa;obtain⟨u0,h0,r0⟩:=hg 0 _ rfl;obtain⟨u1,h1,r1⟩:=hg 1 _ rfl;have e0:u0=.string a:=RepD.qR (m:=m) r0;have e1:u1=.string b:=RepD.qR (m:=m) r1;subst e0 e1;have hv:vals=#[.string a,.string b]:=by
  apply XB;intro i
  match i with
  |0=>simpa using h0
  |1=>simpa using h1
  |i+2=>rw[X3 (by simp at hs;omega)];simp
 subst hv;refine(Ro a b w).mono ?_;rintro e w' ⟨rfl,rfl⟩;exact⟨_,m,λ_=>(none,0),rfl,Wq.refl _,λ_ _ _ _ h=>h,hm,Go.RowKit.Below.refl _ _,RepD.int _ _,⟨λx hx=>by simp[RV.fr,RV1.fr,RC.fr] at hx,λx hx=>by simp[RV.fr,RV1.fr,RC.fr] at hx⟩⟩
theorem Sq(a b:ByteArray):Zj prog 135 [.s a,.s b] (.i (Cj a b)):=by refine Zj.qN Tryz.func135 rfl kR (n:=8) rfl rfl sI ?_;simp;refine Zq (SO a b) sI ?_;simp;exact Z8e (by simp;rfl) rfl
def CP(a b:ByteArray):Option Int:=some (Cj a b)
theorem RQ(a b:ByteArray)(r:Int)(hm:Is (CP a b) r):Zj prog 135 [.s a,.s b] (.i r):=by obtain rfl:=Zh hm;exact Sq a b
end
end Go.Am
section
namespace Go.Am
section
variable{ρ α β σ:Type}{Q:ρ->Prop}
def Wp(m:Option ρ)(Q:ρ->Prop):Prop:=∃r,m=some r/\Q r
theorem Wp.mono{m:Option ρ}{Q Q':ρ->Prop}(h:Wp m Q)(hq:∀r,m=some r->Q r->Q' r):Wp m Q':=by obtain⟨r,h1,h2⟩:=h;exact⟨r,h1,hq r h1 h2⟩
theorem Wp.ret{r:ρ}(h:Q r):Wp (some r) Q:=⟨r,rfl,h⟩
theorem Wp.bind{m:Option α}{K:α->Option ρ}{R:α->Prop}(h:Wp m R)(hk:∀x,m=some x->R x->Wp (K x) Q):Wp (Z1 m K) Q:=by obtain⟨x,h1,h2⟩:=h;unfold Z1;subst h1;exact hk x rfl h2
theorem Wp.cond{b:Bool}{A B:Option ρ}(h1:b=true->Wp A Q)(h2:b=false->Wp B Q):Wp (cond b A B) Q:=by
 cases b;exact h2 rfl;exact h1 rfl
theorem Wp.ite{b:Prop}[Decidable b]{A B:Option ρ}(h1:b->Wp A Q)(h2:¬b->Wp B Q):Wp (if b then A else B) Q:=by by_cases hb:b;rw[if_pos hb];exact h1 hb;rw[if_neg hb];exact h2 hb
theorem Wp.chk{b:Prop}[Decidable b]{m:Option ρ}(hb:b)(h:Wp m Q):Wp (Zp b m) Q:=by unfold Zp;rw[if_pos hb];exact h
theorem Wp.get{xs:List α}{i:Int}{K:α->Option ρ}(h0:0<=i)(h1:i<xs.length)(hk:∀x,xs[i.toNat]?=some x->x∈xs->Wp (K x) Q):Wp (Z7 xs i K) Q:=by have hl:i.toNat<xs.length:=oM;unfold Z7;rw[if_pos h0,Y1 hl];exact hk _ (Y1 hl) (Yf hl)
theorem Wp.qG{xs:List α}{i:Nat}{x:α}{K:α->Option ρ}(hx:xs[i]?=some x)(hk:Wp (K x) Q):Wp (Z7 xs (i:Int) K) Q:=by unfold Z7;rw[if_pos oM,show(i:Int).toNat=i by omega,hx];exact hk
theorem Wp.app{xs ys:List α}{K:List α->Option ρ}(h:xs.length+ys.length<=Zs)(hk:Wp (K (xs++ys)) Q):Wp (W0 xs ys K) Q:=Wp.chk h hk
theorem Wp.rW{body:Nat->α->σ->(σ->Option ρ)->Option ρ}{k:σ->Option ρ}(ys:List α)(I:Nat->σ->Prop)
  (step:∀i x s next,ys[i]?=some x->x∈ys->I i s->(∀s',I (i+1) s'->Wp (next s') Q)->Wp (body i x s next) Q)(fin:∀s,I ys.length s->Wp (k s) Q):
  ∀(n i:Nat) (s:σ),i+n=ys.length->I i s->Wp (Zc body k (ys.drop i) i s) Q
 |0,i,s,hn,h0=>by
   have hi:i=ys.length:=oM;subst hi;rw[List.drop_length];exact fin s h0
 |n+1,i,s,hn,h0=>by
   have hi:i<ys.length:=oM;rw[Ys hi];exact step i _ s _ (Y1 hi) (Yf hi) h0 λs' aa=>Wp.rW ys I step fin n (i+1) s' oM aa
theorem Wp.for{body:Nat->α->σ->(σ->Option ρ)->Option ρ}{k:σ->Option ρ}{xs:List α}{s0:σ}(I:Nat->σ->Prop)(h0:I 0 s0)
  (step:∀i x s next,xs[i]?=some x->x∈xs->I i s->(∀s',I (i+1) s'->Wp (next s') Q)->Wp (body i x s next) Q)(fin:∀s,I xs.length s->Wp (k s) Q):Wp (Zc body k xs 0 s0) Q:=by
 have:=Wp.rW xs I step fin xs.length 0 s0 oM h0
 rwa [Xx] at this
theorem Wp.rC{body:Nat->σ->(σ->Option ρ)->Option ρ}{k:σ->Option ρ}(N:Nat)(I:Nat->σ->Prop)
  (step:∀i s next,i<N->I i s->(∀s',I (i+1) s'->Wp (next s') Q)->Wp (body i s next) Q)(fin:∀s,I N s->Wp (k s) Q):
  ∀(n i:Nat) (s:σ),i+n=N->I i s->Wp (WI body k n i s) Q
 |0,i,s,hn,h0=>by
   have hi:i=N:=oM;subst hi;exact fin s h0
 |n+1,i,s,hn,h0=>step i s _ oM h0 λs' aa=>Wp.rC N I step fin n (i+1) s' oM aa
theorem Wp.count{body:Nat->σ->(σ->Option ρ)->Option ρ}{k:σ->Option ρ}{N:Nat}{s0:σ}(I:Nat->σ->Prop)(h0:I 0 s0)
  (step:∀i s next,i<N->I i s->(∀s',I (i+1) s'->Wp (next s') Q)->Wp (body i s next) Q)(fin:∀s,I N s->Wp (k s) Q):Wp (WI body k N 0 s0) Q:=
 Wp.rC N I step fin N 0 s0 oM h0
theorem Wp.jN{body:σ->(σ->Option ρ)->Option ρ}(I:σ->Prop)(μ:σ->Nat)
  (step:∀s next,I s->(∀s',I s'->μ s'<μ s->Wp (next s') Q)->Wp (body s next) Q):∀(n:Nat) (s:σ),I s->μ s<n->Wp (UA body n s) Q
 |0,s,_,h=>by omega
 |n+1,s,hs,h=>step s _ hs λs' aa hlt=>Wp.jN I μ step n s' aa (by omega)
def Kz(xs:List α)(f:α->Option Bool)(k:Int):Prop:=(k=-1/\∀x∈xs,f x=some false)\/∃(i:Nat) (x:α),k=i/\xs[i]?=some x/\f x=some true
theorem Kz.lt{xs:List α}{f:α->Option Bool}{k:Int}(h:Kz xs f k):-1<=k/\k<xs.length:=by
 rcases h with⟨rfl,_⟩|⟨i,x,rfl,hx,_⟩;omega
 have:=(Y0.1 hx).1
 omega
theorem Wp.index{xs:List α}{f:α->Option Bool}(hf:∀x∈xs,Wp (f x) λ_=>True):
  Wp (Zc (λ(i:Nat) (x:α) (s:Unit) next=>Z1 (f x) λv=>bif v then some (i:Int) else next ()) (λ_=>some (-1)) xs 0 ()) (Kz xs f):=by
 refine Wp.for (λi _=>∀(j:Nat) (x:α),j<i->xs[j]?=some x->f x=some false) (by intro j x h;omega) ?_ ?_
 .intro i x s next hx hm hI hn
  refine Wp.bind (hf x hm) λb hb _=>Wp.cond ?_ ?_;rintro rfl;exact Wp.ret (.inr ⟨i,x,rfl,hx,hb⟩);rintro rfl;refine hn () λj y hj hy=>?_;rcases YA j i with h1|h1;exact hI j y h1 hy;obtain rfl:j=i:=oM
  rw[hx] at hy;cases hy;exact hb
 intro s hI;refine Wp.ret (.inl ⟨rfl,λx hx=>?_⟩);obtain⟨j,hj,rfl⟩:=Yz hx;exact hI j _ hj (Y1 hj)
theorem Wp.cr{ρ:Type}{Q:ρ->Prop}{b:Bool}{r:ρ}{B:Option ρ}(h2:b=false->Wp B Q)(h1:Q r:=by simp):Wp (bif b then some r else B) Q:=.cond (λ_=>.ret h1) h2
end
end Go.Am
end
section
attribute [simp] Go.Am.Plan.qB Go.Am.vcPlan Go.Am.planOps Go.Am.isCallAt Go.Am.callKind
namespace Go.Am
@[simp↓high] theorem Zc2{P:Program}{e:Env}{h:HS}{K:Env->HS->Prop}{d:Option Nat}{t:TypeId}{p:String}{af:Array Edge}{g:Option (Nat×Bool)}{ty:Nat}{x i:Operand}:Z9 P {dst:=d,op:=.indexAddr ty x i,type:=t,pos:=p,after:=af,guard:=g} e h K=ZK (FH (Zv P ty) (DJ P ty) (e.ev x) (e.ev i)) (k:=⟨λv=>K (e.put d v) h⟩):=by rw[<-SM];exact Sn
@[simp] theorem Zcp{α β:Type}{f:α->β}{xs:List α}:List.take xs.length (xs.map f)=xs.map f:=Yr sI
@[simp] theorem Zdo{l}{o n c:Nat}:(C.mrow l o n c).qE=none:=rfl
@[simp] theorem Zhk{a:Nat}:a<=a+1+1:=oM
@[simp] theorem Zhc{a:Nat}:a<a+1+1:=oM
@[simp] theorem Zhj{a:Nat}:a<=a+1+1+1:=oM
@[simp] theorem Zhb{a:Nat}:a<a+1+1+1:=oM
@[simp] theorem Zhi{a:Nat}:a<=a+1+1+1+1:=oM
@[simp] theorem Zha{a:Nat}:a<a+1+1+1+1:=oM
@[simp] theorem Zhh{a:Nat}:a<=a+1+1+1+1+1:=oM
@[simp] theorem Zh9{a:Nat}:a<a+1+1+1+1+1:=oM
@[simp] theorem Zhg{a:Nat}:a<=a+1+1+1+1+1+1:=oM
@[simp] theorem Zh8{a:Nat}:a<a+1+1+1+1+1+1:=oM
@[simp] theorem Zhf{a:Nat}:a<=a+1+1+1+1+1+1+1:=oM
@[simp] theorem Zh7{a:Nat}:a<a+1+1+1+1+1+1+1:=oM
@[simp] theorem Zhe{a:Nat}:a<=a+1+1+1+1+1+1+1+1:=oM
@[simp] theorem Zh6{a:Nat}:a<a+1+1+1+1+1+1+1+1:=oM
@[simp] theorem Zhd{a:Nat}:a<=a+1+1+1+1+1+1+1+1+1:=oM
@[simp] theorem Zh5{a:Nat}:a<a+1+1+1+1+1+1+1+1+1:=oM
@[simp] theorem Zgp{a:Nat}:a<=a+1+1+1+1+1+1+1+1+1+1:=oM
@[simp] theorem Zgm{a:Nat}:a<a+1+1+1+1+1+1+1+1+1+1:=oM
section
variable{ρ α β γ σ:Type}
class Con(m:Option α)(P:Program)(f:FuncId)(av:outParam (List AV))(er:outParam (α->RV)):Prop where
 h:∀v,Is m v->Zj P f av (er v)
instance{m:Option α}{P:Program}{f:FuncId}{av:List AV}{er:α->RV}:CoeFun (Con m P f av er) (λ_=>∀v,Is m v->Zj P f av (er v)):=⟨λi=>i.h⟩
class ConF(m:α->Option β)(P:Program)(aenc:outParam (α->AV))(er:outParam (β->RV))(g:outParam FuncId)(caps:outParam (List (List D))):Prop where
 h:∀x v,Is (m x) v->Zj P g (aenc x::We caps) (er v)
class ConG(m:α->β->Option γ)(P:Program)(aenc:outParam (α->AV))(benc:outParam (β->AV))(er:outParam (γ->RV))(g:outParam FuncId)(caps:outParam (List (List D))):Prop where
 h:∀x y v,Is (m x y) v->Zj P g (aenc x::benc y::We caps) (er v)
theorem Pi{P f vs av}{d:Nat}{e h Kc er m}{K:α->Option ρ}{r}(hm:Is (Z1 m K) r)[i:Con m P f av er](has:W1 h vs=some av)
  (hk:∀v,Is (K v) r->Kc (e.put (some d) ((er v).toV h.ep d)) ((h.qM d (er v).fr).next)):V4 P f [] vs d e h (K:=⟨Kc⟩):=
 VJ hm i.h has λv _ hm=>hk v hm
theorem OT{P g vs aenc x caps cs}{d:Nat}{e h Kc er}{m:α->Option β}{K}{r:ρ}(hm:Is (Z1 (m x) K) r)[i:ConF m P aenc er g cs](has:W1 h vs=some [aenc x])(aa:Vi h caps=some cs)
  (hk:∀v,Is (K v) r->Kc (e.put (some d) ((er v).toV h.ep d)) ((h.qM d (er v).fr).next)):V4 P g caps vs d e h (K:=⟨Kc⟩):=
 ON hm (i.h x) has aa λv _ hm=>hk v hm
theorem OS{P g vs aenc benc x y caps cs}{d:Nat}{e h Kc er}{m:α->β->Option γ}{K}{r:ρ}(hm:Is (Z1 (m x y) K) r)[i:ConG m P aenc benc er g cs](has:W1 h vs=some [aenc x,benc y])(aa:Vi h caps=some cs)
  (hk:∀v,Is (K v) r->Kc (e.put (some d) ((er v).toV h.ep d)) ((h.qM d (er v).fr).next)):V4 P g caps vs d e h (K:=⟨Kc⟩):=
 ON hm (i.h x y) has aa λv _ hm=>hk v hm
theorem JT{α:Type}{c:Prop}[Decidable c]{v}{f:α->Prop}(h:c)(hk:f v):ZK (if c then some v else none) (k:=⟨f⟩):=by rw[if_pos h];exact hk
theorem Rd.cases{c xs}(h:Rd c xs):c=.d (.sl xs)\/(∃l,c=.own l xs)\/(c=.nil/\xs=[])\/(c=.z/\xs=[]):=by
 have h1:=h.1;cases c with
 |d x=>cases x<;>simp[C.qE] at h1;exact .inl (by rw[h1])
 |own l ys=>simp[C.qE] at h1;exact .inr (.inl ⟨l,by rw[h1]⟩)
 |nil=>simp[C.qE] at h1;exact .inr (.inr (.inl ⟨rfl,h1⟩))
 |z=>simp[C.qE] at h1;exact .inr (.inr (.inr ⟨rfl,h1⟩))
 |_=>simp[C.qE] at h1
def Vg:List Cap->List Z2
 |[]=>[]
 | .lab l::cs=>l::Vg cs
 |_::cs=>Vg cs
def Vn:V->List Z2
 | .one (.ptr l _)=>[l]
 | .one (.fn _ cs)=>Vg cs
 |_=>[]
@[simp] theorem Zeg{l}{o:Nat}:Vn (.one (.ptr l o))=[l]:=rfl
@[simp] theorem Zfh{f cs}:Vn (.one (.fn f cs))=Vg cs:=rfl
@[simp] theorem Zg9{x}:Vn (.one (.d x))=[]:=rfl
@[simp] theorem Zeh{l xs}:Vn (.one (.own l xs))=[]:=rfl
@[simp] theorem Zei:Vn (.one .nil)=[]:=rfl
@[simp] theorem Zg8:Vn (.one .z)=[]:=rfl
@[simp] theorem Zfg{ds}:Vn (.one (.rp ds))=[]:=rfl
@[simp] theorem Zej:Vn (.one .any)=[]:=rfl
@[simp] theorem Zdp{l}{o n c:Nat}:Vn (.one (.mrow l o n c))=[]:=rfl
@[simp] theorem Zek{cs}:Vn (.agg cs)=[]:=rfl
@[simp] theorem Zee{vs}:Vn (.tup vs)=[]:=rfl
@[simp] theorem Zef:Vn .top=[]:=rfl
@[simp] theorem Zd0:Vn .undef=[]:=rfl
theorem Rd.labs{c xs}(h:Rd c xs):Vn (.one c)=[]:=by rcases h.cases with rfl|⟨l,rfl⟩|⟨rfl,_⟩|⟨rfl,_⟩<;>rfl
inductive Car(σ:Type) where
 |d(t:Nat)(f:σ->D)
 |g(t n:Nat)(f:σ->List (List D))
 |r(t:Nat)(f:σ->List (List D))
def V5(e:Env)(h:HS)(s:σ):List C->List (Car σ)->Prop
 |_,[]=>True
 |p,.d t f::cs=>e.get t=.one (.d (f s))/\V5 e h s p cs
 |p,.g t n f::cs=>∃c,e.get t=.one c/\Zi h n c (f s)/\(∀c'∈p,Ws c' c)/\V5 e h s (c::p) cs
 |p,.r t f::cs=>∃c,e.get t=.one c/\Rd c (f s)/\V5 e h s p cs
def Vt(e:Env)(h:HS)(s:σ):List C->List (Car σ)->Prop
 |_,[]=>True
 |p,.d t f::cs=>e.get t=.one (.d (f s))/\Vt e h s p cs
 |p,.g t n f::cs=>∃c,e.get t=.one c/\Rd c (f s)/\Zi h n c (f s)/\c.qE=some (f s)/\c.toD=some (.sl (f s))/\(∀h,c.toA h=some (.d (.sl (f s))))/\(∀h' l,h.ep<=l.1->(C.qI h' c).arr l=h'.arr l)/\Vn (.one c)=[]/\(∀l ys,h.ep<=l.1->Ws (.own l ys) c/\Ws c (.own l ys))/\(∀c'∈p,Ws c' c)/\Vt e h s (c::p) cs
 |p,.r t f::cs=>∃c,e.get t=.one c/\Rd c (f s)/\c.qE=some (f s)/\c.toD=some (.sl (f s))/\(∀h,c.toA h=some (.d (.sl (f s))))/\Vn (.one c)=[]/\Vt e h s p cs
theorem V5.use{e h}{s:σ}:∀{cs:List (Car σ)} {p:List C},V5 e h s p cs->Vt e h s p cs
 |[],_,_=>trivial
 | .d _ _::_,_,h=>⟨h.1,h.2.use⟩
 | .g _ _ _::_,_,⟨c,h1,h2,h3,h4⟩=>⟨c,h1,h2.rd,h2,h2.list,h2.toD,h2.toA,h2.qH,h2.rd.labs,λ_ _ hl=>⟨h2.apart hl,(h2.apart hl).symm⟩,h3,h4.use⟩
 | .r _ _::_,_,⟨c,h1,h2,h4⟩=>⟨c,h1,h2,h2.1,h2.2.1,h2.2.2,h2.labs,h4.use⟩
def V6(e e':Env):List Nat->Prop
 |[]=>e'.n=e.n
 |t::ts=>e'.get t=e.get t/\V6 e e' ts
theorem VX{caps:List (List D)}:Vg (caps.map Cap.rp)=[]:=by
 induction caps with
 |nil=>rfl
 |cons _ _ ih=>exact ih
def Vc(p:Z2->Prop):List Z2->Prop
 |[]=>True
 |l::ls=>p l/\Vc p ls
theorem Vc.imp{p q}(h:∀l,p l->q l):∀{ls:List Z2},Vc p ls->Vc q ls
 |[],_=>trivial
 |l::_,a=>⟨h l a.1,a.2.imp h⟩
def UJ(e:Env)(h:HS):List Nat->Prop
 |[]=>True
 |t::ts=>Vc (λl=>l.1<h.ep) (Vn (e.get t))/\UJ e h ts
def VQ(e:Env)(h h':HS):List Nat->Prop
 |[]=>True
 |t::ts=>Vc (λl=>h'.box l=h.box l) (Vn (e.get t))/\VQ e h h' ts
theorem UJ.keep{e}{h h':HS}(hb:∀l:Z2,l.1<h.ep->h'.box l=h.box l):∀{ts:List Nat},UJ e h ts->VQ e h h' ts
 |[],_=>trivial
 |_::_,a=>⟨a.1.imp hb,a.2.keep hb⟩
def HF(h h':HS):Prop:=h.ep<=h'.ep/\∀l:Z2,l.1<h.ep->h'.box l=h.box l
theorem HF.refl{h}:HF h h:=⟨Y7 _,λ_ _=>rfl⟩
theorem HF.tr{h0 h1 h}(b:HF h1 h)(a:HF h0 h1):HF h0 h:=⟨Yv a.1 b.1,λl hl=>(b.2 l (Y3 hl a.1)).trans (a.2 l hl)⟩
theorem HF.next{h h'}(a:HF h h'):HF h h'.next:=⟨Nat.le_succ_of_le a.1,a.2⟩
theorem HF.qC{h h' l x}(a:HF h h'):HF h (h'.qC l x):=a
theorem HF.qI{h h' c}(a:HF h h'):HF h (C.qI h' c):=by cases c<;>exact a
theorem HF.qM{h}{d:Nat}:∀{x:List (Nat×Nat×Nat)} {h':HS},HF h h'->HF h (h'.qM d x)
 |[],_,a=>a
 |(j,es,n)::r,h',a=>HF.qM (x:=r) (h':=h'.qC (h'.ep,16*d+j+1) (some (n,es))) a
theorem HF.qA{h h' l cs}(a:HF h h')(hl:h.ep<=l.1):HF h (h'.qA l cs):=⟨a.1,λk hk=>by
 have:k≠l:=by rintro rfl;omega
 simp[HS.qA,this];exact a.2 k hk⟩
inductive LH(ctr:Nat)(keep:List Nat)(cars:List (Car σ)):Prop where
 |intro
def KS:Code->Nat
 | .seq a _=>KS a
 | .region _ ops _=>match ops.toList with
   |o::_=>match o.op with
     | .binOp _ _ (.tmp t) _ _=>t
     |_=>0
   |[]=>0
 |_=>0
def LR(keep:List Nat)(aa:List (Car σ))(e:Env)(h:HS)(s:σ)(e':Env)(h':HS):Prop:=V6 e e' keep/\HF h h'/\V5 e' h' s [] aa
theorem Z4.jP{P c Q e h xs s0}{body:Nat->α->σ->(σ->Option ρ)->Option ρ}{k r}{aa:Nat}{keep cars}(_:LH aa keep cars)
  (_:KS c=aa)(hm:Is (Zc body k xs 0 s0) r)(hl:xs.length<=Zs)(h1:e.get aa=.one (.d (.int .i64 0)))(h0:V5 e h s0 [] cars)(hB:UJ e h keep)
  (round:∀(i:Nat) s e' h',V6 e e' keep->e'.get aa=.one (.d (.int .i64 (i:Int)))->Vt e' h' s [] cars->VQ e h h' keep->HF h h'->h.ep<=h'.ep->(∀l:Z2,l.1<h.ep->h'.box l=h.box l)->i<xs.length->IntKind.i64.wrap ((i:Int)+1)=(i:Int)+1->∀hlt:i<xs.length,Is (body i xs[i] s (λs'=>Zc body k (xs.drop (i+1)) (i+1) s')) r->
   vc P c (V3 (λe' h'=>Ze (I:=⟨λs' e' h'=>(e'.get aa=.one (.d (.int .i64 ((i+1:Nat):Int)))/\LR keep cars e h s' e' h')/\Is (Zc body k (xs.drop (i+1)) (i+1) s') r⟩) e' h') Q) e' h')
  (fin:∀s e' h',V6 e e' keep->e'.get aa=.one (.d (.int .i64 (xs.length:Int)))->Vt e' h' s [] cars->VQ e h h' keep->HF h h'->h.ep<=h'.ep->(∀l:Z2,l.1<h.ep->h'.box l=h.box l)->Is (k s) r->vc P c (V3 (λ_ _=>FD) Q) e' h'):
  Z4 P (c:=⟨.loop c⟩) (Q:=⟨Q⟩) e h:=by
 have hk:∀ts,V6 e e ts:=by intro ts;induction ts with|nil=>rfl|cons t ts ih=>exact⟨rfl,ih⟩
 refine Z4.for (λi s e' h'=>e'.get aa=.one (.d (.int .i64 i))/\LR keep cars e h s e' h') hm ⟨h1,hk _,.refl,h0⟩ ?_ ?_;rintro i s e' h' ⟨hc,h2,h3,h4⟩ hlt hm;exact round i s e' h' h2 hc h4.use (hB.keep h3.2) h3 h3.1 h3.2 hlt (Y5 _ (by have hl':xs.length<=2097152:=hl;omega)) hlt hm;rintro s e' h' ⟨hc,h2,h3,h4⟩ hm;exact fin s e' h' h2 hc h4.use (hB.keep h3.2) h3 h3.1 h3.2 hm
theorem Z4.qY{P c Q e h}{N:Int}{s0 body k}{r:ρ}{aa:Nat}{keep cars}(_:LH aa keep cars)
  (_:KS c=aa)(hm:Is (WI body k N.toNat 0 s0) r)(h1:e.get aa=.one (.d (.int .i64 0)))(h0:V5 e h s0 [] cars)(hB:UJ e h keep)
  (round:∀(i:Nat) (s:σ) (e':Env) (h':HS),V6 e e' keep->e'.get aa=.one (.d (.int .i64 (i:Int)))->Vt e' h' s [] cars->VQ e h h' keep->HF h h'->h.ep<=h'.ep->(∀l:Z2,l.1<h.ep->h'.box l=h.box l)->(i:Int)<N->Is (body i s (λs'=>WI body k (N.toNat-(i+1)) (i+1) s')) r->
   vc P c (V3 (λe' h'=>Ze (I:=⟨λs' e' h'=>(e'.get aa=.one (.d (.int .i64 ((i+1:Nat):Int)))/\LR keep cars e h s' e' h')/\Is (WI body k (N.toNat-(i+1)) (i+1) s') r⟩) e' h') Q) e' h')
  (fin:∀(i:Nat) (s:σ) (e':Env) (h':HS),V6 e e' keep->e'.get aa=.one (.d (.int .i64 (i:Int)))->Vt e' h' s [] cars->VQ e h h' keep->HF h h'->h.ep<=h'.ep->(∀l:Z2,l.1<h.ep->h'.box l=h.box l)->¬(i:Int)<N->Is (k s) r->vc P c (V3 (λ_ _=>FD) Q) e' h'):
  Z4 P (c:=⟨.loop c⟩) (Q:=⟨Q⟩) e h:=by
 have hk:∀ts,V6 e e ts:=by intro ts;induction ts with|nil=>rfl|cons t ts ih=>exact⟨rfl,ih⟩
 refine Z4.count (λi s e' h'=>e'.get aa=.one (.d (.int .i64 (i:Int)))/\LR keep cars e h s e' h') hm ⟨h1,hk _,.refl,h0⟩ ?_ ?_;rintro i s e' h' ⟨hc,h2,h3,h4⟩ hlt hm;exact round i s e' h' h2 hc h4.use (hB.keep h3.2) h3 h3.1 h3.2 hlt hm;rintro i s e' h' ⟨hc,h2,h3,h4⟩ hge hm;exact fin i s e' h' h2 hc h4.use (hB.keep h3.2) h3 h3.1 h3.2 hge hm
theorem Z4.qZ{P c Q e h}{m:Nat}{s0 body}{r:ρ}{keep cars}(_:LH 0 keep cars)
  (hm:Is (UA body m s0) r)(h0:V5 e h s0 [] cars)(hB:UJ e h keep)
  (round:∀n (s:σ) e' h',V6 e e' keep->Vt e' h' s [] cars->VQ e h h' keep->HF h h'->h.ep<=h'.ep->(∀l:Z2,l.1<h.ep->h'.box l=h.box l)->Is (body s (λs'=>UA body n s')) r->
   vc P c (V3 (λe' h'=>Ze (I:=⟨λs' e' h'=>LR keep cars e h s' e' h'/\Is (UA body n s') r⟩) e' h') Q) e' h'):
  Z4 P (c:=⟨.loop c⟩) (Q:=⟨Q⟩) e h:=by
 have hk:∀ts,V6 e e ts:=by intro ts;induction ts with|nil=>rfl|cons t ts ih=>exact⟨rfl,ih⟩
 refine Z4.jN (λs e' h'=>LR keep cars e h s e' h') hm ⟨hk _,.refl,h0⟩ ?_;rintro n s e' h' ⟨h2,h3,h4⟩ hm;exact round n s e' h' h2 h4.use (hB.keep h3.2) h3 h3.1 h3.2 hm
theorem Ze.lr{A:σ->Env->HS->Prop}{G:σ->Prop}{s e' h'}(hm:G s)(hA:A s e' h'):Ze (I:=⟨λs e h=>A s e h/\G s⟩) e' h':=⟨s,hA,hm⟩
inductive PH(ids:List Nat)(p:Plan):Prop where
 |intro
theorem Z4.qX{P}{id:Nat}{ops Q e h ids plan}(_:PH ids plan)(_:id∈ids)(hB:WK .any ops plan ops.size (Array.replicate ops.size false)=true)(hm:P.follows .mixedOrders=true)
  (hv:vcPlan P ops.toList (Q .normal) plan e h):Z4 P (c:=⟨.region id ops true⟩) (Q:=⟨Q⟩) e h:=Z4.of (Wi.draw plan hm hB hv)
class ElT(P:Program)(ty:TypeId)(el es by_:outParam Nat):Prop where
 h:Zv P ty=some (el,es,by_)
class EncE(α:Type)(enc:outParam (α->List D))(n:outParam Nat):Prop where
 h:∀y,(enc y).length=n
theorem Pw{P:Program}{ty el:TypeId}{es aa d:Nat}{c x:C}{h:HS}{Kc:V->HS->Prop}{K:List α->Option ρ}{r:ρ}{enc:α->List D}{xs ys:List α}(hm:Is (W0 xs ys K) r)[i:ElT P ty el es aa][j:EncE α enc es](hc:Zi h es c (xs.map enc))(hx:x.qE=some (ys.map enc))
  (h0:0<es/\aa<=4096)
  (hk:xs.length+ys.length<=Zs->Is (K (xs++ys)) r->Zi (((c.qI h).qC (h.ep,16*d) (some ((xs++ys).length,es))).next) es (.own (h.ep,16*d) ((xs++ys).map enc)) ((xs++ys).map enc)->
   Kc (.one (.own (h.ep,16*d) ((xs++ys).map enc))) (((c.qI h).qC (h.ep,16*d) (some ((xs++ys).length,es))).next)):Vv P ty c x d h (K:=⟨Kc⟩):=
 AW hm i.h hc hx h0.1 h0.2 j.h hk
theorem KO{P rs r e h}(hm:ZK (Zz P e h rs) (k:=⟨λvs=>BA h (λ_=>none) vs r⟩)):U7 P rs r e h:=by
 cases hv:Zz P e h rs with
 |none=>rw[hv] at hm;exact hm.elim
 |some vs=>rw[hv] at hm;exact V8 hv hm
theorem go{m P f fn c av}{er:α->RV}{rs}(n:Nat)(hf:P.funcs[f]?=some fn)(hb:fn.body=some c:=by exact rfl)(aj:(fn.name== "runtime.NumGoroutine")=false:=by kernel_rfl)(hn:fn.ntmps=n:=by exact rfl)(ah:fn.results.toList=rs:=by exact rfl)(has:av.length<=n:=by simp)
  (hv:∀r,Is m r->vc P c (HP P rs (er r)) (BH n av) HS.init:=by
   intro r hm
   try simp(maxSteps:=1000000) [*]
   repeat' (first
    | (with_reducible have hq:=Zh hm
       obtain rfl:=hq
       first
       |(refine KO ?_;simp(maxSteps:=1000000) [*];done)
       |(refine Aj ?_;simp(maxDischargeDepth:=20) (maxSteps:=1000000) [*,U6];done)
       |(refine Aj ⟨_,?_,Zi.nil⟩;simp(maxSteps:=1000000) [*];done))
    |((with_reducible refine Zy hm ?_ ?_)<;>(clear hm;intro hc hm;try simp(maxSteps:=1000000) [*]))
    | (with_reducible have hq:=Is.bind hm
       clear hq;refine Pi hm ?_ ?_
       .simp(maxSteps:=1000000) [*];done
       clear hm;intro v hm;try simp(maxSteps:=1000000) [*])
    | (with_reducible intro hl
       try simp only[Yh] at hl
       try simp (maxSteps:=1000000) [*])
    | (with_reducible have hq:=Is.qG hm
       clear hm;obtain⟨x,hx,hm⟩:=hq
       try simp only[Yp,YJ,YY] at hx
       try simp (maxSteps:=1000000) [*])
    | (with_reducible have hq:=Is.get hm
       clear hm;obtain⟨x,h0,hx,hm⟩:=hq
       try simp at h0
       try simp at hx
       try simp (maxSteps:=1000000) [*])
    | (with_reducible have hq:=Is.app hm
       clear hq;refine Pw hm ?_ ?_ ?_ ?_
       .first
        | exact Zi.nil
        | (simp (maxDischargeDepth:=20) (maxSteps:=1000000) [*];done)
       .simp (maxSteps:=1000000) [*];done
       .decide
       clear hm;intro hl hm g;try simp (maxSteps:=1000000) [*])
    | (with_reducible have hq:=Is.chk hm
       clear hm;obtain⟨hw,hm⟩:=hq
       first
       | replace hw:=Kg hw
       | (obtain⟨ha,hb,hd⟩:=hw
          have he:=hb
          try simp at he
          have hf:=hd
          try simp at hf)
       | (have ak:=hw
          try simp at ak)
       try simp (maxSteps:=1000000) [*])
    | ((with_reducible refine F7 hm ?_ ?_)<;>(clear hm;intro hc hm;try simp (maxSteps:=1000000) [*]))
    | ((with_reducible refine H9 hm ?_ ?_)<;>(clear hm;intro hc hm;try simp (maxSteps:=1000000) [*]))
    | (with_reducible have hq:=Is.bind hm
       clear hq;refine OT hm ?_ ?_ ?_
       .simp (maxSteps:=1000000) [*];done
       .simp (maxSteps:=1000000) [*];done
       clear hm;intro v hm;try simp (maxSteps:=1000000) [*])
    | (with_reducible have hq:=Is.bind hm
       clear hq;refine OS hm ?_ ?_ ?_
       .simp (maxSteps:=1000000) [*];done
       .simp (maxSteps:=1000000) [*];done
       clear hm;intro v hm;try simp (maxSteps:=1000000) [*])
    | (with_reducible have hq:=Is.chr hm
       clear hm;obtain⟨y,h0,hx,hm⟩:=hq
       try simp (maxSteps:=1000000) [*])
    | (refine Ze.lr hm ⟨?_,?_,?_,?_⟩
       .simp (maxSteps:=1000000) [*];done
       .simp (maxSteps:=1000000) [V6, *];done
       .repeat' (first | with_reducible exact HF.refl | with_reducible refine HF.next ?_ | with_reducible refine HF.qC ?_ | with_reducible refine HF.qI ?_ | with_reducible refine HF.qM ?_ | with_reducible refine HF.qA ?_ ?_ | assumption | (apply HF.tr;assumption) | (simp (maxSteps:=1000000) [*];done) | (simp (maxSteps:=1000000) [*];omega))
       .simp (maxDischargeDepth:=20) (maxSteps:=1000000) [*,V5];done)
    | (refine Ze.lr hm ⟨?_,?_,?_⟩
       .simp (maxSteps:=1000000) [V6, *];done
       .repeat' (first | with_reducible exact HF.refl | with_reducible refine HF.next ?_ | with_reducible refine HF.qC ?_ | with_reducible refine HF.qI ?_ | with_reducible refine HF.qM ?_ | with_reducible refine HF.qA ?_ ?_ | assumption | (apply HF.tr;assumption) | (simp (maxSteps:=1000000) [*];done) | (simp (maxSteps:=1000000) [*];omega))
       .simp (maxDischargeDepth:=20) (maxSteps:=1000000) [*,V5];done)
    | ((first | refine Z4.jP l1 rfl hm ?_ ?_ ?_ ?_ ?_ ?_ | refine Z4.jP l2 rfl hm ?_ ?_ ?_ ?_ ?_ ?_ | refine Z4.jP l3 rfl hm ?_ ?_ ?_ ?_ ?_ ?_ | refine Z4.jP l4 rfl hm ?_ ?_ ?_ ?_ ?_ ?_ | refine Z4.jP l5 rfl hm ?_ ?_ ?_ ?_ ?_ ?_ | refine Z4.jP l6 rfl hm ?_ ?_ ?_ ?_ ?_ ?_)
       .first | assumption | omega | (simp at *;omega)
       .simp (maxSteps:=1000000) [*];done
       .first | (simp only[V5];exact⟨.nil,by simp,Zi.nil,by simp,trivial⟩) | (simp (maxDischargeDepth:=20) (maxSteps:=1000000) [*,V5];done)
       .simp (maxSteps:=1000000) [UJ,Vc,VX,Vg, *]<;>omega
       all_goals first
        | (skip
           clear hm
           with_reducible intro i s e h hk ag aa ad af ac ae al hw hlt hm
           try simp only[Vt] at aa
           repeat obtain⟨_,aa⟩:=aa
           try simp only[V6] at hk
           try simp (maxSteps:=1000000) [*] at hk
           have ab:=ac
           try simp at ab
           try simp (maxSteps:=1000000) [VQ,Vc,VX,Vg, *] at ad
           try simp (maxSteps:=1000000) [*])
        | (skip
           clear hm
           with_reducible intro s e h hk ag aa ad af ac ae hm
           try simp only[Vt] at aa
           repeat obtain⟨_,aa⟩:=aa
           try simp only[V6] at hk
           try simp (maxSteps:=1000000) [*] at hk
           have ab:=ac
           try simp at ab
           try simp (maxSteps:=1000000) [VQ,Vc,VX,Vg, *] at ad
           try simp (maxSteps:=1000000) [*]))
    | ((first | refine Z4.qY l1 rfl hm ?_ ?_ ?_ ?_ ?_ | refine Z4.qY l2 rfl hm ?_ ?_ ?_ ?_ ?_ | refine Z4.qY l3 rfl hm ?_ ?_ ?_ ?_ ?_ | refine Z4.qY l4 rfl hm ?_ ?_ ?_ ?_ ?_ | refine Z4.qY l5 rfl hm ?_ ?_ ?_ ?_ ?_ | refine Z4.qY l6 rfl hm ?_ ?_ ?_ ?_ ?_)
       .simp (maxSteps:=1000000) [*];done
       .simp (maxDischargeDepth:=20) (maxSteps:=1000000) [*,V5];done
       .simp (maxSteps:=1000000) [UJ,Vc,VX,Vg, *]<;>omega
       all_goals
         clear hm
         with_reducible intro i s e h hk ag aa ad af ac ae hlt hm
         try simp only[Vt] at aa
         repeat obtain⟨_,aa⟩:=aa
         try simp only[V6] at hk
         try simp (maxSteps:=1000000) [*] at hk
         have ab:=ac
         try simp at ab
         try simp (maxSteps:=1000000) [VQ,Vc,VX,Vg, *] at ad
         try simp (maxSteps:=1000000) [*]
         first
         | (have hq:(i:Int) < _:=hlt
            refine WR (λ_=>?_) (λhn=>absurd ?_ hn);rotate_left
            .first | omega | (simp at hlt |-;omega) | (simp at hlt |-;split at hlt<;>split<;>omega)
            simp (maxSteps:=1000000) [*])
         | (have hq:¬ (i:Int) < _:=hlt
            refine WR (λhn=>absurd hn ?_) (λ_=>?_)
            .first | omega | (intro hn;simp at hlt hn;omega) | (intro hn;simp at hlt hn;split at hlt<;>split at hn<;>omega)
            simp (maxSteps:=1000000) [*])
         | skip)
    | ((first | refine Z4.qZ l1 hm ?_ ?_ ?_ | refine Z4.qZ l2 hm ?_ ?_ ?_ | refine Z4.qZ l3 hm ?_ ?_ ?_ | refine Z4.qZ l4 hm ?_ ?_ ?_ | refine Z4.qZ l5 hm ?_ ?_ ?_ | refine Z4.qZ l6 hm ?_ ?_ ?_)
       .simp (maxDischargeDepth:=20) (maxSteps:=1000000) [*,V5];done
       .simp (maxSteps:=1000000) [UJ,Vc,VX,Vg, *]<;>omega
       clear hm
       with_reducible intro n s e h hk aa ad af ac ae hm
       try simp only[Vt] at aa
       repeat obtain⟨_,aa⟩:=aa
       try simp only[V6] at hk
       try simp (maxSteps:=1000000) [*] at hk
       have ab:=ac
       try simp at ab
       try simp (maxSteps:=1000000) [VQ,Vc,VX,Vg, *] at ad
       try simp (maxSteps:=1000000) [*])
    | (first
       | (refine Z4.qX p1 ?_ (by kernel_rfl) follows ?_
          .decide)
       | (refine Z4.qX p2 ?_ (by kernel_rfl) follows ?_
          .decide)
       | (refine Z4.qX p3 ?_ (by kernel_rfl) follows ?_
          .decide)
       | (refine Z4.qX p4 ?_ (by kernel_rfl) follows ?_
          .decide)
       | (refine Z4.qX p5 ?_ (by kernel_rfl) follows ?_
          .decide)
       | (refine Z4.qX p6 ?_ (by kernel_rfl) follows ?_
          .decide)
       | (refine Z4.qX p7 ?_ (by kernel_rfl) follows ?_
          .decide)
       | (refine Z4.qX p8 ?_ (by kernel_rfl) follows ?_
          .decide)
       try simp (maxSteps:=1000000) [*])
    | (refine⟨λ_ _ hl=>hl,?_⟩;try simp (maxSteps:=1000000) [*])
    | (refine And.intro ?_ ?_<;>try simp (maxSteps:=1000000) [*])
    | (refine D6 (by simp) ?_;try simp (maxSteps:=1000000) [*])
    | (refine As (by assumption) (λhl=>?_);try simp only[Yh] at hl
       try simp (maxSteps:=1000000) [*])
    | (refine JT ?_ ?_
       .omega
       try simp (maxSteps:=1000000) [*])
    | (rcases Rd.cases (by assumption) with hz | ⟨l,hz⟩ | ⟨hz,hy⟩ | ⟨hz,hy⟩
       all_goals
        subst hz
        first
        | (simp_all;done)
        | (try simp (maxSteps:=1000000) [*])))):Con m P f av er:=
 ⟨λr hm=>Zj.qN hf hb aj hn ah has (hv r hm)⟩
end
end Go.Am
end
namespace Go.Am
section
instance:ElT prog 22 116 3 64:=⟨Fe⟩
instance:ElT prog 23 132 3 56:=⟨Fc⟩
instance:ElT prog 24 130 7 80:=⟨C5⟩
instance:ElT prog 27 138 2 32:=⟨OF⟩
instance:ElT prog 30 65 1 24:=⟨Bu⟩
instance:ElT prog 31 30 1 24:=⟨Hg⟩
instance:ElT prog 34 43 2 32:=⟨OE⟩
instance:ElT prog 37 45 2 16:=⟨Kk⟩
instance:ElT prog 41 54 4 72:=⟨Dj⟩
instance:ElT prog 51 127 3 32:=⟨Kj⟩
instance:ElT prog 52 127 3 32:=⟨Wv⟩
instance:ElT prog 64 87 2 40:=⟨OD⟩
instance:ElT prog 65 87 2 40:=⟨Bt⟩
instance:ElT prog 71 41 1 24:=⟨OC⟩
instance:ElT prog 74 3 1 8:=⟨Bs⟩
instance:ElT prog 85 52 1 24:=⟨ZQ⟩
instance:ElT prog 102 38 1 8:=⟨NV⟩
instance:ElT prog 105 26 3 72:=⟨NU⟩
instance:ElT prog 114 125 3 32:=⟨BZ⟩
instance:ElT prog 135 134 24 352:=⟨NT⟩
instance:ElT prog 136 134 24 352:=⟨NS⟩
instance:ElT prog 151 4 1 1:=⟨NP⟩
instance:ElT prog 187 191 2 16:=⟨H8⟩
instance:ElT prog 214 5 1 1:=⟨NO⟩
instance:ElT prog 283 9 1 16:=⟨NN⟩
instance:EncE Int Zd 1:=⟨λ_=>rfl⟩
instance:EncE Bool HY 1:=⟨λ_=>rfl⟩
instance:EncE ByteArray FI 1:=⟨λ_=>rfl⟩
instance{α:Type}{f:α->List D}{n:Nat}[EncE α f n]:EncE (List α) (Z6 f) 1:=⟨λ_=>rfl⟩
instance:EncE Sch Sch.enc 3:=⟨λ_=>rfl⟩
instance:EncE Gr Gr.enc 4:=⟨λ_=>rfl⟩
instance:EncE Db Db.enc 2:=⟨λ_=>rfl⟩
instance:EncE Wr Wr.enc 2:=⟨λ_=>rfl⟩
instance:EncE Rej Rej.enc 2:=⟨λ_=>rfl⟩
instance:EncE Chg Chg.enc 4:=⟨λ_=>rfl⟩
instance:EncE Rel Rel.enc 2:=⟨λ_=>rfl⟩
instance:EncE Tbl Tbl.enc 3:=⟨λ_=>rfl⟩
instance:EncE Col Col.enc 3:=⟨λ_=>rfl⟩
instance:EncE GV GV.enc 3:=⟨λ_=>rfl⟩
instance:EncE Cons Cons.enc 7:=⟨λ_=>rfl⟩
instance:EncE Fk Fk.enc 3:=⟨λ_=>rfl⟩
instance:EncE Stp Stp.enc 24:=⟨λ_=>rfl⟩
instance:EncE Edg Edg.enc 2:=⟨λ_=>rfl⟩
instance:EncE Hop Hop.enc 2:=⟨λ_=>rfl⟩
end
section
open Go.RowKit
def Ap(c:UInt8):Bool:=(decide (97≤c.toNat)&&decide (c.toNat≤122))||(decide (48≤c.toNat)&&decide (c.toNat≤57))
def Ux(s:ByteArray):Bool:=decide (1≤s.size)&&decide (s.size≤12)&&!(decide (48≤(s.data.toList.headD 0).toNat)&&decide ((s.data.toList.headD 0).toNat≤57))&&s.data.toList.all Ap
theorem TH(w:World)(e:TypeId)(s:ByteArray):Below w.heap.size w (Lib.bytesWorld w e s):=by
  have h1:(Lib.bytesWorld w e s).heap.size=w.heap.size+1:=Lib.bytesWorld_size w e s
  refine⟨?_,?_,?_,by omega,λk hk=>Lib.bytesWorld_at_old w e s k hk⟩<;>simp[Lib.bytesWorld,World.freeze,World.alloc,World.drew,-World.alloc_eq,-World.drew_eq]
theorem Z3d{s:ByteArray}{k:Nat}(hk:k<s.size)(hf:Ap s[k]=false):s.data.toList.all Ap=false:=by
  rw[List.all_eq_false]
  exact⟨s[k],by obtain⟨⟨l⟩⟩:=s;exact Yf hk,by simpa using hf⟩
theorem Z5k{s:ByteArray}(h:∀k (hk:k<s.size),Ap s[k]=true):s.data.toList.all Ap=true:=by
  rw[YW]
  intro x hx
  obtain⟨⟨l⟩⟩:=s
  obtain⟨k,hk,rfl⟩:=Yz hx
  exact h k hk
set_option maxRecDepth 100000 in
set_option maxHeartbeats 1000000 in
theorem Si(s:ByteArray)(w:World):Calls prog 114 #[.string s] w λe w'=>e= .returned (.bool (Ux s))∧Below w.heap.size w w':=by
  have U9:prog.underlying 9=some .string:=by kernel_rfl
  have U193:prog.underlying 214=some (.slice 5):=by kernel_rfl
  have U5:prog.underlying 5=some (.int .u8):=by kernel_rfl
  have kc:∀w:World,(convert 9 214 (.string s)).run prog w= .ok (.slice (some ⟨w.heap.size,0,none⟩) s.size (grownCap w s.size 0 5)) (Lib.bytesWorld w 5 s):=λw=>Lib.run_convert_string_bytes w 9 214 5 s U9 U193 U5
  by_cases h1:(s.size:Int)<1
  · have hv:Ux s=false:=by simp[Ux];omega
    rw[hv]
    go_enter Tryz.func114,Tryz.ntmps114
    go_wp2
    go_ret
    exact⟨rfl,Below.refl _ _⟩
  by_cases h2:12<(s.size:Int)
  · have hv : Ux s = false := by simp [Ux]; omega
    rw [hv]
    go_enter Tryz.func114, Tryz.ntmps114
    go_wp2
    go_ret
    exact ⟨rfl, Below.refl _ _⟩
  have hlt : 0 < s.size := by omega
  have hb : Below w.heap.size w (Lib.bytesWorld w 5 s) := TH w 5 s
  have hcells : ∀ k (hk : k < s.size), (Lib.bytesWorld w 5 s).cell? ⟨w.heap.size, k, none⟩ = some (.int .u8 s[k].toNat) := λk hk => by
    rw [Lib.bytesWorld_cell w 5 s k hk]
    simp [List.getD_eq_getElem?_getD, hk]
    rfl
  have hhead : s.data.toList.headD 0 = s[0] := by
    obtain ⟨⟨l⟩⟩ := s
    cases l with
    | nil => simp [ByteArray.size] at hlt
    | cons c l => rfl
  have first : (48 ≤ (s[0].toNat : Int) ∧ (s[0].toNat : Int) ≤ 57) → Ux s = false := λh => by
    have h5 : 48 ≤ s[0].toNat ∧ s[0].toNat ≤ 57 := by omega
    simp only [Ux, hhead, h5.1, h5.2]
    simp
  have rest : ¬ (48 ≤ (s[0].toNat : Int) ∧ (s[0].toNat : Int) ≤ 57) → Ux s = s.data.toList.all Ap := λh => by
    have e1 : decide (1 ≤ s.size) = true := by simp; omega
    have e2 : decide (s.size ≤ 12) = true := by simp; omega
    have e3 : (decide (48 ≤ s[0].toNat) && decide (s[0].toNat ≤ 57)) = false := by
      rw [Bool.and_eq_false_iff]; simp; omega
    simp only [Ux, hhead, e1, e2, e3]
    simp
  have F := Lib.hid first
  have RS := Lib.hid rest
  have HC := Lib.hid hcells
  have HH := Lib.hid hhead
  have HB := Lib.hid hb
  clear first rest hcells hhead hb
  go_enter Tryz.func114, Tryz.ntmps114
  go_wp2
  · have h5 : 48 ≤ (s[0].toNat : Int) := by assumption
    have h6 : (s[0].toNat : Int) ≤ 57 := by assumption
    have h7 := Lib.hid (F.out ⟨h5, h6⟩)
    go_ret
    exact ⟨by rw [h7.out]; rfl, Below.refl _ _⟩
  all_goals
    have hr := RS.out (by omega)
    have HR := Lib.hid hr
    clear hr
    go_loop [26] (λi => ∃ k : Nat, k ≤ s.size ∧ i = .int .i64 k ∧ ∀ j (hj : j < s.size), j < k → Ap s[j] = true) (λi => s.size - (intOf i).toNat)
    case atStart => exact ⟨0, XX _, rfl, λj hj h => by omega⟩
    case round =>
      obtain ⟨k, hk, rfl, hall⟩ := hrel
      have HA := Lib.hid hall
      clear hall
      by_cases hlt2 : k < s.size
      · have hc1 := HC.out k hlt2
        go_wp2
        all_goals first
          | (go_round
             case rel => exact ⟨k + 1, by omega, by go_num, λj hj hjk => by
               rcases YA j k with h | h
               · exact HA.out j hj h
               · obtain rfl : j = k := by omega
                 simp only [Ap]; simp; omega⟩
             case measure => simp [intOf]; omega)
          | (have hf : Ap s[k] = false := by
               simp only [Ap, XZ, Bool.and_eq_false_iff, decide_eq_false_iff_not]; omega
             have hz := HR.out.trans (Z3d hlt2 hf)
             go_ret
             exact ⟨by rw [hz]; rfl, HB.out⟩)
      · have hz := HR.out.trans (Z5k λj hj => HA.out j hj (by omega))
        have HZ := Lib.hid hz
        clear hz
        go_wp2
        go_ret
        exact ⟨by rw [HZ.out]; rfl, HB.out⟩
def Eg(s:ByteArray):Option Bool:=some (Ux s)
theorem Rw(s:ByteArray)(r:Bool)(hm:Is (Eg s) r):Zj prog 114 [.s s] (.b r):=by
  obtain rfl:=Zh hm
  refine⟨⟨_,Tryz.func114,by kernel_rfl,by kernel_rfl⟩,λw m t vals hgok hm ht hargs=>?_⟩
  obtain⟨hs,hg⟩:=hargs
  obtain⟨u0,h0,r0⟩:=hg 0 _ rfl
  have e0:u0= .string s:=RepD.qR (m:=m) r0
  subst e0
  have hv:vals=#[.string s]:=by
    apply XB
    intro i
    match i with
    |0=>simpa using h0
    |i+1=>rw[X3 (by simp at hs;omega)];simp
  subst hv
  refine(Si s w).mono ?_
  rintro e w' ⟨rfl,hb⟩
  refine⟨_,m,λ_=>(none,0),rfl,Wq.refl _,λ_ _ _ _ h=>h,λb o v hv=>?_,hb,RepD.bool _,⟨λx hx=>by simp[RV.fr,RV1.fr,RC.fr] at hx,λx hx=>by simp[RV.fr,RV1.fr,RC.fr] at hx⟩⟩
  have h1:=hm b o v hv
  have h2:=World.block_lt_of_cell? w ⟨b,o,none⟩ h1
  rw[hb.cell (p:=⟨b,o,none⟩) h2]
  exact h1
end
section
instance Zbh(s_:ByteArray):Con (Eg s_) prog 114 [.one (.d (.str s_))] (λr=>.one (.d (.bool r))):=⟨λr hm=>Rw s_ r hm⟩
def Ij(s_:List Col)(f:Col->Option Bool):Option Int:=
 Zc (λ(i2:Nat) (x2:Col) (s2:Unit) next_2=>Z1 (f x2) λv3=>bif v3 then some (i2:Int) else next_2 ()) (λ(s2:Unit)=>some (-1)) s_ 0 ()
instance Za2(s_:List Col)(f:Col->Option Bool){g:FuncId}{caps:List (List D)}[ConF f prog (λx=>.agg x.enc) (λv=>.one (.d (.bool v))) g caps]:Con (Ij s_ f) prog 133 [.one (.d (.sl (s_.map Col.enc))),.one (.fn g caps)] (λr=>.one (.d (.int .i64 r))):=by unfold Ij;have l1:LH (σ:=Unit) 8 [0,1,7] []:=.intro;exact go 19 Tryz.func133
def Gh(c:Col)(k0:ByteArray):Option Bool:=
 some (strEq c.name k0)
instance R6(c:Col)(k0:ByteArray):Con (Gh c k0) prog 134 [.agg c.enc,.one (.rp [.str k0])] (λr=>.one (.d (.bool r))):=by unfold Gh;exact go 8 Tryz.func134
instance Zau(k0:ByteArray):ConF (λx=>Gh x k0) prog (λx=>.agg x.enc) (λr=>.one (.d (.bool r))) 134 [[.str k0]]:=⟨λx=>(R6 x k0)⟩
def W7(t:Tbl)(name:ByteArray):Option (Int×Bool):=
 Z1 (Ij t.cols (λxa_=>Gh xa_ name)) λv3=>some ((if v3<0 then 0 else v3),decide (0<=v3))
instance Ed(t:Tbl)(name:ByteArray):Con (W7 t name) prog 115 [.agg t.enc,.one (.d (.str name))] (λr=>.tup [.one (.d (.int .i64 r.1)),.one (.d (.bool r.2))]):=by unfold W7;exact go 15 Tryz.func115
def B8(t:Tbl):Option Int:=
 Z1 (Eg t.name) λv2=>bif !v2 then some 23 else bif ((t.cols.length:Int)==0) then some 3 else bif decide (6<(t.cols.length:Int)) then some 2 else Zc (λ(i9:Nat) (x9:Col) (s9:Unit) next_9=>Z1 (Eg x9.name) λv11=>bif !v11 then some 23 else Z1 (W7 t x9.name) λv13=>bif decide (v13.1<(i9:Int)) then some 5 else bif decide (x9.kind<1) then some 7 else bif decide (3<x9.kind) then some 7 else next_9 ()) (λ(s9:Unit)=>Zc (λ(i18:Nat) (x18:Int) (s18:Unit) next_18=>bif decide (x18<0) then some 9 else bif decide ((t.cols.length:Int)<=x18) then some 9 else Z7 t.cols x18 λx22=>bif x22.nullable then some 9 else bif decide (0<i18) then Zp (W9 ((i18:Int)-1)) (Z7 t.pk ((i18:Int)-1) λx26=>bif decide (x18<=x26) then some 9 else next_18 ()) else next_18 ()) (λ(s18:Unit)=>bif ((t.pk.length:Int)==0) then some 9 else some 0) t.pk 0 ()) t.cols 0 ()
instance Zam(t:Tbl):Con (B8 t) prog 75 [.agg t.enc] (λr=>.one (.d (.int .i64 r))):=by unfold B8;have l1:LH (σ:=Unit) 24 [1,22,23] []:=.intro;have l2:LH (σ:=Unit) 55 [1,53,54] []:=.intro;exact go 96 Tryz.func75
def G6(s_:List Tbl)(f:Tbl->Option Bool):Option Int:=
 Zc (λ(i2:Nat) (x2:Tbl) (s2:Unit) next_2=>Z1 (f x2) λv3=>bif v3 then some (i2:Int) else next_2 ()) (λ(s2:Unit)=>some (-1)) s_ 0 ()
instance Qu(s_:List Tbl)(f:Tbl->Option Bool){g:FuncId}{caps:List (List D)}[ConF f prog (λx=>.agg x.enc) (λv=>.one (.d (.bool v))) g caps]:Con (G6 s_ f) prog 87 [.one (.d (.sl (s_.map Tbl.enc))),.one (.fn g caps)] (λr=>.one (.d (.int .i64 r))):=by unfold G6;have l1:LH (σ:=Unit) 8 [0,1,7] []:=.intro;exact go 19 Tryz.func87
theorem Qw(s_:List Tbl)(g:FuncId)(caps:List (List D))(f:Tbl->Option Bool)(hf:∀xa v,Is (f xa) v->Zj prog g (.agg xa.enc::We caps) (.one (.d (.bool v))))(r:Int)(hm:Is (G6 s_ f) r):Zj prog 87 [.one (.d (.sl (s_.map Tbl.enc))),.one (.fn g caps)] (.one (.d (.int .i64 r))):=
 haveI:ConF f prog (λx=>.agg x.enc) (λv=>.one (.d (.bool v))) g caps:=⟨hf⟩
 (Qu s_ f).h r hm
def CD(t:Tbl)(k0:ByteArray):Option Bool:=
 some (strEq t.name k0)
instance Rf(t:Tbl)(k0:ByteArray):Con (CD t k0) prog 88 [.agg t.enc,.one (.rp [.str k0])] (λr=>.one (.d (.bool r))):=by unfold CD;exact go 8 Tryz.func88
instance Zb2(k0:ByteArray):ConF (λx=>CD x k0) prog (λx=>.agg x.enc) (λr=>.one (.d (.bool r))) 88 [[.str k0]]:=⟨λx=>(Rf x k0)⟩
def ZY(s_:Sch)(name:ByteArray):Option (Int×Bool):=
 Z1 (G6 s_.tables (λxa_=>CD xa_ name)) λv3=>some ((if v3<0 then 0 else v3),decide (0<=v3))
instance UO(s_:Sch)(name:ByteArray):Con (ZY s_ name) prog 50 [.agg s_.enc,.one (.d (.str name))] (λr=>.tup [.one (.d (.int .i64 r.1)),.one (.d (.bool r.2))]):=by unfold ZY;exact go 15 Tryz.func50
def Cr(s_:Sch)(fk:Fk):Option Int:=
 Z1 (ZY s_ fk.table) λv3=>Z1 (ZY s_ fk.ref) λv4=>bif !v3.2 then some 4 else bif !v4.2 then some 4 else Z7 s_.tables v3.1 λx7=>Z7 s_.tables v4.1 λx8=>bif ((fk.cols.length:Int) !=(x8.pk.length:Int)) then some 3 else Zc (λ(i34:Nat) (x34:Int) (s34:Unit) next_34=>bif decide (x34<0) then some 3 else bif decide ((x7.cols.length:Int)<=x34) then some 3 else Z7 x7.cols x34 λx38=>Z7 x8.pk (i34:Int) λx39=>Z7 x8.cols x39 λx40=>bif (x38.kind !=x40.kind) then some 7 else next_34 ()) (λ(s34:Unit)=>some 0) fk.cols 0 ()
theorem Qf(s_:Sch)(fk:Fk)(r:Int)(hm:Is (Cr s_ fk) r):Zj prog 76 [.agg s_.enc,.agg fk.enc] (.one (.d (.int .i64 r))):=by
 unfold Cr at hm;refine Zj.qN Tryz.func76 rfl (by kernel_rfl) (n:=85) rfl rfl (by simp) ?_
 try simp[*]
 refine VJ (av:=[.agg s_.enc,.one (.d (.str fk.table))]) hm (λv hv=>UO _ _ v hv) (by simp[*]) ?_;clear hm;intro v3 hvv3 hm
 try simp[*]
 refine VJ (av:=[.agg s_.enc,.one (.d (.str fk.ref))]) hm (λv hv=>UO _ _ v hv) (by simp[*]) ?_;clear hm;intro v4 hvv4 hm
 try simp[*]
 refine H9 hm ?_ ?_<;>clear hm<;>intro hc5 hm
 .try simp[*]
  obtain rfl:=Zh hm;exact V8 (vs:=[_]) (by simp[*];try exact rfl) (by simp[*])
 .try simp[*]
  refine Zy hm ?_ ?_<;>clear hm<;>intro hc6 hm
  .try simp[*]
   obtain rfl:=Zh hm;exact V8 (vs:=[_]) (by simp[*];try exact rfl) (by simp[*])
  .try simp[*]
   replace hm:=hm.get;obtain⟨x7,h0x7,hxx7,hm⟩:=hm;replace hm:=hm.get;obtain⟨x8,h0x8,hxx8,hm⟩:=hm;refine Z4.cut (Plan.qB [0,1,2,3,4,5,7] (.three 6 10 11 (Plan.qB [8] (.three 9 10 11 (Plan.qB [] (.two 10 11 (Plan.qB [11,12,13] .done) (Plan.qB [10,12,13] .done))) (Plan.qB [] (.two 9 11 (Plan.qB [11,12,13] .done) (Plan.qB [] (.two 9 12 (Plan.qB [12,13] .done) (Plan.qB [9,13] .done))))) (Plan.qB [] (.two 9 10 (Plan.qB [10,12,13] .done) (Plan.qB [] (.two 9 12 (Plan.qB [12,13] .done) (Plan.qB [9,13] .done))))))) (Plan.qB [] (.two 6 11 (Plan.qB [8] (.two 9 11 (Plan.qB [11,12,13] .done) (Plan.qB [] (.two 9 12 (Plan.qB [12,13] .done) (Plan.qB [9,13] .done))))) (Plan.qB [] (.two 6 12 (Plan.qB [8] (.two 9 12 (Plan.qB [12,13] .done) (Plan.qB [9,13] .done))) (Plan.qB [6,8,9,13] .done))))) (Plan.qB [] (.two 6 10 (Plan.qB [8] (.two 9 10 (Plan.qB [10,12,13] .done) (Plan.qB [] (.two 9 12 (Plan.qB [12,13] .done) (Plan.qB [9,13] .done))))) (Plan.qB [] (.two 6 12 (Plan.qB [8] (.two 9 12 (Plan.qB [12,13] .done) (Plan.qB [9,13] .done))) (Plan.qB [6,8,9,13] .done))))))) follows (by kernel_rfl) (λe11 h11=>∃n11_b9 n11_b10:Nat,e11.n=85/\e11.get 3=.one (.ptr (1,48) 0)/\e11.get 9=.one (.ptr (n11_b9,144) 0)/\e11.get 10=.one (.ptr (n11_b10,160) 0)/\h11.box (1,48)=some [.d (.str fk.table),.d (.sl (fk.cols.map Zd)),.d (.str fk.ref)]/\h11.box (n11_b9,144)=some [.d (.str x7.name),.d (.sl (x7.cols.map Col.enc)),.d (.sl (x7.pk.map Zd))]/\h11.box (n11_b10,160)=some [.d (.str x8.name),.d (.sl (x8.cols.map Col.enc)),.d (.sl (x8.pk.map Zd))]) ?_ ?_
   .try simp[*]
    repeat' (first|with_reducible refine And.intro ?_ ?_|(refine Zb.of ⟨4,5,?_⟩;(simp(maxDischargeDepth:=20) [*]);done)|(refine Zb.of ⟨5,4,?_⟩;(simp(maxDischargeDepth:=20) [*]);done))
   .rintro e11 h11 ⟨n11_b9,n11_b10,hn11,h11_3,h11_9,h11_10,hb11_b2,hb11_b9,hb11_b10⟩
    try simp[*]
    intro hl30;replace hl30:fk.cols.length<=2097152:=by simpa using hl30
    intro hl31;replace hl31:x8.pk.length<=2097152:=by simpa using hl31
    refine Zy hm ?_ ?_<;>clear hm<;>intro hc32 hm
    .try simp[*]
     obtain rfl:=Zh hm;exact V8 (vs:=[_]) (by simp[*];try exact rfl) (by simp[*])
    .try simp[*]
     refine Z4.for (xs:=fk.cols) (s0:=()) (λi34 s34 e34 h34=>e34.n=85/\e34.get 9=.one (.ptr (n11_b9,144) 0)/\e34.get 10=.one (.ptr (n11_b10,160) 0)/\e34.get 51=.one (.d (.sl (fk.cols.map Zd)))/\e34.get 52=.one (.d (.int .i64 (fk.cols.length:Int)))/\e34.get 53=.one (.d (.int .i64 (i34:Int)))/\h34.box (n11_b9,144)=some [.d (.str x7.name),.d (.sl (x7.cols.map Col.enc)),.d (.sl (x7.pk.map Zd))]/\h34.box (n11_b10,160)=some [.d (.str x8.name),.d (.sl (x8.cols.map Col.enc)),.d (.sl (x8.pk.map Zd))]) hm (by simp[*]) ?_ ?_
     .rintro i34 s34 e34 h34 ⟨hn34,h34_9,h34_10,h34_51,h34_52,h34_53,hb34_b9,hb34_b10⟩ hlt34 hm;have hw34:IntKind.i64.wrap ((i34:Int)+1)=(i34:Int)+1:=Y5 _ (by omega)
      try simp[*]
      refine H9 hm ?_ ?_<;>clear hm<;>intro hc35 hm
      .try simp[*]
       obtain rfl:=Zh hm;exact V8 (vs:=[_]) (by simp[*];try exact rfl) (by simp[*])
      .try simp[*]
       intro hl36;replace hl36:x7.cols.length<=2097152:=by simpa using hl36
       refine Zy hm ?_ ?_<;>clear hm<;>intro hc37 hm
       .try simp[*]
        obtain rfl:=Zh hm;exact V8 (vs:=[_]) (by simp[*];try exact rfl) (by simp[*])
       .try simp[*]
        refine Z4.of (Wi.draw (Plan.qB [0,1,2,3,4,5,6,7,8,9,10,11,12,13,14,15,16] .done) follows (by kernel_rfl) ?_)
        try simp[*]
        replace hm:=hm.get;obtain⟨x38,h0x38,hxx38,hm⟩:=hm
        try simp[*]
        replace hm:=hm.qG;obtain⟨x39,hxx39,hm⟩:=hm
        try simp[*]
        replace hm:=hm.get;obtain⟨x40,h0x40,hxx40,hm⟩:=hm
        try simp[*]
        refine Zy hm ?_ ?_<;>clear hm<;>intro hc41 hm
        .try simp[*]
         obtain rfl:=Zh hm;exact V8 (vs:=[_]) (by simp[*];try exact rfl) (by simp[*])
        .try simp[*]
         exact Ze.of () ⟨(by simp[*]),hm⟩
     .rintro s34 e34 h34 ⟨hn34,h34_9,h34_10,h34_51,h34_52,h34_53,hb34_b9,hb34_b10⟩ hm
      try simp[*]
      obtain rfl:=Zh hm;exact V8 (vs:=[_]) (by simp[*];try exact rfl) (by simp[*])
instance Z9z(s_:Sch)(fk:Fk):Con (Cr s_ fk) prog 76 [.agg s_.enc,.agg fk.enc] (λr=>.one (.d (.int .i64 r))):=⟨λr hm=>Qf s_ fk r hm⟩
def BK(s_:List Fk)(f:Fk->Option Bool):Option Int:=
 Zc (λ(i2:Nat) (x2:Fk) (s2:Unit) next_2=>Z1 (f x2) λv3=>bif v3 then some (i2:Int) else next_2 ()) (λ(s2:Unit)=>some (-1)) s_ 0 ()
instance Q8(s_:List Fk)(f:Fk->Option Bool){g:FuncId}{caps:List (List D)}[ConF f prog (λx=>.agg x.enc) (λv=>.one (.d (.bool v))) g caps]:Con (BK s_ f) prog 116 [.one (.d (.sl (s_.map Fk.enc))),.one (.fn g caps)] (λr=>.one (.d (.int .i64 r))):=by unfold BK;have l1:LH (σ:=Unit) 8 [0,1,7] []:=.intro;exact go 19 Tryz.func116
theorem Ig(s_:List Fk)(g:FuncId)(caps:List (List D))(f:Fk->Option Bool)(hf:∀xa v,Is (f xa) v->Zj prog g (.agg xa.enc::We caps) (.one (.d (.bool v))))(r:Int)(hm:Is (BK s_ f) r):Zj prog 116 [.one (.d (.sl (s_.map Fk.enc))),.one (.fn g caps)] (.one (.d (.int .i64 r))):=
 haveI:ConF f prog (λx=>.agg x.enc) (λv=>.one (.d (.bool v))) g caps:=⟨hf⟩
 (Q8 s_ f).h r hm
def A2(s_:List Fk)(f:Fk->Option Bool):Option Bool:=
 Z1 (BK s_ f) λv1=>some (decide (0<=v1))
instance Q5(s_:List Fk)(f:Fk->Option Bool){g:FuncId}{caps:List (List D)}[ConF f prog (λx=>.agg x.enc) (λv=>.one (.d (.bool v))) g caps]:Con (A2 s_ f) prog 77 [.one (.d (.sl (s_.map Fk.enc))),.one (.fn g caps)] (λr=>.one (.d (.bool r))):=by unfold A2;exact go 9 Tryz.func77
theorem Ia(s_:List Fk)(g:FuncId)(caps:List (List D))(f:Fk->Option Bool)(hf:∀xa v,Is (f xa) v->Zj prog g (.agg xa.enc::We caps) (.one (.d (.bool v))))(r:Bool)(hm:Is (A2 s_ f) r):Zj prog 77 [.one (.d (.sl (s_.map Fk.enc))),.one (.fn g caps)] (.one (.d (.bool r))):=
 haveI:ConF f prog (λx=>.agg x.enc) (λv=>.one (.d (.bool v))) g caps:=⟨hf⟩
 (Q5 s_ f).h r hm
def AN(s1:List Int)(s2:List Int):Option Bool:=
 bif ((s1.length:Int) !=(s2.length:Int)) then some false else Zc (λ(i5:Nat) (x5:Int) (s5:Unit) next_5=>Z7 s2 (i5:Int) λx6=>bif (x5 !=x6) then some false else next_5 ()) (λ(s5:Unit)=>some true) s1 0 ()
instance LA(s1:List Int)(s2:List Int):Con (AN s1 s2) prog 117 [.one (.d (.sl (s1.map Zd))),.one (.d (.sl (s2.map Zd)))] (λr=>.one (.d (.bool r))):=by unfold AN;have l1:LH (σ:=Unit) 13 [0,1,12] []:=.intro;have p1:PH [6] (Plan.qB [0,1,2,3,4,5,6,7,8] .done):=.intro;exact go 26 Tryz.func117
def A5(a:Fk)(b:Fk):Option Bool:=
 bif strEq a.table b.table then Z1 (AN a.cols b.cols) λv4=>(bif v4 then some (strEq a.ref b.ref) else some false) else some false
instance Qq(a:Fk)(b:Fk):Con (A5 a b) prog 79 [.agg a.enc,.agg b.enc] (λr=>.one (.d (.bool r))):=by unfold A5;exact go 24 Tryz.func79
instance Za4  :ConG (λx y=>A5 x y) prog (λx=>.agg x.enc) (λx=>.agg x.enc) (λr=>.one (.d (.bool r))) 79 []:=⟨λx y=>(Qq x y)⟩
def CI(other:Fk)(k0:Fk):Option Bool:=
 Z1 (A5 other k0) λv2=>some v2
instance Rq(other:Fk)(k0:Fk):Con (CI other k0) prog 78 [.agg other.enc,.one (.rp [.str k0.table,.sl (k0.cols.map Zd),.str k0.ref])] (λr=>.one (.d (.bool r))):=by unfold CI;exact go 7 Tryz.func78
instance Zb9(k0:Fk):ConF (λx=>CI x k0) prog (λx=>.agg x.enc) (λr=>.one (.d (.bool r))) 78 [[.str k0.table,.sl (k0.cols.map Zd),.str k0.ref]]:=⟨λx=>(Rq x k0)⟩
def B9(a:Int)(b:Int):Option Int:=
 bif decide (a<b) then some (-1) else bif decide (b<a) then some 1 else some 0
instance Zbb(a:Int)(b:Int):Con (B9 a b) prog 122 [.one (.d (.int .i64 a)),.one (.d (.int .i64 b))] (λr=>.one (.d (.int .i64 r))):=by unfold B9;exact go 13 Tryz.func122
instance Zbo(a:ByteArray)(b:ByteArray):Con (CP a b) prog 135 [.one (.d (.str a)),.one (.d (.str b))] (λr=>.one (.d (.int .i64 r))):=⟨λr hm=>RQ a b r hm⟩
def Af(a:GV)(b:GV):Option Int:=
 Z1 (B9 a.kind b.kind) λv3=>bif (v3 !=0) then some v3 else Z1 (B9 a.int b.int) λv5=>bif (v5 !=0) then some v5 else Z1 (CP a.text b.text) λv7=>some v7
instance Zc5(a:GV)(b:GV):Con (Af a b) prog 121 [.agg a.enc,.agg b.enc] (λr=>.one (.d (.int .i64 r))):=by unfold Af;exact go 28 Tryz.func121
def Aa(a:GV)(op:ByteArray)(b:GV):Option (Bool×Int):=
 bif !(strEq op ({data:=#[61]})) then bif !(strEq op ({data:=#[60]})) then bif !(strEq op ({data:=#[60,61]})) then some (false,3) else(bif (a.kind==0) then some (true,0) else bif (b.kind==0) then some (true,0) else Z1 (Af a b) λv8=>bif (v8==0) then some (true,0) else bif decide (v8<0) then some (!(strEq op ({data:=#[61]})),0) else some (false,0)) else(bif (a.kind==0) then some (true,0) else bif (b.kind==0) then some (true,0) else Z1 (Af a b) λv13=>bif (v13==0) then bif decide (v13<0) then some (!(strEq op ({data:=#[61]})),0) else(some (false,0)) else bif decide (v13<0) then some (!(strEq op ({data:=#[61]})),0) else some (false,0)) else bif (a.kind==0) then some (true,0) else bif (b.kind==0) then some (true,0) else Z1 (Af a b) λv19=>bif (v19==0) then bif !(strEq op ({data:=#[60]})) then some (true,0) else(bif decide (v19<0) then some (!(strEq op ({data:=#[61]})),0) else some (false,0)) else bif decide (v19<0) then some (!(strEq op ({data:=#[61]})),0) else some (false,0)
instance RP(a:GV)(op:ByteArray)(b:GV):Con (Aa a op b) prog 118 [.agg a.enc,.one (.d (.str op)),.agg b.enc] (λr=>.tup [.one (.d (.bool r.1)),.one (.d (.int .i64 r.2))]):=by unfold Aa;exact go 44 Tryz.func118
def WD(v_:GV):Option Int:=
 bif (v_.kind==0) then bif (v_.int !=0) then some 3 else(bif !(strEq v_.text empty) then some 3 else some 0) else bif (v_.kind==1) then bif !(strEq v_.text empty) then some 3 else(bif (v_.kind==2) then bif (v_.int !=0) then bif (v_.int !=1) then some 1 else(bif decide (v_.int<(-1000000000000)) then some 1 else bif decide (1000000000000<v_.int) then some 1 else some 0) else(bif decide (v_.int<(-1000000000000)) then some 1 else bif decide (1000000000000<v_.int) then some 1 else some 0) else bif decide (v_.int<(-1000000000000)) then some 1 else bif decide (1000000000000<v_.int) then some 1 else some 0) else bif (v_.kind==2) then bif !(strEq v_.text empty) then some 3 else(bif (v_.int !=0) then bif (v_.int !=1) then some 1 else(bif decide (v_.int<(-1000000000000)) then some 1 else bif decide (1000000000000<v_.int) then some 1 else some 0) else bif decide (v_.int<(-1000000000000)) then some 1 else bif decide (1000000000000<v_.int) then some 1 else some 0) else bif (v_.kind==3) then bif (v_.int !=0) then some 3 else(bif decide (24<(v_.text.size:Int)) then some 2 else some 0) else some 7
instance RZ(v_:GV):Con (WD v_) prog 119 [.agg v_.enc] (λr=>.one (.d (.int .i64 r))):=by unfold WD;exact go 53 Tryz.func119
def DO(s_:Sch)(c:Cons):Option Int:=
 Z1 (ZY s_ c.table) λv3=>bif !v3.2 then some 4 else Z7 s_.tables v3.1 λx5=>Z1 (Aa (GV.mk 0 0 empty) c.op (GV.mk 0 0 empty)) λv6=>bif decide (c.left<0) then some 3 else bif decide ((x5.cols.length:Int)<=c.left) then some 3 else bif (v6.2 !=0) then some 3 else bif decide (c.right<(-1)) then some 3 else bif decide ((x5.cols.length:Int)<=c.right) then some 3 else bif decide (0<=c.right) then bif (!(c.value.kind==0)||(!(c.value.int==0)||(!(c.value.text==empty)))) then some 3 else(Z7 x5.cols c.left λx16=>Z7 x5.cols c.right λx17=>bif (x16.kind !=x17.kind) then some 7 else some 0) else Z7 x5.cols c.left λx19=>bif (c.value.kind !=x19.kind) then some 7 else Z1 (WD c.value) λv21=>some v21
instance Za0(s_:Sch)(c:Cons):Con (DO s_ c) prog 80 [.agg s_.enc,.agg c.enc] (λr=>.one (.d (.int .i64 r))):=by unfold DO;have p1:PH [9] (Plan.qB [0,1,2,3,4,5,6,7,8,9,10,11,12] .done):=.intro;have p2:PH [12] (Plan.qB [0,1,2,3,4,5,6,7,8,9] .done):=.intro;exact go 99 Tryz.func80
def Ct(s_:List Cons)(v_:Cons):Option Int:=
 Zc (λ(i3:Nat) (x3:Cons) (s3:Unit) next_3=>bif (v_.table==x3.table&&(v_.left==x3.left&&(v_.op==x3.op&&(v_.right==x3.right&&(v_.value.kind==x3.value.kind&&(v_.value.int==x3.value.int&&(v_.value.text==x3.value.text))))))) then some (i3:Int) else next_3 ()) (λ(s3:Unit)=>some (-1)) s_ 0 ()
instance Qn(s_:List Cons)(v_:Cons):Con (Ct s_ v_) prog 120 [.one (.d (.sl (s_.map Cons.enc))),.agg v_.enc] (λr=>.one (.d (.int .i64 r))):=by unfold Ct;have l1:LH (σ:=Unit) 8 [0,3,7] []:=.intro;have p1:PH [4] (Plan.qB [0,1,2,3,4,5] .done):=.intro;exact go 19 Tryz.func120
def DN(s_:List Cons)(v_:Cons):Option Bool:=
 Z1 (Ct s_ v_) λv2=>some (decide (0<=v2))
instance Z9s(s_:List Cons)(v_:Cons):Con (DN s_ v_) prog 81 [.one (.d (.sl (s_.map Cons.enc))),.agg v_.enc] (λr=>.one (.d (.bool r))):=by unfold DN;exact go 9 Tryz.func81
def Ug(s_:Sch):Option Int:=
 bif decide (6<(s_.tables.length:Int)) then some 2 else bif decide (8<(s_.fks.length:Int)) then some 2 else bif decide (8<(s_.cons.length:Int)) then some 2 else Zc (λ(i9:Nat) (x9:Tbl) (s9:Unit) next_9=>Z1 (B8 x9) λv11=>bif (v11 !=0) then some v11 else bif decide (0<i9) then Zp (W9 ((i9:Int)-1)) (Z7 s_.tables ((i9:Int)-1) λx15=>bif (Uz x9.name x15.name||strEq x9.name x15.name) then some 6 else next_9 ()) else next_9 ()) (λ(s9:Unit)=>Zc (λ(i18:Nat) (x18:Fk) (s18:Unit) next_18=>Z1 (Cr s_ x18) λv20=>bif (v20 !=0) then some v20 else Zp (0<=0/\0<=(i18:Int)/\(i18:Int)<=(s_.fks.length:Int)) (Z1 (A2 ((s_.fks.take i18).drop 0) (λxa_=>CI xa_ x18)) λv23=>bif v23 then some 5 else next_18 ())) (λ(s18:Unit)=>Zc (λ(i26:Nat) (x26:Cons) (s26:Unit) next_26=>Z1 (DO s_ x26) λv28=>bif (v28 !=0) then some v28 else Zp (0<=0/\0<=(i26:Int)/\(i26:Int)<=(s_.cons.length:Int)) (Z1 (DN ((s_.cons.take i26).drop 0) x26) λv31=>bif v31 then some 5 else next_26 ())) (λ(s26:Unit)=>some 0) s_.cons 0 ()) s_.fks 0 ()) s_.tables 0 ()
instance IF(s_:Sch):Con (Ug s_) prog 46 [.agg s_.enc] (λr=>.one (.d (.int .i64 r))):=by unfold Ug;have l1:LH (σ:=Unit) 31 [1,29,30] []:=.intro;have l2:LH (σ:=Unit) 59 [1,57,58] []:=.intro;have l3:LH (σ:=Unit) 80 [1,78,79] []:=.intro;have p1:PH [9] (Plan.qB [0,1,2,3,4,5,6,7,8,9,10,11,12,13] .done):=.intro;have p2:PH [27] (Plan.qB [0,1,2,3,4,5] .done):=.intro;exact go 98 Tryz.func46
theorem US(t:Tbl)(nm:ByteArray):Wp (W7 t nm) λv=>0<=v.1/\(v.2=true->v.1<t.cols.length)/\(v.2=false->v.1=0):=by
 unfold W7;refine Wp.bind (Wp.index λx _=>Wp.ret trivial) λk _ hk=>Wp.ret ?_
 have:=hk.lt
 refine⟨?_,λh=>?_,λh=>?_⟩<;>simp at*<;>first|omega|(split<;>omega)
theorem VI(S:Sch)(nm:ByteArray):Wp (ZY S nm) λv=>0<=v.1/\(v.2=true->v.1<S.tables.length/\∃T,S.tables[v.1.toNat]?=some T/\strEq T.name nm=true)/\(v.2=false->∀T∈S.tables,strEq T.name nm=false):=by
 unfold ZY;refine Wp.bind (Wp.index λx _=>Wp.ret trivial) λk _ hk=>Wp.ret ?_;have hl:=hk.lt;rcases hk with⟨rfl,h⟩|⟨i,x,rfl,hx,h⟩;refine⟨sI,λh=>by simp at h,λ_ T hT=>?_⟩
 have:=h T hT
 simpa[CD] using this;have h1:¬((i:Int)<0):=oM
 refine⟨by simp[h1],λ_=>⟨by simp[h1];omega,x,by simp[h1,hx],?_⟩,λh=>by simp at h⟩;simpa[CD] using h
structure VT(T:Tbl):Prop where
 cols0:0<T.cols.length
 cols6:T.cols.length<=6
 pk0:0<T.pk.length
 pk:∀v∈T.pk,0<=v/\v<T.cols.length
 asc:∀(i:Nat) (a b:Int),T.pk[i]?=some a->T.pk[i+1]?=some b->a<b
 name:Ux T.name=true
theorem Mq(s:ByteArray):Wp (Eg s) λb=>b=Ux s:=Wp.ret rfl
theorem LV(T:Tbl):Wp (B8 T) λe=>e=0->VT T:=by
 unfold B8;refine Wp.bind (Mq _) λv _ hv=>Wp.cr λae=>?_;refine Wp.cr λh1=>Wp.cr λh2=>?_;have hc0:0<T.cols.length:=by simp at h1;exact XG.2 h1
 have ac:T.cols.length<=6:=by simp at h2;omega
 refine Wp.for (λ_ _=>True) trivial ?_ ?_
 .intro i x s next hx hm _ hn
  refine Wp.bind (Mq _) λv _ _=>Wp.cr λ_=>?_;refine Wp.bind (US _ _) λv _ _=>Wp.cr λ_=>Wp.cr λ_=>Wp.cr λ_=>hn () trivial
 intro s _;refine Wp.for (λi _=>(∀(j:Nat) (v:Int),j<i->T.pk[j]?=some v->0<=v/\v<T.cols.length)/\(∀(j:Nat) (a b:Int),j+1<i->T.pk[j]?=some a->T.pk[j+1]?=some b->a<b)/\∀(j:Nat) (v:Int),j<i->T.pk[j]?=some v->(j:Int)<=v) ⟨by intro j v h;omega,by intro j a b h;omega,by intro j v h;omega⟩ ?_ ?_
 .rintro i x s next hx hm ⟨hI,hJ,hK⟩ hn
  refine Wp.cr λh3=>Wp.cr λh4=>?_;have h0:0<=x:=by simpa using h3
  have h5:x<T.cols.length:=by simpa using h4
  have ad:∀(j:Nat) (v:Int),j<i+1->T.pk[j]?=some v->0<=v/\v<T.cols.length:=by
   intro j v hj hv;rcases YA j i with h|h;exact hI j v h hv;obtain rfl:j=i:=oM
   rw[hx] at hv;cases hv;exact⟨h0,h5⟩
  have ah:=(Y0.1 hx).1;refine Wp.get h0 h5 λc _ _=>Wp.cr λ_=>Wp.cond (λh6=>?_) λh6=>hn () ⟨ad,?_,?_⟩;have hi:0<i:=by simpa using h6
  have aa:i-1<T.pk.length:=oM;have ag:=hI (i-1) _ oM (Y1 aa);have hb2:=hK (i-1) _ oM (Y1 aa);refine Wp.chk ⟨oM,by have:=ac;omega⟩ ?_;refine Wp.get oM oM λy hy _=>Wp.cr λh7=>?_;have af:y<x:=by simpa using h7
  have ab:T.pk[i-1]?=some y:=by rw[<-hy];congr 1;omega
  refine hn () ⟨ad,?_,?_⟩;intro j a b hj ha hb;rcases YA (j+1) i with h|h;exact hJ j a b h ha hb;obtain rfl:i=j+1:=oM
  rw[hx] at hb;cases hb;rw[show j+1-1=j by omega,ha] at ab;cases ab;exact af;intro j v hj hv;rcases YA j i with h|h;exact hK j v h hv;obtain rfl:j=i:=oM
  rw[hx] at hv;cases hv
  have:=hK (j-1) y oM ab
  omega;intro j a b hj
  have:i=0:=by simpa using h6
  omega;intro j v hj hv;have hi0:i=0:=by simpa using h6
  obtain rfl:j=0:=oM;subst hi0;rw[hx] at hv;cases hv;omega
 rintro s ⟨hI,hJ,_⟩;refine Wp.cr λh3=>Wp.ret λ_=>?_;have hp:0<T.pk.length:=by simp at h3;exact XG.2 h3
 refine⟨hc0,ac,hp,λv hv=>?_,λi a b ha hb=>hJ i a b (Y0.1 hb).1 ha hb,by rw[<-hv];simpa using ae⟩;obtain⟨j,hj,rfl⟩:=Yz hv;exact hI j _ hj (Y1 hj)
theorem EE(a b:List Int):Wp (AN a b) λr=>r=true->a=b:=by
 unfold AN;refine Wp.cr λh=>?_;have hl:a.length=b.length:=by simp at h;omega
 refine Wp.for (λi _=>∀j,j<i->a[j]?=b[j]?) (by intro j h;omega) ?_ ?_
 .intro i x s next hx hm hI hn
  have hi:=(Y0.1 hx).1;refine Wp.get oM oM λy hy _=>Wp.cr λh2=>hn () λj hj=>?_;rcases YA j i with h3|h3;exact hI j h3;obtain rfl:j=i:=oM
  rw[hx,show(some x:Option Int)=some y by simp at h2;rw[h2],<-hy]
  congr 1
 intro s hI;refine Wp.ret λ_=>Xy λj=>?_;rcases YA j a.length with h3|h3;exact hI j h3;rw[YK h3,YK oM]
theorem Ef(a b:Fk):Wp (A5 a b) λ_=>True:=by
 unfold A5;exact Wp.cond (λ_=>Wp.bind (EE _ _) λ_ _ _=>Wp.cond (λ_=>Wp.ret trivial) λ_=>Wp.ret trivial) λ_=>Wp.ret trivial
theorem CO(xs:List Fk)(f:Fk->Option Bool)(hf:∀x∈xs,Wp (f x) λ_=>True):Wp (A2 xs f) λ_=>True:=by
 unfold A2 BK;exact Wp.bind (Wp.index hf) λ_ _ _=>Wp.ret trivial
theorem Z1r(a b:GV):Wp (Af a b) λ_=>True:=by
 unfold Af B9 CP
 repeat' first|exact Wp.ret trivial|refine Wp.bind (R:=λ_=>True) ?_ λ_ _ _=>?_|refine Wp.cond (λ_=>?_) λ_=>?_
theorem ED(a:GV)(op:ByteArray)(b:GV):Wp (Aa a op b) λ_=>True:=by
 unfold Aa
 repeat' first|exact Wp.ret trivial|refine Wp.bind (Z1r _ _) λ_ _ _=>?_|refine Wp.cond (λ_=>?_) λ_=>?_
theorem CV(a:GV):Wp (WD a) λ_=>True:=by
 unfold WD
 repeat' first|exact Wp.ret trivial|refine Wp.cond (λ_=>?_) λ_=>?_
def VF(f:Fk):Prop:=f.cols.length<=6/\∀v∈f.cols,0<=v/\v<6
def VO(c:Cons):Prop:=(0<=c.left/\c.left<6)/\-1<=c.right/\c.right<6
theorem VT.pk6{T:Tbl}(h:VT T):T.pk.length<=6:=by
 have:∀(n:Nat) (v:Int),T.pk[n]?=some v->(n:Int)<=v:=by
  intro n
  induction n with
  |zero=>intro v hv;have:=(h.pk v (Y4 hv)).1;omega
  |succ n ih=>?_
  intro v hv;have hn:=(Y0.1 hv).1;have h1:=ih _ (Y1 oM);have h2:=h.asc n _ v (Y1 oM) hv;omega
 have hp:=h.pk0;have h1:=this (T.pk.length-1) _ (Y1 oM);have h2:=(h.pk _ (Yf (oM:T.pk.length-1<T.pk.length))).2;have h3:=h.cols6;omega
theorem Lp(S:Sch)(hT:∀T∈S.tables,VT T)(f:Fk):Wp (Cr S f) λe=>e=0->VF f:=by
 unfold Cr;refine Wp.bind (VI S f.table) λv _ hv=>Wp.bind (VI S f.ref) λw _ hw=>Wp.cr λh1=>Wp.cr λh2=>?_;have ad:v.2=true:=by simpa using h1
 have ac:w.2=true:=by simpa using h2
 refine Wp.get hv.1 (hv.2.1 ad).1 λT hTx hTm=>Wp.get hw.1 (hw.2.1 ac).1 λR hRx hRm=>Wp.cr λh3=>?_;have VTT:=hT T hTm;have VTR:=hT R hRm;have hl:f.cols.length=R.pk.length:=by simp at h3;omega
 refine Wp.for (λi _=>∀(j:Nat) (v:Int),j<i->f.cols[j]?=some v->0<=v/\v<6) (by intro j v h;omega) ?_ ?_
 .intro i x s next hx hm hI hn
  have hi:=(Y0.1 hx).1;refine Wp.cr λh4=>Wp.cr λh5=>?_;have hx0:0<=x:=by simpa using h4
  have ab:x<T.cols.length:=by simpa using h5
  refine Wp.get hx0 ab λa _ _=>Wp.get oM oM λp _ hp=>Wp.get (VTR.pk p hp).1 (VTR.pk p hp).2 λb _ _=>Wp.cr λ_=>hn () λj v hj aa=>?_;rcases YA j i with h6|h6;exact hI j v h6 aa;obtain rfl:j=i:=oM
  rw[hx] at aa;cases aa
  have:=VTT.cols6
  omega
 intro s hI;refine Wp.ret λ_=>⟨by rw[hl];exact VTR.pk6,λv aa=>?_⟩;obtain⟨j,hj,rfl⟩:=Yz aa;exact hI j _ hj (Y1 hj)
theorem Lq(S:Sch)(hT:∀T∈S.tables,VT T)(c:Cons):Wp (DO S c) λe=>e=0->VO c:=by
 unfold DO;refine Wp.bind (VI S c.table) λv _ hv=>Wp.cr λh1=>?_;have ab:v.2=true:=by simpa using h1
 refine Wp.get hv.1 (hv.2.1 ab).1 λT hTx hTm=>Wp.bind (ED _ _ _) λq _ _=>?_;have VTT:=hT T hTm;have h6:=VTT.cols6;refine Wp.cr λh2=>Wp.cr λh3=>Wp.cr λ_=>Wp.cr λh4=>Wp.cr λh5=>?_;have a2:0<=c.left:=by simpa using h2
 have a3:c.left<T.cols.length:=by simpa using h3
 have a4:-1<=c.right:=by simpa using h4
 have a5:c.right<T.cols.length:=by simpa using h5
 have aa:VO c:=⟨⟨a2,oM⟩,a4,oM⟩;refine Wp.cond (λh7=>?_) λ_=>?_;have a7:0<=c.right:=by simpa using h7
 exact Wp.cr λ_=>Wp.get a2 a3 λ_ _ _=>Wp.get a7 a5 λ_ _ _=>Wp.cr λ_=>Wp.ret λ_=>aa;exact Wp.get a2 a3 λ_ _ _=>Wp.cr λ_=>Wp.bind (CV _) λ_ _ _=>Wp.ret λ_=>aa
theorem LW(xs:List Cons)(c:Cons):Wp (DN xs c) λ_=>True:=by
 unfold DN Ct;refine Wp.bind (R:=λ_=>True) (Wp.for (λ_ _=>True) trivial (λi x s next _ _ _ hn=>Wp.cond (λ_=>Wp.ret trivial) λ_=>hn () trivial) λ_ _=>Wp.ret trivial) λ_ _ _=>Wp.ret trivial
structure VS0(S:Sch):Prop where
 t6:S.tables.length<=6
 f8:S.fks.length<=8
 o8:S.cons.length<=8
 tab:∀T∈S.tables,VT T
 fk:∀f∈S.fks,VF f
 con:∀c∈S.cons,VO c
theorem Ao{α:Type}{xs:List α}{p:α->Prop}(h:∀(j:Nat) (x:α),j<xs.length->xs[j]?=some x->p x):∀x∈xs,p x:=by intro x hx;obtain⟨j,hj,rfl⟩:=Yz hx;exact h j _ hj (Y1 hj)
theorem Ul{α:Type}{xs:List α}{p:α->Prop}{i:Nat}{x:α}(h:∀(j:Nat) (y:α),j<i->xs[j]?=some y->p y)(hx:xs[i]?=some x)(hp:p x):∀(j:Nat) (y:α),j<i+1->xs[j]?=some y->p y:=by
 intro j y hj hy;rcases YA j i with h1|h1;exact h j y h1 hy;obtain rfl:j=i:=oM
 rw[hx] at hy;cases hy;exact hp
theorem Ru(S:Sch):Wp (Ug S) λe=>e=0->VS0 S:=by
 unfold Ug;refine Wp.cr λh1=>Wp.cr λh2=>Wp.cr λh3=>?_;have a1:S.tables.length<=6:=by simp at h1;omega
 have a2:S.fks.length<=8:=by simp at h2;omega
 have a3:S.cons.length<=8:=by simp at h3;omega
 refine Wp.for (λi _=>∀(j:Nat) (T:Tbl),j<i->S.tables[j]?=some T->VT T) (by intro j T h;omega) ?_ ?_
 .intro i T s next hx hm hI hn
  have hi:=(Y0.1 hx).1;refine Wp.bind (LV T) λe _ he=>Wp.cond (λh=>Wp.ret (by intro h0;simp[h0] at h)) λh4=>?_;have hT:VT T:=he (by simpa using h4);refine Wp.cond (λh5=>?_) λ_=>hn () (Ul hI hx hT);have aa:0<i:=by simpa using h5
  exact Wp.chk ⟨oM,oM⟩ (Wp.get oM oM λ_ _ _=>Wp.cr λ_=>hn () (Ul hI hx hT))
 intro s hI;have hT:=Ao hI;refine Wp.for (λi _=>∀(j:Nat) (f:Fk),j<i->S.fks[j]?=some f->VF f) (by intro j T h;omega) ?_ ?_
 .intro i f s next hx hm hI hn
  have hi:=(Y0.1 hx).1;refine Wp.bind (Lp S hT f) λe _ he=>Wp.cond (λh=>Wp.ret (by intro h0;simp[h0] at h)) λh4=>?_;refine Wp.chk ⟨oM,oM,oM⟩ (Wp.bind (CO _ _ λx _=>?_) λ_ _ _=>Wp.cr λ_=>hn () (Ul hI hx (he (by simpa using h4))));unfold CI;exact Wp.bind (Ef _ _) λ_ _ _=>Wp.ret trivial
 intro s hF;refine Wp.for (λi _=>∀(j:Nat) (f:Cons),j<i->S.cons[j]?=some f->VO f) (by intro j T h;omega) ?_ ?_
 .intro i f s next hx hm hI hn
  have hi:=(Y0.1 hx).1;refine Wp.bind (Lq S hT f) λe _ he=>Wp.cond (λh=>Wp.ret (by intro h0;simp[h0] at h)) λh4=>?_;exact Wp.chk ⟨oM,oM,oM⟩ (Wp.bind (LW _ _) λ_ _ _=>Wp.cr λ_=>hn () (Ul hI hx (he (by simpa using h4))))
 intro s hO;exact Wp.ret λ_=>⟨a1,a2,a3,hT,Ao hF,Ao hO⟩
structure VS(S:Sch):Prop extends VS0 S where
 ok:Ug S=some 0
theorem Gt(S:Sch):Wp (Ug S) λe=>e=0->VS S:=
 (Ru S).mono λr hr h h0=>{h h0 with ok:=by rw[hr,h0]}
@[simp,reducible] def En(e:Env)(n:Nat):List (Nat×V)->Prop
 |[]=>e.n=n
 |(k,v)::l=>e.get k=v/\En e n l
@[simp,reducible] def Ek(e0 e:Env)(l:List (Nat×V)):List Nat->Prop
 |[]=>En e e0.n l
 |k::ks=>e.get k=e0.get k/\Ek e0 e l ks
theorem Ek.an{e0 e:Env}{l:List (Nat×V)}{ks:List Nat}{p:Prop}(a:Ek e0 e l ks)(b:p):Ek e0 e l ks/\p:=⟨a,b⟩
def Z8(xs:List (List C))(sp:List C):List C:=xs.flatten++sp
def Zr(n:Nat)(xs:List (List C)):Prop:=∀x∈xs,x.length=n
theorem Zr.nil{n:Nat}:Zr n []:=by simp[Zr]
theorem Zr.cons{n:Nat}{x xs}:Zr n (x::xs)↔x.length=n/\Zr n xs:=by simp[Zr]
theorem Zr.append{n:Nat}{xs ys}:Zr n (xs++ys)↔Zr n xs/\Zr n ys:=by
 simp only[Zr,Y2];exact⟨λh=>⟨λy hy=>h y (.inl hy),λy hy=>h y (.inr hy)⟩,λh y hy=>hy.elim (h.1 y) (h.2 y)⟩
theorem Zr.take{n k:Nat}{xs}(h:Zr n xs):Zr n (xs.take k):=λx hx=>h x (XP hx)
theorem Zr.drop{n k:Nat}{xs}(h:Zr n xs):Zr n (xs.drop k):=λx hx=>h x (List.mem_of_mem_drop hx)
theorem Zr.set{n k:Nat}{xs x}(h:Zr n xs)(hx:x.length=n):Zr n (xs.set k x):=λy hy=>by rcases YU hy with h1|rfl;exact h y h1;exact hx
theorem Zr.get{n k:Nat}{xs x}(h:Zr n xs)(hx:xs[k]?=some x):x.length=n:=h x (Y4 hx)
theorem Zr.flatten{n:Nat}:∀{xs:List (List C)},Zr n xs->xs.flatten.length=xs.length*n
 |[],_=>by simp
 |x::xs,h=>by obtain⟨h1,h2⟩:=Zr.cons.1 h;simp[Zr.flatten h2,h1,YG];omega
theorem WL{n:Nat}{xs sp}(h:Zr n xs):(Z8 xs sp).length=xs.length*n+sp.length:=by simp[Z8,h.flatten]
theorem EB{n:Nat}:∀{k:Nat} {xs:List (List C)} {sp:List C},Zr n xs->k<=xs.length->(Z8 xs sp).drop (k*n)=Z8 (xs.drop k) sp
 |0,xs,sp,_,_=>by simp
 |k+1,[],sp,_,hk=>by simp at hk
 |k+1,x::xs,sp,h,hk=>by
   obtain⟨h1,h2⟩:=Zr.cons.1 h;have e:(k+1)*n=x.length+k*n:=by rw[h1,YG];omega
   rw[e];simp only[Z8,Xp,Yy,List.drop_succ_cons];rw[<-Xb,XI];exact EB h2 (by simpa using hk)
theorem EA{n:Nat}:∀{k:Nat} {xs:List (List C)} {sp:List C},Zr n xs->k<=xs.length->(Z8 xs sp).take (k*n)=(xs.take k).flatten
 |0,xs,sp,_,_=>by simp
 |k+1,[],sp,_,hk=>by simp at hk
 |k+1,x::xs,sp,h,hk=>by
   obtain⟨h1,h2⟩:=Zr.cons.1 h;have e:(k+1)*n=x.length+k*n:=by rw[h1,YG];omega
   rw[e];simp only[Z8,Xp,Yy,XU];rw[List.take_length_add_append]
   congr 1
   exact EA h2 (by simpa using hk)
theorem JQ{n k f:Nat}{xs sp x}(h:Zr n xs)(hx:xs[k]?=some x)(hf:f<=n):(Z8 xs sp).drop (k*n+f)=x.drop f++Z8 (xs.drop (k+1)) sp:=by
 have hk:=(Y0.1 hx).1;have hxl:=h.get hx;rw[<-Xb,EB h oM,Ys hk]
 have:xs[k]=x:=(Y0.1 hx).2
 rw[this];simp only[Z8,Xp,Yy];rw[Xa oM]
theorem Vf{n k f m:Nat}{xs sp x}(h:Zr n xs)(hx:xs[k]?=some x)(hf:f+m<=n):Zl m ((Z8 xs sp).drop (k*n+f))=Zl m (x.drop f):=by
 have hxl:=h.get hx;rw[JQ h hx oM];have h1:m<=(x.drop f).length:=sO
 simp only[Zl,h1,if_true,Ye];rw[if_pos oM,X0 h1]
theorem Hj{n k:Nat}{xs sp x}(h:Zr n xs)(hx:xs[k]?=some x):Zl n ((Z8 xs sp).drop (k*n))=some x:=by have h1:=Vf (sp:=sp) (f:=0) (m:=n) h hx oM;simp only[YY,Xx] at h1;rw[h1,<-h.get hx];simp[Zl]
theorem SI{α:Type}{xs:List α}{a:Nat}{x}(h:a<xs.length):(xs.set a x).take (a+1)=xs.take a++[x]:=by rw[Yl (by simpa using h),List.getElem_set_self,List.take_set_of_le (Y7 a)]
theorem Up{n k:Nat}{xs sp}(h:Zr n xs)(hk:k<xs.length):k*n+n<=(Z8 xs sp).length:=by
 rw[WL h]
 have:(k+1)*n<=xs.length*n:=X5 n oM
 rw[YG] at this;omega
theorem Ar{n k f:Nat}{xs sp x vs}(h:Zr n xs)(hx:xs[k]?=some x)(hf:f+vs.length<=n):Zg (Z8 xs sp) (k*n+f) vs=Z8 (xs.set k (Zg x f vs)) sp:=by
 have hk:=(Y0.1 hx).1;have hxl:=h.get hx;have e1:(Z8 xs sp).take (k*n+f)=(xs.take k).flatten++x.take f:=by
  rw[List.take_add,EA h oM,EB h oM,Ys hk]
  have:xs[k]=x:=(Y0.1 hx).2
  rw[this];simp only[Z8,Xp,Yy];rw[X0 oM]
 have e2:(Z8 xs sp).drop (k*n+f+vs.length)=x.drop (f+vs.length)++Z8 (xs.drop (k+1)) sp:=by rw[Nat.add_assoc,JQ h hx oM]
 have e3:xs.set k (Zg x f vs)=xs.take k++Zg x f vs::xs.drop (k+1):=Xc.trans (by rw[if_pos hk]);rw[Zg,e1,e2,e3];simp[Z8,Zg]
def MR(h:HS)(n:Nat)(c:C)(xs:List (List C)):Prop:=
 Zr n xs/\xs.length<=Zs/\((xs=[]/\(c=.nil\/c=.z))\/∃l cap sp,c=.mrow l 0 xs.length cap/\h.box l=some (Z8 xs sp)/\(Z8 xs sp).length=cap*n)
def labs:C->List Z2
 | .mrow l _ _ _=>[l]
 |_=>[]
theorem MR.frame{h h'}{n:Nat}{c xs}(m:MR h n c xs)(hb:∀l∈labs c,h'.box l=h.box l):MR h' n c xs:=by refine⟨m.1,m.2.1,?_⟩;rcases m.2.2 with h1|⟨l,cap,sp,h1,h2,h3⟩;exact .inl h1;exact .inr ⟨l,cap,sp,h1,by rw[hb l (by simp[h1,labs])];exact h2,h3⟩
theorem MR.nil{h}{n:Nat}:MR h n .nil []:=⟨Zr.nil,sI,.inl ⟨rfl,.inl rfl⟩⟩
theorem MR.z{h}{n:Nat}:MR h n .z []:=⟨Zr.nil,sI,.inl ⟨rfl,.inr rfl⟩⟩
theorem MR.block{h}{n:Nat}{c xs}(m:MR h n c xs)(h0:0<xs.length):∃l cap sp,c=.mrow l 0 xs.length cap/\h.box l=some (Z8 xs sp)/\(Z8 xs sp).length=cap*n:=by rcases m.2.2 with h1|h1;rw[h1.1] at h0;simp at h0;exact h1
theorem Da{n off k:Nat}{h l xs}{sp:List C}{cap:Nat}(h0:Zr n xs)(hb:h.box l=some (Z8 xs sp))(hk:off+k<=xs.length):Wg h n (.mrow l (off*n) k cap)=some (((xs.drop off).take k).flatten):=by
 simp only[Wg,hb];rw[EB h0 oM];have h1:=EA (k:=k) (xs:=xs.drop off) (sp:=sp) h0.drop sO;have h2:k*n<=(Z8 (xs.drop off) sp).length:=by
  rw[WL h0.drop]
  have:k*n<=(xs.drop off).length*n:=X5 n sO
  omega
 simp only[Zl,h2,if_true,h1]
theorem Hi{n i:Nat}{xs ys sp}(h0:Zr n xs)(h1:Zr n ys)(hi:i<=xs.length):Zg (Z8 xs sp) (i*n) ys.flatten=Z8 (xs.take i++ys) ((Z8 xs sp).drop ((i+ys.length)*n)):=by rw[Zg,EA h0 hi,h1.flatten,<-YG];simp[Z8]
theorem O1{n:Nat}{xs sp vs}(h0:Zr n xs):Zg (Z8 xs sp) (xs.length*n) vs=Z8 xs (Zg sp 0 vs):=by
 have e1:(Z8 xs sp).take (xs.length*n)=xs.flatten:=by rw[EA h0 (Y7 _)];simp
 have e2:(Z8 xs sp).drop (xs.length*n+vs.length)=sp.drop vs.length:=by rw[<-Xb,EB h0 (Y7 _)];simp[Z8]
 rw[Zg,e1,e2];simp[Z8,Zg]
theorem Ui{cs vs}{o:Nat}(h:o+vs.length<=cs.length):(Zg cs o vs).length=cs.length:=by simp[Zg];omega
theorem Ji{P ty el}{n ab:Nat}{l}{off k cap:Nat}{h cs z f}(aa:Zv P ty=some (el,n,ab))(hz:ZP P el=some z)(hb:h.box l=some cs)(h0:0<n)(ac:off+k*n<=cs.length)
  (hk:f .top (h.qA l (Zg cs off (List.replicate k z).flatten))):Hx P ty (.mrow l off k cap) h (K:=⟨f⟩):=by
 unfold Hx Bq;simp only[aa,hz,hb];exact⟨⟨h0,ac⟩,hk⟩
def Z0(h h':HS)(ls:List Z2):Prop:=h.ep<=h'.ep/\∀k:Z2,k.1<h.ep->k∉ls->h'.box k=h.box k
theorem Z0.refl{h ls}:Z0 h h ls:=⟨Y7 _,λ_ _ _=>rfl⟩
theorem Z0.trans{h h1 h2 ls}(a:Z0 h h1 ls)(b:Z0 h1 h2 ls):Z0 h h2 ls:=⟨Yv a.1 b.1,λk hk hn=>(b.2 k (by have:=a.1;omega) hn).trans (a.2 k hk hn)⟩
theorem Z0.next{h h' ls}(a:Z0 h h' ls):Z0 h h'.next ls:=⟨by have:=a.1;simp;omega,λk hk hn=>a.2 k hk hn⟩
theorem Z0.qC{h h' ls l x}(a:Z0 h h' ls):Z0 h (h'.qC l x) ls:=⟨by simpa using a.1,λk hk hn=>a.2 k hk hn⟩
theorem Z0.qA{h h' ls l cs}(a:Z0 h h' ls)(hl:l∈ls\/h.ep<=l.1):Z0 h (h'.qA l cs) ls:=⟨by simpa using a.1,λk hk hn=>by
 have:k≠l:=by rintro rfl;rcases hl with hl|hl;exact hn hl;omega
 simp[this,a.2 k hk hn]⟩
def keep(p:List D->Bool):List (List C)->List (List D)->List (List C)
 |x::xs,t::ts=>if p t then keep p xs ts else x::keep p xs ts
 |_,_=>[]
theorem Zr.keep{n:Nat}{p}:∀{xs:List (List C)} {ts:List (List D)},Zr n xs->Zr n (keep p xs ts)
 |[],_,_=>by simp[Go.Am.keep,Zr]
 |_::_,[],_=>by simp[Go.Am.keep,Zr]
 |x::xs,t::ts,h=>by obtain⟨h1,h2⟩:=Zr.cons.1 h;unfold Go.Am.keep;split;exact Zr.keep h2;exact Zr.cons.2 ⟨h1,Zr.keep h2⟩
theorem Jz{p}:∀{j:Nat} {xs:List (List C)} {ts:List (List D)} {x:List C} {t:List D},xs[j]?=some x->ts[j]?=some t->
  keep p (xs.take (j+1)) (ts.take (j+1))=if p t then keep p (xs.take j) (ts.take j) else keep p (xs.take j) (ts.take j)++[x]
 |0,x::xs,t::ts,_,_,hx,ht=>by
   simp at hx ht;subst hx ht;simp[keep]
 |j+1,x::xs,t::ts,y,u,hx,ht=>by
   have ih:=Jz (p:=p) (by simpa using hx) (by simpa using ht);simp only[XU,keep] at ih|-;rw[ih]
   split<;>split<;>rfl
 |_,[],_,_,_,hx,_=>by simp at hx
 |_,_::_,[],_,_,_,ht=>by simp at ht
theorem OR{p}:∀{xs:List (List C)} {ts:List (List D)},(keep p xs ts).length<=xs.length
 |[],_=>by simp[keep]
 |_::_,[]=>by simp[keep]
 |x::xs,t::ts=>by
   unfold keep
   have:=OR (p:=p) (xs:=xs) (ts:=ts)
   split<;>simp<;>omega
theorem K6{p}:∀{xs:List (List C)} {ts:List (List D)},xs.length=ts.length->(∀t∈ts,p t=false)->keep p xs ts=xs
 |[],_,_,_=>by simp[keep]
 |_::_,[],h,_=>by simp at h
 |x::xs,t::ts,h,hp=>by
   unfold keep;rw[hp t (by simp),K6 (by simpa using h) (λu hu=>hp u (by simp[hu]))];simp
theorem MR.frz{h}{n:Nat}{c xs}{ts:List (List D)}(m:MR h n c xs)(hl:xs.length=ts.length)(ht:∀t∈ts,t.length=n)(hf:∀(i:Nat) x t,xs[i]?=some x->ts[i]?=some t->Zx h x t):Frz h c (.sl ts):=by
 rcases m.2.2 with⟨h1,h2⟩|⟨l,cap,sp,rfl,hb,_⟩;subst h1
 have:ts=[]:=Yw (by simpa using hl.symm)
 subst this;rcases h2 with rfl|rfl;exact .data rfl;exact .data rfl;rw[hl];refine Frz.mrow (f:=λi j=>((xs[i]?).getD [])[j]?.getD .nil) hb (by rw[<-hl];exact m.2.1) ht (λi t hi j d hd=>?_) (λi t hi j d hd=>?_);have hlt:i<xs.length:=by rw[hl];exact(Y0.1 hi).1
 have hx:=Y1 hlt;have hj:j<n:=by rw[<-ht t (Y4 hi)];exact(Y0.1 hd).1
 have hxl:=m.1.get hx
 have:=JQ (sp:=sp) m.1 hx (f:=j) oM
 have h2:((Z8 xs sp).drop (i*n+j))[0]?=xs[i][j]?:=by rw[this,Yq sO];simp
 simp only[YJ,YY] at h2;rw[Xu,h2,hx];simp[Y1 (oM:j<xs[i].length)];have hlt:i<xs.length:=by rw[hl];exact(Y0.1 hi).1
 have hx:=Y1 hlt;obtain⟨_,hg⟩:=(hf i _ _ hx hi).get;obtain⟨c,hc,aa⟩:=hg j d hd;simp only[hx,Option.getD_some,hc];exact aa
@[simp] theorem Zgw{n:Nat}{vs}:(BG n vs).n=n:=rfl
@[simp] theorem Zfn{n k:Nat}{vs}:(BG n vs).get k=(vs[k]?).getD .undef:=rfl
@[simp] theorem Zf5{P}{k:Nat}{K e h}:ZG P [.tmp k] K .ret e h=K (e.get k) h:=rfl
@[simp] theorem Ze9{P}{k:Nat}{K e h}:ZG P [.tmp k] K .normal e h=K (e.get k) h:=rfl
@[simp] theorem Zea{P K e h}:ZG P [] K .ret e h=K (.tup []) h:=by simp[ZG,Zz]
@[simp] theorem Zdi{P K e h}:ZG P [] K .normal e h=K (.tup []) h:=by simp[ZG,Zz]
theorem WM{a b:Prop}[Decidable a][Decidable b]{c d f}(ha:a)(h1:b->f (.one c))(h2:¬b->f (.one d)):ZK (Option.map V.one (if a then(if b then some c else some d) else none)) (k:=⟨f⟩):=by rw[if_pos ha];by_cases hb:b;rw[if_pos hb];exact h1 hb;rw[if_neg hb];exact h2 hb
theorem sm{h h':HS}{ls:List Z2}(H:Z0 h h' ls:=by repeat' first|exact Z0.refl|apply Z0.next|apply Z0.qC|(refine Z0.qA ?_ (.inr (by simp)))):Z0 h h' ls:=H
def Zk(h:HS)(n:Nat)(c:C)(xs:List (List C)):Prop:=Wg h n c=some xs.flatten/\ZW c=some xs.length/\Zr n xs/\xs.length<=Zs
theorem MR.rd{h:HS}{n:Nat}{c:C}{xs:List (List C)}(m:MR h n c xs):Zk h n c xs:=by
 refine⟨?_,?_,m.1,m.2.1⟩;rcases m.2.2 with⟨h1,rfl|rfl⟩|⟨l,cap,sp,rfl,hb,hcap⟩;subst h1;simp[Wg,C.qE];subst h1;simp[Wg,C.qE]
 have:=Da (n:=n) (off:=0) (k:=xs.length) (cap:=cap) m.1 hb sI
 simpa using this;rcases m.2.2 with⟨h1,rfl|rfl⟩|⟨l,cap,sp,rfl,hb,hcap⟩;subst h1;simp[ZW,C.qE];subst h1;simp[ZW,C.qE];simp[ZW]
theorem Zk.data{h:HS}{n:Nat}{ts:List (List D)}(ht:∀t∈ts,t.length=n)(hl:ts.length<=Zs):Zk h n (.d (.sl ts)) (ts.map (·.map C.d)):=by refine⟨?_,by simp[ZW,C.qE],?_,by simpa using hl⟩;show(if∀x∈ts,x.length=n then some (ts.flatten.map C.d) else none)=_;rw[if_pos ht,XA];intro x hx;simp at hx;obtain⟨t,h1,rfl⟩:=hx;simpa using ht t h1
theorem Z71{P:Program}{ty:TypeId}{z:TypeId×Nat×Nat}{h:HS}{n:Nat}{c:C}{xs:List (List C)}{f:V->Prop}(aa:Zv P ty=some z)(hr:Zk h n c xs)(h1:xs=[]->f (Wm true))(h2:f (Wm false)):FF P .eql ty c (K:=⟨f⟩):=by
 have hlen:=hr.2.1;have key:∀ys,c.qE=some ys->ZW c=some ys.length->FF P .eql ty c (K:=⟨f⟩):=λys hy hc=>by
  refine EU aa rfl hy (λb hb=>?_);cases b with
  |false=>exact h2
  |true=>?_
  have:ys=[]:=Classical.byContradiction λh=>by simpa using hb h
  subst this;rw[hc] at hlen;exact h1 (Yw (by simpa using hlen.symm))
 match c,hlen with
 | .d (.sl ys),_=>exact key ys rfl rfl
 | .own _ ys,_=>exact key ys rfl rfl
 | .nil,_=>exact key [] rfl rfl
 | .z,_=>exact key [] rfl rfl
 | .mrow _ _ _ _,_=>exact Z2v aa rfl h2
theorem Z5j{h:HS}{n:Nat}:Vm h n .z=some (0,0,[],none):=rfl
theorem Z7b{P:Program}{ty el:TypeId}{n aa d:Nat}{h:HS}{x:C}{xs:List (List C)}{K:V->HS->Prop}(ab:Zv P ty=some (el,n,aa))(hz:(ZP P el).isSome=true)(h0:0<n)(hb:aa<=4096)(hr:Zk h n x xs)
  (hk:∀c' h',MR h' n c' xs->Z0 h h' []->(∀l∈labs c',h.ep<=l.1/\l.1<h'.ep)->K (.one c') h'):Vv P ty .z x d h (K:=⟨K⟩):=by
 obtain⟨hc,hl,ha,hm⟩:=hr;refine C3 ab Z5j hc hl hz h0 hb (by simpa using hm) ha.flatten sI (λh1=>?_) (λh1 h2=>oM) (λh1 h2 cap' hcap=>?_)
 have:xs=[]:=Yw h1
 subst this;exact hk _ _ MR.z .refl (by simp[labs]);refine hk _ _ ⟨ha,hm,.inr ⟨(h.ep,16*d),cap',List.replicate ((cap'-xs.length)*n) .any,sI,by simp[Z8],?_⟩⟩ ((Z0.refl.qA (.inr (Y7 _))).next) (by simp[labs]);rw[WL ha,X1,<-YG]
 congr 1
 omega
inductive Sh where
 |d
 |r(es:List Sh)
inductive Ow(h:HS):List Sh->List C->List D->List Z2->Prop where
 |nil:Ow h [] [] [] []
 |data {c:C} {x:D} {ss:List Sh} {cs:List C} {ds:List D} {ls:List Z2} (hx:c.toD=some x) (hr:Ow h ss cs ds ls):Ow h (.d::ss) (c::cs) (x::ds) ls
 |emp {es:List Sh} {c:C} {ss:List Sh} {cs:List C} {ds:List D} {ls:List Z2} (hx:c.toD=some (.sl [])) (hr:Ow h ss cs ds ls):Ow h (.r es::ss) (c::cs) (.sl []::ds) ls
 |row {es:List Sh} {c:C} {qs:List (List C×List D×List Z2)} {ss:List Sh} {cs:List C} {ds:List D} {ls:List Z2} (hm:MR h es.length c (qs.map (·.1))) (hq:∀q∈qs,Ow h es q.1 q.2.1 q.2.2)
   (hr:Ow h ss cs ds ls):Ow h (.r es::ss) (c::cs) (.sl (qs.map (·.2.1))::ds) (labs c++qs.flatMap (·.2.2)++ls)
theorem Ow.len{h:HS}{ss:List Sh}{cs:List C}{ds:List D}{ls:List Z2}(o:Ow h ss cs ds ls):cs.length=ss.length/\ds.length=ss.length:=by
 induction o with
 |nil=>simp
 |data hx hr ih=>simp[ih]
 |emp hx hr ih=>simp[ih]
 |row hm hq hr ihq ih=>simp[ih]
theorem Ow.frame{h h':HS}{ss:List Sh}{cs:List C}{ds:List D}{ls:List Z2}(o:Ow h ss cs ds ls)(hb:∀l∈ls,h'.box l=h.box l):Ow h' ss cs ds ls:=by
 induction o with
 |nil=>exact .nil
 |data hx hr ih=>exact .data hx (ih hb)
 |emp hx hr ih=>exact .emp hx (ih hb)
 |@row es c qs ss cs ds ls hm hq hr ihq ih=>?_
 refine .row (hm.frame λl hl=>hb l (by simp[hl])) (λq aa=>ihq q aa λl hl=>hb l ?_) (ih λl hl=>hb l (by simp[hl]));simp only[Y2,Yx];exact .inl (.inr ⟨q,aa,hl⟩)
theorem Ow.frz{h:HS}{ss:List Sh}{cs:List C}{ds:List D}{ls:List Z2}(o:Ow h ss cs ds ls):Zx h cs ds:=by
 induction o with
 |nil=>trivial
 |data hx hr ih=>exact⟨.data hx,ih⟩
 |emp hx hr ih=>exact⟨.data hx,ih⟩
 |@row es c qs ss cs ds ls hm hq hr ihq ih=>?_
 refine⟨hm.frz sI (λt ht=>?_) (λi x t hx ht=>?_),ih⟩;obtain⟨q,aa,rfl⟩:=Yi.1 ht;exact(hq q aa).len.2;rw[Y8] at hx ht;cases hqi:qs[i]? with
 |none=>rw[hqi] at hx;simp at hx
 |some q=>?_
 rw[hqi] at hx ht;simp only[Yj,Ya] at hx ht;subst hx ht;exact ihq q (Y4 hqi)
theorem Ow.qV{h:HS}{cs:List C}{ds:List D}{ls:List Z2}(o:Ow h [] cs ds ls):cs=[]/\ds=[]/\ls=[]:=by
 cases o;exact⟨rfl,rfl,rfl⟩
theorem Ow.jJ{h:HS}{ss:List Sh}{cs:List C}{ds:List D}{ls:List Z2}(o:Ow h (.d::ss) cs ds ls):∃c x cs' aa,cs=c::cs'/\ds=x::aa/\c.toD=some x/\Ow h ss cs' aa ls:=by
 cases o with
 |data hx hr=>exact⟨_,_,_,_,rfl,rfl,hx,hr⟩
theorem Ow.jV{h:HS}{es ss:List Sh}{cs:List C}{ds:List D}{ls:List Z2}(o:Ow h (.r es::ss) cs ds ls):(∃(c:C) (cs':List C) (aa:List D),cs=c::cs'/\ds=.sl []::aa/\c.toD=some (.sl [])/\Ow h ss cs' aa ls)\/
  ∃(c:C) (qs:List (List C×List D×List Z2)) (cs':List C) (aa:List D) (ls':List Z2),cs=c::cs'/\ds=.sl (qs.map (·.2.1))::aa/\ls=labs c++qs.flatMap (·.2.2)++ls'/\
  MR h es.length c (qs.map (·.1))/\(∀q∈qs,Ow h es q.1 q.2.1 q.2.2)/\Ow h ss cs' aa ls':=by
 cases o with
 |emp hx hr=>exact .inl ⟨_,_,_,rfl,rfl,hx,hr⟩
 |row hm hq hr=>exact .inr ⟨_,_,_,_,_,rfl,rfl,rfl,hm,hq,hr⟩
def L7(h:HS)(l:Z2)(ss:List Sh)(ds:List D)(ls:List Z2):Prop:=∃cs,h.box l=some cs/\Ow h ss cs ds ls/\(l::ls).Nodup/\∀k∈l::ls,k.1<h.ep
theorem L7.frame{h h':HS}{l:Z2}{ss:List Sh}{ds:List D}{ls lx:List Z2}(o:L7 h l ss ds ls)(hs:Z0 h h' lx)(hd:∀k∈l::ls,k∉lx):L7 h' l ss ds ls:=by
 obtain⟨cs,hb,ho,hn,hl⟩:=o;have hk:∀k∈l::ls,h'.box k=h.box k:=λk hk=>hs.2 k (hl k hk) (hd k hk);exact⟨cs,by rw[hk l sI];exact hb,ho.frame λk aa=>hk k (by simp[aa]),hn,λk aa=>Y3 (hl k aa) hs.1⟩
theorem Z0.mono{h h':HS}{ls ls':List Z2}(s:Z0 h h' ls)(hl:∀k∈ls,k∈ls'):Z0 h h' ls':=⟨s.1,λk hk hn=>s.2 k hk λhm=>hn (hl k hm)⟩
theorem Z0.drop{h h':HS}{ls ls':List Z2}(s:Z0 h h' ls)(hl:∀k∈ls,k∈ls'\/h.ep<=k.1):Z0 h h' ls':=⟨s.1,λk hk hn=>s.2 k hk λhm=>(hl k hm).elim hn λhe=>absurd hk oM⟩
theorem Z0.trans'{h h1 h2:HS}{ls aa:List Z2}(a:Z0 h h1 ls)(b:Z0 h1 h2 aa)(hl:∀k∈aa,k∈ls\/h.ep<=k.1):Z0 h h2 ls:=
 ⟨Yv a.1 b.1,λk hk hn=>(b.2 k (by have:=a.1;omega) λhm=>(hl k hm).elim hn λhe=>absurd hk oM).trans (a.2 k hk hn)⟩
theorem Ow.qL{h:HS}:∀{ds:List D},Ow h (ds.map λ_=>Sh.d) (ds.map C.d) ds []
 |[]=>.nil
 |_::_=>.data rfl Ow.qL
def PV(h:HS):Prop:=∀l cs,h.box l=some cs->l.1<h.ep
theorem Z3.jE{P:Program}{h:HS}{f:FuncId}{fn:Func}{c:Code}{vs:List V}{K:V->HS->Prop}(hf:P.funcs[f]?=some fn)(hb:fn.body=some c)(aa:(fn.name== "runtime.NumGoroutine")=false)(hg:PV h->Z3 P f vs h K):Z3 P f vs h K:=
 ⟨⟨fn,hf,aa,by rw[hb];rfl⟩,λΓ μ w vals hI hR=>(hg λl cs hl=>by obtain⟨b,n,T,conc,h1,_⟩:=hI.box l cs hl;exact hI.lt l (by rw[h1];simp)).2 Γ μ w vals hI hR⟩
theorem Z0.jA{h h':HS}(s:Z0 h h' [])(g:PV h):Zo h h':=λl cs hl=>by rw[s.2 l (g l cs hl) sI,hl]
theorem Z2k{a b:Nat}{xs u v:List C}(h1:Zl a xs=some u)(h2:Zl b (xs.drop a)=some v):Zl (a+b) xs=some (u++v):=by unfold Zl at*;split at h1;split at h2;rename_i h3 h4;simp only[YZ] at h4;rw[if_pos oM,List.take_add];simp only[Ya] at h1 h2;rw[h1,h2];cases h2;cases h1
theorem Z4s{cs l:List C}(h:∀i,i<l.length->cs[i]?=l[i]?):Zl l.length cs=some l:=by
 have hl:l.length<=cs.length:=by
  by_cases h0:l.length=0;omega
  have:=h (l.length-1) oM
  rw[Y1 (oM:l.length-1<l.length)] at this
  have:=(Y0.1 this).1
  omega
 unfold Zl;rw[if_pos hl]
 congr 1
 refine Xy λi=>?_;by_cases hi:i<l.length;rw[XE hi,h i hi];rw[YK sO,YK oM]
theorem N0{n:Nat}{cs:List C}:∀{ts:List (List D)} {off:Nat},(∀t∈ts,t.length=n)->(∀(i:Nat) x,ts[i]?=some x->∀(j:Nat) d,x[j]?=some d->cs[off+(i*n+j)]?=some (.d d))->
  Zl (ts.length*n) (cs.drop off)=some (ts.map (·.map C.d)).flatten\/(ts.length*n=0/\ts.flatten=[])
 |[],off,_,_=>.inr (by simp)
 |t::ts,off,ht,hc=>by
   have h0:=ht t sI;refine .inl ?_;have h1:Zl n (cs.drop off)=some (t.map C.d):=by
    have:=Z4s (cs:=cs.drop off) (l:=t.map C.d) (λi hi=>by
     simp only[Yh] at hi
     have:=hc 0 t sI i t[i] (Y1 hi)
     rw[YJ,Y8,Y1 hi];simpa using this)
    rw[Yh,h0] at this;exact this
   have ih:=N0 (cs:=cs) (ts:=ts) (off:=off+n) (λx hx=>ht x (by simp[hx])) (λi x hx j d hd=>by
    have:=hc (i+1) x (by simpa using hx) j d hd
    rw[show off+n+(i*n+j)=off+((i+1)*n+j) by rw[YG];omega];exact this)
   have h2:Zl (ts.length*n) ((cs.drop off).drop n)=some (ts.map (·.map C.d)).flatten:=by
    rw[Xb];rcases ih with h|⟨h,h'⟩;exact h;rw[h]
    have:(ts.map (·.map C.d)).flatten=[]:=by rw[<-XA,h'];rfl
    rw[this];simp[Zl]
   have:=Z2k h1 h2
   rw[show(t::ts).length*n=n+ts.length*n by simp[YG];omega];simpa using this
theorem Frz.flat{h:HS}{c:C}{x:D}(f:Frz h c x)(hx:x.flat=true):c=.d x:=by
 cases f with
 |data h1=>
   cases c<;>simp[C.toD] at h1;rw[h1]
   all_goals (subst h1;simp[D.flat] at hx)
 |mrow=>simp[D.flat] at hx
theorem Frz.rowAt{h:HS}{c:C}{ts:List (List D)}{n:Nat}(f:Frz h c (.sl ts))(ht:∀t∈ts,t.length=n/\∀d∈t,d.flat=true)(hl:ts.length<=Zs):Zk h n c (ts.map (·.map C.d)):=by
 have hall:Zr n (ts.map (·.map C.d)):=by intro x hx;obtain⟨t,h1,rfl⟩:=Yi.1 hx;simpa using(ht t h1).1
 have key:∀c,c.qE=some ts->Zk h n c (ts.map (·.map C.d)):=by
  intro c hc;have h1:∀x∈ts,x.length=n:=λx hx=>(ht x hx).1;have h2:ts.flatten.map C.d=(ts.map (·.map C.d)).flatten:=XA;cases c<;>simp[C.qE] at hc
  all_goals exact⟨by simp only[Wg,C.qE,hc];first|(rw[if_pos h1,h2])|(subst hc;simp),by simp[ZW,C.qE,hc],hall,by simpa using hl⟩
 cases f with|data h1=>?_|@mrow l off cap es xs cs g hb hl hes hc hf=>?_;refine key c ?_;cases c<;>simp[C.toD] at h1;subst h1;rfl;subst h1;rfl;subst h1;rfl;subst h1;rfl;refine⟨?_,by simp[ZW],hall,by simpa using hl⟩;simp only[Wg,hb];have h1:∀t∈ts,t.length=n:=λt h=>(ht t h).1
 have:=N0 (n:=n) (cs:=cs) (ts:=ts) (off:=off) h1 (λi x hx j d hd=>by have aa:=Y4 hx;have e:es=n:=(hes x aa).symm.trans (h1 x aa);have h3:=hc i x hx j d hd;rw[e] at h3;rw[h3,(hf i x hx j d hd).flat ((ht x aa).2 d (Y4 hd))])
 rcases this with h|⟨h,h'⟩;exact h;rw[h]
 have:(ts.map (·.map C.d)).flatten=[]:=by rw[<-XA,h'];rfl
 rw[this];simp[Zl]
theorem Z0.mn{h h':HS}{ls l2:List Z2}(s:Z0 h h' ls)(H:∀k∈ls,k∈l2:=by simp):Z0 h h' l2:=s.mono H
theorem EY{p:Prop}(H:p:=by
   refine Z3.jE F rfl (by kernel_rfl) λhg=>?_;refine Z3.ov F ?_;simp;refine Z71 EL hr (λh1=>?_) ?_;subst h1;simp;exact hk _ _ MR.nil .refl (by simp[labs]) (Zo.refl h);simp;refine Z59 (by simp) ?_;simp;refine Z7b EL (by kernel_rfl) (by decide) (by decide) hr (λc' h' hm hs hl=>?_);simp;exact hk _ _ hm hs hl (hs.jA hg)):p:=H
theorem OW{n:Nat}{h:HS}{l:Z2}{cap i j m o:Nat}{xs:List (List C)}{K:V->HS->Prop}(hall:Zr n xs)(hlim:xs.length<=Zs)(hij:i<=j)(hj:j<=xs.length)
  (hk:∀c' h',MR h' n c' (xs.take i++xs.drop j)->(∀k,k∉labs (.mrow l 0 xs.length cap)->h'.box k=h.box k)->h'.ep=h.ep->h'.arr=h.arr->labs c'=labs (.mrow l 0 xs.length cap)->K (.one c') h')(hm:i+(xs.length-j)=m)
  {sp1 vs:List C}{h1:HS}(hl:(Z8 (xs.take i++xs.drop j) sp1).length=cap*n)(ho:o=m*n)(hv:o+vs.length<=cap*n)(hs:∀k,k≠l->h1.box k=h.box k)(he:h1.ep=h.ep)(ha:h1.arr=h.arr):
  K (.one (.mrow l 0 m cap)) (h1.qA l (Zg (Z8 (xs.take i++xs.drop j) sp1) o vs)):=by
 have hlen:(xs.take i++xs.drop j).length=m:=sO;have aa:Zr n (xs.take i++xs.drop j):=Zr.append.2 ⟨hall.take,hall.drop⟩;have e2:=O1 (sp:=sp1) (vs:=vs) aa;rw[hlen,<-ho] at e2;rw[e2];refine hk _ _ ⟨aa,by rw[hlen];omega,.inr ⟨l,cap,Zg sp1 0 vs,by rw[hlen],sI,?_⟩⟩ (λk ab=>?_) he ha rfl;rw[<-e2,Ui oM,hl]
 have:k≠l:=by simpa[labs] using ab
 simp[this,hs k this]
theorem Z76{n cap i j:Nat}{h:HS}{l:Z2}{xs:List (List C)}{sp:List C}(hj:xs.length<=j)(hb:h.box l=some (Z8 xs sp))(hcap:(Z8 xs sp).length=cap*n):
  ∃sp1,h.box l=some (Z8 (xs.take i++xs.drop j) sp1)/\(Z8 (xs.take i++xs.drop j) sp1).length=cap*n:=by
 refine⟨(xs.drop i).flatten++sp,?_,?_⟩;rw[hb,YQ hj];simp[Z8,<-Yy,<-Xo];rw[<-hcap,YQ hj];simp[Z8,<-Yy,<-Xo]
theorem Z75{n cap i j:Nat}{xs:List (List C)}{sp:List C}(hall:Zr n xs)(hi:i<=xs.length)(hij:i<=j)(hj:j<=xs.length)(hcap:(Z8 xs sp).length=cap*n)(hc:xs.length<=cap):
  ∃sp1,Zg (Z8 xs sp) (0+i*n) (xs.drop j).flatten=Z8 (xs.take i++xs.drop j) sp1/\(Z8 (xs.take i++xs.drop j) sp1).length=cap*n:=by
 refine⟨_,by rw[Xu,Hi hall hall.drop hi],?_⟩;rw[<-Hi hall hall.drop hi,Ui,hcap];rw[hall.drop.flatten,<-YG,hcap,YZ];exact X5 n oM
theorem Z6z{n cap i:Nat}{h:HS}{l:Z2}{xs:List (List C)}{sp:List C}(hall:Zr n xs)(hb:h.box l=some (Z8 xs sp))(hi:i<=xs.length):Vm h n (.mrow l 0 i cap)=some (i,cap,(xs.take i).flatten,some (l,0)):=by
 have:=Da (off:=0) (k:=i) (cap:=cap) hall hb oM
 simp only[Nat.zero_mul,Xx] at this;simp only[Vm,this]
theorem Fo{p:Prop}(H:p:=by
   obtain⟨hall,hlim,h1|⟨l,cap,sp,rfl,hb,hcap⟩⟩:=hm
   .obtain⟨rfl,hc⟩:=h1;obtain rfl:j=0:=by simpa using hj
    obtain rfl:i=0:=by omega
    refine Z3.ov F ?_;rcases hc with rfl|rfl<;>simp<;>exact hk _ _ (by first|(simpa using MR.nil)|(simpa using MR.z)) (λ_ _=>rfl) rfl rfl rfl
   .have hlen:xs.length<=cap:=by have h1:=WL (sp:=sp) hall;omega
    have hi:i<=xs.length:=by omega
    refine Z3.ov F ?_;simp;refine WM ⟨⟨hij,hj⟩,hlen⟩ (λ_=>?_) (λ_=>?_)
    all_goals
     simp;refine Aq (λhe=>?_) (λhne=>?_)
     .simp;obtain rfl:i=j:=by simp at he;omega
      refine hk _ _ ⟨?_,?_,.inr ⟨l,cap,sp,?_,?_,?_⟩⟩ (λ_ _=>rfl) rfl rfl rfl<;>simp[*]
     .simp;have hlt:i<j:=by
       have:(i:Int)≠j:=by simpa using hne
       omega
      have hjc:j<=cap:=by omega
      have hic:i<=cap:=by omega
      have hc0:0<cap:=by omega
      refine Z4.of (Wi.draw (Plan.qB [0,1,2,3,4,5,6,7] .done) follows (by kernel_rfl) ?_);simp[hjc,hic,hlen,hj,hc0];have happ:=Z6z (cap:=cap) hall hb hi;have hxt:(xs.drop j).take (xs.length-j)=xs.drop j:=Yr (by simp);generalize hm:i+(xs.length-j)=m at*;have hm3:m<xs.length:=by omega
      have hm2:m<=xs.length:=by omega
      have hm4:m<cap:=by omega
      by_cases hjc2:j<cap
      all_goals
       simp[hjc2]
       first
       |refine C3 EL happ (by have:=Da (off:=j) (k:=xs.length-j) (cap:=cap-j) hall hb (by omega);rw[hxt] at this;first|exact this|simpa using this) (m:=xs.length-j) rfl (by simp) (by decide) (by decide) (by simp at hlim|-;omega) ?_ ?_ (λh0=>?_) (λh0 _=>?_) (λ_ _=>by omega)
       |refine C3 EL happ (new:=[]) (m:=0) (by simp[Wg]) rfl (by simp) (by decide) (by decide) (by simp at hlim|-;omega) rfl ?_ (λh0=>?_) (λh0=>absurd h0 (by omega)) (λh0=>absurd h0 (by omega))
       all_goals first
       |(rw[hall.drop.flatten];simp;done)
       |(rw[hall.take.flatten];simp;omega)
       | (obtain⟨sp1,hb2,hl2⟩:=Z76 (i:=i) (j:=j) (by omega) hb hcap
          obtain rfl:i=m:=by omega
          simp[hjc2,hlen,hm2,hm3,hm4];refine Ji EL ZE hb2 (by decide) (by rw[hl2];omega) ?_;simp;exact OW hall hlim hij hj hk hm hl2 (by simp) (by simp;omega) (λ_ _=>rfl) rfl rfl)
       | (rintro l' off he'
          simp only[Ya,Yt] at he';obtain⟨rfl,rfl⟩:=he';obtain⟨sp1,e1,hl2⟩:=Z75 hall hi hij hj hcap hlen;refine⟨_,hb,by rw[hcap];omega,?_⟩;rw[e1,hm];simp[hjc2,hlen,hm2,hm3,hm4];refine Ji EL ZE (by simp;rfl) (by decide) (by rw[hl2];omega) ?_;simp;exact OW hall hlim hij hj hk hm hl2 (by simp) (by simp;omega) (λk hk=>by simp[hk]) rfl rfl)):p:=H
def PE:List D->AV
 |[d]=>.one (.d d)
 |ds=>.agg ds
def HM(n:Nat)(h:HS)(l:Z2)(cap:Nat)(ys:List (List C))(sp:List C):Prop:=Zr n ys/\h.box l=some (Z8 ys sp)/\(Z8 ys sp).length=cap*n
theorem Z2j{n:Nat}{x:List C}(h:x.length=n):Zl n x=some x:=by subst h;simp[Zl]
theorem T5{cs vs:List C}(h:cs.length<=vs.length):Zg cs 0 vs=vs:=by simp[Zg,YQ h]
theorem Z5b{n cap a o:Nat}{h h1:HS}{l:Z2}{xs ys:List (List C)}{ts:List (List D)}{p:List D->Bool}{sp vs:List C}{K:V->HS->Prop}(hall:Zr n xs)(hlim:xs.length<=Zs)(hya:Zr n ys)(hyk:ys.take a=keep p xs ts)(ha:a<=ys.length)
  (hl:(Z8 ys sp).length=cap*n)(hs:Z0 h h1 [l])(ho:o=a*n)(hv:o+vs.length<=cap*n)
  (hk:∀c' h',MR h' n c' (keep p xs ts)->Z0 h h' (labs (.mrow l 0 xs.length cap))->labs c'=labs (.mrow l 0 xs.length cap)->K (.one c') h'):K (.one (.mrow l 0 a cap)) (h1.qA l (Zg (Z8 ys sp) o vs)):=by
 have aa:(ys.take a).length=a:=sO;have ab:Z8 ys sp=Z8 (ys.take a) ((ys.drop a).flatten++sp):=by simp only[Z8,<-Yy,<-Xo,YI]
 have e:=O1 (sp:=(ys.drop a).flatten++sp) (vs:=vs) (hya.take (k:=a));rw[aa,<-ab,hyk,<-ho] at e;rw[e];refine hk _ _ ⟨hall.keep,?_,.inr ⟨l,cap,_,by rw[<-hyk,aa],J5.trans (if_pos rfl),?_⟩⟩ (hs.qA (l:=l) (.inl sI)) rfl
 have:=OR (p:=p) (xs:=xs) (ts:=ts);omega
 rw[<-e,Ui oM,hl]
theorem He{q:Prop}(H:q:=by
   refine Z3.ov F ?_;simp;refine Za (Z3.qD hidx ⟨.one (.frz (hm.frz hl ht (hf h .refl))),.one hcf,trivial⟩ rfl ?_);simp;refine Aq (λhe=>?_) (λhne=>?_)
   .simp;have hall:∀t∈ts,p t=false:=by
     intro t htm;cases hfi:ts.findIdx? p with
     |none=>simpa using List.findIdx?_eq_none_iff.1 hfi t htm
     |some i=>rw[hi0,hfi] at he;simp at he
    exact hk _ _ (by rw[K6 hl hall];exact hm.frame λ_ _=>rfl) (Z0.refl.next) rfl
   .obtain⟨i,hfi,rfl⟩:∃i,ts.findIdx? p=some i/\i0=(i:Int):=by
     cases hfi:ts.findIdx? p with
     |none=>rw[hi0,hfi] at hne;simp at hne
     |some i=>rw[hfi] at hi0;exact⟨i,rfl,hi0⟩
    obtain⟨hit,hpi,hbef⟩:=List.findIdx?_eq_some_iff_getElem.1 hfi;obtain⟨l,cap,sp,rfl,hb,hcap⟩:=hm.block (by omega);have hlim:xs.length<=2097152:=hm.2.1;have hall:=hm.1;have hlen:xs.length<=cap:=by have h1:=WL (sp:=sp) hall;omega
    have hw0:IntKind.i64.wrap ((i:Int)+1)=(i:Int)+1:=Y5 _ (by omega);have hk0:keep p (xs.take (i+1)) (ts.take (i+1))=xs.take i:=by
     rw[Jz (x:=xs[i]'(by omega)) (t:=ts[i]) (Y1 _) (Y1 _),if_pos hpi];refine K6 (by simp;omega) (λt htm=>?_);obtain⟨j,hj,rfl⟩:=Yz htm;simp only[YE] at hj;rw[List.getElem_take];simpa using hbef j (by omega)
    simp[hw0];refine Z4.rounds (λn e h'=>∃(a j:Nat) (ys:List (List C)),n=xs.length-j/\a<j/\j<=xs.length/\ys.length=xs.length/\ys.take a=keep p (xs.take j) (ts.take j)/\ys.drop j=xs.drop j/\
     e.n=42/\e.get 0=.one (.mrow l 0 xs.length cap)/\e.get 1=.one (.fn g caps)/\e.get 5=.i (a:Int)/\e.get 6=.i (j:Int)/\Z0 h h' [l]/\∃sp',B h' l cap ys sp') (xs.length-(i+1))
     ⟨i,i+1,xs,rfl,by omega,by omega,rfl,by rw[hk0],rfl,by simp,by simp,by simp,by simp,by simp,Z0.refl.next,sp,by rw[hB];exact⟨hall,hb,hcap⟩⟩ ?_
    rintro n e h' ⟨a,j,ys,rfl,haj,hj,hyl,hyk,hyd,hn,h0,h1,h5,h6,hs,sp',hbb⟩;rw[hB] at hbb;obtain⟨hya,hb',hl'⟩:=hbb;simp[h0,h1,h5,h6,hn];refine WR (λhlt=>?_) (λhge=>?_)
    .have hwj:IntKind.i64.wrap ((j:Int)+1)=(j:Int)+1:=Y5 _ (by omega);have hwa:IntKind.i64.wrap ((a:Int)+1)=(a:Int)+1:=Y5 _ (by omega);have hjt:j<ts.length:=by omega
     obtain⟨x,hxj⟩:∃x,xs[j]?=some x:=⟨_,Y1 hlt⟩;have hxl:=hall.get hxj
     first|(obtain⟨x0,hx0⟩:=List.length_eq_one_iff.1 hxl)|(have hx0:True:=trivial)
     have hT:=Z2j hxl;have hsc:∀z:List C,z.length<=x.length->Zg z 0 x=x:=λ_=>T5;have hxn:x≠[]:=by rintro rfl;simp at hxl
     obtain⟨tj,htj⟩:∃t,ts[j]?=some t:=⟨_,Y1 hjt⟩;have hyj:ys[j]?=some x:=by
      have h1:(ys.drop j)[0]?=(xs.drop j)[0]?:=by rw[hyd]
      simpa[hxj] using h1
     have hrd:=Hj (sp:=sp') hya hyj
     try simp only[Nat.mul_one] at hrd
     have hkt:=Jz (p:=p) hxj htj;have hne':l≠(h'.ep,112):=by have h1:=hlab l (by simp[labs]);have h2:=hs.1;rintro rfl;simp at h1;omega
     simp[h0,h1,h5,h6,hn,hlt,hb',hrd,hT,hxn,hxl,hsc]
     try simp only[hx0]
     try simp[h0,h1,h5,h6,hn]
     have hs2:∀z,Z0 h ((h'.qA (h'.ep,112) z).next.qA (h'.ep,112) x) [l]:=λz=>Z0.qA (Z0.qA hs (.inr hs.1)).next (.inr hs.1)
     first
     |refine Za (Z3.qD (hp tj (Y4 htj)) ⟨.agg (hf _ (hs2 _) j _ _ hxj htj),hcv _ (hs2 _)⟩ rfl ?_)
     | (obtain⟨d,hd⟩:=List.length_eq_one_iff.1 (ht tj (Y4 htj))
        refine Za (Z3.qD (hp tj (Y4 htj)) ⟨(by rw[hd];exact .one (.frz (by have h9:=hf _ hs j _ _ hxj htj;rw[hx0,hd] at h9;exact h9.1))),hcv _ hs⟩ rfl ?_))
     simp[h0,h1,h5,h6,hn];cases hpt:p tj with
     |true=>
       rw[hpt,if_pos rfl] at hkt;simp[h0,h1,h5,h6,hn,hwj];refine Ud.of (n':=xs.length-(j+1)) (by omega) ⟨a,j+1,ys,rfl,by omega,by omega,hyl,by rw[hkt,hyk],by rw[<-Xb,hyd,Xb],by simp[hn],by simp[h0],by simp[h1],by simp[h5],by simp,by first|exact(hs2 _).next|exact hs.next,sp',by rw[hB];exact⟨hya,by simp[hne',hb'],hl'⟩⟩
     |false=>
       rw[hpt] at hkt;simp only[YH,if_false] at hkt;have haj2:a<xs.length:=by omega
       have hst:=Ar (sp:=sp') (k:=a) (f:=0) (vs:=x) (x:=ys[a]'(by omega)) hya (Y1 _) (by omega);have hlen2:=Up (sp:=sp') (k:=a) hya (by omega);have hxa:=hya.get (k:=a) (Y1 (by omega));rw[hsc _ (by omega)] at hst;simp only[YY] at hst
       try simp only[Nat.mul_one] at hst hlen2
       simp[h0,h1,h5,h6,hn,hwj,haj2,hne',hb',hwa,hxl,hT,hxn,hsc]
       try refine⟨hlen2,?_⟩
       refine Ud.of (n':=xs.length-(j+1)) (by omega) ⟨a+1,j+1,ys.set a x,rfl,by omega,by omega,by simpa using hyl,?_,?_,by simp[hn],by simp[h0],by simp[h1],by simp,by simp,by first|exact((hs2 _).next).qA (.inl (by simp))|exact hs.next.qA (.inl (by simp)),sp',?_⟩
       .rw[hkt,<-hyk,SI (by omega)]
       .rw[List.drop_set_of_lt (by omega),<-Xb,hyd,Xb]
       .rw[hB];exact⟨hya.set hxl,by first|(simp[hst];done)|(simp;rw[<-hx0];exact hst),by rw[WL (hya.set hxl),YT,<-WL (sp:=sp') hya,hl']⟩
    .obtain rfl:j=xs.length:=by omega
     have hyk2:ys.take a=keep p xs ts:=by rw[hyk,Yr (Y7 _),Yr (by omega)]
     have hac:a<cap:=by omega
     have hale:a<=xs.length:=by omega
     simp[h0,h1,h5,h6,hn];refine WM ⟨hale,hlen⟩ (λ_=>?_) (λh=>absurd hac h);simp[h0,h1,h5,h6,hn];refine Ji EL ZE hb' (by decide) (by rw[hl'];omega) ?_;simp[h0,h1,h5,h6,hn,hlen,hac];refine WM (by omega) (λ_=>?_) (λh=>absurd (by omega) h);simp[hn];exact Z5b hall hlim hya hyk2 (by omega) hl' hs (by simp) (by simp;omega) hk):q:=H
theorem CN(h:HS)(c:C)(xs:List (List C))(hr:Zk h 1 c xs)(K:V->HS->Prop)
  (hk:∀c' h',MR h' 1 c' xs->Z0 h h' []->(∀l∈labs c',h.ep<=l.1/\l.1<h'.ep)->Zo h h'->K (.one c') h'):
  Z3 prog 113 [.one c] h K:=by
 have F:=Tryz.func113;have EL:=@Bs;exact EY
theorem QX(h:HS)(c:C)(xs:List (List C))(hr:Zk h 3 c xs)(K:V->HS->Prop)
  (hk:∀c' h',MR h' 3 c' xs->Z0 h h' []->(∀l∈labs c',h.ep<=l.1/\l.1<h'.ep)->Zo h h'->K (.one c') h'):
  Z3 prog 132 [.one c] h K:=by
 have F:=Tryz.func132;have EL:=@BZ;exact EY
theorem Ql(h:HS)(c:C)(xs:List (List C))(hr:Zk h 7 c xs)(K:V->HS->Prop)
  (hk:∀c' h',MR h' 7 c' xs->Z0 h h' []->(∀l∈labs c',h.ep<=l.1/\l.1<h'.ep)->Zo h h'->K (.one c') h'):
  Z3 prog 111 [.one c] h K:=by
 have F:=Tryz.func111;have EL:=@C5;exact EY
theorem Q7(h:HS)(c:C)(xs:List (List C))(ts:List (List D))(g:FuncId)(caps:List Cap)(aa:List (List D))(p:List D->Bool)(i0:Int)(hm:MR h 7 c xs)(hlab:∀k∈labs c,k.1<h.ep)(hl:xs.length=ts.length)
  (ht:∀t∈ts,t.length=7)(hf:∀h',Z0 h h' (labs c)->∀(i:Nat) (x:List C) (t:List D),xs[i]?=some x->ts[i]?=some t->Zx h' x t)
  (hcv:∀h',Z0 h h' (labs c)->VN h' (caps.map WX) (We aa))(hcf:LendC h (.fn g caps) (.fn g aa))
  (hp:∀t∈ts,Zj prog g (.agg t::We aa) (.b (p t)))
  (hidx:Zj prog 237 [.l ts,.one (.fn g aa)] (.i i0))(hi0:i0=match ts.findIdx? p with|some i=>(i:Int)|none=>-1)(K:V->HS->Prop)
  (hk:∀c' h',MR h' 7 c' (keep p xs ts)->Z0 h h' (labs c)->labs c'=labs c->K (.one c') h'):
  Z3 prog 212 [.one c,.one (.fn g caps)] h K:=by
 have F:=Tryz.func212;have EL:=@C5;have ZE:=@JK;obtain⟨B,hB⟩:∃B,B=HM 7:=⟨_,rfl⟩;exact He
theorem Q6(h:HS)(c:C)(xs:List (List C))(ts:List (List D))(g:FuncId)(caps:List Cap)(aa:List (List D))(p:List D->Bool)(i0:Int)(hm:MR h 3 c xs)(hlab:∀k∈labs c,k.1<h.ep)(hl:xs.length=ts.length)
  (ht:∀t∈ts,t.length=3)(hf:∀h',Z0 h h' (labs c)->∀(i:Nat) (x:List C) (t:List D),xs[i]?=some x->ts[i]?=some t->Zx h' x t)
  (hcv:∀h',Z0 h h' (labs c)->VN h' (caps.map WX) (We aa))(hcf:LendC h (.fn g caps) (.fn g aa))
  (hp:∀t∈ts,Zj prog g (.agg t::We aa) (.b (p t)))
  (hidx:Zj prog 116 [.l ts,.one (.fn g aa)] (.i i0))(hi0:i0=match ts.findIdx? p with|some i=>(i:Int)|none=>-1)(K:V->HS->Prop)
  (hk:∀c' h',MR h' 3 c' (keep p xs ts)->Z0 h h' (labs c)->labs c'=labs c->K (.one c') h'):
  Z3 prog 210 [.one c,.one (.fn g caps)] h K:=by
 have F:=Tryz.func210;have EL:=@Fc;have ZE:=@JJ;obtain⟨B,hB⟩:∃B,B=HM 3:=⟨_,rfl⟩;exact He
theorem Qk(h:HS)(c:C)(xs:List (List C))(ts:List (List D))(g:FuncId)(caps:List Cap)(aa:List (List D))(p:List D->Bool)(i0:Int)(hm:MR h 3 c xs)(hlab:∀k∈labs c,k.1<h.ep)(hl:xs.length=ts.length)
  (ht:∀t∈ts,t.length=3)(hf:∀h',Z0 h h' (labs c)->∀(i:Nat) (x:List C) (t:List D),xs[i]?=some x->ts[i]?=some t->Zx h' x t)
  (hcv:∀h',Z0 h h' (labs c)->VN h' (caps.map WX) (We aa))(hcf:LendC h (.fn g caps) (.fn g aa))
  (hp:∀t∈ts,Zj prog g (.agg t::We aa) (.b (p t)))
  (hidx:Zj prog 87 [.l ts,.one (.fn g aa)] (.i i0))(hi0:i0=match ts.findIdx? p with|some i=>(i:Int)|none=>-1)(K:V->HS->Prop)
  (hk:∀c' h',MR h' 3 c' (keep p xs ts)->Z0 h h' (labs c)->labs c'=labs c->K (.one c') h'):
  Z3 prog 208 [.one c,.one (.fn g caps)] h K:=by
 have F:=Tryz.func208;have EL:=@Fe;have ZE:=@JL;obtain⟨B,hB⟩:∃B,B=HM 3:=⟨_,rfl⟩;exact He
theorem Qg(h:HS)(c:C)(xs:List (List C))(i j:Nat)(hm:MR h 7 c xs)(hij:i<=j)(hj:j<=xs.length)(K:V->HS->Prop)
  (hk:∀c' h',MR h' 7 c' (xs.take i++xs.drop j)->(∀l,l∉labs c->h'.box l=h.box l)->h'.ep=h.ep->h'.arr=h.arr->labs c'=labs c->K (.one c') h'):
  Z3 prog 165 [.one c,.i i,.i j] h K:=by
 have F:=Tryz.func165;have EL:=@C5;have ZE:=@JK;exact Fo
theorem Ld(h:HS)(c:C)(xs:List (List C))(i j:Nat)(hm:MR h 3 c xs)(hij:i<=j)(hj:j<=xs.length)(K:V->HS->Prop)
  (hk:∀c' h',MR h' 3 c' (xs.take i++xs.drop j)->(∀l,l∉labs c->h'.box l=h.box l)->h'.ep=h.ep->h'.arr=h.arr->labs c'=labs c->K (.one c') h'):
  Z3 prog 167 [.one c,.i i,.i j] h K:=by
 have F:=Tryz.func167;have EL:=@Fc;have ZE:=@JJ;exact Fo
theorem Lo(h:HS)(c:C)(xs:List (List C))(i j:Nat)(hm:MR h 3 c xs)(hij:i<=j)(hj:j<=xs.length)(K:V->HS->Prop)
  (hk:∀c' h',MR h' 3 c' (xs.take i++xs.drop j)->(∀l,l∉labs c->h'.box l=h.box l)->h'.ep=h.ep->h'.arr=h.arr->labs c'=labs c->K (.one c') h'):
  Z3 prog 169 [.one c,.i i,.i j] h K:=by
 have F:=Tryz.func169;have EL:=@Fe;have ZE:=@JL;exact Fo
end
end Go.Am
