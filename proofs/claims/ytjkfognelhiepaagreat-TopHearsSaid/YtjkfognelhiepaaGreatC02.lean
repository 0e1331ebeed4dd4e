import Derived.Deep.RegionHeld3
import Derived.Test.YtjkfognelhiepaaGreatC01
import Derived.Lib.AppendStr
namespace Go.Proofs.YtjkfognelhiepaaGreat
open Go.RowKit _root_.Go.Proofs.Tryz
set_option maxRecDepth 100000
set_option maxHeartbeats 8000000
section
section
variable {P:Program}{cu:Array Oper}{Q:Exit->Act->World->Prop}{S:World->Prop}{cut:Nat->Bool}
def nth:List Oper->Nat->Option Oper
 | [],_=>none
 | o::_,0=>some o
 | _::l,i+1=>nth l i
theorem ZfM:∀ (l:List Oper) (i:Nat),nth l i=l.toArray[i]?
 | [],i=>by simp[nth]
 | o::l,0=>by simp[nth]
 | o::l,i+1=>by rw[nth,ZfM l i];simp
def Zb0(P:Program)(cu:Array Oper)(Q:Exit->Act->World->Prop)(cut:Nat->Bool)(S:World->Prop):Nat->Array Bool->Bool->Act->World->Prop
 | 0,bV,_,a,w=>Region.ready .any cu bV=[]/\Q .normal a w
 | n+1,bV,live,a,w=>(Region.ready .any cu bV=[]->Q .normal a w) /\
  ∀ i,i∈Region.ready .any cu bV->wpOp P cu Q i (λ a' w'=>((live && !cut i)=true->S w')/\Zb0 P cu Q cut S n (bV.setIfInBounds i true) (live && !cut i) a' w') a w
theorem ZeW:∀ (n:Nat) (bV:Array Bool) (live:Bool) (a:Act) (w:World),Zb0 P cu Q cut S n bV live a w->wpAny P .any cu Q n bV a w
 | 0,_,_,_,_,h=>h
 | n+1,_,_,_,_,h=>⟨h.1,λ i hi=>wpOp_mono (λ _ _ g=>ZeW n _ _ _ _ g.2) (h.2 i hi)⟩
theorem Zev{S':World->Prop}(hw:∀ x,S' x->S x):∀ (n:Nat) (bV:Array Bool) (live:Bool) (a:Act) (w:World),Zb0 P cu Q cut S' n bV live a w->Zb0 P cu Q cut S n bV live a w
 | 0,_,_,_,_,h=>h
 | n+1,_,_,_,_,h=>⟨h.1,λ i hi=>wpOp_mono (λ _ _ g=>⟨λ hc=>hw _ (g.1 hc),Zev hw n _ _ _ _ g.2⟩) (h.2 i hi)⟩
theorem ZgD{i j:Nat}{oj:Oper}{bV:Array Bool}(hi:i∈Region.ready .any cu bV)(hj:j∈Region.ready .any cu bV)(ho:cu[j]? = some oj):
  ∀ e∈oj.after,Region.binds .any e=true->e.on≠i:=by
 obtain⟨_,Tm,nu,eK⟩:=mem_ready.1 hj;rw[ho] at nu;injection nu with nu;subst nu;intro e he hb tC;have h1:=eK e he hb;have h0:=(mem_ready.1 hi).1;rw[tC] at h1;rcases Nat.lt_or_ge i bV.size with h' | h'
 ·simp[h'] at h0 h1;rw[h0] at h1
  cases h1
 ·simp[Array.getElem?_eq_none h'] at h1
theorem Zho{R:World->Prop}{Lv:Bool->Prop}{i:Nat}{oi:Oper}{v:Value}(hi:cu[i]? = some oi)(Bh:Region.noSelect cu=true)
  (hQ:∀ c a w,Q (.panic c) (a.put oi.dst v) w->Q (.panic c) a w) (AF:cut i=false)
  (hR:∀ live x,Lv live->(live=true->S x)->R x)
  (hL:∀ live j oj,Lv live->cu[j]? = some oj->(∀ e∈oj.after,Region.binds .any e=true->e.on≠i)->Lv (live && !cut j)) :
  ∀ (n:Nat) (bV:Array Bool) (live:Bool) (a:Act) (w:World),(∀ j oj,cu[j]? = some oj->j≠i->bV.getD j true=false->(∀ e∈oj.after,Region.binds .any e=true->e.on≠i)->oi.apart cu oj=true) ->
   i∈Region.ready .any cu bV->YieldsIf P cu R oi v a->Lv live->(live=true->S w) ->
   Zb0 P cu Q cut S n (bV.setIfInBounds i true) live (a.put oi.dst v) w->Zb0 P cu Q cut S (n+1) bV live a w:=by
 have hs:=Region.noSelect_spec Bh;have iE:∀ live:Bool,(live && !cut i)=live:=λ live=>by rw[AF];simp
 intro n
 induction n with
 | zero =>
  intro bV live a w _ hr hy hl hS H;refine⟨λ h=>(by rw[h] at hr;cases hr),λ j hj=>?_⟩;by_cases jS:j=i
  ·subst jS;rw[iE];exact hy.wpOp hi (hR live w hl hS) ⟨hS,H⟩
  ·have:=ready_mono hj jS;rw[H.1] at this
   cases this
 | succ n ih =>
  intro bV live a w ke hr hy hl hS H;refine⟨λ h=>(by rw[h] at hr;cases hr),λ j hj=>?_⟩;by_cases jS:j=i
  ·subst jS;rw[iE];exact hy.wpOp hi (hR live w hl hS) ⟨hS,H⟩
  ·obtain⟨tI,oj,pU,_⟩:=mem_ready.1 hj;have dR:=ZgD hr hj pU;have h2:=wpOp_putIf pU (ke j oj pU jS tI dR) (λ cs b=>hs i oi cs b hi) (λ cs b=>hs j oj cs b pU) hQ hy (H.2 j (ready_mono hj jS));refine wpOp_mono (λ a' w' h3=>⟨h3.2.1,ih (bV.setIfInBounds j true) _ a' w' (λ k ok hk wF yV gr=>?_) (ready_mono hr (Ne.symm jS)) h3.1 (hL live j oj hl pU dR) h3.2.1 ?_⟩) h2
   ·refine ke k ok hk wF ?_ gr;by_cases E3:j=k
    ·subst E3;exact tI
    ·rw[getD_set_ne true E3] at yV;exact yV
   ·rw[Array.setIfInBounds_comm _ _ jS];exact h3.2.2
def Z5(P:Program)(cu:Array Oper)(Q:Exit->Act->World->Prop):List (Nat × Nat)->(World->Prop)->Act->World->Prop
 | [],_,a,w=>Q .normal a w
 |(i,k)::r,S,a,w=>∃ o,cu[i]? = some o /\
  if Region.wanted o (yielded cu a.tmps)=true then
   (if k=0 then ∃ v,(∀ w',S w'->(execOp a.eval o).run P w' = .ok (.value v) w')/\Z5 P cu Q r S (a.put o.dst v) w
    else if k=3 then ∃ v,(∀ w',(execOp a.eval o).run P w' = .ok (.value v) w')/\Z5 P cu Q r S (a.put o.dst v) w
    else if k=1 then Oper.wp P o a w (λ a' w'=>∃ S':World->Prop,(∀ x,S' x->S x)/\S' w'/\Z5 P cu Q r S' a' w') Q
    else Oper.wp P o a w (λ a' w'=>Z5 P cu Q r S a' w') Q)
  else Z5 P cu Q r S (a.put o.dst undef) w
def Zar(σ : List (Nat × Nat))(i:Nat):Bool := σ.any λ e=>e.1==i&&e.2==2
def Zov(cu:Array Oper)(σ : List (Nat × Nat))(i:Nat):Bool := σ.all λ e => !(e.2==2)||(match cu[e.1]? with | some o=>o.after.any λ x=>Region.binds .any x&&x.on==i | none=>false)
def Ze2(cu:Array Oper)(τ : List (Nat × Nat)):List (Nat × Nat)->Array Bool->Bool->Bool
 | [],bV,_=>(Region.ready .any cu bV).isEmpty
 |(i,k)::r,bV,live =>
  (if k=0 then(Region.ready .any cu bV).contains i&&Region.free .any cu bV i&&live && !Zar τ i&&Zov cu τ i
   else if k=3 then(Region.ready .any cu bV).contains i&&Region.free .any cu bV i && !Zar τ i
   else if k=1 then Region.ready .any cu bV==[i]&&live && !Zar τ i
   else Region.ready .any cu bV==[i]&&Zar τ i)&&Ze2 cu τ r (bV.setIfInBounds i true) (live && !Zar τ i)
theorem Zow{τ : List (Nat × Nat)}{i j:Nat}{oj:Oper}(h:Zov cu τ i=true)(hj:cu[j]? = some oj)(gr:∀ e∈oj.after,Region.binds .any e=true->e.on≠i):Zar τ j=false:=by
 rcases hc:Zar τ j with _ | _
 ·rfl
 ·simp only[Zar,List.any_eq_true,Bool.and_eq_true,beq_iff_eq] at hc;obtain⟨e,he,h1,h2⟩:=hc;simp only[Zov,List.all_eq_true] at h;have h3:=h e he;rw[h1,hj,h2] at h3;simp only[beq_self_eq_true,Bool.not_true,Bool.false_or,Array.any_eq_true,Bool.and_eq_true,beq_iff_eq] at h3;obtain⟨k,hk,h4,h5⟩:=h3;exact absurd h5 (gr _ (Array.getElem_mem hk) h4)
theorem ZeX{i n:Nat}{bV:Array Bool}{live:Bool}{a:Act}{w:World}(hr:Region.ready .any cu bV=[i])
  (h:wpOp P cu Q i (λ a' w'=>((live && !cut i)=true->S w')/\Zb0 P cu Q cut S n (bV.setIfInBounds i true) (live && !cut i) a' w') a w):Zb0 P cu Q cut S (n+1) bV live a w :=
 ⟨λ h0=>absurd (hr▸h0) ZM,λ j hj=>by
  rw[hr] at hj;have e:j=i:=by simpa using hj
  subst e
  exact h⟩
theorem ZgI(hs:Region.noSelect cu=true)(hQ:∀ c a (d:Option Tmp) v w,Q (.panic c) (a.put d v) w->Q (.panic c) a w)(τ : List (Nat × Nat)):
  ∀ (σ : List (Nat × Nat)) (S:World->Prop) (bV:Array Bool) (live:Bool) (a:Act) (w:World),Ze2 cu τ σ bV live=true->(live=true->S w)->Z5 P cu Q σ S a w ->
   Zb0 P cu Q (Zar τ) S σ.length bV live a w
 | [],_,bV,_,a,w,hc,_,h=>⟨by simpa [Ze2] using hc,h⟩
 |(i,k)::r,S,bV,live,a,w,hc,hS,h=>by
  obtain⟨o,ho,h⟩:=h;simp only[Ze2,Bool.and_eq_true] at hc;obtain⟨fY,oY⟩:=hc;have ih:=λ S a w=>ZgI hs hQ τ r S (bV.setIfInBounds i true) (live && !Zar τ i) a w oY
  show Zb0 P cu Q (Zar τ) S (r.length+1) bV live a w
  by_cases k0:k=0
  ·rw[if_pos k0] at fY;simp only[Bool.and_eq_true,Bool.not_eq_true'] at fY;obtain⟨⟨⟨⟨c1,c2⟩,c3⟩,c4⟩,c5⟩:=fY;have e:(live && !Zar τ i)=live:=by rw[c4];simp
   rw[e] at ih;have F:=λ(v:Value) (hy:YieldsIf P cu S o v a)=>Zho (Lv:=λ b=>b=true) ho hs (λ c a w=>hQ c a _ v w) c4 (λ _ _ h1 h2=>h2 h1) (λ lv j oj h1 hj gr=>by rw[h1,Zow c5 hj gr];rfl) r.length bV live a w
    (λ j oj=>Region.free_spec ho c2 j oj) (by simpa using c1) hy c3 hS
   by_cases hw:Region.wanted o (yielded cu a.tmps)=true
   ·rw[if_pos hw,if_pos k0] at h;obtain⟨v,hv,h⟩:=h;exact F v (Or.inl ⟨hw,hv⟩) (ih _ _ _ hS h)
   ·rw[if_neg hw] at h;exact F undef (Or.inr ⟨by simpa using hw,rfl⟩) (ih _ _ _ hS h)
  ·rw[if_neg k0] at fY;by_cases k3:k=3
   ·rw[if_pos k3] at fY;simp only[Bool.and_eq_true,Bool.not_eq_true'] at fY;obtain⟨⟨c1,c2⟩,c4⟩:=fY;have e:(live && !Zar τ i)=live:=by rw[c4];simp
    rw[e] at ih;have F:=λ(v:Value) (hy:YieldsIf P cu (λ _=>True) o v a)=>Zho (Lv:=λ _=>True) ho hs (λ c a w=>hQ c a _ v w) c4 (λ _ _ _ _=>trivial) (λ _ _ _ _ _ _=>trivial) r.length bV live a w
     (λ j oj=>Region.free_spec ho c2 j oj) (by simpa using c1) hy trivial hS
    by_cases hw:Region.wanted o (yielded cu a.tmps)=true
    ·rw[if_pos hw,if_neg k0,if_pos k3] at h;obtain⟨v,hv,h⟩:=h;exact F v (Or.inl ⟨hw,λ w' _=>hv w'⟩) (ih _ _ _ hS h)
    ·rw[if_neg hw] at h;exact F undef (Or.inr ⟨by simpa using hw,rfl⟩) (ih _ _ _ hS h)
   ·rw[if_neg k3] at fY;by_cases k1:k=1
    ·rw[if_pos k1] at fY;simp only[Bool.and_eq_true,Bool.not_eq_true',beq_iff_eq] at fY;obtain⟨⟨c1,c3⟩,c4⟩:=fY;refine ZeX c1 ?_;have e:(live && !Zar τ i)=true:=by rw[c4,c3];rfl
     rw[e] at ih ⊢;unfold wpOp;simp only[ho];by_cases hw:Region.wanted o (yielded cu a.tmps)=true
     ·rw[if_pos hw,if_neg k0,if_neg k3,if_pos k1] at h;rw[if_pos hw];exact .inl (Oper.wp_mono (λ a' w' ⟨S',h1,h2,h3⟩=>⟨λ _=>h1 _ h2,Zev h1 _ _ _ _ _ (ih S' _ _ (λ _=>h2) h3)⟩) h)
     ·rw[if_neg hw] at h ⊢;exact⟨λ _=>hS c3,ih _ _ _ (λ _=>hS c3) h⟩
    ·rw[if_neg k1] at fY;simp only[Bool.and_eq_true,beq_iff_eq] at fY;obtain⟨c1,c4⟩:=fY;refine ZeX c1 ?_;have e:(live && !Zar τ i)=false:=by rw[c4];simp
     rw[e] at ih ⊢;unfold wpOp;simp only[ho];by_cases hw:Region.wanted o (yielded cu a.tmps)=true
     ·rw[if_pos hw,if_neg k0,if_neg k3,if_neg k1] at h;rw[if_pos hw];exact .inl (Oper.wp_mono (λ a' w' h3=>⟨λ hf=>(by cases hf),ih S _ _ (λ hf=>(by cases hf)) h3⟩) h)
     ·rw[if_neg hw] at h ⊢;exact⟨λ hf=>(by cases hf),ih _ _ _ (λ hf=>(by cases hf)) h⟩
theorem Zji{id:Nat}{a:Act}{w:World}(S:World->Prop)(σ : List (Nat × Nat))(hm:P.follows .mixedOrders=true)
  (hc:(Region.noSelect cu&&(σ.length==cu.size&&Ze2 cu σ σ (Array.replicate cu.size false) true))=true)
  (hQ:∀ c a (d:Option Tmp) v w,Q (.panic c) (a.put d v) w->Q (.panic c) a w) (hS:S w.drew)
  (h:S w.drew->Z5 P cu Q σ S a w.drew):(Code.region id cu true).wp P Q a w:=by
 simp only[Bool.and_eq_true,beq_iff_eq] at hc;obtain⟨h1,h2,h3⟩:=hc;have hw:=ZgI h1 hQ σ σ S _ true a _ h3 (λ _=>hS) (h hS);rw[h2] at hw;exact wp_region_any hm (ZeW _ _ _ _ _ hw)
theorem Zoe{l:List Oper}{i k:Nat}{r:List (Nat × Nat)}{o:Oper}{a:Act}{w:World}(hi:nth l i=some o)(hw:Region.wanted o (yielded l.toArray a.tmps)=false)
  (h:Z5 P l.toArray Q r S (a.put o.dst undef) w):Z5 P l.toArray Q ((i,k)::r) S a w:=⟨o,(ZfM l i).symm.trans hi,by rw[if_neg (by rw[hw];simp)];exact h⟩
theorem Zf{l:List Oper}{i:Nat}{r:List (Nat × Nat)}{o:Oper}{a:Act}{w:World}{v:Value}(hi:nth l i=some o)(hw:Region.wanted o (yielded l.toArray a.tmps)=true)
  (hv:∀ w',S w'->(execOp a.eval o).run P w' = .ok (.value v) w') (h:Z5 P l.toArray Q r S (a.put o.dst v) w):Z5 P l.toArray Q ((i,0)::r) S a w :=
 ⟨o,(ZfM l i).symm.trans hi,by rw[if_pos hw,if_pos rfl];exact⟨v,hv,h⟩⟩
theorem Zi7{l:List Oper}{i:Nat}{r:List (Nat × Nat)}{o:Oper}{a:Act}{w:World}{v:Value}(hi:nth l i=some o)(hw:Region.wanted o (yielded l.toArray a.tmps)=true)
  (hv:∀ w',(execOp a.eval o).run P w' = .ok (.value v) w') (h:Z5 P l.toArray Q r S (a.put o.dst v) w):Z5 P l.toArray Q ((i,3)::r) S a w :=
 ⟨o,(ZfM l i).symm.trans hi,by rw[if_pos hw,if_neg ZJ,if_pos rfl];exact⟨v,hv,h⟩⟩
theorem Zkk{l:List Oper}{i:Nat}{r:List (Nat × Nat)}{o:Oper}{a:Act}{w:World}(hi:nth l i=some o)(hw:Region.wanted o (yielded l.toArray a.tmps)=true)
  (h:∀ K:Act->World->Prop,Shut (∀ (S':World->Prop) a' w',(∀ x,S' x->S x)->S' w'->(S' w'->Z5 P l.toArray Q r S' a' w')->K a' w')->Oper.wp P o a w K Q):Z5 P l.toArray Q ((i,1)::r) S a w :=
 ⟨o,(ZfM l i).symm.trans hi,by rw[if_pos hw,if_neg ZJ,if_neg ZJ,if_pos rfl];exact h _ (λ S' a' w' h1 h2 hW=>⟨S',h1,h2,hW h2⟩)⟩
theorem ZpC{l:List Oper}{i:Nat}{r:List (Nat × Nat)}{o:Oper}{a:Act}{w:World}(hi:nth l i=some o)(hw:Region.wanted o (yielded l.toArray a.tmps)=true)
  (h:∀ K:Act->World->Prop,Shut (∀ a' w',Z5 P l.toArray Q r S a' w'->K a' w')->Oper.wp P o a w K Q):Z5 P l.toArray Q ((i,2)::r) S a w :=
 ⟨o,(ZfM l i).symm.trans hi,by rw[if_pos hw,if_neg ZJ,if_neg ZJ,if_neg ZJ];exact h _ (λ a' w' hW=>hW)⟩
theorem ZpD{a:Act}{w:World}(h:Q .normal a w):Z5 P cu Q [] S a w:=h
end
theorem ZSa{P:Program}{Q:Exit->Act->World->Prop}{S:World->Prop}{l:List Oper}{i k:Nat}{r:List (Nat × Nat)}{o:Oper}{a:Act}{w:World}(h:Z5 P l.toArray Q r S (a.put o.dst undef) w)(hi:nth l i=some o:=by rfl)(hw:Region.wanted o (yielded l.toArray a.tmps)=false:=by rfl):Z5 P l.toArray Q ((i,k)::r) S a w:=Zoe hi hw h
theorem ZSb{P:Program}{Q:Exit->Act->World->Prop}{S:World->Prop}{l:List Oper}{i:Nat}{r:List (Nat × Nat)}{o:Oper}{a:Act}{w:World}{v:Value}(h:Z5 P l.toArray Q r S (a.put o.dst v) w)(hi:nth l i=some o:=by rfl)(hw:Region.wanted o (yielded l.toArray a.tmps)=true:=by rfl)
  (hv:∀ w',(execOp a.eval o).run P w' = .ok (.value v) w':=by intro w';go_simp;with_reducible rfl):Z5 P l.toArray Q ((i,3)::r) S a w:=Zi7 hi hw hv h
theorem ZSc{P:Program}{Q:Exit->Act->World->Prop}{S:World->Prop}{l:List Oper}{i:Nat}{r:List (Nat × Nat)}{o:Oper}{a:Act}{w:World}{v:Value}(h:Z5 P l.toArray Q r S (a.put o.dst v) w)(hi:nth l i=some o:=by rfl)(hw:Region.wanted o (yielded l.toArray a.tmps)=true:=by rfl)
  (hv:∀ w',S w'->(execOp a.eval o).run P w' = .ok (.value v) w':=by intro w' hS;have mu:=hS.cells;go_simp;with_reducible rfl):Z5 P l.toArray Q ((i,0)::r) S a w:=Zf hi hw hv h
theorem ZSd{P:Program}{Q:Exit->Act->World->Prop}{S:World->Prop}{l:List Oper}{i:Nat}{r:List (Nat × Nat)}{o:Oper}{a:Act}{w:World}
  (h:∀ K:Act->World->Prop,Shut (∀ (S':World->Prop) a' w',(∀ x,S' x->S x)->S' w'->(S' w'->Z5 P l.toArray Q r S' a' w')->K a' w')->Oper.wp P o a w K Q) (hi:nth l i=some o:=by rfl) (hw:Region.wanted o (yielded l.toArray a.tmps)=true:=by rfl):Z5 P l.toArray Q ((i,1)::r) S a w:=Zkk hi hw h
theorem ZSe{P:Program}{Q:Exit->Act->World->Prop}{S:World->Prop}{l:List Oper}{i:Nat}{r:List (Nat × Nat)}{o:Oper}{a:Act}{w:World}
  (h:∀ K:Act->World->Prop,Shut (∀ a' w',Z5 P l.toArray Q r S a' w'->K a' w')->Oper.wp P o a w K Q) (hi:nth l i=some o:=by rfl) (hw:Region.wanted o (yielded l.toArray a.tmps)=true:=by rfl):Z5 P l.toArray Q ((i,2)::r) S a w:=ZpC hi hw h
theorem ZSf{P:Program}{cu:Array Oper}{Q:Exit->Act->World->Prop}{S:World->Prop}{a:Act}{w:World}(h:Q .normal a w):Z5 P cu (NoPanic Q) [] S a w:=ZpD (NoPanic.normal h)
theorem ZSh{P:Program}{cu:Array Oper}{Q:Exit->Act->World->Prop}{id:Nat}{a:Act}{w:World}(S:World->Prop)(σ : List (Nat × Nat))(hS:S w.drew)(h:S w.drew->Z5 P cu (NoPanic Q) σ S a w.drew)(hm:P.follows .mixedOrders=true:=by kernel_rfl)
  (hc:(Region.noSelect cu&&(σ.length==cu.size&&Ze2 cu σ σ (Array.replicate cu.size false) true))=true:=by kernel_rfl):(Code.region id cu true).wp P Q a w:=wp_region_noPanic (Zji S σ hm hc (λ _ _ _ _ _ h=>h) hS h)
end
section
section
variable {w w':World}{base e size n:Nat}{v:Value}{xs:List Value}
theorem Zh(h:w.ownsRow base e size v n xs)(hk:∀ g,v.ownBlock=some g->g<w.heap.size->w'.heap[g]? = w.heap[g]?):w'.ownsRow base e size v n xs:=by
 obtain⟨h1,h2⟩:=h;refine⟨h1,?_⟩;rcases h2 with h2 | ⟨g,cap,cur,rfl,hg,hh,r⟩
 ·exact .inl h2
 ·refine .inr ⟨g,cap,cur,rfl,hg,?_,r⟩;have ce:g<w.heap.size:=Blk.lt (t:=e) hh;rw[hk g rfl ce];exact hh
theorem Ze(h:w.ownsRow base e size v n xs)(hb:Below w.heap.size w w'):w'.ownsRow base e size v n xs:=Zh h λ g _ hg=>hb.block g hg
theorem Zb(h:w.ownsRow base e size v n xs){g:Nat}(hg:v.ownBlock=some g):base<=g/\g<w.heap.size:=by
 rcases h.2 with ⟨rfl,_⟩|⟨g',cap,cur,rfl,hb,hh,_⟩
 ·cases hg
 ·injection hg with hg
  subst hg;exact⟨hb,Blk.lt (t:=e) hh⟩
theorem Zi{od:Nat}(h:w.ownsRow base e size v n xs)(hb:od<=base):w.ownsRow od e size v n xs:=by
 obtain⟨h1,h2 | ⟨g,cap,cur,hv,hg,r⟩⟩:=h
 ·exact⟨h1,.inl h2⟩
 ·exact⟨h1,.inr ⟨g,cap,cur,hv,ZT hb hg,r⟩⟩
end
theorem Blk.ob{w w':World}{g:Nat}{t:TypeId}{cs:Array Value}(h:Blk w g t cs)(hb:Below w.heap.size w w'):Blk w' g t cs:=h.below hb h.lt
theorem Kept.refl(w:World):Kept w.heap.size w w:=⟨ZW _ _,ZL _⟩
abbrev ZKr:=@Kept.refl
theorem Below.aT{B:Nat}{w w':World}{v:Value}{e:TypeId}{size n:Nat}{xs:List Value}(hg:w.grownBy w' v.ownBlock)(h:w.ownsRow B e size v n xs)(hB:B<=w.heap.size):Below B w w' :=
 (ZW B w).grown hg hB (λ _ nk=>(Zb h nk).1)
theorem Blk.ae{w:World}{g:Nat}{t:TypeId}{v0 v1 v2 v3 v4 v5 v6 v7 v8 v9 xo BJ:Value}(h:Blk w g t #[v0,v1,v2,v3,v4,v5,v6,v7,v8,v9,xo,BJ]):
  w.cell? ⟨g,0,none⟩=some v0/\w.cell? ⟨g,1,none⟩=some v1/\w.cell? ⟨g,2,none⟩=some v2/\w.cell? ⟨g,3,none⟩=some v3/\w.cell? ⟨g,4,none⟩=some v4/\w.cell? ⟨g,5,none⟩=some v5 /\
  w.cell? ⟨g,6,none⟩=some v6/\w.cell? ⟨g,7,none⟩=some v7/\w.cell? ⟨g,8,none⟩=some v8/\w.cell? ⟨g,9,none⟩=some v9/\w.cell? ⟨g,10,none⟩=some xo/\w.cell? ⟨g,11,none⟩=some BJ :=
 ⟨h.cell 0,h.cell 1,h.cell 2,h.cell 3,h.cell 4,h.cell 5,h.cell 6,h.cell 7,h.cell 8,h.cell 9,h.cell 10,h.cell 11⟩
def setAll(w:World)(g:Nat):Nat->List Value->World
 | _,[]=>w
 | i,v::vs=>setAll (w.setCell ⟨g,i,none⟩ v) g (i+1) vs
theorem Zba{g:Nat}{t:TypeId}:∀ (vs:List Value) (i:Nat) (w:World) (cs:List Value),Blk w g t cs.toArray->i+vs.length<=cs.length->Blk (setAll w g i vs) g t (cs.take i++vs++cs.drop (i+vs.length)).toArray
 | [],i,w,cs,h,_=>by simpa [setAll] using h
 | v::vs,i,w,cs,h,hl=>by
  have pP:i+(vs.length+1)<=cs.length:=hl;have h1:=h.ai i v;rw[ZA] at h1;have h2:=Zba vs (i+1) _ _ h1 (by rw[List.length_set];omega);have e:(cs.set i v).take (i+1)++vs++(cs.set i v).drop (i+1+vs.length)=cs.take i++v::vs++cs.drop (i+(v::vs).length):=by
   have e1:(cs.set i v).take (i+1)=cs.take i++[v]:=by
    rw[List.take_set,List.set_eq_take_append_cons_drop];rw[if_pos (by rw[ZV];omega)];simp[List.take_take]
   have e2:(cs.set i v).drop (i+1+vs.length)=cs.drop (i+(v::vs).length):=by
    rw[List.drop_set_of_lt ZO];congr 1;simp;omega
   rw[e1,e2];simp
  rw[e] at h2;exact h2
theorem ZlO{g:Nat}{t:TypeId}{w:World}{cs vs:List Value}(h:Blk w g t cs.toArray)(hl:vs.length=cs.length):Blk (setAll w g 0 vs) g t vs.toArray:=by
 have:=Zba vs 0 w cs h ZO;rw[List.take_zero,List.nil_append,List.drop_of_length_le ZO,List.append_nil] at this;exact this
theorem Zaw{g:Nat}{t:TypeId}{w:World}{cs vs:Array Value}(h:Blk w g t cs)(hl:vs.size=cs.size):Blk (setAll w g 0 vs.toList) g t vs:=by
 have h':Blk w g t cs.toList.toArray:=by simpa using h
 have:=ZlO (vs:=vs.toList) h' (by simpa using hl);simpa using this
theorem ZaR{g:Nat}:∀ (vs:List Value) (i:Nat) (w:World),(setAll w g i vs).heap.size=w.heap.size
 | [],_,_=>rfl
 | v::vs,i,w=>by rw[setAll,ZaR vs];simp[World.setCell]
theorem Zaj{g k:Nat}(hk:k≠g):∀ (vs:List Value) (i:Nat) (w:World),(setAll w g i vs).heap[k]? = w.heap[k]?
 | [],_,_=>rfl
 | v::vs,i,w=>by rw[setAll,Zaj hk vs];exact Below.heap_setCell _ _ _ _ hk
theorem Zb6{g:Nat}:∀ (vs:List Value) (i:Nat) (w:World),(setAll w g i vs).os=w.os/\(setAll w g i vs).tape=w.tape/\(setAll w g i vs).output=w.output
 | [],_,_=>⟨rfl,rfl,rfl⟩
 | v::vs,i,w=>by rw[setAll];exact Zb6 vs (i+1) _
theorem ZlN{w W:World}{row:Option Nat}(h:w.grownBy W row){g:Nat}(hg:w.heap.size<=g)(i:Nat)(vs:List Value):w.grownBy (setAll W g i vs) row:=by
 obtain⟨h1,h2,h3⟩:=Zb6 (g:=g) vs i W;exact⟨h1.trans h.os,h2.trans h.tape,h3.trans h.output,by rw[ZaR];exact h.size,λ k hk hr=>(Zaj ZO vs i W).trans (h.block k hk hr)⟩
end
def Buf(w:World)(B bb:Nat)(l:List Nat):Prop:=∃ v,Blk w bb 106 #[v]/\w.ownsRow B 5 1 v l.length (cells l)
theorem Zlo(k:Nat)(w:World):Calls prog 169 #[.int .i64 k] w λ e w'=>e = .returned (.bool (decide (k≠1/\k≠2)))/\w=w':=by
 rcases(by omega:k=1∨k=2∨(k≠1/\k≠2)) with rfl | rfl | ⟨h1,h2⟩
 rotate_left
 rotate_left
 focus
  have e:decide (k≠1/\k≠2)=true:=ZP;rw[e];have n1:((k:Int) != 1)=true:=ZP;have n2:((k:Int) != 2)=true:=ZP;clear e
 rotate_left
 all_goals
  go_enter func169,ntmps169;go_wp2
  go_ret;exact⟨rfl,rfl⟩
theorem Zik(n B bb:Nat)(l:List Nat)(w:World)(hn:n<=16777216)(hl:l.length<=100000)(ng:Buf w B bb l)(hB:B<=bb)(Ee:B<=w.heap.size):
  Calls prog 167 #[.int .i64 n,.pointer (some ⟨bb,0,none⟩)] w λ e w'=>e = .returned (.tuple #[])/\Buf w' B bb (l++Zd n)/\Below B w w':=by
 obtain⟨v,bY,cT⟩:=ng;have bU:=bY.cell 0;have gA:=bY.frozen 0;have ce:=bY.lt;simp only[ZD,ZE] at bU;obtain⟨i0,hi,cM,cG,cK⟩:=info_parts ZaA;obtain⟨HO,HB⟩:=ZH2 cT bY;have hw:IntKind.u64.wrap (n:Int)=(n:Int):=by rw[IntKind.wrap_u64];omega
 clear cT bY;go_enter func167,ntmps167;go_wp2_with fail;refine ZSh (λ w'=>Kept w.heap.size w w') [(0,0),(1,3),(2,3),(3,1),(4,2),(5,2)] (Kept.drew ⟨ZW _ _,ZL _⟩) λ bR=>?_
 repeat((first | refine ZSa ?_ | refine ZSb ?_ | refine ZSc ?_);simp only[Act.put,ZA,ZB,ZC])
 refine ZSd λ K hK=>?_
 go_simp;refine(Za0 n _ ZO).mono ?_;rintro e w1 ⟨v1,rfl,eZ,bS⟩;have dE:=bR.step bS;have Iq:=Ze HO.out dE.below;have cW:=HB.out.ob dE.below;have A5:=dE.le;refine hK.out (λ w'=>Kept w.heap.size w w') _ _ (λ _ h=>h) dE (λ _=>?_);clear bR hK K bU gA;obtain⟨a1,c1,rfl,jT⟩:=Bytes.ab eZ;have ua:=Zdh hn;refine ZSe λ K hK=>?_
 refine ZaT _ (.tmp 3) (.tmp 6) _ rfl B 5 i0 _ 1 1 underlying106 hi cM cG cK rfl ZO v l.length (cells l) rfl Iq w1.heap.size a1 (Zd n).length c1 (cells (Zd n)) rfl jT.reads (Z2 _) ZF ZO ZO ?_;intro v2 w2 du eN _;have dd:=cW.grown eN (Ne.symm (Zo Iq cW ZJ));have bW:Below B w1 w2:=Below.aT eN Iq ZO;rw[←Zq] at du;obtain⟨a2,c2,rfl,o7⟩:=Bytes.ab du;have bU:=dd.cell 0;have gA:=dd.frozen 0;simp only[ZD,ZE] at bU;obtain⟨jG,cH⟩:=ZH2 du dd;clear du dd eN cW Iq eZ;refine hK.out _ _ ?_;clear hK K;repeat((first | refine ZSa ?_ | refine ZSb ?_ | refine ZSc ?_);simp only[Act.put,ZA,ZB,ZC])
 refine ZSe λ K hK=>?_
 go_simp;refine hK.out _ _ ?_;clear hK K;refine ZSf ?_;go_wp2_with fail;have hf:=cH.out.ai 0 (.slice a2 (l.length+(Zd n).length) c2);have dz:∀ g,(Value.slice a2 (l.length+(Zd n).length) c2).ownBlock=some g->g≠bb:=λ g hg he=>Zo jG.out cH.out ZJ (by rw[hg,he])
 go_end0
 refine⟨rfl,⟨_,hf,?_⟩,?_⟩
 ·rw[ZI];exact Zh jG.out (λ g hg _=>Below.heap_setCell _ _ _ _ (dz g hg))
 ·exact(dE.below.mono Ee).trans (bW.setCell hB _)
theorem ZmF(s:ByteArray):Lib.strCells s=cells (bs s):=by
 simp[Lib.strCells,cells,bs]
theorem ZlB(s:ByteArray)(B bb:Nat)(l:List Nat)(w:World)(hn:s.size<=12)(hl:l.length<=100000)(ng:Buf w B bb l)(hB:B<=bb)(Ee:B<=w.heap.size):
  Calls prog 168 #[.string s,.pointer (some ⟨bb,0,none⟩)] w λ e w'=>e = .returned (.tuple #[])/\Buf w' B bb (l++s.size::bs s)/\Below B w w':=by
 obtain⟨v,bY,cT⟩:=ng;have bU:=bY.cell 0;have gA:=bY.frozen 0;have ce:=bY.lt;simp only[ZD,ZE] at bU;obtain⟨i0,hi,cM,cG,cK⟩:=info_parts ZaA;obtain⟨HO,HB⟩:=ZH2 (cT.alloc (.cells #[.int .u8 (s.size:Int)] 5)) (bY.alloc (.cells #[.int .u8 (s.size:Int)] 5));have hw:IntKind.u8.wrap (s.size:Int)=(s.size:Int):=by rw[IntKind.wrap_u8];omega
 clear cT bY;go_enter func168,ntmps168
 go_wp2_with (first
  |(at_builtin;refine Zc _ rfl (.tmp 3) (.tmp 7) _ rfl B 5 i0 _ 1 1 underlying106 hi cM cG cK rfl ZO v l.length (cells l) rfl HO.out (w.heap.size+1) (some ⟨w.heap.size,0,none⟩) 1 1 [.int .u8 (s.size:Int)] rfl (ZeD _ _ _) (by intro u hu;simp at hu;subst hu;rfl) ZF ZO ZP ?_;intro v2 w2 du eN _
    rw[Zdo] at du;obtain⟨a2,c2,rfl,_⟩:=Bytes.ab du;have dd:=HB.out.grown eN (Ne.symm (Zo HO.out HB.out ZJ));have bW:Below B w w2:=((ZW B w).alloc Ee _).trans (Below.aT eN HO.out ZP);have lA:=dd.cell 0;have AP:=dd.frozen 0;simp only[ZD,ZE] at lA;have dz:∀ g,(Value.slice a2 (l.length+1) c2).ownBlock=some g->g≠bb:=λ g hg he=>Zo du dd ZJ (by rw[hg,he])
    have dj:=ZH (dd.ai 0 (.slice a2 (l.length+1) c2));have gV:Hid ((w2.setCell ⟨bb,0,none⟩ (.slice a2 (l.length+1) c2)).ownsRow B 5 1 (.slice a2 (l.length+1) c2) (l.length+1) (cells (l++[s.size]))):=ZH (Zh du (λ g hg _=>Below.heap_setCell _ _ _ _ (dz g hg)));have bZ:=bW.setCell (p:=⟨bb,0,none⟩) hB (.slice a2 (l.length+1) c2)
    clear du eN dd bW dz bU gA)
  |(refine Lib.wpList_append_own_string _ rfl (.tmp 9) (.tmp 10) _ _ rfl B 5 i0 underlying106 underlying9 hi cM cG cK (.slice a2 (l.length+1) c2) (l.length+1) _ rfl gV.out s rfl ZF ZO (ZT Ee bZ.size) ?_;intro v4 w4 cd dn _
    have e5:cells (l++[s.size])++Lib.strCells s=cells (l++s.size::bs s):=by rw[ZmF,←Zq];simp
    rw[e5] at cd;obtain⟨a4,c4,rfl,_⟩:=Bytes.ab cd;have i3:=dj.out.grown dn (Ne.symm (Zo gV.out dj.out ZJ));have cz:Below B w w4:=bZ.trans (Below.aT dn gV.out (ZT Ee bZ.size));have AD:=i3.cell 0;have hfr4:=i3.frozen 0;simp only[ZA,ZB,ZD,ZE] at AD;have dz:∀ g,(Value.slice a4 (l.length+1+s.size) c4).ownBlock=some g->g≠bb:=λ g hg he=>Zo cd i3 ZJ (by rw[hg,he])
    have kC:=ZH (i3.ai 0 (.slice a4 (l.length+1+s.size) c4));have qY:Hid ((w4.setCell ⟨bb,0,none⟩ (.slice a4 (l.length+1+s.size) c4)).ownsRow B 5 1 (.slice a4 (l.length+1+s.size) c4) (l.length+1+s.size) (cells (l++s.size::bs s))):=ZH (Zh cd (λ g hg _=>Below.heap_setCell _ _ _ _ (dz g hg)));have dw:=cz.setCell (p:=⟨bb,0,none⟩) hB (.slice a4 (l.length+1+s.size) c4)
    clear cd dn i3 cz dz e5 lA AP))
 go_end0
 refine⟨rfl,⟨.slice a4 (l.length+1+s.size) c4,?_,?_⟩,dw⟩
 ·have h:=kC.out;simp only[ZA,ZB] at h;exact h
 ·have e:(l++s.size::bs s).length=l.length+1+s.size:=by simp[Zc2];omega
  rw[e];exact qY.out
theorem ZrB(w1:World)(x y:Nat):Buf ((w1.alloc (.cells #[.int .u8 x,.int .u8 y] 5)).alloc (.cells #[.slice (some ⟨w1.heap.size,0,none⟩) 2 2] 106)) w1.heap.size (w1.heap.size+1) [x,y]:=by
 refine⟨.slice (some ⟨w1.heap.size,0,none⟩) 2 2,?_,?_⟩
 ·have h:=ZBn (w1.alloc (.cells #[.int .u8 x,.int .u8 y] 5)) 106 #[.slice (some ⟨w1.heap.size,0,none⟩) 2 2];have e1:(w1.alloc (.cells #[.int .u8 x,.int .u8 y] 5)).heap.size=w1.heap.size+1:=ZM;rw[e1] at h;exact h
 ·have h:(w1.alloc (.cells #[.int .u8 x,.int .u8 y] 5)).ownsRow w1.heap.size 5 1 (.slice (some ⟨w1.heap.size,0,none⟩) 2 2) 2 (cells [x,y]) :=
   ⟨rfl,.inr ⟨w1.heap.size,2,#[.int .u8 x,.int .u8 y],rfl,ZL _,ZBn w1 5 _,ZL _,by unfold maxLen;omega,rfl,rfl⟩⟩
  exact h.alloc _
abbrev evArr(e:Ev):Array Value:=#[.int .i64 e.r,.int .i64 e.n,.int .i64 e.ctx.c0,.int .i64 e.ctx.c1,.int .i64 e.ctx.c2,.int .i64 e.ctx.c3,.int .i64 e.ctx.c4,.int .i64 e.height,.int .i64 e.kind,.string e.key,.int .i64 e.label,.string e.value]
structure PutSt(w W:World)(g B:Nat)(e:Ev)(l:List Nat):Prop where
 buf:Buf W B (B+1) l
 box:Blk W g 89 (evArr e)
 kept:Kept g w W
 le:B<=W.heap.size
 len:l.length<=100000
theorem PutSt.step{w W W':World}{g B:Nat}{e:Ev}{l l':List Nat}(h:PutSt w W g B e l)(hg:g<B)(hb:Below B W W')(ng:Buf W' B (B+1) l')(hl:l'.length<=100000):PutSt w W' g B e l' :=
 ⟨ng,h.box.below hb hg,h.kept.trans ⟨hb,ZT h.le hb.size⟩ (Nat.le_of_lt hg),ZT h.le hb.size,hl⟩
theorem ZdN(e:Ev)(w:World)(he:e.Ok):Calls prog 121 #[Zaa e] w λ r w'=>∃ v,r = .returned (.tuple #[v,.int .i64 0])/\w'.ownsRow w.heap.size 5 1 v (evBytes e).length (cells (evBytes e))/\Below w.heap.size w w':=by
 have HE:=ZH he;have h1:=he.r;have h2:=he.n2;have h3:=he.h2;have h4:=he.ctx;have h5:=he.edit.kind5;have h6:=he.edit.kind1;have dl:IntKind.u8.wrap (e.kind:Int)=(e.kind:Int):=by rw[IntKind.wrap_u8];omega
 have dK:IntKind.u8.wrap (e.r:Int)=(e.r:Int):=by rw[IntKind.wrap_u8];omega
 have H4:=ZH h4;clear he h4;obtain⟨i0,hi,cM,cG,cK⟩:=info_parts ZaA;go_enter func121,ntmps121;go_wp2_with fail;refine(ZeA e _ HE.out).mono ?_;rintro r w1 ⟨rfl,bS⟩;have dE:Kept w.heap.size w w1:=((Kept.start (ZW w.heap.size w)).alloc _).step bS;have fH:=(ZBn w 89 _).ob bS;have ce:=fH.lt;obtain⟨c0,c1,c2,c3,c4,c5,c6,c7,c8,c9,cP,cR⟩:=fH.ae;have HX:=ZH fH;have fc:=ZL w.heap.size;clear bS fH;generalize hg:w.heap.size=g at *;have HG:=ZH hg;clear hg;have xW:∃ B,B=w1.heap.size:=⟨_,rfl⟩;obtain⟨B,xW⟩:=xW;have ng:=ZrB w1 e.kind e.r;rw[←xW] at ng;have LK:Kept g w ((w1.alloc (.cells #[.int .u8 e.kind,.int .u8 e.r] 5)).alloc (.cells #[.slice (some ⟨w1.heap.size,0,none⟩) 2 2] 106)):=(dE.alloc _).alloc _;have MJ:=(HX.out.alloc (.cells #[.int .u8 e.kind,.int .u8 e.r] 5)).alloc (.cells #[.slice (some ⟨w1.heap.size,0,none⟩) 2 2] 106);have Ms:B<=((w1.alloc (.cells #[.int .u8 e.kind,.int .u8 e.r] 5)).alloc (.cells #[.slice (some ⟨w1.heap.size,0,none⟩) 2 2] 106)).heap.size:=by rw[xW];simp;omega
 rw[←xW] at MJ LK Ms;have uX:=ZH xW;have AR:g<B:=by rw[xW];exact ce
 clear xW;have fq:Hid (PutSt w _ g B e [e.kind,e.r]):=ZH (⟨ng,MJ,LK,Ms,ZM⟩);clear ng MJ LK Ms;have L1:=Zdh (show e.n<=16777216 by omega);have L2:=Zdh h3;have Ny:=ZH (ZgV e.r H4.out);have L4:=HE.out.edit.key.2.1;go_wp2_with fail;rw[←uX.out];generalize (w1.alloc (.cells #[.int .u8 e.kind,.int .u8 e.r] 5)).alloc (.cells #[.slice (some ⟨B,0,none⟩) 2 2] 106)=wa at *;clear HX c0 c1 c2 c3 c4 c5 c6 c7 c8 c9 cP cR dE ce;have lz:=fq.out.len;refine(Zik e.n B (B+1) _ _ ZO lz fq.out.buf ZO fq.out.le).mono ?_;rintro r w2 ⟨rfl,yh,bW⟩;have lS:=fq.out.step AR bW yh ZP;obtain⟨c0,c1,c2,c3,c4,c5,c6,c7,c8,c9,cP,cR⟩:=lS.box.ae;have Kg:=ZH lS;clear lS yh bW fq lz;go_wp2_with fail;clear c0 c1 c2 c3 c4 c5 c6 c7 c8 c9 cP cR;go_loopw [8,9,30] (λ _ _ i wr=>∃ k:Nat,k<=5/\i = .int .i64 k/\Hid (PutSt w wr g B e ([e.kind,e.r]++Zd e.n++Zam e.ctx e.r k))) (λ _ _ i _=>5-(intOf i).toNat)
 case atStart=>exact⟨0,ZO,rfl,by simpa [Zam] using Kg⟩
 case round =>
  obtain⟨k,hk,rfl,qi⟩:=hrel;obtain⟨c0,c1,c2,c3,c4,c5,c6,c7,c8,c9,cP,cR⟩:=qi.out.box.ae;have lk:=Ny.out k;by_cases ef:k<5
  ·have jK:=λ w=>Zah e.ctx k ef w
   have hm:=H4.out k;rcases Nat.decEq k e.r with oE | oE
   focus
    have dz:((k:Int) != (e.r:Int))=true:=ZP;go_wp2_with fail;refine(Zik (e.ctx.get k) B (B+1) _ _ ZO qi.out.len qi.out.buf ZO qi.out.le).mono ?_;rintro r w3 ⟨rfl,ox,bZ⟩;have lp:=Zdh (show e.ctx.get k<=16777216 by omega);have lT:=qi.out.step AR bZ ox ZP;have e1:[e.kind,e.r]++Zd e.n++Zam e.ctx e.r k++Zd (e.ctx.get k)=[e.kind,e.r]++Zd e.n++Zam e.ctx e.r (k+1):=by simp only[Zam];rw[if_neg oE];simp
    rw[e1] at lT;have pw:=ZH lT;clear lT ox bZ e1 lp
   rotate_left
   focus
    have dz:((k:Int) != (e.r:Int))=false:=ZP;have e1:[e.kind,e.r]++Zd e.n++Zam e.ctx e.r k=[e.kind,e.r]++Zd e.n++Zam e.ctx e.r (k+1):=by simp only[Zam];rw[if_pos oE];simp
    have lT:=qi.out;rw[e1] at lT;have pw:=ZH lT;clear lT e1 oE
   rotate_left
   all_goals
    go_wp2
    go_roundw
    case rel=>exact⟨k+1,ZO,ZN,pw⟩
    case measure=>simp[intOf];omega
  ·obtain rfl:k=5:=ZO;go_wp2_with fail;refine(Zik e.height B (B+1) _ _ ZO qi.out.len qi.out.buf ZO qi.out.le).mono ?_;rintro r w3 ⟨rfl,ox,bZ⟩;have lT:=qi.out.step AR bZ ox ZP;clear c0 c1 c2 c3 c4 c5 c6 c7 c8 c9 cP cR;obtain⟨c0,c1,c2,c3,c4,c5,c6,c7,c8,c9,cP,cR⟩:=lT.box.ae;have pw:=ZH lT;clear lT ox bZ;go_wp2_with fail;refine(ZlB e.key B (B+1) _ _ ZO pw.out.len pw.out.buf ZO pw.out.le).mono ?_;rintro r w4 ⟨rfl,yi,cz⟩;have Bk:=pw.out.step AR cz yi (by simp[Zc2];omega);clear c0 c1 c2 c3 c4 c5 c6 c7 c8 c9 cP cR;obtain⟨c0,c1,c2,c3,c4,c5,c6,c7,c8,c9,cP,cR⟩:=Bk.box.ae;have rc:=ZH Bk;clear Bk yi cz;go_wp2_with fail;refine(Zlo e.kind _).mono ?_;rintro r w5 ⟨rfl,rfl⟩;rcases Nat.lt_or_ge 2 e.kind with cJ | cJ
   focus
    have hd:decide (e.kind≠1/\e.kind≠2)=true:=ZP;rw[hd];clear hd;obtain⟨l1,l2,l3⟩:=HE.out.edit.long cJ;have oR:IntKind.u8.wrap (e.label:Int)=(e.label:Int):=by rw[IntKind.wrap_u8];omega
    obtain⟨v,bY,cT⟩:=rc.out.buf;have lz:=rc.out.len;have bU:=bY.cell 0;have gA:=bY.frozen 0;have rD:=bY.lt;simp only[ZD,ZE] at bU;obtain⟨HO,HB⟩:=ZH2 (cT.alloc (.cells #[.int .u8 (e.label:Int)] 5)) (bY.alloc (.cells #[.int .u8 (e.label:Int)] 5));have oF:=rc.out.le;have JE:=ZH lz;have KX:∃ L,L=([e.kind,e.r]++Zd e.n++Zam e.ctx e.r 5++Zd e.height++(e.key.size::bs e.key)):=⟨_,rfl⟩;obtain⟨L,hL⟩:=KX;rw[←hL] at HO rc JE;have lL:L.length<=100:=by
     have:=Ny.out 5;rw[hL];simp[Zc2];omega
    have HL:=ZH hL;clear bY cT lz hL
    go_wp2_with (first
     |(at_builtin;refine Zc _ rfl (.tmp 53) (.tmp 57) _ rfl B 5 i0 _ 1 1 underlying106 hi cM cG cK rfl ZO v L.length (cells L) rfl HO.out (w4.heap.size+1) (some ⟨w4.heap.size,0,none⟩) 1 1 [.int .u8 (e.label:Int)] rfl (ZeD _ _ _) (by intro u hu;simp at hu;subst hu;rfl) (by have:=JE.out;simp only[maxLen];omega) (by have:=JE.out;omega) ZP ?_;intro v2 wb du eN _
       rw[Zdo] at du;obtain⟨a2,DV,rfl,_⟩:=Bytes.ab du;have dd:=HB.out.grown eN (Ne.symm (Zo HO.out HB.out ZJ));have bW:Below B w4 wb:=((ZW B w4).alloc oF _).trans (Below.aT eN HO.out ZP);have lA:=dd.cell 0;have AP:=dd.frozen 0;simp only[ZD,ZE] at lA;have dz:∀ g,(Value.slice a2 (L.length+1) DV).ownBlock=some g->g≠B+1:=λ g hg he=>Zo du dd ZJ (by rw[hg,he])
       have fg:=dd.ai 0 (.slice a2 (L.length+1) DV);have xY:(wb.setCell ⟨B+1,0,none⟩ (.slice a2 (L.length+1) DV)).ownsRow B 5 1 (.slice a2 (L.length+1) DV) (L.length+1) (cells (L++[e.label])):=Zh du (λ g hg _=>Below.heap_setCell _ _ _ _ (dz g hg));have bZ:=bW.setCell (p:=⟨B+1,0,none⟩) (by show B<=B+1;omega) (.slice a2 (L.length+1) DV);simp only[ZA,ZB] at fg;have Bl:=rc.out.step (l':=L++[e.label]) AR bZ ⟨_,fg,by rw[ZI];exact xY⟩ (by rw[ZI];simp;omega);clear c0 c1 c2 c3 c4 c5 c6 c7 c8 c9 cP cR;obtain⟨c0,c1,c2,c3,c4,c5,c6,c7,c8,c9,cP,cR⟩:=Bl.box.ae;have vC:=ZH Bl
       clear du eN dd bW dz fg xY bU gA bZ Bl))
    refine(ZlB e.value B (B+1) _ _ ZO vC.out.len vC.out.buf ZO vC.out.le).mono ?_;rintro r w6 ⟨rfl,yj,eu⟩;have nA:=vC.out.step AR eu yj (by simp[Zc2];omega);have e1:L++[e.label]++e.value.size::bs e.value=evBytes e:=by rw[HL.out];simp only[evBytes,ZbK];rw[if_pos cJ];simp
    rw[e1] at nA;obtain⟨v6,ou,oK⟩:=nA.buf;have pK:=ou.cell 0;simp only[ZD,ZE] at pK;obtain⟨me,mF⟩:=ZH2 nA.kept oK;clear nA yj eu lA AP e1 ou oK
   rotate_left
   focus
    have hd:decide (e.kind≠1/\e.kind≠2)=false:=ZP;rw[hd];clear hd;have nA:=rc.out;have e1:[e.kind,e.r]++Zd e.n++Zam e.ctx e.r 5++Zd e.height++(e.key.size::bs e.key)=evBytes e:=by simp only[evBytes,ZbK];rw[if_neg ZO];simp
    rw[e1] at nA;obtain⟨v6,ou,oK⟩:=nA.buf;have pK:=ou.cell 0;simp only[ZD,ZE] at pK;obtain⟨me,mF⟩:=ZH2 nA.kept oK;clear nA e1 ou oK
   rotate_left
   all_goals
    go_wp2_with fail;go_ret2
    refine⟨v6,rfl,?_,?_⟩
    ·rw[HG.out];exact Zi mF.out (Nat.le_of_lt AR)
    ·rw[HG.out];exact me.out.below
def ZaQ(l:List Nat)(w:World)(e:Ending)(w':World):Prop:=e = .returned (.tuple #[.int .u64 ((Zc0 l).1:Nat),.int .i64 ((Zc0 l).2.1:Nat),.int .i64 ((Zc0 l).2.2:Nat)])/\w=w'
theorem ZdT{l:List Nat}{a b c:Nat}{w:World}(h:Zc0 l=(a,b,c)):ZaQ l w (.returned (.tuple #[.int .u64 (a:Nat),.int .i64 (b:Nat),.int .i64 (c:Nat)])) w:=by
 unfold ZaQ;rw[h];exact⟨rfl,rfl⟩
theorem Zm0{c:Nat}(h:128<=c)(h2:c<256):c%128=c-128:=ZO
theorem Zkc{c:Nat}(h:c<128):c%128=c:=ZO
theorem Zrf(b off n0 cap:Nat)(l:List Nat)(w:World)(pI:10<n0)(hl:l.length=10)(hs:∀ x∈l,x<256)(fZ:n0<=cap)(ic:cap<=maxLen)
  (hc:∀ i,i<10->w.cell? ⟨b,off+i,none⟩=some (.int .u8 ((l.getD i 0:Nat):Int))) :
  Calls prog 171 #[.slice (some ⟨b,off,none⟩) n0 cap] w (ZaQ l w):=by
 unfold maxLen at ic;obtain⟨HC,HS,HL⟩:=ZH3 hc hs hl;clear hc hs hl;go_enter func171,ntmps171;go_wp2_with fail;go_loop [14,2] (λ i x=>∃ (k X:Nat),k<=10/\i = .int .i64 k/\x = .int .u64 X/\Hid (∀ j,j<k->128<=l.getD j 0)/\Hid (k<=9->X=val (l.take k))) (λ i _=>10-(intOf i).toNat)
 case atStart=>exact⟨0,0,ZO,rfl,rfl,λ j hj=>ZO,λ _=>rfl⟩
 case round =>
  obtain⟨k,X,hk,rfl,rfl,HG,HV⟩:=hrel;by_cases ce:k<10
  ·have fY:=HC.out k ce;have eR:k<l.length:=by rw[HL.out];exact ce
   have cI:l.getD k 0<256:=HS.out _ (by simp[List.getD,eR]);have lW:=ZgG eR;have lE:=λ(h:l.getD k 0<128) hb=>Zgt eR HG.out h hb
   have pH:=λ(h:l.getD k 0<128) hb=>Zkq eR HG.out h hb
   have gB:128<=l.getD k 0->∀ j,j<k+1->128<=l.getD j 0:=λ h j hj=>by
    rcases Nat.lt_or_ge j k with h1 | h1
    ·exact HG.out j h1
    ·obtain rfl:j=k:=ZO;exact h
   have hlen:(l.take k).length=k:=by rw[ZV];omega
   have yX:=ZlW (l.take k);rw[hlen] at yX;generalize l.getD k 0=c at fY cI lW lE pH gB;obtain⟨sW,sy,zq,CO,zY⟩:=ZH5 lW lE pH gB yX;clear lW lE pH gB hlen yX eR;by_cases pC:128<=c
   ·by_cases lG:k<=8
    ·have e1:X=val (l.take k):=HV.out ZO;have ed:=Zht (X:=X) (d:=c-128) (k:=k) (by rw[e1];exact zY.out) (Or.inl ⟨lG,ZO⟩);have ec:((c-128:Nat):Int)=(c:Int)-128:=ZO;rw[ec] at ed;have fq:=ZH ed;have hn:X+(c-128)*128 ^ k=val (l.take (k+1)):=by rw[sW.out,Zm0 pC cI,e1]
     have mE:=ZH hn;clear ed ec hn e1;go_wp2_with fail;rw[fq.out,mE.out];go_round
     case rel=>exact⟨k+1,_,ZO,ZN,rfl,CO.out pC,λ _=>rfl⟩
     case measure=>simp[intOf];omega
    ·obtain⟨Z,hZ⟩:=Zm2 X (((c:Int)-128)*2 ^ (7*k));have HZ:=ZH hZ;clear hZ;go_wp2_with fail;rw[HZ.out];go_round
     case rel=>exact⟨k+1,Z,ZO,ZN,rfl,CO.out pC,λ h=>ZO⟩
     case measure=>simp[intOf];omega
   ·have ni:c<128:=ZO;by_cases hb:(0<k/\c=0)∨(k=9/\1<c)
    ·have hT:=ZdT (w:=w) (zq.out ni hb);have HT:=ZH hT;clear hT;rcases hb with ⟨cA,rfl⟩|⟨kU,oY⟩
     ·have pN:(0:Int)<k:=ZO;go_wp2_with fail;go_ret3
      exact HT.out
     ·have AC:((c:Int)==0)=false:=ZP;have pO:((k:Int)==9)=true:=ZP;have pN:(0:Int)<k:=ZO;clear kU;have uB:(1:Int)<c:=ZO;go_wp2_with fail;go_ret3
      exact HT.out
    ·have nR:(k<=8/\c<128)∨(k=9/\c<=1):=ZO;have e1:X=val (l.take k):=HV.out ZO;have ed:=Zht (X:=X) (d:=c) (k:=k) (by rw[e1];exact zY.out) nR;have hn:X+c*128 ^ k=val (l.take (k+1)):=by rw[sW.out,Zkc ni,e1]
     rw[hn] at ed;have fq:=ZH ed;have hT:=ZdT (w:=w) (sy.out ni hb);have HT:=ZH hT;clear ed hn hT e1;by_cases cA:k=0
     ·have pN:(k:Int)<=0:=ZO;have pO:((k:Int)==9)=false:=ZP;have dF:decide (0<k)=false:=ZP;clear cA;go_wp2_with fail;go_ret3
      show ZaQ l w (.returned (.tuple #[.int .u64 (bits .or .u64 (X:Int) (IntKind.u64.wrap ((c:Int)*2 ^ (7*k)))),.int .i64 ((k:Int)+1),.int .i64 0])) w
      rw[fq.out];exact HT.out
     ·have pN:(0:Int)<k:=ZO;have AC:((c:Int)==0)=false:=ZP;by_cases kU:k=9;focus
       have pO:((k:Int)==9)=true:=ZP;have uB:(c:Int)<=1:=ZO;clear kU cA
      rotate_left
      focus
       have pO:((k:Int)==9)=false:=ZP
      rotate_left
      all_goals
       go_wp2_with fail;go_ret3
       show ZaQ l w (.returned (.tuple #[.int .u64 (bits .or .u64 (X:Int) (IntKind.u64.wrap ((c:Int)*2 ^ (7*k)))),.int .i64 ((k:Int)+1),.int .i64 0])) w
       rw[fq.out];exact HT.out
  ·have il:10=k:=ZO;have gr:=ZeU (l:=l) (λ j hj=>HG.out j (by rw[HL.out] at hj;omega));rw[HL.out] at gr;have hT:=ZdT (w:=w) gr;have HT:=ZH hT;clear gr hT HV HG il;go_wp2_with fail;go_ret3
   exact HT.out
theorem Zor(b off n cap:Nat)(l:List Nat)(w:World)(Oa:n<=10)(hl:l.length=n)(hs:∀ x∈l,x<256)(fZ:n<=cap)(ic:cap<=maxLen)
  (hc:∀ i,i<n->w.cell? ⟨b,off+i,none⟩=some (.int .u8 ((l.getD i 0:Nat):Int))) :
  Calls prog 171 #[.slice (some ⟨b,off,none⟩) n cap] w (ZaQ l w):=by
 unfold maxLen at ic;obtain⟨HC,HS,HL⟩:=ZH3 hc hs hl;clear hc hs hl;go_enter func171,ntmps171;go_wp2_with fail;go_loop [14,2] (λ i x=>∃ (k X:Nat),k<=n/\i = .int .i64 k/\x = .int .u64 X/\Hid (∀ j,j<k->128<=l.getD j 0)/\Hid (k<=9->X=val (l.take k))) (λ i _=>n-(intOf i).toNat)
 case atStart=>exact⟨0,0,ZO,rfl,rfl,λ j hj=>ZO,λ _=>rfl⟩
 case round =>
  obtain⟨k,X,hk,rfl,rfl,HG,HV⟩:=hrel;by_cases ce:k<n
  ·have fY:=HC.out k ce;have eR:k<l.length:=by rw[HL.out];exact ce
   have cI:l.getD k 0<256:=HS.out _ (by simp[List.getD,eR]);have lW:=ZgG eR;have lE:=λ(h:l.getD k 0<128) hb=>Zgt eR HG.out h hb
   have pH:=λ(h:l.getD k 0<128) hb=>Zkq eR HG.out h hb
   have gB:128<=l.getD k 0->∀ j,j<k+1->128<=l.getD j 0:=λ h j hj=>by
    rcases Nat.lt_or_ge j k with h1 | h1
    ·exact HG.out j h1
    ·obtain rfl:j=k:=ZO;exact h
   have hlen:(l.take k).length=k:=by rw[ZV];omega
   have yX:=ZlW (l.take k);rw[hlen] at yX;generalize l.getD k 0=c at fY cI lW lE pH gB;obtain⟨sW,sy,zq,CO,zY⟩:=ZH5 lW lE pH gB yX;clear lW lE pH gB hlen yX eR;by_cases pC:128<=c
   ·by_cases lG:k<=8
    ·have e1:X=val (l.take k):=HV.out ZO;have ed:=Zht (X:=X) (d:=c-128) (k:=k) (by rw[e1];exact zY.out) (Or.inl ⟨lG,ZO⟩);have ec:((c-128:Nat):Int)=(c:Int)-128:=ZO;rw[ec] at ed;have fq:=ZH ed;have hn:X+(c-128)*128 ^ k=val (l.take (k+1)):=by rw[sW.out,Zm0 pC cI,e1]
     have mE:=ZH hn;clear ed ec hn e1;go_wp2_with fail;rw[fq.out,mE.out];go_round
     case rel=>exact⟨k+1,_,ZO,ZN,rfl,CO.out pC,λ _=>rfl⟩
     case measure=>simp[intOf];omega
    ·obtain⟨Z,hZ⟩:=Zm2 X (((c:Int)-128)*2 ^ (7*k));have HZ:=ZH hZ;clear hZ;go_wp2_with fail;rw[HZ.out];go_round
     case rel=>exact⟨k+1,Z,ZO,ZN,rfl,CO.out pC,λ h=>ZO⟩
     case measure=>simp[intOf];omega
   ·have ni:c<128:=ZO;by_cases hb:(0<k/\c=0)∨(k=9/\1<c)
    ·have hT:=ZdT (w:=w) (zq.out ni hb);have HT:=ZH hT;clear hT;rcases hb with ⟨cA,rfl⟩|⟨kU,oY⟩
     ·have pN:(0:Int)<k:=ZO;go_wp2_with fail;go_ret3
      exact HT.out
     ·have AC:((c:Int)==0)=false:=ZP;have pO:((k:Int)==9)=true:=ZP;have pN:(0:Int)<k:=ZO;clear kU;have uB:(1:Int)<c:=ZO;go_wp2_with fail;go_ret3
      exact HT.out
    ·have nR:(k<=8/\c<128)∨(k=9/\c<=1):=ZO;have e1:X=val (l.take k):=HV.out ZO;have ed:=Zht (X:=X) (d:=c) (k:=k) (by rw[e1];exact zY.out) nR;have hn:X+c*128 ^ k=val (l.take (k+1)):=by rw[sW.out,Zkc ni,e1]
     rw[hn] at ed;have fq:=ZH ed;have hT:=ZdT (w:=w) (sy.out ni hb);have HT:=ZH hT;clear ed hn hT e1;by_cases cA:k=0
     ·have pN:(k:Int)<=0:=ZO;have pO:((k:Int)==9)=false:=ZP;have dF:decide (0<k)=false:=ZP;clear cA;go_wp2_with fail;go_ret3
      show ZaQ l w (.returned (.tuple #[.int .u64 (bits .or .u64 (X:Int) (IntKind.u64.wrap ((c:Int)*2 ^ (7*k)))),.int .i64 ((k:Int)+1),.int .i64 0])) w
      rw[fq.out];exact HT.out
     ·have pN:(0:Int)<k:=ZO;have AC:((c:Int)==0)=false:=ZP;by_cases kU:k=9;focus
       have pO:((k:Int)==9)=true:=ZP;have uB:(c:Int)<=1:=ZO;clear kU cA
      rotate_left
      focus
       have pO:((k:Int)==9)=false:=ZP
      rotate_left
      all_goals
       go_wp2_with fail;go_ret3
       show ZaQ l w (.returned (.tuple #[.int .u64 (bits .or .u64 (X:Int) (IntKind.u64.wrap ((c:Int)*2 ^ (7*k)))),.int .i64 ((k:Int)+1),.int .i64 0])) w
       rw[fq.out];exact HT.out
  ·have il:n=k:=ZO;have gr:=ZeU (l:=l) (λ j hj=>HG.out j (by rw[HL.out] at hj;omega));rw[HL.out] at gr;subst il;by_cases h9:n=10
   ·rw[if_pos h9] at gr;have hT:=ZdT (w:=w) gr;have HT:=ZH hT;have Sg:((n:Int)==10)=true:=ZP;clear gr hT HV HG h9;go_wp2_with fail;go_ret3
    exact HT.out
   ·rw[if_neg h9] at gr;have hT:=ZdT (w:=w) gr;have HT:=ZH hT;have Sg:((n:Int)==10)=false:=ZP;clear gr hT HV HG h9;go_wp2_with fail;go_ret3
    exact HT.out
theorem take_zero(a:Option Addr)(cap:Nat)(w:World):Calls prog 171 #[.slice a 0 cap] w (ZaQ [] w):=by
 go_enter func171,ntmps171;go_wp2_with fail;go_loop [14] (λ i=>i = .int .i64 0) (λ _=>0)
 case atStart=>rfl
 case round =>
  subst hrel;go_wp2_with fail;go_ret3
  exact ZdT (a:=0) (b:=0) (c:=2) (ZeU (l:=[]) (λ j hj=>by simp at hj))
theorem ZcD{a:Option Addr}{n cap:Nat}{bs:List Nat}{w:World}(h:Bytes w a n cap bs)(hs:∀ x∈bs,x<256):
  Calls prog 171 #[.slice a n cap] w (ZaQ (bs.take 10) w):=by
 have hl:=h.len;obtain⟨h1,h2,⟨rfl,rfl⟩|⟨b,off,rfl,h4,h5,h6⟩⟩:=h
 ·exact take_zero a cap w
 ·have Mr:∀ x∈bs.take 10,x<256:=λ x hx=>hs x (List.mem_of_mem_take hx)
  rcases Nat.lt_or_ge 10 n with hb | hb
  ·exact Zrf b off n cap (bs.take 10) w hb (by rw[ZV];omega) Mr h1 h2 (λ i hi=>by rw[Zhm hi];exact h6 i ZO)
  ·have e:bs.take 10=bs:=ZU ZO;rw[e];exact Zor b off n cap bs w hb hl hs h1 h2 h6
theorem ZpL(s:ByteArray):str (bs s)=s:=by
 have h:(str (bs s)).data=s.data:=by
  apply Array.toList_inj.1;simp only[str,strOfNums_data,bs,List.map_map];conv=>rhs;rw[←List.map_id s.data.toList]
  apply List.map_congr_left;intro x _;simp[Function.comp]
 cases hs:str (bs s)
 cases s
 rw[hs] at h;exact congrArg ByteArray.mk h
theorem Bytes.drop{w:World}{a:Option Addr}{n cap:Nat}{l:List Nat}(h:Bytes w a n cap l){k:Nat}(hk:k<n):∃ b off,a=some ⟨b,off,none⟩/\Bytes w (some ⟨b,off+k,none⟩) (n-k) (cap-k) (l.drop k):=by
 obtain⟨b,off,rfl,hb,hc⟩:=h.pos ZO;have hl:=h.len;refine⟨b,off,rfl,by have:=h.1;omega,by have:=h.2.1;omega,.inr ⟨b,off+k,rfl,hb,by rw[List.length_drop];omega,λ i hi=>?_⟩⟩;have:=hc (k+i) ZO;rw[Nat.add_assoc,this];simp[List.getD,List.getElem?_drop]
theorem Bytes.grown{w w':World}{a:Option Addr}{n cap:Nat}{l:List Nat}{row:Option Nat}(h:Bytes w a n cap l)(hg:w.grownBy w' row)(hr:∀ ad g,a=some ad->row=some g->ad.block≠g):Bytes w' a n cap l:=by
 refine⟨h.1,h.2.1,?_⟩;rcases h.2.2 with h' | ⟨b,off,h1,h4,h5,h6⟩
 ·exact .inl h'
 ·refine .inr ⟨b,off,h1,ZR h4 hg.size,h5,λ i hi=>?_⟩;rw[World.cell?_of_block (w:=w) (hg.block b h4 (λ e=>hr _ _ h1 e.symm rfl))];exact h6 i hi
structure Rd(w:World)(pe pu pb:Nat)(a:Option Addr)(n cap:Nat)(l:List Nat)(pos:Nat):Prop where
 err:Blk w pe 28 #[.int .i64 0]
 used:Blk w pu 3 #[.int .i64 pos]
 buf:Blk w pb 106 #[.slice a n cap]
 bytes:Bytes w a n cap l
 apart:∀ ad,a=some ad->ad.block≠pu
 ne1:pe≠pu
 ne2:pb≠pu
 small:n<=1000000
theorem Rd.step{w w':World}{pe pu pb:Nat}{a:Option Addr}{n cap:Nat}{l:List Nat}{pos GB:Nat}(h:Rd w pe pu pb a n cap l pos)(hg:w.grownBy w' (some pu))(hu:Blk w' pu 3 #[.int .i64 GB]):Rd w' pe pu pb a n cap l GB :=
 ⟨h.err.grown hg (by simp[h.ne1]),hu,h.buf.grown hg (by simp[h.ne2]),h.bytes.grown hg (λ ad g h1 h2=>by injection h2 with h2;subst h2;exact h.apart ad h1),h.apart,h.ne1,h.ne2,h.small⟩
theorem Zey(w:World)(p:Nat)(v:Value):w.grownBy (w.setCell ⟨p,0,none⟩ v) (some p):=⟨rfl,rfl,rfl,by simp[World.setCell],λ k _ hk=>Below.heap_setCell _ _ _ _ (λ e=>hk (by simp[e]))⟩
theorem Blk.one{w:World}{g:Nat}{t:TypeId}{v:Value}(h:Blk w g t #[v]):w.cell? ⟨g,0,none⟩=some v/\w.frozen? ⟨g,0,none⟩=false/\g<w.heap.size:=⟨h.cell 0,h.frozen 0,h.lt⟩
theorem Blk.bf{w:World}{g:Nat}{t:TypeId}{v:Value}(h:Blk w g t #[v])(u:Value):Blk (w.setCell ⟨g,0,none⟩ u) g t #[u]:=by
 have:=h.ai 0 u;simpa using this
theorem ZeB{w:World}{pe pu pb:Nat}{a:Option Addr}{n cap:Nat}{l:List Nat}{pos:Nat}(h:Rd w pe pu pb a n cap l pos)(lo hi:Int)(c:Nat)(hc:l[pos]? = some c)(h1:lo<=c)(h2:c<=hi)(hc256:c<256):
  Calls prog 229 #[.int .i64 lo,.int .i64 hi,.pointer (some ⟨pe,0,none⟩),.pointer (some ⟨pu,0,none⟩),.pointer (some ⟨pb,0,none⟩)] w λ e w'=>e = .returned (.int .i64 c)/\Rd w' pe pu pb a n cap l (pos+1)/\w.grownBy w' (some pu):=by
 have hlen:=h.bytes.len;have eL:pos<l.length:=by
  rcases Nat.lt_or_ge pos l.length with h | h
  ·exact h
  ·rw[List.getElem?_eq_none h] at hc;cases hc
 obtain⟨b,off,rfl,hb,ib⟩:=h.bytes.pos ZO;have bU:=ib pos ZO;have hg:l.getD pos 0=c:=by simp[List.getD,hc]
 rw[hg] at bU;obtain⟨e1,e2,e3⟩:=h.err.one;obtain⟨u1,u2,u3⟩:=h.used.one;obtain⟨b1,b2,b3⟩:=h.buf.one;have oM:(pos:Int)<(n:Int):=ZO;have my:decide ((pos:Int)>=(n:Int))=false:=ZP;have eH:=h.bytes.1;have ic:=h.bytes.2.1;have cI:=h.small;unfold maxLen at ic;have ed:=h.step (Zey w pu (.int .i64 ((pos+1:Nat):Int))) (h.used.bf _);have jz:=Zey w pu (.int .i64 ((pos+1:Nat):Int));have im:((pos+1:Nat):Int)=(pos:Int)+1:=ZO;rw[im] at ed jz;obtain⟨fq,zA⟩:=ZH2 ed jz;clear ed jz im ib hc h hlen hg;go_enter func229,ntmps229;go_wp2_with (go_at_call 190;refine(Zgx _ _ _ _ ZO ZO).mono ?_;rintro e w' ⟨rfl,rfl⟩)
 go_ret;exact⟨rfl,fq.out,zA.out⟩
theorem ZpM{l:List Nat}{pos n:Nat}{rest:List Nat}(h:l.drop pos=Zd n++rest)(hn:n<18446744073709551616):Zc0 ((l.drop pos).take 10)=(n,(Zd n).length,0):=by
 rw[h];exact ZcE n rest hn
theorem Zgh{w:World}{pe pu pb:Nat}{a:Option Addr}{n cap:Nat}{l:List Nat}{pos:Nat}(h:Rd w pe pu pb a n cap l pos)(hs:∀ x∈l,x<256)(lo hi:Int)(v:Nat)(rest:List Nat)(hv:l.drop pos=Zd v++rest)(h0:0<=lo)(h1:lo<=v)(h2:v<=hi)(hv32:hi<=16777216):
  Calls prog 230 #[.int .i64 lo,.int .i64 hi,.pointer (some ⟨pe,0,none⟩),.pointer (some ⟨pb,0,none⟩),.pointer (some ⟨pu,0,none⟩)] w λ e w'=>e = .returned (.int .i64 v)/\Rd w' pe pu pb a n cap l (pos+(Zd v).length)/\w.grownBy w' (some pu):=by
 have hlen:=h.bytes.len;have fQ:=Z4 v;have rI:=Zdh (show v<=16777216 by omega);have eL:pos+(Zd v).length<=l.length:=by
  have:=congrArg List.length hv;rw[List.length_drop,ZI] at this;omega
 obtain⟨b,off,rfl,fB⟩:=h.bytes.drop (k:=pos) ZO;obtain⟨e1,e2,e3⟩:=h.err.one;obtain⟨u1,u2,u3⟩:=h.used.one;obtain⟨b1,b2,b3⟩:=h.buf.one;have eH:=h.bytes.1;have ic:=h.bytes.2.1;have cI:=h.small;unfold maxLen at ic;have js:=ZcD fB (λ x hx=>hs x (List.mem_of_mem_drop hx));have fT:=ZpM hv ZO;have jz:=Zey w pu (.int .i64 ((pos+(Zd v).length:Nat):Int));have ed:=h.step jz (h.used.bf _);have im:((pos+(Zd v).length:Nat):Int)=(pos:Int)+((Zd v).length:Int):=ZO;rw[im] at ed jz;have nS:decide ((v:Int)<lo)=false:=ZP;have o6:decide ((v:Int)>hi)=false:=ZP;have xj:IntKind.u64.wrap lo=lo:=by rw[IntKind.wrap_u64];omega
 have hwh:IntKind.u64.wrap hi=hi:=by rw[IntKind.wrap_u64];omega
 obtain⟨fq,zA,gE,ld⟩:=ZH4 ed jz js fT;have oM:pos<n:=ZO;clear ed jz im h js fT hv hs fB;generalize (Zd v).length=m at *;go_enter func230,ntmps230;go_wp2_with fail;refine gE.out.mono ?_;rintro e w1 hP;obtain⟨rfl,rfl⟩:e = .returned (.tuple #[.int .u64 v,.int .i64 m,.int .i64 ((0:Nat):Int)])/\w=w1:=by
  have fR:=hP;unfold ZaQ at fR;rw[ld.out] at fR;exact fR
 have PG:IntKind.i64.wrap (v:Int)=(v:Int):=IntWalk.i64_in _ ZO;clear hP;go_wp2
 go_ret;exact⟨rfl,fq.out,zA.out⟩
theorem Rd.below{w w':World}{pe pu pb:Nat}{a:Option Addr}{n cap:Nat}{l:List Nat}{pos:Nat}(h:Rd w pe pu pb a n cap l pos)(hb:Below w.heap.size w w'):Rd w' pe pu pb a n cap l pos :=
 ⟨h.err.ob hb,h.used.ob hb,h.buf.ob hb,h.bytes.kept hb (ZL _),h.apart,h.ne1,h.ne2,h.small⟩
theorem ZhR{w w1 w2:World}{row:Option Nat}(h:w.grownBy w1 row)(hb:Below w1.heap.size w1 w2):w.grownBy w2 row :=
 ⟨hb.os.trans h.os,hb.tape.trans h.tape,hb.output.trans h.output,ZT h.size hb.size,λ k hk hr=>(hb.block k (ZR hk h.size)).trans (h.block k hk hr)⟩
theorem ZpW{w:World}{pe pu pb:Nat}{a:Option Addr}{n cap:Nat}{l:List Nat}{pos:Nat}(h:Rd w pe pu pb a n cap l pos)(s:ByteArray)(rest:List Nat)(hv:l.drop pos=bs s++rest)(h1:1<=s.size)
  (hf:∀ W,Calls prog 147 #[.string s] W (Zv (.int .i64 0) W)) :
  Calls prog 231 #[.int .i64 s.size,.func (.func 147) #[] #[],.pointer (some ⟨pe,0,none⟩),.pointer (some ⟨pb,0,none⟩),.pointer (some ⟨pu,0,none⟩)] w λ e w'=>e = .returned (.string s)/\Rd w' pe pu pb a n cap l (pos+s.size)/\w.grownBy w' (some pu):=by
 have hlen:=h.bytes.len;have eL:pos+s.size<=l.length:=by
  have:=congrArg List.length hv;rw[List.length_drop,ZI,Zc2] at this;omega
 obtain⟨b,off,rfl,fB⟩:=h.bytes.drop (k:=pos) ZO;have lC:=fB.cut s.size ZO;have et:(l.drop pos).take s.size=bs s:=by rw[hv,←Zc2 s];exact List.take_left
 rw[et] at lC;have Bm:=Zhw (P:=prog) underlying106 underlying5 lC 9 underlying9;rw[ZpL] at Bm;obtain⟨e1,e2,e3⟩:=h.err.one;obtain⟨u1,u2,u3⟩:=h.used.one;obtain⟨b1,b2,b3⟩:=h.buf.one;have eH:=h.bytes.1;have ic:=h.bytes.2.1;have cI:=h.small;unfold maxLen at ic;have jz:=Zey w pu (.int .i64 ((pos+s.size:Nat):Int));have ed:=h.step jz (h.used.bf _);have im:((pos+s.size:Nat):Int)=(pos:Int)+(s.size:Int):=ZO;rw[im] at ed jz;have ce:decide ((n:Int)-(pos:Int)<(s.size:Int))=false:=ZP;obtain⟨fq,zA,HF⟩:=ZH3 ed jz hf;have oM:pos<n:=ZO;have gj:pos+s.size<=n:=ZO;clear ed jz im h hv fB lC et hf;go_enter func231,ntmps231;go_wp2_with fail;refine(HF.out _).mono ?_;rintro e w1 ⟨rfl,bS⟩;obtain⟨zS,zB⟩:=ZH2 (fq.out.below bS) (ZhR zA.out bS);go_wp2
 go_ret;exact⟨rfl,zS.out,zB.out⟩
theorem ZmH{w:World}{pe pu pb:Nat}{a:Option Addr}{n cap:Nat}{l:List Nat}{pos:Nat}(h:Rd w pe pu pb a n cap l pos)(s:ByteArray)(rest:List Nat)(hv:l.drop pos=bs s++rest)(h1:1<=s.size)
  (hf:∀ W,Calls prog 149 #[.string s] W (Zv (.int .i64 0) W)) :
  Calls prog 231 #[.int .i64 s.size,.func (.func 149) #[] #[],.pointer (some ⟨pe,0,none⟩),.pointer (some ⟨pb,0,none⟩),.pointer (some ⟨pu,0,none⟩)] w λ e w'=>e = .returned (.string s)/\Rd w' pe pu pb a n cap l (pos+s.size)/\w.grownBy w' (some pu):=by
 have hlen:=h.bytes.len;have eL:pos+s.size<=l.length:=by
  have:=congrArg List.length hv;rw[List.length_drop,ZI,Zc2] at this;omega
 obtain⟨b,off,rfl,fB⟩:=h.bytes.drop (k:=pos) ZO;have lC:=fB.cut s.size ZO;have et:(l.drop pos).take s.size=bs s:=by rw[hv,←Zc2 s];exact List.take_left
 rw[et] at lC;have Bm:=Zhw (P:=prog) underlying106 underlying5 lC 9 underlying9;rw[ZpL] at Bm;obtain⟨e1,e2,e3⟩:=h.err.one;obtain⟨u1,u2,u3⟩:=h.used.one;obtain⟨b1,b2,b3⟩:=h.buf.one;have eH:=h.bytes.1;have ic:=h.bytes.2.1;have cI:=h.small;unfold maxLen at ic;have jz:=Zey w pu (.int .i64 ((pos+s.size:Nat):Int));have ed:=h.step jz (h.used.bf _);have im:((pos+s.size:Nat):Int)=(pos:Int)+(s.size:Int):=ZO;rw[im] at ed jz;have ce:decide ((n:Int)-(pos:Int)<(s.size:Int))=false:=ZP;obtain⟨fq,zA,HF⟩:=ZH3 ed jz hf;have oM:pos<n:=ZO;have gj:pos+s.size<=n:=ZO;clear ed jz im h hv fB lC et hf;go_enter func231,ntmps231;go_wp2_with fail;refine(HF.out _).mono ?_;rintro e w1 ⟨rfl,bS⟩;obtain⟨zS,zB⟩:=ZH2 (fq.out.below bS) (ZhR zA.out bS);go_wp2
 go_ret;exact⟨rfl,zS.out,zB.out⟩
end Go.Proofs.YtjkfognelhiepaaGreat
