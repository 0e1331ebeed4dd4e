import Derived.ArgAppend
import Derived.Test.YtjkfognelhiepaaGreatR02
namespace Go.Proofs.YtjkfognelhiepaaGreat
open Go.RowKit _root_.Go.Proofs.Tryz
open Value renaming slice→S_,int→I_,bool→B_,string→T_,pointer→P_
open IntKind renaming i64→J_
open Obj renaming cells→C_
open Ending renaming returned→R_
set_option maxRecDepth 100000
set_option maxHeartbeats 8000000
theorem Q_:(∀{α:Type}{l:List α}{i:Nat}{a:α},l.toArray.setIfInBounds i a=(l.set i a).toArray)∧(∀{α:Type}{x:α}{l:List α}{a:α},(x::l).set 0 a=a::l)∧∀{α:Type}{x:α}{l:List α}{n:Nat}{a:α},(x::l).set (n+1) a=x::l.set n a:=⟨ZA,ZB,ZC⟩
theorem N_(x:Bool)(w:World):(Op.unary .not (.bool x)).run prog w=.ok (.bool (!x)) w:=rfl
variable{P:Program}{T:Nat->Prop}{a:Option Addr}{base batch cap g i id j k m most n p sent t:Nat}{es:List Ev}{l:List Nat}{own':Own}{v v0:Value}{w w':World}
section
variable {P:Program}{cQ:Array Oper}{Q:Exit->Act->World->Prop}{S:World->Prop}{cut:Nat->Bool}
theorem Zea{R:World->Prop}{Lv:Bool->Array Bool->Prop}{oi:Oper}(hi:cQ[i]? = some oi)(CL:Region.noSelect cQ=true)
  (hQ:∀c a w,Q (.panic c) (a.put oi.dst v) w->Q (.panic c) a w) (B8:cut i=false)
  (hR:∀live cC x,Lv live cC->(live=true->S x)->R x)
  (hL:∀live cC j oj,Lv live cC->j≠i->j∈Region.ready .any cQ cC->cQ[j]? = some oj->Lv (live && !cut j) (cC.setIfInBounds j true)) :
  ∀(n:Nat) (cC:Array Bool) (live:Bool) (a:Act) (w:World),(∀j oj,cQ[j]? = some oj->j≠i->cC.getD j true=false->(∀e∈oj.after,Region.binds .any e=true->e.on≠i)->oi.apart cQ oj=true) ->
   i∈Region.ready .any cQ cC->YieldsIf P cQ R oi v a->Lv live cC->(live=true->S w) ->
   Zcw P cQ Q cut S n (cC.setIfInBounds i true) live (a.put oi.dst v) w->Zcw P cQ Q cut S (n+1) cC live a w:=by
 have hs:=Region.noSelect_spec CL;have il:∀live:Bool,(live && !cut i)=live:=λlive=>by rw[B8];simp
 intro n
 induction n with
 |zero =>
  intro cC live a w _ hr hy hl hS H;refine⟨λh=>(by rw[h]at hr;cases hr),λj hj=>?_⟩;by_cases kP:j=i
  ·subst kP;rw[il];exact hy.wpOp hi (hR live cC w hl hS) ⟨hS,H⟩
  ·have:=ready_mono hj kP;rw[H.1]at this
   cases this
 |succ n ih =>
  intro cC live a w lj hr hy hl hS H;refine⟨λh=>(by rw[h]at hr;cases hr),λj hj=>?_⟩;by_cases kP:j=i
  ·subst kP;rw[il];exact hy.wpOp hi (hR live cC w hl hS) ⟨hS,H⟩
  ·obtain⟨vd,oj,q7,_⟩:=mem_ready.1 hj;have eC:=Zhw hr hj q7;have h2:=wpOp_putIf q7 (lj j oj q7 kP vd eC) (λcs b=>hs i oi cs b hi) (λcs b=>hs j oj cs b q7) hQ hy (H.2 j (ready_mono hj kP));refine wpOp_mono (λa' w' h3=>⟨h3.2.1,ih (cC.setIfInBounds j true) _ a' w' (λk ok hk yf An gY=>?_) (ready_mono hr (Ne.symm kP)) h3.1 (hL live cC j oj hl kP hj q7) h3.2.1 ?_⟩) h2
   ·refine lj k ok hk yf ?_ gY;by_cases GS:j=k
    ·subst GS;exact vd
    ·rw[getD_set_ne true GS]at An;exact An
   ·rw[Array.setIfInBounds_comm _ _ kP];exact h3.2.2
def Ztm(cQ:Array Oper)(D:List Nat)(k:Nat):Bool:=match cQ[k]? with|some o=>o.after.any λx=>Region.binds .any x&&D.contains x.on|none=>false
def ZdC(cQ:Array Oper):List (Nat×Nat)->List Nat->List Nat
 | [],D=>D
 |(k,_)::r,D=>ZdC cQ r (if Ztm cQ D k=true then k::D else D)
theorem ZkZ{k:Nat}:∀(τ : List (Nat×Nat)) (D:List Nat),k∈D->k∈ZdC cQ τ D
 | [],_,h=>h
 |(j,_)::r,D,h=>by
  unfold ZdC;apply ZkZ r;split
  ·exact List.mem_cons_of_mem _ h
  ·exact h
theorem ZjF{k:Nat}{oj:Oper}(ho:cQ[k]? = some oj):∀(τ : List (Nat×Nat)) (D:List Nat),k∈ZdC cQ τ D->k∈D∨∃e∈oj.after,Region.binds .any e=true/\e.on∈ZdC cQ τ D
 | [],_,h => .inl h
 |(j,b)::r,D,h=>by
  unfold ZdC at h ⊢;rcases ZjF ho r _ h with h1|h1
  ·split at h1
   ·rename_i hc;rcases List.mem_cons.1 h1 with h2|h2
    ·subst h2;refine .inr ?_;unfold Ztm at hc;rw[ho]at hc;simp only[Array.any_eq_true,Bool.and_eq_true]at hc;obtain⟨q,hq,h4,h5⟩:=hc;have h6:(oj.after[q]).on∈D:=by simpa using h5
     refine⟨_,Array.getElem_mem hq,h4,?_⟩;apply ZkZ;split
     ·exact List.mem_cons_of_mem _ h6
     ·exact h6
    ·exact .inl h2
   ·exact .inl h1
  ·exact .inr h1
def ZgD(cQ:Array Oper)(τ : List (Nat×Nat))(i:Nat)(cC:Array Bool):Bool := τ.all (λe => !(e.2==2)||(ZdC cQ τ [i]).contains e.1)&&(ZdC cQ τ [i]).all λk=>cC.getD k true==false
theorem ZhA{τ : List (Nat×Nat)}{i:Nat}{cC:Array Bool}(h:ZgD cQ τ i cC=true):∀k∈ZdC cQ τ [i],cC.getD k true=false:=by
 simp only[ZgD,Bool.and_eq_true,List.all_eq_true]at h;intro k hk;simpa using h.2 k hk
theorem Zi5{τ : List (Nat×Nat)}{i:Nat}{cC l:Array Bool}(h:ZgD cQ τ i cC=true){lv:Bool}(h1:lv=true/\∀k∈ZdC cQ τ [i],l.getD k true=false){j:Nat}{oj:Oper}(kP:j≠i)(hj:j∈Region.ready .any cQ l)(ho:cQ[j]? = some oj):
  (lv && !ZaB τ j)=true/\∀k∈ZdC cQ τ [i],(l.setIfInBounds j true).getD k true=false:=by
 have eC:j ∉ ZdC cQ τ [i]:=by
  intro hm;rcases ZjF ho τ _ hm with h2|⟨e,he,hb,CH⟩
  ·exact kP (by simpa using h2)
  ·obtain⟨_,Wv,oD,eR⟩:=mem_ready.1 hj;rw[ho]at oD;injection oD with oD;subst oD;have h3:=eR e he hb;have h0:=h1.2 _ CH;rcases Nat.lt_or_ge e.on l.size with h'|h'
   ·simp[h']at h0 h3;rw[h0]at h3
    cases h3
   ·simp[Array.getElem?_eq_none h']at h3
 refine⟨?_,λk hk=>?_⟩
 ·have hc:ZaB τ j=false:=by
   rcases hc:ZaB τ j with _|_
   ·rfl
   ·simp only[ZaB,List.any_eq_true,Bool.and_eq_true,beq_iff_eq]at hc;obtain⟨e,he,g1,g2⟩:=hc;simp only[ZgD,Bool.and_eq_true,List.all_eq_true]at h;have h3:=h.1 e he;rw[g1,g2]at h3;exact absurd (by simpa using h3) eC
  rw[h1.1,hc];rfl
 ·rw[getD_set_ne true (λe=>eC (by rw[e];exact hk))];exact h1.2 k hk
def Zc7(cQ:Array Oper)(τ : List (Nat×Nat)):List (Nat×Nat)->Array Bool->Bool->Bool
 | [],cC,_=>(Region.ready .any cQ cC).isEmpty
 |(i,k)::r,cC,live =>
  (if k=0 then(Region.ready .any cQ cC).contains i&&Region.free .any cQ cC i&&live && !ZaB τ i&&ZgD cQ τ i cC
   else if k=3 then(Region.ready .any cQ cC).contains i&&Region.free .any cQ cC i && !ZaB τ i
   else if k=1 then Region.ready .any cQ cC==[i]&&live && !ZaB τ i
   else Region.ready .any cQ cC==[i]&&ZaB τ i)&&Zc7 cQ τ r (cC.setIfInBounds i true) (live && !ZaB τ i)
theorem ZeJ(hs:Region.noSelect cQ=true)(hQ:∀c a (d:Option Tmp) v w,Q (.panic c) (a.put d v) w->Q (.panic c) a w)(τ : List (Nat×Nat)):
  ∀(σ : List (Nat×Nat)) (S:World->Prop) (cC:Array Bool) (live:Bool) (a:Act) (w:World),Zc7 cQ τ σ cC live=true->(live=true->S w)->Zae P cQ Q σ S a w ->
   Zcw P cQ Q (ZaB τ) S σ.length cC live a w
 | [],_,cC,_,a,w,hc,_,h=>⟨by simpa [Zc7] using hc,h⟩
 |(i,k)::r,S,cC,live,a,w,hc,hS,h=>by
  obtain⟨o,ho,h⟩:=h;simp only[Zc7,Bool.and_eq_true]at hc;obtain⟨fL,kM⟩:=hc;have ih:=λS a w=>ZeJ hs hQ τ r S (cC.setIfInBounds i true) (live && !ZaB τ i) a w kM
  show Zcw P cQ Q (ZaB τ) S (r.length+1) cC live a w
  by_cases k0:k=0
  ·rw[ZPp k0]at fL;simp only[Bool.and_eq_true,Bool.not_eq_true']at fL;obtain⟨⟨⟨⟨c1,c2⟩,c3⟩,c4⟩,c5⟩:=fL;have e:(live && !ZaB τ i)=live:=by rw[c4];simp
   rw[e]at ih;have F:=λ(v:Value) (hy:YieldsIf P cQ S o v a)=>Zea (Lv:=λb l=>b=true/\∀k∈ZdC cQ τ [i],l.getD k true=false) ho hs (λc a w=>hQ c a _ v w) c4 (λ_ _ _ h1 h2=>h2 h1.1) (λlv l j oj h1 kP hj q7=>Zi5 c5 h1 kP hj q7) r.length cC live a w
    (λj oj=>Region.free_spec ho c2 j oj) (by simpa using c1) hy ⟨c3,ZhA c5⟩ hS
   by_cases hw:Region.wanted o (yielded cQ a.tmps)=true
   ·rw[ZPp hw,ZPp k0]at h;obtain⟨v,hv,h⟩:=h;exact F v (Or.inl ⟨hw,hv⟩) (ih _ _ _ hS h)
   ·rw[ZPn hw]at h;exact F undef (Or.inr ⟨by simpa using hw,rfl⟩) (ih _ _ _ hS h)
  ·rw[ZPn k0]at fL;by_cases k3:k=3
   ·rw[ZPp k3]at fL;simp only[Bool.and_eq_true,Bool.not_eq_true']at fL;obtain⟨⟨c1,c2⟩,c4⟩:=fL;have e:(live && !ZaB τ i)=live:=by rw[c4];simp
    rw[e]at ih;have F:=λ(v:Value) (hy:YieldsIf P cQ (λ_=>True) o v a)=>Zea ho hs (λc a w=>hQ c a _ v w) c4 (Lv:=λ_ _=>True) (λ_ _ _ _ _=>trivial) (λ_ _ _ _ _ _ _ _=>trivial) r.length cC live a w
     (λj oj=>Region.free_spec ho c2 j oj) (by simpa using c1) hy trivial hS
    by_cases hw:Region.wanted o (yielded cQ a.tmps)=true
    ·rw[ZPp hw,ZPn k0,ZPp k3]at h;obtain⟨v,hv,h⟩:=h;exact F v (Or.inl ⟨hw,λw' _=>hv w'⟩) (ih _ _ _ hS h)
    ·rw[ZPn hw]at h;exact F undef (Or.inr ⟨by simpa using hw,rfl⟩) (ih _ _ _ hS h)
   ·rw[ZPn k3]at fL;by_cases k1:k=1
    ·rw[ZPp k1]at fL;simp only[Bool.and_eq_true,Bool.not_eq_true',beq_iff_eq]at fL;obtain⟨⟨c1,c3⟩,c4⟩:=fL;refine Zfx c1 ?_;have e:(live && !ZaB τ i)=true:=by rw[c4,c3];rfl
     rw[e]at ih ⊢;unfold wpOp;simp only[ho];by_cases hw:Region.wanted o (yielded cQ a.tmps)=true
     ·rw[ZPp hw,ZPn k0,ZPn k3,ZPp k1]at h;rw[ZPp hw];exact .inl (Oper.wp_mono (λa' w' ⟨S',h1,h2,h3⟩=>⟨λ_=>h1 _ h2,ZeX h1 _ _ _ _ _ (ih S' _ _ (λ_=>h2) h3)⟩) h)
     ·rw[ZPn hw]at h ⊢;exact⟨λ_=>hS c3,ih _ _ _ (λ_=>hS c3) h⟩
    ·rw[ZPn k1]at fL;simp only[Bool.and_eq_true,beq_iff_eq]at fL;obtain⟨c1,c4⟩:=fL;refine Zfx c1 ?_;have e:(live && !ZaB τ i)=false:=by rw[c4];simp
     rw[e]at ih ⊢;unfold wpOp;simp only[ho];by_cases hw:Region.wanted o (yielded cQ a.tmps)=true
     ·rw[ZPp hw,ZPn k0,ZPn k3,ZPn k1]at h;rw[ZPp hw];exact .inl (Oper.wp_mono (λa' w' h3=>⟨λhf=>(by cases hf),ih S _ _ (λhf=>(by cases hf)) h3⟩) h)
     ·rw[ZPn hw]at h ⊢;exact⟨λhf=>(by cases hf),ih _ _ _ (λhf=>(by cases hf)) h⟩
theorem Zjw{a:Act}(S:World->Prop)(σ : List (Nat×Nat))(hm:P.follows .mixedOrders=true)
  (hc:(Region.noSelect cQ&&(σ.length==cQ.size&&Zc7 cQ σ σ (Array.replicate cQ.size false) true))=true)
  (hQ:∀c a (d:Option Tmp) v w,Q (.panic c) (a.put d v) w->Q (.panic c) a w) (hS:S w.drew)
  (h:S w.drew->Zae P cQ Q σ S a w.drew):(Code.region id cQ true).wp P Q a w:=by
 simp only[Bool.and_eq_true,beq_iff_eq]at hc;obtain⟨h1,h2,h3⟩:=hc;have hw:=ZeJ h1 hQ σ σ S _ true a _ h3 (λ_=>hS) (h hS);rw[h2]at hw;exact wp_region_any hm (Zfw _ _ _ _ _ hw)
end
theorem ZSg{cQ:Array Oper}{Q:Exit->Act->World->Prop}{id:Nat}{a:Act}(S:World->Prop)(σ : List (Nat×Nat))(hS:S w.drew)(h:S w.drew->Zae P cQ (NoPanic Q) σ S a w.drew)(hm:P.follows .mixedOrders=true:=by kernel_rfl)
  (hc:(Region.noSelect cQ&&(σ.length==cQ.size&&Zc7 cQ σ σ (Array.replicate cQ.size false) true))=true:=by kernel_rfl):(Code.region id cQ true).wp P Q a w:=wp_region_noPanic (Zjw S σ hm hc (λ_ _ _ _ _ h=>h) hS h)
theorem ZSi{cQ:Array Oper}{Q:Exit->Act->World->Prop}{id:Nat}{a:Act}(σ : List (Nat×Nat))(h:K_ w w.drew->Zae P cQ (NoPanic Q) σ (λw'=>K_ w w') a w.drew)(hm:P.follows .mixedOrders=true:=by kernel_rfl)
  (hc:(Region.noSelect cQ&&(σ.length==cQ.size&&Zc7 cQ σ σ (Array.replicate cQ.size false) true))=true:=by kernel_rfl):(Code.region id cQ true).wp P Q a w:=ZSg (λw'=>K_ w w') σ (Kept.drew ⟨ZW _ _,ZL _⟩) h hm hc
theorem Zfa(g:Nat):∀(vs:List Value) (i:Nat) (w:World),w.setCells g i vs=setAll w g i vs
 | [],_,_=>rfl
 |_::vs,i,_=>Zfa g vs (i+1) _
theorem ZgB(w:World)(g i:Nat)(vs:List Value):w.grownBy (setAll w g i vs) (some g):=by
 obtain⟨h1,h2,h3⟩:=ZcB (g:=g) vs i w;exact⟨h1,h2,h3,by rw[Za3];exact ZL _,λk _ hk=>Zai (λe=>hk (by rw[e])) vs i w⟩
def Zu5(cs:List Value)(i:Nat)(vs:List Value):List Value:=cs.take i++vs++cs.drop (i+vs.length)
theorem Zfc(w:World)(t e ty:TypeId)(z:Value)(ht:P.underlying t=some (.slice e))(hv:∀w,(zeroValue e).run P w=.ok z w)(h1:∀v∈z.cells.toList,v.oneCell'=true)(b o n c:Nat)(hn:0<n)
  (hc:∀j,j<n*z.cells.size->(w.cell? ⟨b,o+j,none⟩).isSome=true) (hf:∀j,j<n*z.cells.size->w.frozen? ⟨b,o+j,none⟩=false) :
  (Builtin.clear_ #[t] ty #[S_ (some ⟨b,o,none⟩) n c]).run P w=.ok (.tuple #[]) (setAll w b o (Builtin.zeroCells z.cells n).toList):=by
 have dS:(Builtin.zeroCells z.cells n).toList.length=n*z.cells.size:=by simpa using size_zeroCells z.cells n
 have eP:=run_storeCells_cells (P:=P) b o (Builtin.zeroCells z.cells n).toList 0 w (by rw[dS];simpa using hc) (by rw[dS];simpa using hf) (by
  intro v Kv;simp only[Builtin.zeroCells,Array.toList_map,List.mem_map]at Kv;obtain⟨i,hi,rfl⟩:=Kv;have VO:i<n*z.cells.size:=by simpa using hi
  have hp:0<z.cells.size:=by
   rcases Nat.eq_zero_or_pos z.cells.size with h|h
   ·rw[h]at VO;omega
   ·exact h
  have hm:i%z.cells.size<z.cells.size:=Nat.mod_lt _ hp;rw[getElem!_pos z.cells _ hm]
  exact h1 _ ZM)
 simp only[Nat.add_zero]at eP;rw[Zfa]at eP;obtain⟨m,rfl⟩:∃m,n=m+1:=⟨n-1,ZO⟩;simp[Builtin.clear_,run_underlying ht,hv,eP]
theorem ZdW(w:World)(t ty e:TypeId)(i0:TypeInfo)(ht:P.underlying t=some (.slice e))(hi:P.info? e=some i0)(g cap sz i m c:Nat)(hs:i0.size=sz)(a:Addr)(cur:List Value)(news:List Value)
  (hg:Blk w g e cur.toArray) (hl:news.length=m*sz) (hn:∀j u,news[j]? = some u->w.cell? (a.add j)=some u) (h1:∀u∈news,u.oneCell'=true) (rN:i+m<=cap) (hc:cur.length=cap*sz) :
  (Builtin.append_ #[t,t] ty #[S_ (some ⟨g,0,none⟩) i cap,S_ (some a) m c]).run P w=.ok (S_ (some ⟨g,0,none⟩) (i+m) cap) (setAll w g (i*sz) news):=by
 subst hs;have OP:(i+m)*i0.size<=cap*i0.size:=Nat.mul_le_mul_right _ rN;rw[Nat.add_mul]at OP
 have hr:=run_append_room_cells (P:=P) w t ty e i0 ht hi g 0 i cap a m c news hl hn h1 rN (λj hj=>by
  rw[hg.cell,ZD,ZX (by rw[hc];omega)]
  rfl) (λj _=>hg.frozen _)
 rw[Nat.zero_add,Zfa]at hr;exact hr
theorem ZkE{e sz:Nat}{xs zs:List Value}(h:w.ownsRow base e sz (S_ (some ⟨g,0,none⟩) n cap) n xs)(pI:i<=j)(zL:j<=n)(hz:zs.length=(j-i)*sz):
  (setAll (setAll w g (i*sz) (xs.drop (j*sz))) g ((i+(n-j))*sz) zs).ownsRow base e sz (S_ (some ⟨g,0,none⟩) (i+(n-j)) cap) (i+(n-j)) (xs.take (i*sz)++xs.drop (j*sz)) /\
   w.grownBy (setAll (setAll w g (i*sz) (xs.drop (j*sz))) g ((i+(n-j))*sz) zs) (some g):=by
 obtain⟨h1,h2⟩:=h;rcases h2 with ⟨h2,_⟩|⟨g',cap',cur,he,hb,hh,fp,iK,gC,ii⟩
 ·cases h2
 ·injection he with fR qe nO
  injection fR with fR
  injection fR with fR
  subst fR nO;have m1:i*sz<=j*sz:=Nat.mul_le_mul_right _ pI;have m2:j*sz<=n*sz:=Nat.mul_le_mul_right _ zL;have m3:n*sz<=cap*sz:=Nat.mul_le_mul_right _ fp;have m4:(i+(n-j))*sz+(j-i)*sz=n*sz:=by rw[←Nat.add_mul];congr 1;omega
  have m5:(i+(n-j))*sz=i*sz+(n*sz-j*sz):=by rw[Nat.add_mul,Nat.sub_mul]
  have hd:(xs.drop (j*sz)).length=n*sz-j*sz:=by rw[List.length_drop,h1]
  have cH:Blk w g e cur.toList.toArray:=by rw[Array.toArray_toList];exact hh
  have cz:=Zbr (xs.drop (j*sz)) (i*sz) w cur.toList cH (by rw[hd,Array.length_toList,gC];omega);have jE:(cur.toList.take (i*sz)++xs.drop (j*sz)++cur.toList.drop (i*sz+(xs.drop (j*sz)).length)).length=cap*sz:=by
   simp only[ZI,ZV,List.length_drop,Array.length_toList,gC,h1];omega
  generalize hL:cur.toList.take (i*sz)++xs.drop (j*sz)++cur.toList.drop (i*sz+(xs.drop (j*sz)).length)=L at cz jE;have cD:=Zbr zs ((i+(n-j))*sz) _ L cz (by rw[hz,jE];omega);have hx:cur.toList.take (n*sz)=xs:=ii;have ht:cur.toList.take (i*sz)=xs.take (i*sz):=by rw[←hx,List.take_take];congr 1;omega
  have IM:L.take ((i+(n-j))*sz)=xs.take (i*sz)++xs.drop (j*sz):=by
   rw[←hL,ht];have hlen:(xs.take (i*sz)++xs.drop (j*sz)).length=(i+(n-j))*sz:=by
    simp only[ZI,ZV,List.length_drop,h1];omega
   rw[←hlen];exact List.take_left
  refine⟨⟨?_,.inr ⟨g,cap,_,rfl,hb,cD,ZO,iK,?_,?_⟩⟩,Zc4 (ZgB w g _ _) (ZgB _ g _ _)⟩
  ·simp only[ZI,ZV,List.length_drop,h1];omega
  ·simp only[List.size_toArray,ZI,ZV,List.length_drop,hz,jE];omega
  ·have e1:(L.take ((i+(n-j))*sz)++zs++L.drop ((i+(n-j))*sz+zs.length)).toArray.toList=L.take ((i+(n-j))*sz)++(zs++L.drop ((i+(n-j))*sz+zs.length)):=ZM;rw[e1,List.take_append_of_le_length (by rw[ZV,jE];omega),List.take_take,Nat.min_self,IM]
theorem ZiH(es:List Ev)(i:Nat):evCells (es.take i)=(evCells es).take (i*12)/\evCells (es.drop i)=(evCells es).drop (i*12):=by
 have h:=ZbE (es.take i) (es.drop i);rw[List.take_append_drop]at h;rcases Nat.lt_or_ge es.length i with hi|hi
 ·rw[List.drop_eq_nil_of_le ZO,List.drop_eq_nil_of_le (by rw[Zaw];omega),ZU ZO,ZU (by rw[Zaw];omega)];exact⟨rfl,rfl⟩
 ·have hl:(evCells (es.take i)).length=i*12:=by rw[Zaw,ZV,Nat.min_eq_left hi]
  rw[h,←hl];exact⟨List.take_left.symm,List.drop_left.symm⟩
theorem ZdA(g:Nat):∀(vs:List Value) (i:Nat) (w:World),setAll w.drew g i vs=(setAll w g i vs).drew
 | [],_,_=>rfl
 |v::vs,i,w=>ZdA g vs (i+1) (w.setCell ⟨g,i,none⟩ v)
theorem Zqo(h:w.ownsRow base 89 12 (S_ (some ⟨g,0,none⟩) n cap) n (evCells es))(pI:i<=j)(zL:j<=n)(hn:n<=1000000):
  Calls prog 177 #[S_ (some ⟨g,0,none⟩) n cap,I_ J_ i,I_ J_ j] w λr w'=>r=R_ (S_ (some ⟨g,0,none⟩) (i+(n-j)) cap)/\w'.ownsRow base 89 12 (S_ (some ⟨g,0,none⟩) (i+(n-j)) cap) (i+(n-j)) (evCells (es.take i++es.drop j))/\w.grownBy w' (some g):=by
 obtain⟨i0,hi,dd,cV,dc⟩:=info_parts ZbV;have hlen:=h.1;have ny:n<=cap/\cap<=maxLen:=by
  rcases h.2 with ⟨h2,_⟩|⟨g',cap',cur,he,_,_,fp,iK,_⟩
  ·cases h2
  ·injection he with _ _ nO;subst nO;exact⟨fp,iK⟩
 obtain⟨fp,iK⟩:=ny;unfold maxLen at iK;have ur:evCells (es.take i++es.drop j)=(evCells es).take (i*12)++(evCells es).drop (j*12):=by rw[ZbE,(ZiH es i).1,(ZiH es j).2]
 rw[ur];have H1:=ZH (ZbC es);generalize evCells es=xs at *;rcases Nat.eq_or_lt_of_le pI with rfl|cI
 ·have e1:i+(n-i)=n:=ZO;have e2:xs.take (i*12)++xs.drop (i*12)=xs:=List.take_append_drop _ _;rw[e1,e2];have H:=ZH h;clear h e1 e2 hlen;have VQ:((i:Int)==(i:Int))=true:=ZM;rcases Nat.eq_or_lt_of_le zL with rfl|cI
  all_goals
   go_enter func177,ntmps177;go_wp2
   go_ret;exact⟨rfl,H.out,Zg1 _ _⟩
 ·have dR:((i:Int)==(j:Int))=false:=ZP;obtain⟨dk,jo⟩:=ZkE (i:=i) (j:=j) (zs:=(Builtin.zeroCells Zk (j-i)).toList) h pI zL (by simp[size_zeroCells]);have j5:i<n:=ZO;have fg:∀ty,(Builtin.clear_ #[128] ty #[S_ (some ⟨g,(i+(n-j))*12,none⟩) (n-(i+(n-j))) (cap-(i+(n-j)))]).run prog (setAll w.drew g (i*12) (xs.drop (j*12)))=.ok (.tuple #[]) (setAll (setAll w.drew g (i*12) (xs.drop (j*12))) g ((i+(n-j))*12) (Builtin.zeroCells Zk (j-i)).toList):=by
   intro ty;have e1:n-(i+(n-j))=j-i:=ZO;rw[e1];rcases h.2 with ⟨h2,_⟩|⟨g',cap',cur,he,_,hh,_,_,gC,_⟩
   ·cases h2
   ·injection he with fR _ nO
    injection fR with fR
    injection fR with fR
    subst fR nO;have cH:Blk w.drew g 89 cur.toList.toArray:=by rw[Array.toArray_toList];exact hh
    have hd:(xs.drop (j*12)).length=(n-j)*12:=by rw[List.length_drop,hlen,Nat.sub_mul]
    have cz:=Zbr (xs.drop (j*12)) (i*12) w.drew cur.toList cH (by rw[hd,Array.length_toList,gC];omega);refine Zfc _ 128 89 ty (.agg Zk) underlying128 ZtG (by intro v hv;exact ZbC [⟨0,0,⟨0,0,0,0,0⟩,0,0,⟨#[]⟩,0,⟨#[]⟩⟩] v (by simpa [evCells,evArr,Value.cells,Zk] using hv)) g _ (j-i) _ ZO (λk hk=>?_) (λk _=>cz.frozen _)
    rw[cz.cell,ZD,ZX (by
     have i6:k<(j-i)*12:=hk;simp only[ZI,ZV,List.length_drop,Array.length_toList,gC,hlen]
     omega)]
    rfl
  obtain⟨HO,HG,H,tC⟩:=ZH4 dk jo h fg;clear dk jo h hlen fg;go_enter func177,ntmps177;go_wp2_with fail;have VR:(j:Int)<=(cap:Int):=ZO;have VP:(i:Int)<=(cap:Int):=ZO;have Ow:i<=cap:=ZO;have Oy:(j:Int)<=(n:Int):=ZO;have Vg:(0:Int)<=(i:Int):=ZO;have Vh:(0:Int)<=(j:Int):=ZO;have lw:(n:Int)<=(cap:Int):=ZO;have eV:∀ty,(Builtin.append_ #[128,128] ty #[S_ (some ⟨g,0,none⟩) i cap,.slice (if cap=j then some ⟨g,0,none⟩ else some ⟨g,j*12,none⟩) (n-j) (cap-j)]).run prog w.drew=.ok (S_ (some ⟨g,0,none⟩) (i+(n-j)) cap) (setAll w.drew g (i*12) (xs.drop (j*12))):=by
   intro ty;have hx:=H.out.1;have fg:∀k u,xs[k]? = some u->w.drew.cell? ((⟨g,0,none⟩:Addr).add k)=some u:=H.out.cells (g:=g) rfl;rcases H.out.2 with ⟨h2,_⟩|⟨g',cap',cur,he,_,hh,_,_,gC,_⟩
   ·cases h2
   ·injection he with fR _ nO
    injection fR with fR
    injection fR with fR
    subst fR nO;have cH:Blk w.drew g 89 cur.toList.toArray:=by rw[Array.toArray_toList];exact hh
    have kE:(xs.drop (j*12)).length=(n-j)*12:=by rw[List.length_drop,hx,Nat.sub_mul]
    by_cases sx:cap=j
    ·rw[ZPp sx];have h0:n-j=0:=ZO
     exact ZdW w.drew _ ty 89 i0 underlying128 hi g cap 12 i (n-j) (cap-j) cV ⟨g,0,none⟩ cur.toList (xs.drop (j*12)) cH kE (λk u hk=>by
      rw[List.getElem?_eq_none (by rw[kE,h0];omega)]at hk
      cases hk) (λu hu=>H1.out u (List.mem_of_mem_drop hu)) ZO (by rw[Array.length_toList,gC])
    ·rw[ZPn sx]
     exact ZdW w.drew _ ty 89 i0 underlying128 hi g cap 12 i (n-j) (cap-j) cV ⟨g,j*12,none⟩ cur.toList (xs.drop (j*12)) cH kE (λk u hk=>by
      have:=fg (j*12+k) u (by rw[←hk,List.getElem?_drop]);have e1:(⟨g,j*12,none⟩:Addr).add k=(⟨g,0,none⟩:Addr).add (j*12+k):=by
       unfold Addr.add;by_cases h1:k=0 <;> by_cases h2:j*12+k=0 <;> simp[h1,h2] <;> omega
      rw[e1]
      exact this) (λu hu=>H1.out u (List.mem_of_mem_drop hu)) ZO (by rw[Array.length_toList,gC])
  have kI:=ZH eV;clear eV;refine ZSh (λw'=>K_ w w') [(0,3),(1,3),(2,3),(3,3),(4,3),(5,3),(6,2),(7,3)] (Kept.drew ⟨ZW _ _,ZL _⟩) λcu=>?_
  repeat((first|refine ZSa ?_|refine ZSb ?_|refine ZSc ?_);simp only[Act.put,Q_])
  refine ZSe λK hK=>?_
  refine Lib.wp_append_run _ (.tmp 22) (.tmp 25) _ _ rfl _ _ rfl rfl _ _ (kI.out _) ?_;refine hK.out _ _ ?_;clear hK K;obtain⟨w3,mV⟩:∃w3,w3=setAll w.drew g (i*12) (xs.drop (j*12)):=⟨_,rfl⟩;have pi:=ZH mV;rw[←mV]at tC ⊢;clear mV;repeat((first|refine ZSa ?_|refine ZSb ?_|refine ZSc ?_);simp only[Act.put,Q_])
  refine ZSf ?_;have fg:=tC.out;go_wp2_with fail
  all_goals(try (have sx:cap=j:=by assumption);try subst sx)
  all_goals
   go_ret;rw[pi.out,ZdA,ZdA];exact⟨rfl,Zi HO.out (λ_ _ _=>rfl),Zc4 HG.out ⟨rfl,rfl,rfl,ZL _,λ_ _ _=>rfl⟩⟩
abbrev outArr(most batch sent:Nat)(v:Value):Array Value:=#[I_ J_ most,I_ J_ batch,I_ J_ sent,v]
structure OutboxAt(own:Own)(t:Nat)(w:World)(p:Nat)(most batch sent:Nat)(wait:List Ev):Prop where
 mine:own p=t
 ex:∃v,Blk w p 216 (outArr most batch sent v)/\RowAt own t w v wait
theorem OutboxAt.upd{T:Nat->Prop}{own own':Own}{w w':World}{t p most batch sent:Nat}{wait:List Ev}(h:OutboxAt own t w p most batch sent wait)(hu:Upd T own own' w w')(ht:¬T t):OutboxAt own' t w' p most batch sent wait:=by
 obtain⟨h1,v,h2,h3⟩:=h;exact⟨by rw[hu.old p h2.lt];exact h1,v,h2.upd hu (by rw[h1];exact ht),h3.upd hu ht⟩
theorem EvSl.cut(h:EvSl w a n cap es){cap':Nat}(hk:k<=n)(hc:k<=cap')(hm:cap'<=maxLen):EvSl w a k cap' (es.take k):=by
 refine⟨hc,hm,by rw[ZV,h.2.2.1,Nat.min_eq_left hk],?_⟩;rcases h.2.2.2 with h'|⟨b,off,h1,h2,h3⟩
 ·exact .inl ZO
 ·refine .inr ⟨b,off,h1,h2,λi e he j hj=>h3 i e ?_ j hj⟩;rw[List.getElem?_take]at he;split at he
  ·exact he
  ·cases he
theorem Blk.four{t:TypeId}{v1 v2 v3:Value}(h:Blk w g t #[v0,v1,v2,v3]):w.cell? ⟨g,0,none⟩=some v0/\w.cell? ⟨g,1,none⟩=some v1/\w.cell? ⟨g,2,none⟩=some v2/\w.cell? ⟨g,3,none⟩=some v3 :=
 ⟨h.cell 0,h.cell 1,h.cell 2,h.cell 3⟩
theorem Zpz(most batch sent:Nat)(w:World):Calls prog 128 #[I_ J_ most,I_ J_ batch,I_ J_ sent] w λr w'=>∃p,r=R_ (P_ (some ⟨p,0,none⟩))/\w.heap.size<=p/\Blk w' p 216 (outArr most batch sent (S_ none 0 0))/\L_ w w':=by
 go_enter func128,ntmps128;go_wp2
 go_ret;exact⟨w.heap.size,rfl,ZL _,ZBn _ _ _,(ZW _ _).alloc (ZL _) _⟩
theorem ZiX{own:Own}{wait:List Ev}(h:OutboxAt own t w p most batch sent wait):Calls prog 64 #[P_ (some ⟨p,0,none⟩)] w (Zx (B_ (decide (wait.length<most))) w):=by
 obtain⟨_,vh,hb,hr⟩:=h;obtain⟨a,cap,rfl,_⟩:=EvSl.ae hr.row;have HB:=ZH hb;clear hb hr;go_enter func64,ntmps64;go_wp2_with fail;refine ZSh (λw'=>Blk w' p 216 (outArr most batch sent (S_ a wait.length cap))) [(0,3),(1,0),(2,3),(3,0),(4,3),(5,3),(6,0),(7,3),(8,0),(9,3),(10,3)] (HB.out.drew) λcu=>?_
 repeat((first|refine ZSa ?_|refine ZSb ?_|(refine Zf rfl (by rfl) (λw' cL=>by obtain⟨c0,c1,c2,c3⟩:=cL.four;go_simp;with_reducible rfl) ?_));simp only[Act.put,Q_])
 refine ZSf ?_;go_wp2
 go_ret;exact⟨ZM,(ZW _ _).drew⟩
theorem Zpy{own:Own}{wait:List Ev}(h:OutboxAt own t w p most batch sent wait):Calls prog 73 #[P_ (some ⟨p,0,none⟩)] w (Zx (I_ J_ wait.length) w):=by
 obtain⟨_,vh,hb,hr⟩:=h;obtain⟨a,cap,rfl,_⟩:=EvSl.ae hr.row;obtain⟨c0,c1,c2,c3⟩:=hb.four;have cI:=hb.lt;clear hb hr;go_enter func73,ntmps73;go_wp2
 go_ret;exact⟨rfl,ZW _ _⟩
theorem ZmY{own:Own}{wait:List Ev}(h:OutboxAt own t w p most batch sent wait)(hn:wait.length<=1000000):Calls prog 75 #[P_ (some ⟨p,0,none⟩)] w (ZeK (wait.take batch) w):=by
 obtain⟨_,vh,hb,hr⟩:=h;obtain⟨a,cap,rfl,hs⟩:=EvSl.ae hr.row;have ry:wait.length<=cap:=hs.1
 have H0:∃k,k=min batch wait.length/\k<=wait.length/\wait.take k=wait.take batch:=⟨_,rfl,Nat.min_le_right _ _,by
  rcases Nat.le_total batch wait.length with h|h
  ·rw[Nat.min_eq_left h]
  ·rw[Nat.min_eq_right h,ZU (ZL _),ZU h]⟩
 obtain⟨k,hk,lu,ii⟩:=H0;have eT:=hs.cut (k:=k) (cap':=k) lu (ZL _) (by unfold maxLen;omega);rw[ii]at eT;obtain⟨HC,HB⟩:=ZH2 (eT.below ((ZW _ w).drew)) hb;have ww:(k:Int)<=(cap:Int):=ZO;have cR:(0:Int)<=(k:Int):=ZO;have jP:∀w ts t,(Builtin.min_ ts t #[I_ J_ (if (0:Int)>(batch:Int) then(0:Int) else(batch:Int)),I_ J_ ((wait.length:Nat):Int)]).run prog w=.ok (I_ J_ (k:Int)) w:=by
  intro w ts t;rw[run_min_int2];congr 2;split <;> split <;> omega
 have D2:min (batch:Int) (wait.length:Int)=(k:Int):=ZO;have OO:max (0:Int) (batch:Int)=(batch:Int):=ZO;have yk:max (batch:Int) (0:Int)=(batch:Int):=ZO;clear hb hr eT hs hk ii;go_enter func75,ntmps75;go_wp2_with fail;refine ZSh (λw'=>Blk w' p 216 (outArr most batch sent (S_ a wait.length cap))) [(0,3),(1,0),(2,3),(3,0),(4,3),(5,3),(6,0),(7,3),(8,0),(9,3),(10,3),(11,3)] (HB.out.drew) λcu=>?_
 repeat((first|refine ZSa ?_|refine ZSb ?_|(refine Zf rfl (by rfl) (λw' cL=>by obtain⟨c0,c1,c2,c3⟩:=cL.four;go_simp;with_reducible rfl) ?_));simp only[Act.put,Q_])
 refine ZSf ?_;have cD:=HB.out.drew;obtain⟨c0,c1,c2,c3⟩:=cD.four;have cI:=cD.lt;clear cD;go_wp2_with fail;refine(Zmm HC.out ZO).mono ?_;rintro r w1 ⟨v1,rfl,fF,cz⟩;obtain⟨HO,dj⟩:=ZH2 fF cz;clear fF cz;go_wp2
 go_ret;exact⟨v1,rfl,HO.out,(ZW _ _).drew.trans dj.out⟩
theorem Upd.grow{own cZ:Own}{w1 w2:World}{v':Value}(hu:Upd T own cZ w w1)(hT:T t)(hv:∀g,v.ownBlock=some g->cZ g=t)(Kv:∀g,v'.ownBlock=some g->g<w2.heap.size)
  (hg:w1.grownBy w2 v.ownBlock) (iy:v'.ownBlock=v.ownBlock∨v'.ownBlock=some w1.heap.size):Upd T own (cZ.put v' t) w w2/\∀b,b<w1.heap.size->cZ.put v' t b=cZ b:=by
 have jd:∀b,b<w1.heap.size->cZ.put v' t b=cZ b:=λb hb=>by
  unfold Own.put;split
  ·rename_i he;rcases iy with h|h
   ·rw[h]at he;exact(hv b he).symm
   ·rw[h]at he;injection he with he;omega
  ·rfl
 refine⟨⟨hg.os.trans hu.os,hg.tape.trans hu.tape,hg.output.trans hu.output,ZT hu.size hg.size,λb hb=>(jd b (ZR hb hu.size)).trans (hu.old b hb),λb hb hn=>?_,λb hb=>?_⟩,jd⟩
 ·refine(hg.block b (ZR hb hu.size) (λe=>?_)).trans (hu.same b hb hn);have:=hv b e.symm;rw[hu.old b hb]at this;exact hn (by rw[this];exact hT)
 ·unfold Own.put;rw[ZPn (λe=>by have:=Kv b e;omega)];exact hu.fresh b (ZT hg.size hb)
def lastOf(sent:Nat)(wait:List Ev):Nat:=match wait.getLast? with|some x=>x.n|none=>sent
theorem Zj4{own:Own}{wait:List Ev}(h:OutboxAt own t w p most batch sent wait)(hf:Fresh own w)(e:Ev)(rN:wait.length<most)(hm:wait.length<=1000000)(hl:lastOf sent wait<2000000)(he:e.n=lastOf sent wait+1):
  Calls prog 70 #[P_ (some ⟨p,0,none⟩),Zaj e] w λr w'=>r=R_ (I_ J_ 0)/\∃own',OutboxAt own' t w' p most batch sent (wait++[e])/\Upd (· = t) own own' w w':=by
 have eS:=(ZW w.heap.size w).alloc (ZL _) (C_ (evArr e) 89);have HU:Hid (Upd (· = t) own own w (w.alloc (C_ (evArr e) 89))):=ZH (ZUb eS hf);obtain⟨fY,v,hb,hr⟩:=h;have H1:Hid (OutboxAt own t (w.alloc (C_ (evArr e) 89)) p most batch sent wait):=ZH (⟨fY,v,hb.ob eS,Ze hr.row (eS.mono (ZL _)),hr.own⟩);have HX:=ZH (ZBn w 89 (evArr e));have Kp:p<w.heap.size:=hb.lt;obtain⟨i0,hi,dd,cV,dc⟩:=info_parts ZbV;have HM:=ZH fY;have cR:w.heap.size<(w.alloc (C_ (evArr e) 89)).heap.size:=ZM;have HE:=ZH he;clear eS hr hb fY he;have l5:decide (wait.length<most)=true:=by simp[rN]
 go_enter func70,ntmps70;go_wp2_with fail;generalize w.alloc (C_ (evArr e) 89)=w0 at *;refine(ZiX H1.out).mono ?_;rintro r w1 ⟨rfl,cz⟩;rw[l5];have h2:OutboxAt own t w1 p most batch sent wait:=H1.out.upd (ZUb (T:=λn=>n≠t) cz HU.out.fresh) (λh=>h rfl);have kw:=HX.out.ob cz;have dC:=ZH (HU.out.kept cz);obtain⟨_,v2,cD,dV⟩:=h2;obtain⟨a2,dy,rfl,ju⟩:=EvSl.ae dV.row;have wA:∀n m,(Value.slice a2 n dy).ownBlock=(Value.slice a2 m dy).ownBlock:=λn m=>by rcases a2 with _|⟨b,o,_|k⟩ <;> rfl
 have p7:=ZH wA;clear wA;obtain⟨c0,c1,c2,c3⟩:=cD.four;obtain⟨e0,e1,e2,e3,e4,e5,e6,e7,e8,e9,jj,jI⟩:=kw.ag;have cI:=cD.lt;have gX:=kw.lt;obtain⟨V,hV⟩:∃V,V=Value.slice a2 wait.length dy:=⟨_,rfl⟩;have mi:=ZH dV.row;rw[←hV]at cD dV;have HV:=ZH hV;clear hV;obtain⟨HS,df,fP,qa⟩:=ZH4 ju cD dV kw;clear ju cD dV kw;have jR:((e.n:Int)==((lastOf sent wait:Nat):Int)+1)=true:=by have:=HE.out;simp;omega
 have AU:Hid ((wait++[e]).length=wait.length+1):=ZH (ZM);have hz:evCells (wait++[e])=evCells wait++(evArr e).toList:=by rw[ZbE];simp[evCells]
 have HZ:=ZH hz;clear hz;rcases List.eq_nil_or_concat wait with hw|⟨wl,x,hw⟩
 focus
  have oW:lastOf sent wait=sent:=by rw[hw];rfl
  have rQ:wait.length=0:=by rw[hw];rfl
  rw[oW]at jR hl;clear hw oW;go_wp2_with fail;have gi:∃n0,n0=wait.length/\n0=0:=⟨0,rQ.symm,rfl⟩
 rotate_left
 focus
  have oW:lastOf sent wait=x.n:=by rw[hw];simp[lastOf]
  have rQ:0<wait.length:=by rw[hw];simp
  have iy:=HS.out.at_ (i:=wait.length-1) (e:=x) (by rw[hw];simp);obtain⟨bb,off,rfl,cW,_,RE,_⟩:=iy;have uX:(0:Int)<(wait.length:Int):=ZO;rw[oW]at jR hl;have kR:((wait.length:Int)-1).toNat=wait.length-1:=ZO;have yj:(0:Int)<=(wait.length:Int)-1:=ZO;have jP:(wait.length:Int)-1<(wait.length:Int):=ZO;clear hw oW;go_wp2_with fail
 rotate_left
 all_goals
  refine ZSi [(0,3),(1,3),(2,0),(3,3),(4,0),(5,0),(6,1),(7,2),(8,3),(9,3),(10,2)] λcu=>?_
  repeat((first|refine ZSa ?_|refine ZSb ?_|refine ZSc ?_);simp only[Act.put,Q_])
  refine ZSd λK hK=>?_
  go_simp;refine hK.out (λw'=>K_ w1 w') _ _ (λ_ h=>h) (cu.alloc _) (λcA=>?_);clear hK K cu;repeat((first|refine ZSa ?_|refine ZSb ?_|refine ZSc ?_);simp only[Act.put,Q_])
  refine ZSe λK hK=>?_
  refine Za9 _ (.tmp 39) (.tmp 41) _ rfl 0 89 i0 _ 12 112 underlying128 hi dd cV dc rfl ZO _ _ (evCells wait) rfl (by first|exact Ze mi.out (((ZW w1.heap.size w1).drew.alloc (ZL _) _).mono (ZL _))|(have h:=Ze mi.out (((ZW w1.heap.size w1).drew.alloc (ZL _) (C_ (evArr e) 89)).mono (ZL _));rw[rQ]at h;exact h)) (w1.heap.size+1) (some ⟨w1.heap.size,0,none⟩) 1 1 (evArr e).toList rfl (Zcj _ _) (ZaT e) ZF ZO (Nat.zero_le _) ?_;intro v3 w3 dW i5 oe;have cJ:w3.ownsRow 0 89 12 v3 (wait++[e]).length (evCells (wait++[e])):=by
   rw[AU.out,HZ.out];first|exact dW|(rw[rQ];exact dW)
  have dL:(w1.drew.alloc (C_ (evArr e) 89)).grownBy w3 V.ownBlock:=by
   rw[HV.out];first|exact i5|(rw[p7.out wait.length 0];exact i5)
  have jK:(v3.ownBlock=V.ownBlock∨v3.ownBlock=some (w1.drew.alloc (C_ (evArr e) 89)).heap.size):=by
   rw[HV.out];first|exact oe|(rw[p7.out wait.length 0];exact oe)
  have fK:=(df.out.drew.alloc (C_ (evArr e) 89)).grown dL (Ne.symm (Zr fP.out.row df.out ZJ));have de:=(dC.out.drew.kept ((ZW _ _).alloc (ZL _) (C_ (evArr e) 89))).grow (t:=t) rfl fP.out.own (λg hg=>(Zb cJ hg).2) dL jK;have q9:(own.put v3 t) p=t:=by
   rw[de.2 p (by have:=df.out.lt;simp;omega)];exact HM.out
  obtain⟨a3,dK,rfl,_⟩:=EvSl.ae cJ;obtain⟨M,J7⟩:∃M,M=(wait++[e]).length:=⟨_,rfl⟩;have kA:w3.ownsRow 0 89 12 (S_ a3 M dK) M (evCells (wait++[e])):=by rw[J7];exact cJ
  rw[←J7]at de q9 ⊢;obtain⟨pZ,kA⟩:=ZH2 J7 kA;clear J7;have cB:=fK.cell 3;have gM:=fK.frozen 3;simp only[ZD,ZE,ZG]at cB;have oA:=fK.lt;obtain⟨dN,ew,lI⟩:=ZH3 fK de q9;clear fK de cJ dW i5 oe dL jK q9;refine hK.out _ _ ?_;clear hK K;repeat((first|refine ZSa ?_|refine ZSb ?_|refine ZSc ?_);simp only[Act.put,Q_])
  refine ZSe λK hK=>?_
  go_simp;refine hK.out _ _ ?_;clear hK K;refine ZSf ?_;go_wp2
  go_ret;have hf:=dN.out.aj 3 (S_ a3 M dK);refine⟨rfl,_,⟨lI.out,_,hf,by rw[←pZ.out];exact Zi kA.out (λg hg _=>Below.heap_setCell _ _ _ _ (λhe=>Zr kA.out dN.out ZJ (by rw[hg,he]))),λg hg=>?_⟩,ew.out.1.setCell (p:=⟨p,3,none⟩) (λ_=>HM.out) _⟩;unfold Own.put;rw[ZPp hg]
theorem ZnU{own:Own}{upto:Nat}{wait:List Ev}(h:OutboxAt own t w p most batch sent wait)(hf:Fresh own w)(hm:wait.length<=1000000)(cI:sent<upto)(eE:upto-sent<=wait.length)(hs:sent<=1000000):
  Calls prog 142 #[P_ (some ⟨p,0,none⟩),I_ J_ upto] w λr w'=>r=R_ (I_ J_ upto)/\OutboxAt own t w' p most batch upto (wait.drop (upto-sent))/\Upd (· = t) own own w w':=by
 obtain⟨fY,v,hb,hr⟩:=h;obtain⟨g,cap,hv⟩:∃g cap,v=S_ (some ⟨g,0,none⟩) wait.length cap:=by
  rcases hr.row.2 with ⟨_,h0⟩|⟨g,cap,cur,h0,_⟩
  ·omega
  ·exact⟨g,cap,h0⟩
 subst hv;obtain⟨n,hn⟩:∃n,n=wait.length:=⟨_,rfl⟩;obtain⟨k,hk⟩:∃k,k=upto-sent:=⟨_,rfl⟩;have cT:=hr.row;rw[←hn]at cT hb eE hm;rw[←hk]at eE ⊢;have w1:IntKind.u64.wrap (upto:Int)=(upto:Int):=by rw[IntKind.wrap_u64];omega
 have w2:IntKind.u64.wrap (sent:Int)=(sent:Int):=by rw[IntKind.wrap_u64];omega
 have w3:IntKind.u64.wrap (n:Int)=(n:Int):=by rw[IntKind.wrap_u64];omega
 have w4:IntKind.u64.wrap ((upto:Int)-(sent:Int))=(k:Int):=by rw[IntKind.wrap_u64];omega
 have w5:IntKind.i64.wrap (k:Int)=(k:Int):=by rw[IntKind.wrap_i64];omega
 have yl:(if ((n:Nat):Int)<(k:Int) then((n:Nat):Int) else(k:Int))=(k:Int):=by split <;> omega
 have Hg:min (n:Int) (k:Int)=(k:Int):=ZO;have Hh:min (k:Int) (n:Int)=(k:Int):=ZO;have GV:decide ((upto:Int)<=(sent:Int))=false:=ZP;obtain⟨HR,HB,HO,HF,HM,HN,HK⟩:=ZH7 cT hb hr.own hf fY hn hk;obtain⟨c0,c1,c2,c3⟩:=hb.four;have G9:=hb.lt;have f2:=hb.frozen 2;have f3:=hb.frozen 3;clear cT hb hr hf fY hn hk;go_enter func142,ntmps142;go_wp2_with fail;refine ZSg (λw'=>Blk w' p 216 (outArr most batch sent (S_ (some ⟨g,0,none⟩) n cap))) [(0,3),(1,3),(2,3),(3,0),(4,3),(5,0),(6,3),(7,3),(8,3),(9,0),(10,3),(11,0),(12,3),(13,3),(14,3),(15,3),(16,3)] (HB.out.drew) λcu=>?_
 repeat((first|refine ZSa ?_|refine ZSb ?_|(refine Zf rfl (by rfl) (λw' cL=>by obtain⟨c0,c1,c2,c3⟩:=cL.four;go_simp;with_reducible rfl) ?_));simp only[Act.put,Q_])
 refine ZSf ?_;have cD:=HB.out.drew;obtain⟨c0,c1,c2,c3⟩:=cD.four;have cI:=cD.lt;clear cD;go_wp2_with fail;have Wa:(sent:Int)+(k:Int)=(upto:Int):=by have:=HK.out;omega
 rw[Wa];have mi:Hid ((w.setCell ⟨p,2,none⟩ (I_ J_ upto)).drew.ownsRow 0 89 12 (S_ (some ⟨g,0,none⟩) n cap) n (evCells wait)):=ZH (Zi HR.out (λg' hg _=>Below.heap_setCell _ _ _ _ (λhe=>Zr HR.out HB.out ZJ (by rw[hg,he]))));have eh:Hid (Blk (w.setCell ⟨p,2,none⟩ (I_ J_ upto)).drew p 216 (outArr most batch upto (S_ (some ⟨g,0,none⟩) n cap))):=ZH (HB.out.aj 2 (I_ J_ upto));have p8:Hid (Upd (· = t) own own w (w.setCell ⟨p,2,none⟩ (I_ J_ upto)).drew):=ZH (((Upd.refl _ own w HF.out).setCell (p:=⟨p,2,none⟩) (λ_=>HM.out) _).drew);have s9:Hid (own g=t):=ZH (HO.out g rfl);have DY:g≠p:=λe=>Zr HR.out HB.out ZJ (by rw[e];rfl)
 have Qc:=ZH DY;clear DY;generalize (w.setCell ⟨p,2,none⟩ (I_ J_ upto)).drew=w1 at *;refine(Zqo (i:=0) (j:=k) mi.out (Nat.zero_le _) eE hm).mono ?_;rintro r w2 ⟨rfl,dV,eQ⟩;have e1:0+(n-k)=n-k:=Nat.zero_add _;have e2:wait.take 0++wait.drop k=wait.drop k:=ZM;rw[e1,e2]at dV;rw[e1];have cD:=eh.out.grown eQ (λe=>Qc.out (by injection e with e;exact e.symm));have cB:=cD.cell 3;have kM:=cD.cell 2;have gM:=cD.frozen 3;simp only[ZD,ZE,ZG]at cB kM;have jt:=cD.lt;obtain⟨fP,df,oM⟩:=ZH3 dV cD eQ;clear dV cD eQ;go_wp2
 go_ret;have hf:=df.out.aj 3 (S_ (some ⟨g,0,none⟩) (n-k) cap);have kE:(wait.drop k).length=n-k:=by rw[List.length_drop,HN.out]
 have cM:Upd (· = t) own own w w2:=⟨oM.out.os.trans p8.out.os,oM.out.tape.trans p8.out.tape,oM.out.output.trans p8.out.output,ZT p8.out.size oM.out.size,λ_ _=>rfl,λb hb hn=>(oM.out.block b (ZR hb p8.out.size) (λe=>hn (by injection e with e;rw[e];exact s9.out))).trans (p8.out.same b hb hn),λb hb=>p8.out.fresh b (ZT oM.out.size hb)⟩;refine⟨rfl,⟨HM.out,_,hf,?_,λg' hg=>?_⟩,cM.setCell (p:=⟨p,3,none⟩) (λ_=>HM.out) _⟩
 ·rw[kE];exact Zi fP.out (λg' hg _=>Below.heap_setCell _ _ _ _ (λhe=>Zr fP.out df.out ZJ (by rw[hg,he])))
 ·injection hg with hg
  subst hg;exact s9.out
theorem Zd9(w:World)(dT sT ty FC:TypeId)(i:TypeInfo)(sz b o uq Ns:Nat)(a:Option Addr)(vT PK:Nat)(cs:List Value)
  (hu:P.underlying dT=some (.slice FC)) (hi:P.info? FC=some i) (hs:i.size=sz) (hn:cs.length=Nat.min vT uq*sz)
  (Pk:Reads w w.heap.size sz a (Nat.min vT uq) cs) (hc:∀j,j<cs.length->(w.cell? ⟨b,o+j,none⟩).isSome=true) (hf:∀j,j<cs.length->w.frozen? ⟨b,o+j,none⟩=false) (h1:∀v∈cs,v.oneCell'=true) :
  (Builtin.copy_ #[dT,sT] ty #[S_ (some ⟨b,o,none⟩) uq Ns,S_ a vT PK]).run P w=.ok (goInt (Nat.min vT uq)) (setAll w b o cs):=by
 have eP:=run_storeCells_cells (P:=P) b o cs 0 w (by simpa using hc) (by simpa using hf) h1;rw[Zfa]at eP;subst hs;rcases Nat.eq_zero_or_pos (Nat.min vT uq) with h0|h0
 ·rw[h0,Nat.zero_mul]at hn;have gC:cs=[]:=List.eq_nil_of_length_eq_zero hn;subst gC;rcases a with _|a
  ·simp[Builtin.copy_,run_underlying hu,Builtin.lenOf,Builtin.firstCells,sizeOf,typeInfo,hi,h0,storeCells,setAll]
  ·have hl:=run_loadCells_list (P:=P) w a [] ZM;simp only[List.length_nil]at hl;simp[Builtin.copy_,run_underlying hu,Builtin.lenOf,Builtin.firstCells,sizeOf,typeInfo,hi,h0,hl,storeCells,setAll]
 ·obtain⟨ad,rfl,_,fg⟩:=Pk.2 h0;have hl:=run_loadCells_list (P:=P) w ad cs fg;simp[Builtin.copy_,run_underlying hu,Builtin.lenOf,Builtin.firstCells,sizeOf,typeInfo,hi,←hn,hl];rw[Nat.add_zero]at eP;rw[eP];rfl
abbrev shelfArr(most base:Nat)(v:Value):Array Value:=#[I_ J_ most,I_ J_ base,v]
structure ShelfAt(own:Own)(t:Nat)(w:World)(p:Nat)(most base:Nat)(kept:List Ev):Prop where
 mine:own p=t
 ex:∃v,Blk w p 281 (shelfArr most base v)/\RowAt own t w v kept
theorem ShelfAt.upd{T:Nat->Prop}{own own':Own}{w w':World}{t p most base:Nat}{kept:List Ev}(h:ShelfAt own t w p most base kept)(hu:Upd T own own' w w')(ht:¬T t):ShelfAt own' t w' p most base kept:=by
 obtain⟨h1,v,h2,h3⟩:=h;exact⟨by rw[hu.old p h2.lt];exact h1,v,h2.upd hu (by rw[h1];exact ht),h3.upd hu ht⟩
theorem Blk.three{t:TypeId}{v1 v2:Value}(h:Blk w g t #[v0,v1,v2]):w.cell? ⟨g,0,none⟩=some v0/\w.cell? ⟨g,1,none⟩=some v1/\w.cell? ⟨g,2,none⟩=some v2 :=
 ⟨h.cell 0,h.cell 1,h.cell 2⟩
theorem Zrr(most:Nat)(w:World):Calls prog 130 #[I_ J_ most] w λr w'=>r=R_ (P_ (some ⟨w.heap.size,0,none⟩))/\Blk w' w.heap.size 281 (shelfArr most 0 (S_ none 0 0))/\L_ w w':=by
 go_enter func130,ntmps130;go_wp2
 go_ret;exact⟨rfl,ZBn _ _ _,(ZW _ _).alloc (ZL _) _⟩
theorem ZpO{own:Own}{kept:List Ev}(h:ShelfAt own t w p most base kept):Calls prog 145 #[P_ (some ⟨p,0,none⟩)] w (Zx (I_ J_ base) w):=by
 obtain⟨_,v,hb,hr⟩:=h;obtain⟨c0,c1,c2⟩:=hb.three;have cI:=hb.lt;clear hb hr;go_enter func145,ntmps145;go_wp2
 go_ret;exact⟨rfl,ZW _ _⟩
theorem ZdI{own:Own}{kept:List Ev}(h:ShelfAt own t w p most base kept)(cP:base<=1000000)(hk:kept.length<=1000000):Calls prog 134 #[P_ (some ⟨p,0,none⟩)] w (Zx (I_ J_ (base+kept.length:Nat)) w):=by
 obtain⟨_,v,hb,hr⟩:=h;obtain⟨a,cap,rfl,_⟩:=EvSl.ae hr.row;have HB:=ZH hb;have hw:IntKind.i64.wrap ((base:Int)+(kept.length:Int))=(base:Int)+(kept.length:Int):=by rw[IntKind.wrap_i64];omega
 clear hb hr;go_enter func134,ntmps134;go_wp2_with fail;refine ZSg (λw'=>Blk w' p 281 (shelfArr most base (S_ a kept.length cap))) [(0,3),(1,0),(2,3),(3,0),(4,3),(5,0),(6,3),(7,0),(8,3),(9,3),(10,3)] (HB.out.drew) λcu=>?_
 repeat((first|refine ZSa ?_|refine ZSb ?_|(refine Zf rfl (by rfl) (λw' cL=>by obtain⟨c0,c1,c2⟩:=cL.three;go_simp;with_reducible rfl) ?_));simp only[Act.put,Q_])
 refine ZSf ?_;go_wp2
 go_ret;exact⟨ZM,(ZW _ _).drew⟩
def Zbd(n:Nat)(l:List Ev):List Ev:=l.filter λe=>decide (n<e.n)
theorem ZnH(n:Nat)(l:List Ev)(e:Ev):Zbd n (l++[e])=Zbd n l++if n<e.n then [e] else []:=by
 unfold Zbd;rw[List.filter_append];by_cases h:n<e.n <;> simp[h]
theorem ZpQ{own:Own}{kept:List Ev}(h:ShelfAt own t w p most base kept)(n:Nat)(hk:kept.length<=1000000):Calls prog 176 #[P_ (some ⟨p,0,none⟩),I_ J_ n] w (ZeK (Zbd n kept) w):=by
 obtain⟨_,v,hb,hr⟩:=h;obtain⟨a,cap,rfl,hs⟩:=EvSl.ae hr.row;obtain⟨c0,c1,c2⟩:=hb.three;have cI:=hb.lt;obtain⟨i0,hi,dd,cV,dc⟩:=info_parts ZbV;have HS:=ZH hs;have HO:Hid (w.ownsRow w.heap.size 89 12 (S_ none 0 0) (Zbd n (kept.take 0)).length (evCells (Zbd n (kept.take 0)))):=ZH (⟨rfl,.inl ⟨rfl,rfl⟩⟩);have HK:=ZH (ZKr w);clear hb hr hs;go_enter func176,ntmps176;go_wp2_with fail;go_loopw [5,13] (λv i wr=>∃q:Nat,q<=kept.length/\i=I_ J_ q/\Hid (wr.ownsRow w.heap.size 89 12 v (Zbd n (kept.take q)).length (evCells (Zbd n (kept.take q))))/\Hid (K_ w wr)) (λ_ i _=>kept.length-(intOf i).toNat)
 case atStart=>exact⟨0,Nat.zero_le _,rfl,HO,HK⟩
 case round =>
  skip
  obtain⟨q,hq,rfl,HO,HK⟩:=hrel;by_cases du:q<kept.length
  ·obtain⟨e,he⟩:∃e,kept[q]? = some e:=⟨_,ZX du⟩;have hs:=HS.out.of_same (w':=wr) (λad _ hl=>HK.out.below.block _ hl) HK.out.le;obtain⟨bk,off,rfl,cW,c0,c1,c2,c3,c4,c5,c6,c7,c8,c9,dg,dh⟩:=hs.at_ he;have iC:=ZnH n (kept.take q) e;rw[←Zan he]at iC;have fy:=ZH iC;have sw:(Zbd n (kept.take q)).length<=1000000:=by
    have h1:=List.length_filter_le (λe:Ev=>decide (n<e.n)) (kept.take q);rw[ZV]at h1;unfold Zbd;omega
   obtain⟨aa,fC,rfl,_⟩:=EvSl.ae HO.out;have cX:=HK.out.alloc (C_ (evArr e) 89);have rM:=Ze HO.out ((ZW wr.heap.size wr).alloc (ZL _) (C_ (evArr e) 89));have dr:=cX.alloc (C_ (evArr e) 89);have iR:=ZH (Ze rM ((ZW _ _).alloc (ZL _) (C_ (evArr e) 89)));have eB:=dr.le;obtain⟨cO,iX,cU⟩:=ZH3 cX rM dr;clear hs he iC cX rM dr;by_cases dR:n<e.n
   ·rw[ZPp dR]at fy;have V3:decide ((n:Int)<(e.n:Int))=true:=ZP;go_wp2_with (at_builtin;refine Zc _ rfl (.tmp 21) (.tmp 23) _ rfl w.heap.size 89 i0 _ 12 112 underlying128 hi dd cV dc rfl ZO (S_ aa (Zbd n (kept.take q)).length fC) (Zbd n (kept.take q)).length (evCells (Zbd n (kept.take q))) rfl iR.out (wr.heap.size+1+1) (some ⟨wr.heap.size+1,0,none⟩) 1 1 (evArr e).toList rfl (Zej _ _ _) (ZaT e) ZF ZO eB ?_;intro v7 w7 cF db ey)
    have it:w7.ownsRow w.heap.size 89 12 v7 (Zbd n (kept.take (q+1))).length (evCells (Zbd n (kept.take (q+1)))):=by rw[fy.out];exact RowE.snoc cF
    have fx:Hid (K_ w w7):=ZH (⟨cU.out.below.grown db cU.out.le (λg hg=>(Zb iR.out hg).1),ZT cU.out.le db.size⟩);have iG:=ZH it;go_roundw
    case rel=>exact⟨q+1,ZO,ZN,iG,fx⟩
    case measure=>simp[intOf];omega
   ·rw[ZPn dR,List.append_nil]at fy;have V3:decide ((n:Int)<(e.n:Int))=false:=ZP;go_wp2
    go_roundw
    case rel=>exact⟨q+1,ZO,ZN,by rw[fy.out];exact iX,cO⟩
    case measure=>simp[intOf];omega
  ·obtain rfl:q=kept.length:=ZO;rw[List.take_length]at HO;obtain⟨aa,fC,rfl,_⟩:=EvSl.ae HO.out;go_wp2
   go_ret;exact⟨_,rfl,HO.out,HK.out.below⟩
theorem Zi1(m:Nat)(hm:m<=1000000)(w:World):(Instr.makeSlice 128 (I_ J_ (m:Int)) (I_ J_ (m:Int))).run prog w=.ok (S_ (some ⟨w.heap.size,0,none⟩) m m) (w.alloc (C_ (madeCells Zk (m*12)) 89)):=by
 obtain⟨i0,hi,dd,cV,dc⟩:=info_parts ZbV;have h:=run_makeSlice (P:=prog) (w:=w) 128 89 i0 (.agg Zk) underlying128 hi dd .i64 .i64 (m:Int) (m:Int) ZO (Int.le_refl _) (by rw[cV];omega) (by rw[dc];omega) ZO;rw[cV]at h;simp only[Int.toNat_natCast]at h;exact h
theorem Zlg(hm:m<=1000000)(hl:es.length=m):(setAll (w.alloc (C_ (madeCells Zk (m*12)) 89)) w.heap.size 0 (evCells es)).ownsRow w.heap.size 89 12 (S_ (some ⟨w.heap.size,0,none⟩) m m) es.length (evCells es):=by
 have hb:=ZBn w 89 (madeCells Zk (m*12));have dS:(madeCells Zk (m*12)).size=m*12:=size_madeCells _ _;have hs:=Zal (vs:=(evCells es).toArray) hb (by rw[dS,List.size_toArray,Zaw,hl]);refine⟨Zaw es,.inr ⟨w.heap.size,m,_,by rw[hl],ZL _,hs,ZO,by unfold maxLen;omega,by rw[List.size_toArray,Zaw,hl],?_⟩⟩;simp[ZU,Zaw]
theorem EvSl.rest{off:Nat}(h:EvSl w (some ⟨g,off,none⟩) n cap es)(hk:k<=n):EvSl w (some ⟨g,off+k*12,none⟩) (n-k) (cap-k) (es.drop k):=by
 obtain⟨h1,h2,h3,h4⟩:=h;refine⟨ZO,ZO,by rw[List.length_drop,h3],?_⟩;rcases h4 with h4|⟨b,o,hb,hl,hc⟩
 ·exact .inl ZO
 ·injection hb with hb
  injection hb with hb ho
  subst hb ho;refine .inr ⟨g,off+k*12,rfl,hl,λi e he j hj=>?_⟩;rw[List.getElem?_drop]at he;have:=hc (k+i) e he j hj;rw[←this];congr 3;rw[Nat.add_mul];omega
theorem Zly{own:Own}{b0 B:Nat}{W:World}(hm:own p=t)(hf:Fresh own w)(hb:Blk W p 281 (shelfArr most b0 v0))(hk:L_ w W)(hr:W.ownsRow g 89 12 (S_ (some ⟨g,0,none⟩) m m) es.length (evCells es))(hg:g<W.heap.size)(hp:p<w.heap.size)(Pv:w.heap.size<=g):
  ∃own',ShelfAt own' t ((W.setCell ⟨p,1,none⟩ (I_ J_ B)).setCell ⟨p,2,none⟩ (S_ (some ⟨g,0,none⟩) m m)) p most B es/\Upd (· = t) own own' w ((W.setCell ⟨p,1,none⟩ (I_ J_ B)).setCell ⟨p,2,none⟩ (S_ (some ⟨g,0,none⟩) m m)):=by
 have hu:=((ZUb (T:=(· = t)) hk hf).setCell (p:=⟨p,1,none⟩) (λ_=>hm) (I_ J_ B)).setCell (p:=⟨p,2,none⟩) (λ_=>hm) (S_ (some ⟨g,0,none⟩) m m)
 have Cm:=hu.bN (v := S_ (some ⟨g,0,none⟩) m m) (λg' h=>by
  injection h with h
  subst h
  exact⟨Pv,by simpa [World.setCell] using hg⟩) t
 refine⟨_,⟨?_,_,(hb.aj 1 (I_ J_ B)).aj 2 (S_ (some ⟨g,0,none⟩) m m),?_,λg' h=>?_⟩,Cm⟩
 ·unfold Own.put;split
  ·rfl
  ·exact hm
 ·have dR:g≠p:=ZO
  exact Zj (Zi hr (λg' h _=>by
   injection h with h
   subst h
   exact(Below.heap_setCell _ _ _ _ dR).trans (Below.heap_setCell _ _ _ _ dR))) (Nat.zero_le _)
 ·unfold Own.put;rw[ZPp h]
def Za5(base len n:Nat):Nat:=max base (min n (base+len))
theorem Zrq{own:Own}{kept:List Ev}(h:ShelfAt own t w p most base kept)(hf:Fresh own w)(n:Nat)(hk:kept.length<=1000000)(cP:base<=1000000):
  Calls prog 173 #[P_ (some ⟨p,0,none⟩),I_ J_ n] w λr w'=>r=R_ (.tuple #[])/\∃own',ShelfAt own' t w' p most (Za5 base kept.length n) (kept.drop (Za5 base kept.length n-base))/\Upd (· = t) own own' w w':=by
 have h0:=h;obtain⟨fY,v,hb,hr⟩:=h;obtain⟨a,cap,rfl,hs⟩:=EvSl.ae hr.row;obtain⟨c0,c1,c2⟩:=hb.three;have cI:=hb.lt;obtain⟨B,hB⟩:∃B,B=Za5 base kept.length n:=⟨_,rfl⟩;rw[←hB];have dm:base<=B:=by rw[hB];exact Nat.le_max_left _ _
 have dx:B<=base+kept.length:=by rw[hB];exact Nat.max_le.2 ⟨Nat.le_add_right _ _,Nat.min_le_right _ _⟩
 have mT:(if (base:Int)<(if base+kept.length<n then((base+kept.length:Nat):Int) else(n:Int)) then(if base+kept.length<n then((base+kept.length:Nat):Int) else(n:Int)) else(base:Int))=(B:Int):=by
  rw[hB];unfold Za5;split <;> split <;> omega
 obtain⟨HH,HB,HR,HF,HM,HS⟩:=ZH6 h0 hb hr hf fY hs;clear h0 hb hr hf fY hs hB;obtain⟨L,hL⟩:∃L,L=base+kept.length:=⟨_,rfl⟩;rw[←hL]at dx mT;have M4:=ZH mT;clear mT;obtain⟨M,hM⟩:∃M,M=L-B:=⟨_,rfl⟩;have j6:=Zi1 M ZO;obtain⟨HL,pZ⟩:=ZH2 hL hM;have hwM:IntKind.i64.wrap ((L:Int)-(B:Int))=(M:Int):=by rw[IntKind.wrap_i64];omega
 clear hL hM;go_enter func173,ntmps173;go_wp2_with fail;refine ZSi [(0,3),(1,0),(2,3),(3,0),(4,3),(5,3),(6,1),(7,3),(8,3),(9,3)] λcu=>?_
 repeat((first|refine ZSa ?_|refine ZSb ?_|refine ZSc ?_);simp only[Act.put,Q_])
 refine ZSd λK hK=>?_
 go_simp;refine(ZdI (HH.out.upd (ZUb (T:=λn=>n≠t) cu.below HF.out) (λh=>h rfl)) cP hk).mono ?_;rintro r w1 ⟨rfl,cz⟩;rw[←HL.out];refine hK.out (λw'=>K_ w w') _ _ (λ_ h=>h) (cu.step cz) (λcA=>?_);clear hK K cu;repeat((first|refine ZSa ?_|refine ZSb ?_|refine ZSc ?_);simp only[Act.put,Q_])
 refine ZSf ?_;rw[M4.out];generalize (if L<n then(L:Int) else(n:Int))=MI;have dI:=cA;have h1:=HH.out.upd (ZUb (T:=λn=>n≠t) dI.below HF.out) (λh=>h rfl);obtain⟨H1,da⟩:=ZH2 h1 dI;clear h1 dI cA;go_wp2_with fail;refine(ZdI H1.out cP hk).mono ?_;rintro r w2 ⟨rfl,cD⟩;rw[←HL.out];have cO:=ZH (da.out.step cD);clear cD;go_wp2_with fail;obtain⟨D,hD⟩:∃D,D=B-base:=⟨_,rfl⟩;have hwD:IntKind.i64.wrap ((B:Int)-(base:Int))=(D:Int):=by have:=HL.out;rw[IntKind.wrap_i64];omega
 have Vs:D<=kept.length:=by have:=HL.out;omega
 have Re:kept.length-D=M:=by have:=HL.out;have:=pZ.out;omega
 have hD0:(0:Int)<=(D:Int):=ZO;have hDn:(D:Int)<=(kept.length:Int):=ZO;have hDc:(D:Int)<=(cap:Int):=by have:=HS.out.1;omega
 have Vv:M<=1000000:=ZO;obtain⟨HD,EO⟩:=ZH2 hD Re;clear hD Re j6;have eW:EvSl (w2.alloc (C_ (madeCells Zk (M*12)) 89)).drew a kept.length cap kept:=(HS.out.of_same (w':=w2) (λad _ hl=>cO.out.below.block _ hl) cO.out.le).below (((ZW _ _).alloc (ZL _) _).drew);have zV:=Zlg (w:=w2) (m:=M) (es:=kept.drop D) Vv (by rw[List.length_drop];exact EO.out);have dr:K_ w (w2.alloc (C_ (madeCells Zk (M*12)) 89)):=cO.out.alloc _;have ik:=ZBn w2 89 (madeCells Zk (M*12));have dS:(madeCells Zk (M*12)).size=M*12:=size_madeCells _ _;have eV:∀(A:Option Addr) C ty,EvSl (w2.alloc (C_ (madeCells Zk (M*12)) 89)).drew A M C (kept.drop D)->(Builtin.copy_ #[128,128] ty #[S_ (some ⟨w2.heap.size,0,none⟩) M M,S_ A M C]).run prog (w2.alloc (C_ (madeCells Zk (M*12)) 89)).drew=.ok (goInt M) (setAll (w2.alloc (C_ (madeCells Zk (M*12)) 89)).drew w2.heap.size 0 (evCells (kept.drop D))):=by
  intro A C ty hA;obtain⟨i0,hi,dd,cV,dc⟩:=info_parts ZbV;have hl:(evCells (kept.drop D)).length=M*12:=by rw[Zaw,hA.2.2.1]
  have jp:Nat.min M M=M:=Nat.min_self M
  have h:=Zd9 (P:=prog) (w2.alloc (C_ (madeCells Zk (M*12)) 89)).drew 128 128 ty 89 i0 12 w2.heap.size 0 M M A M C (evCells (kept.drop D)) underlying128 hi cV (by rw[hl,jp]) (by rw[jp];exact hA.reads) (λj hj=>by
   have hc:=ik.drew.cell j;rw[Nat.zero_add,hc,Array.getElem?_eq_getElem (by rw[dS];omega)]
   rfl) (λj _=>by rw[Nat.zero_add];exact ik.drew.frozen j) (ZbC _)
  rw[jp]at h;exact h
 obtain⟨W4,od⟩:∃W4,W4=setAll (w2.alloc (C_ (madeCells Zk (M*12)) 89)).drew w2.heap.size 0 (evCells (kept.drop D)):=⟨_,rfl⟩;rw[←od]at eV;have oE:p<w2.heap.size:=ZR cI cO.out.le;have cS:Blk W4 p 281 (shelfArr most base (S_ a kept.length cap)):=by
  rw[od];exact(Zai ZO _ _ _).trans (HB.out.ob dr.drew.below)
 have dM:K_ w W4:=by
  rw[od];exact Zaf dr.drew cO.out.le 0 _
 have Af:W4.ownsRow w2.heap.size 89 12 (S_ (some ⟨w2.heap.size,0,none⟩) M M) (kept.drop D).length (evCells (kept.drop D)):=by
  rw[od,ZdA];exact zV
 have Sn:w2.heap.size<W4.heap.size:=by
  rw[od,Za3];simp
 have f1:=cS.frozen 1;have f2:=cS.frozen 2;obtain⟨d0,d1,d2⟩:=cS.three;have qY:=cS.lt;obtain⟨jV,kI,gy,dw,gS,zd,ru⟩:=ZH7 eW eV cS dM Af Sn od;clear eW zV eV ik dS od cS dM Af Sn;rcases a with _|⟨g,off,Wz⟩
 ·have cR:kept.length=0/\cap=0:=by
   rcases HR.out.row.2 with ⟨h1,_⟩|⟨_,_,_,h1,_⟩
   ·injection h1 with _ h1 h2
    exact⟨h1,h2⟩
   ·injection h1 with h1
    cases h1
  obtain⟨cR,rfl⟩:=cR;have Ca:D=0:=ZO;subst Ca;have yj:M=0:=by have:=EO.out;omega
  subst yj;have gh:kept=[]:=List.eq_nil_of_length_eq_zero cR;subst gh;refine ZSg (λw'=>K_ w w') [(0,3),(1,3),(2,0),(3,3),(4,0),(5,3),(6,3),(7,0),(8,3),(9,0),(10,3),(11,3),(12,2)] (dr.drew) λcu=>?_
  repeat((first|refine ZSa ?_|refine ZSb ?_|refine ZSc ?_);simp only[Act.put,Q_])
  refine ZSe λK hK=>?_
  go_simp;refine hK.out _ _ ?_;clear hK K;refine ZSf ?_;first|rw[show(w2.alloc (C_ (madeCells Zk 0) 89)).drew=W4 from ru.out.symm] | rw[show(w2.alloc (C_ (madeCells Zk (0*12)) 89)).drew=W4 from ru.out.symm]
  go_wp2_with fail;go_end0
  rw[←HD.out];exact⟨rfl,Zly HM.out HF.out gy.out dw.out.below gS.out zd.out cI cO.out.le⟩
 ·obtain⟨rfl,rfl⟩:off=0/\Wz=none:=by
   rcases HR.out.row.2 with ⟨h1,_⟩|⟨_,_,_,h1,_⟩
   ·injection h1 with h1
    cases h1
   ·injection h1 with h1
    injection h1 with h1
    injection h1 with _ h1 h2
    exact⟨h1,h2⟩
  have Pj:=jV.out.rest (k:=D) Vs;rw[EO.out,Nat.zero_add]at Pj;have eV:∀ty,(Builtin.copy_ #[128,128] ty #[S_ (some ⟨w2.heap.size,0,none⟩) M M,.slice (if cap=D then some ⟨g,0,none⟩ else some ⟨g,D*12,none⟩) (kept.length-D) (cap-D)]).run prog (w2.alloc (C_ (madeCells Zk (M*12)) 89)).drew=.ok (goInt M) W4:=by
   intro ty;rw[EO.out];by_cases RC:cap=D
   ·rw[ZPp RC];have h1:=HS.out.1;have h2:=EO.out;have J6:M=0:=ZO;exact kI.out _ _ ty ⟨ZO,by have:=HS.out.2.1;omega,by rw[List.length_drop];omega,.inl J6⟩
   ·rw[ZPn RC];exact kI.out _ _ ty Pj
  have JY:=ZH (eV 3);clear eV Pj;refine ZSg (λw'=>K_ w w') [(0,3),(1,3),(2,0),(3,3),(4,0),(5,3),(6,3),(7,0),(8,3),(9,0),(10,3),(11,3),(12,2)] (dr.drew) λcu=>?_
  repeat((first|refine ZSa ?_|refine ZSb ?_|refine ZSc ?_);simp only[Act.put,Q_])
  refine ZSe λK hK=>?_
  go_simp;rw[JY.out];refine hK.out _ _ ?_;clear hK K;refine ZSf ?_;go_wp2_with fail
  all_goals
   go_end0
   rw[←HD.out];exact⟨rfl,Zly HM.out HF.out gy.out dw.out.below gS.out zd.out cI cO.out.le⟩
structure Sh where
 base:Nat
 kept:List Ev
def clkCells(l:List Clk):List Value:=l.flatMap λc=>(clkArr c).toList
theorem ZcE:∀l:List Clk,(clkCells l).length=l.length*5
 | []=>rfl
 |c::l=>by
  have h:=ZcE l;have e:clkCells (c::l)=(clkArr c).toList++clkCells l:=rfl;rw[e,ZI,h];simp;omega
theorem ZhJ:∀(l:List Clk) (i j:Nat) (c:Clk),l[i]? = some c->j<5->(clkCells l)[i*5+j]? = (clkArr c)[j]?
 | [],i,j,c,h,_=>by simp at h
 |x::l,0,j,c,h,hj=>by
  have e:clkCells (x::l)=(clkArr x).toList++clkCells l:=rfl;have hx:x=c:=by simpa using h
  subst hx;rw[e,Nat.zero_mul,Nat.zero_add,List.getElem?_append_left (by simpa using hj),Array.getElem?_toList]
 |x::l,i+1,j,c,h,hj=>by
  have e:clkCells (x::l)=(clkArr x).toList++clkCells l:=rfl;rw[e,List.getElem?_append_right ZP];have:=ZhJ l i j c (by simpa using h) hj;rw[←this];congr 1;simp;omega
structure PostAt(own:Own)(t:Nat)(w:World)(p:Nat)(most:Nat)(sh:List Sh)(told:List Clk):Prop where
 mine:own p=t
 len:told.length=sh.length
 ex:∃gs cap gt cs,Blk w p 243 #[S_ (some ⟨gs,0,none⟩) sh.length cap,S_ (some ⟨gt,0,none⟩) sh.length sh.length]/\own gs=t/\own gt=t/\sh.length<=cap/\Blk w gs 244 cs/\Blk w gt 44 (clkCells told).toArray /\
  ∀i s,sh[i]? = some s->∃q,cs[i]? = some (P_ (some ⟨q,0,none⟩))/\ShelfAt own (t+1+i) w q most s.base s.kept
theorem PostAt.upd{T:Nat->Prop}{own own':Own}{w w':World}{t p most:Nat}{sh:List Sh}{told:List Clk}(h:PostAt own t w p most sh told)(hu:Upd T own own' w w')(ht:∀i,i<=sh.length->¬T (t+i)):PostAt own' t w' p most sh told:=by
 obtain⟨h1,h2,gs,cap,gt,cs,h3,h4,h5,h6,h7,h8,h9⟩:=h;have h0:¬T t:=ht 0 (Nat.zero_le _);refine⟨by rw[hu.old p h3.lt];exact h1,h2,gs,cap,gt,cs,h3.upd hu (by rw[h1];exact h0),by rw[hu.old gs h7.lt];exact h4,by rw[hu.old gt h8.lt];exact h5,h6,h7.upd hu (by rw[h4];exact h0),h8.upd hu (by rw[h5];exact h0),λi s hs=>?_⟩;obtain⟨q,iN,j7⟩:=h9 i s hs;have hi:=(ZZ.1 hs).1;exact⟨q,iN,j7.upd hu (by rw[Nat.add_assoc];exact ht (1+i) ZO)⟩
theorem PostAt.one{own:Own}{r:Nat}{sh:List Sh}{told:List Clk}(h:PostAt own t w p most sh told){s:Sh}(hs:sh[r]? = some s):
  ∃gs cap gt cs q,Blk w p 243 #[S_ (some ⟨gs,0,none⟩) sh.length cap,S_ (some ⟨gt,0,none⟩) sh.length sh.length]/\Blk w gs 244 cs/\Blk w gt 44 (clkCells told).toArray/\cs[r]? = some (P_ (some ⟨q,0,none⟩))/\ShelfAt own (t+1+r) w q most s.base s.kept/\sh.length<=cap /\
  ∀own' w' s',Upd (· = t+1+r) own own' w w'->ShelfAt own' (t+1+r) w' q most s'.base s'.kept->PostAt own' t w' p most (sh.set r s') told/\Blk w' p 243 #[S_ (some ⟨gs,0,none⟩) sh.length cap,S_ (some ⟨gt,0,none⟩) sh.length sh.length]/\Blk w' gs 244 cs:=by
 obtain⟨h1,h2,gs,cap,gt,cs,h3,h4,h5,h6,h7,h8,h9⟩:=h;obtain⟨q,iN,j7⟩:=h9 r s hs;refine⟨gs,cap,gt,cs,q,h3,h7,h8,iN,j7,h6,λown' w' s' hu hn=>?_⟩;have h0:¬(t=t+1+r):=ZO;have hr:=(ZZ.1 hs).1;refine⟨⟨by rw[hu.old p h3.lt];exact h1,by rw[List.length_set];exact h2,gs,cap,gt,cs,by rw[List.length_set];exact h3.upd hu (by rw[h1];exact h0),by rw[hu.old gs h7.lt];exact h4,by rw[hu.old gt h8.lt];exact h5,by rw[List.length_set];exact h6,h7.upd hu (by rw[h4];exact h0),h8.upd hu (by rw[h5];exact h0),λi x hx=>?_⟩,h3.upd hu (by rw[h1];exact h0),h7.upd hu (by rw[h4];exact h0)⟩;by_cases RY:r=i
 ·subst RY;rw[List.getElem?_set_self hr]at hx;injection hx with hx;subst hx;exact⟨q,iN,hn⟩
 ·rw[List.getElem?_set_ne RY]at hx;obtain⟨q',O1,O2⟩:=h9 i x hx;exact⟨q',O1,O2.upd hu ZO⟩
theorem PostAt.bW{own:Own}{sh:List Sh}{told:List Clk}(h:PostAt own t w p most sh told):p<w.heap.size:=by
 obtain⟨h1,h2,gs,cap,gt,cs,h3,_⟩:=h;exact h3.lt
theorem Blk.two{t:TypeId}{v1:Value}(h:Blk w g t #[v0,v1]):w.cell? ⟨g,0,none⟩=some v0/\w.cell? ⟨g,1,none⟩=some v1:=⟨h.cell 0,h.cell 1⟩
theorem Blk.aE{t:TypeId}{l:List Clk}(h:Blk w g t (clkCells l).toArray){c:Clk}(hc:l[i]? = some c)(hj:j<5):w.cell? ⟨g,i*5+j,none⟩=some (I_ J_ (c.get j)):=by
 rw[h.cell,ZD,ZhJ l i j c hc hj];exact Zeo c hj
theorem Zjk{own:Own}{sh:List Sh}{told:List Clk}(h:PostAt own t w p most sh told)(r:Nat):Calls prog 131 #[P_ (some ⟨p,0,none⟩),I_ J_ r] w (Zx (B_ (decide (r<sh.length))) w):=by
 obtain⟨h1,h2,gs,cap,gt,cs,h3,h4,h5,h6,h7,h8,h9⟩:=h;obtain⟨c0,c1⟩:=h3.two;have cI:=h3.lt;have h0:(0:Int)<=(r:Int):=ZO;have HB:=ZH h3;clear h9 h7 h8 h3;go_enter func131,ntmps131;go_wp2
 go_ret;exact⟨ZM,ZW _ _⟩
def ZaV(told:List Clk)(s:Nat):Nat:=told.foldl (λm c=>min m (c.get s)) ((told.headD ZCz).get s)
def cutSh(told:List Clk)(s:Nat)(x:Sh):Sh:=⟨Za5 x.base x.kept.length (ZaV told s),x.kept.drop (Za5 x.base x.kept.length (ZaV told s)-x.base)⟩
theorem Zo0{α : Type}{l:List α}{k:Nat}{a : α}(h:l[k]? = some a){β : Type}(f : β -> α -> β)(b : β):(l.take (k+1)).foldl f b=f ((l.take k).foldl f b) a:=by
 rw[List.take_add_one,h,List.foldl_append];rfl
theorem Zm0{own:Own}{sh:List Sh}{told:List Clk}(h:PostAt own t w p most sh told)(hf:Fresh own w)(hN:sh.length<=5)(s:Nat){x:Sh}(hx:sh[s]? = some x)(hk:x.kept.length<=1000000)(cP:x.base<=1000000):
  Calls prog 133 #[P_ (some ⟨p,0,none⟩),I_ J_ s] w λr w'=>r=R_ (.tuple #[])/\∃own',PostAt own' t w' p most (sh.set s (cutSh told s x)) told/\Upd (· = t+1+s) own own' w w':=by
 have eW:s<sh.length:=(ZZ.1 hx).1;have h2:=h.len;obtain⟨gs,cap,gt,cs,q,h3,h7,h8,iN,j7,h6,dP⟩:=h.one hx;obtain⟨c0,c1⟩:=h3.two;have cI:=h3.lt;obtain⟨f,rA⟩:∃f,told[0]? = some f:=⟨_,ZX ZO⟩;have eo:=h8.aE rA (j:=s) ZO;rw[Nat.zero_mul,Nat.zero_add]at eo;have OM:=h8.lt;have OL:=h7.lt;have sP:=h7.cell s;rw[iN]at sP;have eu:(0:Int)<=(s:Int):=ZO;have lB:(s:Int)<5:=ZO;have l8:(s:Int)<(sh.length:Int):=ZO;have eN:(0:Int)<(sh.length:Int):=ZO;obtain⟨M,hM⟩:∃M:Nat->Nat,M=λk=>(told.take k).foldl (λm c=>min m (c.get s)) (f.get s):=⟨_,rfl⟩
 have J6:f.get s=M 0:=by rw[hM];rfl
 have Rf:M sh.length=ZaV told s:=by
  rw[hM];unfold ZaV;simp only[];rw[←h2,List.take_length];congr 1;rw[List.headD_eq_head?_getD,List.head?_eq_getElem?,rA];rfl
 obtain⟨HF,HB,HT,HS,HX,HQ,HM,Un,HK⟩:=ZH9 hf h3 h8 h7 hx j7 hM Rf (ZKr w);obtain⟨H2,HO⟩:=ZH2 h2 dP;rw[J6]at eo;clear h h7 h8 h3 hf hx j7 hM Rf J6 h2 iN dP;go_enter func133,ntmps133;go_wp2_with fail;go_loopw [4,20] (λm i wr=>∃k:Nat,k<=sh.length/\i=I_ J_ k/\m=I_ J_ (M k)/\Hid (K_ w wr)) (λ_ i _=>sh.length-(intOf i).toNat)
 case atStart=>exact⟨0,ZO,rfl,rfl,HK⟩
 case round =>
  skip
  obtain⟨k,i6,rfl,rfl,HK⟩:=hrel;by_cases gh:k<sh.length
  ·obtain⟨c,hc⟩:∃c,told[k]? = some c:=⟨_,ZX (by rw[H2.out];exact gh)⟩;have hT:=HT.out.ob HK.out.below;have d0:=hT.aE hc (j:=0) ZO;have d1:=hT.aE hc (j:=1) ZO;have d2:=hT.aE hc (j:=2) ZO;have d3:=hT.aE hc (j:=3) ZO;have d4:=hT.aE hc (j:=4) ZO;simp only[Nat.add_zero,Clk.get]at d0 d1 d2 d3 d4;have G7:=hT.lt;have e:=Zol wr c (i:=s) ZO;have yl:(if c.get s<M k then(c.get s:Int) else(M k:Int))=((M (k+1):Nat):Int):=by
    have:M (k+1)=min (M k) (c.get s):=by rw[HM.out];exact Zo0 hc _ _
    rw[this];split <;> omega
   have kn:(k:Int)<(sh.length:Int):=ZO;have cR:(0:Int)<=(k:Int):=ZO;have cO:=ZH (HK.out.alloc (C_ (clkArr c) 44));clear hT hc;go_wp2
   go_roundw
   case rel=>exact⟨k+1,ZO,ZN,by first|rfl|exact congrArg (Value.int .i64) yl|exact congrArg (Value.int .i64) (by have h:=yl;split at h <;> omega),cO⟩
   case measure=>simp[intOf];omega
  ·obtain rfl:k=sh.length:=ZO;have hB:=HB.out.ob HK.out.below;obtain⟨d0,d1⟩:=hB.two;have sH:=hB.lt;have hS:=HS.out.ob HK.out.below;have dq:=hS.cell s;have hltS:=hS.lt;rw[show cs[s]? = some (P_ (some ⟨q,0,none⟩)) by rw[←HS.out.cell s];exact sP]at dq;obtain⟨Mv,hu⟩:=ZH2 (HQ.out.upd (ZUb (T:=λn=>n≠t+1+s) HK.out.below HF.out) (λh=>h rfl)) (ZUb (T:=(· = t+1+s)) HK.out.below HF.out);clear hS hB sP;go_wp2_with fail;refine(Zrq Mv.out hu.out.fresh (M sh.length) hk cP).mono ?_;rintro r w2 ⟨rfl,cK,im,cM⟩;rw[Un.out]at im;obtain⟨DA,dC⟩:=ZH2 im (hu.out.trans cM);clear im cM;go_wp2_with fail;go_end0
   exact⟨rfl,cK,(HO.out cK w2 (cutSh told s x) dC.out DA.out).1,dC.out⟩
theorem Blk.row{t:TypeId}{cs:Array Value}(h:Blk w g t cs)(xC:Array Value):Blk (w.setRow g xC) g t xC:=setRow_heap w g cs xC t (0,0) h
theorem Kept.row{B:Nat}(h:Kept B w w')(hg:B<=g)(cs:Array Value):Kept B w (w'.setRow g cs):=⟨⟨h.below.os,h.below.tape,h.below.output,by rw[setRow_size];exact h.below.size,λk hk=>(setRow_other _ _ _ _ ZO).trans (h.below.block k hk)⟩,by rw[setRow_size];exact h.le⟩
theorem Blk.aU{t:TypeId}{cs:Array Value}(h:Blk w k t cs)(hk:k≠g)(xC:Array Value):Blk (w.setRow g xC) k t cs:=(setRow_other w g k xC hk).trans h
theorem ZuA:(prog.info? 44).map (λi=>i.size)=some 5:=ZK
def Zcl(f:Sh->Nat)(sh:List Sh):Nat->Clk
 | 0=>ZCz
 |k+1=>(Zcl f sh k).set k (match sh[k]? with|some s=>f s|none=>0)
theorem Zlq{own:Own}{sh:List Sh}{told:List Clk}(h:PostAt own t w p most sh told)(hf:Fresh own w)(hN:sh.length<=5)(fn:Nat)(VM:fn=134∨fn=145)(f:Sh->Nat)
  (rC:∀q s w tt,s∈sh->ShelfAt own tt w q most s.base s.kept->Calls prog fn #[P_ (some ⟨q,0,none⟩)] w (Zx (I_ J_ (f s)) w)) :
  Calls prog 144 #[P_ (some ⟨p,0,none⟩),.func (.func fn) #[] #[]] w (Zx (Zbh (Zcl f sh sh.length)) w):=by
 obtain⟨HK,HA⟩:=ZH2 (((ZKr w).alloc (C_ (clkArr ZCz) 44)).alloc (C_ (clkArr ZCz) 44)) ((ZBn w 44 (clkArr ZCz)).alloc (C_ (clkArr ZCz) 44));have HB:Hid (Blk ((w.alloc (C_ (clkArr ZCz) 44)).alloc (C_ (clkArr ZCz) 44)) (w.heap.size+1) 44 (clkArr (Zcl f sh 0))):=ZH (Zag w _ _ _);obtain⟨g1,g2,gs,ut,gt,cs,h3,g4,g5,h6,h7,h8,h9⟩:=h;obtain⟨c0,c1⟩:=h3.two;have cI:=h3.lt;obtain⟨HG,H9,HF,Lj⟩:=ZH4 h7 h9 hf rC;clear hf rC h3 h7 h8 h9 g1 g2 g4 g5;go_enter func144,ntmps144;go_wp2_with fail;go_loopw [13] (λi wr=>∃k:Nat,k<=sh.length/\i=I_ J_ k/\Hid (Blk wr w.heap.size 44 (clkArr ZCz))/\Hid (Blk wr (w.heap.size+1) 44 (clkArr (Zcl f sh k)))/\Hid (Kept w.heap.size w wr)) (λi _=>sh.length-(intOf i).toNat)
 case atStart=>exact⟨0,ZO,rfl,HA,HB,HK⟩
 case round =>
  skip
  obtain⟨k,i6,rfl,HA,HB,HK⟩:=hrel;by_cases gh:k<sh.length
  ·obtain⟨x,hx⟩:∃x,sh[k]? = some x:=⟨_,ZX gh⟩;obtain⟨q,iN,j7⟩:=H9.out k x hx;have hG:=HG.out.ob HK.out.below;have sP:=hG.cell k;rw[iN]at sP;have G7:=hG.lt;have kn:(k:Int)<(sh.length:Int):=ZO;have cR:(0:Int)<=(k:Int):=ZO;have eM:(k:Int)<5:=ZO;have gc:Hid (Zcl f sh (k+1)=(Zcl f sh k).set k (f x)):=ZH (by rw[Zcl,hx]);obtain⟨Df,HQ⟩:=ZH2 (ZY hx) (j7.upd (ZUb (T:=λ_=>False) HK.out.below HF.out) (λh=>h));clear hx iN j7 hG;rcases VM with rfl|rfl
   all_goals
    go_wp2_with fail;refine(Lj.out q x _ _ Df.out HQ.out).mono ?_;rintro _ w3 ⟨rfl,cG⟩;have hb:=HB.out.ob cG;have ha:=HA.out.ob cG;have dr:=HK.out.step cG;have cb:=hb.clk (i:=k) ZO;have fr:=hb.frozen k;have sH:=hb.lt;have cD:=hb.aj k (I_ J_ ((f x:Nat):Int));rw[Zfg _ ZO]at cD;have oO:=ha.far (p:=⟨w.heap.size+1,k,none⟩) (by show w.heap.size≠w.heap.size+1;omega) (I_ J_ ((f x:Nat):Int));have dM:=dr.setCell (p:=⟨w.heap.size+1,k,none⟩) (by show w.heap.size<=w.heap.size+1;omega) (I_ J_ ((f x:Nat):Int));obtain⟨df,qo,dw⟩:=ZH3 cD oO dM;clear hb ha dr cD oO dM cG sP;go_wp2
    go_roundw
    case rel=>exact⟨k+1,ZO,ZN,qo,by rw[gc.out];exact df,dw⟩
    case measure=>simp[intOf];omega
  ·obtain rfl:k=sh.length:=ZO;obtain⟨d0,d1,d2,d3,d4⟩:=HB.out.aG;have fo:=HA.out.frozen;have f0:=fo 0;have f1:=fo 1;have f2:=fo 2;have f3:=fo 3;have f4:=fo 4;obtain⟨e0,e1,e2,e3,e4⟩:=HA.out.aG;clear fo;go_wp2_with fail;have dz:=Zal (vs:=clkArr (Zcl f sh sh.length)) HA.out rfl;have m8:=Zaf HK.out (g:=w.heap.size) (ZL _) 0 (clkArr (Zcl f sh sh.length)).toList;refine bodyPost_end (w:=setAll wr w.heap.size 0 (clkArr (Zcl f sh sh.length)).toList) (Z6 rfl rfl (run_loadVar_row _ _ _ _ _ _ _ dz underlying44 rfl ZK)) rfl ?_;exact⟨rfl,m8.below⟩
def From1(n0:Nat)(l:List Ev):Prop:=∀i e,l[i]? = some e->e.n=n0+i
def Z0(most base:Nat)(kept l:List Ev):Nat×List Ev :=
 let l':=l.filter λe=>decide (base+kept.length<e.n)
 if l'.length=0 then(0,kept) else if most<kept.length+l'.length then(21,kept) else(0,kept++l')
theorem Zke{g:Nat}:∀(xs ys:List Value) (i:Nat) (w:World),setAll (setAll w g i xs) g (i+xs.length) ys=setAll w g i (xs++ys)
 | [],ys,i,w=>by simp[setAll]
 |x::xs,ys,i,w=>by
  have h:=Zke (g:=g) xs ys (i+1) (w.setCell ⟨g,i,none⟩ x);simp only[setAll,List.cons_append,List.length_cons];rw[←h,show i+(xs.length+1)=i+1+xs.length by omega]
theorem ZpP{own:Own}{b0:Nat}{W:World}(hm:own p=t)(hf:Fresh own w)(hb:Blk W p 281 (shelfArr most b0 v0))(hk:L_ w W)(hr:W.ownsRow g 89 12 (S_ (some ⟨g,0,none⟩) m m) es.length (evCells es))(hg:g<W.heap.size)(hp:p<w.heap.size)(Pv:w.heap.size<=g):
  ∃own',ShelfAt own' t (W.setCell ⟨p,2,none⟩ (S_ (some ⟨g,0,none⟩) m m)) p most b0 es/\Upd (· = t) own own' w (W.setCell ⟨p,2,none⟩ (S_ (some ⟨g,0,none⟩) m m)):=by
 have hu:=(ZUb (T:=(· = t)) hk hf).setCell (p:=⟨p,2,none⟩) (λ_=>hm) (S_ (some ⟨g,0,none⟩) m m)
 have Cm:=hu.bN (v := S_ (some ⟨g,0,none⟩) m m) (λg' h=>by
  injection h with h
  subst h
  exact⟨Pv,by simpa [World.setCell] using hg⟩) t
 refine⟨_,⟨?_,_,hb.aj 2 (S_ (some ⟨g,0,none⟩) m m),?_,λg' h=>?_⟩,Cm⟩
 ·unfold Own.put;split
  ·rfl
  ·exact hm
 ·have dR:g≠p:=ZO
  exact Zj (Zi hr (λg' h _=>by
   injection h with h
   subst h
   exact Below.heap_setCell _ _ _ _ dR)) (Nat.zero_le _)
 ·unfold Own.put;rw[ZPp h]
theorem Zeq{n0:Nat}{l:List Ev}(h:From1 n0 l)(m:Nat):(l.filter λe=>decide (m<e.n))=l.drop (m+1-n0):=by
 induction l generalizing n0 with
 |nil=>simp
 |cons x l ih =>
  have h0:x.n=n0:=h 0 x rfl;have hr:From1 (n0+1) l:=λi e he=>by
   have:=h (i+1) e (by simpa using he);omega
  have ih:=ih hr;by_cases hx:m<x.n
  ·have e1:m+1-n0=0:=ZO;have e2:m+1-(n0+1)=0:=ZO;rw[e2,List.drop_zero]at ih;rw[e1,List.drop_zero,List.filter_cons_of_pos (by simpa using hx),ih]
  ·have e1:m+1-n0=(m+1-(n0+1))+1:=ZO;rw[e1,List.drop_succ_cons,List.filter_cons_of_neg (by simpa using hx),ih]
theorem Zrs{own:Own}{kept:List Ev}(h:ShelfAt own t w p most base kept)(hf:Fresh own w)(hk:kept.length<=1000000)(cP:base<=1000000)(yj:most<=1000000){l:List Ev}(hs:EvSl w a n cap l)(hn:n<=1000000)(n0:Nat)(hl:From1 n0 l)(gi:n0<=base+kept.length+1):
  Calls prog 132 #[P_ (some ⟨p,0,none⟩),S_ a n cap] w λr w'=>r=R_ (I_ J_ (Z0 most base kept l).1)/\∃own',ShelfAt own' t w' p most base (Z0 most base kept l).2/\Upd (· = t) own own' w w':=by
 have hlen:=hs.2.2.1;obtain⟨H,HF,HS,HL,gb,HK⟩:=ZH6 h hf hs hl hlen (ZKr w);obtain⟨L,hL⟩:∃L,L=base+kept.length:=⟨_,rfl⟩;have gz:=ZH hL;rw[←hL]at gi;have hL9:L<=2000000:=ZO;clear h hf hs hl hL hlen;go_enter func132,ntmps132;go_wp2_with fail;go_loopw [11] (λi wr=>∃q:Nat,q<=n/\i=I_ J_ q/\Hid (K_ w wr)) (λi _=>n-(intOf i).toNat)
 case atStart=>exact⟨0,ZO,rfl,HK⟩
 case round =>
  skip
  obtain⟨q,hq,rfl,HK⟩:=hrel;by_cases du:q<n
  ·obtain⟨e,he⟩:∃e,l[q]? = some e:=⟨_,ZX (by rw[gb.out];exact du)⟩;have kj:=HL.out q e he;have hs:=HS.out.of_same (w':=wr) (λad _ hl=>HK.out.below.block _ hl) HK.out.le;obtain⟨bk,off,rfl,cW,c0,c1,c2,c3,c4,c5,c6,c7,c8,c9,dg,dh⟩:=hs.at_ he;have wZ:=ZH kj;have cz:=(ZW wr.heap.size wr).alloc (ZL _) (C_ (evArr e) 89);have dI:=HK.out.alloc (C_ (evArr e) 89);have hx:=ZBn wr 89 (evArr e);have im:=H.out.upd (ZUb (T:=λn=>n≠t) dI.below HF.out) (λh=>h rfl);have gX:=hx.lt;obtain⟨x0,x1,x2,x3,x4,x5,x6,x7,x8,x9,fh,fi⟩:=hx.ag;obtain⟨da,HX,DA⟩:=ZH3 dI hx im;clear hs he kj dI hx im cz;rcases Nat.eq_zero_or_pos q with rfl|Sk
   ·simp only[Nat.zero_mul,Nat.add_zero]at c0 c1 c2 c3 c4 c5 c6 c7 c8 c9 dg dh;have hwL:IntKind.i64.wrap ((L:Int)+1)=(L:Int)+1:=by rw[IntKind.wrap_i64];omega
    have zJ:decide (((L:Int)+1)<(e.n:Int))=false:=by have:=wZ.out;simp;omega
    go_wp2_with fail;clear c0 c1 c2 c3 c4 c5 c6 c7 c8 c9 dg dh;generalize wr.alloc (C_ (evArr e) 89)=W at *;refine ZSi [(0,3),(1,3),(2,3),(3,3),(4,0),(5,3),(6,1),(7,3),(8,3),(9,3),(10,3),(11,3),(12,3),(13,3),(14,3),(15,0),(16,3),(17,3),(18,3),(19,3),(20,3),(21,0),(22,3),(23,3),(24,3),(25,3)] λcu=>?_
    repeat((first|refine ZSa ?_|refine ZSb ?_|refine ZSc ?_);simp only[Act.put,Q_])
    refine ZSd λK hK=>?_
    go_simp;refine(ZdI (DA.out.upd (ZUb (T:=λn=>n≠t) cu.below (ZUb (T:=λn=>n≠t) da.out.below HF.out).fresh) (λh=>h rfl)) cP hk).mono ?_;rintro r w1 ⟨rfl,cz⟩;rw[←gz.out];have cX:=cu.step cz;refine hK.out (λw'=>K_ W w') _ _ (λ_ h=>h) cX (λcA=>?_);clear hK K cu;repeat((first|refine ZSa ?_|refine ZSb ?_|refine ZSc ?_);simp only[Act.put,Q_])
    refine ZSf ?_;have cO:=ZH (da.out.trans cX da.out.le);clear cA cX cz;go_wp2
    go_roundw
    case rel=>exact⟨0+1,ZO,ZN,cO⟩
    case measure=>simp[intOf];omega
   ·obtain⟨e',zF⟩:∃e',l[q-1]? = some e':=⟨_,ZX (by rw[gb.out];omega)⟩;have Og:=HL.out (q-1) e' zF;have Oh:(e.n:Int)=(e'.n:Int)+1:=by have:=wZ.out;omega
    have Sp:=(HS.out.of_same (w':=wr.alloc (C_ (evArr e) 89)) (λad _ hl=>da.out.below.block _ hl) da.out.le);obtain⟨bk',PC,om,hbl',_,d1,_⟩:=Sp.at_ zF;injection om with om;injection om with N4 N5;subst N4 N5;have kR:((q:Int)-1).toNat=q-1:=ZO;have yj:(0:Int)<=(q:Int)-1:=ZO;have jP:(q:Int)-1<(n:Int):=ZO;have j7:(1:Int)<=(q:Int):=ZO;have hwq:IntKind.i64.wrap ((q:Int)-1)=(q:Int)-1:=by rw[IntKind.wrap_i64];omega
    have Wf:IntKind.i64.wrap ((e'.n:Int)+1)=(e.n:Int):=by rw[IntKind.wrap_i64];omega
    have iN:((q:Int)==0)=false:=ZP;clear zF Sp Oh Og;go_wp2_with fail;clear c0 c1 c2 c3 c4 c5 c6 c7 c8 c9 dg dh;generalize wr.alloc (C_ (evArr e) 89)=W at *;refine ZSi [(0,3),(1,3),(2,3),(3,3),(4,0),(5,3),(6,1),(7,3),(8,3),(9,3),(10,3),(11,3),(12,3),(13,3),(14,3),(15,0),(16,3),(17,3),(18,3),(19,3),(20,3),(21,0),(22,3),(23,3),(24,3),(25,3)] λcu=>?_
    repeat((first|refine ZSa ?_|refine ZSb ?_|refine ZSc ?_);simp only[Act.put,Q_])
    refine ZSf ?_;have cO:=ZH da.out.drew;clear cu;go_wp2
    go_roundw
    case rel=>exact⟨q+1,ZO,ZN,cO⟩
    case measure=>simp[intOf];omega
  ·obtain rfl:q=n:=ZO;have l7:=HK.out
   go_wp2_with (first
    |(go_loopw [1] (λv kZ=>∃(j:Nat) (A:Option Addr) (C:Nat),j<=q/\v=S_ A (q-j) C/\(j=0∨n0+j<=L+1)/\Hid (EvSl kZ A (q-j) C (l.drop j))/\Hid (K_ w kZ)) (λv _=>match v with|S_ _ k _=>k|_=>0)))
   case atStart =>
    refine⟨0,a,cap,Nat.zero_le _,rfl,.inl rfl,?_,HK⟩;exact ZH (HS.out.of_same (w':=wr) (λad _ hl=>HK.out.below.block _ hl) HK.out.le)
   case round =>
    obtain⟨j,A,C,hj,rfl,wv,HA,cO⟩:=hrel;have im:=H.out.upd (ZUb (T:=λn=>n≠t) cO.out.below HF.out) (λh=>h rfl);have DA:=ZH im;clear im;have zR:(l.drop j).length=q-j:=by rw[List.length_drop,gb.out]
    by_cases R0:j<q
    ·obtain⟨e,he⟩:∃e,(l.drop j)[0]? = some e:=⟨_,ZX (by rw[zR];omega)⟩;have kj:=HL.out j e (by rw[List.getElem?_drop]at he;exact he);obtain⟨bk,off,rfl,cW,c0,c1,c2,c3,c4,c5,c6,c7,c8,c9,dg,dh⟩:=HA.out.at_ he;simp only[Nat.zero_mul,Nat.add_zero]at c0 c1 c2 c3 c4 c5 c6 c7 c8 c9 dg dh;have eN:(0:Int)<((q-j:Nat):Int):=ZO;obtain⟨N,hN⟩:∃N,N=q-j:=⟨_,rfl⟩;have Rh:EvSl wr (some ⟨bk,off,none⟩) N C (l.drop j):=by rw[hN];exact HA.out
     have xl:=ZH Rh;rw[←hN]at eN zR ⊢;have HN:=ZH hN;have hNp:0<N:=ZO;have J8:N<=1000000:=ZO;clear hN Rh he;by_cases heL:e.n<=L
     ·have VL:((e.n:Int)<=(L:Int)):=ZO;refine ZSi [(0,3),(1,3),(2,3),(3,3),(4,3),(5,3),(6,3),(7,0),(8,3),(9,1),(10,3),(11,3)] λcu=>?_
      repeat((first|refine ZSa ?_|refine ZSb ?_|refine ZSc ?_);simp only[Act.put,Q_])
      refine ZSd λK hK=>?_
      go_simp;refine(ZdI (DA.out.upd (ZUb (T:=λn=>n≠t) cu.below (ZUb (T:=λn=>n≠t) cO.out.below HF.out).fresh) (λh=>h rfl)) cP hk).mono ?_;rintro r w1 ⟨rfl,cz⟩;rw[←gz.out];have cX:=cu.step cz;refine hK.out (λw'=>K_ wr w') _ _ (λ_ h=>h) cX (λcA=>?_);clear hK K cu;repeat((first|refine ZSa ?_|refine ZSb ?_|refine ZSc ?_);simp only[Act.put,Q_])
      refine ZSf ?_;have cU:=ZH (cO.out.trans cX cO.out.le);clear cA cz;go_wp2_with fail;have F6:N-1=q-(j+1):=by have:=HN.out;omega
      have hA:=(xl.out.of_same (w':=w1) (λad _ hl=>cX.below.block _ hl) cX.le).rest (k:=1) ZO;rw[List.drop_drop,Nat.one_mul,F6]at hA;rw[F6];refine⟨⟨j+1,_,_,ZO,rfl,.inr ZO,?_,cU⟩,?_⟩
      ·by_cases hC:C=1
       ·rw[ZPp hC];have h1:=xl.out.1;have h2:=xl.out.2.1;exact ZH ⟨ZO,ZO,hA.2.2.1,.inl ZO⟩
       ·rw[ZPn hC];exact ZH hA
      ·show q-(j+1)<q-j
       omega
     ·have VL:¬((e.n:Int)<=(L:Int)):=ZO;have uS:(l.filter λe=>decide (L<e.n))=l.drop j:=by
       rw[Zeq HL.out,show L+1-n0=j by omega]
      refine ZSi [(0,3),(1,3),(2,3),(3,3),(4,3),(5,3),(6,3),(7,0),(8,3),(9,1),(10,3),(11,3)] λcu=>?_
      repeat((first|refine ZSa ?_|refine ZSb ?_|refine ZSc ?_);simp only[Act.put,Q_])
      refine ZSd λK hK=>?_
      go_simp;refine(ZdI (DA.out.upd (ZUb (T:=λn=>n≠t) cu.below (ZUb (T:=λn=>n≠t) cO.out.below HF.out).fresh) (λh=>h rfl)) cP hk).mono ?_;rintro r w1 ⟨rfl,cz⟩;rw[←gz.out];have cX:=cu.step cz;refine hK.out (λw'=>K_ wr w') _ _ (λ_ h=>h) cX (λcA=>?_);clear hK K cu;repeat((first|refine ZSa ?_|refine ZSb ?_|refine ZSc ?_);simp only[Act.put,Q_])
      refine ZSf ?_;have jV:=ZH (xl.out.of_same (w':=w1) (λad _ hl=>cX.below.block _ hl) cX.le);have dr:=cO.out.trans cX cO.out.le;have h1:=H.out.upd (ZUb (T:=λn=>n≠t) dr.below HF.out) (λh=>h rfl);have h2:=h1;obtain⟨fY,v,hb,hr⟩:=h1;obtain⟨ak,ck,rfl,rI⟩:=EvSl.ae hr.row;obtain⟨d0,d1,d2⟩:=hb.three;have OX:=hb.lt;have Kp:p<w.heap.size:=by
       obtain⟨_,v,hb,_⟩:=H.out;exact hb.lt
      have Kg:=hb.frozen 2;have hNz:¬N=0:=ZO;obtain⟨cU,Be,HB,EI,HM,EC⟩:=ZH6 dr h2 hb rI fY uS;obtain⟨T,hT⟩:∃T,T=kept.length+N:=⟨_,rfl⟩;have hwT:IntKind.i64.wrap ((kept.length:Int)+(N:Int))=(T:Int):=by rw[IntKind.wrap_i64];omega
      have HT:=ZH hT;clear cA cX cz dr h2 hb hr rI fY uS hT c0 c1 c2 c3 c4 c5 c6 c7 c8 c9 dg dh;by_cases nw:most<T
      ·have Kf:(most:Int)<(T:Int):=ZO;go_wp2
       go_ret;have GW:(l.drop j).length=N:=zR;have VC:=HT.out;have lV:Z0 most base kept l=(21,kept):=by
        unfold Z0;rw[←gz.out,EC.out];simp only[];rw[ZPn ZO,ZPp ZO]
       rw[lV];exact⟨rfl,own,Be.out,ZUb cU.out.below HF.out⟩
      ·have Kf:¬(most:Int)<(T:Int):=ZO;have Ru:T<=1000000:=ZO;have j6:=Zi1 T Ru w1;have ik:=ZBn w1 89 (madeCells Zk (T*12));have dS:(madeCells Zk (T*12)).size=T*12:=size_madeCells _ _;obtain⟨i0,hi,dd,cV,dc⟩:=info_parts ZbV;have VD:=HT.out;have xX:(Builtin.copy_ #[128,128] 3 #[S_ (some ⟨w1.heap.size,0,none⟩) T T,S_ ak kept.length ck]).run prog (w1.alloc (C_ (madeCells Zk (T*12)) 89))=.ok (goInt kept.length) (setAll (w1.alloc (C_ (madeCells Zk (T*12)) 89)) w1.heap.size 0 (evCells kept)):=by
        have hA:=EI.out.below ((ZW w1.heap.size w1).alloc (ZL _) (C_ (madeCells Zk (T*12)) 89));have jp:Nat.min kept.length T=kept.length:=Nat.min_eq_left ZO
        have h:=Zd9 (P:=prog) (w1.alloc (C_ (madeCells Zk (T*12)) 89)) 128 128 3 89 i0 12 w1.heap.size 0 T T ak kept.length ck (evCells kept) underlying128 hi cV (by rw[Zaw,jp]) (by rw[jp];exact hA.reads) (λj hj=>by
         rw[Zaw]at hj;have hc:=ik.cell j;rw[Nat.zero_add,hc,Array.getElem?_eq_getElem (by rw[dS];omega)]
         rfl) (λj _=>by rw[Nat.zero_add];exact ik.frozen j) (ZbC _)
        rw[jp]at h;exact h
       obtain⟨WB,tj⟩:∃WB,WB=setAll (w1.alloc (C_ (madeCells Zk (T*12)) 89)) w1.heap.size 0 (evCells kept):=⟨_,rfl⟩;have OA:L_ w1 WB:=by
        rw[tj];exact(Zaf ((ZKr w1).alloc (C_ (madeCells Zk (T*12)) 89)) (ZL _) 0 _).below
       have vo:Blk WB w1.heap.size 89 ((madeCells Zk (T*12)).toList.take 0++evCells kept++(madeCells Zk (T*12)).toList.drop (0+(evCells kept).length)).toArray:=by
        rw[tj]
        exact Zbr _ 0 _ _ (by simpa using ik) (by
         have h1:(madeCells Zk (T*12)).toList.length=T*12:=by rw[Array.length_toList,dS]
         rw[Zaw,h1]
         omega)
       have IJ:(((madeCells Zk (T*12)).toList.take 0++evCells kept++(madeCells Zk (T*12)).toList.drop (0+(evCells kept).length)).toArray).size=T*12:=by
        simp only[List.size_toArray,ZI,List.length_drop,List.take_zero,List.length_nil,Array.length_toList,dS,Zaw];omega
       rw[←tj]at xX;have xY:(Builtin.copy_ #[128,128] 3 #[S_ (some ⟨w1.heap.size,kept.length*12,none⟩) N N,S_ (some ⟨bk,off,none⟩) N C]).run prog WB=.ok (goInt N) (setAll WB w1.heap.size (kept.length*12) (evCells (l.drop j))):=by
        have hA:=jV.out.below OA;have jp:Nat.min N N=N:=Nat.min_self N
        have h:=Zd9 (P:=prog) WB 128 128 3 89 i0 12 w1.heap.size (kept.length*12) N N (some ⟨bk,off,none⟩) N C (evCells (l.drop j)) underlying128 hi cV (by rw[Zaw,jp,zR]) (by rw[jp];exact hA.reads) (λj' hj=>by
         rw[Zaw,zR]at hj;rw[vo.cell,Array.getElem?_eq_getElem (by rw[IJ];omega)]
         rfl) (λj _=>vo.frozen _) (ZbC _)
        rw[jp]at h;exact h
       obtain⟨WC,NX⟩:∃WC,WC=setAll WB w1.heap.size (kept.length*12) (evCells (l.drop j)):=⟨_,rfl⟩;have xM:WC=setAll (w1.alloc (C_ (madeCells Zk (T*12)) 89)) w1.heap.size 0 (evCells (kept++l.drop j)):=by
        rw[NX,tj,ZbE,←Zke,Zaw,Nat.zero_add]
       rw[←NX]at xY;have zM:K_ w1 WC:=by
        rw[xM];exact Zaf ((ZKr w1).alloc _) (ZL _) 0 _
       have Ah:WC.ownsRow w1.heap.size 89 12 (S_ (some ⟨w1.heap.size,0,none⟩) T T) (kept++l.drop j).length (evCells (kept++l.drop j)):=by
        rw[xM];exact Zlg Ru (by rw[ZI,zR,HT.out])
       have So:w1.heap.size<WC.heap.size:=by
        rw[xM,Za3];simp
       have N2:Blk WB p 281 (shelfArr most base (S_ ak kept.length ck)):=HB.out.ob OA;have oP:Blk (w1.alloc (C_ (madeCells Zk (T*12)) 89)) p 281 (shelfArr most base (S_ ak kept.length ck)):=HB.out.alloc _;have Gm:Blk WC p 281 (shelfArr most base (S_ ak kept.length ck)):=HB.out.ob zM.below;have dB2:=N2.three.2.2;have dA2:=oP.three.2.2;have dC2:=Gm.three.2.2;have hltB:=N2.lt;have hltC:=Gm.lt;have hf2C:=Gm.frozen 2;have hkT:((kept.length:Int))<=(T:Int):=ZO;have hk00:(0:Int)<=(kept.length:Int):=ZO;have NV:T-kept.length=N:=ZO;have hTk2:¬(T=kept.length):=ZO;obtain⟨Dv,vU,wU,T7,Mx,Bc,TI⟩:=ZH7 j6 xX xY zM Ah So Gm;clear j6 xX xY zM Ah So Gm N2 oP xM NX tj vo IJ OA ik dS VD;have j6:=Dv.out;have xX:=vU.out;have xY:=wU.out;go_wp2
       go_ret;have GW:(l.drop j).length=N:=zR;have VC:=HT.out;have lV:Z0 most base kept l=(0,kept++l.drop j):=by
        unfold Z0;rw[←gz.out,EC.out];simp only[];rw[ZPn ZO,ZPn ZO]
       rw[lV];exact⟨rfl,ZpP HM.out HF.out TI.out (cU.out.step T7.out.below).below Mx.out Bc.out Kp cU.out.le⟩
    ·obtain rfl:j=q:=ZO;have NP:j-j=0:=Nat.sub_self j;rw[NP]at HA ⊢;have m9:l.drop j=[]:=List.eq_nil_of_length_eq_zero (by rw[zR,NP]);have uS:(l.filter λe=>decide (L<e.n))=[]:=by
      rw[Zeq HL.out];have hlen:=gb.out;rcases wv with rfl|wv
      ·have:l=[]:=List.eq_nil_of_length_eq_zero hlen;rw[this];simp
      ·exact List.drop_of_length_le ZO
     have lV:Z0 most base kept l=(0,kept):=by
      unfold Z0;rw[←gz.out,uS];rfl
     have tX:=ZH lV;clear lV uS m9;refine ZSi [(0,3),(1,3),(2,3),(3,3),(4,3),(5,3),(6,3),(7,0),(8,3),(9,1),(10,3),(11,3)] λcu=>?_
     repeat((first|refine ZSa ?_|refine ZSb ?_|refine ZSc ?_);simp only[Act.put,Q_])
     refine ZSf ?_;have dr:=cO.out.trans cu cO.out.le;have cU:=ZH dr;clear dr cu;go_wp2
     go_ret;rw[tX.out];exact⟨rfl,own,H.out.upd (ZUb (T:=λn=>n≠t) cU.out.below HF.out) (λh=>h rfl),ZUb cU.out.below HF.out⟩
theorem ZcK{bs:List Nat}(h:Bytes w a n cap bs)(hs:∀x∈bs,x<256)(h300:n<=200000):
  Calls prog 123 #[S_ a n cap] w (Zum (ZaF bs) w):=by
 obtain⟨d0,d1,d2,d3,hd⟩:∃d0 d1 d2 d3,Zce (Zec bs)=[d0,d1,d2,d3]:=⟨_,_,_,_,rfl⟩;obtain⟨i0,hi,dd,cV,dc⟩:=info_parts ZaJ;have j6:=λW=>Zl2 (P:=prog) 106 5 i0 (.int .u8 0) underlying106 hi dd .i64 .i64 0 (n+4) ZO (by rw[dc];omega) ZO W
 rw[cV]at j6;have e4:((n+4:Nat):Int)=(n:Int)+4:=ZO;have e0:((0:Nat):Int)=0:=rfl;rw[e4,e0]at j6;obtain⟨gb,HB,HS,HD,Dv⟩:=ZH5 (h.len) h hs hd j6;clear h hs hd j6 e4 e0;go_enter func123,ntmps123;go_wp2_with fail;refine(Znj HB.out HS.out).mono ?_;rintro e w1 ⟨rfl,cz⟩;have dI:Kept w.heap.size w w1:=Kept.start cz;clear cz;rw[HD.out];have fg:(cells [d0,d1,d2,d3]).toArray=#[.int .u8 (d0:Int),.int .u8 (d1:Int),.int .u8 (d2:Int),.int .u8 (d3:Int)]:=rfl;rw[fg];clear fg;go_wp2_with fail;rw[Dv.out];have cH:Blk (w1.alloc (C_ #[.int .u8 (d0:Int),.int .u8 (d1:Int),.int .u8 (d2:Int),.int .u8 (d3:Int)] 274)) w1.heap.size 274 (cells [d0,d1,d2,d3]).toArray:=ZBn w1 274 _;have sE:=dI.alloc (C_ #[.int .u8 (d0:Int),.int .u8 (d1:Int),.int .u8 (d2:Int),.int .u8 (d3:Int)] 274);have ND:=HB.out.kept sE.below (ZL _);have CZ:(w1.alloc (C_ #[.int .u8 (d0:Int),.int .u8 (d1:Int),.int .u8 (d2:Int),.int .u8 (d3:Int)] 274)).heap.size=w1.heap.size+1:=ZM;generalize w1.alloc (C_ #[.int .u8 (d0:Int),.int .u8 (d1:Int),.int .u8 (d2:Int),.int .u8 (d3:Int)] 274)=W at cH sE ND CZ ⊢;have kp:=ZqS W w.heap.size (n+4) sE.le (by unfold maxLen;omega);have dr:=sE.alloc (C_ (madeCells (Value.int .u8 0).cells ((n+4)*1)) 5);have uJ:=cH.alloc (C_ (madeCells (Value.int .u8 0).cells ((n+4)*1)) 5);have fu:=(ND.reads).alloc (ZL _) (C_ (madeCells (Value.int .u8 0).cells ((n+4)*1)) 5);have yD:(W.alloc (C_ (madeCells (Value.int .u8 0).cells ((n+4)*1)) 5)).heap.size=W.heap.size+1:=ZM;generalize W.alloc (C_ (madeCells (Value.int .u8 0).cells ((n+4)*1)) 5)=X at kp dr uJ fu yD ⊢;have eE:=dI.le;have hW:W.heap.size=w1.heap.size+1:=CZ;generalize W.heap.size=gs at kp fu yD hW ⊢;obtain⟨yZ,iT,rh⟩:=ZH3 kp fu uJ;have cU:=dr;obtain⟨HW,UF⟩:=ZH2 hW yD;clear hW yD;clear cH sE ND CZ kp dr uJ fu dI
 go_wp2_with (at_builtin;first
  |(refine Zc _ rfl (.tmp 11) (.tmp 12) _ rfl w.heap.size 5 i0 _ 1 1 underlying106 hi dd cV dc rfl ZO (S_ (some ⟨gs,0,none⟩) 0 (n+4)) 0 (cells []) rfl yZ.out gs a n cap (cells bs) rfl iT.out (Z9 _) ZF ZO cU.le ?_;intro v4 w4 cJ dL jK
    have mF:X.grownBy w4 (some gs):=dL;have BS:=rh.out.grown mF (by have hW:=HW.out;intro h;injection h with h;omega);have Is:=Zrc BS w4.heap.size BS.lt;have dM:Below w.heap.size w w4:=cU.below.grown mF cU.le (λg hg=>by have hW:=HW.out;injection hg with hg;omega);obtain⟨dO,My,KO⟩:=ZH3 cJ Is jK
    clear cJ Is dL mF jK BS)
  |(refine Zc _ rfl (.tmp 14) (.tmp 15) _ rfl w.heap.size 5 i0 _ 1 1 underlying106 hi dd cV dc rfl ZO v4 (0+n) (cells []++cells bs) rfl dO.out w4.heap.size (some ⟨w1.heap.size,0,none⟩) 4 4 (cells [d0,d1,d2,d3]) rfl My.out (Z9 _) ZF ZO dM.size ?_;intro v5 w5 mM lq xQ))
 have e:ZaF bs=bs++[d0,d1,d2,d3]:=by unfold ZaF;rw[HD.out]
 have e2:cells []++cells bs++cells [d0,d1,d2,d3]=cells (ZaF bs):=by rw[e,Zv];rfl
 have e3:(ZaF bs).length=0+n+4:=by rw[Zb7,gb.out];omega
 have dH:Below w.heap.size w w5:=dM.grown lq dM.size (λg hg=>by
  have hW:=HW.out;have hX:=UF.out;rcases KO.out with e|e
  ·have e':v4.ownBlock=some gs:=e;rw[e']at hg;injection hg with hg;omega
  ·rw[e]at hg;injection hg with hg;omega)
 go_ret;refine⟨v5,rfl,?_,dH⟩;rw[e3,←e2];exact mM
def le:Nat->Nat->List Nat
 | 0,_=>[]
 |k+1,s=>s%256::le k (s / 256)
def Zd8(a b:Int×Int):Bool:=decide (a.1<b.1)||(a.1==b.1&&decide (a.2<b.2))
def mx(m s:Int×Int):Int×Int:=if Zd8 m s then s else m
def Zgb(xs:List (Int×Int))(k:Nat):Int×Int:=(xs.take k).foldl mx (xs.getD 0 (0,0))
theorem Zlb(a b:Int×Int):Zd8 a b=true↔a.1<b.1∨(a.1=b.1/\a.2<b.2):=by simp[Zd8]
theorem Zgh(a b:Int×Int):Zd8 a b=false↔¬(a.1<b.1∨(a.1=b.1/\a.2<b.2)):=by rw[←Zlb];simp
theorem Zp0(xs:List (Int×Int))(k:Nat)(h:k<xs.length):xs.take (k+1)=xs.take k++[xs.getD k (0,0)]:=by
 rw[List.take_succ_eq_append_getElem h];simp[List.getD,h]
theorem Zp8(xs:List (Int×Int)):Zgb xs 0=xs.getD 0 (0,0):=rfl
theorem ZhF(xs:List (Int×Int))(k:Nat)(h:k<xs.length):Zgb xs (k+1)=mx (Zgb xs k) (xs.getD k (0,0)):=by
 unfold Zgb;rw[Zp0 xs k h,List.foldl_append];rfl
theorem Zja(xs:List (Int×Int))(h0:0<xs.length):∀k,k<=xs.length->∃j,j<xs.length/\xs.getD j (0,0)=Zgb xs k
 | 0,_=>⟨0,h0,rfl⟩
 |k+1,hk=>by
  rw[ZhF xs k ZO];unfold mx;split
  ·exact⟨k,ZO,rfl⟩
  ·exact Zja xs h0 k ZO
theorem Zjb(xs:List (Int×Int)):∀k,k<=xs.length->∀j,j<k->Zd8 (Zgb xs k) (xs.getD j (0,0))=false
 | 0,_=>λj hj=>ZO
 |k+1,hk=>λj hj=>by
  rw[ZhF xs k ZO];unfold mx;rcases Nat.lt_or_ge j k with h|h
  ·have ih:=Zjb xs k ZO j h;split
   ·rename_i hl;rw[Zlb]at hl;rw[Zgh]at ih ⊢;omega
   ·exact ih
  ·obtain rfl:j=k:=ZO;split
   ·rw[Zgh];omega
   ·rename_i hl;simpa using hl
def IsLast(xs:List (Int×Int))(k:Nat):Prop :=
 k<xs.length/\(∀j,j<xs.length->Zd8 (xs.getD k (0,0)) (xs.getD j (0,0))=false)/\∀j,j<k->xs.getD j (0,0)≠xs.getD k (0,0)
theorem ZoV(a b:Int×Int)(h1:Zd8 a b=false)(h2:Zd8 b a=false):a=b:=by
 rw[Zgh]at h1 h2;obtain⟨a1,a2⟩:=a;obtain⟨b1,b2⟩:=b;simp only[Prod.mk.injEq]at *;omega
def Ztf(l:List Nat)(w:World)(r:Ending)(w':World):Prop:=∃v,r=R_ v/\w'.ownsRow w.heap.size 5 1 v l.length (cells l)/\L_ w w'
theorem ZeO(h:Bytes w a n cap l)(hn:n<=1000000000):Calls prog 105 #[S_ a n cap] w (Ztf l w):=by
 have hlen:=h.len;have qn:=λ(w:World) (a:Option Addr) (n c n' c':Nat)=>Lib.run_eql_slice_nil (P:=prog) w 106 5 a n c n' c' underlying106
 obtain⟨i0,hi,dd,cV,dc⟩:=info_parts ZaJ;rcases a with _|ad
 ·have h0:n=0:=by
   rcases Nat.eq_zero_or_pos n with h0|h0
   ·exact h0
   ·obtain⟨b,off,h,_⟩:=h.pos h0
    cases h
  subst h0;have iz:l=[]:=List.eq_nil_of_length_eq_zero hlen;subst iz;clear h hlen;go_enter func105,ntmps105;go_wp2
  go_ret;exact⟨_,rfl,⟨rfl,.inl ⟨rfl,rfl⟩⟩,ZW _ _⟩
 ·have iT:=ZH (h.reads.alloc (ZL _) (C_ #[] 5));skip;have HO:=ZH (Zj5 w w.heap.size (ZL _));subst hlen;clear h;go_enter func105,ntmps105;go_wp2_with (at_builtin;refine Zc _ rfl (.tmp 5) (.tmp 6) _ rfl w.heap.size 5 i0 _ 1 1 underlying106 hi dd cV dc rfl ZO (S_ (some ⟨w.heap.size,0,none⟩) 0 0) 0 (cells []) rfl HO.out w.heap.size (some ad) l.length cap (cells l) rfl iT.out (Z9 _) ZF ZO ZM ?_;intro v4 w4 cJ dL _)
  go_ret;refine⟨v4,rfl,?_,((ZW w.heap.size w).alloc (ZL _) _).grown dL ZM (λg hg=>by injection hg with hg;exact Nat.le_of_eq hg)⟩;simpa [cells] using cJ
structure RowB(own:Own)(t:Nat)(w:World)(v:Value)(l:List Nat):Prop where
 row:w.ownsRow 0 5 1 v l.length (cells l)
 own:∀g,v.ownBlock=some g->own g=t
theorem RowB.nil(own:Own)(t:Nat)(w:World):RowB own t w (S_ none 0 0) []:=⟨⟨rfl,.inl ⟨rfl,rfl⟩⟩,λg h=>by cases h⟩
theorem RowB.upd{own:Own}(h:RowB own t w v l)(hu:Upd T own own' w w')(ht:¬T t):RowB own' t w' v l :=
 ⟨Zi h.row (λg h1 h2=>hu.same g h2 (by rw[h.own g h1];exact ht)),λg hg=>by rw[hu.old g (Zb h.row hg).2];exact h.own g hg⟩
structure Dk where
 bytes:List Nat
 down:Bool
 cut:Bool
 keep:Int
def Dk.new:Dk:=⟨[],false,false,0⟩
def Dk.aH(d:Dk):Dk:=⟨d.bytes,true,false,d.keep⟩
def Dk.start(d:Dk):Dk:=⟨d.bytes,false,false,d.keep⟩
def Dk.aV(d:Dk)(keep:Int):Dk:=⟨d.bytes,d.down,true,keep⟩
def Dk.trim(d:Dk)(n:Nat):Dk:=⟨d.bytes.take n,d.down,d.cut,d.keep⟩
def Dk.write(d:Dk)(b:List Nat):Dk×Nat :=
 if d.down then(d,18) else if d.cut then(⟨d.bytes++b.take d.keep.toNat,true,false,d.keep⟩,18) else(⟨d.bytes++b,d.down,d.cut,d.keep⟩,0)
abbrev diskArr(v:Value)(down cut:Bool)(keep:Int):Array Value:=#[v,B_ down,B_ cut,I_ J_ keep]
structure DiskAt(own:Own)(t:Nat)(w:World)(p:Nat)(d:Dk):Prop where
 mine:own p=t
 ex:∃v,Blk w p 233 (diskArr v d.down d.cut d.keep)/\RowB own t w v d.bytes
theorem DiskAt.upd{T:Nat->Prop}{own own':Own}{w w':World}{t p:Nat}{d:Dk}(h:DiskAt own t w p d)(hu:Upd T own own' w w')(ht:¬T t):DiskAt own' t w' p d:=by
 obtain⟨h1,v,h2,h3⟩:=h;exact⟨by rw[hu.old p h2.lt];exact h1,v,h2.upd hu (by rw[h1];exact ht),h3.upd hu ht⟩
theorem Zmw(w:World):Calls prog 125 #[] w λr w'=>r=R_ (P_ (some ⟨w.heap.size,0,none⟩))/\Blk w' w.heap.size 233 (diskArr (S_ none 0 0) false false 0)/\L_ w w':=by
 go_enter func125,ntmps125;go_wp2
 go_ret;exact⟨rfl,ZBn _ _ _,(ZW _ _).alloc (ZL _) _⟩
theorem Zdo{own:Own}{cs:Array Value}(hb:Blk w p 233 cs)(hr:RowB own t w v l)(i:Nat)(u:Value):RowB own t (w.setCell ⟨p,i,none⟩ u) v l :=
 ⟨Zi hr.row (λg hg _=>Below.heap_setCell _ _ _ _ (λhe=>Zr hr.row hb ZJ (by rw[hg,he]))),hr.own⟩
theorem ZgP{own:Own}{d:Dk}(h:DiskAt own t w p d)(hf:Fresh own w):Calls prog 80 #[P_ (some ⟨p,0,none⟩)] w λr w'=>r=R_ (.tuple #[])/\DiskAt own t w' p d.aH/\Upd (· = t) own own w w':=by
 obtain⟨hm,v,hb,hr⟩:=h;obtain⟨HB,HR,HF,HM⟩:=ZH4 hb hr hf hm;obtain⟨c0,c1,c2,c3⟩:=hb.four;have cI:=hb.lt;have f1:=hb.frozen 1;have f2:=hb.frozen 2;clear hb hr hf hm;go_enter func80,ntmps80;go_wp2_with fail;go_end0
 refine⟨rfl,⟨HM.out,v,(HB.out.aj 1 (B_ true)).aj 2 (B_ false),Zdo (HB.out.aj 1 (B_ true)) (Zdo HB.out HR.out 1 _) 2 _⟩,((Upd.refl _ own w HF.out).setCell (p:=⟨p,1,none⟩) (λ_=>HM.out) _).setCell (p:=⟨p,2,none⟩) (λ_=>HM.out) _⟩
theorem ZjH{own:Own}{d:Dk}(h:DiskAt own t w p d)(hf:Fresh own w):Calls prog 81 #[P_ (some ⟨p,0,none⟩)] w λr w'=>r=R_ (.tuple #[])/\DiskAt own t w' p d.start/\Upd (· = t) own own w w':=by
 obtain⟨hm,v,hb,hr⟩:=h;obtain⟨HB,HR,HF,HM⟩:=ZH4 hb hr hf hm;obtain⟨c0,c1,c2,c3⟩:=hb.four;have cI:=hb.lt;have f1:=hb.frozen 1;have f2:=hb.frozen 2;clear hb hr hf hm;go_enter func81,ntmps81;go_wp2_with fail;go_end0
 refine⟨rfl,⟨HM.out,v,(HB.out.aj 1 (B_ false)).aj 2 (B_ false),Zdo (HB.out.aj 1 (B_ false)) (Zdo HB.out HR.out 1 _) 2 _⟩,((Upd.refl _ own w HF.out).setCell (p:=⟨p,1,none⟩) (λ_=>HM.out) _).setCell (p:=⟨p,2,none⟩) (λ_=>HM.out) _⟩
theorem Zmv{own:Own}{d:Dk}(keep:Int)(h:DiskAt own t w p d)(hf:Fresh own w):Calls prog 276 #[P_ (some ⟨p,0,none⟩),I_ J_ keep] w λr w'=>r=R_ (.tuple #[])/\DiskAt own t w' p (d.aV keep)/\Upd (· = t) own own w w':=by
 obtain⟨hm,v,hb,hr⟩:=h;obtain⟨HB,HR,HF,HM⟩:=ZH4 hb hr hf hm;obtain⟨c0,c1,c2,c3⟩:=hb.four;have cI:=hb.lt;have f2:=hb.frozen 2;have f3:=hb.frozen 3;clear hb hr hf hm;go_enter func276,ntmps276;go_wp2_with fail;go_end0
 refine⟨rfl,⟨HM.out,v,(HB.out.aj 2 (B_ true)).aj 3 (I_ J_ keep),Zdo (HB.out.aj 2 (B_ true)) (Zdo HB.out HR.out 2 _) 3 _⟩,((Upd.refl _ own w HF.out).setCell (p:=⟨p,2,none⟩) (λ_=>HM.out) _).setCell (p:=⟨p,3,none⟩) (λ_=>HM.out) _⟩
theorem ZjG{own:Own}{d:Dk}(h:DiskAt own t w p d)(hn:d.bytes.length<=1000000000):Calls prog 83 #[P_ (some ⟨p,0,none⟩)] w (Ztf d.bytes w):=by
 obtain⟨hm,v,hb,hr⟩:=h;obtain⟨a,cap,rfl,hs⟩:=Bytes.ae hr.row;have HS:=ZH hs;obtain⟨c0,c1,c2,c3⟩:=hb.four;have cI:=hb.lt;clear hb hr hm hs;go_enter func83,ntmps83;go_wp2_with fail;refine(ZeO HS.out hn).mono ?_;rintro r w1 ⟨v1,rfl,fF,cz⟩;obtain⟨HO,HB⟩:=ZH2 fF cz;clear fF cz;go_wp2
 go_ret;exact⟨v1,rfl,HO.out,HB.out⟩
theorem ZiF{own:Own}{w4:World}{v4:Value}{news:List Nat}{down cut:Bool}{keep:Int}(hm:own p=t)(hb:Blk w p 233 (diskArr v down cut keep))(hr:RowB own t w v l)(hf:Fresh own w)(dk:w4.ownsRow 0 5 1 v4 (l++news).length (cells (l++news)))
  (hg:w.grownBy w4 v.ownBlock) (iy:v4.ownBlock=v.ownBlock∨v4.ownBlock=some w.heap.size) :
  Blk w4 p 233 (diskArr v down cut keep)/\DiskAt (own.put v4 t) t (w4.setCell ⟨p,0,none⟩ v4) p ⟨l++news,down,cut,keep⟩/\Upd (· = t) own (own.put v4 t) w (w4.setCell ⟨p,0,none⟩ v4):=by
 have cS:=hb.grown hg (Ne.symm (Zr hr.row hb ZJ));obtain⟨hu,jd⟩:=(Upd.refl (· = t) own w hf).grow (t:=t) rfl hr.own (λg hg=>(Zb dk hg).2) hg iy;refine⟨cS,⟨by rw[jd p hb.lt];exact hm,v4,cS.aj 0 v4,Zi dk (λg hg _=>Below.heap_setCell _ _ _ _ (λhe=>Zr dk cS ZJ (by rw[hg,he]))),λg hg=>?_⟩,hu.setCell (p:=⟨p,0,none⟩) (λ_=>hm) _⟩;unfold Own.put;rw[ZPp hg]
theorem ZjI{own:Own}{d:Dk}{b:List Nat}(h:DiskAt own t w p d)(hf:Fresh own w)(hs:Bytes w a n cap b)(hn:n<=1000000000)(hd:d.bytes.length<=1000000000):
  Calls prog 116 #[P_ (some ⟨p,0,none⟩),S_ a n cap] w λr w'=>r=R_ (I_ J_ (d.write b).2)/\∃own',DiskAt own' t w' p (d.write b).1/\Upd (· = t) own own' w w':=by
 obtain⟨bytes,down,cut,keep⟩:=d;obtain⟨hm,v,hb,hr⟩:=h;simp only at hb hr hd;obtain⟨i0,hi,dd,cV,dc⟩:=info_parts ZaJ;have gW:=hs.len;obtain⟨a0,mm,rfl,_⟩:=Bytes.ae hr.row;obtain⟨c0,c1,c2,c3⟩:=hb.four;have f0:=hb.frozen 0;have cI:=hb.lt;obtain⟨HB,HR,HF,HM,HS⟩:=ZH5 hb hr hf hm hs;clear hb hr hf hm hs;rcases down with _|_
 ·rcases cut with _|_
  ·go_enter func116,ntmps116
   go_wp2_with (first
    |(at_builtin
      refine Zc _ rfl (.tmp 38) (.tmp 39) _ rfl 0 5 i0 _ 1 1 underlying106 hi dd cV dc rfl ZO (S_ a0 bytes.length mm) bytes.length (cells bytes) rfl HR.out.row w.heap.size a n cap (cells b) rfl HS.out.reads (Z9 _) ZF ZO ZO ?_;intro v4 w4 cJ dL jK;have pM:(bytes++b).length=bytes.length+n:=by rw[ZI,gW]
      obtain⟨a4,ja,rfl,_⟩:=Bytes.ae (bs:=bytes++b) (by rw[Zv];exact cJ);obtain⟨cS,m7,ei⟩:=ZiF (news:=b) HM.out HB.out HR.out HF.out (by rw[pM,Zv];exact cJ) dL jK;have U8:=cS.frozen 0;obtain⟨d0,d1,d2,d3⟩:=cS.four;have qY:=cS.lt;obtain⟨rk,gj⟩:=ZH2 m7 ei
      clear cJ dL jK cS m7 ei pM))
   go_ret;exact⟨rfl,_,rk.out,gj.out⟩
  ·have gG:n<=cap:=HS.out.1;obtain⟨k,hk⟩:∃k,k=min keep.toNat n:=⟨_,rfl⟩;have gh:k<=n:=ZO;have ii:b.take k=b.take keep.toNat:=by
    rw[hk];rcases Nat.le_total keep.toNat n with h|h
    ·rw[Nat.min_eq_left h]
    ·rw[Nat.min_eq_right h,ZU ZO,ZU ZO]
   have eT:=HS.out.cut k gh;have eD:(b.take k).length=k:=by rw[ZV];omega
   have yl:∀w ts t,(Builtin.min_ ts t #[I_ J_ (if (0:Int)>keep then(0:Int) else keep),I_ J_ ((n:Nat):Int)]).run prog w=.ok (I_ J_ (k:Int)) w:=by
    intro w ts t;rw[run_min_int2];congr 2;split <;> split <;> omega
   have Hg:∀w ts t,(Builtin.min_ ts t #[I_ J_ (max keep 0),I_ J_ ((n:Nat):Int)]).run prog w=.ok (I_ J_ (k:Int)) w:=by
    intro w ts t;rw[run_min_int2];congr 2;split <;> omega
   have Hh:∀w ts t,(Builtin.min_ ts t #[I_ J_ (max 0 keep),I_ J_ ((n:Nat):Int)]).run prog w=.ok (I_ J_ (k:Int)) w:=by
    intro w ts t;rw[run_min_int2];congr 2;split <;> omega
   have cR:(0:Int)<=(k:Int):=ZO;have ww:(k:Int)<=(cap:Int):=ZO;obtain⟨HC,HK⟩:=ZH2 eT ii;clear eT hk ii;go_enter func116,ntmps116
   go_wp2_with (first
    |(at_builtin
      refine Zc _ rfl (.tmp 27) (.tmp 28) _ rfl 0 5 i0 _ 1 1 underlying106 hi dd cV dc rfl ZO (S_ a0 bytes.length mm) bytes.length (cells bytes) rfl HR.out.row w.heap.size a k cap (cells (b.take k)) rfl HC.out.reads (Z9 _) ZF ZO ZO ?_;intro v4 w4 cJ dL jK;have pM:(bytes++(b.take k)).length=bytes.length+k:=by rw[ZI,eD]
      obtain⟨a4,ja,rfl,_⟩:=Bytes.ae (bs:=bytes++(b.take k)) (by rw[Zv];exact cJ);obtain⟨cS,m7,ei⟩:=ZiF (news:=(b.take k)) HM.out HB.out HR.out HF.out (by rw[pM,Zv];exact cJ) dL jK;have U8:=cS.frozen 0;obtain⟨d0,d1,d2,d3⟩:=cS.four;have qY:=cS.lt;obtain⟨rk,gj⟩:=ZH2 m7 ei
      clear cJ dL jK cS m7 ei pM))
   all_goals
    refine(ZgP rk.out gj.out.fresh).mono ?_;rintro r w5 ⟨rfl,kg,iD⟩;obtain⟨tE,ka⟩:=ZH2 kg iD;clear kg iD;go_wp2
    go_ret;rw[HK.out]at tE;exact⟨rfl,_,tE.out,gj.out.trans ka.out⟩
 ·go_enter func116,ntmps116;go_wp2
  go_ret;exact⟨rfl,own,⟨HM.out,_,HB.out,HR.out⟩,Upd.refl _ _ _ HF.out⟩
theorem Zll:prog.eqGuardType prog.depth 274=false:=ZK
theorem Zun:prog.cellsOf 5=1:=ZK
theorem ZuK:prog.plainKey 5=true:=ZK
def four(e0 e1 e2 e3:Nat):Array Value:=#[.int .u8 (e0:Int),.int .u8 (e1:Int),.int .u8 (e2:Int),.int .u8 (e3:Int)]
theorem ZrR(a b:Nat):((a:Int)==(b:Int))=decide (a=b):=by
 rw[Bool.eq_iff_iff];simp only[beq_iff_eq,decide_eq_true_eq];omega
theorem ZqW(e0 e1 e2 e3 d0 d1 d2 d3:Nat)(w:World):
  (binOp .neq 274 (.agg (four e0 e1 e2 e3)) (.agg (four d0 d1 d2 d3))).run prog w=.ok (B_ (!decide (e0=d0/\e1=d1/\e2=d2/\e3=d3))) w:=by
 obtain⟨i0,hi,dd,cV,dc⟩:=info_parts ZaJ;rw[run_neq_struct,show(10000:Nat)=9999+1 from rfl,run_equalIn_array w 9999 _ _ underlying274 hi];have hp:=λ(xs:Array Value) (off:Nat) (v:Value) (hx:xs[off]? = some v) (w:World)=>run_part_plain (P:=prog) (w:=w) ZuK hx
 have hq:∀(a b:Nat) (w:World),(Op.equalIn 9999 5 (.int .u8 (a:Int)) (.int .u8 (b:Int))).run prog w=.ok (decide (a=b)) w:=λa b w=>by
  rw[←ZrR];exact run_equalIn_int (P:=prog) w 9998 5 .u8 .u8 a b underlying5
 have a0:=hp (four e0 e1 e2 e3) (0*1) (.int .u8 (e0:Int)) rfl;have a1:=hp (four e0 e1 e2 e3) (1*1) (.int .u8 (e1:Int)) rfl;have a2:=hp (four e0 e1 e2 e3) (2*1) (.int .u8 (e2:Int)) rfl;have a3:=hp (four e0 e1 e2 e3) (3*1) (.int .u8 (e3:Int)) rfl;have b0:=hp (four d0 d1 d2 d3) (0*1) (.int .u8 (d0:Int)) rfl;have b1:=hp (four d0 d1 d2 d3) (1*1) (.int .u8 (d1:Int)) rfl;have b2:=hp (four d0 d1 d2 d3) (2*1) (.int .u8 (d2:Int)) rfl;have b3:=hp (four d0 d1 d2 d3) (3*1) (.int .u8 (d3:Int)) rfl;simp only[show List.range 4=[0,1,2,3] from rfl,Op.eqItems,Zun,Sem.run_bind,a0,b0,hq,Result.andThen_ok];rcases eo:decide (e0=d0) with _|_
 ·simp at eo;simp[eo]
 ·simp only[Bool.not_true,Bool.false_eq_true,if_false,Sem.run_bind,a1,b1,hq,Result.andThen_ok];rcases fL:decide (e1=d1) with _|_
  ·simp at fL;simp[fL]
  ·simp only[Bool.not_true,Bool.false_eq_true,if_false,Sem.run_bind,a2,b2,hq,Result.andThen_ok];rcases kM:decide (e2=d2) with _|_
   ·simp at kM;simp[kM]
   ·simp only[Bool.not_true,Bool.false_eq_true,if_false,Sem.run_bind,a3,b3,hq,Result.andThen_ok];rcases wm:decide (e3=d3) with _|_
    ·simp at wm;simp[wm]
    ·simp only[decide_eq_true_eq]at eo fL kM wm;simp only[eo,fL,kM,wm,Bool.not_true,Bool.false_eq_true,if_false,Sem.run_pure,Result.andThen_ok,and_self,decide_true]
theorem ZmT(e0 e1 e2 e3 d0 d1 d2 d3:Nat)(w:World):
  (binOp .neq 274 (.agg #[.int .u8 (e0:Int),.int .u8 (e1:Int),.int .u8 (e2:Int),.int .u8 (e3:Int)]) (.agg #[.int .u8 (d0:Int),.int .u8 (d1:Int),.int .u8 (d2:Int),.int .u8 (d3:Int)])).run prog w
   = .ok (B_ (!decide (e0=d0/\e1=d1/\e2=d2/\e3=d3))) w:=ZqW e0 e1 e2 e3 d0 d1 d2 d3 w
def ZdL(bs:List Nat):Prop:=4<=bs.length/\bs.drop (bs.length-4)=Zce (Zec (bs.take (bs.length-4)))
def Zmc(bs:List Nat)(w:World)(e:Ending)(w':World):Prop :=
 (ZdL bs/\∃v,e=R_ (.tuple #[v,B_ true])/\w'.ownsRow w.heap.size 5 1 v (bs.length-4) (cells (bs.take (bs.length-4)))/\L_ w w') ∨
 (¬ZdL bs/\e=R_ (.tuple #[S_ none 0 0,B_ false])/\L_ w w')
theorem Zn0{t e:TypeId}{len:Nat}(ht:P.underlying t=some (.array k e))(h:k<=len)(w:World):
  (Instr.arrayAt t (S_ a len cap)).run P w=.ok (.pointer a) w:=by
 simp[Instr.arrayAt,run_underlying ht];omega
theorem Zqu{bs:List Nat}(h:bs.length=m+4):bs.drop m=[bs.getD m 0,bs.getD (m+1) 0,bs.getD (m+2) 0,bs.getD (m+3) 0]:=by
 have g:∀i,i<bs.length->bs.drop i=bs.getD i 0::bs.drop (i+1):=λi hi=>by
  rw[List.drop_eq_getElem_cons hi];simp only[List.getD,ZX hi,Option.getD_some]
 rw[g m ZO,g (m+1) ZO,g (m+2) ZO,g (m+3) ZO,List.drop_eq_nil_of_le ZO]
theorem Zpx(a:Option Addr)(n cap:Nat)(w:World)(h4:n<4):
  Calls prog 136 #[S_ a n cap] w λe w'=>e=R_ (.tuple #[S_ none 0 0,B_ false])/\L_ w w':=by
 have yn:decide ((n:Int)-4<0)=true:=ZP;have hneg2:(n:Int)-4<0:=ZO;go_enter func136,ntmps136;go_wp2_with fail;refine ZSh (λw'=>K_ w w') [(0,0),(1,0),(2,0),(3,0),(4,0),(5,0),(6,0),(7,0),(8,0),(9,0),(10,0),(11,1),(12,0),(13,0)] (Kept.drew ⟨ZW _ _,ZL _⟩) λcu=>?_
 repeat((first|refine ZSa ?_|refine ZSc ?_);simp only[Act.put,Q_])
 refine ZSf ?_;go_wp2_with fail;go_ret2
 exact⟨rfl,(ZW _ _).drew⟩
theorem Zq5(b off m n cap:Nat)(bs:List Nat)(w:World)(hn:n=m+4)(gG:n<=cap)(fQ:b<w.heap.size)
  (h:Bytes w (some ⟨b,off,none⟩) n cap bs) (hs:∀x∈bs,x<256) (FH:n<=200004) :
  Calls prog 136 #[S_ (some ⟨b,off,none⟩) n cap] w (Zmc bs w):=by
 obtain⟨i0,hi,dd,cV,dc⟩:=info_parts ZaJ;have oV:=h.len;have eT:=h.cut m ZO;have cY:∀x∈bs.take m,x<256:=λx hx=>hs x (List.mem_of_mem_take hx)
 obtain⟨b',o',jX,-,iJ⟩:=h.pos ZO;injection jX with jX;injection jX with cz cD;subst cz cD;have k0:=iJ m ZO;have k1:=iJ (m+1) ZO;have k2:=iJ (m+2) ZO;have k3:=iJ (m+3) ZO;simp only[←Nat.add_assoc]at k1 k2 k3;have l5:=Zqu (bs:=bs) (m:=m) ZO;generalize bs.getD m 0=e0 at k0 l5;generalize bs.getD (m+1) 0=e1 at k1 l5;generalize bs.getD (m+2) 0=e2 at k2 l5;generalize bs.getD (m+3) 0=e3 at k3 l5;obtain⟨d0,d1,d2,d3,hd⟩:∃d0 d1 d2 d3,Zce (Zec (bs.take m))=[d0,d1,d2,d3]:=⟨_,_,_,_,rfl⟩;have lU:ZdL bs↔(e0=d0/\e1=d1/\e2=d2/\e3=d3):=by
  unfold ZdL;rw[oV,show n-4=m by omega,l5,hd];simp;omega
 have Ug:Hid (bs.length-4=m):=ZH (ZO);have hnm:(n:Int)-4=(m:Int):=ZO;have yn:decide ((m:Int)<0)=false:=ZM;have hptr:=λw'=>Zn0 (P:=prog) (len:=4) (cap:=cap-m) (a:=some ⟨b,off+m,none⟩) underlying274 (ZL _) w'
 have rJ:n-m=4:=ZO;have VZ:m<=n:=ZO;have hmc:m<=cap:=ZO;have hmc2:¬cap=m:=ZO;have hmc3:¬n<m:=ZO;obtain⟨HN,HS,yP,gA,HD,A3⟩:=ZH6 hn hs eT cY hd lU;clear hn hs eT cY hd lU l5 iJ oV h;go_enter func136,ntmps136;go_wp2_with fail;refine ZSh (λw'=>K_ w w') [(0,0),(1,0),(2,0),(3,0),(4,0),(5,0),(6,0),(7,0),(8,0),(9,0),(10,0),(11,1),(12,0),(13,0)] (Kept.drew ⟨ZW _ _,ZL _⟩) λcu=>?_
 repeat((first|refine ZSa ?_|refine ZSc ?_);simp only[Act.put,Q_])
 refine ZSd λK hK=>?_
 go_simp;refine(Znj (yP.out.kept cu.below (ZL _)) gA.out).mono ?_;rintro e w4 ⟨rfl,hb⟩;have mI:=cu.step hb;refine hK.out (λw'=>K_ w4 w') _ _ (λ_ h=>mI.trans h mI.le) ⟨ZW _ _,ZL _⟩ (λcA=>?_);clear cu hK K;have cu:=cA;clear cA;try simp only[Act.put,Q_]
 rw[HD.out];have fg:(cells [d0,d1,d2,d3]).toArray=#[.int .u8 (d0:Int),.int .u8 (d1:Int),.int .u8 (d2:Int),.int .u8 (d3:Int)]:=rfl;rw[fg];clear fg;by_cases eR:e0=d0/\e1=d1/\e2=d2/\e3=d3
 ·have PA:=A3.out.2 eR;obtain⟨rfl,rfl,rfl,rfl⟩:=eR;have rD:=Zll;have dR:=λw'=>(ZmT e0 e1 e2 e3 e0 e1 e2 e3 w').trans (show _=Result.ok (Value.bool false) w' by simp)
  repeat((first|refine ZSa ?_|refine ZSc ?_);simp only[Act.put,Q_])
  refine ZSf ?_;obtain⟨yZ,iT⟩:=ZH2 (Zj5 w4 w.heap.size mI.le) (((yP.out.kept mI.below (ZL _)).reads).alloc (ZL _) (C_ #[] 5));clear cu rD dR;have pK:=mI.le;go_wp2_with (at_builtin;refine Zc _ rfl (.tmp 22) (.tmp 25) _ rfl w.heap.size 5 i0 _ 1 1 underlying106 hi dd cV dc rfl ZO (S_ (some ⟨w4.heap.size,0,none⟩) 0 0) 0 (cells []) rfl yZ.out w4.heap.size (some ⟨b,off,none⟩) m cap (cells (bs.take m)) rfl iT.out (Z9 _) ZF ZO (ZT pK ZM) ?_;intro v5 w5 mM lq xQ)
  have Om:(w4.alloc (C_ #[] 5)).grownBy w5 (some w4.heap.size):=lq;have dH:L_ w w5:=(mI.alloc (C_ #[] 5)).below.grown Om (ZT pK ZM) (λg hg=>by injection hg with hg;omega);go_ret2
  refine .inl ⟨PA,_,rfl,?_,dH⟩;rw[Ug.out];have eF:cells []++cells (bs.take m)=cells (bs.take m):=rfl;rw[eF,Nat.zero_add]at mM;exact mM
 ·have gY:¬ZdL bs:=λh=>eR (A3.out.1 h)
  have rD:=Zll;have dR:=λw'=>(ZmT e0 e1 e2 e3 d0 d1 d2 d3 w').trans (show _=Result.ok (Value.bool true) w' by simp[eR])
  repeat((first|refine ZSa ?_|refine ZSc ?_);simp only[Act.put,Q_])
  refine ZSf ?_;go_wp2_with fail;go_ret2
  exact .inr ⟨gY,rfl,mI.below⟩
theorem Zjj{bs:List Nat}(h:Bytes w a n cap bs)(hs:∀x∈bs,x<256)(FH:n<=200004):
  Calls prog 136 #[S_ a n cap] w (Zmc bs w):=by
 have hl:=h.len;rcases Nat.lt_or_ge n 4 with h4|h4
 ·refine(Zpx a n cap w h4).mono ?_;rintro e w' ⟨rfl,hb⟩;exact .inr ⟨λho=>by have:=ho.1;omega,rfl,hb⟩
 ·obtain⟨b,off,rfl,fQ,_⟩:=h.pos ZO;exact Zq5 b off (n-4) n cap bs w ZO h.1 fQ h hs FH
section
variable {P:Program}{cQ:Array Oper}{Q:Exit->Act->World->Prop}{S:World->Prop}
def Zo1(P:Program)(cQ:Array Oper)(Q:Exit->Act->World->Prop)(S:World->Prop)(i:Nat)(r1:List (Nat×Nat))(j:Nat)(r2:List (Nat×Nat)):Exit->Act->World->Prop
 | .normal,a,w=>S w->Zae P cQ Q ((i,1)::r1) S a w/\Zae P cQ Q ((j,1)::r2) S a w
 |e,a,w=>Q e a w
def Zj7(cQ:Array Oper)(τ : List (Nat×Nat))(FD:Array Bool->Bool):List (Nat×Nat)->Array Bool->Bool
 | [],cC=>FD cC
 |(i,k)::r,cC =>
  (if k=0 then(Region.ready .any cQ cC).contains i&&Region.free .any cQ cC i && !ZaB τ i&&ZgD cQ τ i cC
   else k==3&&(Region.ready .any cQ cC).contains i&&Region.free .any cQ cC i && !ZaB τ i)&&Zj7 cQ τ FD r (cC.setIfInBounds i true)
def ZoZ(cQ:Array Oper)(τ : List (Nat×Nat))(i:Nat)(r1:List (Nat×Nat))(j:Nat)(r2:List (Nat×Nat))(cC:Array Bool):Bool :=
 Region.ready .any cQ cC==[i,j]&&(!ZaB τ i&&(!ZaB τ j&&(Zc7 cQ τ r1 (cC.setIfInBounds i true) true&&(Zc7 cQ τ r2 (cC.setIfInBounds j true) true&&r1.length==r2.length))))
theorem Zp9(hs:Region.noSelect cQ=true)(hQ:∀c a (d:Option Tmp) v w,Q (.panic c) (a.put d v) w->Q (.panic c) a w){τ r:List (Nat×Nat)}{i:Nat}{cC:Array Bool}{a:Act}{w:World}
  (hc:Zc7 cQ τ r (cC.setIfInBounds i true) true=true) (B8:ZaB τ i=false) (hS:S w) (h:Zae P cQ Q ((i,1)::r) S a w) :
  wpOp P cQ Q i (λa' w'=>((true && !ZaB τ i)=true->S w')/\Zcw P cQ Q (ZaB τ) S r.length (cC.setIfInBounds i true) (true && !ZaB τ i) a' w') a w:=by
 obtain⟨o,ho,h⟩:=h;have ih:=λS a w=>ZeJ (P:=P) hs hQ τ r S (cC.setIfInBounds i true) true a w hc
 have e:(true && !ZaB τ i)=true:=by rw[B8];rfl
 rw[e];unfold wpOp;simp only[ho];by_cases hw:Region.wanted o (yielded cQ a.tmps)=true
 ·rw[ZPp hw,ZPn ZJ,ZPn ZJ,ZPp rfl]at h;rw[ZPp hw];exact .inl (Oper.wp_mono (λa' w' ⟨S',h1,h2,h3⟩=>⟨λ_=>h1 _ h2,ZeX h1 _ _ _ _ _ (ih S' _ _ (λ_=>h2) h3)⟩) h)
 ·rw[ZPn hw]at h ⊢;exact⟨λ_=>hS,ih _ _ _ (λ_=>hS) h⟩
theorem ZjO(hs:Region.noSelect cQ=true)(hQ:∀c a (d:Option Tmp) v w,Q (.panic c) (a.put d v) w->Q (.panic c) a w)(τ r1 r2:List (Nat×Nat))(i j:Nat):
  ∀(σ : List (Nat×Nat)) (cC:Array Bool) (a:Act) (w:World),Zj7 cQ τ (ZoZ cQ τ i r1 j r2) σ cC=true->S w->Zae P cQ (Zo1 P cQ Q S i r1 j r2) σ S a w ->
   Zcw P cQ Q (ZaB τ) S (σ.length+(r1.length+1)) cC true a w
 | [],cC,a,w,hc,hS,h=>by
  have h:=h hS;simp only[Zj7,ZoZ,Bool.and_eq_true,beq_iff_eq,Bool.not_eq_true']at hc;obtain⟨h1,h2,h3,h4,h5,h6⟩:=hc;have e:([]:List (Nat×Nat)).length+(r1.length+1)=r1.length+1:=ZM;rw[e];refine⟨λh0=>absurd (h1▸h0) ZM,λk hk=>?_⟩;rw[h1]at hk;simp only[List.mem_cons,List.not_mem_nil,or_false]at hk;rcases hk with rfl|rfl
  ·exact Zp9 hs hQ h4 h2 hS h.1
  ·rw[h6];exact Zp9 hs hQ h5 h3 hS h.2
 |(i0,k)::r,cC,a,w,hc,hS,h=>by
  obtain⟨o,ho,h⟩:=h;simp only[Zj7,Bool.and_eq_true]at hc;obtain⟨fL,kM⟩:=hc;have ih:=λa w=>ZjO hs hQ τ r1 r2 i j r (cC.setIfInBounds i0 true) a w kM
  have e9:((i0,k)::r).length+(r1.length+1)=(r.length+(r1.length+1))+1:=ZP;rw[e9];by_cases k0:k=0
  ·rw[ZPp k0]at fL;simp only[Bool.and_eq_true,Bool.not_eq_true']at fL;obtain⟨⟨⟨c1,c2⟩,c4⟩,c5⟩:=fL;have F:=λ(v:Value) (hy:YieldsIf P cQ S o v a)=>Zea (Lv:=λb l=>b=true/\∀k∈ZdC cQ τ [i0],l.getD k true=false) ho hs (λc a w=>hQ c a _ v w) c4 (λ_ _ _ h1 h2=>h2 h1.1) (λlv l j oj h1 kP hj q7=>Zi5 c5 h1 kP hj q7) (r.length+(r1.length+1)) cC true a w
    (λj oj=>Region.free_spec ho c2 j oj) (by simpa using c1) hy ⟨rfl,ZhA c5⟩ (λ_=>hS)
   by_cases hw:Region.wanted o (yielded cQ a.tmps)=true
   ·rw[ZPp hw,ZPp k0]at h;obtain⟨v,hv,h⟩:=h;exact F v (Or.inl ⟨hw,hv⟩) (ih _ _ hS h)
   ·rw[ZPn hw]at h;exact F undef (Or.inr ⟨by simpa using hw,rfl⟩) (ih _ _ hS h)
  ·rw[ZPn k0]at fL;simp only[Bool.and_eq_true,Bool.not_eq_true',beq_iff_eq]at fL;obtain⟨⟨⟨k3,c1⟩,c2⟩,c4⟩:=fL;have F:=λ(v:Value) (hy:YieldsIf P cQ (λ_=>True) o v a)=>Zea ho hs (λc a w=>hQ c a _ v w) c4 (Lv:=λ_ _=>True) (λ_ _ _ _ _=>trivial) (λ_ _ _ _ _ _ _ _=>trivial) (r.length+(r1.length+1)) cC true a w
    (λj oj=>Region.free_spec ho c2 j oj) (by simpa using c1) hy trivial (λ_=>hS)
   by_cases hw:Region.wanted o (yielded cQ a.tmps)=true
   ·rw[ZPp hw,ZPn k0,ZPp k3]at h;obtain⟨v,hv,h⟩:=h;exact F v (Or.inl ⟨hw,λw' _=>hv w'⟩) (ih _ _ hS h)
   ·rw[ZPn hw]at h;exact F undef (Or.inr ⟨by simpa using hw,rfl⟩) (ih _ _ hS h)
theorem Zdj{a:Act}(S:World->Prop)(σ : List (Nat×Nat))(i:Nat)(r1:List (Nat×Nat))(j:Nat)(r2:List (Nat×Nat))(hm:P.follows .mixedOrders=true)
  (hc:(Region.noSelect cQ&&(σ.length+(r1.length+1)==cQ.size&&Zj7 cQ (σ ++ (i,1)::r1) (ZoZ cQ (σ ++ (i,1)::r1) i r1 j r2) σ (Array.replicate cQ.size false)))=true)
  (hQ:∀c a (d:Option Tmp) v w,Q (.panic c) (a.put d v) w->Q (.panic c) a w) (hS:S w.drew)
  (h:S w.drew->Zae P cQ (Zo1 P cQ Q S i r1 j r2) σ S a w.drew):(Code.region id cQ true).wp P Q a w:=by
 simp only[Bool.and_eq_true,beq_iff_eq]at hc;obtain⟨h1,h2,h3⟩:=hc;have hw:=ZjO h1 hQ (σ ++ (i,1)::r1) r1 r2 i j σ _ a _ h3 hS (h hS);rw[h2]at hw;exact wp_region_any hm (Zfw _ _ _ _ _ hw)
theorem ZfP{r1 r2:List (Nat×Nat)}{a:Act}(h1:S w->Zae P cQ Q ((i,1)::r1) S a w)(h2:S w->Zae P cQ Q ((j,1)::r2) S a w):Zae P cQ (Zo1 P cQ Q S i r1 j r2) [] S a w:=λh=>⟨h1 h,h2 h⟩
end
end Go.Proofs.YtjkfognelhiepaaGreat
