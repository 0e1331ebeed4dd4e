import Derived.Test.YtjkfognelhiepaaGreatC28
namespace Go.Proofs.YtjkfognelhiepaaGreat
open Go.RowKit _root_.Go.Proofs.Tryz
set_option maxRecDepth 100000
set_option maxHeartbeats 8000000
def Zs4(c:Cfg):Cfg:=⟨c.n,c.w,c.q,max c.h (c.n*c.w),c.l,c.p⟩
theorem ZtR{c:Cfg}(h:c.Ok):(Zs4 c).Ok:=by
 obtain⟨n1,n5,w1,w4,q1,q8,h1,h20,l1,l4,p1,p3⟩:=h;have hm:c.n*c.w<=20:=ZT (Nat.mul_le_mul n5 w4) ZO;refine⟨n1,n5,w1,w4,q1,q8,?_,?_,l1,l4,p1,p3⟩
 ·show 1<=max c.h (c.n*c.w)
  omega
 ·show max c.h (c.n*c.w)<=20
  omega
theorem ZtW(x0 x1 x2 x3 x4 x5:Int)(w:World):Calls prog 19 #[.agg #[.int .i64 x0,.int .i64 x1,.int .i64 x2,.int .i64 x3,.int .i64 x4,.int .i64 x5]] w (Zv (ZdX (Zs4 (Znt x0 x1 x2 x3 x4 x5))) w):=by
 have HK:=ZH (((ZKr w).alloc (.cells #[.int .i64 x0,.int .i64 x1,.int .i64 x2,.int .i64 x3,.int .i64 x4,.int .i64 x5] 23)).alloc (.cells #[.int .i64 0,.int .i64 0,.int .i64 0,.int .i64 0,.int .i64 0,.int .i64 0] 23));have hb:=(ZBn w 23 #[.int .i64 x0,.int .i64 x1,.int .i64 x2,.int .i64 x3,.int .i64 x4,.int .i64 x5]).alloc (.cells #[.int .i64 0,.int .i64 0,.int .i64 0,.int .i64 0,.int .i64 0,.int .i64 0] 23);have hz:=ZBn (w.alloc (.cells #[.int .i64 x0,.int .i64 x1,.int .i64 x2,.int .i64 x3,.int .i64 x4,.int .i64 x5] 23)) 23 #[.int .i64 0,.int .i64 0,.int .i64 0,.int .i64 0,.int .i64 0,.int .i64 0];rw[World.size_alloc] at hz;have bc:=ZsU x0 x1 x2 x3 x4 x5;have bM:=ZsY x0 x1 x2 x3 x4 x5 ((w.alloc (.cells #[.int .i64 x0,.int .i64 x1,.int .i64 x2,.int .i64 x3,.int .i64 x4,.int .i64 x5] 23)).alloc (.cells #[.int .i64 0,.int .i64 0,.int .i64 0,.int .i64 0,.int .i64 0,.int .i64 0] 23));obtain⟨c,hc⟩:∃ c,c=Znt x0 x1 x2 x3 x4 x5:=⟨_,rfl⟩;rw[←hc] at bc bM ⊢;obtain⟨c0,c1,c2,c3,c4,c5⟩:=hb.aS;have hl:=hb.lt;obtain⟨HZ,ag,HF⟩:=ZH3 hz bc bM;clear hb hz bc bM hc;go_enter func19,ntmps19;go_wp2_with fail;refine HF.out.mono ?_;rintro _ w1 ⟨rfl,bq⟩;obtain⟨cN,cP⟩:=ZH2 (HK.out.step bq) (HZ.out.ob bq);clear bq c0 c1 c2 c3 c4 c5 hl;obtain⟨z0,z1,z2,z3,z4,z5⟩:=cP.out.aS;have hzl:=cP.out.lt;have hzf:=λ i=>cP.out.frozen i
 go_wp2_with fail;have hm:c.n*c.w<=20:=ZT (Nat.mul_le_mul ag.out.n5 ag.out.w4) ZO;have e1:wrap64 ((c.n:Int)*(c.w:Int))=((c.n*c.w:Nat):Int):=by
  rw[w64 (by rw[←Int.natCast_mul];omega) (by rw[←Int.natCast_mul];omega),Int.natCast_mul]
 have e2:max (c.h:Int) ((c.n*c.w:Nat):Int)=((max c.h (c.n*c.w):Nat):Int):=ZO;rw[e1,e2];have di:=(Zaw (vs:=Zal (Zs4 c)) cP.out rfl).alloc (.cells (Zal (Zs4 c)) 23);have eI:=(ZaB cN.out (g:=w.heap.size+1) ZO 0 (Zal (Zs4 c)).toList).alloc (.cells (Zal (Zs4 c)) 23);refine bodyPost_ret (w:=(setAll w1 (w.heap.size+1) 0 (Zal (Zs4 c)).toList).alloc (.cells (Zal (Zs4 c)) 23)) (Zac rfl rfl (run_loadVar_row _ _ _ _ _ _ _ di underlying23 rfl ZK)) rfl ?_;exact⟨rfl,eI.below⟩
section
section
variable {c:Cfg}{r b b':Nat}{B B':Bd}{x:PN}{s1:NodeSt}
theorem NodeInv.ar(h:NodeInv c r B b x)(hu:x.s.up=true):ownN r x=cnt r x.s.log:=by unfold ownN;rw[(h.up hu).recs]
end
end
section
section
variable {c:Cfg}{B B':Bd}{x:PH}
theorem HubInv.an(h:HubInv c B x)(i:Nat):B.hub i<=B.made i:=by
 rw[h.hub]
 cases hx:(repl c x.rs).1[i]? with
 | none =>
  unfold hubLen lensOf;rw[List.getD_eq_getElem?_getD,List.getElem?_map,hx];exact Nat.zero_le _
 | some s=>rw[Zg1 hx];exact(h.inv.sh i s hx).made
end
end
section
section
variable {c:Cfg}{B B':Bd}{m b r:Nat}{x:WS}{s:St}{y:PN}
theorem Ztq{x:PH}{f:Frm}(h:x.s.up=false):Zr c x f=(x,none,18):=by
 unfold Zr Zax Zfp;rw[if_pos h,if_pos h]
end
end
section
section
variable {c:Cfg}{B B':Bd}{m b r k:Nat}{x y:WS}{s:St}{a:PN}
theorem ZtU(hk:s.kind≠4/\s.kind≠5/\s.kind≠7):(Zab c x s).1.hub.rs=x.hub.rs:=by
 unfold Zab;split
 ·unfold ZcH;split
  ·rfl
  ·split
   ·rfl
   ·rw[if_pos ZO]
 ·split
  ·unfold ZbL;split
   ·split
    ·rfl
    ·split <;> rfl
   ·split
    ·split
     ·rfl
     ·split
      ·simp only[ZbZ];split <;> rfl
      ·rfl
    ·rfl
  ·split
   ·rfl
   ·split
    ·rfl
    ·split
     ·rfl
     ·unfold Zgn;split <;> rfl
theorem WInv.av(h:WInv c B m b x)(cD:x.hub.rs=[])(i:Nat):B.hub i=0:=by
 obtain⟨H,hH,hi,ba⟩:=h.hub;have h0:=hi.hub i;have h1:hubLen (repl c x.hub.rs).1 i=0:=by
  rw[cD];unfold hubLen lensOf repl ZbH;simp only[List.foldl_nil,initSt,List.map_replicate,List.getD_eq_getElem?_getD,List.getElem?_replicate];split <;> rfl
 have:=hH i;simp only at h0;omega
end
end
section
section
variable {own own':Own}{t p q b k:Nat}{w0 wr w':World}{c:Cfg}{B:Bd}{x:WS}{v:Value}{ss:List St}{s:St}{T:Nat->Prop}
theorem nwk:¬ Zp 1 900000:=λ h=>absurd h.2 ZJ
abbrev ZtX:Array Value:=Zt false ZCz ZCz (List.replicate 5 ZCz)
abbrev Zs1:Array Value:=Zx false ZCz 0 (.slice none 0 0) (.slice none 0 0)
end
end
section
def Apart2(l:List Ev):Prop:=l.Pairwise λ a b=>¬ (a.r=b.r/\a.n=b.n)
theorem Zs2{a:Ev}{l:List Ev}:Apart2 (a::l)↔(∀ b∈l,¬ (a.r=b.r/\a.n=b.n))/\Apart2 l:=List.pairwise_cons
theorem Apart2.eq:∀ {l:List Ev},Apart2 l->∀ {a b:Ev},a∈l->b∈l->a.r=b.r->a.n=b.n->a=b
 | [],_,_,_,ha,_,_,_=>by cases ha
 | x::l,h,a,b,ha,hb,hr,hn=>by
  obtain⟨h1,h2⟩:=Zs2.1 h;rcases List.mem_cons.1 ha with ea | dO
  ·rcases List.mem_cons.1 hb with eb | c8
   ·rw[ea,eb]
   ·rw[ea] at hr hn;exact absurd ⟨hr,hn⟩ (h1 b c8)
  ·rcases List.mem_cons.1 hb with eb | c8
   ·rw[eb] at hr hn;exact absurd ⟨hr.symm,hn.symm⟩ (h1 a dO)
   ·exact Apart2.eq h2 dO c8 hr hn
theorem Ztj{c:Clk}:∀ {l bn:List Ev},Apart2 l->(∀ e∈l,c.get e.r<e.n)->(∀ a∈bn,∀ b∈l,¬ (a.r=b.r/\a.n=b.n))->l.foldl (Zc3 c) bn=bn++l
 | [],bn,_,_,_=>ZM
 | e::l,bn,h,hc,ha=>by
  obtain⟨h1,h2⟩:=Zs2.1 h;have hf:Zb1 e.r e.n bn=none:=by
   unfold Zb1;rw[List.find?_eq_none];intro x hx;simpa using ha x hx e ZM
  have hh:c.has e.r e.n=false:=by
   have:=hc e ZM;unfold Clk.has;exact decide_eq_false ZO
  have he:Zc3 c bn e=bn++[e]:=by unfold Zc3;simp[hf,hh]
  rw[List.foldl_cons,he,Ztj h2 (λ x hx=>hc x (List.mem_cons_of_mem _ hx)) (λ a h3 b hb=>?_)]
  ·simp
  ·rcases List.mem_append.1 h3 with h3 | h3
   ·exact ha a h3 b (List.mem_cons_of_mem _ hb)
   ·simp at h3;subst h3;exact h1 b hb
theorem Ztp{r n:Nat}{x:Ev}:∀ {w:List Ev},Apart2 w->(x∈Zdp r n w↔x∈w/\¬ (x.r=r/\x.n=n))
 | [],_=>by simp[Zdp]
 | y::w,h=>by
  obtain⟨h1,h2⟩:=Zs2.1 h;have ih:=Ztp (r:=r) (n:=n) (x:=x) h2;by_cases hy:y.r=r/\y.n=n
  ·have e:Zdp r n (y::w)=w:=by unfold Zdp;rw[List.eraseP_cons_of_pos (by simpa using hy)]
   rw[e,List.mem_cons];constructor
   ·intro hx;refine⟨.inr hx,λ h3=>h1 x hx ⟨?_,?_⟩⟩
    ·rw[hy.1,h3.1]
    ·rw[hy.2,h3.2]
   ·rintro⟨h3 | h3,h4⟩
    ·exact absurd (h3▸hy) h4
    ·exact h3
  ·have e:Zdp r n (y::w)=y::Zdp r n w:=by unfold Zdp;rw[List.eraseP_cons_of_neg (by simpa using hy)]
   rw[e,List.mem_cons,List.mem_cons,ih];constructor
   ·rintro(h3 | ⟨h3,h4⟩)
    ·exact⟨.inl h3,by rw[h3];exact hy⟩
    ·exact⟨.inr h3,h4⟩
   ·rintro⟨h3 | h3,h4⟩
    ·exact .inl h3
    ·exact .inr ⟨h3,h4⟩
theorem Apart2.drop{r n:Nat}{w:List Ev}(h:Apart2 w):Apart2 (Zdp r n w):=List.Pairwise.sublist (List.eraseP_sublist) h
theorem Chain.row(k:Nat):∀ {l:List Ev} {c c':Clk},Chain c l c'->From1 (c.get k+1) (byR k l)
 | [],_,_,_=>λ i e h=>by simp[byR] at h
 | e::l,c,c',h=>by
  obtain⟨h1,h2,h3,h4⟩:=h;have ih:=Chain.row k h4;by_cases hk:e.r=k
  ·subst hk;rw[Clk.aD _ h1] at ih;have e1:byR e.r (e::l)=e::byR e.r l:=by simp[byR]
   rw[e1];intro i x hx
   cases i with
   | zero=>simp at hx;subst hx;omega
   | succ i=>have:=ih i x (by simpa using hx);omega
  ·rw[Clk.aB _ hk] at ih;have e1:byR k (e::l)=byR k l:=by simp[byR,hk]
   rw[e1];exact ih
theorem Chain.split:∀ {pre:List Ev} {e:Ev} {post:List Ev} {c c':Clk},Chain c (pre++e::post) c'->e.r<5/\e.n=(pre.foldl (λ c e=>c.set e.r (c.get e.r+1)) c).get e.r+1/\e.ctx.le (pre.foldl (λ c e=>c.set e.r (c.get e.r+1)) c)=true
 | [],_,_,_,_,h=>⟨h.1,h.2.1,h.2.2.1⟩
 | _::pre,_,_,_,_,h=>by
  have:=Chain.split (pre:=pre) h.2.2.2;exact this
theorem Chain.pre:∀ {pre post:List Ev} {c c':Clk},Chain c (pre++post) c'->∃ d,Chain c pre d/\Chain d post c'
 | [],_,c,_,h=>⟨c,rfl,h⟩
 | _::_,_,_,_,h=>by
  obtain⟨d,h1,h2⟩:=Chain.pre h.2.2.2;exact⟨d,⟨h.1,h.2.1,h.2.2.1,h1⟩,h2⟩
theorem Chain.app:∀ {l m:List Ev} {c d e:Clk},Chain c l d->Chain d m e->Chain c (l++m) e
 | [],_,_,_,_,h,g=>by
  have:_=_:=h;subst this;exact g
 | _::_,_,_,_,_,h,g=>⟨h.1,h.2.1,h.2.2.1,Chain.app h.2.2.2 g⟩
theorem Zte{P:Ev->Prop}:∀ {l:List Ev},(∃ e∈l,P e)->∃ pre e post,l=pre++e::post/\P e/\∀ x∈pre,¬ P x
 | [],⟨_,h,_⟩=>by cases h
 | x::l,h=>by
  by_cases hx:P x
  ·exact⟨[],x,l,rfl,hx,ZM⟩
  ·obtain⟨e,he,hp⟩:=h;rcases List.mem_cons.1 he with rfl | he
   ·exact absurd hp hx
   ·obtain⟨pre,e',post,h1,h2,h3⟩:=Zte ⟨e,he,hp⟩;refine⟨x::pre,e',post,by rw[h1];rfl,h2,λ y hy=>?_⟩;rcases List.mem_cons.1 hy with rfl | hy
    ·exact hx
    ·exact h3 y hy
section
variable {hist:List Ev}{cE:Clk}{r:Nat}
theorem Ztg(h:Chain ZCz hist cE){e:Ev}(he:e∈hist):e.r<5:=by
 obtain⟨pre,post,rfl⟩:=List.append_of_mem he;exact h.split.1
theorem Zs3(h:Chain ZCz hist cE)(k:Nat):From1 1 (byR k hist):=by
 have:=h.row k;rwa [ZbW] at this
theorem ZtO{pre post:List Ev}{e:Ev}(h:Chain ZCz (pre++e::post) cE):e.n=cnt e.r pre+1/\∀ j,j<5->e.ctx.get j<=cnt j pre:=by
 obtain⟨d,h0,_⟩:=h.pre;have h5:∀ x∈pre,x.r<5:=λ x hx=>Ztg h0 hx
 obtain⟨h1,h2,h3⟩:=h.split;have e1:pre.foldl (λ c e=>c.set e.r (c.get e.r+1)) ZCz=clkOf pre:=rfl;rw[e1] at h2 h3;refine⟨by rw[h2,ZjP h5],λ j hj=>?_⟩;have:=Clk.le_iff.1 h3 j hj;rwa [ZjP h5] at this
theorem ZtA(k:Nat)(pre post:List Ev):cnt k pre<=cnt k (pre++post):=by
 unfold cnt;rw[Ziw,ZI];omega
theorem ZtI(h:Chain ZCz hist cE){c:Clk}{w:List Ev}(ha:Apart2 w)(hw:∀ e,e∈w↔e∈hist/\e.r≠r/\c.get e.r<e.n)(hr:cnt r hist<=c.get r)(h0:w≠[]):∃ e,Zbr c w=some e:=by
 obtain⟨x,hx⟩:=List.exists_mem_of_ne_nil w h0;obtain⟨pre,e,post,rfl,⟨h1,h2⟩,h3⟩:=Zte (P:=λ e=>e.r≠r/\c.get e.r<e.n) ⟨x,((hw x).1 hx).1,((hw x).1 hx).2⟩;obtain⟨k1,k2⟩:=ZtO h;obtain⟨d,hd,_⟩:=h.pre;have aW:∀ k,k≠r->cnt k pre<=c.get k:=λ k hk=>ZjR (Zs3 hd k) λ y hy e8=>by
  have:=h3 y hy;rw[e8] at this;omega
 have dh:e.n=c.get e.r+1:=by have:=aW e.r h1;omega
 have df:e.ctx.le c=true:=Clk.le_iff.2 λ j hj=>by
  have h4:=k2 j hj;by_cases ec:j=r
  ·subst ec;have:=ZtA j pre (e::post);omega
  ·have:=aW j ec;omega
 have dX:e∈w:=(hw e).2 ⟨ZM,h1,h2⟩;have hf:Zb1 e.r (c.get e.r+1) w=some e:=by
  cases hf:Zb1 e.r (c.get e.r+1) w with
  | none =>
   unfold Zb1 at hf;rw[List.find?_eq_none] at hf;exact absurd (by simp[dh]) (hf e dX)
  | some y =>
   obtain⟨m1,m2,m3⟩:=Zif hf;rw[ha.eq m1 dX m2 ZO]
 have ez:Zcc c w e.r=some e:=by
  unfold Zcc;rw[hf];simp[df]
 cases hn:Zbr c w with
 | some y=>exact⟨y,rfl⟩
 | none =>
  unfold Zbr at hn;rw[List.findSome?_eq_none_iff] at hn;have:=hn e.r (by simpa using Ztg h (show e∈pre++e::post by simp));rw[ez] at this
  cases this
theorem ZtC(h:Chain ZCz hist cE):∀ (f:Nat) (c:Clk) (w d:List Ev),w.length<=f->Apart2 w->(∀ e,e∈w↔e∈hist/\e.r≠r/\c.get e.r<e.n)->cnt r hist<=c.get r->(∀ k,k≠r->c.get k<=cnt k hist) ->
  (Za7 f c w d).2.1=[]/\(Za7 f c w d).2.2.get r=c.get r/\∀ k,k≠r->(Za7 f c w d).2.2.get k=cnt k hist:=by
 have dI:∀ (c:Clk) (w:List Ev),w=[]->(∀ e,e∈w↔e∈hist/\e.r≠r/\c.get e.r<e.n)->(∀ k,k≠r->c.get k<=cnt k hist)->∀ k,k≠r->c.get k=cnt k hist:=λ c w h0 hw aW k hk=>by
  refine Nat.le_antisymm (aW k hk) (ZjR (Zs3 h k) λ e he dW=>?_);have:¬ (e∈hist/\e.r≠r/\c.get e.r<e.n):=λ hx=>by
   have:=(hw e).2 hx;rw[h0] at this
   cases this
  by_cases aX:c.get e.r<e.n
  ·exact absurd ⟨he,by rw[dW];exact hk,aX⟩ this
  ·rw[dW] at aX;omega
 intro f
 induction f with
 | zero =>
  intro c w d hl ha hw hr aW;have h0:w=[]:=List.length_eq_zero_iff.1 ZO;exact⟨h0,rfl,dI c w h0 hw aW⟩
 | succ f ih =>
  intro c w d hl ha hw hr aW;unfold Za7
  cases hn:Zbr c w with
  | none =>
   have h0:w=[]:=Classical.byContradiction λ h0=>by
    obtain⟨e,he⟩:=ZtI h ha hw hr h0;rw[hn] at he
    cases he
   exact⟨h0,rfl,dI c w h0 hw aW⟩
  | some e =>
   obtain⟨g1,g2,g3,g4⟩:=Zpg hn;obtain⟨i1,i2,i3⟩:=(hw e).1 g1;have dT:(c.set e.r (c.get e.r+1)).get r=c.get r:=Clk.aB _ i2 _;have hlen:(Zdp e.r e.n w).length<=f:=by
    unfold Zdp;rw[List.length_eraseP_of_mem g1 ZM];omega
   have:=ih (c.set e.r (c.get e.r+1)) (Zdp e.r e.n w) (d++[e]) hlen ha.drop (λ x=>?_) (by rw[dT];exact hr) (λ k hk=>?_)
   ·simp only;rw[dT] at this;exact this
   ·rw[Ztp ha,hw x];by_cases hx:x.r=e.r
    ·rw[hx,Clk.aD _ g2];constructor
     ·rintro⟨⟨a1,a2,a3⟩,a4⟩;exact⟨a1,a2,by have:¬ x.n=e.n:=λ h=>a4 ⟨rfl,h⟩;omega⟩
     ·rintro⟨a1,a2,a3⟩;exact⟨⟨a1,a2,ZO⟩,λ h=>by have:=h.2;omega⟩
    ·rw[Clk.aB _ (λ h=>hx h.symm)];constructor
     ·rintro⟨a1,a2⟩;exact a1
     ·intro a1;exact⟨a1,λ h=>hx h.1⟩
   ·by_cases eg:e.r=k
    ·subst eg;rw[Clk.aD _ g2];have:=(Zs3 h e.r).mem (Zjl.2 ⟨i1,rfl⟩);unfold cnt;omega
    ·rw[Clk.aB _ eg];exact aW k hk
theorem ZtF(h:Chain ZCz hist cE){c:Clk}{l:List Ev}(ha:Apart2 l)(hl:∀ e,e∈l↔e∈hist/\e.r≠r/\c.get e.r<e.n)(hr:cnt r hist<=c.get r)(aW:∀ k,k≠r->c.get k<=cnt k hist):
  Zdg c l=[]/\(drained c l).2.2.get r=c.get r/\∀ k,k≠r->(drained c l).2.2.get k=cnt k hist:=by
 have he:Zaf c l=l:=by
  unfold Zaf;rw[Ztj ha (λ e he=>((hl e).1 he).2.2) (λ a ha=>by cases ha)];rfl
 obtain⟨h1,h2,h3⟩:=ZtC h l.length c l [] (ZL _) ha hl hr aW;unfold Zdg drained;rw[he];refine⟨?_,h2,h3⟩;rw[h1];unfold Zb3;rw[List.filter_eq_nil_iff];intro e _;simp[Zb1]
end
end
section
theorem Zta{s:Nat}:∀ (l:List Clk) (a:Nat),l.foldl (λ m c=>min m (c.get s)) a<=a/\∀ y∈l,l.foldl (λ m c=>min m (c.get s)) a<=y.get s
 | [],a=>⟨ZL _,λ y h=>by cases h⟩
 | x::l,a=>by
  obtain⟨h1,h2⟩:=Zta (s:=s) l (min a (x.get s));refine⟨ZT h1 (Nat.min_le_left _ _),λ y hy=>?_⟩;rcases List.mem_cons.1 hy with rfl | hy
  ·exact ZT h1 (Nat.min_le_right _ _)
  ·exact h2 y hy
theorem Ztb{s v:Nat}:∀ (l:List Clk) (a:Nat),v<=a->(∀ y∈l,v<=y.get s)->v<=l.foldl (λ m c=>min m (c.get s)) a
 | [],a,h,_=>h
 | x::l,a,h,hl=>Ztb l _ (Nat.le_min.2 ⟨h,hl x ZM⟩) λ y hy=>hl y (List.mem_cons_of_mem _ hy)
theorem ZtE{told:List Clk}{s r:Nat}(hr:r<told.length):Zbw told s<=(told.getD r ZCz).get s:=by
 rw[List.getD_eq_getElem?_getD,ZX hr];exact(Zta told _).2 _ (List.getElem_mem hr)
theorem ZtD{told:List Clk}{s v:Nat}(h0:0<told.length)(h:∀ r,r<told.length->v<=(told.getD r ZCz).get s):v<=Zbw told s:=by
 have cn:∀ y∈told,v<=y.get s:=λ y hy=>by
  obtain⟨i,hi,rfl⟩:=List.getElem_of_mem hy;have:=h i hi;rwa [List.getD_eq_getElem?_getD,ZX hi] at this
 refine Ztb told _ ?_ cn
 cases told with
 | nil=>simp at h0
 | cons x l=>exact cn x ZM
theorem Ztu{told:List Clk}{i r:Nat}{y:Clk}(hi:i<told.length):(told.set i y).getD r ZCz=if r=i then y else told.getD r ZCz:=by
 rw[List.getD_eq_getElem?_getD,List.getD_eq_getElem?_getD];split
 ·rename_i h;rw[h,List.getElem?_set_self hi];rfl
 ·rename_i h;rw[List.getElem?_set_ne (λ h'=>h h'.symm)]
structure ToldInv(n:Nat)(st:PostSt)(D:Nat->Nat->Nat):Prop where
 told:∀ r,r<n->∀ k,(st.2.getD r ZCz).get k<=D r k
 base:∀ k s,st.1[k]? = some s->∀ r,r<n->s.base<=(st.2.getD r ZCz).get k
section
variable {n r most:Nat}{st:PostSt}{D D':Nat->Nat->Nat}{l:List Ev}
theorem ToldInv.more(h:ToldInv n st D)(hD:∀ r k,D r k<=D' r k):ToldInv n st D':=⟨λ r hr k=>ZT (h.told r hr k) (hD r k),h.base⟩
theorem Ztt{told:List Clk}{k r:Nat}{z:Sh}(hr:r<told.length)(h:z.base<=(told.getD r ZCz).get k):(cutSh told k z).base<=(told.getD r ZCz).get k :=
 Nat.max_le.2 ⟨h,ZT (Nat.min_le_left _ _) (ZtE hr)⟩
theorem ToldInv.push(h:ToldInv n st D)(hl:st.2.length=n):ToldInv n ((Z7 most r l st.1 st.2).2.2,st.2) D:=by
 refine⟨h.told,λ k s hs q hq=>?_⟩;simp only at hs;unfold Z7 at hs;split at hs
 ·exact h.base k s hs q hq
 ·rename_i x hx;split at hs
  ·simp only[List.getElem?_set] at hs;split at hs
   ·rename_i hk;subst hk;split at hs
    ·injection hs with hs
     subst hs;exact Ztt ZO (h.base _ x hx q hq)
    ·cases hs
   ·exact h.base k s hs q hq
  ·exact h.base k s hs q hq
theorem ToldInv.bO(h:ToldInv n st D)(hl:st.2.length=n)(hr:r<n){k:Clk}(hk:∀ i,k.get i<=D r i){told:List Clk}(ht:told=st.2.set r ((st.2.getD r ZCz).join k)):
  ToldInv n (ZaE st.1 told st.1.length,told) D:=by
 have ct:∀ q,told.getD q ZCz=if q=r then(st.2.getD r ZCz).join k else st.2.getD q ZCz:=λ q=>by rw[ht];exact Ztu ZO
 have hlen:told.length=n:=by rw[ht,List.length_set];exact hl
 have cA:∀ q i,(st.2.getD q ZCz).get i<=(told.getD q ZCz).get i:=λ q i=>by
  rw[ct];split
  ·rename_i h;rw[h,Zee];exact Nat.le_max_left _ _
  ·exact ZL _
 refine⟨λ q hq i=>?_,λ i s hs q hq=>?_⟩
 ·simp only;rw[ct];split
  ·rename_i bg;rw[Zee,bg];exact Nat.max_le.2 ⟨h.told r hr i,hk i⟩
  ·exact h.told q hq i
 ·simp only at hs ⊢;have hi:i<st.1.length:=by have:=(ZZ.1 hs).1;rw[ZcO] at this;exact this
  rw[ZgN hi (ZX hi)] at hs;injection hs with hs;rw[←hs];exact Ztt ZO (ZT (h.base i _ (ZX hi) q hq) (cA q i))
end
structure HistInv(st:PostSt)(hist:List Ev):Prop where
 chain:∃ d,Chain ZCz hist d
 len:∀ j,cnt j hist=hubLen st.1 j
 kept:∀ k s,st.1[k]? = some s->s.kept=(byR k hist).drop s.base
section
variable {st:PostSt}{hist:List Ev}{c:Cfg}{B:Bd}{r:Nat}{l:List Ev}
theorem HistInv.init(c:Cfg):HistInv (initSt c) []:=by
 refine⟨⟨_,rfl⟩,λ j=>?_,λ k s hs=>?_⟩
 ·unfold hubLen lensOf;simp only[initSt,List.map_replicate,List.getD_eq_getElem?_getD,List.getElem?_replicate];split <;> rfl
 ·have:=ZY hs;simp[initSt] at this;rw[this.2];simp[byR]
theorem HistInv.cut(h:HistInv st hist){st':PostSt}(hl:∀ j,hubLen st'.1 j=hubLen st.1 j)(hs:∀ k s,st'.1[k]? = some s->∃ z t,st.1[k]? = some z/\(s=z∨s=cutSh t k z)):HistInv st' hist:=by
 refine⟨h.chain,λ j=>by rw[hl];exact h.len j,λ k s hk=>?_⟩;obtain⟨z,t,h1,rfl | rfl⟩:=hs k s hk
 ·exact h.kept k _ h1
 ·have h2:=h.kept k z h1;have h3:z.base<=Zbo z.base z.kept.length (Zbw t k):=Nat.le_max_left _ _;show z.kept.drop (Zbo z.base z.kept.length (Zbw t k)-z.base)=(byR k hist).drop (Zbo z.base z.kept.length (Zbw t k))
  obtain⟨b,hb⟩:∃ b,b=Zbo z.base z.kept.length (Zbw t k):=⟨_,rfl⟩;rw[←hb] at h3 ⊢;rw[h2,List.drop_drop];congr 1;omega
theorem Zto{r:Nat}:∀ {new:List Ev} {d:Clk},From1 (d.get r+1) new->(∀ e∈new,e.r=r/\r<5/\e.ctx.get r+1=e.n/\∀ j,j≠r->e.ctx.get j<=d.get j)->∃ d',Chain d new d'
 | [],d,_,_=>⟨d,rfl⟩
 | e::new,d,hf,he=>by
  obtain⟨h1,h2,h3,h4⟩:=he e ZM;have hn:e.n=d.get r+1:=hf 0 e rfl;obtain⟨d',hd⟩:=Zto (r:=r) (new:=new) (d:=d.set r (d.get r+1)) (by rw[Clk.aD _ h2];exact hf.tail) λ x hx=>by
   obtain⟨g1,g2,g3,g4⟩:=he x (List.mem_cons_of_mem _ hx);exact⟨g1,g2,g3,λ j hj=>by rw[Clk.aB _ (λ h=>hj h.symm)];exact g4 j hj⟩
  refine⟨d',ZO,by rw[h1];exact hn,Clk.le_iff.2 λ j _=>?_,by rw[h1];exact hd⟩;by_cases hj:j=r
  ·subst hj;omega
  ·exact h4 j hj
theorem Zty{k:Nat}{new:List Ev}(h:∀ e∈new,e.r=r):byR k new=if k=r then new else []:=by
 unfold byR;split
 ·rename_i hk;rw[List.filter_eq_self];intro e he;simp[h e he,hk]
 ·rename_i hk;rw[List.filter_eq_nil_iff];intro e he;simp[h e he];exact λ h=>hk h.symm
theorem HistInv.push(h:HistInv st hist)(hB:∀ i,B.hub i=hubLen st.1 i)(hr:r<st.1.length)(cU:r<5)(he:∀ e∈l,EvG c B e/\e.r=r){n0:Nat}(hf:From1 n0 l)(hn:n0<=hubLen st.1 r+1):
  ∃ cv,HistInv ((Z7 c.w r l st.1 st.2).2.2,st.2) cv:=by
 obtain⟨x,hx⟩:∃ x,st.1[r]? = some x:=⟨_,ZX hr⟩;have dp:=Zg1 hx;obtain⟨d,hd⟩:=h.chain;have h5:∀ e∈hist,e.r<5:=λ e he=>Ztg hd he
 have dU:∀ j,d.get j=hubLen st.1 j:=λ j=>by
  have h1:clkOf hist=d:=hd.clk;rw[←h1,ZjP h5,h.len]
 have hlen:x.base+x.kept.length=cnt r hist:=by rw[h.len,dp];rfl
 have cF:∀ z:Sh,shLen z=shLen x->(z=x∨z=cutSh st.2 r x)->HistInv (st.1.set r z,st.2) hist:=λ z hz cV=>by
  refine h.cut (λ j=>?_) (λ k s hk=>?_)
  ·simp only;rw[ZnE hr];split
   ·rename_i hj;rw[hj,hz,dp]
   ·rfl
  ·simp only[List.getElem?_set] at hk;split at hk
   ·rename_i aw;subst aw;injection hk with hk;subst hk;exact⟨x,st.2,hx,cV⟩
   ·exact⟨s,st.2,hk,.inl rfl⟩
 unfold Z7;rw[hx];simp only;by_cases hp:(Z1 c.w x.base x.kept l).1=0
 ·rw[if_pos hp];by_cases hk:(Z1 c.w x.base x.kept l).2=x.kept
  ·rw[hk];exact⟨hist,cF _ (Ze8 st.2 r x).1 (.inr rfl)⟩
  ·obtain⟨new,aG⟩:∃ new,new=l.filter λ e=>decide (x.base+x.kept.length<e.n):=⟨_,rfl⟩
   have bU:(Z1 c.w x.base x.kept l).2=x.kept++new:=by
    unfold Z1 at hk ⊢;simp only[←aG] at hk ⊢;split at hk
    ·exact absurd rfl hk
    ·rename_i h1;rw[if_neg h1];split at hk
     ·exact absurd rfl hk
     ·rename_i h2;rw[if_neg h2]
   rw[bU];have eJ:hubLen st.1 r=x.base+x.kept.length:=dp;have ej:∀ e∈new,e.r=r:=λ e h=>(he e (List.mem_filter.1 (aG▸h)).1).2
   have eO:From1 (x.base+x.kept.length+1) new:=by
    have:=hf.drop (x.base+x.kept.length+1-n0);rw[←Zf8 hf,←aG] at this;rwa [show n0+(x.base+x.kept.length+1-n0)=x.base+x.kept.length+1 by omega] at this
   obtain⟨d',eD⟩:=Zto (r:=r) (new:=new) (d:=d) (by rw[dU,eJ];exact eO) λ e dh=>by
    obtain⟨g1,g2⟩:=he e (List.mem_filter.1 (aG▸dh)).1;refine⟨g2,cU,by have:=g1.ok.own;rwa [g2] at this,λ j hj=>?_⟩;rw[dU,←hB];exact g1.ctx j (by rw[g2];exact hj)
   have de:∀ j,cnt j (hist++new)=cnt j hist+if j=r then new.length else 0:=λ j=>by
    unfold cnt;rw[Ziw,ZI,Zty ej];split <;> simp
   have h1:HistInv (st.1.set r ⟨x.base,x.kept++new⟩,st.2) (hist++new):=by
    refine⟨⟨d',hd.app eD⟩,λ j=>?_,λ k s hk=>?_⟩
    ·simp only;rw[ZnE hr,de];split
     ·rename_i hj;rw[hj,←hlen];unfold shLen;simp only[ZI];omega
     ·rw[h.len];rfl
    ·simp only[List.getElem?_set] at hk;rw[Ziw,Zty ej];split at hk
     ·rename_i aw;subst aw;injection hk with hk;subst hk;simp only[if_true];rw[List.drop_append_of_le_length (by unfold cnt at hlen;omega),←h.kept _ x hx]
     ·rename_i aw;rw[if_neg (λ h=>aw h.symm),List.append_nil];exact h.kept k s hk
   refine⟨hist++new,h1.cut (λ j=>?_) (λ k s hk=>?_)⟩
   ·simp only;rw[ZnE hr,ZnE hr];split
    ·exact(Ze8 st.2 r _).1
    ·rfl
   ·simp only[List.getElem?_set] at hk ⊢;split at hk
    ·rename_i aw;subst aw;injection hk with hk;subst hk;exact⟨_,st.2,by rw[if_pos rfl,if_pos hr],.inr rfl⟩
    ·rename_i aw;exact⟨s,st.2,by rw[if_neg aw];exact hk,.inl rfl⟩
 ·rw[if_neg hp];exact⟨hist,h⟩
theorem HistInv.bO(h:HistInv st hist)(told:List Clk):HistInv (ZaE st.1 told st.1.length,told) hist:=by
 refine h.cut (λ j=>?_) (λ k s hk=>?_)
 ·unfold hubLen;simp only;rw[Zig]
 ·have hi:k<st.1.length:=by have:=(ZZ.1 hk).1;simp only at this;rw[ZcO] at this;exact this
  simp only at hk;rw[ZgN hi (ZX hi)] at hk;injection hk with hk;exact⟨_,told,ZX hi,.inr hk.symm⟩
end
def hasN(x:WS)(r k:Nat):Nat:=cnt k (nodeRecs (x.nodes r).rs).1
structure PastInv(c:Cfg)(x:WS):Prop where
 told:ToldInv c.n (repl c x.hub.rs) (hasN x)
 hist:∃ hist,HistInv (repl c x.hub.rs) hist
 link:∀ p∈x.link,p.2.kind=5->∀ k,p.2.clock.get k<=hasN x p.2.r k
section
variable {c:Cfg}{B:Bd}{m b r:Nat}{x:WS}{y:PN}
theorem PastInv.new(c:Cfg):PastInv c (Zfe c):=by
 refine⟨⟨λ r hr k=>?_,λ k s hs r hr=>?_⟩,⟨[],HistInv.init c⟩,λ p hp=>by simp[Zfe] at hp⟩
 ·have:(repl c (Zfe c).hub.rs).2.getD r ZCz=ZCz:=by
   simp only[repl,Zfe,Zlt,ZbH,List.foldl_nil,initSt,List.getD_eq_getElem?_getD,List.getElem?_replicate];split <;> rfl
  rw[this,ZbW];exact Nat.zero_le _
 ·have:=ZY hs;simp[repl,Zfe,Zlt,ZbH,initSt] at this;rw[this.2];exact Nat.zero_le _
theorem PastInv.setNode(h:PastInv c x)(hy:∀ k,cnt k (nodeRecs (x.nodes r).rs).1<=cnt k (nodeRecs y.rs).1):PastInv c ⟨Zch x.nodes r y,x.hub,x.link⟩:=by
 have hm:∀ q k,hasN x q k<=hasN ⟨Zch x.nodes r y,x.hub,x.link⟩ q k:=λ q k=>by
  unfold hasN;by_cases hq:q=r
  ·subst hq;simp only[Zdj];exact hy k
  ·simp only[Zcp hq];exact ZL _
 exact⟨h.told.more hm,h.hist,λ p hp hk k=>ZT (h.link p hp hk k) (hm _ k)⟩
theorem Ztc(d:Dk)(rs:List Frm)(f:Frm):ZaY d rs f=rs∨ZaY d rs f=rs++[f]:=by
 unfold ZaY;split
 ·exact .inl rfl
 ·split
  ·split
   ·exact .inr rfl
   ·exact .inl rfl
  ·exact .inr rfl
theorem Zs5{d:Dk}{rs:List Frm}{f:Frm}{k:Nat}(h:cnt k (nodeRecs rs).1<=cnt k (Zas (nodeRecs rs) f).1):cnt k (nodeRecs rs).1<=cnt k (nodeRecs (ZaY d rs f)).1:=by
 rcases Ztc d rs f with h1 | h1 <;> rw[h1]
 ·exact ZL _
 ·rw[Zcd];exact h
theorem Zth{st:List Ev × Nat}{f:Frm}(h3:f.kind≠4){k:Nat}:cnt k st.1<=cnt k (Zas st f).1:=by
 unfold Zas;split
 ·exact ZL _
 ·exact ZtA k _ _
theorem PastInv.ad(h:PastInv c x)(hw:WInv c B m b x)(hc:c.Ok){f:Frm}(hf:HubFrm c B f)(hk:f.kind=5->∀ k,f.clock.get k<=hasN x f.r k):PastInv c ⟨x.nodes,(Zr c x.hub f).1,x.link⟩:=by
 obtain⟨H,hH,hi,ba⟩:=hw.hub;by_cases hu:x.hub.s.up=true
 ·obtain⟨g1,g2,g3⟩:=hi.up hu;have bQ:=hi.inv;have h1:=h.told;obtain⟨hist,h2⟩:=h.hist;have aF:=hi.hub;rw[g3] at bQ h1 h2 aF;have hl:=bQ.len;have dn:=bQ.len2;have eE:=hf.r;have h5:=hc.n5;have hB:=ba hu;simp only at hl dn aF hB;have key:ToldInv c.n (repl c (Zfp c x.hub f)) (hasN x)/\∃ hist,HistInv (repl c (Zfp c x.hub f)) hist:=by
   unfold Zfp;rw[if_neg (by simp[hu])];have same:ToldInv c.n (repl c x.hub.rs) (hasN x)/\∃ hist,HistInv (repl c x.hub.rs) hist:=⟨h.told,h.hist⟩;split
   ·rename_i dk;split
    ·exact same
    ·split
     ·exact same
     ·rcases Ztc x.hub.s.d x.hub.rs (ZaC f) with h3 | h3 <;> rw[h3]
      ·exact same
      ·rw[ZlJ,g3];have e1:ZbO c.w (x.hub.s.sh,x.hub.s.told) (ZaC f)=((Z7 c.w f.r f.events x.hub.s.sh x.hub.s.told).2.2,x.hub.s.told):=by
        unfold ZbO ZaC;simp only[if_true]
       rw[e1];obtain⟨k1,n0,k2,k3⟩:=hf.evs dk;exact⟨h1.push (st:=(x.hub.s.sh,x.hub.s.told)) dn,h2.push (c:=c) (B:=B) (st:=(x.hub.s.sh,x.hub.s.told)) (λ i=>by rw[hB];exact aF i) (by simp only;omega) ZO (λ e he=>⟨k1 e he,(hf.ok.push dk).2 e he⟩) k2 (by simp only;rw[←aF f.r,←hB];exact k3)⟩
   ·split
    ·exact same
    ·rename_i dk hk3;have bR:f.kind=5:=by have:=hf.kind;omega
     split
     ·exact same
     ·rcases Ztc x.hub.s.d x.hub.rs (Zav f) with h3 | h3 <;> rw[h3]
      ·exact same
      ·rw[ZlJ,g3];have e1:ZbO c.w (x.hub.s.sh,x.hub.s.told) (Zav f)=(ZaE x.hub.s.sh (x.hub.s.told.set f.r ((x.hub.s.told.getD f.r ZCz).join f.clock)) x.hub.s.sh.length,x.hub.s.told.set f.r ((x.hub.s.told.getD f.r ZCz).join f.clock)):=by
        unfold ZbO Zav;simp only;rw[if_neg ZO,if_pos trivial]
       rw[e1];exact⟨h1.bO (st:=(x.hub.s.sh,x.hub.s.told)) dn eE (hk bR) rfl,hist,h2.bO _⟩
  exact⟨key.1,key.2,h.link⟩
 ·rw[Ztq (by simpa using hu)];exact⟨h.told,h.hist,h.link⟩
theorem PastInv.aA(h:PastInv c x){y:PH}(hy:y.rs=x.hub.rs):PastInv c ⟨x.nodes,y,x.link⟩:=⟨by simp only[hy];exact h.told,by simp only[hy];exact h.hist,h.link⟩
theorem PastInv.aU(h:PastInv c x){l:List (Nat × Frm)}(hl:∀ p∈l,p.2.kind=5->∀ k,p.2.clock.get k<=hasN x p.2.r k):PastInv c ⟨x.nodes,x.hub,l⟩:=⟨h.told,h.hist,hl⟩
theorem Zti(c:Cfg)(r:Nat)(y:PN)(f:Frm)(k:Nat):cnt k (nodeRecs y.rs).1<=cnt k (nodeRecs (Zbf c r y f).1.rs).1:=by
 unfold Zbf;split
 ·split
  ·unfold Zhu;simp only;split
   ·exact ZL _
   ·exact Zs5 (Zth (by simp[ZaD]))
  ·unfold Zhq;simp only;split
   ·exact ZL _
   ·exact Zs5 (Zth (by simp[ZaN]))
 ·exact ZL _
theorem ZtP(c:Cfg)(r:Nat)(y:PN)(kind label:Nat)(key value:ByteArray)(k:Nat):cnt k (nodeRecs y.rs).1<=cnt k (nodeRecs (Zep c r y kind key label value).1.rs).1:=by
 unfold Zep;simp only;split
 ·exact Zs5 (Zth (by simp[Zae]))
 ·exact ZL _
theorem ZtM(r:Nat)(y:PN)(k:Nat):cnt k (nodeRecs y.rs).1<=cnt k (nodeRecs (ZbS r y).1.rs).1:=by
 unfold ZbS;split <;> exact ZL _
theorem NodeInv.ak(h:NodeInv c r B b y)(k:Nat):cnt k (nodeRecs y.rs).1<=cnt k (nodeRecs (Zc7 r y).1.rs).1:=by
 unfold Zc7;simp only;split
 ·rename_i hu;refine Zs5 ?_;rw[(h.up hu).recs];exact ZL _
 ·exact ZL _
theorem NodeInv.af(h:NodeInv c r B b y){kind:Nat}{g:Frm}(hg:(Zbt c r y.s kind).1=some g):g.r=r/\∀ k,g.clock.get k<=cnt k (nodeRecs y.rs).1:=by
 have ht:∀ q,(Zdw q r y.s).1=some g->g.r=r/\∀ k,g.clock.get k<=cnt k (nodeRecs y.rs).1:=λ q hg=>by
  unfold Zdw at hg;split at hg
  ·rename_i hu;injection hg with hg;subst hg;refine⟨rfl,λ k=>?_⟩;rw[(h.up hu).recs];simp only[ZbU];rw[h.clk hu];exact ZL _
  ·cases hg
 unfold Zbt at hg;split at hg
 ·unfold Zgj at hg;split at hg
  ·split at hg
   ·cases hg
   ·injection hg with hg
    subst hg;exact⟨rfl,λ k=>by simp only[ZbM];rw[ZbW];exact Nat.zero_le _⟩
  ·cases hg
 ·split at hg
  ·exact ht _ hg
  ·exact ht _ hg
theorem PastInv.bD(h:PastInv c x)(hw:WInv c B m b x)(hc:c.Ok)(hm:m<=100){p:Nat × Frm}(hp:FlG c B p)(hk:p.2.kind=5->∀ k,p.2.clock.get k<=hasN x p.2.r k):PastInv c (Zb8 c x p.1 p.2).1:=by
 unfold Zb8;rcases hp with ⟨hn,hf⟩|⟨h5,hf⟩
 ·rw[if_pos hn];exact h.setNode λ k=>Zti c p.1 _ p.2 k
 ·rw[if_neg (by have:=hc.n5;omega)];obtain⟨B',k1,k2,k3,k4,k5⟩:=hw.aN hc hm hf;refine(h.ad hw hc hf hk).aU λ q hq=>?_
  rcases List.mem_append.1 hq with hq | hq
  ·exact h.link q hq
  ·split at hq
   ·rename_i y hy;simp at hq;subst hq;have:=(k5 _ _ hy).1.kind;intro bR;omega
   ·cases hq
theorem PastInv.step(h:PastInv c x)(hw:WInv c B m b x)(hc:c.Ok)(hm:m<=99){s:St}:PastInv c (Zab c x s).1:=by
 have h5:=hc.n5;unfold Zab;split
 ·unfold ZcH;split
  ·exact h
  ·split
   ·exact h
   ·rename_i p hp;have hg:=hw.link p (ZY hp);have aZ:PastInv c ⟨x.nodes,x.hub,Zd2 x s p⟩:=by
     refine h.aU λ q hq=>h.link q ?_
     unfold Zd2 at hq;split at hq
     ·exact hq
     ·exact List.mem_of_mem_eraseIdx hq
    split
    ·exact aZ
    ·split
     ·exact aZ
     ·exact aZ.bD (hw.pick s p) hc ZO hg (h.link p (ZY hp))
 ·split
  ·unfold ZbL;split
   ·split
    ·exact h.setNode λ k=>ZL _
    ·split
     ·exact h.setNode λ k=>ZtM _ _ k
     ·exact h.setNode λ k=>ZL _
   ·split
    ·split
     ·exact h.aA rfl
     ·split
      ·refine h.aA ?_;unfold ZbZ;split <;> rfl
      ·exact h.aA rfl
    ·exact h
  ·split
   ·exact h
   ·rename_i hr;have bh:s.r<c.n:=by simpa using hr
    split
    ·exact h.setNode λ k=>ZtP c s.r _ _ _ _ _ k
    ·split
     ·exact h.setNode λ k=>(hw.nodes _ bh).ak k
     ·unfold Zgn;split
      ·rename_i g hg;refine h.aU λ p hp=>?_
       rcases List.mem_append.1 hp with hp | hp
       ·exact h.link p hp
       ·simp at hp;subst hp;obtain⟨e1,e2⟩:=(hw.nodes _ bh).af hg;intro _ k;simp only;rw[e1];exact e2 k
      ·exact h
end
end
section
def sN(x:WS)(r:Nat):Nat:=(x.nodes r).s.sent
def clN(x:WS)(r k:Nat):Nat:=(x.nodes r).s.clk.get k
def lnN(x:WS)(k:Nat):Nat:=hubLen x.hub.s.sh k
def bsN(x:WS)(k:Nat):Nat:=(x.hub.s.sh.map (·.base)).getD k 0
def tdN(x:WS)(r k:Nat):Nat:=(x.hub.s.told.getD r ZCz).get k
structure NodeLive(y:PN):Prop where
 up:y.s.up=true
 cut:y.s.d.cut=false
 held:y.s.held=[]
structure Live(c:Cfg)(x:WS):Prop where
 hub:x.hub.s.up=true
 cut:x.hub.s.d.cut=false
 node:∀ r,r<c.n->NodeLive (x.nodes r)
structure RI(c:Cfg)(M:Nat->Nat)(m b:Nat)(x:WS):Prop where
 w:∃ B:Bd,B.made=M/\WInv c B m b x
 p:PastInv c x
 l:Live c x
structure Nums(c:Cfg)(M:Nat->Nat)(x:WS):Prop where
 own:∀ r,r<c.n->clN x r r=M r
 cl:∀ r,r<c.n->∀ k,k≠r->clN x r k<=lnN x k
 ln:∀ k,lnN x k<=M k
 s:∀ r,r<c.n->sN x r<=lnN x r
 bs:∀ k,bsN x k<=lnN x k
 td:∀ r,r<c.n->∀ k,tdN x r k<=clN x r k
 base:∀ r,r<c.n->∀ k,bsN x k<=tdN x r k
 shl:x.hub.s.sh.length=c.n
 tdl:x.hub.s.told.length=c.n
section
variable {c:Cfg}{M:Nat->Nat}{m b r:Nat}{x:WS}{B:Bd}
theorem Zs7{k:Nat}{s:Sh}(h:x.hub.s.sh[k]? = some s):bsN x k=s.base:=by
 unfold bsN;rw[List.getD_eq_getElem?_getD,List.getElem?_map,h];rfl
theorem Ztf{k:Nat}(h:x.hub.s.sh[k]? = none):bsN x k=0:=by
 unfold bsN;rw[List.getD_eq_getElem?_getD,List.getElem?_map,h];rfl
theorem RI.aa(h:RI c M m b x):Nums c M x:=by
 obtain⟨B,rfl,hw⟩:=h.w;obtain⟨H,hH,hi,ba⟩:=hw.hub;obtain⟨g1,g2,g3⟩:=hi.up h.l.hub;have hB:=ba h.l.hub;have ht:=h.p.told;have bN:=hi.inv;rw[g3] at ht bN;have bS:∀ k,lnN x k=B.hub k:=λ k=>by
  have:=hi.hub k;rw[g3] at this;rw[hB];exact this.symm
 have b5:∀ r,r<c.n->∀ k,clN x r k=cnt k (x.nodes r).s.log:=λ r hr k=>(hw.nodes r hr).clk (h.l.node r hr).up k
 have dj:∀ r,r<c.n->∀ k,hasN x r k=clN x r k:=λ r hr k=>by
  rw[b5 r hr];unfold hasN;rw[((hw.nodes r hr).up (h.l.node r hr).up).recs]
 refine⟨λ r hr=>?_,λ r hr k hk=>?_,λ k=>?_,λ r hr=>?_,λ k=>?_,λ r hr k=>?_,λ r hr k=>?_,bN.len,bN.len2⟩
 ·rw[b5 r hr,hw.own r hr,(hw.nodes r hr).ar (h.l.node r hr).up]
 ·rw[b5 r hr,bS];exact((hw.nodes r hr).log (h.l.node r hr).up).bo hk
 ·rw[bS,hB];exact hi.an k
 ·rw[bS];exact((hw.nodes r hr).log (h.l.node r hr).up).sentH
 ·cases hs:x.hub.s.sh[k]? with
  | none=>rw[Ztf hs];exact Nat.zero_le _
  | some s =>
   rw[Zs7 hs];unfold lnN;rw[Zg1 hs];exact Nat.le_add_right _ _
 ·rw[←dj r hr];exact ht.told r hr k
 ·cases hs:x.hub.s.sh[k]? with
  | none=>rw[Ztf hs];exact Nat.zero_le _
  | some s=>rw[Zs7 hs];exact ht.base k s hs r hr
theorem Zs9{d:Dk}(h1:d.down=false)(h2:d.cut=false)(b:List Nat):d.write b=(⟨d.bytes++b,false,false,d.keep⟩,0):=by
 unfold Dk.write;simp[h1,h2]
theorem Ztr{y:PH}{f:Frm}(hu:y.s.up=true)(hk:f.kind=3):Zr c y f=(y,some (f.r,Zbe f.r (Zak y.s.sh f.r f.clock y.s.sh.length)),0):=by
 have n1:(y.s.up=false)=False:=by simp[hu]
 have n2:(f.kind=1)=False:=by simp[hk]
 have n3:(f.kind=3)=True:=by simp[hk]
 simp only[Zr,Zax,Zfp,n1,n2,n3,if_false,if_true]
theorem Ztx{y:PH}{f:Frm}(hu:y.s.up=true)(hd:y.s.d.down=false)(hc:y.s.d.cut=false)(hk:f.kind=5):
  (Zr c y f).1.s.up=true/\(Zr c y f).1.s.d.cut=false/\(Zr c y f).1.s.sh=ZaE y.s.sh (Z9 y.s.told f) y.s.sh.length/\(Zr c y f).1.s.told=Z9 y.s.told f/\(Zr c y f).2.1=none:=by
 have n1:(y.s.up=false)=False:=by simp[hu]
 have n2:(f.kind=1)=False:=by simp[hk]
 have n3:(f.kind=3)=False:=by simp[hk]
 simp only[Zr,Zax,n1,n2,n3,if_false,Zs9 hd hc,if_true];split
 ·exact⟨rfl,hc,rfl,rfl,rfl⟩
 ·exact⟨rfl,rfl,rfl,rfl,rfl⟩
theorem Ztv{y:PH}{f:Frm}(hu:y.s.up=true)(hd:y.s.d.down=false)(hc:y.s.d.cut=false)(hk:f.kind=1):
  (Zr c y f).1.s.up=true/\(Zr c y f).1.s.d.cut=false/\(Zr c y f).1.s.sh=(Z7 c.w f.r f.events y.s.sh y.s.told).2.2/\(Zr c y f).1.s.told=y.s.told /\
   (Zr c y f).2.1=if (Z7 c.w f.r f.events y.s.sh y.s.told).2.1=0 then some (f.r,ZaL f.r (Z7 c.w f.r f.events y.s.sh y.s.told).1) else none:=by
 have n1:(y.s.up=false)=False:=by simp[hu]
 have n2:(f.kind=1)=True:=by simp[hk]
 simp only[Zr,Zax,n1,n2,if_false,if_true,Zs9 hd hc];by_cases h1:(Z7 c.w f.r f.events y.s.sh y.s.told).2.1=0
 ·rw[if_pos h1,if_neg (show ¬ (Z7 c.w f.r f.events y.s.sh y.s.told).2.1≠0 by simp[h1])];split
  ·exact⟨rfl,hc,rfl,rfl,rfl⟩
  ·exact⟨rfl,rfl,rfl,rfl,rfl⟩
 ·rw[if_neg h1,if_pos h1];exact⟨rfl,hc,rfl,rfl,rfl⟩
theorem Zs6{s:NodeSt}(hu:s.up=true)(hd:s.d.down=false)(hc:s.d.cut=false)(f:Frm):(ZS s f).2=0/\(ZS s f).1.up=true/\(ZS s f).1.d.cut=false:=by
 unfold ZS;rw[Zs9 hd hc];simp only[if_true];exact⟨trivial,hu,trivial⟩
theorem Ztl{y:PN}(hl:NodeLive y)(hd:y.s.d.down=false){f:Frm}(hk:f.kind=2):
  NodeLive (Zbf c r y f).1/\(Zbf c r y f).1.s.log=y.s.log/\(Zbf c r y f).1.s.clk=y.s.clk/\(Zbf c r y f).1.s.sent=max y.s.sent (min f.upto (y.s.clk.get r)):=by
 unfold Zbf Zhu Zc9;rw[if_pos hl.up,if_pos hk];simp only;by_cases hp:ZaU r y.s f.upto=y.s.sent
 ·rw[if_pos hp];exact⟨⟨hl.up,hl.cut,hl.held⟩,rfl,rfl,hp.symm⟩
 ·rw[if_neg hp];obtain⟨h1,h2,h3⟩:=Zs6 hl.up hd hl.cut (ZaD r (ZaU r y.s f.upto));obtain⟨k1,k2,k3,k4,k5,k6⟩:=ZcF y.s (ZaD r (ZaU r y.s f.upto));rw[if_pos h1];exact⟨⟨h2,h3,by simp only;rw[k5];exact hl.held⟩,k1,k4,rfl⟩
theorem Ztk{y:PN}(hl:NodeLive y)(hd:y.s.d.down=false){f:Frm}(hk:f.kind=4)(br:Zdg y.s.clk f.events=[]):
  NodeLive (Zbf c r y f).1/\(∃ l,(Zbf c r y f).1.s.log=y.s.log++l)/\(Zbf c r y f).1.s.clk=(drained y.s.clk f.events).2.2/\(Zbf c r y f).1.s.sent=y.s.sent:=by
 unfold Zbf Zhq Zc8;rw[if_pos hl.up,if_neg ZO,hl.held,List.nil_append,br];simp only[List.length_nil];rw[if_neg ZO];have e1:(ZcM y.s f.events).up=true:=hl.up;have e2:(ZcM y.s f.events).d.down=false:=hd;have e3:(ZcM y.s f.events).d.cut=false:=hl.cut;have e4:(ZcM y.s f.events).held=[]:=by unfold ZcM;simp only;rw[hl.held,List.nil_append];exact br
 have e5:(ZcM y.s f.events).clk=(drained y.s.clk f.events).2.2:=by unfold ZcM;simp only;rw[hl.held,List.nil_append]
 by_cases hz:(drained y.s.clk f.events).1=[]
 ·rw[if_pos hz];exact⟨⟨e1,e3,e4⟩,⟨[],by simp[ZcM]⟩,e5,rfl⟩
 ·rw[if_neg hz];obtain⟨h1,h2,h3⟩:=Zs6 e1 e2 e3 (ZaN r (drained y.s.clk f.events).1);obtain⟨k1,k2,k3,k4,k5,k6⟩:=ZcF (ZcM y.s f.events) (ZaN r (drained y.s.clk f.events).1);rw[if_pos h1];refine⟨⟨h2,h3,?_⟩,⟨(drained y.s.clk f.events).1,?_⟩,?_,?_⟩
  ·unfold ZcR;simp only;rw[k5,e4]
  ·unfold ZcR;simp only;rw[k1];rfl
  ·unfold ZcR;simp only;rw[k4,e5]
  ·unfold ZcR;simp only;rw[k2];rfl
theorem From1.apart:∀ {l:List Ev} {n:Nat},From1 n l->Apart2 l
 | [],_,_=>List.Pairwise.nil
 | e::l,n,h=>Zs2.2 ⟨λ y hy=>by
   have h1:=h.tail.mem hy;have h2:e.n=n:=h 0 e rfl
   omega,From1.apart h.tail⟩
theorem Ztd{sh:List Sh}{r:Nat}{k:Clk}(h:∀ (i:Nat) (s:Sh),sh[i]? = some s->(∀ e∈s.kept,e.r=i)/\From1 (s.base+1) s.kept):∀ n,Apart2 (Zak sh r k n)
 | 0=>List.Pairwise.nil
 | n+1=>by
  unfold Zak;refine List.pairwise_append.2 ⟨Ztd h n,?_,λ a ha b hb=>?_⟩
  ·split
   ·rename_i s hs;split
    ·exact List.Pairwise.nil
    ·exact(h n s hs).2.apart.filter _
   ·exact List.Pairwise.nil
  ·obtain⟨i,s,h1,h2,h3,h4,h5⟩:=ZiL.1 ha;have hai:=(h i s h3).1 a h4;split at hb
   ·rename_i z hz;split at hb
    ·cases hb
    ·have hbn:=(h n z hz).1 b (List.mem_filter.1 hb).1;omega
   ·cases hb
theorem ZtH{l:List Ev}(h:From1 1 l){e:Ev}(he:e∈l){k:Nat}(hk:k<e.n):e∈l.drop k:=by
 obtain⟨j,hj,rfl⟩:=List.getElem_of_mem he;have h1:=h j _ (ZX hj);refine ZY (i:=j-k) ?_;rw[List.getElem?_drop,show k+(j-k)=j by omega];exact ZX hj
theorem RI.ap(h:RI c M m b x)(hr:r<c.n):Zdg (x.nodes r).s.clk (Zak x.hub.s.sh r (x.nodes r).s.clk x.hub.s.sh.length)=[] /\
  (drained (x.nodes r).s.clk (Zak x.hub.s.sh r (x.nodes r).s.clk x.hub.s.sh.length)).2.2.get r=clN x r r/\∀ k,k≠r->(drained (x.nodes r).s.clk (Zak x.hub.s.sh r (x.nodes r).s.clk x.hub.s.sh.length)).2.2.get k=lnN x k:=by
 have hn:=h.aa;obtain⟨B,_,hw⟩:=h.w;obtain⟨H,hH,hi,ba⟩:=hw.hub;obtain⟨g1,g2,g3⟩:=hi.up h.l.hub;obtain⟨hist,hh⟩:=h.p.hist;have bN:=hi.inv;rw[g3] at hh bN;obtain⟨d,hd⟩:=hh.chain;have hlen:∀ k,cnt k hist=lnN x k:=hh.len;have:=ZtF (r:=r) hd (c:=(x.nodes r).s.clk) (l:=Zak x.hub.s.sh r (x.nodes r).s.clk x.hub.s.sh.length) (Ztd (λ i s hs=>⟨λ e he=>((bN.sh i s hs).all e he).2,(bN.sh i s hs).row⟩) _) (λ e=>?_) (by rw[hlen];exact ZT (hn.ln r) (Nat.le_of_eq (hn.own r hr).symm)) (λ k hk=>by rw[hlen];exact hn.cl r hr k hk)
 ·exact⟨this.1,this.2.1,λ k hk=>(this.2.2 k hk).trans (hlen k)⟩
 ·rw[ZiL];constructor
  ·rintro⟨i,s,h1,h2,h3,h4,h5⟩;have he:=h4;rw[hh.kept i s h3] at he;obtain⟨k1,k2⟩:=Zjl.1 (List.mem_of_mem_drop he);exact⟨k1,by rw[k2];exact h2,by rw[k2];exact h5⟩
  ·rintro⟨h1,h2,h3⟩;have hm:e∈byR e.r hist:=Zjl.2 ⟨h1,rfl⟩;have bf:0<cnt e.r hist:=by unfold cnt;exact List.length_pos_of_mem hm
   have aX:e.r<x.hub.s.sh.length:=by
    rcases Nat.lt_or_ge e.r x.hub.s.sh.length with h | h
    ·exact h
    ·rw[hlen] at bf;unfold lnN hubLen lensOf at bf;rw[List.getD_eq_getElem?_getD,List.getElem?_eq_none (by simpa using h)] at bf;simp at bf
   refine⟨e.r,_,aX,h2,ZX aX,?_,h3⟩;have hs:=ZX aX;rw[hh.kept _ _ hs];refine ZtH (Zs3 hd e.r) hm ?_;have h4:=hn.base r hr e.r;rw[Zs7 hs] at h4;have h5:=hn.td r hr e.r;unfold clN at h5;omega
end
end
section
structure Adv(c:Cfg)(x x':WS):Prop where
 s:∀ r,r<c.n->sN x r<=sN x' r
 cl:∀ r,r<c.n->∀ k,clN x r k<=clN x' r k
 ln:∀ k,lnN x k<=lnN x' k
 bs:∀ k,bsN x k<=bsN x' k
 td:∀ r,r<c.n->∀ k,tdN x r k<=tdN x' r k
 log:∀ r,r<c.n->∃ l,(x'.nodes r).s.log=(x.nodes r).s.log++l
theorem Adv.refl(c:Cfg)(x:WS):Adv c x x:=⟨λ _ _=>ZL _,λ _ _ _=>ZL _,λ _=>ZL _,λ _=>ZL _,λ _ _ _=>ZL _,λ _ _=>⟨[],ZM⟩⟩
theorem Adv.trans{c:Cfg}{x y z:WS}(h:Adv c x y)(g:Adv c y z):Adv c x z :=
 ⟨λ r hr=>ZT (h.s r hr) (g.s r hr),λ r hr k=>ZT (h.cl r hr k) (g.cl r hr k),λ k=>ZT (h.ln k) (g.ln k),λ k=>ZT (h.bs k) (g.bs k),λ r hr k=>ZT (h.td r hr k) (g.td r hr k),λ r hr=>by
  obtain⟨l,h1⟩:=h.log r hr;obtain⟨l',h2⟩:=g.log r hr
  exact⟨l++l',by rw[h2,h1,List.append_assoc]⟩⟩
theorem ZtK{w r sent:Nat}{l:List Ev}{sh:List Sh}{told:List Clk}{z:Sh}(hz:sh[r]? = some z)(hf:From1 (sent+1) l)(hs:sent<=shLen z):
  ((Z7 w r l sh told).2.1=0->(Z7 w r l sh told).1=max (shLen z) (sent+l.length)/\∃ z',(Z7 w r l sh told).2.2=sh.set r z'/\shLen z'=max (shLen z) (sent+l.length)/\z.base<=z'.base) /\
  ((Z7 w r l sh told).2.1≠0->(Z7 w r l sh told).2.2=sh)/\(z.kept.length+l.length<=w->(Z7 w r l sh told).2.1=0):=by
 obtain⟨new,aG⟩:∃ new,new=l.filter λ e=>decide (z.base+z.kept.length<e.n):=⟨_,rfl⟩
 have cr:new=l.drop (z.base+z.kept.length+1-(sent+1)):=by rw[aG];exact Zf8 hf _
 have hnl:new.length=l.length-(z.base+z.kept.length-sent):=by rw[cr,List.length_drop];omega
 have aC:∀ y:Sh,shLen (cutSh told r y)=shLen y/\y.base<=(cutSh told r y).base:=λ y=>⟨(Ze8 told r y).1,Nat.le_max_left _ _⟩
 have dx:shLen z=z.base+z.kept.length:=rfl;unfold Z7;rw[hz];simp only;have bU:Z1 w z.base z.kept l=if new.length=0 then(0,z.kept) else if w<z.kept.length+new.length then(21,z.kept) else(0,z.kept++new):=by
  unfold Z1;rw[aG]
 rw[bU];by_cases h0:new.length=0
 ·rw[if_pos h0];simp only[if_true];obtain⟨h1,h2⟩:=aC ⟨z.base,z.kept⟩;have hm:max (shLen z) (sent+l.length)=shLen z:=Nat.max_eq_left ZO;refine⟨λ _=>⟨by rw[hm];exact h1,_,rfl,by rw[hm];exact h1,h2⟩,λ h=>absurd rfl h,λ _=>trivial⟩
 ·rw[if_neg h0];by_cases h1:w<z.kept.length+new.length
  ·rw[if_pos h1];simp only;rw[if_neg ZO];refine⟨λ h=>?_,λ _=>rfl,λ h=>ZO⟩;simp only at h
   cases h
  ·rw[if_neg h1];simp only[if_true];obtain⟨h2,h3⟩:=aC ⟨z.base,z.kept++new⟩;have hm:shLen ⟨z.base,z.kept++new⟩=max (shLen z) (sent+l.length):=by
    unfold shLen;simp only[ZI];unfold shLen at hs;omega
   exact⟨λ _=>⟨by rw[←hm];exact h2,_,rfl,by rw[←hm];exact h2,h3⟩,λ h=>absurd rfl h,λ _=>trivial⟩
theorem ZtQ{l s d w g M:Nat}(h1:l<=M)(h2:M=s+d)(h3:g=min w d):max l (s+g)<=M:=ZO
theorem ZtJ{l s d w g M:Nat}(h1:s<M)(h2:M=s+d)(h3:g=min w d)(h4:1<=w):s<max l (s+g):=ZO
section
variable {c:Cfg}{M:Nat->Nat}{m b r:Nat}{x:WS}
theorem ZtL(x:WS)(r q:Nat)(y:PN)(h:PH)(l:List (Nat × Frm)):sN ⟨Zch x.nodes r y,h,l⟩ q=if q=r then y.s.sent else sN x q:=by
 unfold sN Zch;simp only;split <;> rfl
theorem Ztz(x:WS)(r q k:Nat)(y:PN)(h:PH)(l:List (Nat × Frm)):clN ⟨Zch x.nodes r y,h,l⟩ q k=if q=r then y.s.clk.get k else clN x q k:=by
 unfold clN Zch;simp only;split <;> rfl
theorem Live.setNode(h:Live c x){y:PN}(hy:NodeLive y){ph:PH}(h1:ph.s.up=true)(h2:ph.s.d.cut=false){l:List (Nat × Frm)}:Live c ⟨Zch x.nodes r y,ph,l⟩:=by
 refine⟨h1,h2,λ q hq=>?_⟩;simp only;by_cases e:q=r
 ·subst e;rw[Zdj];exact hy
 ·rw[Zcp e];exact h.node q hq
structure Told1(c:Cfg)(M:Nat->Nat)(x x':WS)(r:Nat):Prop where
 adv:Adv c x x'
 ln:∀ k,k≠r->lnN x' k=lnN x k
 bs:∀ k,k≠r->bsN x' k=bsN x k
 s:∀ q,q≠r->sN x' q=sN x q
 cl:∀ q k,clN x' q k=clN x q k
 td:∀ q k,tdN x' q k=tdN x q k
 go:sN x r<M r->bsN x r=lnN x r->sN x r<sN x' r
 got:lnN x' r≠lnN x r->sN x' r=lnN x' r
theorem Told1.no(h:sN x r=M r):Told1 c M x x r:=⟨Adv.refl c x,λ _ _=>rfl,λ _ _=>rfl,λ _ _=>rfl,λ _ _=>rfl,λ _ _=>rfl,λ h1=>ZO,λ h1=>absurd rfl h1⟩
theorem RI.push(h:RI c M m b x)(hc:c.Ok)(hm:m<=100)(hb:b<=700)(hr:r<c.n):RI c M m b (Zai c r x 1)/\Told1 c M x (Zai c r x 1) r:=by
 have hn:=h.aa;obtain⟨B,rfl,hw⟩:=h.w;have hy:=h.l.node r hr;have bb:=hw.nodes r hr;have ba:=bb.up hy.up;have cz:=bb.log hy.up;obtain⟨B',_,be,ay⟩:=hw.tell hc hm hb hr 1;have eX:(x.nodes r).s.wait=(byR r (x.nodes r).s.log).drop (x.nodes r).s.sent:=by rw[ba.wait];exact cz.wait
 have dx:=hn.s r hr;have eS:sN x r<=B.made r:=ZT dx (hn.ln r);obtain⟨d,dg⟩:∃ d,B.made r=sN x r+d:=⟨_,(Nat.add_sub_cancel' eS).symm⟩;have eW:(x.nodes r).s.wait.length=d:=by
  have h1:=bb.aJ hy.up;rw[←bb.clk hy.up] at h1;have h2:=hn.own r hr;unfold clN at h2;rw[h2,dg] at h1;rw[h1];exact Nat.add_sub_cancel_left _ _
 have ab:(Zbt c r (x.nodes r).s 1).1=if (x.nodes r).s.wait.length=0 then none else some (ZbM r ((x.nodes r).s.wait.take c.w)):=by
  unfold Zbt Zgj;rw[if_pos rfl,if_pos hy.up];split <;> rfl
 by_cases hz:(x.nodes r).s.wait.length=0
 ·have e:Zai c r x 1=x:=by
   unfold Zai;rw[ab,if_pos hz]
  rw[e];exact⟨h,Told1.no (by have:=hn.s r hr;have:=hn.ln r;omega)⟩
 ·rw[if_neg hz] at ab;obtain⟨g,hg⟩:∃ g,g=ZbM r ((x.nodes r).s.wait.take c.w):=⟨_,rfl⟩;rw[←hg] at ab;have d6:g.events=(x.nodes r).s.wait.take c.w:=by rw[hg];rfl
  have cR:g.r=r:=by rw[hg];rfl
  have eH:From1 (sN x r+1) g.events:=by
   rw[d6,eX];have:=((cz.row r).drop (x.nodes r).s.sent).take c.w;rwa [Nat.add_comm] at this
  have d7:g.events.length=min c.w d:=by rw[d6,ZV,eW]
  obtain⟨z,bv⟩:∃ z,x.hub.s.sh[r]? = some z:=⟨_,ZX (by rw[hn.shl];exact hr)⟩;have cS:lnN x r=shLen z:=Zg1 bv;have dS:=Zs7 (x:=x) bv;have eV:=hc.w1;obtain⟨H,hH,hi,_⟩:=hw.hub;have hd:=(hi.up h.l.hub).1;obtain⟨p1,p2,p3,p4,p5⟩:=Ztv (c:=c) h.l.hub hd h.l.cut (show g.kind=1 by rw[hg];rfl);rw[cR] at p3 p5;obtain⟨q1,q2,q3⟩:=ZtK (w:=c.w) (told:=x.hub.s.told) bv eH (by rw[←cS];exact dx);have hp:PastInv c ⟨x.nodes,(Zr c x.hub g).1,x.link⟩:=by
   refine h.p.ad hw hc ((bb.tell hr hc (ZT hw.sum hm) ab).1) λ hk=>?_
   rw[hg] at hk
   cases hk
  have e:Zai c r x 1=Zcf c x (Zr c x.hub g):=by unfold Zai;rw[ab]
  rw[e] at ay ⊢;by_cases ae:(Z7 c.w r g.events x.hub.s.sh x.hub.s.told).2.1=0
  ·rw[if_pos ae] at p5;obtain⟨k1,z',k2,k3,k4⟩:=q1 ae;obtain⟨f,hf⟩:∃ f,f=ZaL r (Z7 c.w r g.events x.hub.s.sh x.hub.s.told).1:=⟨_,rfl⟩;rw[←hf] at p5;have e1:Zcf c x (Zr c x.hub g)=⟨Zch x.nodes r (Zbf c r (x.nodes r) f).1,(Zr c x.hub g).1,x.link⟩:=by unfold Zcf;rw[p5]
   rw[e1] at ay ⊢;obtain⟨t1,t2,t3,t4⟩:=Ztl (r:=r) hy ba.down (f:=f) (by rw[hf];rfl);have eF:f.upto=max (lnN x r) (sN x r+g.events.length):=by rw[hf,cS];exact k1
   have hmax:max (lnN x r) (sN x r+g.events.length)<=B.made r:=ZtQ (hn.ln r) dg d7;have dd:(x.nodes r).s.clk.get r=B.made r:=hn.own r hr;have cG:(Zbf c r (x.nodes r) f).1.s.sent=max (lnN x r) (sN x r+g.events.length):=by
    rw[t4,eF,dd];have:(x.nodes r).s.sent=sN x r:=rfl;omega
   obtain⟨x',ax⟩:∃ x':WS,x'=⟨Zch x.nodes r (Zbf c r (x.nodes r) f).1,(Zr c x.hub g).1,x.link⟩:=⟨_,rfl⟩;have hS:∀ q,sN x' q=if q=r then max (lnN x r) (sN x r+g.events.length) else sN x q:=λ q=>by rw[ax,ZtL,cG]
   have hC:∀ q k,clN x' q k=clN x q k:=λ q k=>by
    rw[ax,Ztz];split
    ·rename_i hq;rw[t3,hq];rfl
    ·rfl
   have bu:x'.hub.s.sh=x.hub.s.sh.set r z':=by rw[ax];simp only;rw[p3];exact k2
   have bw:x'.hub.s.told=x.hub.s.told:=by rw[ax];exact p4
   have em:r<x.hub.s.sh.length:=by rw[hn.shl];exact hr
   have hL:∀ k,lnN x' k=if k=r then max (lnN x r) (sN x r+g.events.length) else lnN x k:=λ k=>by
    unfold lnN;rw[bu,ZnE em,k3];have:shLen z=hubLen x.hub.s.sh r:=cS.symm;rw[this]
   have bp:∀ k,bsN x' k=if k=r then z'.base else bsN x k:=λ k=>by
    unfold bsN;rw[bu,List.map_set,List.getD_eq_getElem?_getD,List.getD_eq_getElem?_getD];split
    ·rename_i hk;rw[hk,List.getElem?_set_self (by simpa using em)];rfl
    ·rename_i hk;rw[List.getElem?_set_ne (λ h=>hk h.symm)]
   have hT:∀ q k,tdN x' q k=tdN x q k:=λ q k=>by unfold tdN;rw[bw]
   rw[←ax] at ay ⊢;refine⟨⟨⟨B',be,ay⟩,?_,?_⟩,⟨⟨λ q _=>?_,λ q _ k=>by rw[hC];exact ZL _,λ k=>?_,λ k=>?_,λ q _ k=>by rw[hT];exact ZL _,λ q hq=>?_⟩,λ k hk=>by rw[hL,if_neg hk],λ k hk=>by rw[bp,if_neg hk],λ q hq=>by rw[hS,if_neg hq],hC,hT,λ h1 _=>?_,λ _=>?_⟩⟩
   ·rw[ax];exact hp.setNode λ k=>Zti c r _ f k
   ·rw[ax];exact h.l.setNode t1 p1 p2
   ·rw[hS];split
    ·rename_i hq;rw[hq];omega
    ·exact ZL _
   ·rw[hL];split
    ·rename_i hq;rw[hq];omega
    ·exact ZL _
   ·rw[bp];split
    ·rename_i hq;rw[hq,dS];exact k4
    ·exact ZL _
   ·rw[ax];simp only;by_cases bg:q=r
    ·subst bg;rw[Zdj,t2];exact⟨[],ZM⟩
    ·rw[Zcp bg];exact⟨[],ZM⟩
   ·rw[hS,if_pos rfl];exact ZtJ h1 dg d7 eV
   ·rw[hS,hL,if_pos rfl,if_pos rfl]
  ·rw[if_neg ae] at p5;have e1:Zcf c x (Zr c x.hub g)=⟨x.nodes,(Zr c x.hub g).1,x.link⟩:=by unfold Zcf;rw[p5]
   rw[e1] at ay ⊢;have bu:(Zr c x.hub g).1.s.sh=x.hub.s.sh:=by rw[p3];exact q2 ae
   have hL:∀ k,lnN ⟨x.nodes,(Zr c x.hub g).1,x.link⟩ k=lnN x k:=λ k=>by unfold lnN;rw[bu]
   have bp:∀ k,bsN ⟨x.nodes,(Zr c x.hub g).1,x.link⟩ k=bsN x k:=λ k=>by unfold bsN;rw[bu]
   have hT:∀ q k,tdN ⟨x.nodes,(Zr c x.hub g).1,x.link⟩ q k=tdN x q k:=λ q k=>by unfold tdN;rw[p4]
   refine⟨⟨⟨B',be,ay⟩,hp,⟨p1,p2,h.l.node⟩⟩,⟨⟨λ q _=>ZL _,λ q _ k=>ZL _,λ k=>by rw[hL];exact ZL _,λ k=>by rw[bp];exact ZL _,λ q _ k=>by rw[hT];exact ZL _,λ q _=>⟨[],ZM⟩⟩,λ k _=>hL k,λ k _=>bp k,λ q _=>rfl,λ _ _=>rfl,hT,λ h1 h2=>?_,λ h1=>absurd (hL r) h1⟩⟩;refine absurd (q3 ?_) ae;rw[dS,cS] at h2;unfold shLen at h2;omega
structure Told2(c:Cfg)(x x':WS)(r:Nat):Prop where
 adv:Adv c x x'
 ln:∀ k,lnN x' k=lnN x k
 bs:∀ k,bsN x' k=bsN x k
 s:∀ q,sN x' q=sN x q
 td:∀ q k,tdN x' q k=tdN x q k
 cl:∀ k,k≠r->clN x' r k=lnN x k
theorem RI.bJ(h:RI c M m b x)(hc:c.Ok)(hm:m<=100)(hb:b<=700)(hr:r<c.n):RI c M m b (Zai c r x 2)/\Told2 c x (Zai c r x 2) r:=by
 have hn:=h.aa;obtain⟨f1,f2,f3⟩:=h.ap hr;obtain⟨B,rfl,hw⟩:=h.w;have hy:=h.l.node r hr;have bb:=hw.nodes r hr;have ba:=bb.up hy.up;obtain⟨B',_,be,ay⟩:=hw.tell hc hm hb hr 2;have ab:(Zbt c r (x.nodes r).s 2).1=some (ZbU 3 r (x.nodes r).s.clk):=by
  unfold Zbt Zdw;rw[if_neg ZO,if_pos rfl,if_pos hy.up]
 obtain⟨f,hf⟩:∃ f,f=Zbe r (Zak x.hub.s.sh r (x.nodes r).s.clk x.hub.s.sh.length):=⟨_,rfl⟩;have e:Zai c r x 2=⟨Zch x.nodes r (Zbf c r (x.nodes r) f).1,x.hub,x.link⟩:=by
  unfold Zai;rw[ab];simp only;rw[Ztr h.l.hub rfl,hf];rfl
 have dZ:f.events=Zak x.hub.s.sh r (x.nodes r).s.clk x.hub.s.sh.length:=by rw[hf];rfl
 obtain⟨t1,t2,t3,t4⟩:=Ztk (c:=c) (r:=r) hy ba.down (f:=f) (by rw[hf];rfl) (by rw[dZ];exact f1);rw[dZ] at t3;rw[e] at ay ⊢;have hC:∀ q k,clN ⟨Zch x.nodes r (Zbf c r (x.nodes r) f).1,x.hub,x.link⟩ q k=if q=r then(if k=r then clN x r r else lnN x k) else clN x q k:=λ q k=>by
  rw[Ztz];split
  ·rw[t3];split
   ·rename_i hk;rw[hk];exact f2
   ·rename_i hk;exact f3 k hk
  ·rfl
 have hS:∀ q,sN ⟨Zch x.nodes r (Zbf c r (x.nodes r) f).1,x.hub,x.link⟩ q=sN x q:=λ q=>by
  rw[ZtL];split
  ·rename_i hq;rw[t4,hq];rfl
  ·rfl
 refine⟨⟨⟨B',be,ay⟩,h.p.setNode λ k=>Zti c r _ f k,h.l.setNode t1 h.l.hub h.l.cut⟩,⟨⟨λ q _=>by rw[hS];exact ZL _,λ q hq k=>?_,λ k=>ZL _,λ k=>ZL _,λ q _ k=>ZL _,λ q hq=>?_⟩,λ _=>rfl,λ _=>rfl,hS,λ _ _=>rfl,λ k hk=>by rw[hC,if_pos rfl,if_neg hk]⟩⟩
 ·rw[hC];split
  ·rename_i bg;subst bg;split
   ·rename_i hk;rw[hk];exact ZL _
   ·rename_i hk;exact hn.cl q hq k hk
  ·exact ZL _
 ·simp only;by_cases bg:q=r
  ·subst bg;rw[Zdj];exact t2
  ·rw[Zcp bg];exact⟨[],ZM⟩
structure Told3(c:Cfg)(x x':WS)(r:Nat):Prop where
 adv:Adv c x x'
 ln:∀ k,lnN x' k=lnN x k
 s:∀ q,sN x' q=sN x q
 cl:∀ q k,clN x' q k=clN x q k
 td:∀ k,clN x r k<=tdN x' r k
 bs:∀ k v,k<c.n->(∀ q,q<c.n->v<=tdN x' q k)->v<=lnN x k->v<=bsN x' k
theorem RI.bO(h:RI c M m b x)(hc:c.Ok)(hm:m<=100)(hb:b<=700)(hr:r<c.n):RI c M m b (Zai c r x 3)/\Told3 c x (Zai c r x 3) r:=by
 have hn:=h.aa;obtain⟨B,rfl,hw⟩:=h.w;have hy:=h.l.node r hr;have bb:=hw.nodes r hr;have ba:=bb.up hy.up;obtain⟨B',_,be,ay⟩:=hw.tell hc hm hb hr 3;have ab:(Zbt c r (x.nodes r).s 3).1=some (ZbU 5 r (x.nodes r).s.clk):=by
  unfold Zbt Zdw;rw[if_neg ZO,if_neg ZO,if_pos hy.up]
 obtain⟨g,hg⟩:∃ g,g=ZbU 5 r (x.nodes r).s.clk:=⟨_,rfl⟩;rw[←hg] at ab;obtain⟨H,hH,hi,_⟩:=hw.hub;have hd:=(hi.up h.l.hub).1;obtain⟨p1,p2,p3,p4,p5⟩:=Ztx (c:=c) h.l.hub hd h.l.cut (show g.kind=5 by rw[hg];rfl);have e:Zai c r x 3=⟨x.nodes,(Zr c x.hub g).1,x.link⟩:=by
  unfold Zai;rw[ab];simp only;unfold Zcf;rw[p5]
 have cR:g.r=r:=by rw[hg];rfl
 have hp:PastInv c ⟨x.nodes,(Zr c x.hub g).1,x.link⟩:=by
  refine h.p.ad hw hc ((bb.tell hr hc (ZT hw.sum hm) ab).1) λ _ k=>?_
  have:=(bb.af ab).2 k;rw[cR];exact this
 rw[e] at ay ⊢;obtain⟨x',ax⟩:∃ x':WS,x'=⟨x.nodes,(Zr c x.hub g).1,x.link⟩:=⟨_,rfl⟩;have bu:x'.hub.s.sh=ZaE x.hub.s.sh (Z9 x.hub.s.told g) x.hub.s.sh.length:=by rw[ax];exact p3
 have bw:x'.hub.s.told=Z9 x.hub.s.told g:=by rw[ax];exact p4
 have hL:∀ k,lnN x' k=lnN x k:=λ k=>by unfold lnN hubLen;rw[bu,Zig]
 have hT:∀ q k,tdN x' q k=if q=r then max (tdN x r k) (clN x r k) else tdN x q k:=λ q k=>by
  unfold tdN;rw[bw];unfold Z9;rw[cR,Ztu (by rw[hn.tdl];exact hr)];split
  ·rw[Zee,hg];rfl
  ·rfl
 have bp:∀ k z,x.hub.s.sh[k]? = some z->bsN x' k=Zbo z.base z.kept.length (Zbw x'.hub.s.told k):=λ k z hz=>by
  have hk:=(ZZ.1 hz).1;have:=ZgN (told:=Z9 x.hub.s.told g) hk hz;rw[←bu] at this;rw[Zs7 this,bw];rfl
 rw[←ax] at ay hp ⊢;refine⟨⟨⟨B',be,ay⟩,hp,?_⟩,⟨⟨λ q _=>?_,λ q _ k=>?_,λ k=>by rw[hL];exact ZL _,λ k=>?_,λ q _ k=>?_,λ q _=>⟨[],by rw[ax];simp⟩⟩,hL,λ q=>by rw[ax];rfl,λ q k=>by rw[ax];rfl,λ k=>?_,λ k v hk hv hl=>?_⟩⟩
 ·rw[ax];exact⟨p1,p2,h.l.node⟩
 ·rw[ax];exact ZL _
 ·rw[ax];exact ZL _
 ·cases hz:x.hub.s.sh[k]? with
  | none=>rw[Ztf hz];exact Nat.zero_le _
  | some z=>rw[bp k z hz,Zs7 hz];exact Nat.le_max_left _ _
 ·rw[hT];split
  ·rename_i hq;rw[hq];exact Nat.le_max_left _ _
  ·exact ZL _
 ·rw[hT,if_pos rfl];exact Nat.le_max_right _ _
 ·obtain⟨z,hz⟩:∃ z,x.hub.s.sh[k]? = some z:=⟨_,ZX (by rw[hn.shl];exact hk)⟩;rw[bp k _ hz];have bS:lnN x k=shLen z:=Zg1 hz;have hlen:x'.hub.s.told.length=c.n:=by rw[bw];unfold Z9;rw[List.length_set];exact hn.tdl
  have h1:v<=Zbw x'.hub.s.told k:=ZtD (by rw[hlen];omega) λ q hq=>by rw[hlen] at hq;exact hv q hq
  rw[bS] at hl;unfold shLen at hl;unfold Zbo;omega
end
end
end Go.Proofs.YtjkfognelhiepaaGreat
