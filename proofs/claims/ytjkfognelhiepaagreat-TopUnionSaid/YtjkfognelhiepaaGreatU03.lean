import Derived.Test.YtjkfognelhiepaaGreatU02
namespace Go.Proofs.YtjkfognelhiepaaGreat
open Go.RowKit _root_.Go.Proofs.Tryz
set_option maxRecDepth 100000
set_option maxHeartbeats 8000000
section
structure TurnsTo(c:Cfg)(M:Nat->Nat)(x0 x:WS)(j:Nat):Prop where
 adv:Adv c x0 x
 td:∀ r,r<j->∀ k,k<c.n->lnN x0 k<=tdN x r k
 bs:0<j->j=c.n->∀ k,k<c.n->lnN x0 k<=bsN x k
 rest:∀ q,j<=q->q<c.n->lnN x q=lnN x0 q/\sN x q=sN x0 q
 go:∀ q,q<j->sN x0 q<M q->bsN x0 q=lnN x0 q->sN x0 q<sN x q
 got:∀ q,q<j->lnN x q≠lnN x0 q->sN x0 q<sN x q
structure Done(c:Cfg)(M:Nat->Nat)(x:WS):Prop where
 s:∀ q,q<c.n->sN x q=M q
 ln:∀ q,q<c.n->lnN x q=M q
 bs:∀ q,q<c.n->bsN x q=M q
 cl:∀ r,r<c.n->∀ k,k<c.n->clN x r k=M k
 td:∀ r,r<c.n->∀ k,k<c.n->tdN x r k=M k
section
variable {c:Cfg}{M:Nat->Nat}{m b r j:Nat}{x x' x0:WS}{B:Bd}
theorem RI.aL(h0:RI c M m b x0)(h:RI c M m b x)(ht:TurnsTo c M x0 x j)(hc:c.Ok)(hm:m<=100)(hb:b<=700)(hj:j<c.n):RI c M m b (Zft c x j)/\TurnsTo c M x0 (Zft c x j) (j+1):=by
 have n0:=h0.aa;have nx:=h.aa;obtain⟨r1,t1⟩:=h.push hc hm hb hj;obtain⟨r2,t2⟩:=r1.bJ hc hm hb hj;obtain⟨r3,t3⟩:=r2.bO hc hm hb hj;have n2:=r2.aa;unfold Zft;obtain⟨x1,eY⟩:∃ y,y=Zai c j x 1:=⟨_,rfl⟩;rw[←eY] at r1 t1 r2 t2 r3 t3 n2 ⊢;obtain⟨x2,eZ⟩:∃ y,y=Zai c j x1 2:=⟨_,rfl⟩;rw[←eZ] at r2 t2 r3 t3 n2 ⊢;obtain⟨x3,e7⟩:∃ y,y=Zai c j x2 3:=⟨_,rfl⟩;rw[←e7] at r3 t3 ⊢;have ha:=((ht.adv.trans t1.adv).trans t2.adv).trans t3.adv;have dw:∀ q,sN x3 q=sN x1 q:=λ q=>by rw[t3.s,t2.s]
 have cy:∀ q,lnN x3 q=lnN x1 q:=λ q=>by rw[t3.ln,t2.ln]
 have bw:∀ r,r<j+1->∀ k,k<c.n->lnN x0 k<=tdN x3 r k:=λ r hr k hk=>by
  by_cases eR:r=j
  ·subst eR;have h1:=t3.td k;by_cases aw:k=r
   ·subst aw;have h2:=n2.own k hk;have h3:=n0.ln k;omega
   ·have h2:=t2.cl k aw;have h3:=t1.adv.ln k;have h4:=ht.adv.ln k;omega
  ·have h1:=ht.td r ZO k hk;have h2:=(((t1.adv.trans t2.adv).trans t3.adv).td r ZO k);omega
 obtain⟨e1,e2⟩:=ht.rest j (ZL _) hj;refine⟨r3,ha,bw,λ _ hjn k hk=>?_,λ q hq aM=>?_,λ q hq h1 h2=>?_,λ q hq h1=>?_⟩
 ·refine t3.bs k _ hk (λ q hq=>bw q ZO k hk) ?_;have:=((ht.adv.trans t1.adv).trans t2.adv).ln k;exact this
 ·obtain⟨f1,f2⟩:=ht.rest q ZO aM;rw[cy,dw,t1.ln q ZO,t1.s q ZO];exact⟨f1,f2⟩
 ·by_cases cT:q=j
  ·subst cT;have h3:=ht.adv.bs q;have h4:=nx.bs q;have:=t1.go ZO ZO;rw[dw];omega
  ·have h3:=ht.go q ZO h1 h2;have h4:=((t1.adv.trans t2.adv).trans t3.adv).s q ZO;omega
 ·by_cases cT:q=j
  ·subst cT;rw[cy] at h1;have h2:=t1.got ZO;have h3:=t1.adv.ln q;have h4:=nx.s q hj;rw[dw];omega
  ·have h2:lnN x3 q=lnN x q:=by rw[cy,t1.ln q cT]
   have h3:=ht.got q ZO ZO;have h4:=((t1.adv.trans t2.adv).trans t3.adv).s q ZO;omega
theorem RI.turns(h0:RI c M m b x0)(hc:c.Ok)(hm:m<=100)(hb:b<=700):∀ j,j<=c.n->RI c M m b ((List.range j).foldl (Zft c) x0)/\TurnsTo c M x0 ((List.range j).foldl (Zft c) x0) j
 | 0,_=>⟨h0,Adv.refl c x0,λ r hr=>ZO,λ h=>ZO,λ q _ _=>⟨rfl,rfl⟩,λ q hq=>ZO,λ q hq=>ZO⟩
 | j+1,hj=>by
  obtain⟨h1,h2⟩:=RI.turns h0 hc hm hb j ZO;rw[List.range_succ,List.foldl_append];exact h0.aL h1 h2 hc hm hb ZO
theorem RI.round(h:RI c M m b x)(hc:c.Ok)(hm:m<=100)(hb:b<=700):RI c M m b (Zc6 c x)/\TurnsTo c M x (Zc6 c x) c.n:=h.turns hc hm hb c.n (ZL _)
theorem TurnsTo.done(ht:TurnsTo c M x x' c.n)(h:RI c M m b x)(h':RI c M m b x')(hc:c.Ok)(hs:∀ q,q<c.n->sN x q=M q):Done c M x':=by
 have n0:=h.aa;have n1:=h'.aa;have h1:=hc.n1;have hl:∀ q,q<c.n->lnN x q=M q:=λ q hq=>by have:=n0.s q hq;have:=n0.ln q;have:=hs q hq;omega
 refine⟨λ q hq=>?_,λ q hq=>?_,λ q hq=>?_,λ r hr k hk=>?_,λ r hr k hk=>?_⟩
 ·have:=ht.adv.s q hq;have:=n1.s q hq;have:=n1.ln q;have:=hs q hq;omega
 ·have:=ht.adv.ln q;have:=n1.ln q;have:=hl q hq;omega
 ·have:=ht.bs ZO rfl q hq;have:=n1.bs q;have:=n1.ln q;have:=hl q hq;omega
 ·have h2:=ht.td r hr k hk;have h3:=n1.td r hr k;have h4:=hl k hk;by_cases aw:k=r
  ·subst aw;exact n1.own k hr
  ·have:=n1.cl r hr k aw;have:=n1.ln k;omega
 ·have h2:=ht.td r hr k hk;have h3:=n1.td r hr k;have h4:=hl k hk;by_cases aw:k=r
  ·subst aw;have:=n1.own k hr;omega
  ·have:=n1.cl r hr k aw;have:=n1.ln k;omega
theorem Zs8{sh:List Sh}(h:sh.length<=5)(i:Nat):(Zew sh).get i=(sh.map (·.base)).getD i 0:=by
 unfold Zew;rw[ZiG h (ZL _)];split
 ·rfl
 ·rw[List.getD_eq_getElem?_getD,List.getElem?_eq_none ZP];rfl
theorem Ztw{α : Type}{f g:Nat -> α}{n:Nat}(h:(List.range n).map f=(List.range n).map g){r:Nat}(hr:r<n):f r=g r:=by
 have:=congrArg (λ l=>l[r]?) h;simpa [hr] using this
theorem TurnsTo.still(ht:TurnsTo c M x x' c.n)(h:RI c M m b x)(h':RI c M m b x')(hc:c.Ok)(hs:ZaI c x'=ZaI c x):Done c M x':=by
 have n0:=h.aa;have n1:=h'.aa;have h5:=hc.n5;have h1:=hc.n1;unfold ZaI at hs;rw[if_pos h.l.hub,if_pos h'.l.hub,if_pos h.l.hub,if_pos h'.l.hub,if_pos h.l.hub,if_pos h'.l.hub] at hs;injection hs with _ hb hl _ hn;have eB:∀ k,bsN x' k=bsN x k:=λ k=>by
  have:=congrArg (λ z=>z.get k) hb;rw[Zs8 (by rw[n1.shl];exact h5),Zs8 (by rw[n0.shl];exact h5)] at this;exact this
 have bS:∀ k,lnN x' k=lnN x k:=λ k=>by
  have:=congrArg (λ z=>z.get k) hl;rw[Zo9 (by rw[n1.shl];exact h5),Zo9 (by rw[n0.shl];exact h5)] at this;exact this
 have eT:∀ r,r<c.n->sN x' r=sN x r:=λ r hr=>by
  have:=Ztw hn (show r<5 by omega);simp only[if_pos hr] at this;unfold Zgp at this;rw[if_pos (h.l.node r hr).up,if_pos (h'.l.node r hr).up] at this;injection this with _ this;injection this with this _
 refine ht.done h h' hc λ q hq=>?_
 have h2:=ht.bs ZO rfl q hq;have h3:=n1.bs q;have h4:=eB q;have h6:=bS q;have h7:=n0.s q hq;have h8:=n0.ln q;have h9:=eT q hq;by_cases aX:sN x q<M q
 ·have:=ht.go q hq aX ZO;omega
 ·omega
theorem ZtB(hc:c.Ok)(hm:m<=100)(hb:b<=700):∀ (k:Nat) {x:WS},RI c M m b x->(∀ q,q<c.n->2*(M q-sN x q)+(if bsN x q<lnN x q then 1 else 0)<=k+1)->RI c M m b (goW c (k+1) x)/\Done c M (goW c (k+1) x)
 | 0,x,h,hq=>by
  obtain⟨h1,h2⟩:=h.round hc hm hb;have hd:=h2.done h h1 hc λ q aM=>by
   have a1:=hq q aM;have a2:=h.aa.s q aM;have a3:=h.aa.ln q;split at a1 <;> omega
  unfold goW;split
  ·exact⟨h1,hd⟩
  ·exact⟨h1,hd⟩
 | k+1,x,h,hq=>by
  obtain⟨h1,h2⟩:=h.round hc hm hb;unfold goW;split
  ·rename_i hs;exact⟨h1,h2.still h h1 hc hs⟩
  ·refine ZtB hc hm hb k h1 λ q aM=>?_
   have a1:=hq q aM;have a2:=h2.go q aM;have a3:=h2.got q aM;have a4:=h2.bs ZO rfl q aM;have a5:=h1.aa.bs q;have a6:=h1.aa.s q aM;have a7:=h1.aa.ln q;have a8:=h2.adv.s q aM;have a9:=h.aa.bs q;have b1:=h2.adv.ln q;by_cases aX:sN x q<M q
   ·by_cases eh:bsN x q<lnN x q
    ·rw[if_pos eh] at a1;by_cases hl:lnN (Zc6 c x) q=lnN x q
     ·rw[if_neg ZO];omega
     ·have:=a3 hl;split <;> omega
    ·rw[if_neg eh] at a1;have:=a2 aX ZO;split <;> omega
   ·split <;> omega
theorem Ztm{a b:Clk}(h:∀ i,i<5->a.get i=b.get i):a=b:=by
 have h0:=h 0 ZO;have h1:=h 1 ZO;have h2:=h 2 ZO;have h3:=h 3 ZO;have h4:=h 4 ZO;obtain⟨a0,a1,a2,a3,a4⟩:=a;obtain⟨b0,b1,b2,b3,b4⟩:=b;simp only[Clk.get] at h0 h1 h2 h3 h4;subst h0 h1 h2 h3 h4;rfl
theorem Ztn(h:RI c M m b x){k:Nat}(hk:c.n<=k):lnN x k=0:=by
 unfold lnN hubLen lensOf;rw[List.getD_eq_getElem?_getD,List.getElem?_eq_none (by rw[List.length_map,h.aa.shl];exact hk)];rfl
theorem ZtT(h:RI c M m b x)(hr:r<c.n){k:Nat}(hk:c.n<=k):clN x r k=0:=by
 have:=h.aa.cl r hr k ZO;rw[Ztn h hk] at this;omega
theorem ZtS(hw:WInv c B m b x)(hp:PastInv c x)(hc:c.Ok)(hm:m<=100)(hb:b<=700):RI c B.made m b (ZdV c x):=by
 obtain⟨B',_,be,ay⟩:=hw.bI hc hm hb;refine⟨⟨B',be,ay⟩,?_,⟨ZpK c _,?_,λ r hr=>?_⟩⟩
 ·have cD:∀ r,((ZdV c x).nodes r).rs=(x.nodes r).rs:=λ r=>by
   unfold ZdV;simp only;split
   ·unfold ZbS;split <;> rfl
   ·rfl
  have aF:(ZdV c x).hub.rs=x.hub.rs:=by
   unfold ZdV ZbZ;simp only;split <;> rfl
  have hh:hasN (ZdV c x)=hasN x:=by funext r k;unfold hasN;rw[cD]
  exact⟨by rw[aF,hh];exact hp.told,by rw[aF];exact hp.hist,by rw[hh];exact hp.link⟩
 ·unfold ZdV ZbZ Zde;simp only[Bool.false_eq_true,if_false];rfl
 ·have e:(ZdV c x).nodes r=Zgr r (Zdf (x.nodes r)):=by
   unfold ZdV ZbS Zdf;simp only[if_pos hr,Bool.false_eq_true,if_false]
  rw[e];exact⟨rfl,rfl,rfl⟩
end
end
section
structure UI(c:Cfg)(x:WS)(many:Clk):Prop where
 past:PastInv c x
 rs:x.hub.rs=[]
 live:∀ r,r<c.n->(x.nodes r).s.up=true/\(x.nodes r).s.d.cut=false
 made:∀ r,r<c.n->many.get r=ownN r (x.nodes r)
 oth:∀ r,c.n<=r->many.get r=0
section
variable {c:Cfg}{B:Bd}{m b r:Nat}{x:WS}{s:St}{many:Clk}{a:PN}
theorem UI.new(c:Cfg):UI c (Zfe c) ZCz:=⟨PastInv.new c,rfl,λ _ _=>⟨rfl,rfl⟩,λ r _=>ZbW r,λ r _=>ZbW r⟩
theorem ZtG(h:NodeInv c r B b a)(hu:a.s.up=true)(aC:a.s.d.cut=false)(kind:Nat)(key:ByteArray)(label:Nat)(value:ByteArray):
  ((Zep c r a kind key label value).1.s.up=true/\(Zep c r a kind key label value).1.s.d.cut=false) /\
   ownN r (Zep c r a kind key label value).1=ownN r a+if (Zep c r a kind key label value).2=0 then 1 else 0:=by
 have hd:=(h.up hu).down;unfold Zep ZdZ;by_cases hk:Zco c.l c.p (listN a.s.book) kind key label value=0
 ·by_cases hw:a.s.wait.length<c.q
  ·simp only[hu,hk,hw,and_self,if_true];obtain⟨e,dY⟩:∃ e,e=madeEv r a.s kind key label value:=⟨_,rfl⟩;rw[←dY];have e1:e.r=r:=by rw[dY];rfl
   obtain⟨h0,h1,h2⟩:=Zs6 hu hd aC (Zae r e);have h3:ZaY a.s.d a.rs (Zae r e)=a.rs++[Zae r e]:=by unfold ZaY;rw[if_neg (by simp[hd]),if_neg (by simp[aC])]
   have h4:nodeRecs (a.rs++[Zae r e])=((nodeRecs a.rs).1++[e],(nodeRecs a.rs).2):=by rw[Zcd];simp[Zas,Zae]
   simp only[h0,if_true];refine⟨⟨h1,h2⟩,?_⟩;unfold ownN;simp only;rw[h3,h4];simp only;rw[Zie,if_pos e1]
  ·simp only[hu,hk,hw,and_false,if_true,if_false];exact⟨⟨trivial,aC⟩,rfl⟩
 ·simp only[hu,hk,false_and,and_false,if_true,if_false];exact⟨⟨trivial,aC⟩,rfl⟩
theorem UI.step(h:UI c x many)(hw:WInv c B m b x)(hc:c.Ok)(hm:m<=99)(hk:s.kind=0)(hr:s.r<c.n):UI c (Zab c x s).1 (if (Zab c x s).2=0 then many.set s.r (many.get s.r+1) else many):=by
 have hp:=h.past.step hw hc hm (s:=s);have cD:=(ZtU (c:=c) (x:=x) (s:=s) ZO).trans h.rs;have eN:=hc.n5;have e0:Zab c x s=(⟨Zch x.nodes s.r (Zep c s.r (x.nodes s.r) s.ek s.key s.label s.value).1,x.hub,x.link⟩,(Zep c s.r (x.nodes s.r) s.ek s.key s.label s.value).2):=by
  unfold Zab;rw[if_neg ZO,if_neg ZO,if_neg ZO,if_pos hk]
 obtain⟨h1,h2⟩:=ZtG (hw.nodes _ hr) (h.live _ hr).1 (h.live _ hr).2 s.ek s.key s.label s.value;refine⟨hp,cD,λ r bh=>?_,λ r bh=>?_,λ r bh=>?_⟩
 ·rw[e0];by_cases e:r=s.r
  ·subst e;simp only[Zdj];exact h1
  ·simp only[Zcp e];exact h.live r bh
 ·rw[e0];by_cases e:r=s.r
  ·subst e;simp only[Zdj];rw[h2,←h.made _ bh];split
   ·rw[Clk.aD _ ZO]
   ·rfl
  ·simp only[Zcp e];rw[←h.made _ bh];split
   ·rw[Clk.aB _ (λ e'=>e e'.symm)]
   ·rfl
 ·rw[←h.oth r bh];split
  ·rw[Clk.aB _ ZO]
  ·rfl
theorem UI.room(h:UI c x many)(hw:WInv c B m b x)(hr:r<c.n):many.get r<=c.q:=by
 have hu:=(h.live r hr).1;rw[h.made r hr,(hw.nodes r hr).ar hu];have h1:=((hw.nodes r hr).log hu).room;have h2:=((hw.nodes r hr).log hu).sentH;rw[hw.av h.rs] at h2;omega
theorem UI.less(h:UI c x many)(hw:WInv c B m b x)(hm:m<=100)(r:Nat):many.get r<=100:=by
 by_cases hr:r<c.n
 ·by_cases h5:r<5
  ·rw[h.made r hr,←hw.own r hr];exact ZT (Zc5 h5) (ZT hw.sum hm)
  ·rw[Clk.aq _ ZO];omega
 ·rw[h.oth r ZO];omega
theorem UI.rounds(h:UI c x many)(hw:WInv c B m b x)(hc:c.Ok)(hm:m<=100)(hb:b<=700):∃ x',ZfO c (3*c.q+2) x=x'/\(∃ B',WInv c B' m b x')/\(∀ r,r<c.n->(Zbz (x'.nodes r).s).clk=many) /\
  ∃ ac,Zcl x'.hub.s.up x'.hub.s.sh x'.hub.s.told=Zc4 true many many ac/\ac.length=5:=by
 have h5:=hc.n5;have eQ:=ZtS hw h.past hc hm hb;obtain⟨g1,g2⟩:=ZtB hc hm hb (3*c.q+1) eQ λ q hq=>by
  have:=h.room hw hq;rw[h.made q hq,←hw.own q hq] at this;split <;> omega
 have hn:=g1.aa;obtain⟨B',be,ay⟩:=g1.w;have hM:∀ k,k<c.n->B.made k=many.get k:=λ k hk=>by rw[hw.own k hk,h.made k hk]
 refine⟨goW c (3*c.q+1+1) (ZdV c x),rfl,⟨B',ay⟩,λ r hr=>?_,?_⟩
 ·rw[ZlP (g1.l.node r hr).up];refine Ztm λ k _=>?_
  show clN _ r k=_
  rcases Nat.lt_or_ge k c.n with hk | hk
  ·rw[g2.cl r hr k hk,hM k hk]
  ·rw[ZtT g1 hr hk,h.oth k hk]
 ·have e1:lenOf (goW c (3*c.q+1+1) (ZdV c x)).hub.s.sh=many:=by
   refine Ztm λ k _=>?_
   rw[Zo9 (by rw[hn.shl];exact h5)];show lnN _ k=_
   rcases Nat.lt_or_ge k c.n with hk | hk
   ·rw[g2.ln k hk,hM k hk]
   ·rw[Ztn g1 hk,h.oth k hk]
  have e2:Zew (goW c (3*c.q+1+1) (ZdV c x)).hub.s.sh=many:=by
   refine Ztm λ k _=>?_
   rw[Zs8 (by rw[hn.shl];exact h5)];show bsN _ k=_
   rcases Nat.lt_or_ge k c.n with hk | hk
   ·rw[g2.bs k hk,hM k hk]
   ·have:=hn.bs k;rw[Ztn g1 hk] at this;rw[h.oth k hk];omega
  unfold Zcl;rw[if_pos g1.l.hub,e1,e2];exact⟨_,rfl,ZcT (by rw[hn.tdl];exact h5)⟩
end
end
theorem Zts(a:Clk)(w:World):(Op.equalIn 10000 44 (.agg #[.int .i64 (a.c0:Int),.int .i64 (a.c1:Int),.int .i64 (a.c2:Int),.int .i64 (a.c3:Int),.int .i64 (a.c4:Int)]) (.agg #[.int .i64 (a.c0:Int),.int .i64 (a.c1:Int),.int .i64 (a.c2:Int),.int .i64 (a.c3:Int),.int .i64 (a.c4:Int)])).run prog w = .ok true w:=by
 rw[show 10000=9998+1+1 from rfl];refine(ZaO a a 9998 w).trans ?_;simp
end Go.Proofs.YtjkfognelhiepaaGreat
