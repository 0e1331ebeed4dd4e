import Derived.Test.YtjkfognelhiepaaGreatC27
namespace Go.Proofs.YtjkfognelhiepaaGreat
open Go.RowKit _root_.Go.Proofs.Tryz
set_option maxRecDepth 100000
set_option maxHeartbeats 8000000
section
def Ziu(own:Own)(t:Nat)(c:Cfg)(w:World)(s:St)(e:Ending)(w':World):Prop :=
 ∃ tb a p own',(s.kind≠7->tb=s.turned)/\e = .returned (.tuple #[ptrV p,.slice (some a) 1 1,.int .i64 0])/\WorldAt own' t w' p c (Zab c (Zfe c) (Zu s tb)).1/\Upd (Zp t) own own' w w'
section
variable {own:Own}{t:Nat}{w:World}{c:Cfg}
theorem Zob{s:St}(ht:0<t)(hf:Fresh own w)(hc:c.Ok)(hs:StOk c s){g:Nat}(hg:Blk w g 36 (Zaz s))(gB:own g=0):
  Calls prog 53 #[ZdX c,.slice (some ⟨g,0,none⟩) 1 1] w (Ziu own t c w s):=by
 have h5:=hc.n5;have hk:=((ZKr w).alloc (.cells (Zal c) 23)).alloc (.cells #[.slice (some ⟨g,0,none⟩) 1 1] 24);have hu:Upd (λ _=>False) own own w ((w.alloc (.cells (Zal c) 23)).alloc (.cells #[.slice (some ⟨g,0,none⟩) 1 1] 24)):=ZUb hk.below hf;have bW:=(ZBn w 23 (Zal c)).alloc (.cells #[.slice (some ⟨g,0,none⟩) 1 1] 24);have bZ:=ZBn (w.alloc (.cells (Zal c) 23)) 24 #[.slice (some ⟨g,0,none⟩) 1 1];rw[World.size_alloc] at bZ;have nP:=hg.ob hk.below;have kO:=ZpY ht hu.fresh hc;obtain⟨W0,gJ⟩:∃ W0,W0=(w.alloc (.cells (Zal c) 23)).alloc (.cells #[.slice (some ⟨g,0,none⟩) 1 1] 24):=⟨_,rfl⟩;rw[←gJ] at hu bW bZ nP kO;obtain⟨l5,HU,H2,H3,HG,HN,HS,HC⟩:=ZH8 gJ hu bW bZ nP kO hs hc;have gV:Hid (own (w.heap.size+1)=0):=ZH (hf _ ZO);have rT:=ZH gB;obtain⟨c0,c1,c2,c3,c4,c5⟩:=bW.aS;have mM:=bW.lt;clear hf hs hg hk hu bW bZ nP kO gJ gB hc;go_enter func53,ntmps53;go_wp2_with fail;rw[←l5.out];refine HN.out.mono ?_;rintro _ w1 ⟨p,cF,rfl,dl,co⟩;obtain⟨IY,qU⟩:=ZH2 (H3.out.upd co (by rw[gV.out];rintro⟨h1,h2⟩;omega)) (HG.out.upd co (by rw[rT.out];rintro⟨h1,h2⟩;omega));have uI:=(ZKr w1).alloc (.cells #[ptrV p] 27);have uN:Upd (λ _=>False) cF cF w1 (w1.alloc (.cells #[ptrV p] 27)):=ZUb uI.below co.fresh;have QF:Hid (cF (w.heap.size+1)=0):=ZH ((co.old _ H3.out.lt).trans gV.out);have QI:Hid (cF w1.heap.size=0):=ZH (co.fresh _ (ZL _));obtain⟨ft,da,H7,zh,mT⟩:=ZH5 (dl.upd uN (λ _ _ h=>h) (λ h=>h) h5) (((HU.out.mono (T':=Zp t) λ n h=>h.elim).trans co).trans (uN.mono (T':=Zp t) λ n h=>h.elim)) (ZBn w1 27 #[ptrV p]) (IY.out.ob uI.below) (qU.out.ob uI.below);clear dl co uN uI c0 c1 c2 c3 c4 c5 mM;go_wp2_with fail;obtain⟨b7,jq⟩:∃ b7,b7=w1.heap.size:=⟨_,rfl⟩;rw[←jq] at H7 ⊢;have QH:Hid (cF b7=0):=ZH (by rw[jq];exact QI.out);generalize w1.alloc (.cells #[ptrV p] 27)=W1 at *;clear jq;refine ZSg (λ w'=>Blk w' b7 27 #[ptrV p]/\Blk w' (w.heap.size+1) 24 #[.slice (some ⟨g,0,none⟩) 1 1]) [(0,0),(1,0),(2,3),(3,1),(4,1),(5,3),(6,3),(7,3)] (⟨H7.out,zh.out⟩) λ bR=>?_
 repeat((first | refine ZSa ?_ | refine ZSb ?_ | (refine Zf rfl (by rfl) (λ w' ci=>by(have h7:=ci.1.cell 0;simp only[ZD,ZE] at h7);(have h3:=ci.2.cell 0;simp only[ZD,ZE] at h3);go_simp;with_reducible rfl) ?_));simp only[Act.put,ZA,ZB,ZC])
 refine ZSd λ K hK=>?_
 go_simp;refine hK.out (λ w'=>Blk w' b7 27 #[ptrV p]/\Blk w' (w.heap.size+1) 24 #[.slice (some ⟨g,0,none⟩) 1 1]) _ _ (λ _ h=>h) bR (λ bT=>?_);clear hK K bR;repeat((first | refine ZSa ?_ | refine ZSb ?_ | refine ZSc ?_);simp only[Act.put,ZA,ZB,ZC])
 refine ZSd λ K hK=>?_
 go_simp;have iM:=(ZW W1.heap.size W1).drew;have dh:Upd (λ _=>False) cF cF W1 W1.drew:=ZUb iM da.out.fresh;refine(Zmc ht (ft.out.upd dh (λ _ _ h=>h) (λ h=>h) h5) dh.fresh (WInv.new c) HC.out ZO ZO HS.out (H7.out.ob iM) (zh.out.ob iM) (mT.out.ob iM)).mono ?_;rintro _ w2 ⟨tb,a,cg,gG,rfl,dK,cm⟩;have wW:=(H7.out.ob iM).upd cm (by rw[QH.out];rintro⟨h1,h2⟩;omega);have kQ:=(zh.out.ob iM).upd cm (by rw[QF.out];rintro⟨h1,h2⟩;omega);have HP:Hid (Ziu own t c w s (.returned (.tuple #[ptrV p,.slice (some a) 1 1,.int .i64 0])) w2):=ZH ⟨tb,a,p,cg,gG,rfl,dK,(da.out.trans (dh.mono (T':=Zp t) λ n h=>h.elim)).trans cm⟩;refine hK.out (λ w'=>Blk w' b7 27 #[ptrV p]/\Blk w' (w.heap.size+1) 24 #[.slice (some ⟨g,0,none⟩) 1 1]) _ _ (λ _ h=>h) ⟨wW,kQ⟩ (λ bR=>?_);clear hK K bT gG dK cm dh iM wW kQ;repeat((first | refine ZSa ?_ | refine ZSb ?_ | refine ZSc ?_);simp only[Act.put,ZA,ZB,ZC])
 refine ZSf ?_;go_wp2_with fail;go_ret3
 exact HP.out
end
end
section
section
variable {own:Own}{t p m b:Nat}{w:World}{c:Cfg}{B:Bd}{x:WS}
theorem Zh2{r bx:Nat}(h:WorldAt own t w p c x)(hf:Fresh own w)(hi:WInv c B m b x)(hc:c.Ok)(hm:m<=100)(hr:r<c.n)(dJ:(x.nodes r).s.up=true)(hb:Blk w bx 27 #[ptrV p]):
  Calls prog 56 #[.int .i64 r,ptrV bx] w (ZfV (listN (x.nodes r).s.book) w):=by
 have HL:=ZH (Zox h hf hi hc hm hr);have yf:=hb.cell 0;simp only[ZD,ZE] at yf;have cQ:=hb.lt;have RD:=ZH dJ;clear h hf hi hb dJ;go_enter func56,ntmps56;go_wp2_with fail;refine HL.out.mono ?_;intro e w2 hP;unfold ListPost at hP;rw[if_pos RD.out] at hP;obtain⟨v,rfl,i4⟩:=hP;have HB:=ZH i4;clear i4;go_wp2
 go_ret;exact HB.out
def ZgJ(cs:List Con)(w:World)(e:Ending)(w':World):Prop:=∃ gl v0 v1 ps,e = .returned (.slice (some ⟨gl,0,none⟩) 2 2)/\w.heap.size<=gl/\Blk w' gl 38 #[v0,v1]/\ps.map (·.1)=cs/\ConRows w.heap.size w' v1 ps/\Below w.heap.size w w'
theorem Znp{bx:Nat}(h:WorldAt own t w p c x)(hf:Fresh own w)(hi:WInv c B m b x)(hc:c.Ok)(hm:m<=100)(hn:c.n=2)(cX:(x.nodes 0).s.up=true)(co:(x.nodes 1).s.up=true)(hb:Blk w bx 27 #[ptrV p]):
  Calls prog 55 #[.int .i64 2,.func (.func 56) #[] #[ptrV bx]] w (ZgJ (listN (x.nodes 1).s.book) w):=by
 have h5:=hc.n5;have lN:=ZsA;obtain⟨HK,HG,HW,HF,HI,H0,H1,HB⟩:=ZH8 ((ZKr w).alloc (.cells #[.slice none 0 0,.slice none 0 0] 38)) (ZBn w 38 #[.slice none 0 0,.slice none 0 0]) h hf hi cX co hb;clear h hf hi cX co hb;go_enter func55,ntmps55;go_wp2_with fail;go_loopw [11] (λ i wr=>(i = .int .i64 0/\Hid (Blk wr w.heap.size 38 #[.slice none 0 0,.slice none 0 0])/\Hid (Kept w.heap.size w wr))∨(i = .int .i64 1/\Hid (∃ v0,Blk wr w.heap.size 38 #[v0,.slice none 0 0])/\Hid (Kept w.heap.size w wr))∨(i = .int .i64 2/\Hid (ZgJ (listN (x.nodes 1).s.book) w (.returned (.slice (some ⟨w.heap.size,0,none⟩) 2 2)) wr))) (λ i _=>2-(intOf i).toNat)
 case atStart=>exact .inl ⟨rfl,HG,HK⟩
 case round =>
  clear HG HK;rcases hrel with ⟨rfl,HG,HK⟩|⟨rfl,HG,HK⟩|⟨rfl,HP⟩
  ·have hu:Upd (λ _=>False) own own w wr:=ZUb HK.out.below HF.out;have HC:=ZH (Zh2 (r:=0) (HW.out.upd hu (λ _ _ h=>h) (λ h=>h) h5) hu.fresh HI.out hc hm ZO H0.out (HB.out.ob HK.out.below));clear hu;go_wp2_with fail;refine HC.out.mono ?_;rintro _ w2 ⟨v,ps,rfl,gj,cB,bW⟩;have eN:=HG.out.ob bW;have cJ:=HK.out.step bW;obtain⟨av,nv,cv,rfl⟩:=Zbg cB.1;have dW:=eN.cell 0;simp only[ZD,ZE] at dW;have qr:=eN.frozen 0;have ce:=eN.lt;have BN:Hid (∃ v0,Blk (w2.setCell ⟨w.heap.size,0,none⟩ (.slice av nv cv)) w.heap.size 38 #[v0,.slice none 0 0]):=ZH ⟨.slice av nv cv,by have:=eN.ai 0 (.slice av nv cv);simpa using this⟩;have cC:=ZH (cJ.setCell (p:=⟨w.heap.size,0,none⟩) (ZL _) (.slice av nv cv));clear gj cB bW cJ eN HC;go_wp2
   go_roundw
   case rel=>exact .inr (.inl ⟨rfl,BN,cC⟩)
   case measure=>simp[intOf]
  ·obtain⟨v0,EU⟩:=HG.out;have HG:=ZH EU;have hu:Upd (λ _=>False) own own w wr:=ZUb HK.out.below HF.out;have HC:=ZH (Zh2 (r:=1) (HW.out.upd hu (λ _ _ h=>h) (λ h=>h) h5) hu.fresh HI.out hc hm ZO H1.out (HB.out.ob HK.out.below));clear hu EU;go_wp2_with fail;refine HC.out.mono ?_;rintro _ w2 ⟨v,ps,rfl,gj,cB,bW⟩;have eN:=HG.out.ob bW;have cJ:=HK.out.step bW;obtain⟨av,nv,cv,rfl⟩:=Zbg cB.1;have dW:=eN.cell 1;simp only[ZD,ZE,ZG] at dW;have qr:=eN.frozen 1;have ce:=eN.lt;have dz:w.heap.size<wr.heap.size:=HG.out.lt;have jf:∀ k,wr.heap.size<=k->(w2.setCell ⟨w.heap.size,1,none⟩ (.slice av nv cv)).heap[k]? = w2.heap[k]? := λ k hk=>Below.heap_setCell _ _ _ _ (λ e=>by simp only at e;omega)
   have yN:ConRows wr.heap.size (w2.setCell ⟨w.heap.size,1,none⟩ (.slice av nv cv)) (.slice av nv cv) ps:=⟨Zh cB.1 (λ g hg _=>jf g (Zb cB.1 hg).1),λ q hq=>Zh (cB.s0 q hq) (λ g hg _=>jf g (Zb (cB.s0 q hq) hg).1),λ q hq=>Zh (cB.s1 q hq) (λ g hg _=>jf g (Zb (cB.s1 q hq) hg).1)⟩;have HP:Hid (ZgJ (listN (x.nodes 1).s.book) w (.returned (.slice (some ⟨w.heap.size,0,none⟩) 2 2)) (w2.setCell ⟨w.heap.size,1,none⟩ (.slice av nv cv))):=ZH ⟨w.heap.size,v0,.slice av nv cv,ps,rfl,ZL _,by have:=eN.ai 1 (.slice av nv cv);simpa using this,gj,yN.mono HK.out.le,(cJ.setCell (p:=⟨w.heap.size,1,none⟩) (ZL _) (.slice av nv cv)).below⟩;clear gj cB bW cJ eN HC jf yN dz;go_wp2
   go_roundw
   case rel=>exact .inr (.inr ⟨rfl,HP⟩)
   case measure=>simp[intOf]
  ·go_wp2
   go_ret;exact HP.out
theorem Zpp{A B X:List Value}(hA:A.length=9)(hX:X.length=9):(A++B).take 0++X++(A++B).drop (0+X.length)=X++B:=by
 rw[List.take_zero,List.nil_append,hX,Nat.zero_add,List.drop_append,List.drop_of_length_le ZO,hA,Nat.sub_self,List.drop_zero,List.nil_append]
theorem Zn5{A B X:List Value}(hA:A.length=9)(hB:B.length=9)(hX:X.length=9):(A++B).take 9++X++(A++B).drop (9+X.length)=A++X:=by
 rw[List.take_append,ZU ZO,hA,Nat.sub_self,List.take_zero,List.append_nil,List.drop_of_length_le (by rw[ZI];omega),List.append_nil]
theorem ZlQ{w:World}{g:Nat}{A B:List Value}(X:Array Value)(h:Blk w g 47 (A++B).toArray)(hA:A.length=9)(hB:B.length=9)(hX:X.size=9):Blk (setAll w g 0 X.toList) g 47 (X.toList++B).toArray/\Blk (setAll w g 9 X.toList) g 47 (A++X.toList).toArray/\w.there g 0 9/\w.there g 9 9:=by
 have hl:(A++B).length=18:=by rw[ZI];omega
 have hx:X.toList.length=9:=by rw[Array.length_toList];exact hX
 have h1:=Zba X.toList 0 w (A++B) h ZO;have h2:=Zba X.toList 9 w (A++B) h ZO;rw[Zpp hA hx] at h1;rw[Zn5 hA hB hx] at h2;have jU:∀ o,o<=9->w.there g o 9:=λ o ho i hi=>by
  refine⟨?_,h.frozen _⟩;rw[h.cell,Array.getElem?_eq_getElem (by rw[List.size_toArray];omega)];rfl
 exact⟨h1,h2,jU 0 ZO,jU 9 ZO⟩
def ZbE(up:Bool)(c:Clk)(sent:Nat)(vh vl:Value):Array Value:=Zx up c sent vh vl
def Zd6:List Value:=(ZbE false ZCz 0 (.slice none 0 0) (.slice none 0 0)).toList
theorem Zh3(up:Bool)(c:Clk)(sent:Nat)(vh vl:Value):(ZbE up c sent vh vl).size=9:=rfl
theorem Zja(up:Bool)(c:Clk)(sent:Nat)(vh vl:Value):(ZbE up c sent vh vl).toList.length=9:=rfl
theorem Zhj:Zd6.length=9:=rfl
theorem Zr1(w:World):(Instr.makeSlice 184 (.int .i64 2) (.int .i64 2)).run prog w = .ok (.slice (some ⟨w.heap.size,0,none⟩) 2 2) (w.alloc (.cells (Zd6++Zd6).toArray 47)):=ZsB w
def ZgL(S:SiteN)(w:World)(e:Ending)(w':World):Prop:=∃ gs v0 v1 u0 c0 n0 pg ph,e = .returned (.slice (some ⟨gs,0,none⟩) 2 2)/\w.heap.size<=gs/\v0=ZbE u0 c0 n0 pg ph/\(∃ vh vl,v1=ZbE S.up S.clk S.sent vh vl)/\Blk w' gs 47 (v0.toList++v1.toList).toArray/\Below w.heap.size w w'
theorem Znq(h:WorldAt own t w p c x)(hf:Fresh own w)(hi:WInv c B m b x)(hc:c.Ok)(hm:m<=100)(hn:c.n=2):
  Calls prog 101 #[.int .i64 2,.func (.func 18) #[ptrV p] #[]] w (ZgL (Zbz (x.nodes 1).s) w):=by
 have h5:=hc.n5;have lN:=Zr1;obtain⟨HK,HG,HW,HF,HI⟩:=ZH5 ((ZKr w).alloc (.cells (Zd6++Zd6).toArray 47)) (ZBn w 47 (Zd6++Zd6).toArray) h hf hi;clear h hf hi;go_enter func101,ntmps101;go_wp2_with fail;go_loopw [11] (λ i wr=>(i = .int .i64 0/\Hid (Blk wr w.heap.size 47 (Zd6++Zd6).toArray)/\Hid (Kept w.heap.size w wr))∨(i = .int .i64 1/\Hid (∃ u0 c0 n0 pg ph,Blk wr w.heap.size 47 ((ZbE u0 c0 n0 pg ph).toList++Zd6).toArray)/\Hid (Kept w.heap.size w wr))∨(i = .int .i64 2/\Hid (ZgL (Zbz (x.nodes 1).s) w (.returned (.slice (some ⟨w.heap.size,0,none⟩) 2 2)) wr))) (λ i _=>2-(intOf i).toNat)
 case atStart=>exact .inl ⟨rfl,HG,HK⟩
 case round =>
  clear HG HK;rcases hrel with ⟨rfl,HG,HK⟩|⟨rfl,HG,HK⟩|⟨rfl,HP⟩
  ·have hu:Upd (λ _=>False) own own w wr:=ZUb HK.out.below HF.out;have HC:=ZH (Zjg (r:=0) (HW.out.upd hu (λ _ _ h=>h) (λ h=>h) h5) hu.fresh HI.out hc hm ZO);clear hu;go_wp2_with fail;refine HC.out.mono ?_;rintro _ w2 ⟨vh,vl,rfl,lM,jh,bW⟩;have eN:=HG.out.ob bW;have cJ:=HK.out.step bW;obtain⟨ah,nh,ch,rfl⟩:=Zbg lM;obtain⟨al,nl,cl,rfl⟩:=Zbg jh;obtain⟨S,hS⟩:∃ S,S=Zbz (x.nodes 0).s:=⟨_,rfl⟩;rw[←hS];obtain⟨bZ,_,jU,_⟩:=ZlQ (ZbE S.up S.clk S.sent (.slice ah nh ch) (.slice al nl cl)) eN Zhj Zhj (Zh3 _ _ _ _ _);have BN:Hid (∃ u0 c0 n0 pg ph,Blk (setAll w2 w.heap.size 0 (ZbE S.up S.clk S.sent (.slice ah nh ch) (.slice al nl cl)).toList) w.heap.size 47 ((ZbE u0 c0 n0 pg ph).toList++Zd6).toArray):=ZH ⟨S.up,S.clk,S.sent,.slice ah nh ch,.slice al nl cl,bZ⟩;have cC:=ZH (ZaB cJ (g:=w.heap.size) (ZL _) 0 (ZbE S.up S.clk S.sent (.slice ah nh ch) (.slice al nl cl)).toList);have AQ:=λ i=>eN.frozen i
   obtain⟨z0,y0⟩:=ZQ.1 (jU 0 ZO).1;obtain⟨z1,y1⟩:=ZQ.1 (jU 1 ZO).1;obtain⟨z2,y2⟩:=ZQ.1 (jU 2 ZO).1;obtain⟨z3,y3⟩:=ZQ.1 (jU 3 ZO).1;obtain⟨z4,y4⟩:=ZQ.1 (jU 4 ZO).1;obtain⟨z5,y5⟩:=ZQ.1 (jU 5 ZO).1;obtain⟨z6,y6⟩:=ZQ.1 (jU 6 ZO).1;obtain⟨z7,y7⟩:=ZQ.1 (jU 7 ZO).1;obtain⟨z8,y8⟩:=ZQ.1 (jU 8 ZO).1;simp only[Nat.zero_add] at y0 y1 y2 y3 y4 y5 y6 y7 y8;have ce:=eN.lt;clear bZ cJ eN lM jh bW HC hS jU;go_wp2
   go_roundw
   case rel=>exact .inr (.inl ⟨rfl,BN,cC⟩)
   case measure=>simp[intOf]
  ·obtain⟨u0,k0,n0,pg,ph,EU⟩:=HG.out;have HG:=ZH EU;have hu:Upd (λ _=>False) own own w wr:=ZUb HK.out.below HF.out;have HC:=ZH (Zjg (r:=1) (HW.out.upd hu (λ _ _ h=>h) (λ h=>h) h5) hu.fresh HI.out hc hm ZO);clear hu EU;go_wp2_with fail;refine HC.out.mono ?_;rintro _ w2 ⟨vh,vl,rfl,lM,jh,bW⟩;have eN:=HG.out.ob bW;have cJ:=HK.out.step bW;obtain⟨ah,nh,ch,rfl⟩:=Zbg lM;obtain⟨al,nl,cl,rfl⟩:=Zbg jh;obtain⟨S,hS⟩:∃ S,S=Zbz (x.nodes 1).s:=⟨_,rfl⟩;obtain⟨_,bZ,_,jU⟩:=ZlQ (ZbE S.up S.clk S.sent (.slice ah nh ch) (.slice al nl cl)) eN (Zja _ _ _ _ _) Zhj (Zh3 _ _ _ _ _);have HP:Hid (ZgL (Zbz (x.nodes 1).s) w (.returned (.slice (some ⟨w.heap.size,0,none⟩) 2 2)) (setAll w2 w.heap.size 9 (ZbE S.up S.clk S.sent (.slice ah nh ch) (.slice al nl cl)).toList)):=by
    rw[←hS];exact ZH ⟨w.heap.size,_,_,u0,k0,n0,pg,ph,rfl,ZL _,rfl,⟨.slice ah nh ch,.slice al nl cl,rfl⟩,bZ,(ZaB cJ (g:=w.heap.size) (ZL _) 9 (ZbE S.up S.clk S.sent (.slice ah nh ch) (.slice al nl cl)).toList).below⟩
   rw[←hS];have AQ:=λ i=>eN.frozen i
   obtain⟨z0,y0⟩:=ZQ.1 (jU 0 ZO).1;obtain⟨z1,y1⟩:=ZQ.1 (jU 1 ZO).1;obtain⟨z2,y2⟩:=ZQ.1 (jU 2 ZO).1;obtain⟨z3,y3⟩:=ZQ.1 (jU 3 ZO).1;obtain⟨z4,y4⟩:=ZQ.1 (jU 4 ZO).1;obtain⟨z5,y5⟩:=ZQ.1 (jU 5 ZO).1;obtain⟨z6,y6⟩:=ZQ.1 (jU 6 ZO).1;obtain⟨z7,y7⟩:=ZQ.1 (jU 7 ZO).1;obtain⟨z8,y8⟩:=ZQ.1 (jU 8 ZO).1;simp only[Nat.reduceAdd,Nat.add_zero] at y0 y1 y2 y3 y4 y5 y6 y7 y8;have ce:=eN.lt;clear bZ cJ eN lM jh bW HC hS jU;go_wp2
   go_roundw
   case rel=>exact .inr (.inr ⟨rfl,HP⟩)
   case measure=>simp[intOf]
  ·go_wp2
   go_ret;exact HP.out
end
end
section
theorem ZoG(at_ oW:Option Addr)(nt ct ns cs:Nat)(u:Bool)(b l:Clk){ac:List Clk}(h:ac.length=5)(k:Int):prog.built 69 [(0,.slice at_ nt ct),(1,.slice oW ns cs),(2,Zc4 u b l ac),(3,.int .i64 k)]=some (ZbX (.slice at_ nt ct) (.slice oW ns cs) u b l ac k):=by
 obtain⟨a0,a1,a2,a3,a4,rfl⟩:=ZeN h;kernel_rfl
theorem ZjD(at_ oW:Option Addr)(nt ct ns cs:Nat)(u:Bool)(b l:Clk)(ac:List Clk)(k:Int):(ZbX (.slice at_ nt ct) (.slice oW ns cs) u b l ac k).all (·.oneCell')=true:=by
 rw[Array.all_eq_true_iff_forall_mem];intro v hv;unfold ZbX at hv;rw[Array.mem_append,Array.mem_append] at hv;rcases hv with (hv | hv) | hv
 ·simp at hv;rcases hv with rfl | rfl <;> rfl
 ·exact Array.all_eq_true_iff_forall_mem.1 (Zdq u b l ac) v hv
 ·simp at hv;rcases hv with rfl
  rfl
theorem Zim(vt vs:Value)(u:Bool)(b l:Clk){ac:List Clk}(h:ac.length=5)(k:Int):(ZbX vt vs u b l ac k).size=39:=by
 obtain⟨a0,a1,a2,a3,a4,rfl⟩:=ZeN h;kernel_rfl
def Zrx(S:SiteN)(w:World)(e:Ending)(w':World):Prop:=∃ at_ gs nt ct u b l ac k v0 v1 u0 c0 n0 pg ph,e = .returned (.agg (ZbX (.slice at_ nt ct) (.slice (some ⟨gs,0,none⟩) 2 2) u b l ac k))/\ac.length=5/\w.heap.size<=gs/\v0=ZbE u0 c0 n0 pg ph/\(∃ vh vl,v1=ZbE S.up S.clk S.sent vh vl)/\Blk w' gs 47 (v0.toList++v1.toList).toArray/\Below w.heap.size w w'
section
variable {own:Own}{t p m b:Nat}{w:World}{c:Cfg}{B:Bd}{x:WS}
theorem Zoc(h:WorldAt own t w p c x)(hf:Fresh own w)(hi:WInv c B m b x)(hc:c.Ok)(hm:m<=100)(hn:c.n=2)(at_:Option Addr)(nt ct:Nat):
  Calls prog 54 #[.int .i64 2,ptrV p,.slice at_ nt ct] w (Zrx (Zbz (x.nodes 1).s) w):=by
 have h5:=hc.n5;have hk:=(ZKr w).alloc (.cells ZaV 69);have hz:=ZBn w 69 ZaV;obtain⟨W0,gJ⟩:∃ W0,W0=w.alloc (.cells ZaV 69):=⟨_,rfl⟩;rw[←gJ] at hk hz;have hu:Upd (λ _=>False) own own w W0:=ZUb hk.below hf;obtain⟨HS,l5,HK,HZ,HW,HF,HI⟩:=ZH7 (Znq (h.upd hu (λ _ _ h=>h) (λ h=>h) h5) hu.fresh hi hc hm hn) gJ hk hz h hf hi;clear h hf hi hk hz gJ hu;go_enter func54,ntmps54
 go_wp2_with (first
  |(refine Zy rfl 69 rfl ZaV ZK ?_
    rw[←l5.out]))
 refine HS.out.mono ?_;rintro _ w1 ⟨gs,v0,v1,u0,c0,n0,pg,ph,rfl,yp,Gd,yW,jr,bS⟩;obtain⟨cE,mn,cL,xR,xS,Js⟩:=ZH6 (HK.out.step bS) (HZ.out.ob bS) jr Gd yW (ZT HK.out.le yp);have Jt:Hid (w.heap.size<gs):=ZH (ZR HZ.out.lt yp);have co:Upd (λ _=>False) own own w w1:=ZUb cE.out.below HF.out;obtain⟨u,bs,ln,ac,rq,tJ⟩:=HI.out.aV hc;have hH:=ZpX (HW.out.upd co (λ _ _ h=>h) (λ h=>h) h5) co.fresh HI.out hc hm;rw[rq] at hH;obtain⟨HH,H5⟩:=ZH2 hH tJ;clear yp Gd yW jr bS co rq tJ hH HS;go_wp2_with fail;refine HH.out.mono ?_;rintro _ w2 ⟨rfl,bW⟩;obtain⟨cr,pB,cH⟩:=ZH3 (cE.out.step bW) (mn.out.ob bW) (cL.out.ob bW);have cm:Upd (λ _=>False) own own w w2:=ZUb cr.out.below HF.out;have CM:=ZH (ZlY (HW.out.upd cm (λ _ _ h=>h) (λ h=>h) h5));clear bW cm HH;go_wp2_with fail;refine CM.out.mono ?_;rintro _ w3 ⟨rfl,bZ⟩;obtain⟨cC,rY,dj,G7⟩:=ZH4 (cr.out.step bZ) (pB.out.ob bZ) (cH.out.ob bZ) (ZoG at_ (some ⟨gs,0,none⟩) nt ct 2 2 u bs ln H5.out (x.link.length:Int));have jA:=Zil (.slice at_ nt ct) (.slice (some ⟨gs,0,none⟩) 2 2) u bs ln H5.out (x.link.length:Int);have dL:=Zim (.slice at_ nt ct) (.slice (some ⟨gs,0,none⟩) 2 2) u bs ln H5.out (x.link.length:Int);have dA:=ZjD at_ (some ⟨gs,0,none⟩) nt ct 2 2 u bs ln ac (x.link.length:Int);obtain⟨RA,jp⟩:∃ RA,RA=ZbX (.slice at_ nt ct) (.slice (some ⟨gs,0,none⟩) 2 2) u bs ln ac (x.link.length:Int):=⟨_,rfl⟩;rw[←jp] at G7 jA dL dA;have jH:=ZH jp;clear bZ CM jp
 go_wp2_with (first
  |(refine Zan rfl 69 _ rfl RA ?hf ?_
    case hf =>
     go_simp
     exact G7.out)
  |(refine wpList_store_row rfl 69 (.tmp 6) (.tmp 16) rfl w.heap.size RA rfl rfl 69 ZaV rY.out jA (by rw[dL];rfl) dA ?_))
 refine bodyPost_ret (Zac rfl rfl (run_loadVar_row _ _ _ _ _ _ _ (rY.out.row RA) Zop rfl jA)) rfl ?_;have dz:gs≠w.heap.size:=by have:=Jt.out;omega
 exact⟨at_,gs,nt,ct,u,bs,ln,ac,_,v0,v1,u0,c0,n0,pg,ph,by rw[jH.out],H5.out,Js.out,xR.out,xS.out,dj.out.aP dz _,(cC.out.row (ZL _) _).below⟩
end
end
section
theorem okS:Zcu.Ok:=by constructor <;> decide
theorem Zq7:(ZfS.nodes 0).s.up=true:=ZK
def Zl2(own:Own)(w:World)(e:Ending)(w':World):Prop:=∃ at_ gs nt ct u b l ac k v0 v1 u0 c0 n0 pg ph gl q0 q1 ps,e = .returned (.tuple #[.agg (ZbX (.slice at_ nt ct) (.slice (some ⟨gs,0,none⟩) 2 2) u b l ac k),.slice (some ⟨gl,0,none⟩) 2 2,.int .i64 0])/\ac.length=5/\v0=ZbE u0 c0 n0 pg ph/\(∃ un nn vh vl,v1=ZbE un ⟨1,0,0,0,0⟩ nn vh vl)/\Blk w' gs 47 (v0.toList++v1.toList).toArray/\Blk w' gl 38 #[q0,q1]/\ps.map (·.1.key)=[⟨#[99,121]⟩]/\ConRows 0 w' q1 ps/\∃ own',Upd (λ n=>n≠0) own own' w w'
theorem stS:StOk Zcu Zd7:=by
 refine⟨ZJ,.inl ZJ,?_,ZJ⟩;refine⟨ZJ,ZJ,?_,λ _=>⟨rfl,rfl⟩,λ h=>absurd h ZJ⟩;unfold KeyOk;decide
section
variable {own:Own}{t:Nat}{w:World}
theorem Zod(ht:0<t)(hf:Fresh own w){g:Nat}(hg:Blk w g 36 (Zaz Zd7))(gB:own g=0):
  Calls prog 27 #[ZdX Zcu,.slice (some ⟨g,0,none⟩) 1 1,.int .i64 2] w (Zl2 own w):=by
 have h5:=okS.n5;have hk:=((ZKr w).alloc (.cells (Zal Zcu) 23)).alloc (.cells ZaV 69);have hu:Upd (λ _=>False) own own w ((w.alloc (.cells (Zal Zcu) 23)).alloc (.cells ZaV 69)):=ZUb hk.below hf;have bZ:=(ZBn w 23 (Zal Zcu)).alloc (.cells ZaV 69);have eu:=ZBn (w.alloc (.cells (Zal Zcu) 23)) 69 ZaV;rw[World.size_alloc] at eu;obtain⟨W0,gJ⟩:∃ W0,W0=(w.alloc (.cells (Zal Zcu) 23)).alloc (.cells ZaV 69):=⟨_,rfl⟩;rw[←gJ] at hu bZ eu;obtain⟨kS,l5,HU,H3,H6⟩:=ZH5 (Zob ht hu.fresh okS stS (hg.ob (gJ▸hk.below)) gB) gJ hu bZ eu;have gV:Hid (own w.heap.size=0):=ZH (hf _ (ZL _));have mF:Hid (own (w.heap.size+1)=0):=ZH (hf _ ZO);obtain⟨c0,c1,c2,c3,c4,c5⟩:=bZ.aS;have wH:=bZ.lt;clear hf hg gB hk hu bZ eu gJ;go_enter func27,ntmps27
 go_wp2_with (first
  |(refine Zy rfl 69 rfl ZaV ZK ?_
    rw[←l5.out]))
 refine kS.out.mono ?_;rintro _ w1 ⟨tb,a,p,cF,gG,rfl,dl,co⟩;have e1:(Zab Zcu (Zfe Zcu) (Zu Zd7 tb)).1=(Zab Zcu (Zfe Zcu) Zd7).1:=by rw[gG ZJ];rfl
 rw[e1] at dl;obtain⟨B1,_,yr,_⟩:=(WInv.new Zcu).step okS ZO ZO stS;have AW:WInv Zcu B1 1 1 (Zab Zcu (Zfe Zcu) Zd7).1:=yr;have uI:=(ZKr w1).alloc (.cells #[ptrV p] 27);have uN:Upd (λ _=>False) cF cF w1 (w1.alloc (.cells #[ptrV p] 27)):=ZUb uI.below co.fresh;have eh:=ZlZ ht (dl.upd uN (λ _ _ h=>h) (λ h=>h) h5) uN.fresh AW okS ZO ZO 2 ZO;have Od:=H3.out.upd co (by rw[gV.out];rintro⟨h1,h2⟩;omega);have Oe:=H6.out.upd co (by rw[mF.out];rintro⟨h1,h2⟩;omega);obtain⟨ez,IY,QG⟩:=ZH3 eh (Od.ob uI.below) (Oe.ob uI.below);have JU:Hid (cF w.heap.size=0):=ZH ((co.old _ H3.out.lt).trans gV.out);have JV:Hid (cF (w.heap.size+1)=0):=ZH ((co.old _ H6.out.lt).trans mF.out);have Dl:Hid (cF w1.heap.size=0):=ZH (co.fresh _ (ZL _));obtain⟨xq,Kh⟩:=ZH2 (ZBn w1 27 #[ptrV p]) ((((HU.out.mono (λ _ h=>h.elim)).trans (co.mono (λ n h=>show n≠0 by have:=h.1;omega)):Upd (λ n=>n≠0) own cF w w1)).kept uI.below);obtain⟨B2,_,_,LG⟩:=AW.rounds okS ZO ZO 2;have Nq:Hid (WInv Zcu B2 1 1 ZfS):=ZH LG;clear gG dl co e1 yr AW uI uN eh Od Oe LG c0 c1 c2 c3 c4 c5 wH kS;go_wp2_with fail;obtain⟨b9,iM⟩:∃ b9,b9=w1.heap.size:=⟨_,rfl⟩;rw[←iM] at xq Dl ⊢;generalize w1.alloc (.cells #[ptrV p] 27)=W1 at *;clear iM;refine ez.out.mono ?_;rintro _ w2 ⟨rfl,cg,dK,cm⟩;have ya:∀ {g:Nat},cF g=0->¬ Zia t (cF g):=λ h=>by rw[h];rintro⟨h1,h2⟩;omega
 obtain⟨zh,M4,rR⟩:=ZH3 (IY.out.upd cm (ya JU.out)) (QG.out.upd cm (ya JV.out)) (xq.out.upd cm (ya Dl.out));have eJ:Hid (WorldAt cg t w2 p Zcu ZfS):=ZH dK;have iw:=ZH cm.fresh;have zT:Hid (Upd (λ n=>n≠0) own cg w w2):=ZH (Kh.out.trans (cm.mono (λ n h=>show n≠0 by have:=h.1;omega)));have Hq:=ZH (Znp (bx:=b9) eJ.out iw.out Nq.out okS ZO rfl Zq7 Zsb rR.out);obtain⟨c0,c1,c2,c3,c4,c5⟩:=zh.out.aS;have wH:=zh.out.lt;clear dK cm ya ez;go_wp2_with fail;refine Hq.out.mono ?_;rintro _ w3 ⟨gl,q0,q1,ps,rfl,eB,cQ,gj,cB,bZ⟩;have cO:Upd (λ _=>False) cg cg w2 w3:=ZUb bZ iw.out;obtain⟨nJ,iR,MZ,M5,M8,QZ,i8,ij,Ki⟩:=ZH9 (eJ.out.upd cO (λ _ _ h=>h) (λ h=>h) h5) cO.fresh (zh.out.ob bZ) (M4.out.ob bZ) (rR.out.ob bZ) cQ cB gj (zT.out.kept bZ);obtain⟨Jq,jN⟩:=ZH2 eB (Zoc nJ.out iR.out Nq.out okS ZO rfl (some a) 1 1);clear c0 c1 c2 c3 c4 c5 wH;obtain⟨c0,c1,c2,c3,c4,c5⟩:=MZ.out.aS;have wH:=MZ.out.lt;have Og:=M8.out.cell 0;simp only[ZD,ZE] at Og;have Si:=M8.out.lt;clear eB cQ gj cB bZ cO Hq;go_wp2_with fail;refine jN.out.mono ?_;rintro _ w4 ⟨at_,gs,nt,ct,u,bs,ln,ac,k,v0,v1,u0,k0,n0,pg,ph,rfl,rq,yp,Gd,⟨vh,vl,yW⟩,jr,cz⟩;have jA:=Zil (.slice at_ nt ct) (.slice (some ⟨gs,0,none⟩) 2 2) u bs ln rq k;have dL:=Zim (.slice at_ nt ct) (.slice (some ⟨gs,0,none⟩) 2 2) u bs ln rq k;have dA:=ZjD at_ (some ⟨gs,0,none⟩) nt ct 2 2 u bs ln ac k;have QJ:=ZH rq;obtain⟨RA,jp⟩:∃ RA,RA=ZbX (.slice at_ nt ct) (.slice (some ⟨gs,0,none⟩) 2 2) u bs ln ac k:=⟨_,rfl⟩;rw[←jp] at jA dL dA ⊢;obtain⟨jH,xR,xS,G3,fK,Js,M6,Jp,j8⟩:=ZH9 jp Gd yW jr cz yp (M5.out.ob cz) (QZ.out.ob cz) (i8.out.below cz);clear jp rq yp Gd yW jr cz c0 c1 c2 c3 c4 c5 wH Og Si jN
 go_wp2_with (first
  |(refine wpList_store_row rfl 69 (.tmp 6) (.tmp 35) rfl (w.heap.size+1) RA rfl rfl 69 ZaV M6.out jA (by rw[dL];rfl) dA ?_))
 refine bodyPost_ret (ZhA rfl rfl rfl rfl (run_loadVar_row _ _ _ _ _ _ _ (M6.out.row RA) Zop rfl jA)) rfl ?_;have h6l:=M5.out.lt;have h6l2:=M4.out.lt;have rF:gs≠w.heap.size+1:=by have:=Js.out;omega
 have L8:gl≠w.heap.size+1:=by have:=Jq.out;omega
 have cB:ConRows w2.heap.size (w4.setRow (w.heap.size+1) RA) q1 ps:=by
  have h0:=j8.out;have jf:∀ g,w2.heap.size<=g->(w4.setRow (w.heap.size+1) RA).heap[g]? = w4.heap[g]? := λ g hg=>setRow_other _ _ _ _ ZO
  exact⟨Zh h0.row (λ g hg _=>jf g (Zb h0.row hg).1),λ q hq=>Zh (h0.s0 q hq) (λ g hg _=>jf g (Zb (h0.s0 q hq) hg).1),λ q hq=>Zh (h0.s1 q hq) (λ g hg _=>jf g (Zb (h0.s1 q hq) hg).1)⟩
 refine⟨at_,gs,nt,ct,u,bs,ln,ac,k,v0,v1,u0,k0,n0,pg,ph,gl,q0,q1,ps,by rw[jH.out];rfl,QJ.out,xR.out,⟨_,_,vh,vl,by rw[xS.out,Zq6]⟩,G3.out.aP rF _,Jp.out.aP L8 _,?_,cB.mono (Nat.zero_le _),?_⟩
 ·have h1:=congrArg (List.map λ c:Con=>c.key) ij.out;rw[List.map_map] at h1;exact h1.trans ZpH
 ·exact⟨cg,(Ki.out.kept fK.out).setRow (λ h=>absurd h ZO) _⟩
end
end
section
theorem ZsF{ps:List (Con × Value × Value)}{k:ByteArray}(h:ps.map (λ p=>p.1.key)=[k]):∃ pr,ps=[pr]/\pr.1.key=k:=by
 cases ps with
 | nil=>simp at h
 | cons p l =>
  cases l with
  | nil=>exact⟨p,rfl,by simpa using h⟩
  | cons p2 l=>simp at h
theorem ZsM{w:World}{q:Value}{pr:Con × Value × Value}(h:ConRows 0 w q [pr]):∃ g cap,q = .slice (some ⟨g,0,none⟩) 1 cap/\g<w.heap.size/\w.cell? ⟨g,0,none⟩=some (.string pr.1.key):=by
 have hr:=h.row;obtain⟨a,n,cap,rfl⟩:=Zbg hr;rcases hr.2 with ⟨h1,h2⟩|⟨g2,dg,cur,h1,_⟩
 ·simp at h2
 ·simp only[Value.slice.injEq] at h1;obtain⟨rfl,rfl,rfl⟩:=h1;obtain⟨g,hg,eB,hc⟩:=Zby hr ZM;exact⟨g,cap,by rw[hg];rfl,eB,hc 0 (by simp[conCells])⟩
theorem ZrE(w:World):(Op.equalIn 10000 44 (.agg #[.int .i64 1,.int .i64 0,.int .i64 0,.int .i64 0,.int .i64 0]) (.agg #[.int .i64 1,.int .i64 0,.int .i64 0,.int .i64 0,.int .i64 0])).run prog w = .ok true w :=
 ZaO ⟨1,0,0,0,0⟩ ⟨1,0,0,0,0⟩ 9998 w
theorem ZoF:prog.built 44 [(0,.int .i64 1)]=some #[.int .i64 1,.int .i64 0,.int .i64 0,.int .i64 0,.int .i64 0]:=ZK
theorem Zok{w:World}{g:Nat}{A:Array Value}{un:Bool}{nn:Nat}{vh vl:Value}(hA:A.toList.length=9)(h:Blk w g 47 (A.toList++(ZbE un ⟨1,0,0,0,0⟩ nn vh vl).toList).toArray):w.cell? ⟨g,10,none⟩=some (.int .i64 1)/\w.cell? ⟨g,11,none⟩=some (.int .i64 0)/\w.cell? ⟨g,12,none⟩=some (.int .i64 0)/\w.cell? ⟨g,13,none⟩=some (.int .i64 0)/\w.cell? ⟨g,14,none⟩=some (.int .i64 0):=by
 have hc:∀ k v,(ZbE un ⟨1,0,0,0,0⟩ nn vh vl).toList[k]? = some v->w.cell? ⟨g,9+k,none⟩=some v:=λ k v hk=>by
  rw[h.cell,ZD,List.getElem?_append_right ZO,hA,show 9+k-9=k by omega];exact hk
 exact⟨hc 1 _ rfl,hc 2 _ rfl,hc 3 _ rfl,hc 4 _ rfl,hc 5 _ rfl⟩
theorem Zq3{w:World}{g:Nat}{vt vs:Value}{u:Bool}{b l:Clk}{ac:List Clk}{k:Int}(h:Blk w g 69 (ZbX vt vs u b l ac k)):w.cell? ⟨g,1,none⟩=some vs:=by
 rw[h.cell];unfold ZbX;rw[Array.append_assoc,Array.getElem?_append_left ZM];rfl
section
variable {own:Own}{w:World}
theorem ZsN(w:World):Calls prog 10 #[] w λ e w'=>e = .returned (.bool true)/\Below w.heap.size w w':=by
 go_enter func10,ntmps10;go_wp2_with fail;refine(Zmz w).mono ?_;rintro _ w1 ⟨rfl,bS⟩;have cL:=ZH bS;clear bS
 go_wp2_with (first
  |(refine Zy rfl 69 rfl ZaV ZK ?_)
  |(refine wpList_store_row rfl 69 (.tmp 1) (.tmp 9) rfl w1.heap.size ZaV rfl rfl 69 ZaV (ZBn w1 69 _) Zhd rfl ZK ?_))
 have bW:Below w1.heap.size w1 (((w1.alloc (.cells ZaV 69)).setRow w1.heap.size ZaV).alloc (.cells (Zaz Zd7) 36)):=((((ZKr w1).alloc (.cells ZaV 69)).row (ZL _) ZaV).alloc _).below;have gy:Blk (((w1.alloc (.cells ZaV 69)).setRow w1.heap.size ZaV).alloc (.cells (Zaz Zd7) 36)) (w1.heap.size+1) 36 (Zaz Zd7):=by
  have h:=ZBn ((w1.alloc (.cells ZaV 69)).setRow w1.heap.size ZaV) 36 (Zaz Zd7);rw[setRow_size,World.size_alloc] at h;exact h
 have wX:w.heap.size<=(((w1.alloc (.cells ZaV 69)).setRow w1.heap.size ZaV).alloc (.cells (Zaz Zd7) 36)).heap.size:=ZT cL.out.size bW.size;refine(Zod (own:=λ _=>0) (t:=1) ZO (λ _ _=>rfl) gy rfl).mono ?_;rintro _ w2 ⟨at_,gs,nt,ct,u,b,l,ac,k,v0,v1,u0,c0,n0,pg,ph,gl,q0,q1,ps,rfl,rq,rfl,⟨un,nn,vh,vl,rfl⟩,jr,eB,ev,cB,ownS,dL⟩;have uv:Hid (Kept w.heap.size w w2):=ZH (((Kept.start cL.out).trans ⟨bW,bW.size⟩ cL.out.size).trans ⟨⟨dL.os,dL.tape,dL.output,dL.size,λ b h=>dL.same b h (λ h=>h rfl)⟩,dL.size⟩ wX);obtain⟨pr,rfl,yu⟩:=ZsF ev;obtain⟨gq,cq,rfl,LD,rL⟩:=ZsM cB;rw[yu] at rL;obtain⟨s0,s1,s2,s3,s4⟩:=Zok (Zja _ _ _ _ _) jr;have eD:=jr.lt;have nP:=eB.cell 1;simp only[ZD,ZE,ZG] at nP;have LB:=eB.lt;have jA:=Zil (.slice at_ nt ct) (.slice (some ⟨gs,0,none⟩) 2 2) u b l rq k;have wZ:=Zim (.slice at_ nt ct) (.slice (some ⟨gs,0,none⟩) 2 2) u b l rq k;have dA:=ZjD at_ (some ⟨gs,0,none⟩) nt ct 2 2 u b l ac k;have IC:=((ZKr w2).alloc (.cells ZaV 69)).row (ZL _) (ZbX (.slice at_ nt ct) (.slice (some ⟨gs,0,none⟩) 2 2) u b l ac k);have Iw:Blk ((w2.alloc (.cells ZaV 69)).setRow w2.heap.size (ZbX (.slice at_ nt ct) (.slice (some ⟨gs,0,none⟩) 2 2) u b l ac k)) w2.heap.size 69 (ZbX (.slice at_ nt ct) (.slice (some ⟨gs,0,none⟩) 2 2) u b l ac k):=(ZBn w2 69 ZaV).row _;have eh:=Zq3 Iw;have kX:=Iw.lt;obtain⟨RA,jp⟩:∃ RA,RA=ZbX (.slice at_ nt ct) (.slice (some ⟨gs,0,none⟩) 2 2) u b l ac k:=⟨_,rfl⟩;rw[←jp] at jA wZ dA IC Iw eh kX ⊢;have mu:=IC.cells;rw[←mu gq 0 LD] at rL;rw[←mu gs 10 eD] at s0;rw[←mu gs 11 eD] at s1;rw[←mu gs 12 eD] at s2;rw[←mu gs 13 eD] at s3;rw[←mu gs 14 eD] at s4;rw[←mu gl 1 LB] at nP;have Q6:=ZH (uv.out.trans IC (ZT wX dL.size)).below;have AG:=ZrE;have bS:=ZoF;clear mu IC Iw jp jr eB ev yu cB dL wX bW gy uv
 go_wp2_with (first
  |(refine Zy rfl 69 rfl ZaV ZK ?_)
  |(refine wpList_store_row rfl 69 (.tmp 3) (.tmp 17) rfl w2.heap.size RA rfl rfl 69 ZaV (ZBn w2 69 _) jA (by rw[wZ];rfl) dA ?_))
 go_ret;exact⟨rfl,Q6.out⟩
end
end
section
def own0:Own:=λ _=>0
structure In(own:Own)(t:Nat)(w0 wr:World)(p:Nat)(c:Cfg)(q:Nat)(B:Bd)(x:WS):Prop where
 at_:WorldAt own t wr p c x
 inv:WInv c B q q x
 upd:Upd (λ n=>n≠0) own0 own w0 wr
section
variable {own own':Own}{t p q b k:Nat}{w0 wr w':World}{c:Cfg}{B:Bd}{x:WS}{v:Value}{ss:List St}{s:St}{T:Nat->Prop}
theorem In.fresh(h:In own t w0 wr p c q B x):Fresh own wr:=h.upd.fresh
theorem In.below(h:In own t w0 wr p c q B x)(hc:c.Ok)(hb:Below wr.heap.size wr w'):In own t w0 w' p c q B x :=
 ⟨h.at_.upd (ZUb (T:=λ _=>False) hb h.fresh) (λ _ _ h=>h) (λ h=>h) hc.n5,h.inv,h.upd.kept hb⟩
theorem In.all(h:In own t w0 wr p c q B x):Below w0.heap.size w0 wr :=
 ⟨h.upd.os,h.upd.tape,h.upd.output,h.upd.size,λ b hb=>h.upd.same b hb (λ h=>h rfl)⟩
theorem In.other(h:In own t w0 wr p c q B x)(hc:c.Ok)(hu:Upd T own own' wr w')(hT:∀ n,Zp t n->¬ T n)(h0:¬ T 0):In own' t w0 w' p c q B x :=
 ⟨h.at_.upd hu hT h0 hc.n5,h.inv,h.upd.trans (hu.mono λ n hn=>show n≠0 from λ e=>h0 (e▸hn))⟩
theorem In.step(ht:0<t)(h:In own t w0 wr p c q B x)(hc:c.Ok)(hq:q<=99)(hs:StOk c s){e:Ending}(hp:ZdI own t p c wr s (Zab c x) e w'):
  ∃ tb own' B',(s.kind≠7->tb=s.turned)/\e = .returned (.int .i64 (Zab c x (Zu s tb)).2)/\In own' t w0 w' p c (q+1) B' (Zab c x (Zu s tb)).1/\Upd (Zp t) own own' wr w'/\B.le B' /\
   ((Zab c x (Zu s tb)).1.hub.s.up=false->B'.hub=B.hub):=by
 obtain⟨tb,gG,rfl,own',hw,hu⟩:=hp;have Mr:StOk c (Zu s tb):=⟨hs.kind,hs.r,hs.edit,hs.mask⟩;obtain⟨B',hB,hi,hd⟩:=h.inv.step hc ZO ZO Mr;exact⟨tb,own',B',gG,rfl,⟨hw,hi.more (by split <;> omega) (ZL _),h.upd.trans (hu.mono λ n hn=>show n≠0 by have:=hn.1;omega)⟩,hu,hB,hd⟩
theorem In.bH(ht:0<t)(h:In own t w0 wr p c q B x)(hc:c.Ok)(hq:q<=99)(hs:StOk c s):Calls prog 14 #[ptrV p,ZkP s] wr (ZdI own t p c wr s (Zab c x)) :=
 Zjh ht h.at_ h.fresh h.inv hc ZO ZO hs
theorem nw0:¬ Zp 1 0:=λ h=>absurd h.1 ZJ
theorem In.new{w1:World}(ht:0<t)(hk:Kept w0.heap.size w0 wr)(hw:WorldAt own t w1 p c (Zfe c))(hu:Upd (Zp t) own0 own wr w1):In own t w0 w1 p c 0 ⟨λ _=>0,λ _=>0⟩ (Zfe c) :=
 ⟨hw,WInv.new c,((ZUb hk.below (λ _ _=>rfl):Upd (λ n=>n≠0) own0 own0 w0 wr)).trans (hu.mono λ n hn=>show n≠0 by have:=hn.1;omega)⟩
abbrev Zs0:Array Value:=#[.int .i64 0,.int .i64 0,.int .i64 0,.int .i64 0,.int .i64 0,.int .i64 0]
theorem ZsP(c:Cfg):(prog.info? 23).map (λ i=>i.size)=some (Zal c).size:=ZK
theorem ZsS(c:Cfg):(Zal c).all (·.oneCell')=true:=ZK
end
end
end Go.Proofs.YtjkfognelhiepaaGreat
