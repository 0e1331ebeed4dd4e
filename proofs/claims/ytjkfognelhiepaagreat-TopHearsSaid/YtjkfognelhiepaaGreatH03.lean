import Derived.Test.YtjkfognelhiepaaGreatH02
namespace Go.Proofs.YtjkfognelhiepaaGreat
open Go.RowKit _root_.Go.Proofs.Tryz
set_option maxRecDepth 100000
set_option maxHeartbeats 8000000
theorem WInv.a8{c:Cfg}{B:Bd}{m b:Nat}{x:WS}(h:WInv c B m b x)(hc:c.Ok):∃ u k l ac,Zcl x.hub.s.up x.hub.s.sh x.hub.s.told=Zc4 u k l ac/\ac.length=5/\l=Zs8 x.hub.s/\u=x.hub.s.up:=by
 unfold Zcl Zs8
 cases hu:x.hub.s.up with
 | true =>
  simp only[if_true];refine⟨_,_,_,_,rfl,?_,rfl,rfl⟩;obtain⟨H,hH,hi,_⟩:=h.hub;obtain⟨_,_,g3⟩:=hi.up hu;have hl:=hi.inv.len2;rw[g3] at hl;have h5:=hc.n5;exact ZcT (by simp only at hl;omega)
 | false =>
  simp only[Bool.false_eq_true,if_false];exact⟨_,_,_,_,rfl,ZM,rfl,rfl⟩
theorem Zs2(u:Bool)(k:Clk)(sent:Nat)(vh vl:Value)(w:World):(Instr.field 47 (Zhz u k sent vh vl) 1).run prog w = .ok (Za2 k) w:=ZK
theorem Zs3(u:Bool)(k:Clk)(sent:Nat)(vh vl:Value)(w:World):(Instr.field 47 (Zhz u k sent vh vl) 0).run prog w = .ok (.bool u) w:=ZK
theorem Zs9(u:Bool)(b l:Clk){acks:List Clk}(h:acks.length=5)(w:World):(Instr.field 56 (Zc4 u b l acks) 0).run prog w = .ok (.bool u) w:=by
 obtain⟨a0,a1,a2,a3,a4,rfl⟩:=ZgX h;kernel_rfl
theorem Ztd{w:World}{a:Option Addr}{n cap:Nat}{ss:List RawSt}(x0 x1 x2 x3 x4 x5:Int)(hr:Reads w w.heap.size 10 a n (ss.flatMap Zdi))(hn:n=ss.length)(bt:∀ s∈ss,RawOk s)(cp:n<9223372036854775807):
  Calls prog 8 #[.agg #[.int .i64 x0,.int .i64 x1,.int .i64 x2,.int .i64 x3,.int .i64 x4,.int .i64 x5],.slice a n cap] w λ e w'=>e = .returned (.bool true)/\Below w.heap.size w w':=by
 obtain⟨dQ,dJ,HR,HN,db⟩:=ZH5 ((ZKr w).alloc (.cells #[.int .i64 x0,.int .i64 x1,.int .i64 x2,.int .i64 x3,.int .i64 x4,.int .i64 x5] 23)) (ZBn w 23 #[.int .i64 x0,.int .i64 x1,.int .i64 x2,.int .i64 x3,.int .i64 x4,.int .i64 x5]) hr hn bt;clear hr hn bt;go_enter func8,ntmps8;go_wp2_with fail;refine(ZsN _).mono ?_;rintro _ w1 ⟨rfl,aF⟩;have dR:=ZH (dQ.out.step aF);have df:=dJ.out.ob aF;obtain⟨c0,c1,c2,c3,c4,c5⟩:=df.aS;have eX:=df.lt;clear aF df dQ dJ;go_wp2_with fail;refine(ZsY x0 x1 x2 x3 x4 x5 w1).mono ?_;rintro _ w2 ⟨rfl,cn⟩;have bt:=ZsU x0 x1 x2 x3 x4 x5;obtain⟨c,hc⟩:∃ c,c=Znt x0 x1 x2 x3 x4 x5:=⟨_,rfl⟩;rw[←hc] at bt ⊢;obtain⟨ap,aV⟩:=ZH2 bt (dR.out.step cn);have cO:Blk ((w2.alloc (.cells Zs0 23)).setRow w2.heap.size (Zal c)) w2.heap.size 23 (Zal c):=(ZBn w2 23 Zs0).row _;have ep:=((ZKr w2).alloc (.cells Zs0 23)).row (ZL _) (Zal c);clear cn hc bt dR c0 c1 c2 c3 c4 c5 eX;obtain⟨c0,c1,c2,c3,c4,c5⟩:=cO.aS;have eZ:=cO.lt;obtain⟨cT,bw⟩:=ZH2 cO (aV.out.trans ep aV.out.le);clear cO ep aV
 go_wp2_with (first
  |(refine Zy rfl 23 rfl Zs0 ZK ?_)
  |(refine wpList_store_row rfl 23 (.tmp 6) (.tmp 20) rfl w2.heap.size (Zal c) rfl rfl 23 Zs0 (ZBn w2 23 _) (ZsP c) rfl (ZsS c) ?_))
 refine(ZpY (own:=own0) (t:=1) ZO (λ _ _=>rfl) ap.out).mono ?_;rintro _ w3 ⟨p,bu,rfl,eD,cB⟩;have bb:Blk w3 w2.heap.size 23 (Zal c):=cT.out.upd cB (show ¬ Zp 1 (own0 w2.heap.size) from nw0);have bU:bu w2.heap.size=0:=cB.old _ cT.out.lt;obtain⟨b6,ee⟩:∃ b6,b6=w2.heap.size:=⟨_,rfl⟩;rw[←ee] at bb bU ⊢;obtain⟨aL,dN⟩:=ZH2 (In.new ZO bw.out eD cB) (cB.fresh);have eY:=bb.lt;obtain⟨bJ,cj⟩:=ZH2 bb bU;clear eD cB ee bU cT bw c0 c1 c2 c3 c4 c5 eZ;obtain⟨c0,c1,c2,c3,c4,c5⟩:=bb.aS;clear bb;have du:=((ZKr w3).alloc (.cells (clkArr ZCz) 44)).alloc (.cells (clkArr ZCz) 44);have bD:=(ZBn w3 44 (clkArr ZCz)).alloc (.cells (clkArr ZCz) 44);have br:=ZBn (w3.alloc (.cells (clkArr ZCz) 44)) 44 (clkArr ZCz);rw[World.size_alloc] at br;have bi:Upd (λ _=>False) bu ((bu.at_ w3.heap.size 900000).at_ (w3.heap.size+1) 900000) w3 ((w3.alloc (.cells (clkArr ZCz) 44)).alloc (.cells (clkArr ZCz) 44)) :=
  ((ZUb (T:=λ _=>False) du.below dN.out).am (ZL _) bD.lt 900000).am (Nat.le_succ _) br.lt 900000
 obtain⟨bj,aN⟩:∃ o,o=(bu.at_ w3.heap.size 900000).at_ (w3.heap.size+1) 900000:=⟨_,rfl⟩;have ev:bj w3.heap.size=900000:=by rw[aN];unfold Own.at_;simp
 have ew:bj (w3.heap.size+1)=900000:=by rw[aN];unfold Own.at_;simp
 rw[←aN] at bi;have be:=aL.out.other ap.out bi (λ _ _ h=>h) (λ h=>h);obtain⟨cc,ck,eM,aP,dK,dL,dT,dU,dO⟩:=ZH9 (bJ.out.upd bi (λ h=>h)) ((bi.old _ bJ.out.lt).trans cj.out) du be bD br ev ew bi.fresh;clear du bD br aN ev ew bi be;go_wp2_with fail;have cA:=(HR.out.below aP.out.all).more (B':=((w3.alloc (.cells (clkArr ZCz) 44)).alloc (.cells (clkArr ZCz) 44)).heap.size) aP.out.all.size;refine(Zth cA HN.out db.out ap.out.n1 ap.out.n5 cp).mono ?_;rintro _ w5 ⟨v,rfl,bV,co⟩;have bW:=Ztg ap.out db.out;have dH:=Ztf c.n ss;obtain⟨l0,er⟩:∃ l0,l0=Zs7 c.n ss:=⟨_,rfl⟩;rw[←er] at bV bW dH;have bT:=Loc.make cc.out ck.out dO.out bV co;have bL:=ZH (aP.out.below ap.out co);obtain⟨av,cv,rfl⟩:=bT.slice;obtain⟨bh,bD⟩:∃ bh,bh=w3.heap.size:=⟨_,rfl⟩;obtain⟨bo,br⟩:∃ bo,bo=w3.heap.size+1:=⟨_,rfl⟩;have HH:Hid (Blk w5 bh 44 (clkArr ZCz)/\bj bh=900000):=ZH (by rw[bD];exact⟨dK.out.ob co,dT.out⟩);have HO:Hid (Blk w5 bo 44 (clkArr ZCz)/\bj bo=900000):=ZH (by rw[br];exact⟨dL.out.ob co,dU.out⟩);have dS:Hid (bh≠bo):=ZH (by rw[bD,br];omega);rw[←br,←bD];obtain⟨aR,dd⟩:=ZH2 bT bW;clear bV co er bT bW cA bD br aP cc ck dO dK dL dT dU eM aL bJ cj dN HR HN db c0 c1 c2 c3 c4 c5 eY;go_wp2_with fail;go_loopw [12] (λ i wr=>∃ (q:Nat) (own:Own) (B:Bd) (x:WS) (bC ow:Clk),q<=l0.length/\i = .int .i64 q/\Hid (In own 1 w wr p c q B x)/\Hid (Loc own wr b6 c 0 (.slice av l0.length cv) l0)/\Hid (Blk wr bh 44 (clkArr bC)/\own bh=900000)/\Hid (Blk wr bo 44 (clkArr ow)/\own bo=900000)/\Hid (∀ k,k<c.n->B.hub k<=bC.get k)) (λ i _=>l0.length-(intOf i).toNat)
 case atStart=>exact⟨0,bj,_,_,_,_,ZO,rfl,bL,aR,HH,HO,ZH (λ _ _=>Nat.zero_le _)⟩
 case round =>
  clear bL aR HH HO;obtain⟨q,own,B,x,bC,ow,hq,rfl,bL,aR,HH,HO,dP⟩:=hrel;by_cases dA:q<l0.length
  ·obtain⟨s,dE⟩:∃ s,l0[q]? = some s:=⟨_,ZX dA⟩;have cL:=ZH (dd.out s (ZY dE));obtain⟨g,cap2,hv,dq,hc⟩:=aR.out.step dE;obtain rfl:av=some ⟨g,0,none⟩:=by injection hv
   have d0:=hc 0 _ rfl;have d1:=hc 1 _ rfl;have d2:=hc 2 _ rfl;have d3:=hc 3 _ rfl;have d4:=hc 4 _ rfl;have d5:=hc 5 _ rfl;have d6:=hc 6 _ rfl;have d7:=hc 7 _ rfl;have d8:=hc 8 _ rfl;have d9:=hc 9 _ rfl;simp only[Nat.add_zero] at d0;clear dE hv hc;go_wp2_with fail;refine(bL.out.bH ZO ap.out ZO cL.out).mono ?_;intro e6 w6 hp;obtain⟨tb,ay,B6,fc,rfl,bS,cb,dg,aM⟩:=bL.out.step ZO ap.out ZO cL.out hp;obtain⟨x6,eE⟩:∃ x6,x6=(Zab c x (Zu s tb)).1:=⟨_,rfl⟩;rw[←eE] at bS aM;have bz:=ZH (aR.out.upd cb nw0 nw0);have cV:Hid (Blk w6 bh 44 (clkArr bC)/\ay bh=900000):=ZH ⟨HH.out.1.upd cb (by rw[HH.out.2];exact nwk),(cb.old _ HH.out.1.lt).trans HH.out.2⟩;have cY:Hid (Blk w6 bo 44 (clkArr ow)/\ay bo=900000):=ZH ⟨HO.out.1.upd cb (by rw[HO.out.2];exact nwk),(cb.old _ HO.out.1.lt).trans HO.out.2⟩;obtain⟨aH,bB⟩:=ZH2 bS aM;clear hp fc bS cb dg aM eE d0 d1 d2 d3 d4 d5 d6 d7 d8 d9 dq bL aR HH HO;go_wp2_with fail;refine(ZpX aH.out.at_ aH.out.fresh aH.out.inv ap.out ZO).mono ?_;rintro _ w7 ⟨rfl,cN⟩;obtain⟨u,kb,ln,ac,dk,cP,es,ey⟩:=aH.out.inv.a8 ap.out;obtain⟨HA,b3⟩:∃ HA,HA=Zt u kb ln ac:=⟨_,rfl⟩;obtain⟨HZ,dh⟩:∃ HZ,HZ=Zto:=⟨_,rfl⟩;obtain⟨cD,cK⟩:=ZH2 dk cP;rw[dk,show Zc4 u kb ln ac = .agg HA by rw[b3];rfl];have cx:=(((ZKr w6).step cN).alloc (.cells HZ 56)).row ((ZKr w6).step cN).le HA;have cG:Hid (Blk ((w7.alloc (.cells HZ 56)).setRow w7.heap.size HA) w7.heap.size 56 HA):=ZH ((ZBn w7 56 HZ).row _);have da:Hid (ay w7.heap.size=0):=ZH (aH.out.fresh _ cN.size);have cw:(prog.info? 56).map (λ i=>i.size)=some HA.size:=by rw[b3];exact ZbR _ _ _ cP
   have cQ:HA.size=HZ.size:=by rw[b3,dh];simp only[Zcb,cP,List.length_replicate]
   have cz:HA.all (·.oneCell')=true:=by rw[b3];exact Zdq _ _ _ _
   have eF:(prog.info? 56).map (λ i=>i.zero)=some (some (.agg HZ)):=by rw[dh];kernel_rfl
   obtain⟨bM,aY⟩:=ZH2 (aH.out.below ap.out cx.below) (bz.out.below aH.out.fresh cx.below);have cW:Hid (Blk ((w7.alloc (.cells HZ 56)).setRow w7.heap.size HA) bh 44 (clkArr bC)/\ay bh=900000):=ZH ⟨cV.out.1.ob cx.below,cV.out.2⟩;have cZ:Hid (Blk ((w7.alloc (.cells HZ 56)).setRow w7.heap.size HA) bo 44 (clkArr ow)/\ay bo=900000):=ZH ⟨cY.out.1.ob cx.below,cY.out.2⟩;obtain⟨aq,cf,dV,bp,dW,cX,eU⟩:=ZH7 b3 cw cQ cz eF es ey;clear cN dk cx cP b3 dh cw cQ cz eF es ey aH bz cV cY
   go_wp2_with (first
    |(refine Zy rfl 56 rfl HZ dW.out ?_)
    |(refine wpList_store_row rfl 56 (.tmp 13) (.tmp 51) rfl w7.heap.size HA rfl rfl 56 HZ (ZBn w7 56 HZ) cf.out dV.out.symm bp.out ?_))
   obtain⟨hb,el⟩:∃ hb,hb=w7.heap.size:=⟨_,rfl⟩;obtain⟨W8,eb⟩:∃ W8,W8=(w7.alloc (.cells HZ 56)).setRow w7.heap.size HA:=⟨_,rfl⟩;rw[←eb] at bM aY cW cZ cG ⊢;rw[←el] at cG da ⊢;have HB:Hid (Blk W8 hb 56 (Zt u kb ln ac)/\ay hb=0):=ZH ⟨by rw[←aq.out];exact cG.out,da.out⟩;clear eb el cf dV bp dW aq cG da;go_loopw [14] (λ i bv=>∃ (k:Nat) (an aG:Clk),k<=c.n/\i = .int .i64 k/\Hid (In ay 1 w bv p c (q+1) B6 x6)/\Hid (Loc ay bv b6 c 0 (.slice (some ⟨g,0,none⟩) l0.length cv) l0)/\Hid (Blk bv bh 44 (clkArr an)/\ay bh=900000)/\Hid (Blk bv bo 44 (clkArr aG)/\ay bo=900000)/\Hid (Blk bv hb 56 (Zt u kb ln ac)/\ay hb=0)/\Hid (∀ j,j<c.n->bC.get j<=an.get j)/\Hid (∀ j,j<k->ln.get j<=an.get j)) (λ i _=>c.n-(intOf i).toNat)
   case atStart=>exact⟨0,bC,ow,ZO,rfl,bM,aY,cW,cZ,HB,ZH (λ _ _=>ZL _),ZH (λ j hj=>ZO)⟩
   case round =>
    clear bM aY cW cZ HB;obtain⟨k,an,aG,hk,rfl,aI,az,bl,b0,bK,cd,cH⟩:=hrel;have cu:=az.out.blk.cell 0;simp only[ZD,ZE] at cu;have dn:=az.out.blk.lt;have fb:=ap.out.n5;by_cases aU:k<c.n
    ·have q1:=bl.out.1.clk (i:=k) ZO;have q2:=bK.out.1.hubLen (i:=k) ZO;have ef:=bl.out.1.frozen k;have hlh:=bl.out.1.lt;have hlb:=bK.out.1.lt;have k0:(0:Int)<=(k:Int):=ZO;have k5:(k:Int)<5:=ZO;have hmx:(if an.get k<ln.get k then(ln.get k:Int) else(an.get k:Int))=((max (an.get k) (ln.get k):Nat):Int):=by split <;> omega
     have hmx2:max (an.get k:Int) (ln.get k:Int)=((max (an.get k) (ln.get k):Nat):Int):=ZO;have dr:=bl.out.1.ai k (.int .i64 ((max (an.get k) (ln.get k):Nat):Int));rw[ZeJ _ (by omega:k<5)] at dr;have cR:Upd (λ n=>n=900000) ay ay wr (wr.setCell ⟨bh,k,none⟩ (.int .i64 ((max (an.get k) (ln.get k):Nat):Int))):=(Upd.refl _ ay wr aI.out.fresh).setCell (λ _=>bl.out.2) _;have eu:=b0.out.1.far (p:=⟨bh,k,none⟩) (show bo≠bh from dS.out.symm) (.int .i64 ((max (an.get k) (ln.get k):Nat):Int));obtain⟨bn,aX⟩:=ZH2 (aI.out.other ap.out cR (λ n hn e=>nwk (e▸hn)) (λ e=>absurd e ZJ)) (az.out.upd cR (λ e=>absurd e ZJ) (λ e=>absurd e ZJ));have cn:=bK.out.1.upd cR (by rw[bK.out.2];exact λ e=>absurd e ZJ);obtain⟨cI,bO,cE⟩:=ZH3 (And.intro dr bl.out.2) (And.intro eu b0.out.2) (And.intro cn bK.out.2)
     have eJ:Hid (∀ j,j<c.n->bC.get j<=(an.set k (max (an.get k) (ln.get k))).get j):=ZH (λ j hj=>by
      by_cases e:k=j
      ·subst e;rw[Clk.aD _ ZO];have:=cd.out k hj;omega
      ·rw[Clk.aB _ e];exact cd.out j hj)
     have eK:Hid (∀ j,j<k+1->ln.get j<=(an.set k (max (an.get k) (ln.get k))).get j):=ZH (λ j hj=>by
      by_cases e:k=j
      ·subst e;rw[Clk.aD _ ZO];omega
      ·rw[Clk.aB _ e];exact cH.out j ZO)
     clear dr cR eu cn aI az bl b0 bK cd cH;generalize an.set k (max (an.get k) (ln.get k))=dl at *;go_wp2_with fail;go_still_tail 10,ZK
     change wpList _ _ _ _ _ wr.drew
     go_wp2_with fail;obtain⟨w1,eC⟩:∃ w1,w1=wr.setCell ⟨bh,k,none⟩ (.int .i64 ((max (an.get k) (ln.get k):Nat):Int)):=⟨_,rfl⟩;rw[←eC] at bn aX cI bO cE ⊢;clear eC;have b7:=(ZKr w1).drew;obtain⟨aL,bx,cU,bZ,cF⟩:=ZH5 (bn.out.below ap.out b7.below) (aX.out.below bn.out.fresh b7.below) (And.intro (cI.out.1.ob b7.below) cI.out.2) (And.intro (bO.out.1.ob b7.below) bO.out.2) (And.intro (cE.out.1.ob b7.below) cE.out.2);clear bn aX cI bO cE b7;generalize w1.drew=W at *;refine ZSi [(0,3),(1,3),(2,3),(3,0),(4,3),(5,3),(8,3),(6,1),(7,3),(9,0),(10,1),(11,3),(12,2)] λ ab=>?_
     repeat((first | refine ZSa ?_ | refine ZSb ?_ | (refine Zf rfl (by rfl) (λ w' ae=>by(have q1:=(bZ.out.1.ob ae.below).clk (i:=k) ZO);(have q2:=(bZ.out.1.ob ae.below).lt);go_simp;with_reducible rfl) ?_));simp only[Act.put,ZA,ZB,ZC])
     refine ZSd λ K hK=>?_
     go_simp;have aj:=aL.out.below ap.out ab.below;refine(Zjg aj.at_ aj.fresh aj.inv ap.out ZO aU).mono ?_;rintro _ ws ⟨vh,vl,rfl,_,_,b5⟩;refine hK.out (λ w'=>Kept W.heap.size W w') _ _ (λ _ h=>h) (ab.step b5) (λ aZ=>?_);clear hK K ab b5 aj;generalize Zbz (x6.nodes k).s=S at *;have hfs:=λ w=>Zs2 S.up S.clk S.sent vh vl w
     have em:=λ w=>Zah S.clk k ZO w
     repeat((first | refine ZSa ?_ | refine ZSb ?_ | refine ZSc ?_);simp only[Act.put,ZA,ZB,ZC])
     have e8:max (aG.get k:Int) (S.clk.get k:Int)=((max (aG.get k) (S.clk.get k):Nat):Int):=ZO;have e9:(if aG.get k<S.clk.get k then(S.clk.get k:Int) else(aG.get k:Int))=((max (aG.get k) (S.clk.get k):Nat):Int):=by split <;> omega
     refine ZSd λ K hK=>?_
     go_simp;refine hK.out (λ w'=>Kept W.heap.size W w') _ _ (λ _ h=>h) aZ (λ aE=>?_);clear hK K aZ;have dY:=ZH (cU.out.1.ob aE.below);have cm:=bZ.out.1.ob aE.below;obtain⟨bN,bA,dM⟩:=ZH3 (aL.out.below ap.out aE.below) (bx.out.below aL.out.fresh aE.below) (cF.out.1.ob aE.below);have ef:=cm.frozen k;have hlo:=cm.lt;have hoc:=cm.clk (i:=k) ZO;have dy:=cm.ai k (.int .i64 ((max (aG.get k) (S.clk.get k):Nat):Int));rw[ZeJ _ (by omega:k<5)] at dy;have bi:Upd (λ n=>n=900000) ay ay ws (ws.setCell ⟨bo,k,none⟩ (.int .i64 ((max (aG.get k) (S.clk.get k):Nat):Int))):=(Upd.refl _ ay ws bN.out.fresh).setCell (λ _=>bZ.out.2) _;have ej:=dY.out.far (p:=⟨bo,k,none⟩) (show bh≠bo from dS.out) (.int .i64 ((max (aG.get k) (S.clk.get k):Nat):Int));have be:=bN.out.other ap.out bi (λ n hn e=>nwk (e▸hn)) (λ e=>absurd e ZJ);have ci:=ZH (bA.out.upd bi (λ e=>absurd e ZJ) (λ e=>absurd e ZJ));have ed:=dM.out.upd bi (by rw[cF.out.2];exact λ e=>absurd e ZJ);obtain⟨aP,eL,eO,eI⟩:=ZH4 be (And.intro ej cU.out.2) (And.intro dy bZ.out.2) (And.intro ed cF.out.2);clear ej bi dy be ed cm dY bN bA dM aL bx cU bZ cF;repeat((first | refine ZSa ?_ | refine ZSb ?_ | refine ZSc ?_);simp only[Act.put,ZA,ZB,ZC])
     refine ZSe λ K hK=>?_
     go_simp;refine hK.out _ _ ?_;clear hK K;refine ZSf ?_;go_wp2
     go_roundw
     case rel=>exact⟨k+1,dl,_,ZO,ZN,aP,ci,eL,eO,eI,eJ,eK⟩
     case measure=>simp[intOf];omega
    ·obtain rfl:k=c.n:=ZO;have ei:∀ j,j<c.n->B6.hub j<=an.get j:=λ j hj=>by
      cases hu:x6.hub.s.up with
      | true =>
       have h1:=aI.out.inv.a9 ap.out hu j;have h2:=cH.out j hj;rw[cX.out] at h2;omega
      | false =>
       have h1:=bB.out hu;rw[h1];exact ZT (dP.out j hj) (cd.out j hj)
     have ce:=ZH ei;clear ei cd cH dP bB;go_wp2_with fail;go_loopw [15] (λ i bv=>∃ k:Nat,k<=c.n/\i = .int .i64 k/\Hid (Kept wr.heap.size wr bv)) (λ i _=>c.n-(intOf i).toNat)
     case atStart=>exact⟨0,ZO,rfl,ZH (ZKr _)⟩
     case round =>
      clear cu dn;obtain⟨k,hk,rfl,HK⟩:=hrel;have ct:=(az.out.blk.ob HK.out.below).cell 0;simp only[ZD,ZE] at ct;have b4:=(az.out.blk.ob HK.out.below).lt;by_cases aU:k<c.n
      ·go_wp2_with fail;go_loopw [16] (λ i bv=>∃ r:Nat,r<=c.n/\i = .int .i64 r/\Hid (Kept wr.heap.size wr bv)) (λ i _=>c.n-(intOf i).toNat)
       case atStart=>exact⟨0,ZO,rfl,ZH (ZKr _)⟩
       case round =>
        clear ct b4;obtain⟨r,hr,rfl,aV⟩:=hrel;have bY:=ZH (HK.out.trans aV.out HK.out.le);have ct:=(az.out.blk.ob bY.out.below).cell 0;simp only[ZD,ZE] at ct;have b4:=(az.out.blk.ob bY.out.below).lt;by_cases dD:r<c.n
        ·have aC:=ZH (aI.out.below ap.out bY.out.below);go_wp2_with fail;refine(Zjg aC.out.at_ aC.out.fresh aC.out.inv ap.out ZO dD).mono ?_;rintro _ wt ⟨vh,vl,rfl,eA,eB,b5⟩;have dF:r≠k->(Zbz (x6.nodes r).s).clk.get k<=an.get k:=λ h=>ZT (aC.out.inv.a7 dD (Ne.symm h)) (ce.out k aU)
         have dG:r≠k->u=true->(Zbz (x6.nodes r).s).clk.get k<=ln.get k:=λ h hu=>by
          have h1:=aC.out.inv.a7 dD (Ne.symm h);have h2:=aC.out.inv.a9 ap.out (eU.out.symm.trans hu) k;rw[cX.out];omega
         have ca:(Zbz (x6.nodes k).s).up=true->ln.get k<=(Zbz (x6.nodes k).s).clk.get k:=λ h=>by
          rw[cX.out];refine aC.out.inv.af ap.out aU ?_
          cases hh:(x6.nodes k).s.up with
          | true=>rfl
          | false=>rw[Zi9 hh] at h;exact h
         obtain⟨SK,dj⟩:∃ SK,Zbz (x6.nodes k).s=SK:=⟨_,rfl⟩;rw[dj] at ca;obtain⟨bq,eR,eS,dc⟩:=ZH4 dj dF dG ca;clear dF dG ca dj;generalize Zbz (x6.nodes r).s=S at *;obtain⟨ah,ch,rfl⟩:=Zs eA;obtain⟨al,cl,rfl⟩:=Zs eB;obtain⟨wq,fd⟩:∃ wq,wq=wt:=⟨_,rfl⟩;have dw:=bY.out.step b5;have dv:=aV.out.step b5;obtain⟨cg,aQ⟩:=ZH2 ((dw.alloc (.cells Zs6 47)).row dw.le (Zx S.up S.clk S.sent (.slice ah S.held.length ch) (.slice al S.log.length cl))) ((dv.alloc (.cells Zs6 47)).row dv.le (Zx S.up S.clk S.sent (.slice ah S.held.length ch) (.slice al S.log.length cl)));have ar:Hid (Blk ((wt.alloc (.cells Zs6 47)).setRow wt.heap.size (Zx S.up S.clk S.sent (.slice ah S.held.length ch) (.slice al S.log.length cl))) wt.heap.size 47 (Zx S.up S.clk S.sent (.slice ah S.held.length ch) (.slice al S.log.length cl))):=ZH ((ZBn wt 47 Zs6).row _);clear eA eB b5 dw dv ct b4 aC aV bY fd
         go_wp2_with (first
          |(refine Zy rfl 47 rfl Zs6 ZK ?_)
          |(refine wpList_store_row rfl 47 (.tmp 17) (.tmp 94) rfl wt.heap.size (Zx S.up S.clk S.sent (.slice ah S.held.length ch) (.slice al S.log.length cl)) rfl rfl 47 Zs6 (ZBn wt 47 Zs6) (Zdl _ _ _ _ _) rfl (Zio _ _ _ _ _ _ _ _ _) ?_))
         obtain⟨eG,cy⟩:∃ eG,eG=wt.heap.size:=⟨_,rfl⟩;obtain⟨WA,ec⟩:∃ WA,WA=(wt.alloc (.cells Zs6 47)).setRow wt.heap.size (Zx S.up S.clk S.sent (.slice ah S.held.length ch) (.slice al S.log.length cl)):=⟨_,rfl⟩;rw[←ec] at cg aQ ar ⊢;rw[←cy] at ar ⊢;clear ec cy;obtain⟨aA,aq,au,aw⟩:=ZH4 (aI.out.below ap.out cg.out.below) (bl.out.1.ob cg.out.below) (b0.out.1.ob cg.out.below) (bK.out.1.ob cg.out.below);have fb:=ap.out.n5;have eo:k<5:=ZO;have k0:(0:Int)<=(k:Int):=ZO;have k5:(k:Int)<5:=ZO;have e8:max (an.get k:Int) (aG.get k:Int)=((max (an.get k) (aG.get k):Nat):Int):=ZO;have e9:(if an.get k<aG.get k then(aG.get k:Int) else(an.get k:Int))=((max (an.get k) (aG.get k):Nat):Int):=by split <;> omega
         by_cases dC:r=k
         ·subst dC;have em:=λ w=>Zah SK.clk r eo w
          have e1:((r:Int) != (r:Int))=false:=ZM
          cases aO:SK.up with
          | false =>
           as_aux_lemma =>
            refine ZSi [(0,3),(1,3),(2,3),(3,3),(4,3),(5,3),(6,3),(7,0),(8,3),(9,3),(10,0),(11,3),(12,3),(13,0),(14,3),(15,3),(16,3),(17,3),(18,3),(19,3),(20,3),(21,3),(22,3),(23,1),(24,3),(25,3),(26,3),(27,3),(28,3),(29,3),(30,0),(31,3),(32,3),(33,3),(34,0),(35,3),(36,3),(37,3),(38,3),(39,3),(40,3),(41,1),(42,3),(43,3),(44,3),(45,3),(46,3),(47,0),(48,3),(49,3),(52,3),(50,1),(51,3),(53,0),(54,3),(55,3),(56,3)] λ ab=>?_
            repeat((first | refine ZSa ?_ | refine ZSb ?_ | (refine Zf rfl (by rfl) (λ w' ae=>by(have z1:=(ar.out.ob ae.below).a5 (i:=r) ZO);(have z2:=(ar.out.ob ae.below).lt);(have z3:=(aq.out.ob ae.below).clk (i:=r) ZO);(have z4:=(aq.out.ob ae.below).lt);(have z5:=(au.out.ob ae.below).clk (i:=r) ZO);(have z6:=(au.out.ob ae.below).lt);(have z7:=(aw.out.ob ae.below).hubLen (i:=r) ZO);(have z8:=(aw.out.ob ae.below).lt);go_simp;with_reducible rfl) ?_));simp only[Act.put,ZA,ZB,ZC])
            refine ZSd λ K hK=>?_
            go_simp;have aj:=aA.out.below ap.out ab.below;refine(Zjg aj.at_ aj.fresh aj.inv ap.out ZO aU).mono ?_;rintro _ cC ⟨aJ,aK,rfl,_,_,ax⟩;rw[bq.out];refine hK.out (λ w'=>Kept WA.heap.size WA w') _ _ (λ _ h=>h) (ab.step ax) (λ ag=>?_);clear hK K ab ax aj;have ab:=ag;clear ag;have bd:=λ w=>Zs3 SK.up SK.clk SK.sent aJ aK w
            have bc:=λ w=>Zs2 SK.up SK.clk SK.sent aJ aK w
            simp only[aO] at bd bc;repeat((first | refine ZSa ?_ | refine ZSb ?_ | (refine Zf rfl (by rfl) (λ w' ae=>by(have z1:=(ar.out.ob ae.below).a5 (i:=r) ZO);(have z2:=(ar.out.ob ae.below).lt);(have z3:=(aq.out.ob ae.below).clk (i:=r) ZO);(have z4:=(aq.out.ob ae.below).lt);(have z5:=(au.out.ob ae.below).clk (i:=r) ZO);(have z6:=(au.out.ob ae.below).lt);(have z7:=(aw.out.ob ae.below).hubLen (i:=r) ZO);(have z8:=(aw.out.ob ae.below).lt);go_simp;with_reducible rfl) ?_));simp only[Act.put,ZA,ZB,ZC])
            refine ZSf ?_;have aW:=ZH (aQ.out.trans ab aQ.out.le);clear ab;go_wp2
            go_roundw
            case rel=>exact⟨r+1,ZO,ZN,aW⟩
            case measure=>simp[intOf];omega
          | true =>
           have ca:=dc.out aO;have eg:decide ((SK.clk.get r:Int)<(ln.get r:Int))=false:=ZP;have eh:decide (SK.clk.get r<ln.get r)=false:=ZP;as_aux_lemma =>
            refine ZSi [(0,3),(1,3),(2,3),(3,3),(4,3),(5,3),(6,3),(7,0),(8,3),(9,3),(10,0),(11,3),(12,3),(13,0),(14,3),(15,3),(16,3),(17,3),(18,3),(19,3),(20,3),(21,3),(22,3),(23,1),(24,3),(25,3),(26,3),(27,3),(28,3),(29,3),(30,0),(31,3),(32,3),(33,3),(34,0),(35,3),(36,3),(37,3),(38,3),(39,3),(40,3),(41,1),(42,3),(43,3),(44,3),(45,3),(46,3),(47,0),(48,3),(49,3),(52,3),(50,1),(51,3),(53,0),(54,3),(55,3),(56,3)] λ ab=>?_
            repeat((first | refine ZSa ?_ | refine ZSb ?_ | (refine Zf rfl (by rfl) (λ w' ae=>by(have z1:=(ar.out.ob ae.below).a5 (i:=r) ZO);(have z2:=(ar.out.ob ae.below).lt);(have z3:=(aq.out.ob ae.below).clk (i:=r) ZO);(have z4:=(aq.out.ob ae.below).lt);(have z5:=(au.out.ob ae.below).clk (i:=r) ZO);(have z6:=(au.out.ob ae.below).lt);(have z7:=(aw.out.ob ae.below).hubLen (i:=r) ZO);(have z8:=(aw.out.ob ae.below).lt);go_simp;with_reducible rfl) ?_));simp only[Act.put,ZA,ZB,ZC])
            refine ZSd λ K hK=>?_
            go_simp;have aj:=aA.out.below ap.out ab.below;refine(Zjg aj.at_ aj.fresh aj.inv ap.out ZO aU).mono ?_;rintro _ cC ⟨aJ,aK,rfl,_,_,ax⟩;rw[bq.out];refine hK.out (λ w'=>Kept WA.heap.size WA w') _ _ (λ _ h=>h) (ab.step ax) (λ ag=>?_);clear hK K ab ax aj;have ab:=ag;clear ag;have bd:=λ w=>Zs3 SK.up SK.clk SK.sent aJ aK w
            have bc:=λ w=>Zs2 SK.up SK.clk SK.sent aJ aK w
            simp only[aO] at bd bc;repeat((first | refine ZSa ?_ | refine ZSb ?_ | (refine Zf rfl (by rfl) (λ w' ae=>by(have z1:=(ar.out.ob ae.below).a5 (i:=r) ZO);(have z2:=(ar.out.ob ae.below).lt);(have z3:=(aq.out.ob ae.below).clk (i:=r) ZO);(have z4:=(aq.out.ob ae.below).lt);(have z5:=(au.out.ob ae.below).clk (i:=r) ZO);(have z6:=(au.out.ob ae.below).lt);(have z7:=(aw.out.ob ae.below).hubLen (i:=r) ZO);(have z8:=(aw.out.ob ae.below).lt);go_simp;with_reducible rfl) ?_));simp only[Act.put,ZA,ZB,ZC])
            refine ZSd λ K hK=>?_
            go_simp;have aj:=aA.out.below ap.out ab.below;refine(Zjg aj.at_ aj.fresh aj.inv ap.out ZO aU).mono ?_;rintro _ eH ⟨bF,bG,rfl,_,_,ax⟩;rw[bq.out];refine hK.out (λ w'=>Kept WA.heap.size WA w') _ _ (λ _ h=>h) (ab.step ax) (λ ag=>?_);clear hK K ab ax aj;have ab:=ag;clear ag;have bs:=λ w=>Zs3 SK.up SK.clk SK.sent bF bG w
            have cr:=λ w=>Zs2 SK.up SK.clk SK.sent bF bG w
            simp only[aO] at bs cr;repeat((first | refine ZSa ?_ | refine ZSb ?_ | (refine Zf rfl (by rfl) (λ w' ae=>by(have z1:=(ar.out.ob ae.below).a5 (i:=r) ZO);(have z2:=(ar.out.ob ae.below).lt);(have z3:=(aq.out.ob ae.below).clk (i:=r) ZO);(have z4:=(aq.out.ob ae.below).lt);(have z5:=(au.out.ob ae.below).clk (i:=r) ZO);(have z6:=(au.out.ob ae.below).lt);(have z7:=(aw.out.ob ae.below).hubLen (i:=r) ZO);(have z8:=(aw.out.ob ae.below).lt);go_simp;with_reducible rfl) ?_));simp only[Act.put,ZA,ZB,ZC])
            refine ZSf ?_;have aW:=ZH (aQ.out.trans ab aQ.out.le);clear ab;go_wp2
            go_roundw
            case rel=>exact⟨r+1,ZO,ZN,aW⟩
            case measure=>simp[intOf];omega
         ·have em:=λ w=>Zah SK.clk k eo w
          have e1:((r:Int)==(k:Int))=false:=ZP;have e2:¬ (r:Int)=(k:Int):=ZO;have e3:((r:Int) != (k:Int))=true:=ZP;have e4:(r==k)=false:=ZP;have e5:decide (r=k)=false:=ZP;have e6:decide ((r:Int)=(k:Int))=false:=ZP;have dF:=eR.out dC;have hM:S.clk.get k<=max (an.get k) (aG.get k):=ZO;generalize max (an.get k) (aG.get k)=M at *;have hg1:decide ((M:Int)<(S.clk.get k:Int))=false:=ZP;have hg2:decide (M<S.clk.get k)=false:=ZP
          cases hu:u with
          | false =>
           cases aO:SK.up with
           | false =>
            as_aux_lemma =>
             refine ZSi [(0,3),(1,3),(2,3),(3,3),(4,3),(5,3),(6,3),(7,0),(8,3),(9,3),(10,0),(11,3),(12,3),(13,0),(14,3),(15,3),(16,3),(17,3),(18,3),(19,3),(20,3),(21,3),(22,3),(23,1),(24,3),(25,3),(26,3),(27,3),(28,3),(29,3),(30,0),(31,3),(32,3),(33,3),(34,0),(35,3),(36,3),(37,3),(38,3),(39,3),(40,3),(41,1),(42,3),(43,3),(44,3),(45,3),(46,3),(47,0),(48,3),(49,3),(52,3),(50,1),(51,3),(53,0),(54,3),(55,3),(56,3)] λ ab=>?_
             repeat((first | refine ZSa ?_ | refine ZSb ?_ | (refine Zf rfl (by rfl) (λ w' ae=>by(have z1:=(ar.out.ob ae.below).a5 (i:=k) ZO);(have z2:=(ar.out.ob ae.below).lt);(have z3:=(aq.out.ob ae.below).clk (i:=k) ZO);(have z4:=(aq.out.ob ae.below).lt);(have z5:=(au.out.ob ae.below).clk (i:=k) ZO);(have z6:=(au.out.ob ae.below).lt);(have z7:=(aw.out.ob ae.below).hubLen (i:=k) ZO);(have z8:=(aw.out.ob ae.below).lt);go_simp;with_reducible rfl) ?_));simp only[Act.put,ZA,ZB,ZC])
             refine ZSd λ K hK=>?_
             go_simp;have aj:=aA.out.below ap.out ab.below;refine(ZpX aj.at_ aj.fresh aj.inv ap.out ZO).mono ?_;rintro _ wh ⟨rfl,ax⟩;rw[cD.out];refine hK.out (λ w'=>Kept WA.heap.size WA w') _ _ (λ _ h=>h) (ab.step ax) (λ ag=>?_);clear hK K ab ax aj;have ab:=ag;clear ag;have bR:=λ w=>Zs9 u kb ln cK.out w
             simp only[hu] at bR;repeat((first | refine ZSa ?_ | refine ZSb ?_ | (refine Zf rfl (by rfl) (λ w' ae=>by(have z1:=(ar.out.ob ae.below).a5 (i:=k) ZO);(have z2:=(ar.out.ob ae.below).lt);(have z3:=(aq.out.ob ae.below).clk (i:=k) ZO);(have z4:=(aq.out.ob ae.below).lt);(have z5:=(au.out.ob ae.below).clk (i:=k) ZO);(have z6:=(au.out.ob ae.below).lt);(have z7:=(aw.out.ob ae.below).hubLen (i:=k) ZO);(have z8:=(aw.out.ob ae.below).lt);go_simp;with_reducible rfl) ?_));simp only[Act.put,ZA,ZB,ZC])
             refine ZSd λ K hK=>?_
             go_simp;have aj:=aA.out.below ap.out ab.below;refine(Zjg aj.at_ aj.fresh aj.inv ap.out ZO aU).mono ?_;rintro _ cC ⟨aJ,aK,rfl,_,_,ax⟩;rw[bq.out];refine hK.out (λ w'=>Kept WA.heap.size WA w') _ _ (λ _ h=>h) (ab.step ax) (λ ag=>?_);clear hK K ab ax aj;have ab:=ag;clear ag;have bd:=λ w=>Zs3 SK.up SK.clk SK.sent aJ aK w
             have bc:=λ w=>Zs2 SK.up SK.clk SK.sent aJ aK w
             simp only[aO] at bd bc;repeat((first | refine ZSa ?_ | refine ZSb ?_ | (refine Zf rfl (by rfl) (λ w' ae=>by(have z1:=(ar.out.ob ae.below).a5 (i:=k) ZO);(have z2:=(ar.out.ob ae.below).lt);(have z3:=(aq.out.ob ae.below).clk (i:=k) ZO);(have z4:=(aq.out.ob ae.below).lt);(have z5:=(au.out.ob ae.below).clk (i:=k) ZO);(have z6:=(au.out.ob ae.below).lt);(have z7:=(aw.out.ob ae.below).hubLen (i:=k) ZO);(have z8:=(aw.out.ob ae.below).lt);go_simp;with_reducible rfl) ?_));simp only[Act.put,ZA,ZB,ZC])
             refine ZSf ?_;have aW:=ZH (aQ.out.trans ab aQ.out.le);clear ab;go_wp2
             go_roundw
             case rel=>exact⟨r+1,ZO,ZN,aW⟩
             case measure=>simp[intOf];omega
           | true =>
            have ca:=dc.out aO;have eg:decide ((SK.clk.get k:Int)<(ln.get k:Int))=false:=ZP;have eh:decide (SK.clk.get k<ln.get k)=false:=ZP;as_aux_lemma =>
             refine ZSi [(0,3),(1,3),(2,3),(3,3),(4,3),(5,3),(6,3),(7,0),(8,3),(9,3),(10,0),(11,3),(12,3),(13,0),(14,3),(15,3),(16,3),(17,3),(18,3),(19,3),(20,3),(21,3),(22,3),(23,1),(24,3),(25,3),(26,3),(27,3),(28,3),(29,3),(30,0),(31,3),(32,3),(33,3),(34,0),(35,3),(36,3),(37,3),(38,3),(39,3),(40,3),(41,1),(42,3),(43,3),(44,3),(45,3),(46,3),(47,0),(48,3),(49,3),(52,3),(50,1),(51,3),(53,0),(54,3),(55,3),(56,3)] λ ab=>?_
             repeat((first | refine ZSa ?_ | refine ZSb ?_ | (refine Zf rfl (by rfl) (λ w' ae=>by(have z1:=(ar.out.ob ae.below).a5 (i:=k) ZO);(have z2:=(ar.out.ob ae.below).lt);(have z3:=(aq.out.ob ae.below).clk (i:=k) ZO);(have z4:=(aq.out.ob ae.below).lt);(have z5:=(au.out.ob ae.below).clk (i:=k) ZO);(have z6:=(au.out.ob ae.below).lt);(have z7:=(aw.out.ob ae.below).hubLen (i:=k) ZO);(have z8:=(aw.out.ob ae.below).lt);go_simp;with_reducible rfl) ?_));simp only[Act.put,ZA,ZB,ZC])
             refine ZSd λ K hK=>?_
             go_simp;have aj:=aA.out.below ap.out ab.below;refine(ZpX aj.at_ aj.fresh aj.inv ap.out ZO).mono ?_;rintro _ wh ⟨rfl,ax⟩;rw[cD.out];refine hK.out (λ w'=>Kept WA.heap.size WA w') _ _ (λ _ h=>h) (ab.step ax) (λ ag=>?_);clear hK K ab ax aj;have ab:=ag;clear ag;have bR:=λ w=>Zs9 u kb ln cK.out w
             simp only[hu] at bR;repeat((first | refine ZSa ?_ | refine ZSb ?_ | (refine Zf rfl (by rfl) (λ w' ae=>by(have z1:=(ar.out.ob ae.below).a5 (i:=k) ZO);(have z2:=(ar.out.ob ae.below).lt);(have z3:=(aq.out.ob ae.below).clk (i:=k) ZO);(have z4:=(aq.out.ob ae.below).lt);(have z5:=(au.out.ob ae.below).clk (i:=k) ZO);(have z6:=(au.out.ob ae.below).lt);(have z7:=(aw.out.ob ae.below).hubLen (i:=k) ZO);(have z8:=(aw.out.ob ae.below).lt);go_simp;with_reducible rfl) ?_));simp only[Act.put,ZA,ZB,ZC])
             refine ZSd λ K hK=>?_
             go_simp;have aj:=aA.out.below ap.out ab.below;refine(Zjg aj.at_ aj.fresh aj.inv ap.out ZO aU).mono ?_;rintro _ cC ⟨aJ,aK,rfl,_,_,ax⟩;rw[bq.out];refine hK.out (λ w'=>Kept WA.heap.size WA w') _ _ (λ _ h=>h) (ab.step ax) (λ ag=>?_);clear hK K ab ax aj;have ab:=ag;clear ag;have bd:=λ w=>Zs3 SK.up SK.clk SK.sent aJ aK w
             have bc:=λ w=>Zs2 SK.up SK.clk SK.sent aJ aK w
             simp only[aO] at bd bc;repeat((first | refine ZSa ?_ | refine ZSb ?_ | (refine Zf rfl (by rfl) (λ w' ae=>by(have z1:=(ar.out.ob ae.below).a5 (i:=k) ZO);(have z2:=(ar.out.ob ae.below).lt);(have z3:=(aq.out.ob ae.below).clk (i:=k) ZO);(have z4:=(aq.out.ob ae.below).lt);(have z5:=(au.out.ob ae.below).clk (i:=k) ZO);(have z6:=(au.out.ob ae.below).lt);(have z7:=(aw.out.ob ae.below).hubLen (i:=k) ZO);(have z8:=(aw.out.ob ae.below).lt);go_simp;with_reducible rfl) ?_));simp only[Act.put,ZA,ZB,ZC])
             refine ZSd λ K hK=>?_
             go_simp;have aj:=aA.out.below ap.out ab.below;refine(Zjg aj.at_ aj.fresh aj.inv ap.out ZO aU).mono ?_;rintro _ eH ⟨bF,bG,rfl,_,_,ax⟩;rw[bq.out];refine hK.out (λ w'=>Kept WA.heap.size WA w') _ _ (λ _ h=>h) (ab.step ax) (λ ag=>?_);clear hK K ab ax aj;have ab:=ag;clear ag;have bs:=λ w=>Zs3 SK.up SK.clk SK.sent bF bG w
             have cr:=λ w=>Zs2 SK.up SK.clk SK.sent bF bG w
             simp only[aO] at bs cr;repeat((first | refine ZSa ?_ | refine ZSb ?_ | (refine Zf rfl (by rfl) (λ w' ae=>by(have z1:=(ar.out.ob ae.below).a5 (i:=k) ZO);(have z2:=(ar.out.ob ae.below).lt);(have z3:=(aq.out.ob ae.below).clk (i:=k) ZO);(have z4:=(aq.out.ob ae.below).lt);(have z5:=(au.out.ob ae.below).clk (i:=k) ZO);(have z6:=(au.out.ob ae.below).lt);(have z7:=(aw.out.ob ae.below).hubLen (i:=k) ZO);(have z8:=(aw.out.ob ae.below).lt);go_simp;with_reducible rfl) ?_));simp only[Act.put,ZA,ZB,ZC])
             refine ZSf ?_;have aW:=ZH (aQ.out.trans ab aQ.out.le);clear ab;go_wp2
             go_roundw
             case rel=>exact⟨r+1,ZO,ZN,aW⟩
             case measure=>simp[intOf];omega
          | true =>
           have dG:=eS.out dC hu;have hg3:decide ((ln.get k:Int)<(S.clk.get k:Int))=false:=ZP;have hg4:decide (ln.get k<S.clk.get k)=false:=ZP
           cases aO:SK.up with
           | false =>
            as_aux_lemma =>
             refine ZSi [(0,3),(1,3),(2,3),(3,3),(4,3),(5,3),(6,3),(7,0),(8,3),(9,3),(10,0),(11,3),(12,3),(13,0),(14,3),(15,3),(16,3),(17,3),(18,3),(19,3),(20,3),(21,3),(22,3),(23,1),(24,3),(25,3),(26,3),(27,3),(28,3),(29,3),(30,0),(31,3),(32,3),(33,3),(34,0),(35,3),(36,3),(37,3),(38,3),(39,3),(40,3),(41,1),(42,3),(43,3),(44,3),(45,3),(46,3),(47,0),(48,3),(49,3),(52,3),(50,1),(51,3),(53,0),(54,3),(55,3),(56,3)] λ ab=>?_
             repeat((first | refine ZSa ?_ | refine ZSb ?_ | (refine Zf rfl (by rfl) (λ w' ae=>by(have z1:=(ar.out.ob ae.below).a5 (i:=k) ZO);(have z2:=(ar.out.ob ae.below).lt);(have z3:=(aq.out.ob ae.below).clk (i:=k) ZO);(have z4:=(aq.out.ob ae.below).lt);(have z5:=(au.out.ob ae.below).clk (i:=k) ZO);(have z6:=(au.out.ob ae.below).lt);(have z7:=(aw.out.ob ae.below).hubLen (i:=k) ZO);(have z8:=(aw.out.ob ae.below).lt);go_simp;with_reducible rfl) ?_));simp only[Act.put,ZA,ZB,ZC])
             refine ZSd λ K hK=>?_
             go_simp;have aj:=aA.out.below ap.out ab.below;refine(ZpX aj.at_ aj.fresh aj.inv ap.out ZO).mono ?_;rintro _ wh ⟨rfl,ax⟩;rw[cD.out];refine hK.out (λ w'=>Kept WA.heap.size WA w') _ _ (λ _ h=>h) (ab.step ax) (λ ag=>?_);clear hK K ab ax aj;have ab:=ag;clear ag;have bR:=λ w=>Zs9 u kb ln cK.out w
             simp only[hu] at bR;repeat((first | refine ZSa ?_ | refine ZSb ?_ | (refine Zf rfl (by rfl) (λ w' ae=>by(have z1:=(ar.out.ob ae.below).a5 (i:=k) ZO);(have z2:=(ar.out.ob ae.below).lt);(have z3:=(aq.out.ob ae.below).clk (i:=k) ZO);(have z4:=(aq.out.ob ae.below).lt);(have z5:=(au.out.ob ae.below).clk (i:=k) ZO);(have z6:=(au.out.ob ae.below).lt);(have z7:=(aw.out.ob ae.below).hubLen (i:=k) ZO);(have z8:=(aw.out.ob ae.below).lt);go_simp;with_reducible rfl) ?_));simp only[Act.put,ZA,ZB,ZC])
             refine ZSd λ K hK=>?_
             go_simp;have aj:=aA.out.below ap.out ab.below;refine(Zjg aj.at_ aj.fresh aj.inv ap.out ZO aU).mono ?_;rintro _ cC ⟨aJ,aK,rfl,_,_,ax⟩;rw[bq.out];refine hK.out (λ w'=>Kept WA.heap.size WA w') _ _ (λ _ h=>h) (ab.step ax) (λ ag=>?_);clear hK K ab ax aj;have ab:=ag;clear ag;have bd:=λ w=>Zs3 SK.up SK.clk SK.sent aJ aK w
             have bc:=λ w=>Zs2 SK.up SK.clk SK.sent aJ aK w
             simp only[aO] at bd bc;repeat((first | refine ZSa ?_ | refine ZSb ?_ | (refine Zf rfl (by rfl) (λ w' ae=>by(have z1:=(ar.out.ob ae.below).a5 (i:=k) ZO);(have z2:=(ar.out.ob ae.below).lt);(have z3:=(aq.out.ob ae.below).clk (i:=k) ZO);(have z4:=(aq.out.ob ae.below).lt);(have z5:=(au.out.ob ae.below).clk (i:=k) ZO);(have z6:=(au.out.ob ae.below).lt);(have z7:=(aw.out.ob ae.below).hubLen (i:=k) ZO);(have z8:=(aw.out.ob ae.below).lt);go_simp;with_reducible rfl) ?_));simp only[Act.put,ZA,ZB,ZC])
             refine ZSf ?_;have aW:=ZH (aQ.out.trans ab aQ.out.le);clear ab;go_wp2
             go_roundw
             case rel=>exact⟨r+1,ZO,ZN,aW⟩
             case measure=>simp[intOf];omega
           | true =>
            have ca:=dc.out aO;have eg:decide ((SK.clk.get k:Int)<(ln.get k:Int))=false:=ZP;have eh:decide (SK.clk.get k<ln.get k)=false:=ZP;as_aux_lemma =>
             refine ZSi [(0,3),(1,3),(2,3),(3,3),(4,3),(5,3),(6,3),(7,0),(8,3),(9,3),(10,0),(11,3),(12,3),(13,0),(14,3),(15,3),(16,3),(17,3),(18,3),(19,3),(20,3),(21,3),(22,3),(23,1),(24,3),(25,3),(26,3),(27,3),(28,3),(29,3),(30,0),(31,3),(32,3),(33,3),(34,0),(35,3),(36,3),(37,3),(38,3),(39,3),(40,3),(41,1),(42,3),(43,3),(44,3),(45,3),(46,3),(47,0),(48,3),(49,3),(52,3),(50,1),(51,3),(53,0),(54,3),(55,3),(56,3)] λ ab=>?_
             repeat((first | refine ZSa ?_ | refine ZSb ?_ | (refine Zf rfl (by rfl) (λ w' ae=>by(have z1:=(ar.out.ob ae.below).a5 (i:=k) ZO);(have z2:=(ar.out.ob ae.below).lt);(have z3:=(aq.out.ob ae.below).clk (i:=k) ZO);(have z4:=(aq.out.ob ae.below).lt);(have z5:=(au.out.ob ae.below).clk (i:=k) ZO);(have z6:=(au.out.ob ae.below).lt);(have z7:=(aw.out.ob ae.below).hubLen (i:=k) ZO);(have z8:=(aw.out.ob ae.below).lt);go_simp;with_reducible rfl) ?_));simp only[Act.put,ZA,ZB,ZC])
             refine ZSd λ K hK=>?_
             go_simp;have aj:=aA.out.below ap.out ab.below;refine(ZpX aj.at_ aj.fresh aj.inv ap.out ZO).mono ?_;rintro _ wh ⟨rfl,ax⟩;rw[cD.out];refine hK.out (λ w'=>Kept WA.heap.size WA w') _ _ (λ _ h=>h) (ab.step ax) (λ ag=>?_);clear hK K ab ax aj;have ab:=ag;clear ag;have bR:=λ w=>Zs9 u kb ln cK.out w
             simp only[hu] at bR;repeat((first | refine ZSa ?_ | refine ZSb ?_ | (refine Zf rfl (by rfl) (λ w' ae=>by(have z1:=(ar.out.ob ae.below).a5 (i:=k) ZO);(have z2:=(ar.out.ob ae.below).lt);(have z3:=(aq.out.ob ae.below).clk (i:=k) ZO);(have z4:=(aq.out.ob ae.below).lt);(have z5:=(au.out.ob ae.below).clk (i:=k) ZO);(have z6:=(au.out.ob ae.below).lt);(have z7:=(aw.out.ob ae.below).hubLen (i:=k) ZO);(have z8:=(aw.out.ob ae.below).lt);go_simp;with_reducible rfl) ?_));simp only[Act.put,ZA,ZB,ZC])
             refine ZSd λ K hK=>?_
             go_simp;have aj:=aA.out.below ap.out ab.below;refine(Zjg aj.at_ aj.fresh aj.inv ap.out ZO aU).mono ?_;rintro _ cC ⟨aJ,aK,rfl,_,_,ax⟩;rw[bq.out];refine hK.out (λ w'=>Kept WA.heap.size WA w') _ _ (λ _ h=>h) (ab.step ax) (λ ag=>?_);clear hK K ab ax aj;have ab:=ag;clear ag;have bd:=λ w=>Zs3 SK.up SK.clk SK.sent aJ aK w
             have bc:=λ w=>Zs2 SK.up SK.clk SK.sent aJ aK w
             simp only[aO] at bd bc;repeat((first | refine ZSa ?_ | refine ZSb ?_ | (refine Zf rfl (by rfl) (λ w' ae=>by(have z1:=(ar.out.ob ae.below).a5 (i:=k) ZO);(have z2:=(ar.out.ob ae.below).lt);(have z3:=(aq.out.ob ae.below).clk (i:=k) ZO);(have z4:=(aq.out.ob ae.below).lt);(have z5:=(au.out.ob ae.below).clk (i:=k) ZO);(have z6:=(au.out.ob ae.below).lt);(have z7:=(aw.out.ob ae.below).hubLen (i:=k) ZO);(have z8:=(aw.out.ob ae.below).lt);go_simp;with_reducible rfl) ?_));simp only[Act.put,ZA,ZB,ZC])
             refine ZSd λ K hK=>?_
             go_simp;have aj:=aA.out.below ap.out ab.below;refine(Zjg aj.at_ aj.fresh aj.inv ap.out ZO aU).mono ?_;rintro _ eH ⟨bF,bG,rfl,_,_,ax⟩;rw[bq.out];refine hK.out (λ w'=>Kept WA.heap.size WA w') _ _ (λ _ h=>h) (ab.step ax) (λ ag=>?_);clear hK K ab ax aj;have ab:=ag;clear ag;have bs:=λ w=>Zs3 SK.up SK.clk SK.sent bF bG w
             have cr:=λ w=>Zs2 SK.up SK.clk SK.sent bF bG w
             simp only[aO] at bs cr;repeat((first | refine ZSa ?_ | refine ZSb ?_ | (refine Zf rfl (by rfl) (λ w' ae=>by(have z1:=(ar.out.ob ae.below).a5 (i:=k) ZO);(have z2:=(ar.out.ob ae.below).lt);(have z3:=(aq.out.ob ae.below).clk (i:=k) ZO);(have z4:=(aq.out.ob ae.below).lt);(have z5:=(au.out.ob ae.below).clk (i:=k) ZO);(have z6:=(au.out.ob ae.below).lt);(have z7:=(aw.out.ob ae.below).hubLen (i:=k) ZO);(have z8:=(aw.out.ob ae.below).lt);go_simp;with_reducible rfl) ?_));simp only[Act.put,ZA,ZB,ZC])
             refine ZSf ?_;have aW:=ZH (aQ.out.trans ab aQ.out.le);clear ab;go_wp2
             go_roundw
             case rel=>exact⟨r+1,ZO,ZN,aW⟩
             case measure=>simp[intOf];omega
        ·obtain rfl:r=c.n:=ZO;go_wp2
         go_roundw
         case rel=>exact⟨k+1,ZO,ZN,bY⟩
         case measure=>simp[intOf];omega
      ·obtain rfl:k=c.n:=ZO;go_wp2
       go_roundw
       case rel=>exact⟨q+1,ay,B6,x6,an,aG,ZO,ZN,ZH (aI.out.below ap.out HK.out.below),ZH (az.out.below aI.out.fresh HK.out.below),ZH ⟨bl.out.1.ob HK.out.below,bl.out.2⟩,ZH ⟨b0.out.1.ob HK.out.below,b0.out.2⟩,ce⟩
       case measure=>simp[intOf];omega
  ·obtain rfl:q=l0.length:=ZO;go_wp2
   go_ret;exact⟨rfl,bL.out.all⟩
end Go.Proofs.YtjkfognelhiepaaGreat
