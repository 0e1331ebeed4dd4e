/- TopUnion: for every input the law returns true and leaves its arguments as they were. No condition. -/
import Derived.Test.YtjkfognelhiepaaGreatU01
import Derived.Test.YtjkfognelhiepaaGreatU03
import Derived.Test.YtjkfognelhiepaaGreatChecked
namespace Go.Proofs.YtjkfognelhiepaaGreat
open Go.RowKit _root_.Go.Proofs.Tryz
set_option maxRecDepth 100000
set_option maxHeartbeats 8000000
theorem Blk.au{w:World}{g:Nat}{ty:TypeId}{u:Bool}{b l:Clk}{ac:List Clk}(h:Blk w g ty (Zt u b l ac)):
  w.cell? ⟨g,1,none⟩=some (.int .i64 b.c0)/\w.cell? ⟨g,2,none⟩=some (.int .i64 b.c1)/\w.cell? ⟨g,3,none⟩=some (.int .i64 b.c2)/\w.cell? ⟨g,4,none⟩=some (.int .i64 b.c3)/\w.cell? ⟨g,5,none⟩=some (.int .i64 b.c4) /\
  w.cell? ⟨g,6,none⟩=some (.int .i64 l.c0)/\w.cell? ⟨g,7,none⟩=some (.int .i64 l.c1)/\w.cell? ⟨g,8,none⟩=some (.int .i64 l.c2)/\w.cell? ⟨g,9,none⟩=some (.int .i64 l.c3)/\w.cell? ⟨g,10,none⟩=some (.int .i64 l.c4):=by
 have hc:∀ k v,([.bool u,.int .i64 (b.c0:Int),.int .i64 (b.c1:Int),.int .i64 (b.c2:Int),.int .i64 (b.c3:Int),.int .i64 (b.c4:Int),.int .i64 (l.c0:Int),.int .i64 (l.c1:Int),.int .i64 (l.c2:Int),.int .i64 (l.c3:Int),.int .i64 (l.c4:Int)]:List Value)[k]? = some v->w.cell? ⟨g,k,none⟩=some v:=λ k v hk=>by
  have aX:k<11:=by
   have:=(ZZ.1 hk).1;simpa using this
  rw[h.cell];unfold Zt;rw[Array.getElem?_append_left ZP];simpa using hk
 exact⟨hc _ _ rfl,hc _ _ rfl,hc _ _ rfl,hc _ _ rfl,hc _ _ rfl,hc _ _ rfl,hc _ _ rfl,hc _ _ rfl,hc _ _ rfl,hc _ _ rfl⟩
theorem ZtN{w:World}{a:Option Addr}{n cap:Nat}{ss:List RawSt}(x0 x1 x2 x3 x4 x5:Int)(hr:Reads w w.heap.size 10 a n (ss.flatMap Zdi))(hn:n=ss.length)(bc:∀ s∈ss,RawOk s)(hbig:n<9223372036854775807):
  Calls prog 9 #[.agg #[.int .i64 x0,.int .i64 x1,.int .i64 x2,.int .i64 x3,.int .i64 x4,.int .i64 x5],.slice a n cap] w λ e w'=>e = .returned (.bool true)/\Below w.heap.size w w':=by
 have cw:=(ZKr w).alloc (.cells #[.int .i64 x0,.int .i64 x1,.int .i64 x2,.int .i64 x3,.int .i64 x4,.int .i64 x5] 23);obtain⟨dz,HR,HN,ex,dB⟩:=ZH5 (ZBn w 23 #[.int .i64 x0,.int .i64 x1,.int .i64 x2,.int .i64 x3,.int .i64 x4,.int .i64 x5]) hr hn bc cw;clear hr hn bc cw;go_enter func9,ntmps9;go_wp2_with fail;refine(ZsN _).mono ?_;rintro _ w1 ⟨rfl,bq⟩;have cN:=ZH (dB.out.step bq);have c6:=dz.out.ob bq;obtain⟨c0,c1,c2,c3,c4,c5⟩:=c6.aS;have eK:=c6.lt;clear bq c6 dB dz;go_wp2_with fail;refine(ZtW x0 x1 x2 x3 x4 x5 w1).mono ?_;rintro _ w2 ⟨rfl,c9⟩;have bc:=ZtR (ZsU x0 x1 x2 x3 x4 x5);obtain⟨c,hc⟩:∃ c,c=Zs4 (Znt x0 x1 x2 x3 x4 x5):=⟨_,rfl⟩;rw[←hc] at bc ⊢;obtain⟨ag,cX⟩:=ZH2 bc (cN.out.step c9);have cQ:Blk ((w2.alloc (.cells Zs0 23)).setRow w2.heap.size (Zal c)) w2.heap.size 23 (Zal c):=(ZBn w2 23 Zs0).row _;have ee:=((ZKr w2).alloc (.cells Zs0 23)).row (ZL _) (Zal c);clear c9 hc bc cN c0 c1 c2 c3 c4 c5 eK;obtain⟨c0,c1,c2,c3,c4,c5⟩:=cQ.aS;have eL:=cQ.lt;obtain⟨cW,dC⟩:=ZH2 cQ (cX.out.trans ee cX.out.le);clear cQ ee cX
 go_wp2_with (first
  |(refine Zy rfl 23 rfl Zs0 ZK ?_)
  |(refine wpList_store_row rfl 23 (.tmp 6) (.tmp 17) rfl w2.heap.size (Zal c) rfl rfl 23 Zs0 (ZBn w2 23 _) (ZsP c) rfl (ZsS c) ?_))
 refine(ZpY (own:=own0) (t:=1) ZO (λ _ _=>rfl) ag.out).mono ?_;rintro _ w3 ⟨p,bi,rfl,ep,cH⟩;have aT:Blk w3 w2.heap.size 23 (Zal c):=cW.out.upd cH (show ¬ Zp 1 (own0 w2.heap.size) from nw0);have bT:bi w2.heap.size=0:=cH.old _ cW.out.lt;obtain⟨b6,dR⟩:∃ b6,b6=w2.heap.size:=⟨_,rfl⟩;rw[←dR] at aT bT ⊢;obtain⟨cb,dA⟩:=ZH2 (In.new ZO dC.out ep cH) (cH.fresh);have cy:=aT.lt;obtain⟨bz,ci⟩:=ZH2 aT bT;clear ep cH dR bT cW dC c0 c1 c2 c3 c4 c5 eL;obtain⟨c0,c1,c2,c3,c4,c5⟩:=aT.aS;clear aT;have ed:=(ZKr w3).alloc (.cells (clkArr ZCz) 44);have db:=ZBn w3 44 (clkArr ZCz);have cI:Upd (λ _=>False) bi (bi.at_ w3.heap.size 900000) w3 (w3.alloc (.cells (clkArr ZCz) 44)) :=
  (ZUb (T:=λ _=>False) ed.below dA.out).am (ZL _) db.lt 900000
 obtain⟨bj,aY⟩:∃ o,o=bi.at_ w3.heap.size 900000:=⟨_,rfl⟩;have el:bj w3.heap.size=900000:=by rw[aY];unfold Own.at_;simp
 rw[←aY] at cI;have aI:=ZH (cb.out.other ag.out cI (λ _ _ h=>h) (λ h=>h));have co:=bz.out.upd cI (λ h=>h);have cB:=(cI.old _ bz.out.lt).trans ci.out;obtain⟨bm,bK⟩:∃ bm,bm=w3.heap.size:=⟨_,rfl⟩;have HC:Hid (Blk (w3.alloc (.cells (clkArr ZCz) 44)) b6 23 (Zal c)/\bj b6=0):=ZH ⟨co,cB⟩;have HM:Hid (Blk (w3.alloc (.cells (clkArr ZCz) 44)) bm 44 (clkArr ZCz)/\bj bm=900000):=ZH (by rw[bK];exact⟨db,el⟩);have bl:=ZH (UI.new c);clear ed aY cI co cB db el;go_wp2_with fail;rw[←bK];clear bK;clear cb bz ci dA c0 c1 c2 c3 c4 c5 cy;go_loopw [10] (λ i wr=>∃ (q:Nat) (own:Own) (B:Bd) (x:WS) (many:Clk),q<=n/\q<=40/\i = .int .i64 q/\Hid (In own 1 w wr p c q B x)/\Hid (UI c x many)/\Hid (Blk wr b6 23 (Zal c)/\own b6=0)/\Hid (Blk wr bm 44 (clkArr many)/\own bm=900000)) (λ i _=>n-(intOf i).toNat)
 case atStart=>exact⟨0,bj,_,_,_,ZO,ZO,rfl,aI,bl,HC,HM⟩
 case round =>
  clear aI bl HC HM;obtain⟨q,own,B,x,many,hq,hq4,rfl,aI,bl,HC,HM⟩:=hrel;by_cases eP:q<n/\q<40
  ·obtain⟨aM,hq40⟩:=eP;obtain⟨s,he⟩:∃ s,ss[q]? = some s:=⟨_,ZX (by rw[←HN.out];exact aM)⟩;have dF:=ZH (ex.out s (ZY he));obtain⟨bk,off,rfl,eA,hc⟩:=ZsX (HR.out.below aI.out.all) HN.out he;have d1:=hc 1 _ rfl;have d2:=hc 2 _ rfl;have d3:=hc 3 _ rfl;have d4:=hc 4 _ rfl;have d5:=hc 5 _ rfl;have cq:=HC.out.1.cell 0;simp only[ZD,ZE] at cq;have b7:=HC.out.1.lt;clear he hc;have hn0:=ag.out.n1;have eN:=ag.out.n5;have hd40:decide ((q:Int)<40)=true:=ZP;have hR:(wrap64 (s.r.tmod (c.n:Int)+(c.n:Int))).tmod (c.n:Int)=((Zle s.r c.n).toNat:Int):=ZsW s.r ZO ZO;obtain⟨R,dK⟩:∃ R,R=(Zle s.r c.n).toNat:=⟨_,rfl⟩;have dL:R<c.n:=by
    have:=Zns s.r (k:=(c.n:Int)) ZO;omega
   rw[←dK] at hR;have dD:=ZH hR;clear dK hR;go_wp2_with fail;go_quiet (fail)
   rw[dD.out];clear dD;go_wp2_with fail;refine(ZsZ s.ek s.key s.label s.value _ dF.out.key dF.out.value).mono ?_;rintro _ w5 ⟨rfl,dQ⟩;have bR:Kept wr.heap.size wr w5:=((ZKr wr).drewN _).step dQ;have aP:=ZH (aI.out.below ag.out bR.below);have b9:Hid (Blk w5 b6 23 (Zal c)/\own b6=0):=ZH ⟨HC.out.1.ob bR.below,HC.out.2⟩;have cg:Hid (Blk w5 bm 44 (clkArr many)/\own bm=900000):=ZH ⟨HM.out.1.ob bR.below,HM.out.2⟩;have dV:=ZsV s.ek s.key s.label s.value;generalize ZcX s.ek=ek at *;generalize Zd0 (Zej s.key s.key.size)=key at *;generalize Zg3 ek s.label=fa at *;generalize ZeG ek s.value=val at *;obtain⟨s5,b8⟩:∃ s5:St,s5=⟨0,R,ek,key,fa,val,0,0,0,0,false⟩:=⟨_,rfl⟩;have bV:StOk c s5:=by rw[b8];exact⟨Nat.zero_le _,.inl dL,dV,by show(0:Nat)<4294967296;decide⟩
   have cw:s5.kind=0:=by rw[b8]
   have bE:Hid (s5.r=R):=ZH (by rw[b8]);have az:=aP.out.bH ZO ag.out ZO bV;rw[b8] at az;obtain⟨aO,ck,cd,dE⟩:=ZH4 az bV cw b8;clear bR dQ dV b8 bV cw az d1 d2 d3 d4 d5 cq b7 eA aI HC HM;go_wp2_with fail;refine aO.out.mono ?_;intro e6 w6 hp;rw[←dE.out] at hp;obtain⟨tb,aH,B6,eU,rfl,bP,cJ,_,_⟩:=aP.out.step ZO ag.out ZO ck.out hp;have cf:=ZH (bl.out.less aP.out.inv ZO);have ao:=bl.out.step aP.out.inv ag.out ZO (s:=Zu s5 tb) cd.out (by show s5.r<c.n;rw[bE.out];exact dL);have cU:(Zu s5 tb).r=R:=bE.out;rw[cU] at ao;obtain⟨x6,er⟩:∃ x6,x6=(Zab c x (Zu s5 tb)).1:=⟨_,rfl⟩;obtain⟨aR,ae⟩:∃ aR,aR=(Zab c x (Zu s5 tb)).2:=⟨_,rfl⟩;rw[←er] at bP ao;rw[←ae] at ao ⊢;have bB:=ZH bP;have cL:Hid (Blk w6 b6 23 (Zal c)/\aH b6=0):=ZH ⟨b9.out.1.upd cJ (by rw[b9.out.2];exact nw0),(cJ.old _ b9.out.1.lt).trans b9.out.2⟩;have bC:Hid (Blk w6 bm 44 (clkArr many)/\aH bm=900000):=ZH ⟨cg.out.1.upd cJ (by rw[cg.out.2];exact nwk),(cJ.old _ cg.out.1.lt).trans cg.out.2⟩;clear hp eU bP cJ cU er ae aP b9 cg aO ck cd bE dE;by_cases h0:aR=0
   ·subst h0;rw[if_pos rfl] at ao;have hless:=cf.out R;have bF:=ZH ao;have cm:=bC.out.1.clk (i:=R) ZO;have eG:=bC.out.1.frozen R;have ei:=bC.out.1.lt;have r0:(0:Int)<=(R:Int):=ZO;have r5:(R:Int)<5:=ZO;have dq:=bC.out.1.ai R (.int .i64 ((many.get R+1:Nat):Int));rw[ZeJ _ (by omega:R<5)] at dq;have bd:Upd (λ n=>n=900000) aH aH w6 (w6.setCell ⟨bm,R,none⟩ (.int .i64 ((many.get R+1:Nat):Int))):=(Upd.refl _ aH w6 bB.out.fresh).setCell (λ _=>bC.out.2) _;have aV:=bB.out.other ag.out bd (λ n hn e=>nwk (e▸hn)) (λ e=>absurd e ZJ);obtain⟨aK,cO,bA⟩:=ZH3 aV (And.intro dq bC.out.2) (And.intro (cL.out.1.upd bd (by rw[cL.out.2];exact λ e=>absurd e ZJ)) cL.out.2);clear ao dq bd aV;go_wp2
    go_roundw
    case rel=>exact⟨q+1,aH,B6,x6,_,ZO,ZO,ZN,aK,bF,bA,cO⟩
    case measure=>simp[intOf];omega
   ·rw[if_neg h0] at ao;have bF:=ZH ao;have bq:((aR:Int)==0)=false:=ZP;have c9:¬ (aR:Int)=0:=ZO;clear ao;go_wp2
    go_roundw
    case rel=>exact⟨q+1,aH,B6,x6,many,ZO,ZO,ZN,bB,bF,cL,bC⟩
    case measure=>simp[intOf];omega
  ·have hq8:=ag.out.q8;have bL:=HC.out.1.cell 2;simp only[ZD,ZE,ZG] at bL;have b7:=HC.out.1.lt;rcases(by omega:(q<n/\40<=q)∨n<=q) with ⟨h1,h2⟩ | h1
   all_goals
    go_wp2_with fail;have dt:=ZlZ (t:=1) ZO aI.out.at_ aI.out.fresh aI.out.inv ag.out ZO ZO (3*c.q+2) ZO;rw[show((3*c.q+2:Nat):Int)=3*(c.q:Int)+2 by omega] at dt;refine dt.mono ?_;clear dt;rintro _ w7 ⟨rfl,bX,dy,bd⟩;obtain⟨x7,es,⟨B7,d9⟩,b5,ac,dP,bG⟩:=bl.out.rounds aI.out.inv ag.out ZO ZO;rw[es] at dy;have aV:In bX 1 w w7 p c q B7 x7:=⟨dy,d9,aI.out.upd.trans (bd.mono λ n hn=>show n≠0 by have:=hn.1;omega)⟩;have aK:=ZH aV;have bA:Hid (Blk w7 b6 23 (Zal c)/\bX b6=0):=ZH ⟨HC.out.1.upd bd (by rw[HC.out.2];unfold Zia;omega),(bd.old _ HC.out.1.lt).trans HC.out.2⟩;have cO:Hid (Blk w7 bm 44 (clkArr many)/\bX bm=900000):=ZH ⟨HM.out.1.upd bd (by rw[HM.out.2];unfold Zia;omega),(bd.old _ HM.out.1.lt).trans HM.out.2⟩;obtain⟨ew,ev⟩:=ZH2 (λ r (hr:r<c.n)=>bl.out.room aI.out.inv hr) b5;clear es d9 dy bd aV b5 bL b7 h1 aI HC HM bl;try clear h2
    go_wp2_with fail;refine(ZpX aK.out.at_ aK.out.fresh aK.out.inv ag.out ZO).mono ?_;rintro _ w8 ⟨rfl,da⟩;obtain⟨HA,bZ⟩:∃ HA,HA=Zt true many many ac:=⟨_,rfl⟩;obtain⟨HZ,c7⟩:∃ HZ,HZ=ZtX:=⟨_,rfl⟩;rw[dP,show Zc4 true many many ac = .agg HA by rw[bZ];rfl];have cY:=ZH ((((ZKr w7).step da).alloc (.cells HZ 56)).row ((ZKr w7).step da).le HA);have bY:Hid (Blk ((w8.alloc (.cells HZ 56)).setRow w8.heap.size HA) w8.heap.size 56 HA):=ZH ((ZBn w8 56 HZ).row _);have cu:(prog.info? 56).map (λ i=>i.size)=some HA.size:=by rw[bZ];exact ZbR _ _ _ bG
    have bv:HA.size=HZ.size:=by rw[bZ,c7];simp only[Zcb,bG,List.length_replicate]
    have cC:HA.all (·.oneCell')=true:=by rw[bZ];exact Zdq _ _ _ _
    have cV:(prog.info? 56).map (λ i=>i.zero)=some (some (.agg HZ)):=by rw[c7];kernel_rfl
    obtain⟨ca,cc,dG,cj,dH⟩:=ZH5 bZ cu bv cC cV;clear da dP bG bZ c7 cu bv cC cV
    go_wp2_with (first
     |(refine Zy rfl 56 rfl HZ dH.out ?_)
     |(refine wpList_store_row rfl 56 (.tmp 12) (.tmp 77) rfl w8.heap.size HA rfl rfl 56 HZ (ZBn w8 56 HZ) cc.out dG.out.symm cj.out ?_))
    obtain⟨hb,d8⟩:∃ hb,hb=w8.heap.size:=⟨_,rfl⟩;obtain⟨W9,dM⟩:∃ W9,W9=(w8.alloc (.cells HZ 56)).setRow w8.heap.size HA:=⟨_,rfl⟩;rw[←dM] at cY bY ⊢;rw[←d8] at bY ⊢;have bY:Hid (Blk W9 hb 56 (Zt true many many ac)):=ZH (by rw[←ca.out];exact bY.out);clear dM d8 cc dG cj dH ca;go_loopw [13] (λ i eu=>∃ r:Nat,r<=c.n/\i = .int .i64 r/\Hid (Kept w7.heap.size w7 eu)/\Hid (Blk eu hb 56 (Zt true many many ac))) (λ i _=>c.n-(intOf i).toNat)
    case atStart=>exact⟨0,ZO,rfl,cY,bY⟩
    case round =>
     clear cY bY;obtain⟨r,hr,rfl,HK,cM⟩:=hrel;have aQ:=ZH (aK.out.below ag.out HK.out.below);have cq:=(bA.out.1.ob HK.out.below).cell 0;have bL:=(bA.out.1.ob HK.out.below).cell 2;simp only[ZD,ZE,ZG] at cq bL;have b7:=(bA.out.1.ob HK.out.below).lt;by_cases dv:r<c.n
     ·go_wp2_with fail;refine(Zjg aQ.out.at_ aQ.out.fresh aQ.out.inv ag.out ZO dv).mono ?_;rintro _ wt ⟨vh,vl,rfl,en,eo,dc⟩;have e1:=ev.out r dv;generalize Zbz (x7.nodes r).s=S at *;obtain⟨ah,ch,rfl⟩:=Zs en;obtain⟨al,cl,rfl⟩:=Zs eo;rw[e1];have dm:=HK.out.step dc;have dl:=((ZKr wr).step dc);have ce:=ZH ((dm.alloc (.cells Zs1 47)).row dm.le (Zx S.up many S.sent (.slice ah S.held.length ch) (.slice al S.log.length cl)));have ef:=(dl.alloc (.cells Zs1 47)).row dl.le (Zx S.up many S.sent (.slice ah S.held.length ch) (.slice al S.log.length cl));have cK:Hid (Blk ((wt.alloc (.cells Zs1 47)).setRow wt.heap.size (Zx S.up many S.sent (.slice ah S.held.length ch) (.slice al S.log.length cl))) wt.heap.size 47 (Zx S.up many S.sent (.slice ah S.held.length ch) (.slice al S.log.length cl))):=ZH ((ZBn wt 47 Zs1).row _);have ca:=ZH (cM.out.ob ef.below);clear en eo dc e1 dm dl ef cq bL b7 aQ HK cM
      go_wp2_with (first
       |(refine Zy rfl 47 rfl Zs1 ZK ?_)
       |(refine wpList_store_row rfl 47 (.tmp 14) (.tmp 86) rfl wt.heap.size (Zx S.up many S.sent (.slice ah S.held.length ch) (.slice al S.log.length cl)) rfl rfl 47 Zs1 (ZBn wt 47 Zs1) (Zdl _ _ _ _ _) rfl (Zio _ _ _ _ _ _ _ _ _) ?_))
      obtain⟨et,cx⟩:∃ et,et=wt.heap.size:=⟨_,rfl⟩;obtain⟨WA,dN⟩:∃ WA,WA=(wt.alloc (.cells Zs1 47)).setRow wt.heap.size (Zx S.up many S.sent (.slice ah S.held.length ch) (.slice al S.log.length cl)):=⟨_,rfl⟩;rw[←dN] at ce cK ca ⊢;rw[←cx] at cK ⊢;clear dN cx;obtain⟨y0,y1,y2,y3,y4,y5,y6,y7,y8⟩:=cK.out.aj;have hly:=cK.out.lt;have bt:=cO.out.1.ob ce.out.below;obtain⟨m0,m1,m2,m3,m4⟩:=bt.aE;have hmr:=bt.clk (i:=r) (by have:=ag.out.n5;omega);have ei:=bt.lt;have bL:=(bA.out.1.ob ce.out.below).cell 2;simp only[ZD,ZE,ZG] at bL;have b7:=(bA.out.1.ob ce.out.below).lt;have hrm:=ew.out r dv;have hd1:decide ((many.get r:Int)>(c.q:Int))=false:=ZP;have hd2:decide (c.q<many.get r)=false:=ZP;have r0:(0:Int)<=(r:Int):=ZO;have r5:(r:Int)<5:=by have:=ag.out.n5;omega
      have eC:=Zts many;clear bt;go_quiet (fail)
      go_wp2
      go_roundw
      case rel=>exact⟨r+1,ZO,ZN,ce.out.drewN _,ca.out.drewN _⟩
      case measure=>simp[intOf];omega
     ·obtain rfl:r=c.n:=ZO;have bt:=cO.out.1.ob HK.out.below;obtain⟨m0,m1,m2,m3,m4⟩:=bt.aE;have ei:=bt.lt;obtain⟨y1,y2,y3,y4,y5,y6,y7,y8,y9,y10⟩:=cM.out.au;have hlh:=cM.out.lt;have eC:=Zts many;clear bt;go_wp2
      go_ret;exact⟨ZM,aQ.out.all⟩
end Go.Proofs.YtjkfognelhiepaaGreat
namespace Go.Proofs.YtjkfognelhiepaaGreat.topUnion
open Go.RowKit _root_.Go.Proofs.Tryz
set_option maxRecDepth 100000
set_option maxHeartbeats 8000000
open Go.ChangeShapes Go.WideShapes Go.ChangeAt Go.RowKit
open Go.ChangeMaps (open_string shut_string)
theorem own_:ownKnob prog.godebug=none:=ZK
theorem laid_:laidOutB prog=true:=ZK
theorem lifted(os:Os)(started:os.Started)(H:Type)(enc:TypeId × Value->H):
  ReturnsInHanded {} checked os 9 .any (Rows.topUnionSpec.pre6 enc prog f9 Rows.topUnionRow.domain false) (Rows.topUnionSpec.post enc prog f9 false true false false):=by
 refine returnsInHanded_of_change_sized (C:=checked) own_ started ZK func9
  (ChangeSpec.witness6 (enc:=enc) (C:=checked) false ⟨#[],#[.agg #[.int .i64 0,.int .i64 0,.int .i64 0,.int .i64 0,.int .i64 0,.int .i64 0],.slice none 0 0],[]⟩ 8 ZK ZK ZK ZK) ?_
 intro W base args ds gs before bx hW hcnd bv _;have bW:∀ (j:Nat) t v,f9.params[j]? = some t->args[j]? = some v->Value.okWide prog W .any base t v:=bx;have ey:=hW;obtain⟨p,q,dJ,hV,rfl,eG,hnd⟩:=hW;have hA:DataW.TrodAll enc prog W 0 (λ _=>true) true f9.params.toList args.toList ds p:=dJ;rw[params9] at hA bW;obtain⟨v0,vs0,d0,ds0,p0,q0,hargs,rfl,rfl,h0,r0⟩:=trodAll_cons hA;obtain⟨v1,vs1,d1,ds1,p1,q1,rfl,rfl,rfl,h1,r1⟩:=trodAll_cons r0;obtain⟨rfl,rfl,rfl⟩:=trodAll_nil r1;obtain rfl:args=#[v0,v1]:=by cases args;simp_all
 obtain⟨rfl,rfl⟩:=trodVars_none hV;have k0:=h0;have fb:∀ x∈p0,x.block<W.heap.size:=by obtain⟨m,hm⟩:=k0;exact DataW.trod_lt m _ _ _ hm
 have k1:=h1;have fc:∀ x∈p1,x.block<W.heap.size:=by obtain⟨m,hm⟩:=k1;exact DataW.trod_lt m _ _ _ hm
 have e9:∀ m∈d1.weights prog 24,m<=reachBytes:=λ m hm=>of_decide_eq_true (List.all_eq_true.1 bv _ (DataW.weights_mem_each (j:=1) (by rw[params9];rfl) rfl m hm))
 obtain⟨x0,x1,x2,x3,x4,x5,rfl⟩:=ZsH (bW 0 23 _ rfl rfl) h0;obtain⟨a1,n1,c1,ss,rfl,eM,dr,du,cp⟩:=ZsL (bW 1 24 _ rfl rfl) h1 e9;clear dJ bx;refine(ZtN x0 x1 x2 x3 x4 x5 du eM dr cp).mono λ e W' ⟨he,cZ⟩=>?_
 subst he;exact⟨_,rfl,_,_,_,[],_,[],ey,trodAll_mk1 (shut_bool underlying4 _),(trodAll_cons_mk (Below.trod laid_ ZK (of_decide_eq_true ZK) k0 cZ fb) (trodAll_cons_mk (Below.trod laid_ ZK (of_decide_eq_true ZK) k1 cZ fc) trodAll_mk0)),rfl,cZ.frame _,λ h=>by cases h⟩
theorem ZtV:Rows.topUnionRow.holds Tryz.pinned (OpenSpec.ofChange Rows.topUnionSpec) :=
 OpenClaim.holds_of_wide 9 f9 rfl rfl rfl rfl rfl rfl rfl ⟨rfl,rfl,rfl,rfl,rfl⟩ rfl rfl rfl rfl rfl ZK func9 ZK
  (of_decide_eq_true ZK) (by unfold Func.isWrapper;first|(rw[if_pos (by decide +kernel)];kernel_rfl)|(rw[if_neg (by decide +kernel)];exact⟨rfl,rfl⟩))
  (λ os started H enc _=>lifted os started H enc)
theorem proved:Rows.TopUnionSaid:=ZtV
end Go.Proofs.YtjkfognelhiepaaGreat.topUnion
namespace Go.Proofs.YtjkfognelhiepaaGreat
open Go.RowKit _root_.Go.Proofs.Tryz
set_option maxRecDepth 100000
set_option maxHeartbeats 8000000
end Go.Proofs.YtjkfognelhiepaaGreat
