/- TopDrops: for every input the law returns true and leaves its arguments as they were. No condition. -/
import Derived.Test.YtjkfognelhiepaaGreatD01
import Derived.Test.YtjkfognelhiepaaGreatD02
import Derived.Test.YtjkfognelhiepaaGreatChecked
namespace Go.Proofs.YtjkfognelhiepaaGreat
open Go.RowKit _root_.Go.Proofs.Tryz
set_option maxRecDepth 100000
set_option maxHeartbeats 8000000
theorem Zs8{u u':Bool}{b b' l l':Clk}{ac cE:List Clk}(h:Zc4 u b l ac=Zc4 u' b' l' cE):l=l':=by
 have h2:(Zt u b l ac).toList=(Zt u' b' l' cE).toList:=by
  have:Zt u b l ac=Zt u' b' l' cE:=by simpa [Zc4] using h
  rw[this]
 unfold Zt at h2;simp at h2;obtain⟨_,_,_,_,_,_,h6,h7,h8,h9,dA,_⟩:=h2;obtain⟨a0,a1,a2,a3,a4⟩:=l;obtain⟨b0,b1,b2,b3,b4⟩:=l';simp at h6 h7 h8 h9 dA;simp only[Clk.mk.injEq];omega
theorem WInv.a7{c:Cfg}{B:Bd}{m b:Nat}{x:WS}(h:WInv c B m b x)(hc:c.Ok)(bA:x.hub.rs=[]):∃ u k ac,Zcl x.hub.s.up x.hub.s.sh x.hub.s.told=Zc4 u k ZCz ac/\ac.length=5:=by
 obtain⟨u,k,l,ac,hl,h5⟩:=h.aV hc;have hz:hubLens x.hub.s=ZCz:=by
  have h0:=h.a8 hc bA;have e0:=h0 0;have e1:=h0 1;have e2:=h0 2;have e3:=h0 3;have e4:=h0 4;generalize hubLens x.hub.s=C at *;obtain⟨a0,a1,a2,a3,a4⟩:=C;simp[Clk.get] at e0 e1 e2 e3 e4;subst e0 e1 e2 e3 e4;rfl
 have dI:l=ZCz:=by
  rw[←hz];have be:=hl;unfold Zcl at be;unfold hubLens;split at be
  ·rename_i hu;rw[if_pos hu];exact(Zs8 be).symm
  ·rename_i hu;rw[if_neg hu];exact(Zs8 be).symm
 exact⟨u,k,ac,by rw[hl,dI],h5⟩
theorem Ztb{w:World}{a:Option Addr}{n cap:Nat}{ss:List RawSt}(x0 x1 x2 x3 x4 x5:Int)(hr:Reads w w.heap.size 10 a n (ss.flatMap Zdi))(hn:n=ss.length)(bc:∀ s∈ss,RawOk s)(bW:n<9223372036854775807):
  Calls prog 6 #[.agg #[.int .i64 x0,.int .i64 x1,.int .i64 x2,.int .i64 x3,.int .i64 x4,.int .i64 x5],.slice a n cap] w λ e w'=>e = .returned (.bool true)/\Below w.heap.size w w':=by
 obtain⟨dd,db,HR,HN,cC⟩:=ZH5 ((ZKr w).alloc (.cells #[.int .i64 x0,.int .i64 x1,.int .i64 x2,.int .i64 x3,.int .i64 x4,.int .i64 x5] 23)) (ZBn w 23 #[.int .i64 x0,.int .i64 x1,.int .i64 x2,.int .i64 x3,.int .i64 x4,.int .i64 x5]) hr hn bc;clear hr hn bc;go_enter func6,ntmps6;go_wp2_with fail;refine(ZsN _).mono ?_;rintro _ w1 ⟨rfl,am⟩;have de:=ZH (dd.out.step am);have cH:=db.out.ob am;obtain⟨c0,c1,c2,c3,c4,c5⟩:=cH.aS;have dJ:=cH.lt;clear am cH dd db;go_wp2_with fail;refine(ZsY x0 x1 x2 x3 x4 x5 w1).mono ?_;rintro _ w2 ⟨rfl,cq⟩;have bc:=ZsU x0 x1 x2 x3 x4 x5;obtain⟨c,hc⟩:∃ c,c=Znt x0 x1 x2 x3 x4 x5:=⟨_,rfl⟩;rw[←hc] at bc ⊢;obtain⟨ag,bi⟩:=ZH2 bc (de.out.step cq);have cr:Blk ((w2.alloc (.cells Zs0 23)).setRow w2.heap.size (Zal c)) w2.heap.size 23 (Zal c):=(ZBn w2 23 Zs0).row _;have dm:=((ZKr w2).alloc (.cells Zs0 23)).row (ZL _) (Zal c);clear cq hc bc de c0 c1 c2 c3 c4 c5 dJ;obtain⟨c0,c1,c2,c3,c4,c5⟩:=cr.aS;have dL:=cr.lt;obtain⟨cz,bd⟩:=ZH2 cr (bi.out.trans dm bi.out.le);clear cr dm bi
 go_wp2_with (first
  |(refine Zy rfl 23 rfl Zs0 ZK ?_)
  |(refine wpList_store_row rfl 23 (.tmp 6) (.tmp 17) rfl w2.heap.size (Zal c) rfl rfl 23 Zs0 (ZBn w2 23 _) (ZsP c) rfl (ZsS c) ?_))
 refine(ZpY (own:=own0) (t:=1) ZO (λ _ _=>rfl) ag.out).mono ?_;rintro _ w3 ⟨p,cm,rfl,dv,cc⟩;have aN:Blk w3 w2.heap.size 23 (Zal c):=cz.out.upd cc (show ¬ Zp 1 (own0 w2.heap.size) from nw0);have bx:cm w2.heap.size=0:=cc.old _ cz.out.lt;obtain⟨b6,dk⟩:∃ b6,b6=w2.heap.size:=⟨_,rfl⟩;rw[←dk] at aN bx ⊢;obtain⟨aY,dc⟩:=ZH2 (In.new ZO bd.out dv cc) (cc.fresh);have dK:=aN.lt;obtain⟨bI,bM⟩:=ZH2 aN bx;clear dv cc dk bx cz bd c0 c1 c2 c3 c4 c5 dL;obtain⟨c0,c1,c2,c3,c4,c5⟩:=aN.aS;clear aN;go_wp2_with fail;have ca:=(HR.out.below aY.out.all).more (B':=w3.heap.size) aY.out.all.size;refine(Ztg ca HN.out cC.out ag.out.n1 ag.out.n5 bW).mono ?_;rintro _ w4 ⟨v,rfl,bz,dj⟩;have bB:=Ztf ag.out cC.out;have cU:=Zte c.n ss;obtain⟨l0,dn⟩:∃ l0,l0=Zs5 c.n ss:=⟨_,rfl⟩;rw[←dn] at bz bB cU;obtain⟨bb,dt⟩:=Loc.bt bI.out bM.out dc.out bz dj 900000;have bu:=aY.out.other ag.out dt (λ _ _ h=>h) (λ h=>h);obtain⟨cY,bf⟩:∃ o,o=cm.put v 900000:=⟨_,rfl⟩;rw[←bf] at bb bu;obtain⟨av,cv,rfl⟩:=bb.slice;obtain⟨aj,aW,cD⟩:=ZH3 bb bu bB;have bl:Hid ((Zfe c).hub.rs=[]):=ZH rfl;clear bz dj dn bb dt bu bf bB ca aY bI bM dc HR HN cC c0 c1 c2 c3 c4 c5 dK;go_wp2_with fail;go_loopw [10] (λ i wr=>∃ (q:Nat) (own:Own) (B:Bd) (x:WS) (l:List St),q<=l0.length/\i = .int .i64 q/\Hid (In own 1 w wr p c q B x)/\Hid (Loc own wr b6 c 900000 (.slice av l0.length cv) l)/\Hid (l.length=l0.length/\∀ j,q<=j->l[j]? = l0[j]?)/\Hid (x.hub.rs=[])) (λ i _=>l0.length-(intOf i).toNat)
 case atStart=>exact⟨0,cY,_,_,l0,ZO,rfl,aW,aj,ZH ⟨rfl,λ _ _=>rfl⟩,bl⟩
 case round =>
  clear aW aj bl;obtain⟨q,own,B,x,l,hq,rfl,aW,aj,HL,bl⟩:=hrel;by_cases cw:q<l0.length
  ·obtain⟨s,cT⟩:∃ s,l0[q]? = some s:=⟨_,ZX cw⟩;have cV:l[q]? = some s:=(HL.out.2 q (ZL _)).trans cT;have ba:=ZH (cD.out s (ZY cT));obtain⟨g,cap2,hv,b5,hc⟩:=aj.out.step cV;obtain rfl:av=some ⟨g,0,none⟩:=by injection hv
   have e0:=hc 0 _ rfl;simp only[Nat.add_zero] at e0;have cu:=aj.out.frozen rfl (q*10);have ct:=aj.out.blk.cell 0;simp only[ZD,ZE] at ct;have bq:=aj.out.blk.lt;have bO:=ZH cV;clear cT cV hv hc;by_cases cp:4<=s.kind/\s.kind<=7
   ·obtain⟨h4,h7⟩:=cp;go_upto_region 12 with fail
    have cQ:=aj.out;rw[←HL.out.1] at cQ;have cx:=cQ.store aW.out.fresh ZJ bO.out 6;rw[HL.out.1] at cx;have dp:q<l.length:=by rw[HL.out.1];exact cw
    have az:=ZH (aW.out.other ag.out cx.2 (λ n hn e=>nwk (e▸hn)) (λ e=>absurd e ZJ));have bN:Hid ((l.set q (withKind s 6))[q]? = some (withKind s 6)):=ZH (List.getElem?_set_self dp);have an:=ZH cx.1;have aD:Hid (StOk c (withKind s 6)):=ZH ⟨(by decide:(6:Nat)<=11),ba.out.r,ba.out.edit,ba.out.mask⟩;have bL:Hid ((withKind s 6).kind≠4/\(withKind s 6).kind≠5/\(withKind s 6).kind≠7):=ZH ⟨show(6:Nat)≠4 by decide,show(6:Nat)≠5 by decide,show(6:Nat)≠7 by decide⟩;have cB:Hid ((l.set q (withKind s 6)).length=l0.length/\∀ j,q+1<=j->(l.set q (withKind s 6))[j]? = l0[j]?):=ZH ⟨by rw[List.length_set];exact HL.out.1,λ j hj=>by rw[List.getElem?_set_ne ZO];exact HL.out.2 j ZO⟩;generalize l.set q (withKind s 6)=l5 at *;generalize withKind s 6=s5 at *;generalize wr.setCell ⟨g,q*10,none⟩ (.int .i64 6)=W5 at *;clear cQ cx dp e0 cu ct bq b5 aW aj HL bO ba h4 h7;obtain⟨g',cG,ce,cL,aq⟩:=an.out.step bN.out;have cN:g'=g:=by
     injection ce with h1
     injection h1 with h1
     injection h1 with h1
     exact h1.symm
    subst cN;have d0:=aq 0 _ rfl;have d1:=aq 1 _ rfl;have d2:=aq 2 _ rfl;have d3:=aq 3 _ rfl;have d4:=aq 4 _ rfl;have d5:=aq 5 _ rfl;have d6:=aq 6 _ rfl;have d7:=aq 7 _ rfl;have d8:=aq 8 _ rfl;have d9:=aq 9 _ rfl;simp only[Nat.add_zero] at d0;clear aq ce;go_wp2_with fail;refine(az.out.bH ZO ag.out ZO aD.out).mono ?_;intro e6 w6 hp;obtain⟨tb,bE,B6,cW,rfl,aF,cd,_,_⟩:=az.out.step ZO ag.out ZO aD.out hp;have aH:=(Zs9 (c:=c) (x:=x) (s:=Zu s5 tb) bL.out).trans bl.out;have ax:=an.out.upd cd nw0 nwk;obtain⟨x6,ci⟩:∃ x6,x6=(Zab c x (Zu s5 tb)).1:=⟨_,rfl⟩;rw[←ci] at aF aH;obtain⟨ab,au,aC⟩:=ZH3 aF ax aH;clear hp cW aF cd aH ax ci d0 d1 d2 d3 d4 d5 d6 d7 d8 d9 cL az an bN aD bL bl;go_wp2_with fail;refine(ZpX ab.out.at_ ab.out.fresh ab.out.inv ag.out ZO).mono ?_;rintro _ w7 ⟨rfl,bp⟩;obtain⟨u,kb,ac,bT,cP⟩:=ab.out.inv.a7 ag.out aC.out;obtain⟨HA,aI⟩:∃ HA,HA=Zt u kb ZCz ac:=⟨_,rfl⟩;obtain⟨HZ,bm⟩:∃ HZ,HZ=Ztk:=⟨_,rfl⟩;rw[bT,show Zc4 u kb ZCz ac = .agg HA by rw[aI];rfl];have aG:=ab.out.below ag.out bp;have ay:=au.out.below ab.out.fresh bp;have bv:=((ZKr w7).alloc (.cells HZ 56)).row (ZL _) HA;have bU:Blk ((w7.alloc (.cells HZ 56)).setRow w7.heap.size HA) w7.heap.size 56 HA:=(ZBn w7 56 HZ).row _;have aP:(prog.info? 56).map (λ i=>i.size)=some HA.size:=by rw[aI];exact ZbR _ _ _ cP
    have bC:HA.size=HZ.size:=by rw[aI,bm];simp only[Zcb,cP,List.length_replicate]
    have aT:HA.all (·.oneCell')=true:=by rw[aI];exact Zdq _ _ _ _
    have cj:(prog.info? 56).map (λ i=>i.zero)=some (some (.agg HZ)):=by rw[bm];kernel_rfl
    obtain⟨aA,ap,aK,bJ,aL,bP,aB,bQ⟩:=ZH8 (aG.below ag.out bv.below) (ay.below aG.fresh bv.below) bU aI aP bC aT cj;clear bp bT aG ay bv bU cP aI bm aP bC aT cj ab au
    go_wp2_with (first
     |(refine Zy rfl 56 rfl HZ bQ.out ?_)
     |(refine wpList_store_row rfl 56 (.tmp 11) (.tmp 64) rfl w7.heap.size HA rfl rfl 56 HZ (ZBn w7 56 HZ) aL.out bP.out.symm aB.out ?_))
    obtain⟨hb,b7⟩:∃ hb,hb=w7.heap.size:=⟨_,rfl⟩;obtain⟨W8,bR⟩:∃ W8,W8=(w7.alloc (.cells HZ 56)).setRow w7.heap.size HA:=⟨_,rfl⟩;rw[←bR] at aA ap aK ⊢;rw[←b7] at aK ⊢;have aK:Hid (Blk W8 hb 56 (Zt u kb ZCz ac)):=ZH (by rw[←bJ.out];exact aK.out);clear bR b7 aL bP aB bQ bJ;have HK:=ZH (ZKr W8);go_loopw [12] (λ i cZ=>∃ r:Nat,r<=c.n/\i = .int .i64 r/\Hid (Kept W8.heap.size W8 cZ)) (λ i _=>c.n-(intOf i).toNat)
    case atStart=>exact⟨0,ZO,rfl,HK⟩
    case round =>
     clear HK;obtain⟨r,hr,rfl,HK⟩:=hrel;obtain⟨ai,ae⟩:=ZH2 (aA.out.below ag.out HK.out.below) (ap.out.below aA.out.fresh HK.out.below);have aO:=ae.out.blk.cell 0;simp only[ZD,ZE] at aO;have br:=ae.out.blk.lt;by_cases cb:r<c.n
     ·go_wp2_with fail;refine(Zjg ai.out.at_ ai.out.fresh ai.out.inv ag.out ZO cb).mono ?_;rintro _ wt ⟨vh,vl,rfl,cf,cg,bZ⟩;obtain⟨e1,e2,e3,e4⟩:=ai.out.inv.aa ag.out aC.out cb;generalize Zbz (x6.nodes r).s=S at *;obtain⟨ah,ch,rfl⟩:=Zs cf;obtain⟨al,cl,rfl⟩:=Zs cg;have aw:S.held.length=0:=by rw[e2];rfl
      rw[aw,e3,e4];have bw:=HK.out.step bZ;have b8:=(bw.alloc (.cells Zs2 47)).row bw.le (Zx S.up S.clk 0 (.slice ah 0 ch) (.slice al (S.clk.get r) cl));have bV:Blk ((wt.alloc (.cells Zs2 47)).setRow wt.heap.size (Zx S.up S.clk 0 (.slice ah 0 ch) (.slice al (S.clk.get r) cl))) wt.heap.size 47 (Zx S.up S.clk 0 (.slice ah 0 ch) (.slice al (S.clk.get r) cl)):=(ZBn wt 47 Zs2).row _;obtain⟨aZ,ar,cA⟩:=ZH3 b8 bV e1;clear cf cg bZ e1 e2 e3 e4 aw bw b8 bV aO br ai ae HK
      go_wp2_with (first
       |(refine Zy rfl 47 rfl Zs2 ZK ?_)
       |(refine wpList_store_row rfl 47 (.tmp 13) (.tmp 73) rfl wt.heap.size (Zx S.up S.clk 0 (.slice ah 0 ch) (.slice al (S.clk.get r) cl)) rfl rfl 47 Zs2 (ZBn wt 47 Zs2) (Zdl _ _ _ _ _) rfl (Zio _ _ _ _ _ _ _ _ _) ?_))
      obtain⟨ck,aR⟩:∃ ck,ck=wt.heap.size:=⟨_,rfl⟩;obtain⟨WA,bS⟩:∃ WA,WA=(wt.alloc (.cells Zs2 47)).setRow wt.heap.size (Zx S.up S.clk 0 (.slice ah 0 ch) (.slice al (S.clk.get r) cl)):=⟨_,rfl⟩;rw[←bS] at aZ ar ⊢;rw[←aR] at ar ⊢;clear bS aR;have aE:=ap.out.blk.ob aZ.out.below;have bs:=aE.cell 0;simp only[ZD,ZE] at bs;have bY:=aE.lt;have bK:=ZH (aK.out.ob aZ.out.below);have dF:=bK.out.lt;have dG:=ar.out.lt;clear aE;go_loopw [14] (λ i da=>∃ k:Nat,k<=c.n/\i = .int .i64 k/\WA=da) (λ i _=>c.n-(intOf i).toNat)
      case atStart=>exact⟨0,ZO,rfl,rfl⟩
      case round =>
       obtain⟨k,hk,rfl,rfl⟩:=hrel;have dP:=ag.out.n5;by_cases dH:k<c.n
       ·have q1:=ar.out.a5 (i:=k) ZO;have q2:=bK.out.hubLen (i:=k) ZO;rw[ZbW] at q2;have k0:(0:Int)<=(k:Int):=ZO;have k5:(k:Int)<5:=ZO;by_cases b9:k=r;focus
         subst b9
        rotate_left
        focus
         rw[cA.out k b9] at q1;have am:((k:Int)==(r:Int))=false:=ZP;have cq:((k:Int) != (r:Int))=true:=ZP;have dD:¬ (k:Int)=(r:Int):=ZO
        rotate_left
        all_goals
         go_wp2
         go_roundw
         case rel=>exact⟨k+1,ZO,ZN,by first | trivial | rfl⟩
         case measure=>simp[intOf];omega
       ·obtain rfl:k=c.n:=ZO;have z2:=ar.out.cell 6;have z3:=ar.out.cell 7;have z4:=ar.out.cell 8;simp only[ZD,ZE,ZG] at z2 z3 z4;have q1:=ar.out.a5 (i:=r) ZO;have r0:(0:Int)<=(r:Int):=ZO;have r5:(r:Int)<5:=ZO;go_wp2_with fail;go_quiet (fail)
        go_wp2
        go_roundw
        case rel=>exact⟨r+1,ZO,ZN,aZ.out.drewN _⟩
        case measure=>simp[intOf];omega
     ·obtain rfl:r=c.n:=ZO;go_wp2
      go_roundw
      case rel=>exact⟨q+1,bE,B6,x6,l5,ZO,ZN,ai,ae,cB,aC⟩
      case measure=>simp[intOf];omega
   ·have bN:=bO;have aD:=ba;have az:=aW;have an:=aj;have bL:Hid (s.kind≠4/\s.kind≠5/\s.kind≠7):=ZH ⟨ZO,ZO,ZO⟩;have cB:Hid (l.length=l0.length/\∀ j,q+1<=j->l[j]? = l0[j]?):=ZH ⟨HL.out.1,λ j hj=>HL.out.2 j ZO⟩;by_cases h4:4<=s.kind;focus
     have h7:¬ s.kind<=7:=λ h=>cp ⟨h4,h⟩
     go_upto_region 12 with fail
     clear h4 h7 cp e0 cu ct bq b5 aW aj HL bO ba
    rotate_left
    focus
     go_upto_region 12 with fail
     clear h4 cp e0 cu ct bq b5 aW aj HL bO ba
    rotate_left
    all_goals
     obtain⟨g',cG,ce,cL,aq⟩:=an.out.step bN.out;have cN:g'=g:=by
      injection ce with h1
      injection h1 with h1
      injection h1 with h1
      exact h1.symm
     subst cN;have d0:=aq 0 _ rfl;have d1:=aq 1 _ rfl;have d2:=aq 2 _ rfl;have d3:=aq 3 _ rfl;have d4:=aq 4 _ rfl;have d5:=aq 5 _ rfl;have d6:=aq 6 _ rfl;have d7:=aq 7 _ rfl;have d8:=aq 8 _ rfl;have d9:=aq 9 _ rfl;simp only[Nat.add_zero] at d0;clear aq ce;go_wp2_with fail;refine(az.out.bH ZO ag.out ZO aD.out).mono ?_;intro e6 w6 hp;obtain⟨tb,bE,B6,cW,rfl,aF,cd,_,_⟩:=az.out.step ZO ag.out ZO aD.out hp;have aH:=(Zs9 (c:=c) (x:=x) (s:=Zu s tb) bL.out).trans bl.out;have ax:=an.out.upd cd nw0 nwk;obtain⟨x6,ci⟩:∃ x6,x6=(Zab c x (Zu s tb)).1:=⟨_,rfl⟩;rw[←ci] at aF aH;obtain⟨ab,au,aC⟩:=ZH3 aF ax aH;clear hp cW aF cd aH ax ci d0 d1 d2 d3 d4 d5 d6 d7 d8 d9 cL az an bN aD bL bl;go_wp2_with fail;refine(ZpX ab.out.at_ ab.out.fresh ab.out.inv ag.out ZO).mono ?_;rintro _ w7 ⟨rfl,bp⟩;obtain⟨u,kb,ac,bT,hl⟩:=ab.out.inv.a7 ag.out aC.out;obtain⟨HA,aI⟩:∃ HA,HA=Zt u kb ZCz ac:=⟨_,rfl⟩;obtain⟨HZ,bm⟩:∃ HZ,HZ=Ztk:=⟨_,rfl⟩;rw[bT,show Zc4 u kb ZCz ac = .agg HA by rw[aI];rfl];have aG:=ab.out.below ag.out bp;have ay:=au.out.below ab.out.fresh bp;have bv:=((ZKr w7).alloc (.cells HZ 56)).row (ZL _) HA;have bU:Blk ((w7.alloc (.cells HZ 56)).setRow w7.heap.size HA) w7.heap.size 56 HA:=(ZBn w7 56 HZ).row _;have aP:(prog.info? 56).map (λ i=>i.size)=some HA.size:=by rw[aI];exact ZbR _ _ _ hl
     have bC:HA.size=HZ.size:=by rw[aI,bm];simp only[Zcb,hl,List.length_replicate]
     have aT:HA.all (·.oneCell')=true:=by rw[aI];exact Zdq _ _ _ _
     have cj:(prog.info? 56).map (λ i=>i.zero)=some (some (.agg HZ)):=by rw[bm];kernel_rfl
     obtain⟨aA,ap,aK,bJ,aL,bP,aB,bQ⟩:=ZH8 (aG.below ag.out bv.below) (ay.below aG.fresh bv.below) bU aI aP bC aT cj;clear bp bT aG ay bv bU hl aI bm aP bC aT cj ab au
     go_wp2_with (first
      |(refine Zy rfl 56 rfl HZ bQ.out ?_)
      |(refine wpList_store_row rfl 56 (.tmp 11) (.tmp 64) rfl w7.heap.size HA rfl rfl 56 HZ (ZBn w7 56 HZ) aL.out bP.out.symm aB.out ?_))
     obtain⟨hb,b7⟩:∃ hb,hb=w7.heap.size:=⟨_,rfl⟩;obtain⟨W8,bR⟩:∃ W8,W8=(w7.alloc (.cells HZ 56)).setRow w7.heap.size HA:=⟨_,rfl⟩;rw[←bR] at aA ap aK ⊢;rw[←b7] at aK ⊢;have aK:Hid (Blk W8 hb 56 (Zt u kb ZCz ac)):=ZH (by rw[←bJ.out];exact aK.out);clear bR b7 aL bP aB bQ bJ;have HK:=ZH (ZKr W8);go_loopw [12] (λ i cZ=>∃ r:Nat,r<=c.n/\i = .int .i64 r/\Hid (Kept W8.heap.size W8 cZ)) (λ i _=>c.n-(intOf i).toNat)
     case atStart=>exact⟨0,ZO,rfl,HK⟩
     case round =>
      clear HK;obtain⟨r,hr,rfl,HK⟩:=hrel;obtain⟨ai,ae⟩:=ZH2 (aA.out.below ag.out HK.out.below) (ap.out.below aA.out.fresh HK.out.below);have aO:=ae.out.blk.cell 0;simp only[ZD,ZE] at aO;have br:=ae.out.blk.lt;by_cases cb:r<c.n
      ·go_wp2_with fail;refine(Zjg ai.out.at_ ai.out.fresh ai.out.inv ag.out ZO cb).mono ?_;rintro _ wt ⟨vh,vl,rfl,cf,cg,bZ⟩;obtain⟨e1,e2,e3,e4⟩:=ai.out.inv.aa ag.out aC.out cb;generalize Zbz (x6.nodes r).s=S at *;obtain⟨ah,ch,rfl⟩:=Zs cf;obtain⟨al,cl,rfl⟩:=Zs cg;have aw:S.held.length=0:=by rw[e2];rfl
       rw[aw,e3,e4];have bw:=HK.out.step bZ;have b8:=(bw.alloc (.cells Zs2 47)).row bw.le (Zx S.up S.clk 0 (.slice ah 0 ch) (.slice al (S.clk.get r) cl));have bV:Blk ((wt.alloc (.cells Zs2 47)).setRow wt.heap.size (Zx S.up S.clk 0 (.slice ah 0 ch) (.slice al (S.clk.get r) cl))) wt.heap.size 47 (Zx S.up S.clk 0 (.slice ah 0 ch) (.slice al (S.clk.get r) cl)):=(ZBn wt 47 Zs2).row _;obtain⟨aZ,ar,cA⟩:=ZH3 b8 bV e1;clear cf cg bZ e1 e2 e3 e4 aw bw b8 bV aO br ai ae HK
       go_wp2_with (first
        |(refine Zy rfl 47 rfl Zs2 ZK ?_)
        |(refine wpList_store_row rfl 47 (.tmp 13) (.tmp 73) rfl wt.heap.size (Zx S.up S.clk 0 (.slice ah 0 ch) (.slice al (S.clk.get r) cl)) rfl rfl 47 Zs2 (ZBn wt 47 Zs2) (Zdl _ _ _ _ _) rfl (Zio _ _ _ _ _ _ _ _ _) ?_))
       obtain⟨ck,aR⟩:∃ ck,ck=wt.heap.size:=⟨_,rfl⟩;obtain⟨WA,bS⟩:∃ WA,WA=(wt.alloc (.cells Zs2 47)).setRow wt.heap.size (Zx S.up S.clk 0 (.slice ah 0 ch) (.slice al (S.clk.get r) cl)):=⟨_,rfl⟩;rw[←bS] at aZ ar ⊢;rw[←aR] at ar ⊢;clear bS aR;have aE:=ap.out.blk.ob aZ.out.below;have bs:=aE.cell 0;simp only[ZD,ZE] at bs;have bY:=aE.lt;have bK:=ZH (aK.out.ob aZ.out.below);have dF:=bK.out.lt;have dG:=ar.out.lt;clear aE;go_loopw [14] (λ i da=>∃ k:Nat,k<=c.n/\i = .int .i64 k/\WA=da) (λ i _=>c.n-(intOf i).toNat)
       case atStart=>exact⟨0,ZO,rfl,rfl⟩
       case round =>
        obtain⟨k,hk,rfl,rfl⟩:=hrel;have dP:=ag.out.n5;by_cases dH:k<c.n
        ·have q1:=ar.out.a5 (i:=k) ZO;have q2:=bK.out.hubLen (i:=k) ZO;rw[ZbW] at q2;have k0:(0:Int)<=(k:Int):=ZO;have k5:(k:Int)<5:=ZO;by_cases b9:k=r;focus
          subst b9
         rotate_left
         focus
          rw[cA.out k b9] at q1;have am:((k:Int)==(r:Int))=false:=ZP;have cq:((k:Int) != (r:Int))=true:=ZP;have dD:¬ (k:Int)=(r:Int):=ZO
         rotate_left
         all_goals
          go_wp2
          go_roundw
          case rel=>exact⟨k+1,ZO,ZN,by first | trivial | rfl⟩
          case measure=>simp[intOf];omega
        ·obtain rfl:k=c.n:=ZO;have z2:=ar.out.cell 6;have z3:=ar.out.cell 7;have z4:=ar.out.cell 8;simp only[ZD,ZE,ZG] at z2 z3 z4;have q1:=ar.out.a5 (i:=r) ZO;have r0:(0:Int)<=(r:Int):=ZO;have r5:(r:Int)<5:=ZO;go_wp2_with fail;go_quiet (fail)
         go_wp2
         go_roundw
         case rel=>exact⟨r+1,ZO,ZN,aZ.out.drewN _⟩
         case measure=>simp[intOf];omega
      ·obtain rfl:r=c.n:=ZO;go_wp2
       go_roundw
       case rel=>exact⟨q+1,bE,B6,x6,l,ZO,ZN,ai,ae,cB,aC⟩
       case measure=>simp[intOf];omega
  ·obtain rfl:q=l0.length:=ZO;go_wp2
   go_ret;exact⟨rfl,aW.out.all⟩
end Go.Proofs.YtjkfognelhiepaaGreat
namespace Go.Proofs.YtjkfognelhiepaaGreat.topDrops
open Go.RowKit _root_.Go.Proofs.Tryz
set_option maxRecDepth 100000
set_option maxHeartbeats 8000000
open Go.ChangeShapes Go.WideShapes Go.ChangeAt Go.RowKit
open Go.ChangeMaps (open_string shut_string)
theorem own_:ownKnob prog.godebug=none:=ZK
theorem laid_:laidOutB prog=true:=ZK
theorem lifted(os:Os)(started:os.Started)(H:Type)(enc:TypeId × Value->H):
  ReturnsInHanded {} checked os 6 .any (Rows.topDropsSpec.pre6 enc prog f6 Rows.topDropsRow.domain false) (Rows.topDropsSpec.post enc prog f6 false true false false):=by
 refine returnsInHanded_of_change_sized (C:=checked) own_ started ZK func6
  (ChangeSpec.witness6 (enc:=enc) (C:=checked) false ⟨#[],#[.agg #[.int .i64 0,.int .i64 0,.int .i64 0,.int .i64 0,.int .i64 0,.int .i64 0],.slice none 0 0],[]⟩ 8 ZK ZK ZK ZK) ?_
 intro W base args ds gs before bg hW hcnd bC _;have bD:∀ (j:Nat) t v,f6.params[j]? = some t->args[j]? = some v->Value.okWide prog W .any base t v:=bg;have dC:=hW;obtain⟨p,q,dg,hV,rfl,cu,hnd⟩:=hW;have hA:DataW.TrodAll enc prog W 0 (λ _=>true) true f6.params.toList args.toList ds p:=dg;rw[params6] at hA bD;obtain⟨v0,vs0,d0,ds0,p0,q0,hargs,rfl,rfl,h0,r0⟩:=trodAll_cons hA;obtain⟨v1,vs1,d1,ds1,p1,q1,rfl,rfl,rfl,h1,r1⟩:=trodAll_cons r0;obtain⟨rfl,rfl,rfl⟩:=trodAll_nil r1;obtain rfl:args=#[v0,v1]:=by cases args;simp_all
 obtain⟨rfl,rfl⟩:=trodVars_none hV;have k0:=h0;have dT:∀ x∈p0,x.block<W.heap.size:=by obtain⟨m,hm⟩:=k0;exact DataW.trod_lt m _ _ _ hm
 have k1:=h1;have dU:∀ x∈p1,x.block<W.heap.size:=by obtain⟨m,hm⟩:=k1;exact DataW.trod_lt m _ _ _ hm
 have cX:∀ m∈d1.weights prog 24,m<=reachBytes:=λ m hm=>of_decide_eq_true (List.all_eq_true.1 bC _ (DataW.weights_mem_each (j:=1) (by rw[params6];rfl) rfl m hm))
 obtain⟨x0,x1,x2,x3,x4,x5,rfl⟩:=ZsH (bD 0 23 _ rfl rfl) h0;obtain⟨a1,n1,c1,ss,rfl,dO,cR,cS,bX⟩:=ZsL (bD 1 24 _ rfl rfl) h1 cX;clear dg bg;refine(Ztb x0 x1 x2 x3 x4 x5 cS dO cR bX).mono λ e W' ⟨he,cF⟩=>?_
 subst he;exact⟨_,rfl,_,_,_,[],_,[],dC,trodAll_mk1 (shut_bool underlying4 _),(trodAll_cons_mk (Below.trod laid_ ZK (of_decide_eq_true ZK) k0 cF dT) (trodAll_cons_mk (Below.trod laid_ ZK (of_decide_eq_true ZK) k1 cF dU) trodAll_mk0)),rfl,cF.frame _,λ h=>by cases h⟩
theorem Ztm:Rows.topDropsRow.holds Tryz.pinned (OpenSpec.ofChange Rows.topDropsSpec) :=
 OpenClaim.holds_of_wide 6 f6 rfl rfl rfl rfl rfl rfl rfl ⟨rfl,rfl,rfl,rfl,rfl⟩ rfl rfl rfl rfl rfl ZK func6 ZK
  (of_decide_eq_true ZK) (by unfold Func.isWrapper;first|(rw[if_pos (by decide +kernel)];kernel_rfl)|(rw[if_neg (by decide +kernel)];exact⟨rfl,rfl⟩))
  (λ os started H enc _=>lifted os started H enc)
theorem proved:Rows.TopDropsSaid:=Ztm
end Go.Proofs.YtjkfognelhiepaaGreat.topDrops
namespace Go.Proofs.YtjkfognelhiepaaGreat
open Go.RowKit _root_.Go.Proofs.Tryz
set_option maxRecDepth 100000
set_option maxHeartbeats 8000000
end Go.Proofs.YtjkfognelhiepaaGreat
