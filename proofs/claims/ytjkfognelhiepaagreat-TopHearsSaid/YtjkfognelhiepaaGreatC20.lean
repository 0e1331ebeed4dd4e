import Derived.Test.YtjkfognelhiepaaGreatC19
namespace Go.Proofs.YtjkfognelhiepaaGreat
open Go.RowKit _root_.Go.Proofs.Tryz
set_option maxRecDepth 100000
set_option maxHeartbeats 8000000
def Zav(f:Frm):Frm:=⟨6,f.r,0,f.clock,[]⟩
theorem ZjO{f:Frm}(h:f.Ok):RecOk (Zav f) :=
 ⟨by simp[Zav],by simp[Zav],h.r,by simp[Zav],by simp[Zav],h.clock,by simp[Zav],by simp[Zav],by simp[Zav],by simp[Zav],by simp[Zav]⟩
def Z9(told:List Clk)(f:Frm):List Clk:=told.set f.r ((told.getD f.r ZCz).join f.clock)
def ZmK(own:Own)(t p:Nat)(c:Cfg)(d:Dk)(sh:List Sh)(told:List Clk)(f:Frm)(w:World)(r:Ending)(w':World):Prop :=
 ∃ own',Upd (HubT t) own own' w w' /\
  if (Z9 told f).getD f.r ZCz=told.getD f.r ZCz then r = .returned (.int .i64 0)/\HubAt own' t w' p c true d (ZaE sh (Z9 told f) sh.length) (Z9 told f)
  else if (d.write (recBytes (Zav f))).2=0 then r = .returned (.int .i64 0)/\HubAt own' t w' p c true (d.write (recBytes (Zav f))).1 (ZaE sh (Z9 told f) sh.length) (Z9 told f)
  else r = .returned (.int .i64 18)/\HubAt own' t w' p c false (d.write (recBytes (Zav f))).1 (ZaE sh (Z9 told f) sh.length) (Z9 told f)
theorem Zma{told:List Clk}{s:Nat}{x:Sh}{most:Nat}(h:x.kept.length<=most/\x.base+x.kept.length<=100004):(cutSh told s x).kept.length<=most/\(cutSh told s x).base+(cutSh told s x).kept.length<=100004:=by
 simp only[cutSh,List.length_drop];unfold Zbo;omega
theorem ZdU{told:List Clk}{most:Nat}{sh:List Sh}(h:∀ s∈sh,s.kept.length<=most/\s.base+s.kept.length<=100004):∀ k,∀ s∈ZaE sh told k,s.kept.length<=most/\s.base+s.kept.length<=100004
 | 0=>h
 | k+1=>by
  intro s hs;unfold ZaE at hs;split at hs
  ·rename_i x hx;rcases List.mem_or_eq_of_mem_set hs with h1 | h1
   ·exact ZdU h k s h1
   ·rw[h1];exact Zma (ZdU h k x (ZY hx))
  ·exact ZdU h k s hs
theorem Zl3{told:List Clk}{most k:Nat}{sh:List Sh}(h:∀ s∈sh,s.kept.length<=most/\s.base<=100000)(hm:most<=4):∀ s∈ZaE sh told k,s.kept.length<=1000000/\s.base<=1000000:=by
 intro s hs;have:=ZdU (told:=told) (most:=most) (sh:=sh) (λ x hx=>by have:=h x hx;omega) k s hs;omega
theorem ZrR{own:Own}{t p:Nat}{w:World}{c:Cfg}{d:Dk}{sh:List Sh}{told:List Clk}(ht:0<t)(h:HubAt own t w p c true d sh told)(hf:Fresh own w)(hc:c.Ok)(pV:PostOk c.n c.w (sh,told))(f:Frm)(eO:f.Ok)(hr:f.r<c.n){a:Option Addr}{n cap:Nat}(hd:d.bytes.length<=1000000000):
  Calls prog 95 #[.pointer (some ⟨p,0,none⟩),Z8 f (.slice a n cap)] w (ZmK own t p c d sh told f w):=by
 obtain⟨h1,h2,dp,pp,h3,h4,h5⟩:=h;have cA:=(ZKr w).alloc (.cells (Za f (.slice a n cap)) 158);obtain⟨HX,HB⟩:=ZH2 (ZBn w 158 (Za f (.slice a n cap))) (h3.alloc (.cells (Za f (.slice a n cap)) 158));have cX:Upd (λ _=>False) own own w (w.alloc (.cells (Za f (.slice a n cap)) 158)):=ZUb cA.below hf;obtain⟨HP,HD⟩:=ZH2 (h5.upd cX (λ _ _ h=>h)) (h4.upd cX (λ h=>h));have iQ:f.r<sh.length:=by rw[h2];exact hr
 have Mq:f.r<told.length:=by rw[pV.len2];exact hr
 obtain⟨tr,oQ⟩:∃ tr,told[f.r]? = some tr:=⟨_,ZX Mq⟩;have Hj:Hid (told.getD f.r ZCz=tr):=ZH (by simp[List.getD,oQ]);obtain⟨HU,df,gN,iy,kD,HC,HM,xx,kS⟩:=ZH9 cX cA eO h2 pV hc h1 hf h3.lt;obtain⟨ga,nI,NL,HR⟩:=ZH4 iQ oQ Mq hr;clear h1 h2 h3 h4 h5 cX cA hf eO pV hc iQ oQ Mq hr;have rp:(Za9 told).length=5:=ZcT (by rw[kD.out.len2];exact HC.out.n5);have jQ:=λ w=>Zlf (Zew sh) (lenOf sh) rp w
 have eC:f.r<5:=gN.out.r;have jK:=λ w=>Zlk (acks:=Za9 told) rp eC w
 have EA:(Za9 told).getD f.r ZCz=tr:=by rw[ZhD NL.out];exact Hj.out
 rw[EA] at jK;obtain⟨CM,Hn⟩:=ZH2 jQ jK;clear jQ jK EA rp;go_enter func95,ntmps95;go_wp2_with fail;generalize w.alloc (.cells (Za f (.slice a n cap)) 158)=W at *;refine wp_region_noPanic (ZcN (λ w'=>Kept W.heap.size W w') [(0,3),(1,0),(2,3),(3,0),(6,3),(7,0)] 4 [(5,3),(8,0),(9,1),(10,2)] 9 [(4,1),(5,3),(8,0),(10,2)] ZK ZK (λ _ _ _ _ _ h=>h) (Kept.drew ⟨ZW _ _,ZL _⟩) (λ bR=>?_));repeat((first | refine ZSa ?_ | refine ZSb ?_ | (refine Zf rfl (by rfl) (λ w' ci=>by(obtain⟨c0,c1,c2,c3,c4,c5,c6,c7,c8⟩:=(HB.out.ob ci.below).aj);(obtain⟨x0,x1,x2,x3,x4,x5,x6,x7,x8⟩:=(HX.out.ob ci.below).aj);go_simp;with_reducible rfl) ?_));simp only[Act.put,ZA,ZB,ZC])
 refine Zfb (λ bR=>?_) (λ bR=>?_);focus
  refine ZSd λ K hK=>?_
  go_simp;have dh:Upd (λ _=>False) own own W W.drew:=ZUb (ZW W.heap.size W).drew HU.out.fresh;refine(ZeC (HP.out.upd dh (λ _ _ h=>h)) dh.fresh (by rw[iy.out];exact HC.out.n5) (λ s hs=>by have:=kD.out.kept s hs;have:=HC.out.w4;omega)).mono ?_;rintro _ w2 ⟨rfl,bW⟩;refine hK.out (λ w'=>Kept W.heap.size W w') _ _ (λ _ h=>h) (bR.step bW) (λ bT=>?_);clear hK K bR bW dh;have jQ:=CM.out;have jK:=Hn.out;repeat((first | refine ZSa ?_ | refine ZSb ?_ | refine ZSc ?_);simp only[Act.put,ZA,ZB,ZC])
  refine ZSd λ K hK=>?_
  go_simp;refine hK.out (λ w'=>Kept W.heap.size W w') _ _ (λ _ h=>h) (bT.alloc _) (λ eW=>?_);clear hK K eW;refine ZSe λ K hK=>?_
  go_simp;have ka:=bT.below.alloc bT.le (.cells (clkArr tr) 44);obtain⟨Ab,dj,ia⟩:=ZH3 (ZBn w2 44 (clkArr tr)) (HB.out.ob ka) (HX.out.ob ka);have tS:Upd (λ _=>False) own own W (w2.alloc (.cells (clkArr tr) 44)):=ZUb ka HU.out.fresh;obtain⟨dI,gw,ii⟩:=ZH3 (HU.out.trans tS) (HP.out.upd tS (λ _ _ h=>h)) (HD.out.upd tS (λ h=>h));have rW:Hid (own w2.heap.size=0):=ZH (HU.out.fresh _ bT.le);refine hK.out _ _ ?_;clear hK K bT ka tS jQ jK;refine ZSf ?_;obtain⟨wb,Cl⟩:∃ wb,wb=w2.heap.size:=⟨_,rfl⟩;rw[←Cl] at Ab rW ⊢;clear Cl;generalize w2.alloc (.cells (clkArr tr) 44)=W3 at *
 rotate_left
 focus
  refine ZSd λ K hK=>?_
  go_simp;refine hK.out (λ w'=>Kept W.heap.size W w') _ _ (λ _ h=>h) (bR.alloc (.cells (clkArr ZCz) 44)) (λ eW=>?_);clear hK K;have If:Hid (Blk (W.drew.alloc (.cells (clkArr ZCz) 44)) W.heap.size 44 (clkArr ZCz)):=ZH (ZBn W.drew 44 (clkArr ZCz));have ye:=(ZW W.drew.heap.size W.drew).alloc (ZL _) (.cells (clkArr ZCz) 44);have dh:Upd (λ _=>False) own own W (W.drew.alloc (.cells (clkArr ZCz) 44)):=ZUb ((ZW W.heap.size W).drew.trans ye) HU.out.fresh;have gZ:=ZH dh;clear ye dh;repeat((first | refine ZSa ?_ | refine ZSb ?_ | refine ZSc ?_);simp only[Act.put,ZA,ZB,ZC])
  refine ZSd λ K hK=>?_
  go_simp;refine(ZeC (HP.out.upd gZ.out (λ _ _ h=>h)) gZ.out.fresh (by rw[iy.out];exact HC.out.n5) (λ s hs=>by have:=kD.out.kept s hs;have:=HC.out.w4;omega)).mono ?_;rintro _ w2 ⟨rfl,bW⟩;obtain⟨uk,RE⟩:=ZH2 (If.out.ob bW) (gZ.out.kept bW);refine hK.out (λ w'=>Kept W.heap.size W w') _ _ (λ _ h=>h) (eW.step bW) (λ bT=>?_);clear hK K bR bW eW;have jQ:=CM.out;have jK:=Hn.out;repeat((first | refine ZSa ?_ | refine ZSb ?_ | refine ZSc ?_);simp only[Act.put,ZA,ZB,ZC])
  obtain⟨z0,z1,z2,z3,z4⟩:=uk.out.aE;have zf:=uk.out.frozen;have GU:=zf 0;have GV:=zf 1;have GW:=zf 2;have GX:=zf 3;have GY:=zf 4;have oI:=uk.out.lt;clear zf;refine ZSe λ K hK=>?_
  go_simp;have vW:Blk (setAll w2 W.heap.size 0 (clkArr tr).toList) W.heap.size 44 (clkArr tr):=Zaw uk.out rfl;have tS:Upd (λ _=>False) own own W (setAll w2 W.heap.size 0 (clkArr tr).toList):=RE.out.setAll (λ h=>absurd h ZO) 0 _;obtain⟨Ab,dj,ia,dI,gw,ii⟩:=ZH6 vW (HB.out.upd tS (λ h=>h)) (HX.out.upd tS (λ h=>h)) (HU.out.trans tS) (HP.out.upd tS (λ _ _ h=>h)) (HD.out.upd tS (λ h=>h));have rW:Hid (own W.heap.size=0):=ZH (HU.out.fresh _ (ZL _));refine hK.out _ _ ?_;clear hK K bT vW tS jQ jK z0 z1 z2 z3 z4 GU GV GW GX GY oI;refine ZSf ?_;obtain⟨W3,m7⟩:∃ W3,W3=setAll w2 W.heap.size 0 (clkArr tr).toList:=⟨_,rfl⟩;rw[←m7] at Ab dj ia dI gw ii;change Exit.then _ _ _ _ (setAll w2 W.heap.size 0 (clkArr tr).toList);rw[←m7];clear m7;obtain⟨wb,Cl⟩:∃ wb,wb=W.heap.size:=⟨_,rfl⟩;rw[←Cl] at Ab rW ⊢;clear Cl
 rotate_left
 all_goals
  go_wp2_with fail;refine ZSi [(0,3),(1,0),(2,3),(3,0),(4,3),(5,0),(6,3),(7,0),(8,2),(9,3)] λ bR=>?_
  repeat((first | refine ZSa ?_ | refine ZSb ?_ | (refine Zf rfl (by rfl) (λ w' ci=>by(obtain⟨c0,c1,c2,c3,c4,c5,c6,c7,c8⟩:=(dj.out.ob ci.below).aj);(obtain⟨x0,x1,x2,x3,x4,x5,x6,x7,x8⟩:=(ia.out.ob ci.below).aj);go_simp;with_reducible rfl) ?_));simp only[Act.put,ZA,ZB,ZC])
  refine ZSe λ K hK=>?_
  go_simp;have dh:Upd (λ _=>False) own own W3 W3.drew:=ZUb (ZW W3.heap.size W3).drew dI.out.fresh;refine(Zly (gw.out.upd dh (λ _ _ h=>h)) dh.fresh (by rw[iy.out];exact HC.out.n5) f.r ga.out f.clock (λ i=>by have:=gN.out.clock i;omega) nI.out (λ i=>by have:=kD.out.told tr (ZY nI.out) i;omega) (λ s hs=>by have:=kD.out.kept s hs;have:=HC.out.w4;omega)).mono ?_;rintro _ w6 ⟨rfl,dU,nT,gT⟩;have tN:=HC.out.n5;have yz:=iy.out;have hT:∀ n,t+10<=n/\n<=t+10+sh.length->HubT t n:=λ n hn=>⟨ZO,ZO⟩
  have l8:=dh;have uw:=(dj.out.upd dh (λ h=>h)).upd gT (by rw[HM.out];omega);have Eh:=(ii.out.upd dh (λ h=>h)).upd gT ZO
  have wg:=(ia.out.upd dh (λ h=>h)).upd gT (by
   have h0:own w.heap.size=0:=xx.out _ (ZL _)
   omega)
  have uz:=(Ab.out.upd dh (λ h=>h)).upd gT (by have:=rW.out;omega);have pZ:Upd (HubT t) own dU w w6:=((dI.out.trans dh).mono (λ n h=>h.elim)).trans (gT.mono hT);have yU:told.set f.r (tr.join f.clock)=Z9 told f:=by unfold Z9;rw[Hj.out]
  rw[yU] at nT;have PI:dU w.heap.size=own w.heap.size:=by rw[gT.old _ (by have:=ia.out.lt;exact this)]
  obtain⟨i7,rS,nK,gY,rV,Aa,HX6o⟩:=ZH7 uw Eh wg pZ nT uz PI;have sH:Hid (dU p=t):=ZH ((pZ.old p kS.out).trans HM.out);refine hK.out _ _ ?_;clear hK K bR uw Eh wg pZ nT gT hT uz yU dh l8 tN yz PI;repeat((first | refine ZSa ?_ | refine ZSb ?_ | refine ZSc ?_);simp only[Act.put,ZA,ZB,ZC])
  refine ZSf ?_;go_wp2_with fail;have tJ:(Z9 told f).length<=5:=by
   unfold Z9;rw[List.length_set,kD.out.len2];exact HC.out.n5
  have Lc:(Za9 (Z9 told f)).length=5:=ZcT tJ;have jQ:=λ w=>Zlf (Zew (ZaE sh (Z9 told f) sh.length)) (lenOf (ZaE sh (Z9 told f) sh.length)) Lc w
  have jK:=λ w=>Zlk (acks:=Za9 (Z9 told f)) Lc eC w
  have EA:(Za9 (Z9 told f)).getD f.r ZCz=(Z9 told f).getD f.r ZCz:=ZhD (by unfold Z9;rw[List.length_set];exact NL.out);rw[EA] at jK;obtain⟨xn,Bt⟩:∃ xn,xn=(Z9 told f).getD f.r ZCz:=⟨_,rfl⟩;rw[←Bt] at jK;obtain⟨Dz,Jk,Jy⟩:=ZH3 Bt jQ jK;clear jQ jK EA Lc tJ Bt;refine ZSi [(0,3),(1,0),(2,3),(3,0),(6,3),(7,0),(9,0),(4,1),(5,3),(8,0),(10,3)] λ bR=>?_
  repeat((first | refine ZSa ?_ | refine ZSb ?_ | (refine Zf rfl (by rfl) (λ w' ci=>by(obtain⟨c0,c1,c2,c3,c4,c5,c6,c7,c8⟩:=(i7.out.ob ci.below).aj);(obtain⟨x0,x1,x2,x3,x4,x5,x6,x7,x8⟩:=(nK.out.ob ci.below).aj);(obtain⟨z0,z1,z2,z3,z4⟩:=(Aa.out.ob ci.below).aE);go_simp;with_reducible rfl) ?_));simp only[Act.put,ZA,ZB,ZC])
  refine ZSd λ K hK=>?_
  go_simp;have dh:Upd (λ _=>False) dU dU w6 w6.drew:=ZUb (ZW w6.heap.size w6).drew gY.out.fresh;refine(ZeC (rV.out.upd dh (λ _ _ h=>h)) dh.fresh (by rw[ZcO,iy.out];exact HC.out.n5) (λ s hs=>Zl3 kD.out.kept HC.out.w4 s hs)).mono ?_;rintro _ w7 ⟨rfl,jq⟩;refine hK.out (λ w'=>Kept w6.heap.size w6 w') _ _ (λ _ h=>h) (bR.step jq) (λ bT=>?_);clear hK K bR jq dh;have jQ:=Jk.out;have jK:=Jy.out;have ka:∃ bq,bq=decide (xn=tr):=⟨_,rfl⟩;obtain⟨bq,ka⟩:=ka;have tC:∀ w,(Op.equalIn 10000 44 (.agg #[.int .i64 (xn.c0:Int),.int .i64 (xn.c1:Int),.int .i64 (xn.c2:Int),.int .i64 (xn.c3:Int),.int .i64 (xn.c4:Int)]) (.agg #[.int .i64 (tr.c0:Int),.int .i64 (tr.c1:Int),.int .i64 (tr.c2:Int),.int .i64 (tr.c3:Int),.int .i64 (tr.c4:Int)])).run prog w = .ok bq w:=λ w=>by rw[ka];exact ZaO xn tr 9998 w
  have qN:=ZH ka;clear ka;repeat((first | refine ZSa ?_ | refine ZSb ?_ | (refine Zf rfl (by rfl) (λ w' ci=>by(obtain⟨z0,z1,z2,z3,z4⟩:=(Aa.out.ob ci.below).aE);go_simp;with_reducible rfl) ?_));simp only[Act.put,ZA,ZB,ZC])
  refine ZSf ?_;have HH:=ZH bT;have xf:Upd (λ _=>False) dU dU w6 w7:=ZUb bT.below gY.out.fresh;obtain⟨iu,Ic,qR,BP,ju⟩:=ZH5 (i7.out.ob bT.below) (nK.out.ob bT.below) (rS.out.upd xf (λ h=>h)) (rV.out.upd xf (λ _ _ h=>h)) (gY.out.trans (xf.mono (λ n h=>h.elim)));have HMP7:=sH;clear jQ jK tC bT xf;have fE:Hid ((ZaE sh (Z9 told f) sh.length).length=c.n):=ZH (by rw[ZcO];exact iy.out)
  cases bq with
  | true =>
   go_wp2
   go_ret;refine⟨dU,ju.out,?_⟩;rw[if_pos (by rw[←Dz.out,Hj.out];exact of_decide_eq_true qN.out.symm)];exact⟨rfl,sH.out,fE.out,dp,pp,iu.out,qR.out,BP.out⟩
  | false =>
   have vi:Hid (¬ (Z9 told f).getD f.r ZCz=told.getD f.r ZCz):=ZH (by rw[←Dz.out,Hj.out];exact of_decide_eq_false qN.out.symm);go_wp2_with fail;refine ZSi [(0,3),(1,0),(2,3),(3,3),(4,0),(5,3),(6,0),(7,3),(8,2),(9,3)] λ bR=>?_
   repeat((first | refine ZSa ?_ | refine ZSb ?_ | (refine Zf rfl (by rfl) (λ w' ci=>by(obtain⟨c0,c1,c2,c3,c4,c5,c6,c7,c8⟩:=(iu.out.ob ci.below).aj);(obtain⟨x0,x1,x2,x3,x4,x5,x6,x7,x8⟩:=(Ic.out.ob ci.below).aj);go_simp;with_reducible rfl) ?_));simp only[Act.put,ZA,ZB,ZC])
   have dh:Upd (λ _=>False) dU dU w7 w7.drew:=ZUb (ZW w7.heap.size w7).drew ju.out.fresh;have pE:=iu.out.drew;have Ba:=Zkb (td:=t+1) (p:=p) (w:=w7.drew) (f:=Zav f) (pE.cell 0) (pE.frozen 0) (pE.cell 1) pE.lt (by rw[sH.out];omega) (qR.out.upd dh (λ h=>h)) dh.fresh (ZjO gN.out) (EvSl.nil _) hd;obtain⟨JM,gZ⟩:=ZH2 Ba dh;clear Ba dh pE;refine ZSe λ K hK=>?_
   go_simp;refine JM.out.mono ?_;rintro r8 w8 ⟨dH,IX,kz,tA,qw⟩;have vP:=(iu.out.upd gZ.out (λ h=>h)).upd kz (by rw[sH.out];omega);have Iu:=(BP.out.upd gZ.out (λ _ _ h=>h)).upd kz (λ i _=>ZO);have Fj:dH p=t:=(kz.old p iu.out.lt).trans sH.out;have ud:Upd (HubT t) own dH w IX:=(ju.out.trans (gZ.out.mono (λ n h=>h.elim))).trans (kz.mono (λ n h=>⟨ZO,ZO⟩));by_cases iD:(d.write (recBytes (Zav f))).2=0
   ·rw[if_pos iD] at qw;obtain⟨rfl,rfl⟩:=qw;obtain⟨qL,zJ,JI,jo,CI,mm⟩:=ZH6 vP Iu Fj ud tA iD;refine hK.out _ _ ?_;clear hK K bR vP Iu Fj ud tA kz iD;repeat((first | refine ZSa ?_ | refine ZSb ?_ | refine ZSc ?_);simp only[Act.put,ZA,ZB,ZC])
    refine ZSf ?_;go_wp2
    go_ret;refine⟨dH,jo.out,?_⟩;rw[if_neg vi.out,if_pos mm.out];exact⟨rfl,JI.out,fE.out,dp,pp,qL.out,CI.out,zJ.out⟩
   ·rw[if_neg iD] at qw;obtain⟨rfl,rfl⟩:=qw;have jV:Upd (· = t) dH dH IX (IX.setCell ⟨p,0,none⟩ (.bool false)):=(Upd.refl (· = t) dH IX ud.fresh).setCell (p:=⟨p,0,none⟩) (λ _=>Fj) _;obtain⟨qL,zJ,JI,jo,CI,mm⟩:=ZH6 (vP.ai 0 (.bool false)) (Iu.upd jV (λ i _=>ZO)) Fj (ud.trans (jV.mono (T':=HubT t) (λ n h=>⟨ZO,ZO⟩))) (tA.upd jV ZO) iD;refine hK.out _ _ ?_;clear hK K bR vP Iu Fj ud tA kz iD jV;repeat((first | refine ZSa ?_ | refine ZSb ?_ | refine ZSc ?_);simp only[Act.put,ZA,ZB,ZC])
    refine ZSf ?_;go_wp2
    go_ret;exact⟨dH,jo.out,by rw[if_neg vi.out,if_neg mm.out];exact⟨rfl,JI.out,fE.out,dp,pp,qL.out,CI.out,zJ.out⟩⟩
structure HubSt where
 up:Bool
 d:Dk
 sh:List Sh
 told:List Clk
def Zax(c:Cfg)(s:HubSt)(f:Frm):HubSt × Option (Nat × Frm) × Nat :=
 if s.up=false then(s,none,18)
 else if f.kind=1 then
  if (Z7 c.w f.r f.events s.sh s.told).2.1≠0 then(⟨true,s.d,(Z7 c.w f.r f.events s.sh s.told).2.2,s.told⟩,none,(Z7 c.w f.r f.events s.sh s.told).2.1)
  else if (Z7 c.w f.r f.events s.sh s.told).1=(lenOf s.sh).get f.r then(⟨true,s.d,(Z7 c.w f.r f.events s.sh s.told).2.2,s.told⟩,some (f.r,ZaL f.r (Z7 c.w f.r f.events s.sh s.told).1),0)
  else if (s.d.write (recBytes (ZaC f))).2=0 then(⟨true,(s.d.write (recBytes (ZaC f))).1,(Z7 c.w f.r f.events s.sh s.told).2.2,s.told⟩,some (f.r,ZaL f.r (Z7 c.w f.r f.events s.sh s.told).1),0)
  else(⟨false,(s.d.write (recBytes (ZaC f))).1,(Z7 c.w f.r f.events s.sh s.told).2.2,s.told⟩,none,18)
 else if f.kind=3 then(s,some (f.r,Zbe f.r (Zak s.sh f.r f.clock s.sh.length)),0)
 else if (Z9 s.told f).getD f.r ZCz=s.told.getD f.r ZCz then(⟨true,s.d,ZaE s.sh (Z9 s.told f) s.sh.length,Z9 s.told f⟩,none,0)
 else if (s.d.write (recBytes (Zav f))).2=0 then(⟨true,(s.d.write (recBytes (Zav f))).1,ZaE s.sh (Z9 s.told f) s.sh.length,Z9 s.told f⟩,none,0)
 else(⟨false,(s.d.write (recBytes (Zav f))).1,ZaE s.sh (Z9 s.told f) s.sh.length,Z9 s.told f⟩,none,18)
def HubIs(own:Own)(t:Nat)(w:World)(p:Nat)(c:Cfg)(s:HubSt):Prop:=HubAt own t w p c s.up s.d s.sh s.told
def HTakePost(own:Own)(t p:Nat)(c:Cfg)(w:World)(o:HubSt × Option (Nat × Frm) × Nat)(r:Ending)(w':World):Prop :=
 ∃ own',Upd (HubT t) own own' w w'/\HubIs own' t w' p c o.1/\match o.2.1 with | some x=>Znb own' x.1 x.2 w r w' | none=>Zjj o.2.2 r
theorem HTakePost.mono{own:Own}{t p:Nat}{c:Cfg}{w w1:World}{o:HubSt × Option (Nat × Frm) × Nat}{r:Ending}{w':World}(h:HTakePost own t p c w1 o r w')(hb:Upd (λ _=>False) own own w w1):HTakePost own t p c w o r w':=by
 obtain⟨own',hu,ha,hr⟩:=h;refine⟨own',(hb.mono (λ n h=>h.elim)).trans hu,ha,?_⟩;split at hr
 ·obtain⟨v,h1,h2,h3⟩:=hr;exact⟨v,h1,Zi h2 hb.size,h3⟩
 ·exact hr
theorem HTakePost.shape{own:Own}{t p:Nat}{c:Cfg}{w:World}{o:HubSt × Option (Nat × Frm) × Nat}{r:Ending}{w':World}(h:HTakePost own t p c w o r w'):∃ x y z,r = .returned (.tuple #[x,y,z]):=by
 obtain⟨own',hu,ha,hr⟩:=h;split at hr
 ·obtain⟨v,h1,h2,h3⟩:=hr;exact⟨_,_,_,h1⟩
 ·exact⟨_,_,_,hr⟩
theorem ZpN{own:Own}{t p:Nat}{c:Cfg}{w:World}{s:HubSt}{f:Frm}{r:Ending}{w':World}(hu:s.up=true)(hk:f.kind=1)(h:ZkS own t p c s.d s.sh s.told f w r w'):HTakePost own t p c w (Zax c s f) r w':=by
 obtain⟨own',dJ,hi⟩:=h;refine⟨own',dJ,?_⟩;unfold Zax;rw[if_neg (by simp[hu]),if_pos hk];split at hi
 ·rename_i h1;rw[if_pos h1];exact⟨hi.2,hi.1⟩
 ·rename_i h1;rw[if_neg h1];split at hi
  ·rename_i h2;rw[if_pos h2];exact⟨hi.2,hi.1⟩
  ·rename_i h2;rw[if_neg h2];split at hi
   ·rename_i h3;rw[if_pos h3];exact⟨hi.2,hi.1⟩
   ·rename_i h3;rw[if_neg h3];exact⟨hi.2,hi.1⟩
theorem Zre{own:Own}{t p:Nat}{c:Cfg}{w:World}{s:HubSt}{f:Frm}{e:Ending}{w':World}(hu:s.up=true)(dE:f.kind≠1)(cY:f.kind≠3)(h:ZmK own t p c s.d s.sh s.told f w e w'):∃ x:Value,e = .returned x/\HTakePost own t p c w (Zax c s f) (.returned (.tuple #[.int .i64 (-1),.slice none 0 0,x])) w':=by
 obtain⟨own',dJ,hi⟩:=h;have e1:Zax c s f=if (Z9 s.told f).getD f.r ZCz=s.told.getD f.r ZCz then(⟨true,s.d,ZaE s.sh (Z9 s.told f) s.sh.length,Z9 s.told f⟩,none,0)
  else if (s.d.write (recBytes (Zav f))).2=0 then(⟨true,(s.d.write (recBytes (Zav f))).1,ZaE s.sh (Z9 s.told f) s.sh.length,Z9 s.told f⟩,none,0)
  else(⟨false,(s.d.write (recBytes (Zav f))).1,ZaE s.sh (Z9 s.told f) s.sh.length,Z9 s.told f⟩,none,18):=by
  unfold Zax;rw[if_neg (by simp[hu]),if_neg dE,if_neg cY]
 rw[e1];split at hi
 ·rename_i h1;rw[if_pos h1];exact⟨_,hi.1,own',dJ,hi.2,rfl⟩
 ·rename_i h1;rw[if_neg h1];split at hi
  ·rename_i h2;rw[if_pos h2];exact⟨_,hi.1,own',dJ,hi.2,rfl⟩
  ·rename_i h2;rw[if_neg h2];exact⟨_,hi.1,own',dJ,hi.2,rfl⟩
abbrev ZcA:Frm:=⟨0,0,0,ZCz,[]⟩
theorem Zql{own:Own}{t p:Nat}{w:World}{c:Cfg}{s:HubSt}(ht:0<t)(h:HubIs own t w p c s)(hf:Fresh own w)(hc:c.Ok)(pV:PostOk c.n c.w (s.sh,s.told))(IE:∀ x∈s.sh,∀ e∈x.kept,e.Ok)(f:Frm)(eO:f.Ok)(hr:f.r<c.n)(hk:f.kind=1∨f.kind=3∨f.kind=5)(l8:f.kind=1->NextOk (s.sh,s.told) ⟨5,f.r,0,ZCz,f.events⟩){a:Option Addr}{n cap:Nat}(hb:Bytes w a n cap (Zk f))(hd:s.d.bytes.length<=1000000000):
  Calls prog 50 #[.pointer (some ⟨p,0,none⟩),.slice a n cap] w (HTakePost own t p c w (Zax c s f)):=by
 obtain⟨dp,pp,h3,wz⟩:=h.ex;obtain⟨c0,c1,c2,c3,c4,c5,c6,c7,c8⟩:=h3.aj;have dR:∀ (x:Bool) (w:World),(Op.unary .not (.bool x)).run prog w = .ok (.bool (!x)) w:=λ _ _=>rfl
 obtain⟨HB,HH,HF,HC,kD,Q5,gN,mE,j6⟩:=ZH9 h3 h hf hc pV IE eO l8 hb;obtain⟨HR,HK,HD⟩:=ZH3 hr hk hd;clear h3 wz h hf hc pV IE eO l8 hb hr hk hd;obtain⟨up,d,sh,told⟩:=s;rcases up with _ | _
 ·go_enter func50,ntmps50;go_wp2_with fail;go_ret3
  refine⟨own,Upd.refl _ _ _ HF.out,?_⟩;unfold Zax;rw[if_pos rfl];exact⟨HH.out,rfl⟩
 ·go_enter func50,ntmps50;go_wp2_with fail;refine(ZiN gN.out j6.out).mono ?_;rintro _ w2 ⟨v2,rfl,cB,bW⟩;have cm:Upd (λ _=>False) own own w w2:=ZUb bW HF.out;obtain⟨a2,dg,rfl,mM⟩:=RowAt.loose (own:=own) ⟨Zi cB (Nat.zero_le _),λ g hg=>HF.out g (Zb cB hg).1⟩;have hz:=ZBn w2 158 (Za ZcA (.slice none 0 0));have bZ:=(ZW w2.heap.size w2).alloc (ZL _) (.cells (Za ZcA (.slice none 0 0)) 158);have cO:Upd (λ _=>False) own own w (w2.alloc (.cells (Za ZcA (.slice none 0 0)) 158)):=cm.trans (ZUb bZ cm.fresh);have oO:=hz.row (Za f (.slice a2 f.events.length dg));have dS:Upd (λ _=>False) own own w ((w2.alloc (.cells (Za ZcA (.slice none 0 0)) 158)).setRow w2.heap.size (Za f (.slice a2 f.events.length dg))):=cO.setRow (λ h=>absurd h (by have:=cm.size;omega)) _;obtain⟨HL,HZ,HX,HU,HZL⟩:=ZH5 (mM.upd ((ZUb (T:=λ _=>False) bZ cm.fresh).setRow (g:=w2.heap.size) (λ h=>absurd h (Nat.lt_irrefl _)) (Za f (.slice a2 f.events.length dg))) (λ h=>h)) hz oO dS hz.lt;clear hz oO dS mM cB cm cO bW bZ c0 c1 c2 c3 c4 c5 c6 c7 c8
  go_wp2_with (first
   |(refine Zy rfl 158 rfl (Za ZcA (.slice none 0 0)) ZK ?_)
   |(refine wpList_store_row rfl 158 (.tmp 7) (.tmp 18) rfl w2.heap.size (Za f (.slice a2 f.events.length dg)) rfl rfl 158 (Za ZcA (.slice none 0 0)) HZ.out (Zap _ _) rfl (Zbc _ _ _ _) ?_))
  generalize ((w2.alloc (.cells (Za ZcA (.slice none 0 0)) 158)).setRow w2.heap.size (Za f (.slice a2 f.events.length dg)))=W4 at *;have fK:=ZH (HB.out.upd HU.out (λ h=>h));have hrN:¬ ((c.n:Int)<=(f.r:Int)):=by have:=HR.out;omega
  have hrN2:¬ (c.n<=f.r):=by have:=HR.out;omega
  refine ZSi [(0,3),(1,0),(2,3),(3,0),(4,3),(5,3),(6,0),(7,3)] λ bR=>?_
  repeat((first | refine ZSa ?_ | refine ZSb ?_ | (refine Zf rfl (by rfl) (λ w' ci=>by(obtain⟨c0,c1,c2,c3,c4,c5,c6,c7,c8⟩:=(fK.out.ob ci.below).aj);(obtain⟨x0,x1,x2,x3,x4,x5,x6,x7,x8⟩:=(HX.out.ob ci.below).aj);go_simp;with_reducible rfl) ?_));simp only[Act.put,ZA,ZB,ZC])
  refine ZSf ?_;generalize yY:(W4.drew:World)=w5 at *;obtain⟨x0,x1,x2,x3,x4,x5,x6,x7,x8⟩:=(HX.out.ob bR.below).aj;have qk:=ZH (HX.out.ob bR.below);have Bv:Upd (λ _=>False) own own W4 w5:=ZUb bR.below HU.out.fresh;obtain⟨jn,Rb⟩:=ZH2 (HU.out.trans Bv) (HL.out.upd Bv (λ h=>h));have Hk:=ZH (HH.out.upd jn.out (λ _ _ h=>h) (by rw[HH.out.len];exact HC.out.n5));have kJ:=qk.out.lt;clear bR Bv;rcases HK.out with hk | hk | hk
  focus
   have k1:((f.kind:Int)==1)=true:=by simp[hk]
   have eM:=(Zqk ht Hk.out jn.out.fresh HC.out kD.out f gN.out hk (mE.out hk) Rb.out HD.out).mono (λ r w' h=>(ZpN (s:=⟨true,d,sh,told⟩) rfl hk h).mono jn.out);obtain⟨ee,lZ⟩:=ZH2 eM hk;clear eM hk;go_wp2_with (first|(refine wpList_load_row rfl 158 (.tmp 7) rfl w2.heap.size rfl 158 (Za f (.slice a2 f.events.length dg)) (0,0) _ qk.out underlying158 rfl (Zap _ _) ?_))
   refine ee.out.mono ?_;intro r6 w6 hP;obtain⟨x,y,z,rfl⟩:=hP.shape;have HP:=ZH hP
  rotate_left
  focus
   have k1:((f.kind:Int)==1)=false:=by simp[hk]
   have k3:((f.kind:Int)==3)=true:=by simp[hk]
   have eM:Calls prog 94 #[.pointer (some ⟨p,0,none⟩),Z8 f (.slice a2 f.events.length dg)] w5 (HTakePost own t p c w (Zax c ⟨true,d,sh,told⟩ f)) :=
    (ZoZ Hk.out jn.out.fresh (by rw[HH.out.len];exact HC.out.n5) (λ s hs=>⟨by have:=kD.out.kept s hs;have:=HC.out.w4;omega,Q5.out s hs⟩) f (by rw[HH.out.len];exact HR.out)).mono (λ r w' h=>by
    obtain⟨v,rfl,h2,h3⟩:=h;have gT:Upd (λ _=>False) own own w5 w':=ZUb h3 jn.out.fresh;refine⟨own,(jn.out.trans gT).mono (λ n h=>h.elim),?_⟩;unfold Zax;rw[if_neg ZM,if_neg ZO,if_pos hk]
    exact⟨Hk.out.upd gT (λ _ _ h=>h) (by rw[HH.out.len];exact HC.out.n5),v,rfl,Zi h2 jn.out.size,λ b hb=>HF.out b (ZT jn.out.size (Zb h2 hb).1)⟩)
   obtain⟨ee,lZ⟩:=ZH2 eM hk;clear eM hk;go_wp2_with (first|(refine wpList_load_row rfl 158 (.tmp 7) rfl w2.heap.size rfl 158 (Za f (.slice a2 f.events.length dg)) (0,0) _ qk.out underlying158 rfl (Zap _ _) ?_))
   refine ee.out.mono ?_;intro r6 w6 hP;obtain⟨x,y,z,rfl⟩:=hP.shape;have HP:=ZH hP
  rotate_left
  focus
   have k1:((f.kind:Int)==1)=false:=by simp[hk]
   have k3:((f.kind:Int)==3)=false:=by simp[hk]
   have k5:((f.kind:Int)==5)=true:=by simp[hk]
   have eM:=(ZrR ht Hk.out jn.out.fresh HC.out kD.out f gN.out HR.out (a:=a2) (n:=f.events.length) (cap:=dg) HD.out).mono (λ r w' h=>Zre (s:=⟨true,d,sh,told⟩) rfl ZO ZO h);obtain⟨ee,lZ⟩:=ZH2 eM hk;clear eM hk;go_wp2_with (first|(refine wpList_load_row rfl 158 (.tmp 7) rfl w2.heap.size rfl 158 (Za f (.slice a2 f.events.length dg)) (0,0) _ qk.out underlying158 rfl (Zap _ _) ?_))
   refine ee.out.mono ?_;rintro _ w6 ⟨x,rfl,hP⟩;have HP:=ZH (hP.mono jn.out)
  rotate_left
  all_goals
   clear hP;go_wp2_with fail;go_ret3
   exact HP.out
section
def Zb5(c:Cfg)(r:Nat)(s:NodeSt)(f:Frm):NodeSt × Nat :=
 if s.up=true then(if f.kind=2 then Zc9 r s f.upto else Zc8 c r s f.events) else(s,18)
structure MayTake(c:Cfg)(r:Nat)(s:NodeSt)(f:Frm):Prop where
 ok:f.Ok
 r5:r<5
 to:f.r=r
 kind:f.kind=2∨f.kind=4
 others:∀ e∈f.events,e.r≠r/\e.r<c.n
 own:s.clk.get r<=s.sent+s.wait.length
 clk:∀ i,s.clk.get i+(s.held.length+f.events.length)<=1000000
 sent:s.sent<=1000000
 wait:s.wait.length<=1000000
 bytes:s.d.bytes.length<=1000000000
 evs:∀ e∈s.held++f.events,e.Ok
 less:(drained s.clk (s.held++f.events)).1.length<=1000
 done:∀ e∈(drained s.clk (s.held++f.events)).1,e.Ok
 book:BookInv 90000 s.book
 log:s.log.length<=100000
section
variable {own:Own}{t p r:Nat}{w:World}{c:Cfg}{s:NodeSt}
theorem Zpl(ht:0<t)(h:NodeAt own t w p c r s)(hf:Fresh own w){f:Frm}(hm:MayTake c r s f){a:Option Addr}{n cap:Nat}(hb:Bytes w a n cap (Zk f)):
  Calls prog 51 #[ptrV p,.slice a n cap] w λ e w'=>e = .returned (.int .i64 (Zb5 c r s f).2)/\∃ own',NodeAt own' t w' p c r (Zb5 c r s f).1/\Upd (NodeT t) own own' w w':=by
 obtain⟨HF,HN,HM,QX⟩:=ZH4 hf h hm (ZiN hm.ok hb);obtain⟨h1,dp,bp,ip,op,lv,h3,h4,h5,h6,h7,h8⟩:=h;obtain⟨c6,c7,c8,c9,cP,cR,dX,dY⟩:=h3.ag;have ce:=h3.lt;have dR:∀ (x:Bool) (w:World),(Op.unary .not (.bool x)).run prog w = .ok (.bool (!x)) w:=λ _ _=>rfl
 have HB:=ZH h3;clear h1 h3 h4 h5 h6 h7 h8 hf hm hb;obtain⟨up,d,log,sent,book,clk,held,wait⟩:=s;rcases up with _ | _
 ·go_enter func51,ntmps51;go_wp2
  go_ret;exact⟨rfl,own,HN.out,ZUb (ZW _ _) HF.out⟩
 ·go_enter func51,ntmps51;go_wp2_with fail;refine QX.out.mono ?_;rintro _ w2 ⟨v,rfl,cB,bW⟩;obtain⟨av,cv,rfl,eD⟩:=EvSl.ab cB;have cm:Upd (λ _=>False) own own w w2:=ZUb bW HF.out
  have nS:Loose own w2 av f.events.length cv f.events:=⟨eD,λ ad e=>by
   subst e
   exact⟨HF.out _ (Zb cB rfl).1,(Zb cB rfl).2⟩⟩
  have fH:=(ZW w2.heap.size w2).alloc (ZL _) (.cells (Za f (.slice av f.events.length cv)) 158);have cO:=cm.kept fH;obtain⟨HX,CZ,dj,dI,qg⟩:=ZH5 (ZBn w2 158 (Za f (.slice av f.events.length cv))) (nS.upd (T:=λ _=>False) (ZUb fH cm.fresh) (λ h=>h)) (HB.out.upd cO (λ h=>h)) cO (HN.out.upd cO (λ _ _ h=>h));clear cB bW eD cm nS fH cO c6 c7 c8 c9 cP cR dX dY;go_wp2_with fail;obtain⟨W,hW⟩:∃ W,W=(w2.alloc (.cells (Za f (.slice av f.events.length cv)) 158)):=⟨_,rfl⟩;simp only[←hW] at *;clear hW;have Cm:((f.r:Int) != (r:Int))=false:=by have:=HM.out.to;simp[this]
  refine ZSi [(0,3),(1,0),(2,3),(3,0),(4,3),(5,0),(6,3)] λ bR=>?_
  repeat((first | refine ZSa ?_ | refine ZSb ?_ | (refine Zf rfl (by rfl) (λ w' ci=>by(obtain⟨c6,c7,c8,c9,cP,cR,dX,dY⟩:=(dj.out.ob ci.below).ag);(obtain⟨x0,x1,x2,x3,x4,x5,x6,x7,x8⟩:=(HX.out.ob ci.below).nine);go_simp;with_reducible rfl) ?_));simp only[Act.put,ZA,ZB,ZC])
  refine ZSf ?_;clear bR;have cz:Below W.heap.size W W.drew:=(ZW W.heap.size W).drew;obtain⟨i9,fF,JD,fK,zI⟩:=ZH5 (HX.out.ob cz) (dI.out.kept cz) (CZ.out.upd (T:=λ _=>False) (ZUb cz dI.out.fresh) (λ h=>h)) (dj.out.ob cz) (qg.out.upd (T:=λ _=>False) (ZUb cz dI.out.fresh) (λ _ _ h=>h));have fy:w2.heap.size<W.drew.heap.size:=i9.out.lt;generalize W.drew=V at *;obtain⟨x0,x1,x2,x3,x4,x5,x6,x7,x8⟩:=i9.out.nine;clear cz HX dI CZ dj qg;go_wp2_with fail;go_loopw [32] (λ i wr=>∃ (q:Nat),q<=f.events.length/\i = .int .i64 q/\Hid (Below V.heap.size V wr)) (λ i _=>f.events.length-(intOf i).toNat)
  case atStart=>exact⟨0,Nat.zero_le _,rfl,ZH (ZW _ _)⟩
  case round =>
   obtain⟨q,hq,rfl,p9⟩:=hrel;have MC:Upd (λ _=>False) own own V wr:=ZUb p9.out fF.out.fresh;obtain⟨QO,DG,zW,NA⟩:=ZH4 (fK.out.ob p9.out) (i9.out.ob p9.out) MC (JD.out.upd (T:=λ _=>False) MC (λ h=>h));clear MC x0 x1 x2 x3 x4 x5 x6 x7 x8;by_cases dy:q<f.events.length
   ·obtain⟨e,he⟩:∃ e,f.events[q]? = some e:=⟨_,ZX dy⟩;obtain⟨bk,off,rfl,cQ,d0,d1,d2,d3,d4,d5,d6,d7,d8,d9,xV,sZ⟩:=NA.out.sl.at_ he;have fC:f.events.length<=20:=HM.out.ok.len;have wQ:=HM.out.others e (ZY he);have cG:((e.r:Int)==(r:Int))=false:=by have:=wQ.1;simp;omega
    have cK:decide ((e.r:Int)>=(c.n:Int))=false:=by have:=wQ.2;simp;omega
    have pd:¬ (c.n:Int)<=(e.r:Int):=by have:=wQ.2;omega
    have HE:=ZH (ZBn wr 89 (evArr e));have fH:=(ZW wr.heap.size wr).alloc (ZL _) (.cells (evArr e) 89);obtain⟨kC,iX⟩:=ZH2 (QO.out.ob fH) fH;clear fH he wQ;go_wp2_with fail;obtain⟨W,hW⟩:∃ W,W=(wr.alloc (.cells (evArr e) 89)):=⟨_,rfl⟩;simp only[←hW] at *;clear hW d0 d1 d2 d3 d4 d5 d6 d7 d8 d9 xV sZ;refine ZSi [(0,3),(1,0),(2,3),(3,0),(4,3),(5,0),(6,3),(7,3),(8,3),(9,0),(10,3),(11,0),(12,3),(13,3),(14,0),(15,3),(16,3)] λ bR=>?_
    repeat((first | refine ZSa ?_ | refine ZSb ?_ | (refine Zf rfl (by rfl) (λ w' ci=>by(obtain⟨c0,c1,c2,c3,c4,c5⟩:=(kC.out.ob ci.below).node6);(obtain⟨c6,c7,c8,c9,cP,cR,dX,dY⟩:=(kC.out.ob ci.below).ag);(obtain⟨x0,x1,x2,x3,x4,x5,x6,x7,x8,x9,eE,eG⟩:=(HE.out.ob ci.below).ae);go_simp;with_reducible rfl) ?_));simp only[Act.put,ZA,ZB,ZC])
    refine ZSf ?_;have lZ:=ZH bR;clear bR;go_wp2
    go_roundw
    case rel=>exact⟨q+1,Nat.succ_le_of_lt dy,ZN,ZH ((p9.out.trans (iX.out.mono p9.out.size)).trans (lZ.out.below.mono (ZT p9.out.size iX.out.size)))⟩
    case measure=>simp[intOf];omega
   ·obtain rfl:q=f.events.length:=ZO;obtain⟨x0,x1,x2,x3,x4,x5,x6,x7,x8⟩:=DG.out.nine;have fy:=DG.out.lt;have II:=zI.out.upd zW.out (λ _ _ h=>h);rcases HM.out.kind with hk | hk
    focus
     have cJ:((f.kind:Int)==2)=true:=by simp[hk]
     have uK:=Zmr II zW.out.fresh HM.out.r5 f.upto HM.out.own (by have:=HM.out.clk r;simp only at this ⊢;omega) HM.out.sent HM.out.ok.upto HM.out.wait HM.out.bytes;obtain⟨Rs,HK⟩:=ZH2 uK hk;clear hk uK II;go_wp2_with fail;refine Rs.out.mono ?_;rintro _ w9 ⟨rfl,Gz,dk,dh⟩;obtain⟨xF,gZ⟩:=ZH2 dk dh;clear dk dh;go_wp2
     go_ret;unfold Zb5;rw[if_pos rfl,if_pos HK.out]
    rotate_left
    focus
     have cJ:((f.kind:Int)==2)=false:=by simp[hk]
     have dr:((f.kind:Int)==4)=true:=by simp[hk]
     obtain⟨QW,HK⟩:=ZH2 (Zmq ht II zW.out.fresh HM.out.r5 NA.out.sl HM.out.evs HM.out.clk HM.out.less HM.out.done HM.out.book ZO HM.out.log HM.out.bytes) hk;clear hk II;go_wp2_with fail;refine QW.out.mono ?_;rintro _ w9 ⟨rfl,Gz,dk,dh⟩;obtain⟨xF,gZ⟩:=ZH2 dk dh;clear dk dh;go_wp2
     go_ret;unfold Zb5;rw[if_pos rfl,if_neg (by rw[HK.out];omega)]
    rotate_left
    all_goals
     exact⟨rfl,Gz,xF.out,((fF.out.trans zW.out).mono (λ n h=>h.elim)).trans gZ.out⟩
end
end
section
def byR(i:Nat)(l:List Ev):List Ev:=l.filter λ e=>decide (e.r=i)
def cnt(i:Nat)(l:List Ev):Nat:=(byR i l).length
theorem Zid(i:Nat)(l:List Ev)(e:Ev):byR i (l++[e])=byR i l++if e.r=i then [e] else []:=by
 unfold byR;rw[List.filter_append];by_cases h:e.r=i <;> simp[h]
theorem Ziw(i:Nat)(l m:List Ev):byR i (l++m)=byR i l++byR i m:=List.filter_append ..
theorem Zjl{i:Nat}{l:List Ev}{e:Ev}:e∈byR i l↔e∈l/\e.r=i:=by simp[byR]
theorem Zie(i:Nat)(l:List Ev)(e:Ev):cnt i (l++[e])=cnt i l+if e.r=i then 1 else 0:=by
 unfold cnt;rw[Zid];by_cases h:e.r=i <;> simp[h]
theorem Zp8(i:Nat)(e:Ev)(l:List Ev):cnt i (e::l)=cnt i l+if e.r=i then 1 else 0:=by
 unfold cnt byR;by_cases h:e.r=i <;> simp[h]
def tot(B:Nat->Nat):Nat:=B 0+B 1+B 2+B 3+B 4
theorem ZmX:∀ {l:List Ev},(∀ e∈l,e.r<5)->l.length=tot λ i=>cnt i l
 | [],_=>rfl
 | e::l,h=>by
  have ih:=ZmX (l:=l) λ x hx=>h x (List.mem_cons_of_mem _ hx)
  have hr:=h e ZM;unfold tot at ih ⊢;simp only[List.length_cons,Zp8,ih];rcases(by omega:e.r=0∨e.r=1∨e.r=2∨e.r=3∨e.r=4) with h | h | h | h | h <;> rw[h] <;> simp <;> omega
theorem ZpP{A B:Nat->Nat}(h:∀ i,A i<=B i):tot A<=tot B:=by
 have:=h 0;have:=h 1;have:=h 2;have:=h 3;have:=h 4;unfold tot;omega
theorem Zc5{B:Nat->Nat}{i:Nat}(h:i<5):B i<=tot B:=by
 unfold tot;rcases(by omega:i=0∨i=1∨i=2∨i=3∨i=4) with rfl | rfl | rfl | rfl | rfl <;> omega
theorem ZjP{l:List Ev}(h:∀ e∈l,e.r<5)(i:Nat):(clkOf l).get i=cnt i l:=ZjQ h i
theorem From1.snoc{n:Nat}{l:List Ev}{e:Ev}(h:From1 n l)(he:e.n=n+l.length):From1 n (l++[e]):=by
 intro i x hx;rw[List.getElem?_append] at hx;split at hx
 ·exact h i x hx
 ·rename_i hl
  cases hk:i-l.length with
  | zero =>
   rw[hk] at hx;simp at hx;subst hx;omega
  | succ k=>rw[hk] at hx;simp at hx
theorem From1.mem{n:Nat}{l:List Ev}(h:From1 n l){e:Ev}(he:e∈l):n<=e.n/\e.n<n+l.length:=by
 obtain⟨i,hi,rfl⟩:=List.getElem_of_mem he;have:=h i _ (ZX hi);omega
theorem From1.drop{n:Nat}{l:List Ev}(h:From1 n l)(k:Nat):From1 (n+k) (l.drop k):=by
 intro i e he;rw[List.getElem?_drop] at he;have:=h _ _ he;omega
theorem From1.take{n:Nat}{l:List Ev}(h:From1 n l)(k:Nat):From1 n (l.take k):=by
 intro i e he;rw[List.getElem?_take] at he;split at he
 ·exact h i e he
 ·cases he
theorem From1.tail{n:Nat}{e:Ev}{l:List Ev}(h:From1 n (e::l)):From1 (n+1) l:=h.drop 1
theorem From1.bC:∀ {l:List Ev} {n k:Nat},From1 n l->(l.filter λ e=>decide (n+k<=e.n))=l.drop k
 | [],n,k,_=>ZM
 | e::l,n,0,h=>by
  simp only[Nat.add_zero,List.drop_zero];rw[List.filter_eq_self];intro x hx;simpa using(h.mem hx).1
 | e::l,n,k+1,h=>by
  have he:e.n=n:=h 0 e rfl;have ih:=From1.bC (k:=k) h.tail;rw[List.filter_cons_of_neg ZP,List.drop_succ_cons,←ih];congr 1;funext x;congr 1;apply propext;omega
theorem Zrh(r sent:Nat)(l:List Ev):waitN r sent l=(byR r l).filter λ e=>decide (sent<e.n):=by
 unfold waitN byR;rw[List.filter_filter];congr 1;funext e;rw[Bool.and_comm]
theorem Zou{r sent:Nat}{l:List Ev}(h:From1 1 (byR r l)):waitN r sent l=(byR r l).drop sent:=by
 rw[Zrh,←From1.bC h];congr 1;funext x;congr 1;apply propext;omega
structure Bd where
 made:Nat->Nat
 hub:Nat->Nat
structure Bd.le(B B':Bd):Prop where
 made:∀ i,B.made i<=B'.made i
 hub:∀ i,B.hub i<=B'.hub i
theorem Bd.le.refl(B:Bd):B.le B:=⟨λ _=>ZL _,λ _=>ZL _⟩
theorem Bd.le.trans{A B C:Bd}(h:A.le B)(g:B.le C):A.le C:=⟨λ i=>ZT (h.made i) (g.made i),λ i=>ZT (h.hub i) (g.hub i)⟩
structure EvG(c:Cfg)(B:Bd)(e:Ev):Prop where
 ok:e.Ok
 rn:e.r<c.n
 num:e.n<=B.made e.r
 high:e.height<=tot B.made
 ctx:∀ j,j≠e.r->e.ctx.get j<=B.hub j
theorem EvG.more{c:Cfg}{B B':Bd}{e:Ev}(h:EvG c B e)(hB:B.le B'):EvG c B' e :=
 ⟨h.ok,h.rn,ZT h.num (hB.made _),ZT h.high (ZpP hB.made),λ j hj=>ZT (h.ctx j hj) (hB.hub j)⟩
structure EvH(c:Cfg)(r:Nat)(B:Bd)(e:Ev):Prop where
 good:EvG c B e
 ne:e.r≠r
 hub:e.n<=B.hub e.r
theorem EvH.more{c:Cfg}{r:Nat}{B B':Bd}{e:Ev}(h:EvH c r B e)(hB:B.le B'):EvH c r B' e:=⟨h.good.more hB,h.ne,ZT h.hub (hB.hub _)⟩
structure LogInv(c:Cfg)(r:Nat)(B:Bd)(log:List Ev)(sent:Nat):Prop where
 all:∀ e∈log,EvG c B e
 oth:∀ e∈log,e.r≠r->e.n<=B.hub e.r
 row:∀ i,From1 1 (byR i log)
 sentH:sent<=B.hub r
 room:cnt r log<=sent+c.q
 sent:sent<=cnt r log
theorem ZjR{i m:Nat}{l:List Ev}(hr:From1 1 (byR i l))(h:∀ e∈l,e.r=i->e.n<=m):cnt i l<=m:=by
 cases hc:cnt i l with
 | zero=>omega
 | succ k =>
  have hl:k<(byR i l).length:=by unfold cnt at hc;omega
  have hm:=List.getElem_mem hl;have hn:=hr k _ (ZX hl);obtain⟨h1,h2⟩:=Zjl.1 hm;have:=h _ h1 h2;omega
section
variable {c:Cfg}{r:Nat}{B B':Bd}{log:List Ev}{sent:Nat}
theorem LogInv.nil(c:Cfg)(r:Nat)(B:Bd):LogInv c r B [] 0:=⟨ZM,ZM,λ i k e h=>by simp[byR] at h,ZM,by simp[cnt,byR],ZM⟩
theorem LogInv.ok(h:LogInv c r B log sent):∀ e∈log,e.Ok:=λ e he=>(h.all e he).ok
theorem LogInv.r5(h:LogInv c r B log sent):∀ e∈log,e.r<5:=λ e he=>(h.ok e he).r
theorem LogInv.more(h:LogInv c r B log sent)(hB:B.le B'):LogInv c r B' log sent :=
 ⟨λ e he=>(h.all e he).more hB,λ e he hr=>ZT (h.oth e he hr) (hB.hub _),h.row,ZT h.sentH (hB.hub _),h.room,h.sent⟩
theorem LogInv.az(h:LogInv c r B log sent)(i:Nat):cnt i log<=B.made i:=ZjR (h.row i) λ e he hi=>hi▸(h.all e he).num
theorem LogInv.bo(h:LogInv c r B log sent){i:Nat}(hi:i≠r):cnt i log<=B.hub i:=ZjR (h.row i) λ e he hr=>hr▸h.oth e he (by rw[hr];exact hi)
theorem LogInv.len(h:LogInv c r B log sent):log.length<=tot B.made:=by
 rw[ZmX h.r5];exact ZpP h.az
theorem LogInv.wait(h:LogInv c r B log sent):waitN r sent log=(byR r log).drop sent:=Zou (h.row r)
theorem LogInv.aX(h:LogInv c r B log sent):(waitN r sent log).length=cnt r log-sent:=by
 rw[h.wait,List.length_drop];rfl
theorem LogInv.bK(h:LogInv c r B log sent)(hr:r<5)(hb:tot B.made<=1000):LogOk c.q r sent log:=by
 have:=h.len;have:=h.az r;have:=Zc5 (B:=B.made) hr;have:=h.sent;have:=h.room;have:=h.aX;refine⟨h.ok,ZO,?_,ZO,ZO⟩;rw[h.wait,Nat.add_comm];exact(h.row r).drop sent
theorem ZfY{P:Ev->Prop}{l:List Ev}{e:Ev}(h:∀ x∈l,P x)(he:P e):∀ x∈l++[e],P x:=λ x hx=>by
 rcases List.mem_append.1 hx with hx | hx
 ·exact h x hx
 ·simp at hx;subst hx;exact he
theorem LogInv.other(h:LogInv c r B log sent){e:Ev}(he:EvH c r B e)(hc:e.n=cnt e.r log+1):LogInv c r B (log++[e]) sent:=by
 have kF:cnt r (log++[e])=cnt r log:=by rw[Zie,if_neg he.ne];rfl
 refine⟨ZfY h.all he.good,ZfY h.oth λ _=>he.hub,λ i=>?_,h.sentH,by rw[kF];exact h.room,by rw[kF];exact h.sent⟩;rw[Zid];split
 ·rename_i hi;subst hi;exact(h.row _).snoc (by unfold cnt at hc;omega)
 ·simpa using h.row i
theorem LogInv.own(h:LogInv c r B log sent)(hB:B.le B'){e:Ev}(he:EvG c B' e)(hr:e.r=r)(hc:e.n=cnt r log+1)(hq:cnt r log<sent+c.q):LogInv c r B' (log++[e]) sent:=by
 have kF:cnt r (log++[e])=cnt r log+1:=by rw[Zie,if_pos hr]
 have h':=h.more hB;refine⟨ZfY h'.all he,ZfY h'.oth λ hn=>absurd hr hn,λ i=>?_,h'.sentH,by rw[kF];omega,by rw[kF];have:=h.sent;omega⟩;rw[Zid];split
 ·rename_i hi;rw[←hi,hr];exact(h.row _).snoc (by unfold cnt at hc;omega)
 ·simpa using h.row i
theorem LogInv.told(h:LogInv c r B log sent){u:Nat}(h1:sent<=u)(h2:u<=cnt r log)(h3:u<=B.hub r):LogInv c r B log u :=
 ⟨h.all,h.oth,h.row,h3,by have:=h.room;omega,h2⟩
end
def Chain:Clk->List Ev->Clk->Prop
 | c,[],c'=>c'=c
 | c,e::l,c'=>e.r<5/\e.n=c.get e.r+1/\e.ctx.le c=true/\Chain (c.set e.r (c.get e.r+1)) l c'
theorem Zpg{c:Clk}{l:List Ev}{e:Ev}(h:Zbr c l=some e):e∈l/\e.r<5/\e.n=c.get e.r+1/\e.ctx.le c=true:=by
 unfold Zbr at h;obtain⟨r,hr,h1⟩:=List.exists_of_findSome?_eq_some h;unfold Zcc at h1;split at h1
 ·rename_i e' hf;split at h1
  ·rename_i fc;injection h1 with h1;subst h1;obtain⟨m1,m2,m3⟩:=Zif hf;exact⟨m1,by rw[m2];simpa using hr,by rw[m2];exact m3,fc⟩
  ·cases h1
 ·cases h1
theorem Zfn:∀ (f:Nat) (c:Clk) (w d:List Ev),∃ m,(Za7 f c w d).1=d++m/\Chain c m (Za7 f c w d).2.2/\∀ e∈m,e∈w
 | 0,c,w,d=>⟨[],by simp[Za7],rfl,ZM⟩
 | f+1,c,w,d=>by
  unfold Za7
  cases hn:Zbr c w with
  | none=>exact⟨[],ZM,rfl,ZM⟩
  | some e =>
   obtain⟨h1,h2,h3,h4⟩:=Zpg hn;obtain⟨m,m1,m2,m3⟩:=Zfn f (c.set e.r (c.get e.r+1)) (Zdp e.r e.n w) (d++[e]);refine⟨e::m,by simp only[m1,List.append_assoc,List.singleton_append],⟨h2,h3,h4,m2⟩,?_⟩;intro x hx;rcases List.mem_cons.1 hx with rfl | hx
   ·exact h1
   ·exact List.mem_of_mem_eraseP (m3 x hx)
theorem ZgB(c:Clk)(l:List Ev):Chain c (drained c l).1 (drained c l).2.2/\∀ e∈(drained c l).1,e∈l:=by
 obtain⟨m,h1,h2,h3⟩:=Zfn (Zaf c l).length c (Zaf c l) [];rw[List.nil_append] at h1;unfold drained;rw[h1];refine⟨h2,λ e he=>?_⟩;rcases Zer c l [] e (h3 e he) with h | h
 ·cases h
 ·exact h
theorem ZkZ(l m:List Ev):clkOf (l++m)=m.foldl (λ c e=>c.set e.r (c.get e.r+1)) (clkOf l):=List.foldl_append ..
theorem Chain.clk:∀ {l:List Ev} {c c':Clk},Chain c l c'->l.foldl (λ c e=>c.set e.r (c.get e.r+1)) c=c'
 | [],_,_,h=>h.symm
 | _::_,_,_,h=>h.2.2.2.clk
theorem Chain.log{c:Cfg}{r:Nat}{B:Bd}:∀ {l:List Ev} {log:List Ev} {sent:Nat} {k:Clk},LogInv c r B log sent->Chain (clkOf log) l k->(∀ e∈l,EvH c r B e)->LogInv c r B (log++l) sent
 | [],log,sent,k,h,_,_=>by simpa using h
 | e::l,log,sent,k,h,hc,hl=>by
  obtain⟨h1,h2,h3,h4⟩:=hc;have hn:=h.other (hl e ZM) (by rw[h2,ZjP h.r5]);rw[←Zf0] at h4;have:=Chain.log hn h4 (λ x hx=>hl x (List.mem_cons_of_mem _ hx));simpa using this
end
abbrev ev0:Ev:=⟨0,0,ZCz,0,0,⟨#[]⟩,0,⟨#[]⟩⟩
def madeEv(r:Nat)(s:NodeSt)(kind:Nat)(key:ByteArray)(label:Nat)(value:ByteArray):Ev:=⟨r,s.clk.get r+1,s.clk,ZdO s.log s.clk,kind,key,label,value⟩
def Zae(r:Nat)(e:Ev):Frm:=⟨1,r,0,ZCz,[e]⟩
def ZiI(s:NodeSt)(e:Ev):NodeSt:=ZcR { s with clk:=(drained s.clk [e]).2.2,wait:=s.wait++[e] } [e]
def ZdZ(c:Cfg)(r:Nat)(s:NodeSt)(kind:Nat)(key:ByteArray)(label:Nat)(value:ByteArray):NodeSt × Nat :=
 if s.up=true then
  (if Zco c.l c.p (listN s.book) kind key label value=0 then
   (if s.wait.length<c.q then
    (if (ZS s (Zae r (madeEv r s kind key label value))).2=0 then(ZiI (ZS s (Zae r (madeEv r s kind key label value))).1 (madeEv r s kind key label value),0) else ZS s (Zae r (madeEv r s kind key label value)))
   else(s,17))
  else(s,Zco c.l c.p (listN s.book) kind key label value))
 else(s,18)
theorem ZiH{r:Nat}{e:Ev}(hr:r<5)(he:e.Ok):RecOk (Zae r e) :=
 ⟨by simp[Zae],by simp[Zae],hr,by simp[Zae],by simp[Zae],λ i=>by simp[Zae,ZbW],by simp[Zae],λ x hx=>by simp[Zae] at hx;subst hx;exact he,by simp[Zae],by simp[Zae],by simp[Zae]⟩
structure MayEdit(c:Cfg)(r:Nat)(s:NodeSt)(kind:Nat)(key:ByteArray)(label:Nat)(value:ByteArray):Prop where
 ok:EditOk kind key label value
 r5:r<5
 keys:s.book.length<=1000
 sets:∀ x∈s.book,x.1.size<=1000000/\x.2.length<=100/\∀ e∈x.2,e.r<5
 list:(listN s.book).length<=1000000
 cons:∀ x∈listN s.book,x.s0.length<=1000000/\x.s1.length<=1000000
 evok:(madeEv r s kind key label value).Ok
 clk:∀ i,s.clk.get i+1<=1000000
 own:(drained s.clk [madeEv r s kind key label value]).1≠[]
 last:s.clk.get r=lastOf s.sent s.wait
 wait:s.wait.length<=1000000
 log:s.log.length<=100000
 logok:∀ e∈s.log,e.Ok
 bytes:s.d.bytes.length<=1000000000
 book:BookInv 90000 s.book
section
def Zas(st:List Ev × Nat)(f:Frm):List Ev × Nat :=
 if f.kind=3 then(st.1,f.upto) else if f.kind=4 then(f.events,f.upto) else(st.1++f.events,st.2)
def nodeRecs(rs:List Frm):List Ev × Nat:=rs.foldl Zas ([],0)
theorem ZkC{rs:List Frm}{q:Nat}{f:Frm}(h:rs[q]? = some f):nodeRecs (rs.take (q+1))=Zas (nodeRecs (rs.take q)) f:=by
 unfold nodeRecs;rw[List.take_add_one,h];simp
structure StartRun(own0 own:Own)(t:Nat)(w0:World)(p dp:Nat)(lv bv iv ov:Value)(c:Cfg)(r:Nat)(d:Dk)(log:List Ev)(sent:Nat)(v:Value)(rs:List Frm)(ps:List (Frm × Value))(w:World):Prop where
 mine:own p=t
 blk:Blk w p 133 (nodeArr c r false (ptrV dp) lv sent bv iv ov)
 disk:DiskAt own (t+1) w dp d
 row:RowAt own (t+2) w lv log
 recs:RecLoose own w v rs ps
 upd:Upd (NodeT t) own0 own w0 w
section
variable {own0 own own':Own}{t:Nat}{w0 w w':World}{p dp:Nat}{lv lv' bv iv ov:Value}{c:Cfg}{r:Nat}{d:Dk}{log log':List Ev}{sent sent':Nat}{v:Value}{rs:List Frm}{ps:List (Frm × Value)}
theorem StartRun.kept(h:StartRun own0 own t w0 p dp lv bv iv ov c r d log sent v rs ps w)(hb:Below w.heap.size w w'):StartRun own0 own t w0 p dp lv bv iv ov c r d log sent v rs ps w':=by
 have hu:Upd (λ _=>False) own own w w':=ZUb hb h.upd.fresh;exact⟨h.mine,h.blk.ob hb,h.disk.upd hu (λ h=>h),h.row.upd hu (λ h=>h),h.recs.upd hu (λ h=>h),h.upd.kept hb⟩
theorem StartRun.put(h:StartRun own0 own t w0 p dp lv bv iv ov c r d log sent v rs ps w)(ht:0<t)(hu:Upd (· = t+2) own own' w w')(hr:RowAt own' (t+2) w' lv' log'){x:Value}(hx:x=lv'):
  StartRun own0 own' t w0 p dp lv' bv iv ov c r d log' sent v rs ps (w'.setCell ⟨p,9,none⟩ x):=by
 subst hx;have ho:own' p=t:=(hu.old p h.blk.lt).trans h.mine;have hb:Blk w' p 133 (nodeArr c r false (ptrV dp) lv sent bv iv ov):=h.blk.upd hu (by rw[h.mine];omega);have hs:Upd (· = t) own' own' w' (w'.setCell ⟨p,9,none⟩ x):=(Upd.refl (· = t) own' w' hu.fresh).setCell (p:=⟨p,9,none⟩) (λ _=>ho) _;exact⟨ho,hb.ai 9 _,(h.disk.upd hu ZO).upd hs ZO,hr.upd hs ZO,(h.recs.upd hu ZO).upd hs ZO,(h.upd.trans (hu.mono (λ m hm=>⟨ZO,ZO⟩))).trans (hs.mono (λ m hm=>⟨ZO,ZO⟩))⟩
theorem StartRun.tell(h:StartRun own0 own t w0 p dp lv bv iv ov c r d log sent v rs ps w)(ht:0<t){x:Value}(hx:x = .int .i64 sent'):
  StartRun own0 own t w0 p dp lv bv iv ov c r d log sent' v rs ps (w.setCell ⟨p,10,none⟩ x):=by
 subst hx;have hs:Upd (· = t) own own w (w.setCell ⟨p,10,none⟩ (.int .i64 (sent':Int))):=(Upd.refl (· = t) own w h.upd.fresh).setCell (p:=⟨p,10,none⟩) (λ _=>h.mine) _;exact⟨h.mine,h.blk.ai 10 _,h.disk.upd hs ZO,h.row.upd hs ZO,h.recs.upd hs ZO,h.upd.trans (hs.mono (λ m hm=>⟨ZO,ZO⟩))⟩
end
end
theorem Zdu:RecOk ⟨3,0,0,ZCz,[]⟩:=by
 refine⟨ZM,ZM,ZM,ZM,ZM,λ i=>?_,ZM,ZM,ZM,ZM,ZM⟩;show ZCz.get i<=1048576
 unfold Clk.get;split <;> simp[ZCz]
theorem ZqM(w:World):Calls prog 82 #[.slice none 0 0] w (Zv (.tuple #[.slice none 0 0,.int .i64 0]) w):=by
 have hb:Bytes w none 0 0 ((recBytes ⟨3,0,0,ZCz,[]⟩).take 0):=⟨ZL _,by unfold maxLen;omega,.inl ⟨rfl,rfl⟩⟩;have hn:=ZlH Zdu (m:=0) (by have:=Zbh Zdu;omega) hb (ZcK Zdu);have HN:=ZH hn;clear hn hb;go_enter func82,ntmps82;go_wp2_with fail;go_step3
 go_wp2_with fail;go_step3
 go_wp2_with fail;refine HN.out.mono ?_;rintro _ w3 ⟨rfl,bZ⟩
 go_wp2_with (first
  |(refine Zy rfl 150 rfl (Za ⟨0,0,0,ZCz,[]⟩ (.slice none 0 0)) ZK ?_)
  |(refine wpList_store_row rfl 150 (.tmp 6) (.tmp 14) rfl w3.heap.size (Za ⟨0,0,0,ZCz,[]⟩ (.slice none 0 0)) rfl rfl 150 (Za ⟨0,0,0,ZCz,[]⟩ (.slice none 0 0)) (ZBn _ _ _) (Zat _ _) rfl (Zbc _ _ _ _) ?_
    have kC:Hid (Below w.heap.size w ((w3.alloc (.cells (Za ⟨0,0,0,ZCz,[]⟩ (.slice none 0 0)) 150)).setRow w3.heap.size (Za ⟨0,0,0,ZCz,[]⟩ (.slice none 0 0)))):=ZH (((Kept.start bZ).alloc _ |>.row bZ.size _).below)
    generalize (w3.alloc (.cells (Za ⟨0,0,0,ZCz,[]⟩ (.slice none 0 0)) 150)).setRow w3.heap.size (Za ⟨0,0,0,ZCz,[]⟩ (.slice none 0 0))=W5 at *))
 rw[Exit.noGoto_ret];go_ret2
 exact⟨rfl,kC.out⟩
structure Rows(l:List Nat)(rs:List Frm):Prop where
 ok:∀ f∈rs,RecOk f
 len:rs.length<=1000000
 big:l.length<=100000000
 is_:∃ f0 m,RecOk f0/\m<(recBytes f0).length/\l=recsBytes rs++(recBytes f0).take m
theorem Zq0{rs:List Frm}(hr:∀ f∈rs,RecOk f)(h:recsBytes rs=[]):rs=[]:=by
 cases rs with
 | nil=>rfl
 | cons f rs =>
  have hl:=Zbh (hr f ZM);have:=congrArg List.length h;simp only[recsBytes,List.flatMap_cons,ZI,List.length_nil] at this;omega
theorem Zhc{w:World}{v:Value}{l:List Nat}{rs:List Frm}{B:Nat}(hv:w.ownsRow B 5 1 v l.length (cells l))(h:Rows l rs):
  Calls prog 82 #[v] w λ r w'=>∃ v' ps,r = .returned (.tuple #[v',.int .i64 (recsBytes rs).length])/\RecRows w.heap.size w' v' rs ps/\Below w.heap.size w w':=by
 obtain⟨f0,m,h0,hm,hl⟩:=h.is_;rcases hv.2 with ⟨rfl,Sb⟩|⟨g,cap,cur,rfl,_⟩
 ·have yz:l=[]:=List.length_eq_zero_iff.1 Sb;rw[yz] at hl;have hr:recsBytes rs=[]:=(List.append_eq_nil_iff.1 hl.symm).1;have iQ:=Zq0 h.ok hr;subst iQ;refine(ZqM w).mono ?_;rintro _ w' ⟨rfl,hb⟩;exact⟨_,[],rfl,⟨rfl,⟨rfl,.inl ⟨rfl,rfl⟩⟩,λ p hp=>by simp at hp⟩,hb⟩
 ·obtain⟨a',c',h1,hb⟩:=Bytes.ab hv;injection h1 with h1 _ h3;subst h1 h3;exact Zr6 hb h.big rs h.ok h.len f0 h0 m hm hl
theorem RecRows.keep{base od:Nat}{w w':World}{v:Value}{rs:List Frm}{ps:List (Frm × Value)}(h:RecRows base w v rs ps)(hk:∀ g,base<=g->g<w.heap.size->w'.heap[g]? = w.heap[g]?)(hb:od<=base):RecRows od w' v rs ps :=
 ⟨h.is_,Zi (Zh h.row λ g hg hl=>hk g (Zb h.row hg).1 hl) hb,λ p hp=>Zi (Zh (h.evs p hp) λ g hg hl=>hk g (Zb (h.evs p hp) hg).1 hl) hb⟩
theorem ZkB{w:World}{p:Nat}{cs:Array Value}(hb:Blk w p 124 cs)(hc:cs[1]? = some (.pointer none)):
  Calls prog 86 #[.pointer (some ⟨p,0,none⟩)] w λ r w'=>∃ w1,r = .returned (.pointer (some ⟨w.heap.size,0,none⟩))/\Blk w1 w.heap.size 233 (diskArr (.slice none 0 0) false false 0)/\Below w.heap.size w w1/\w'=w1.setCell ⟨p,1,none⟩ (.pointer (some ⟨w.heap.size,0,none⟩)):=by
 have c1:=hb.cell 1;rw[hc] at c1;have ce:=hb.lt;obtain⟨HB,HC⟩:=ZH2 hb hc;clear hb hc;go_enter func86,ntmps86;go_wp2_with fail;refine(Zk9 w).mono ?_;rintro _ w1 ⟨rfl,nO,bS⟩;have cW:=HB.out.ob bS;have c1:=cW.cell 1;have f1:=cW.frozen 1;rw[HC.out] at c1;have mL:=cW.lt;have jF:∀ v,(w1.setCell ⟨p,1,none⟩ v).cell? ⟨p,1,none⟩=some v:=λ v=>World.cell?_setCell_same _ _ _ c1
 obtain⟨qb,cL⟩:=ZH2 nO bS;clear cW nO bS;go_wp2
 go_ret;exact⟨w1,rfl,qb.out,cL.out,rfl⟩
theorem ZkA{own:Own}{t td:Nat}{w:World}{p:Nat}{cs:Array Value}{d:Dk}(hb:Blk w p 124 cs)(hm:own p=t)(hf:Fresh own w)(hd:(∃ dp,cs[1]? = some (.pointer (some ⟨dp,0,none⟩))/\DiskAt own td w dp d)∨(cs[1]? = some (.pointer none)/\d=Dk.new)):
  Calls prog 86 #[.pointer (some ⟨p,0,none⟩)] w λ r w'=>∃ own' dp,r = .returned (.pointer (some ⟨dp,0,none⟩))/\Blk w' p 124 (cs.setIfInBounds 1 (.pointer (some ⟨dp,0,none⟩)))/\DiskAt own' td w' dp d/\Upd (λ m=>m=t∨m=td) own own' w w':=by
 rcases hd with ⟨dp,hc,hd⟩|⟨hc,rfl⟩
 ·have c1:=hb.cell 1;rw[hc] at c1;refine((Zfq c1)).mono ?_;rintro _ w' ⟨rfl,cQ⟩;have hu:Upd (λ _=>False) own own w w':=ZUb cQ hf;have fp:cs.setIfInBounds 1 (.pointer (some ⟨dp,0,none⟩))=cs:=by
   apply Array.ext_getElem?;intro j;rw[Array.getElem?_setIfInBounds];split
   ·rename_i h;subst h;rw[hc];split
    ·rfl
    ·rename_i h;rw[Array.getElem?_eq_none ZO] at hc
     cases hc
   ·rfl
  exact⟨own,dp,rfl,by rw[fp];exact hb.ob cQ,hd.upd hu (λ h=>h),hu.mono (λ _ h=>h.elim)⟩
 ·refine(ZkB hb hc).mono ?_;rintro _ w' ⟨w1,rfl,nO,bS,rfl⟩;have fQ:=hb.lt;have hu:Upd (λ m=>m=t∨m=td) own own w (w1.setCell ⟨p,1,none⟩ (.pointer (some ⟨w.heap.size,0,none⟩))):=(ZUb bS hf).setCell (p:=⟨p,1,none⟩) (λ _ => .inl hm) _;have dz:w.heap.size≠p:=ZO;have je:=nO.far (p:=⟨p,1,none⟩) dz (.pointer (some ⟨w.heap.size,0,none⟩));refine⟨own.at_ w.heap.size td,w.heap.size,rfl,(hb.ob bS).ai 1 _,⟨by simp[Own.at_],_,je,RowB.nil _ _ _⟩,hu.am (ZL _) je.lt td⟩
theorem Zjx{w:World}{p:Nat}{cs:Array Value}(hb:Blk w p 133 cs)(hc:cs[8]? = some (.pointer none)):
  Calls prog 79 #[.pointer (some ⟨p,0,none⟩)] w λ r w'=>∃ w1,r = .returned (.pointer (some ⟨w.heap.size,0,none⟩))/\Blk w1 w.heap.size 233 (diskArr (.slice none 0 0) false false 0)/\Below w.heap.size w w1/\w'=w1.setCell ⟨p,8,none⟩ (.pointer (some ⟨w.heap.size,0,none⟩)):=by
 have c1:=hb.cell 8;rw[hc] at c1;have ce:=hb.lt;obtain⟨HB,HC⟩:=ZH2 hb hc;clear hb hc;go_enter func79,ntmps79;go_wp2_with fail;refine(Zk9 w).mono ?_;rintro _ w1 ⟨rfl,nO,bS⟩;have cW:=HB.out.ob bS;have c1:=cW.cell 8;have f1:=cW.frozen 8;rw[HC.out] at c1;have mL:=cW.lt;have jF:∀ v,(w1.setCell ⟨p,8,none⟩ v).cell? ⟨p,8,none⟩=some v:=λ v=>World.cell?_setCell_same _ _ _ c1
 obtain⟨qb,cL⟩:=ZH2 nO bS;clear cW nO bS;go_wp2
 go_ret;exact⟨w1,rfl,qb.out,cL.out,rfl⟩
theorem Zjw{own:Own}{t td:Nat}{w:World}{p:Nat}{cs:Array Value}{d:Dk}(hb:Blk w p 133 cs)(hm:own p=t)(hf:Fresh own w)(hd:(∃ dp,cs[8]? = some (.pointer (some ⟨dp,0,none⟩))/\DiskAt own td w dp d)∨(cs[8]? = some (.pointer none)/\d=Dk.new)):
  Calls prog 79 #[.pointer (some ⟨p,0,none⟩)] w λ r w'=>∃ own' dp,r = .returned (.pointer (some ⟨dp,0,none⟩))/\Blk w' p 133 (cs.setIfInBounds 8 (.pointer (some ⟨dp,0,none⟩)))/\DiskAt own' td w' dp d/\Upd (λ m=>m=t∨m=td) own own' w w':=by
 rcases hd with ⟨dp,hc,hd⟩|⟨hc,rfl⟩
 ·have c1:=hb.cell 8;rw[hc] at c1;refine((ZeO c1)).mono ?_;rintro _ w' ⟨rfl,cQ⟩;have hu:Upd (λ _=>False) own own w w':=ZUb cQ hf;have fp:cs.setIfInBounds 8 (.pointer (some ⟨dp,0,none⟩))=cs:=by
   apply Array.ext_getElem?;intro j;rw[Array.getElem?_setIfInBounds];split
   ·rename_i h;subst h;rw[hc];split
    ·rfl
    ·rename_i h;rw[Array.getElem?_eq_none ZO] at hc
     cases hc
   ·rfl
  exact⟨own,dp,rfl,by rw[fp];exact hb.ob cQ,hd.upd hu (λ h=>h),hu.mono (λ _ h=>h.elim)⟩
 ·refine(Zjx hb hc).mono ?_;rintro _ w' ⟨w1,rfl,nO,bS,rfl⟩;have fQ:=hb.lt;have hu:Upd (λ m=>m=t∨m=td) own own w (w1.setCell ⟨p,8,none⟩ (.pointer (some ⟨w.heap.size,0,none⟩))):=(ZUb bS hf).setCell (p:=⟨p,8,none⟩) (λ _ => .inl hm) _;have dz:w.heap.size≠p:=ZO;have je:=nO.far (p:=⟨p,8,none⟩) dz (.pointer (some ⟨w.heap.size,0,none⟩));refine⟨own.at_ w.heap.size td,w.heap.size,rfl,(hb.ob bS).ai 8 _,⟨by simp[Own.at_],_,je,RowB.nil _ _ _⟩,hu.am (ZL _) je.lt td⟩
end Go.Proofs.YtjkfognelhiepaaGreat
