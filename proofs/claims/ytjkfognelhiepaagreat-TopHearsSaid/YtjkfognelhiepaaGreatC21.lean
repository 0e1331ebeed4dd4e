import Derived.Test.YtjkfognelhiepaaGreatC20
namespace Go.Proofs.YtjkfognelhiepaaGreat
open Go.RowKit _root_.Go.Proofs.Tryz
set_option maxRecDepth 100000
set_option maxHeartbeats 8000000
theorem Zlr{own:Own}{t td p:Nat}{w:World}{cs:Array Value}{d:Dk}{rs:List Frm}(hb:Blk w p 124 cs)(hm:own p=t)(hf:Fresh own w)(hd:(∃ dp,cs[1]? = some (.pointer (some ⟨dp,0,none⟩))/\DiskAt own td w dp d)∨(cs[1]? = some (.pointer none)/\d=Dk.new))(hr:Rows d.bytes rs)(ht:td≠0)(PB:t≠td):
  Calls prog 88 #[.pointer (some ⟨p,0,none⟩)] w λ r w'=>∃ own' v ps dp,r = .returned v/\RecRows w.heap.size w' v rs ps/\Blk w' p 124 (cs.setIfInBounds 1 (.pointer (some ⟨dp,0,none⟩)))/\DiskAt own' td w' dp ⟨recsBytes rs,false,false,d.keep⟩/\Upd (λ m=>m=t∨m=td) own own' w w'/\(∀ g,v.ownBlock=some g->own' g=0)/\(∀ x∈ps,∀ g,x.2.ownBlock=some g->own' g=0):=by
 have Hy:=ZH (ZkA hb hm hf hd);have fQ:=hb.lt;obtain⟨HR,HM⟩:=ZH2 hr hm;clear hb hm hf hd hr;go_enter func88,ntmps88;go_wp2_with fail;refine Hy.out.mono ?_;rintro _ w1 ⟨cF,dp,rfl,bS,nO,co⟩;have j7:Hid (cF p=t):=ZH ((co.old p fQ).trans HM.out);obtain⟨fq,da,cL⟩:=ZH3 (ZiE nO co.fresh) co bS;clear co nO bS;go_wp2_with fail;refine fq.out.mono ?_;rintro _ w2 ⟨rfl,je,cm⟩;have Az:=ZiD je (by have:=HR.out.big;simp only[Dk.start];omega);have o7:¬ cF p=td:=by rw[j7.out];exact PB
 obtain⟨cH,dc,nG,G6⟩:=ZH4 (cL.out.upd cm o7) (da.out.trans (cm.mono (T':=λ m=>m=t∨m=td) (λ _ h => .inr h))) je Az;clear je cm Az o7;go_wp2_with fail;refine G6.out.mono ?_;rintro _ w3 ⟨v3,rfl,ew,bZ⟩;obtain⟨uT,dI,ii,dj⟩:=ZH4 (Zhc ew HR.out) (dc.out.kept bZ) (nG.out.upd (ZUb (T:=λ _=>False) bZ dc.out.fresh) (λ h=>h)) (cH.out.ob bZ);obtain⟨a3,c3,rfl⟩:=Zs ew;clear ew bZ;go_wp2_with fail;refine uT.out.mono ?_;rintro _ w4 ⟨v4,ps,rfl,lR,cz⟩;have dS:=dI.out.kept cz;have l7:=ii.out.upd (ZUb (T:=λ _=>False) cz dI.out.fresh) (λ h=>h);have fc:(recsBytes rs).length<=d.start.bytes.length:=by
  obtain⟨f0,m,_,_,hl⟩:=HR.out.is_;simp only[Dk.start];rw[hl,ZI];omega
 have oQ:=ZjU l7 dS.fresh fc (by have:=HR.out.big;simp only[Dk.start];omega);have fK:=ZH (dj.out.ob cz);obtain⟨a4,c4,rfl⟩:=Zs lR.row;obtain⟨fF,nI,uu,nJ,nX⟩:=ZH5 dS oQ lR dI.out.size l7;clear lR cz dS l7 oQ fc;go_wp2_with fail;refine nI.out.mono ?_;rintro _ w5 ⟨rfl,jy,gS⟩;have Iz:d.start.trim (recsBytes rs).length=⟨recsBytes rs,false,false,d.keep⟩:=by
  obtain⟨f0,m,_,_,hl⟩:=HR.out.is_;simp only[Dk.start,Dk.trim,hl,List.take_left]
 rw[Iz] at jy
 have rN:RecRows w.heap.size w5 (.slice a4 rs.length c4) rs ps:=uu.out.keep (λ g h1 h2=>gS.same g h2 (λ h=>by
  rw[dI.out.fresh g h1] at h
  exact ht h.symm)) nJ.out
 have dw:=fK.out.upd gS (by rw[j7.out];exact PB);go_wp2
 go_ret;exact⟨cF,_,ps,dp,rfl,rN,dw,jy,fF.out.trans (gS.mono (λ _ h => .inr h)),λ g hg=>dI.out.fresh g (Zb uu.out.row hg).1,λ x hx g hg=>dI.out.fresh g (Zb (uu.out.evs x hx) hg).1⟩
section
structure HubRun(own:Own)(t:Nat)(w0:World)(own0:Own)(p dp pp:Nat)(c:Cfg)(d:Dk)(st:PostSt)(v:Value)(rs:List Frm)(ps:List (Frm × Value))(w:World):Prop where
 blk:Blk w p 124 (hubStArr false (.pointer (some ⟨dp,0,none⟩)) c (.pointer (some ⟨pp,0,none⟩)))
 disk:DiskAt own (t+1) w dp d
 post:PostAt own (t+10) w pp c.w st.1 st.2
 recs:RecLoose own w v rs ps
 upd:Upd (HubT t) own0 own w0 w
 mine:own p=t
section
variable {own own' own0:Own}{t p dp pp:Nat}{w0 w w':World}{c:Cfg}{d:Dk}{st:PostSt}{v:Value}{rs:List Frm}{ps:List (Frm × Value)}
theorem HubRun.kept(h:HubRun own t w0 own0 p dp pp c d st v rs ps w)(hb:Below w.heap.size w w'):HubRun own t w0 own0 p dp pp c d st v rs ps w':=by
 have hu:Upd (λ _=>False) own own w w':=ZUb hb h.upd.fresh;exact⟨h.blk.ob hb,h.disk.upd hu (λ h=>h),h.post.upd hu (λ _ _ h=>h),h.recs.upd hu (λ h=>h),h.upd.kept hb,h.mine⟩
theorem HubRun.aL(h:HubRun own t w0 own0 p dp pp c d st v rs ps w){st':PostSt}{T:Nat->Prop}(hu:Upd T own own' w w')(hT:∀ n,T n->t+10<=n/\n<t+50)(hp:PostAt own' (t+10) w' pp c.w st'.1 st'.2)(ht:0<t):HubRun own' t w0 own0 p dp pp c d st' v rs ps w' :=
 ⟨h.blk.upd hu (λ hh=>by have:=hT _ hh;rw[h.mine] at this;omega),h.disk.upd hu (λ hh=>by have:=hT _ hh;omega),hp,h.recs.upd hu (λ hh=>by have:=hT _ hh;omega),h.upd.trans (hu.mono (λ n hn=>by have:=hT n hn;exact⟨ZO,ZO⟩)),by rw[hu.old p h.blk.lt];exact h.mine⟩
end
theorem Zj1{own:Own}{t p:Nat}{w:World}{c:Cfg}{d:Dk}{dv pv:Value}{rs:List Frm}(ht:0<t)(hm:own p=t)(hb:Blk w p 124 (hubStArr false dv c pv))(hf:Fresh own w)(hd:(∃ dp,dv = .pointer (some ⟨dp,0,none⟩)/\DiskAt own (t+1) w dp d)∨(dv = .pointer none/\d=Dk.new))(hc:c.Ok)(hr:Rows d.bytes rs)(fm:ReplayOk c.n c.w (initSt c) rs):
  Calls prog 47 #[.pointer (some ⟨p,0,none⟩)] w λ r w'=>r = .returned (.int .i64 0)/\∃ own',HubAt own' t w' p c true ⟨recsBytes rs,false,false,d.keep⟩ (ZbH c.w (initSt c) rs).1 (ZbH c.w (initSt c) rs).2/\Upd (HubT t) own own' w w':=by
 obtain⟨c0,c1,c2,c3,c4,c5,c6,c7,c8⟩:=hb.aj;have ce:=hb.lt;obtain⟨Rr,HB,HF,HD,HR,jN,HM,HC⟩:=ZH8 (ZqH (t:=t+10) c hc hf) hb hf hd hr fm hm hc;clear hb hf hd hr fm hm hc;go_enter func47,ntmps47;go_wp2_with fail;refine Rr.out.mono ?_;rintro _ w1 ⟨pp,cF,rfl,im,jT,co⟩;have rG:cF p=t:=(co.old p ce).trans HM.out;have bS:=HB.out.upd co (by rw[HM.out];omega);have nO:(∃ dp,dv = .pointer (some ⟨dp,0,none⟩)/\DiskAt cF (t+1) w1 dp d)∨(dv = .pointer none/\d=Dk.new):=by
  rcases HD.out with ⟨dp,h1,h2⟩ | h
  ·exact .inl ⟨dp,h1,h2.upd co ZO⟩
  ·exact .inr h
 have e8:=bS.cell 8;have f8:=bS.frozen 8;have mL:=bS.lt;simp only[ZD,ZE,ZG] at e8;have cm:Upd (· = t) cF cF w1 (w1.setCell ⟨p,8,none⟩ (.pointer (some ⟨pp,0,none⟩))):=(Upd.refl (· = t) cF w1 co.fresh).setCell (p:=⟨p,8,none⟩) (λ _=>rG) _;have bW:Blk (w1.setCell ⟨p,8,none⟩ (.pointer (some ⟨pp,0,none⟩))) p 124 (hubStArr false dv c (.pointer (some ⟨pp,0,none⟩))):=bS.ai 8 _;have o7:=jT.upd cm (λ i _=>ZO);have je:(∃ dp,dv = .pointer (some ⟨dp,0,none⟩)/\DiskAt cF (t+1) (w1.setCell ⟨p,8,none⟩ (.pointer (some ⟨pp,0,none⟩))) dp d)∨(dv = .pointer none/\d=Dk.new):=by
  rcases nO with ⟨dp,h1,h2⟩ | h
  ·exact .inl ⟨dp,h1,h2.upd cm ZO⟩
  ·exact .inr h
 have Pm:=Zlr (t:=t) (td:=t+1) bW rG cm.fresh (by
  rcases je with ⟨dp,h1,h2⟩|⟨h1,h2⟩
  ·exact .inl ⟨dp,by rw[h1];rfl,h2⟩
  ·exact .inr ⟨by rw[h1];rfl,h2⟩) HR.out ZO ZO
 have dc:Hid (Upd (HubT t) own cF w (w1.setCell ⟨p,8,none⟩ (.pointer (some ⟨pp,0,none⟩)))):=ZH ((co.mono (λ n h=>⟨ZO,ZO⟩)).trans (cm.mono (λ n h=>⟨ZO,ZO⟩)));obtain⟨q7,NC,nZ⟩:=ZH3 o7 Pm rG;clear jT co bS nO cm bW o7 je Pm rG im c0 c1 c2 c3 c4 c5 c6 c7 c8;go_wp2_with fail;refine NC.out.mono ?_;rintro _ w3 ⟨ey,v3,ps,dp,rfl,lR,bZ,iO,cO,yW,Ck⟩;have rH:ey p=t:=(cO.old p (by simpa [World.setCell] using mL)).trans nZ.out;have gi:=q7.out.upd cO (λ i _=>ZO);have kX:RecLoose ey w3 v3 rs ps:=⟨⟨lR.is_,Zi lR.row (Nat.zero_le _),λ x hx=>Zi (lR.evs x hx) (Nat.zero_le _)⟩,yW,Ck⟩;have iS:Hid (HubRun ey t w own p dp pp c ⟨recsBytes rs,false,false,d.keep⟩ (initSt c) v3 rs ps w3):=ZH (⟨bZ,iO,gi,kX,dc.out.trans (cO.mono (λ n h=>⟨ZO,ZO⟩)),rH⟩);obtain⟨a3,dm,rfl⟩:=Zs lR.row;have Mp:=HR.out.len;clear lR bZ iO cO yW Ck rH gi kX q7 NC dc nZ e8 f8 mL;go_wp2_with fail;go_loopw [23] (λ i wr=>∃ (q:Nat) (dD:Own),q<=rs.length/\i = .int .i64 q/\Hid (HubRun dD t w own p dp pp c ⟨recsBytes rs,false,false,d.keep⟩ (ZbH c.w (initSt c) (rs.take q)) (.slice a3 rs.length dm) rs ps wr)) (λ i _=>rs.length-(intOf i).toNat)
 case atStart=>exact⟨0,ey,Nat.zero_le _,rfl,iS⟩
 case round =>
  clear iS;obtain⟨q,dD,hq,rfl,HH⟩:=hrel;by_cases dy:q<rs.length
  ·obtain⟨f,uE⟩:∃ f,rs[q]? = some f:=⟨_,ZX dy⟩;obtain⟨b,ea,en,cv,rl,By,cQ,eD,kG,bU⟩:=HH.out.recs.at_ uE;injection By with By _ IQ;subst By IQ;have k0:=bU 0 ZO;have k1:=bU 1 ZO;have k2:=bU 2 ZO;have k3:=bU 3 ZO;have k4:=bU 4 ZO;have k5:=bU 5 ZO;have k6:=bU 6 ZO;have k7:=bU 7 ZO;have k8:=bU 8 ZO;simp only[ZD,ZE,ZG,Nat.add_zero] at k0 k1 k2 k3 k4 k5 k6 k7 k8;obtain⟨wS,l8⟩:=jN.out.at_ q f uE;obtain⟨rb,Dt⟩:=ZH2 (ZlK c.w (initSt c) uE) (HR.out.ok f (ZY uE));have fH:=(ZW wr.heap.size wr).alloc (ZL _) (.cells (Za f (.slice ea en rl)) 150);obtain⟨HX,gD,iZ,mi,mE,uq⟩:=ZH6 (ZBn wr 150 (Za f (.slice ea en rl))) (HH.out.kept fH) (eD.below fH) wS l8 kG;clear bU uE wS l8 fH eD kG;obtain⟨x0,x1,x2,x3,x4,x5,x6,x7,x8⟩:=HX.out.aj;obtain⟨st,ed⟩:∃ st,st=ZbH c.w (initSt c) (rs.take q):=⟨_,rfl⟩;rw[←ed] at mi mE rb gD;clear ed x0 x1 x2 x3 x4 x5 x6 x7 x8;rcases mE.out.kind with hk | hk
   focus
    have ef:((f.kind:Int)==5)=true:=by simp[hk]
    have fi:=ZH hk;clear hk;go_wp2_with fail;generalize Sx:(wr.alloc (.cells (Za f (.slice ea en rl)) 150))=W at *;refine ZSi [(0,3),(1,0),(2,3),(3,0),(4,3),(5,0),(6,3),(7,0),(8,2)] λ bR=>?_
    repeat((first | refine ZSa ?_ | refine ZSb ?_ | (refine Zf rfl (by rfl) (λ w' ci=>by(obtain⟨c0,c1,c2,c3,c4,c5,c6,c7,c8⟩:=(gD.out.blk.ob ci.below).aj);(obtain⟨x0,x1,x2,x3,x4,x5,x6,x7,x8⟩:=(HX.out.ob ci.below).aj);go_simp;with_reducible rfl) ?_));simp only[Act.put,ZA,ZB,ZC])
    refine ZSe λ K hK=>?_
    go_simp;have fL:=gD.out.kept ((ZW W.heap.size W).drew);obtain⟨n0,x,hx,gA,fJ,yn⟩:=mE.out.push fi.out;have BG:=mi.out.kept x (ZY hx);have lX:=HC.out.w4;refine(Zki fL.post fL.upd.fresh (by rw[mi.out.len];exact HC.out.n5) f.r hx BG.1 ZO (iZ.out.below ((ZW W.heap.size W).drew)) (by have:=uq.out;have:=Dt.out.len;omega) n0 gA fJ yn).mono ?_;rintro _ w6 ⟨rfl,dU,nT,gT⟩;have nw:=mE.out.r;have dx:=fL.aL (st':=ZbO c.w st f) gT (λ n hn=>by have:=mi.out.len;have:=HC.out.n5;omega) (by simp only[ZbO,fi.out,if_true];exact nT) ht;have qT:=ZH dx;refine hK.out _ _ ?_;clear hK K fL hx gA fJ yn BG lX nT gT dx nw
   rotate_left
   focus
    have ef:((f.kind:Int)==5)=false:=by simp[hk]
    have sc:((f.kind:Int)==6)=true:=by simp[hk]
    have me:=ZH hk;clear hk;go_wp2_with fail;generalize Sx:(wr.alloc (.cells (Za f (.slice ea en rl)) 150))=W at *;refine ZSi [(0,3),(1,0),(2,3),(3,0),(4,3),(5,0),(6,3),(7,0),(8,2)] λ bR=>?_
    repeat((first | refine ZSa ?_ | refine ZSb ?_ | (refine Zf rfl (by rfl) (λ w' ci=>by(obtain⟨c0,c1,c2,c3,c4,c5,c6,c7,c8⟩:=(gD.out.blk.ob ci.below).aj);(obtain⟨x0,x1,x2,x3,x4,x5,x6,x7,x8⟩:=(HX.out.ob ci.below).aj);go_simp;with_reducible rfl) ?_));simp only[Act.put,ZA,ZB,ZC])
    refine ZSe λ K hK=>?_
    go_simp;have fL:=gD.out.kept ((ZW W.heap.size W).drew);have nw:=mE.out.r;have FX:f.r<st.2.length:=by rw[mi.out.len2,←mi.out.len];exact nw
    obtain⟨tr,oQ⟩:∃ tr,st.2[f.r]? = some tr:=⟨_,ZX FX⟩;have gG:=mi.out.told tr (ZY oQ);refine(Zly fL.post fL.upd.fresh (by rw[mi.out.len];exact HC.out.n5) f.r nw f.clock (λ i=>by have:=Dt.out.clock i;omega) oQ (λ i=>by have:=gG i;omega) (λ s hs=>by have:=mi.out.kept s hs;have:=HC.out.w4;omega)).mono ?_;rintro _ w6 ⟨rfl,dU,nT,gT⟩;have qv:st.2.getD f.r ZCz=tr:=by simp[List.getD,oQ]
    have dx:=fL.aL (st':=ZbO c.w st f) gT (λ n hn=>by have:=mi.out.len;have:=HC.out.n5;omega) (by simp only[ZbO,me.out,qv];exact nT) ht;have qT:=ZH dx;refine hK.out _ _ ?_;clear hK K fL oQ gG qv nT gT dx nw FX
   rotate_left
   all_goals
    refine ZSf ?_;go_wp2
    go_roundw
    case rel=>exact⟨q+1,dU,ZO,ZN,by rw[rb.out];exact qT⟩
    case measure=>simp[intOf];omega
  ·obtain rfl:q=rs.length:=ZO;rw[List.take_length] at HH;obtain⟨c0,c1,c2,c3,c4,c5,c6,c7,c8⟩:=HH.out.blk.aj;have f0:=HH.out.blk.frozen 0;have lJ:=HH.out.blk.lt;have wS:=jN.out.end_;go_wp2
   go_ret;have dh:Upd (· = t) dD dD wr (wr.setCell ⟨p,0,none⟩ (.bool true)):=(Upd.refl (· = t) dD wr HH.out.upd.fresh).setCell (p:=⟨p,0,none⟩) (λ _=>HH.out.mine) _;exact⟨rfl,dD,⟨HH.out.mine,wS.len,dp,pp,HH.out.blk.ai 0 _,HH.out.disk.upd dh ZO,HH.out.post.upd dh (λ i _=>ZO)⟩,HH.out.upd.trans (dh.mono (λ n h=>⟨ZO,ZO⟩))⟩
end
theorem ZmW(c:Cfg):PostOk c.n c.w (initSt c):=by
 refine⟨by simp[initSt],by simp[initSt],λ s hs=>?_,λ x hx i=>?_⟩
 ·simp only[initSt] at hs;rw[List.eq_of_mem_replicate hs];simp
 ·simp only[initSt] at hx;rw[List.eq_of_mem_replicate hx]
  match i with
  | 0=>simp[ZCz,Clk.get]
  | 1=>simp[ZCz,Clk.get]
  | 2=>simp[ZCz,Clk.get]
  | 3=>simp[ZCz,Clk.get]
  | 4=>simp[ZCz,Clk.get]
  | n+5=>rw[Clk.aq _ ZO];omega
theorem Zgm:Rows [] []:=⟨λ f h=>by simp at h,ZM,ZM,⟨3,0,0,ZCz,[]⟩,0,Zdu,by have:=(Zbh Zdu).2;omega,rfl⟩
theorem ZrT{own:Own}{t:Nat}{w:World}{c:Cfg}(ht:0<t)(hf:Fresh own w)(hc:c.Ok):
  Calls prog 28 #[ZdX c] w λ r w'=>∃ p own',r = .returned (.tuple #[.pointer (some ⟨p,0,none⟩),.int .i64 0])/\w.heap.size<=p/\HubAt own' t w' p c true Dk.new (initSt c).1 (initSt c).2/\Upd (HubT t) own own' w w':=by
 obtain⟨HB,df,sG,HF,HC⟩:=ZH5 (ZBn w 23 (Zal c)) ((ZKr w).alloc (.cells (Zal c) 23)) (Zla c hc (w.alloc (.cells (Zal c) 23))) hf hc;clear hf hc;have dR:∀ (x:Bool) (w:World),(Op.unary .not (.bool x)).run prog w = .ok (.bool (!x)) w:=λ _ _=>rfl
 go_enter func28,ntmps28;go_wp2_with fail;refine sG.out.mono ?_;rintro _ w1 ⟨rfl,bS⟩;have cW:=HB.out.ob bS;obtain⟨c0,c1,c2,c3,c4,c5⟩:=cW.aS;have mL:=cW.lt;have dE:=df.out.step bS;have co:Upd (λ _=>False) own own w w1:=ZUb dE.below HF.out;have bW:Blk (w1.alloc (.cells (hubStArr false (.pointer none) c (.pointer none)) 124)) w1.heap.size 124 (hubStArr false (.pointer none) c (.pointer none)):=ZBn _ _ _;have cm:Upd (λ _=>False) own own w (w1.alloc (.cells (hubStArr false (.pointer none) c (.pointer none)) 124)):=co.kept ((ZW _ _).alloc (ZL _) _);have cO:=cm.am (g:=w1.heap.size) co.size ZM t;have fq:=ZH (Zj1 (own:=own.at_ w1.heap.size t) ht (by simp[Own.at_]) bW cO.fresh (.inr ⟨rfl,rfl⟩) HC.out Zgm (ZmW c));have dL:=co.size;have dI:=ZH cO;clear cW bS dE co bW cm cO;go_wp2_with fail;refine fq.out.mono ?_;rintro _ w4 ⟨rfl,dG,hh,dS⟩;go_wp2_with fail;go_ret2
 exact⟨w1.heap.size,dG,rfl,dL,hh,(dI.out.mono (λ n h=>h.elim)).trans dS⟩
section
theorem Zgl(rs:List Frm)(f:Frm):recsBytes (rs++[f])=recsBytes rs++recBytes f:=by simp[recsBytes]
theorem Zcd(rs:List Frm)(f:Frm):nodeRecs (rs++[f])=Zas (nodeRecs rs) f:=by simp[nodeRecs]
theorem ZlI:∀ {rs:List Frm},(∀ f∈rs,RecOk f)->(recsBytes rs).length<=rs.length*60200
 | [],_=>by simp[recsBytes]
 | f::rs,h=>by
  have ih:=ZlI (rs:=rs) λ x hx=>h x (List.mem_cons_of_mem _ hx)
  have h1:=(Zbh (h f ZM)).1;simp only[recsBytes,List.flatMap_cons,ZI,List.length_cons] at ih ⊢;omega
theorem Zr7{f:Frm}(h:RecOk f):0<(recBytes f).length:=by
 have:=(Zbh h).2;omega
theorem Rows.of{rs:List Frm}(h:∀ f∈rs,RecOk f)(hl:rs.length<=1000){f:Frm}(hf:RecOk f){m:Nat}(hm:m<(recBytes f).length):Rows (recsBytes rs++(recBytes f).take m) rs:=by
 have h1:=ZlI h;have h2:=(Zbh hf).1;refine⟨h,ZO,?_,f,m,hf,hm,rfl⟩;rw[ZI,ZV];omega
theorem Rows.whole{rs:List Frm}(h:∀ f∈rs,RecOk f)(hl:rs.length<=1000):Rows (recsBytes rs) rs:=by
 have h1:RecOk ⟨3,0,0,ZCz,[]⟩:=Zdu;have:=Rows.of h hl h1 (m:=0) (Zr7 h1);simpa using this
def ZaY(d:Dk)(rs:List Frm)(f:Frm):List Frm :=
 if d.down=true then rs else if d.cut=true then(if (recBytes f).length<=d.keep.toNat then rs++[f] else rs) else rs++[f]
structure DiskInv(c:Cfg)(r:Nat)(B:Bd)(b:Nat)(d:Dk)(rs:List Frm):Prop where
 rows:Rows d.bytes rs
 ok:∀ f∈rs,RecOk f
 inv:∀ q,LogInv c r B (nodeRecs (rs.take q)).1 (nodeRecs (rs.take q)).2
 len:rs.length<=b+(nodeRecs rs).2+(nodeRecs rs).1.length
section
variable {c:Cfg}{r b b':Nat}{B B':Bd}{d:Dk}{rs:List Frm}
theorem DiskInv.last(h:DiskInv c r B b d rs):LogInv c r B (nodeRecs rs).1 (nodeRecs rs).2:=by
 have:=h.inv rs.length;rwa [List.take_length] at this
theorem DiskInv.more(h:DiskInv c r B b d rs)(hB:B.le B')(hb:b<=b'):DiskInv c r B' b' d rs :=
 ⟨h.rows,h.ok,λ q=>(h.inv q).more hB,by have:=h.len;omega⟩
theorem DiskInv.bi(h:DiskInv c r B b d rs)(hr:r<5):rs.length<=b+2*tot B.made:=by
 have h1:=h.len;have h2:=h.last.len;have h3:=h.last.sent;have h4:=h.last.az r;have h5:=Zc5 (B:=B.made) hr;omega
theorem DiskInv.same(h:DiskInv c r B b d rs){d':Dk}(hd:d'.bytes=d.bytes):DiskInv c r B b d' rs:=⟨by rw[hd];exact h.rows,h.ok,h.inv,h.len⟩
theorem DiskInv.new(c:Cfg)(r:Nat)(B:Bd)(b:Nat):DiskInv c r B b Dk.new [] :=
 ⟨Zgm,ZM,λ q=>by simpa [nodeRecs] using LogInv.nil c r B,ZM⟩
theorem DiskInv.trimmed(h:DiskInv c r B b d rs)(hr:r<5)(hb:b+2*tot B.made<=1000){d':Dk}(hd:d'.bytes=recsBytes rs):DiskInv c r B b d' rs :=
 ⟨by rw[hd];exact Rows.whole h.ok (by have:=h.bi hr;omega),h.ok,h.inv,h.len⟩
theorem DiskInv.snoc(h:DiskInv c r B b d rs)(hr:r<5)(hB:B.le B'){f:Frm}(hf:RecOk f)(hl:LogInv c r B' (Zas (nodeRecs rs) f).1 (Zas (nodeRecs rs) f).2)(hn:b+(nodeRecs rs).2+(nodeRecs rs).1.length+1<=b'+(Zas (nodeRecs rs) f).2+(Zas (nodeRecs rs) f).1.length)(hs:b'+2*tot B'.made<=1000){d':Dk}(hd:d'.bytes=recsBytes rs++recBytes f):
  DiskInv c r B' b' d' (rs++[f]):=by
 have hlen:(rs++[f]).length<=b'+(nodeRecs (rs++[f])).2+(nodeRecs (rs++[f])).1.length:=by
  rw[Zcd,ZI];have:=h.len;simp only[List.length_cons,List.length_nil];omega
 have eO:∀ x∈rs++[f],RecOk x:=λ x hx=>by
  rcases List.mem_append.1 hx with hx | hx
  ·exact h.ok x hx
  ·simp at hx;subst hx;exact hf
 have h3:(rs++[f]).length<=1000:=by
  have h2:=hl.len;have h4:=hl.sent;have h5:=hl.az r;have h6:=Zc5 (B:=B'.made) hr;rw[Zcd] at hlen;omega
 refine⟨by rw[hd,←Zgl];exact Rows.whole eO h3,eO,λ q=>?_,hlen⟩;by_cases hq:q<=rs.length
 ·rw[List.take_append_of_le_length hq];exact(h.inv q).more hB
 ·rw[ZU ZP,Zcd];exact hl
theorem DiskInv.wrote(h:DiskInv c r B b d rs)(hr:r<5)(hd:d.bytes=recsBytes rs)(hu:d.down=false)(hB:B.le B')(hb:b<=b'){f:Frm}(hf:RecOk f)(hl:LogInv c r B' (Zas (nodeRecs rs) f).1 (Zas (nodeRecs rs) f).2)(hn:b+(nodeRecs rs).2+(nodeRecs rs).1.length+1<=b'+(Zas (nodeRecs rs) f).2+(Zas (nodeRecs rs) f).1.length)(hs:b'+2*tot B'.made<=1000):
  DiskInv c r B' b' (d.write (recBytes f)).1 (ZaY d rs f)/\(d.cut=false->(d.write (recBytes f)).2=0/\ZaY d rs f=rs++[f]/\(d.write (recBytes f)).1.bytes=recsBytes (rs++[f])/\(d.write (recBytes f)).1.down=false/\(d.write (recBytes f)).1.cut=false)/\(d.cut=true->(d.write (recBytes f)).2=18):=by
 cases hc:d.cut with
 | false =>
  have e1:d.write (recBytes f)=(⟨d.bytes++recBytes f,false,false,d.keep⟩,0):=by unfold Dk.write;simp[hu,hc]
  have e2:ZaY d rs f=rs++[f]:=by unfold ZaY;simp[hu,hc]
  rw[e1,e2];exact⟨h.snoc hr hB hf hl hn hs (by simp[hd]),λ _=>⟨rfl,rfl,by simp[hd,Zgl],rfl,rfl⟩,λ h=>by cases h⟩
 | true =>
  have e1:d.write (recBytes f)=(⟨d.bytes++(recBytes f).take d.keep.toNat,true,false,d.keep⟩,18):=by unfold Dk.write;simp[hu,hc]
  have e2:ZaY d rs f=if (recBytes f).length<=d.keep.toNat then rs++[f] else rs:=by unfold ZaY;simp[hu,hc]
  rw[e1,e2];refine⟨?_,λ h=>(by cases h),λ _=>rfl⟩;by_cases hk:(recBytes f).length<=d.keep.toNat
  ·rw[if_pos hk];exact h.snoc hr hB hf hl hn hs (by simp[hd,ZU hk])
  ·rw[if_neg hk];have h':=h.more hB hb;have h3:=h'.bi hr;exact⟨by simp only[hd];exact Rows.of h'.ok ZO hf ZO,h'.ok,h'.inv,h'.len⟩
end
structure PN where
 s:NodeSt
 rs:List Frm
structure UpInv(c:Cfg)(r:Nat)(B:Bd)(s:NodeSt)(rs:List Frm):Prop where
 down:s.d.down=false
 bytes:s.d.bytes=recsBytes rs
 recs:nodeRecs rs=(s.log,s.sent)
 clk:s.clk=clkOf s.log
 wait:s.wait=waitN r s.sent s.log
 book:s.book=s.log.foldl applyN []
 held:∀ e∈s.held,EvH c r B e
 hlen:s.held.length<=20
structure NodeInv(c:Cfg)(r:Nat)(B:Bd)(b:Nat)(x:PN):Prop where
 disk:DiskInv c r B b x.s.d x.rs
 up:x.s.up=true->UpInv c r B x.s x.rs
end
section
theorem ZgY{K:Nat}:∀ (l:List Nat) (a:Nat),a<=K->(∀ x∈l,x<=K)->l.foldl max a<=K
 | [],_,h,_=>h
 | x::l,a,h,hl=>ZgY l (max a x) (by have:=hl x ZM;omega) λ y hy=>hl y (List.mem_cons_of_mem _ hy)
theorem ZmZ{c:Clk}{K:Nat}{l:List Ev}(h:∀ e∈l,e.height<=K):maxH c l<=K:=by
 refine ZgY _ 0 (Nat.zero_le _) λ x hx=>?_
 obtain⟨e,he,rfl⟩:=List.mem_map.1 hx;exact h e (List.mem_filter.1 he).1
theorem Clk.bc(c:Clk):c.le c=true:=Clk.le_iff.2 λ _ _=>ZL _
theorem ZhJ{c:Clk}{e:Ev}(hr:e.r<5)(hn:e.n=c.get e.r+1)(hc:e.ctx.le c=true):drained c [e]=([e],[],c.set e.r (c.get e.r+1)):=by
 have h1:Zaf c [e]=[e]:=by
  simp only[Zaf,List.foldl_cons,List.foldl_nil,Zc3,Zb1,List.find?_nil,Option.isNone_none,Bool.true_and,List.nil_append];rw[if_pos];simp[Clk.has];omega
 have h2:Zbr c [e]=some e:=by
  refine Zlu hr (λ j hj=>?_) ?_
  ·unfold Zcc Zb1;rw[List.find?_cons_of_neg ZP];rfl
  ·unfold Zcc Zb1;rw[List.find?_cons_of_pos (by simp[hn])];simp[hc]
 have h3:Zdp e.r e.n [e]=[]:=by simp[Zdp]
 have h4:∀ k,Zbr k []=none:=λ k=>ZiR λ j _=>rfl
 unfold drained;rw[h1];simp only[List.length_cons,List.length_nil];unfold Za7;rw[h2];simp only[h3];rw[ZfE (h4 _)];rfl
theorem ZnK{c:Clk}{l:List Ev}{e:Ev}(h:e∈Zdg c l):e∈l:=by
 unfold Zdg Zb3 at h;rcases Zer c l [] e (List.mem_filter.1 h).1 with h | h
 ·cases h
 ·exact h
def Zdf(x:PN):PN:=⟨{ x.s with up:=false,d:=x.s.d.aF },x.rs⟩
def Znm(x:PN)(keep:Int):PN:=⟨{ x.s with d:=x.s.d.aQ keep },x.rs⟩
def Zgr(r:Nat)(x:PN):PN:=⟨⟨true,⟨recsBytes x.rs,false,false,x.s.d.keep⟩,(nodeRecs x.rs).1,(nodeRecs x.rs).2,(nodeRecs x.rs).1.foldl applyN [],clkOf (nodeRecs x.rs).1,[],waitN r (nodeRecs x.rs).2 (nodeRecs x.rs).1⟩,x.rs⟩
def ZbS(r:Nat)(x:PN):PN × Nat:=if x.s.up=true then(x,19) else(Zgr r x,0)
def Zc7(r:Nat)(x:PN):PN × Nat:=(⟨(Zfj r x.s).1,if x.s.up=true then ZaY x.s.d x.rs (ZbG r x.s) else x.rs⟩,(Zfj r x.s).2)
def Bd.aO(B:Bd)(r:Nat):Bd:=⟨λ i=>if i=r then B.made i+1 else B.made i,B.hub⟩
theorem Zhs(B:Bd)(r:Nat):B.le (B.aO r):=⟨λ i=>by unfold Bd.aO;simp only;split <;> omega,λ _=>ZL _⟩
theorem Zrg{B:Bd}{r:Nat}(h:r<5):tot (B.aO r).made=tot B.made+1:=by
 unfold tot Bd.aO;rcases(by omega:r=0∨r=1∨r=2∨r=3∨r=4) with rfl | rfl | rfl | rfl | rfl <;> simp <;> omega
def ownN(r:Nat)(x:PN):Nat:=cnt r (nodeRecs x.rs).1
theorem Zgz{r:Nat}{d:Dk}{rs:List Frm}{f:Frm}(h:cnt r (Zas (nodeRecs rs) f).1=cnt r (nodeRecs rs).1):cnt r (nodeRecs (ZaY d rs f)).1=cnt r (nodeRecs rs).1:=by
 unfold ZaY;split
 ·rfl
 ·split
  ·split
   ·rw[Zcd,h]
   ·rfl
  ·rw[Zcd,h]
section
variable {c:Cfg}{r b b':Nat}{B B':Bd}{x:PN}{s1:NodeSt}
theorem NodeInv.log(h:NodeInv c r B b x)(hu:x.s.up=true):LogInv c r B x.s.log x.s.sent:=by
 have:=h.disk.last;rw[(h.up hu).recs] at this;exact this
theorem NodeInv.more(h:NodeInv c r B b x)(hB:B.le B')(hb:b<=b'):NodeInv c r B' b' x :=
 ⟨h.disk.more hB hb,λ hu=>by
  have g:=h.up hu
  exact⟨g.down,g.bytes,g.recs,g.clk,g.wait,g.book,λ e he=>(g.held e he).more hB,g.hlen⟩⟩
theorem NodeInv.aF(h:NodeInv c r B b x):NodeInv c r B b (Zdf x):=⟨h.disk.same rfl,λ hu=>by simp[Zdf] at hu⟩
theorem NodeInv.cut(h:NodeInv c r B b x)(keep:Int):NodeInv c r B b (Znm x keep) :=
 ⟨h.disk.same rfl,λ hu=>by
  have g:=h.up hu
  exact⟨g.down,g.bytes,g.recs,g.clk,g.wait,g.book,g.held,g.hlen⟩⟩
theorem NodeInv.started(h:NodeInv c r B b x)(hr:r<5)(hb:b+2*tot B.made<=1000):NodeInv c r B b (Zgr r x) :=
 ⟨h.disk.trimmed hr hb rfl,λ _=>⟨rfl,rfl,rfl,rfl,rfl,rfl,by simp[Zgr],by simp[Zgr]⟩⟩
theorem NodeInv.start(h:NodeInv c r B b x)(hr:r<5)(hb:b+2*tot B.made<=1000):NodeInv c r B b (ZbS r x).1:=by
 unfold ZbS;split
 ·exact h
 ·exact h.started hr hb
theorem NodeInv.wrote(h:NodeInv c r B b x)(hu:x.s.up=true)(hd:s1.d=x.s.d)(hr:r<5)(hB:B.le B')(hb:b<=b'){f:Frm}(hf:RecOk f){log:List Ev}{sent:Nat}(he:Zas (x.s.log,x.s.sent) f=(log,sent))(hl:LogInv c r B' log sent)(hn:b+x.s.sent+x.s.log.length+1<=b'+sent+log.length)(hs:b'+2*tot B'.made<=1000):
  DiskInv c r B' b' (ZS s1 f).1.d (ZaY x.s.d x.rs f)/\((ZS s1 f).2=0->nodeRecs (ZaY x.s.d x.rs f)=(log,sent)/\(ZS s1 f).1.d.bytes=recsBytes (ZaY x.s.d x.rs f)/\(ZS s1 f).1.d.down=false)/\((ZS s1 f).2≠0->(ZS s1 f).1.up=false):=by
 have g:=h.up hu;obtain⟨k1,k2,k3⟩:=h.disk.wrote hr g.bytes g.down hB hb hf (by rw[g.recs,he];exact hl) (by rw[g.recs,he];exact hn) hs;unfold ZS;rw[hd]
 cases hc:x.s.d.cut with
 | false =>
  obtain⟨m1,m2,m3,m4,m5⟩:=k2 hc;rw[if_pos m1];refine⟨k1,λ _=>⟨?_,?_,m4⟩,λ h=>absurd rfl h⟩
  ·rw[m2,Zcd,g.recs,he]
  ·rw[m2];exact m3
 | true =>
  have m1:=k3 hc;rw[if_neg ZO];exact⟨k1,λ h=>by simp at h,λ _=>rfl⟩
theorem NodeInv.state(h:NodeInv c r B b x)(hr:r<5)(hs:b+1+2*tot B.made<=1000):NodeInv c r B (b+1) (Zc7 r x).1:=by
 unfold Zc7 Zfj;by_cases hu:x.s.up=true
 ·simp only[if_pos hu];have g:=h.up hu;have hl:=h.log hu;have hlen:=hl.len;have uL:=hl.sent;have uC:=hl.az r;have pY:=Zc5 (B:=B.made) hr;obtain⟨k1,k2,k3⟩:=h.wrote (s1:=x.s) hu rfl hr (B':=B) (Bd.le.refl B) (Nat.le_succ b) (ZlS (r:=r) (s:=x.s) hr ZO hl.ok ZO) (log:=x.s.log) (sent:=x.s.sent) (by simp[Zas,ZbG]) hl ZO hs;refine⟨k1,λ jL=>?_⟩;by_cases h0:(ZS x.s (ZbG r x.s)).2=0
  ·obtain⟨m1,m2,m3⟩:=k2 h0;obtain⟨e1,e2,e3,e4,e5,e6⟩:=ZcF x.s (ZbG r x.s);exact⟨m3,m2,by rw[m1,e1,e2],by rw[e4,e1];exact g.clk,by rw[e6,e2,e1];exact g.wait,by rw[e3,e1];exact g.book,by rw[e5];exact g.held,by rw[e5];exact g.hlen⟩
  ·have:=k3 h0;rw[this] at jL
   cases jL
 ·simp only[if_neg hu];exact h.more (Bd.le.refl B) (Nat.le_succ b)
theorem NodeInv.bg(h:NodeInv c r B b x):ownN r (Zc7 r x).1=ownN r x:=by
 unfold ownN Zc7;by_cases hu:x.s.up=true
 ·simp only[if_pos hu];refine Zgz ?_;rw[(h.up hu).recs];simp[Zas,ZbG]
 ·simp only[if_neg hu]
end
end
section
def Zep(c:Cfg)(r:Nat)(x:PN)(kind:Nat)(key:ByteArray)(label:Nat)(value:ByteArray):PN × Nat :=
 (⟨(ZdZ c r x.s kind key label value).1,if x.s.up=true/\Zco c.l c.p (listN x.s.book) kind key label value=0/\x.s.wait.length<c.q then ZaY x.s.d x.rs (Zae r (madeEv r x.s kind key label value)) else x.rs⟩,(ZdZ c r x.s kind key label value).2)
def Zhu(r:Nat)(x:PN)(upto:Nat):PN × Nat :=
 (⟨(Zc9 r x.s upto).1,if ZaU r x.s upto=x.s.sent then x.rs else ZaY x.s.d x.rs (ZaD r (ZaU r x.s upto))⟩,(Zc9 r x.s upto).2)
def Zhq(c:Cfg)(r:Nat)(x:PN)(l:List Ev):PN × Nat :=
 (⟨(Zc8 c r x.s l).1,if c.h<(Zdg x.s.clk (x.s.held++l)).length∨(drained x.s.clk (x.s.held++l)).1=[] then x.rs else ZaY x.s.d x.rs (ZaN r (drained x.s.clk (x.s.held++l)).1)⟩,(Zc8 c r x.s l).2)
def Zbf(c:Cfg)(r:Nat)(x:PN)(f:Frm):PN × Nat :=
 if x.s.up=true then(if f.kind=2 then Zhu r x f.upto else Zhq c r x f.events) else(x,18)
theorem Zmp(c:Cfg)(r:Nat)(x:PN)(f:Frm):((Zbf c r x f).1.s,(Zbf c r x f).2)=Zb5 c r x.s f:=by
 unfold Zbf Zb5;split
 ·split <;> rfl
 ·rfl
structure Edited(c:Cfg)(r:Nat)(B:Bd)(b:Nat)(x x':PN)(B':Bd):Prop where
 le:B.le B'
 hub:B'.hub=B.hub
 same:∀ i,i≠r->B'.made i=B.made i
 tot:tot B'.made<=tot B.made+1
 inv:NodeInv c r B' b x'
 own:B.made r=ownN r x->B'.made r=ownN r x'
section
variable {c:Cfg}{r b:Nat}{B:Bd}{x:PN}{kind label:Nat}{key value:ByteArray}
theorem Edited.no(h:NodeInv c r B b x):Edited c r B b x x B:=⟨Bd.le.refl B,rfl,λ _ _=>rfl,Nat.le_succ _,h,λ h=>h⟩
theorem NodeInv.clk(h:NodeInv c r B b x)(hu:x.s.up=true)(i:Nat):x.s.clk.get i=cnt i x.s.log:=by rw[(h.up hu).clk];exact ZjP (h.log hu).r5 i
theorem NodeInv.aJ(h:NodeInv c r B b x)(hu:x.s.up=true):x.s.wait.length=cnt r x.s.log-x.s.sent:=by rw[(h.up hu).wait];exact(h.log hu).aX
theorem ZrF{i:Nat}{l:List Ev}(h:∀ e∈l,e.r<5)(hi:¬ i<5):cnt i l=0:=by
 unfold cnt byR;rw[List.length_eq_zero_iff,List.filter_eq_nil_iff];intro e he;have:=h e he;simp;omega
theorem NodeInv.made(h:NodeInv c r B b x)(hu:x.s.up=true)(hr:r<5)(hb:tot B.made<=100)(he:EditOk kind key label value):(madeEv r x.s kind key label value).Ok:=by
 have hl:=h.log hu;have h1:=hl.az;have h2:ZdO x.s.log x.s.clk<=tot B.made+1:=Nat.succ_le_succ (ZmZ λ e he=>(hl.all e he).high);have h3:x.s.clk.get r<=100:=by rw[h.clk hu];exact ZT (h1 r) (ZT (Zc5 hr) hb)
 refine⟨hr,by simp[madeEv],by simp[madeEv];omega,by simp[madeEv,ZdO],by simp[madeEv];omega,λ i=>?_,rfl,he⟩;simp only[madeEv];rw[h.clk hu];by_cases hi:i<5
 ·have:=h1 i;have:=Zc5 (B:=B.made) hi;omega
 ·have:=ZrF hl.r5 hi;omega
theorem NodeInv.edit(h:NodeInv c r B b x)(hr:r<c.n)(hc:c.n<=5)(hb:tot B.made<=100)(hs:b<=700)(he:EditOk kind key label value):∃ B',Edited c r B b x (Zep c r x kind key label value).1 B':=by
 have eC:r<5:=ZO;unfold Zep ZdZ;by_cases hu:x.s.up=true
 ·by_cases hk:Zco c.l c.p (listN x.s.book) kind key label value=0
  ·by_cases hw:x.s.wait.length<c.q
   ·simp only[hu,hk,hw,and_self,if_true];have g:=h.up hu;have hl:=h.log hu;have eO:=h.made hu eC hb he;obtain⟨e,qq⟩:∃ e,e=madeEv r x.s kind key label value:=⟨_,rfl⟩;rw[←qq] at eO ⊢;have e1:e.r=r:=by rw[qq];rfl
    have e2:e.n=cnt r x.s.log+1:=by rw[qq,←h.clk hu];rfl
    have e3:e.ctx.le x.s.clk=true:=by rw[qq];exact Clk.bc _
    have e4:e.height<=tot B.made+1:=by rw[qq];exact Nat.succ_le_succ (ZmZ λ e he=>(hl.all e he).high)
    have e5:e.n=x.s.clk.get e.r+1:=by rw[qq];rfl
    have e6:∀ j,j≠r->e.ctx.get j<=B.hub j:=λ j hj=>by
     have:e.ctx.get j=x.s.clk.get j:=by rw[qq];rfl
     rw[this,h.clk hu];exact hl.bo hj
    have uC:=hl.az r;have uL:=hl.sent;have xj:=h.aJ hu;have gG:=Zrg (B:=B) eC;have hg:EvG c (B.aO r) e:=⟨eO,ZO,by rw[e1,e2];unfold Bd.aO;simp only[if_true];omega,ZO,λ j hj=>e6 j (by rw[←e1];exact hj)⟩;have pP:LogInv c r (B.aO r) (x.s.log++[e]) x.s.sent:=hl.own (Zhs B r) hg e1 e2 ZO;obtain⟨k1,k2,k3⟩:=h.wrote (s1:=x.s) hu rfl eC (Zhs B r) (ZL b) (f:=Zae r e) (ZiH eC eO) (log:=x.s.log++[e]) (sent:=x.s.sent) (by simp[Zas,Zae]) pP ZP ZO;have eQ:NodeInv c r (B.aO r) b ⟨(if (ZS x.s (Zae r e)).2=0 then(ZiI (ZS x.s (Zae r e)).1 e,0) else ZS x.s (Zae r e)).1,ZaY x.s.d x.rs (Zae r e)⟩:=by
     refine⟨?_,λ jL=>?_⟩
     ·simp only;split
      ·exact k1
      ·exact k1
     ·by_cases h0:(ZS x.s (Zae r e)).2=0
      ·obtain⟨m1,m2,m3⟩:=k2 h0;obtain⟨q1,q2,q3,q4,q5,q6⟩:=ZcF x.s (Zae r e);simp only[if_pos h0,ZiI,ZcR];rw[q1,q2,q3,q4,q5,q6,ZhJ eO.r e5 e3];refine⟨m3,m2,m1,?_,?_,?_,λ y hy=>(g.held y hy).more (Zhs B r),g.hlen⟩
       ·simp only[Zf0];rw[g.clk]
       ·simp only;rw[ZeV,if_pos (by simp[e1,e2];omega),←g.wait]
       ·simp only[List.foldl_append,List.foldl_cons,List.foldl_nil];rw[g.book]
      ·simp only[if_neg h0] at jL;rw[k3 h0] at jL
       cases jL
    by_cases iQ:ZaY x.s.d x.rs (Zae r e)=x.rs
    ·
     refine⟨B,Bd.le.refl B,rfl,λ _ _=>rfl,Nat.le_succ _,?_,λ ho=>by unfold ownN at ho ⊢;simp only;rw[iQ];exact ho⟩;have dz:(ZS x.s (Zae r e)).2≠0:=λ h0=>by
      obtain⟨m1,_,_⟩:=k2 h0;rw[iQ,g.recs] at m1;injection m1 with m1;have:=congrArg List.length m1;simp at this
     refine⟨?_,λ jL=>?_⟩
     ·simp only[if_neg dz];rw[iQ];have hd:=eQ.disk;simp only[if_neg dz] at hd;rw[iQ] at hd;exact⟨hd.rows,h.disk.ok,h.disk.inv,h.disk.len⟩
     ·simp only[if_neg dz] at jL;rw[k3 dz] at jL
      cases jL
    ·refine⟨B.aO r,Zhs B r,rfl,λ i hi=>by unfold Bd.aO;simp[hi],ZO,eQ,λ ho=>?_⟩;have hw:ZaY x.s.d x.rs (Zae r e)=x.rs++[Zae r e]:=by
      unfold ZaY at iQ ⊢;rw[if_neg (by rw[g.down];simp)] at iQ ⊢;split
      ·split
       ·rfl
       ·rename_i h1 h2;rw[if_pos h1,if_neg h2] at iQ;exact absurd rfl iQ
      ·rfl
     unfold ownN at ho ⊢;have eh:Zas (x.s.log,x.s.sent) (Zae r e)=(x.s.log++[e],x.s.sent):=by simp[Zas,Zae]
     simp only;rw[hw,Zcd,g.recs,eh];rw[g.recs] at ho;simp only at ho;simp only[Bd.aO,if_true];rw[ho,Zie,if_pos e1]
   ·simp only[hu,hk,hw,and_false,if_true,if_false];exact⟨B,Edited.no h⟩
  ·simp only[hu,hk,false_and,and_false,if_true,if_false];exact⟨B,Edited.no h⟩
 ·simp only[hu];exact⟨B,Edited.no h⟩
theorem NodeInv.aI(h:NodeInv c r B b x)(hu:x.s.up=true)(hr:r<5)(hb:tot B.made<=100)(hs:b<=700){u:Nat}(huh:u<=B.hub r):NodeInv c r B b (Zhu r x u).1/\ownN r (Zhu r x u).1=ownN r x:=by
 unfold Zhu Zc9;by_cases hq:ZaU r x.s u=x.s.sent
 ·simp only[if_pos hq];exact⟨h,trivial⟩
 ·simp only[if_neg hq];have g:=h.up hu;have hl:=h.log hu;have eX:=h.clk hu r;obtain⟨v,hv⟩:∃ v,v=ZaU r x.s u:=⟨_,rfl⟩;rw[←hv] at hq ⊢;have uC:=hl.az r;have uL:=hl.sent;have pY:=Zc5 (B:=B.made) hr;have i6:=hl.sentH;have h1:x.s.sent<=v:=by rw[hv];unfold ZaU;omega
  have h2:v<=cnt r x.s.log:=by rw[hv];unfold ZaU;omega
  have h3:v<=B.hub r:=by rw[hv];unfold ZaU;omega
  have pP:=hl.told h1 h2 h3;obtain⟨k1,k2,k3⟩:=h.wrote (s1:=x.s) hu rfl hr (B':=B) (Bd.le.refl B) (ZL _) (f:=ZaD r v) (Zm4 hr ZO) (log:=x.s.log) (sent:=v) (by simp[Zas,ZaD]) pP ZO ZO;refine⟨⟨?_,λ jL=>?_⟩,?_⟩
  ·simp only;split
   ·exact k1
   ·exact k1
  ·by_cases h0:(ZS x.s (ZaD r v)).2=0
   ·obtain⟨m1,m2,m3⟩:=k2 h0;obtain⟨q1,q2,q3,q4,q5,q6⟩:=ZcF x.s (ZaD r v);simp only[if_pos h0];refine⟨m3,m2,by rw[m1];simp only[q1],by simp only[q4,q1];exact g.clk,?_,by simp only[q3,q1];exact g.book,by simp only[q5];exact g.held,by simp only[q5];exact g.hlen⟩;simp only[q1];rw[pP.wait,g.wait,hl.wait,List.drop_drop];congr 1;omega
   ·simp only[if_neg h0] at jL;rw[k3 h0] at jL
    cases jL
  ·unfold ownN;refine Zgz ?_;simp[Zas,ZaD]
theorem NodeInv.events(h:NodeInv c r B b x)(hu:x.s.up=true)(hr:r<5)(hc:c.h<=20)(hb:tot B.made<=100)(hs:b<=700){l:List Ev}(hl:∀ e∈l,EvH c r B e):NodeInv c r B b (Zhq c r x l).1/\ownN r (Zhq c r x l).1=ownN r x:=by
 have g:=h.up hu;have pQ:=h.log hu;have eK:∀ e∈x.s.held++l,EvH c r B e:=λ e he=>by
  rcases List.mem_append.1 he with he | he
  ·exact g.held e he
  ·exact hl e he
 obtain⟨B7,iW⟩:=ZgB x.s.clk (x.s.held++l);have yv:∀ e∈Zdg x.s.clk (x.s.held++l),EvH c r B e:=λ e he=>eK e (ZnK he)
 unfold Zhq Zc8;by_cases ho:c.h<(Zdg x.s.clk (x.s.held++l)).length
 ·simp only[ho,true_or,if_true];exact⟨h,trivial⟩
 ·by_cases hn:(drained x.s.clk (x.s.held++l)).1=[]
  ·simp only[ho,hn,or_true,if_true];rw[hn] at B7;have eX:(drained x.s.clk (x.s.held++l)).2.2=x.s.clk:=B7;exact⟨⟨h.disk,λ _=>⟨g.down,g.bytes,g.recs,by simp only[ZcM];rw[eX];exact g.clk,g.wait,g.book,yv,ZT (Nat.not_lt.1 ho) hc⟩⟩,rfl⟩
  ·simp only[ho,hn,or_self,if_false];obtain⟨m,hm⟩:∃ m,m=(drained x.s.clk (x.s.held++l)).1:=⟨_,rfl⟩;rw[←hm] at hn B7 iW ⊢;rw[g.clk] at B7;have pP:=Chain.log pQ B7 λ e he=>eK e (iW e he)
   have eL:0<m.length:=List.length_pos_iff.2 hn;have yz:=pP.len;rw[ZI] at yz;have fX:byR r m=[]:=by
    unfold byR;rw[List.filter_eq_nil_iff];intro e he;have:=(eK e (iW e he)).ne;simpa using this
   obtain⟨k1,k2,k3⟩:=h.wrote (s1:=ZcM x.s l) hu rfl hr (B':=B) (Bd.le.refl B) (ZL _) (f:=ZaN r m) (Zm6 hr (λ e he=>(eK e (iW e he)).good.ok) ZO) (log:=x.s.log++m) (sent:=x.s.sent) (by simp[Zas,ZaN]) pP (by rw[ZI];omega) ZO;refine⟨⟨?_,λ jL=>?_⟩,?_⟩
   ·simp only;split
    ·exact k1
    ·exact k1
   ·by_cases h0:(ZS (ZcM x.s l) (ZaN r m)).2=0
    ·obtain⟨m1,m2,m3⟩:=k2 h0;obtain⟨q1,q2,q3,q4,q5,q6⟩:=ZcF (ZcM x.s l) (ZaN r m);simp only[if_pos h0,ZcR];refine⟨m3,m2,by rw[m1];simp only[q1,q2];rfl,?_,?_,?_,by simp only[q5];exact yv,by simp only[q5];exact ZT (Nat.not_lt.1 ho) hc⟩
     ·simp only[q4,q1];simp only[ZcM];rw[ZkZ,B7.clk,g.clk]
     ·simp only[q6,q2,q1];simp only[ZcM];rw[pP.wait,g.wait,pQ.wait,Ziw,fX,List.append_nil]
     ·simp only[q3,q1];simp only[ZcM];rw[g.book,List.foldl_append]
    ·simp only[if_neg h0] at jL;rw[k3 h0] at jL
     cases jL
   ·unfold ownN;refine Zgz ?_;rw[g.recs];simp only[Zas,ZaN,cnt];simp[Ziw,fX]
end
end
section
def shLen(x:Sh):Nat:=x.base+x.kept.length
def lensOf(sh:List Sh):List Nat:=sh.map shLen
def hubLen(sh:List Sh)(i:Nat):Nat:=(lensOf sh).getD i 0
theorem Zg1{sh:List Sh}{i:Nat}{x:Sh}(h:sh[i]? = some x):hubLen sh i=shLen x:=by
 unfold hubLen lensOf;rw[List.getD_eq_getElem?_getD,List.getElem?_map,h];rfl
theorem Zig(told:List Clk)(sh:List Sh):∀ k,lensOf (ZaE sh told k)=lensOf sh
 | 0=>rfl
 | k+1=>by
  unfold ZaE;split
  ·rename_i x hx;unfold lensOf;rw[List.map_set];have h1:=(Ze8 told k x).1;have h2:shLen (cutSh told k x)=shLen x:=h1;rw[h2];have h3:(List.map shLen (ZaE sh told k))[k]? = some (shLen x):=by rw[List.getElem?_map,hx];rfl
   rw[Zgo h3];exact Zig told sh k
  ·exact Zig told sh k
theorem ZgN{told:List Clk}{sh:List Sh}:∀ {k i:Nat} {x:Sh},i<k->sh[i]? = some x->(ZaE sh told k)[i]? = some (cutSh told i x)
 | 0,i,x,h,_=>ZO
 | k+1,i,x,h,hx=>by
  have hk:=ZfX sh told k k (ZL _);unfold ZaE;by_cases hi:i=k
  ·subst hi;rw[hk,hx];simp only[];rw[List.getElem?_set_self (by rw[ZcO];exact(ZZ.1 hx).1)]
  ·have ih:=ZgN (told:=told) (k:=k) (i:=i) ZO hx;split
   ·rw[List.getElem?_set_ne ZO];exact ih
   ·exact ih
theorem ZjS(told:List Clk)(s:Nat)(x:Sh):cutSh told s (cutSh told s x)=cutSh told s x:=by
 obtain⟨h2,h3⟩:=Ze8 told s x;have e:Zbo (cutSh told s x).base (cutSh told s x).kept.length (Zbw told s)=(cutSh told s x).base:=by
  show max (cutSh told s x).base (min (Zbw told s) ((cutSh told s x).base+(cutSh told s x).kept.length))=_
  rw[h2];show max (max x.base (min (Zbw told s) (x.base+x.kept.length))) (min (Zbw told s) (x.base+x.kept.length))=max x.base (min (Zbw told s) (x.base+x.kept.length))
  omega
 show(⟨Zbo (cutSh told s x).base (cutSh told s x).kept.length (Zbw told s),(cutSh told s x).kept.drop (Zbo (cutSh told s x).base (cutSh told s x).kept.length (Zbw told s)-(cutSh told s x).base)⟩:Sh)=_
 rw[e,Nat.sub_self,List.drop_zero]
theorem Znd{told:List Clk}{sh:List Sh}(h:∀ i x,sh[i]? = some x->cutSh told i x=x):ZaE sh told sh.length=sh:=by
 apply List.ext_getElem?;intro i
 cases hx:sh[i]? with
 | none=>rw[List.getElem?_eq_none_iff] at hx ⊢;rw[ZcO];exact hx
 | some x=>rw[ZgN (ZZ.1 hx).1 hx,h i x hx]
theorem ZlT{K:Nat}:∀ {l:List Nat},(∀ x∈l,x<=K)->l.sum<=l.length*K
 | [],_=>ZM
 | x::l,h=>by
  have ih:=ZlT (l:=l) λ y hy=>h y (List.mem_cons_of_mem _ hy)
  have h1:=h x ZM;simp only[List.sum_cons,List.length_cons,Nat.add_mul,Nat.one_mul];omega
theorem ZjK:∀ {l:List Nat} {i a:Nat} (b:Nat),l[i]? = some a->(l.set i b).sum+a=l.sum+b
 | [],i,a,b,h=>by simp at h
 | x::l,0,a,b,h=>by
  simp at h;subst h;simp only[ZB,List.sum_cons];omega
 | x::l,i+1,a,b,h=>by
  have ih:=ZjK (l:=l) (i:=i) b (by simpa using h);simp only[ZC,List.sum_cons];omega
def clkSum(c:Clk):Nat:=c.c0+c.c1+c.c2+c.c3+c.c4
theorem ZoO{c:Clk}{B:Nat->Nat}(h:∀ i,c.get i<=B i):clkSum c<=tot B:=by
 have h0:=h 0;have h1:=h 1;have h2:=h 2;have h3:=h 3;have h4:=h 4;simp only[Clk.get] at h0 h1 h2 h3 h4;unfold clkSum tot;omega
theorem Zee(a b:Clk)(i:Nat):(a.join b).get i=max (a.get i) (b.get i):=by
 by_cases h:i<5
 ·exact Zqp a b h
 ·rw[Clk.aq _ ZO,Clk.aq _ ZO,Clk.aq _ ZO];rfl
theorem Zl6{a b:Clk}(h:a.join b≠a):clkSum a<clkSum (a.join b):=by
 have h0:=Zee a b 0;have h1:=Zee a b 1;have h2:=Zee a b 2;have h3:=Zee a b 3;have h4:=Zee a b 4;obtain⟨j,hj⟩:∃ j,j=a.join b:=⟨_,rfl⟩;rw[←hj] at h h0 h1 h2 h3 h4 ⊢;obtain⟨a0,a1,a2,a3,a4⟩:=a;obtain⟨b0,b1,b2,b3,b4⟩:=b;obtain⟨j0,j1,j2,j3,j4⟩:=j;simp only[Clk.get] at h0 h1 h2 h3 h4;have:¬ (j0=a0/\j1=a1/\j2=a2/\j3=a3/\j4=a4):=λ⟨k0,k1,k2,k3,k4⟩=>h (by rw[k0,k1,k2,k3,k4])
 unfold clkSum;simp only;omega
structure ShG(c:Cfg)(i:Nat)(B:Bd)(x:Sh):Prop where
 all:∀ e∈x.kept,EvG c B e/\e.r=i
 row:From1 (x.base+1) x.kept
 len:x.kept.length<=c.w
 hub:shLen x<=B.hub i
 made:shLen x<=B.made i
section
variable {c:Cfg}{i:Nat}{B B':Bd}{x:Sh}
theorem ShG.more(h:ShG c i B x)(hB:B.le B'):ShG c i B' x:=⟨λ e he=>⟨(h.all e he).1.more hB,(h.all e he).2⟩,h.row,h.len,ZT h.hub (hB.hub i),ZT h.made (hB.made i)⟩
theorem ShG.cut(h:ShG c i B x)(told:List Clk)(s:Nat):ShG c i B (cutSh told s x):=by
 have h1:x.base<=Zbo x.base x.kept.length (Zbw told s):=Nat.le_max_left _ _;obtain⟨h2,h3⟩:=Ze8 told s x;refine⟨λ e he=>h.all e (List.mem_of_mem_drop he),?_,ZT h3 h.len,ZT (Nat.le_of_eq h2) h.hub,ZT (Nat.le_of_eq h2) h.made⟩;have:=h.row.drop (Zbo x.base x.kept.length (Zbw told s)-x.base);unfold cutSh;simp only;rwa [show x.base+1+(Zbo x.base x.kept.length (Zbw told s)-x.base)=Zbo x.base x.kept.length (Zbw told s)+1 by omega] at this
theorem ShG.num(h:ShG c i B x){e:Ev}(he:e∈x.kept):e.n<=shLen x:=by
 have:=h.row.mem he;unfold shLen;omega
end
structure PostInv(c:Cfg)(B:Bd)(st:PostSt):Prop where
 len:st.1.length=c.n
 len2:st.2.length=c.n
 sh:∀ i x,st.1[i]? = some x->ShG c i B x
 told:∀ y∈st.2,∀ i,y.get i<=B.made i
 cut:∀ i x,st.1[i]? = some x->cutSh st.2 i x=x
section
variable {c:Cfg}{B B':Bd}{st:PostSt}
theorem PostInv.more(h:PostInv c B st)(hB:B.le B'):PostInv c B' st:=⟨h.len,h.len2,λ i x hx=>(h.sh i x hx).more hB,λ y hy i=>ZT (h.told y hy i) (hB.made i),h.cut⟩
theorem ZcY{B:Bd}(hb:tot B.made<=100){i:Nat}(hi:i<5):B.made i<=100:=ZT (Zc5 hi) hb
theorem PostInv.ok(h:PostInv c B st)(hc:c.Ok)(hb:tot B.made<=100):PostOk c.n c.w st:=by
 refine⟨h.len,h.len2,λ s hs=>?_,λ y hy i=>?_⟩
 ·obtain⟨i,hi,rfl⟩:=List.getElem_of_mem hs;have g:=h.sh i _ (ZX hi);have h1:=g.made;have h2:=ZcY hb (i:=i) (by have:=h.len;have:=hc.n5;omega);unfold shLen at h1;exact⟨g.len,ZO⟩
 ·by_cases hi:i<5
  ·have:=h.told y hy i;have:=ZcY hb hi;omega
  ·rw[Clk.aq _ ZO];omega
theorem PostInv.init(c:Cfg)(B:Bd):PostInv c B (initSt c):=by
 refine⟨by simp[initSt],by simp[initSt],λ i x hx=>?_,λ y hy i=>?_,λ i x hx=>?_⟩
 ·have hm:=ZY hx;simp[initSt] at hm;rw[hm.2];exact⟨ZM,λ i e h=>by simp at h,ZM,by simp[shLen],by simp[shLen]⟩
 ·simp[initSt] at hy;rw[hy.2,ZbW];omega
 ·have hm:=ZY hx;simp[initSt] at hm;rw[hm.2];simp[cutSh,Zbo]
theorem PostInv.put{r:Nat}{l:List Ev}{x:Sh}(h:PostInv c B st)(hx:st.1[r]? = some x)(he:∀ e∈l,EvG c B e/\e.r=r){n0:Nat}(hf:From1 n0 l)(hn:n0<=shLen x+1):
  ((Z1 c.w x.base x.kept l).1=0->∃ y,y=(⟨x.base,(Z1 c.w x.base x.kept l).2⟩:Sh)/\(∀ e∈y.kept,EvG c B e/\e.r=r)/\From1 (y.base+1) y.kept/\y.kept.length<=c.w/\shLen y<=B.made r/\shLen x<=shLen y):=by
 have g:=h.sh r x hx;intro _;refine⟨_,rfl,?_⟩;unfold Z1;simp only[];have e1:=Zf8 hf (x.base+x.kept.length);unfold shLen at hn;split
 ·exact⟨g.all,g.row,g.len,g.made,ZL _⟩
 ·split
  ·exact⟨g.all,g.row,g.len,g.made,ZL _⟩
  ·rename_i hz hw;rw[e1] at hz hw ⊢;have hd:=hf.drop (x.base+x.kept.length+1-n0);rw[show n0+(x.base+x.kept.length+1-n0)=x.base+1+x.kept.length by omega] at hd;have cB:From1 (x.base+1) (x.kept++l.drop (x.base+x.kept.length+1-n0)):=by
    intro i e hi;rw[List.getElem?_append] at hi;split at hi
    ·exact g.row i e hi
    ·have:=hd _ e hi;omega
   have eK:∀ e∈x.kept++l.drop (x.base+x.kept.length+1-n0),EvG c B e/\e.r=r:=λ e hi=>by
    rcases List.mem_append.1 hi with hi | hi
    ·exact g.all e hi
    ·exact he e (List.mem_of_mem_drop hi)
   refine⟨eK,cB,by simp only[ZI] at hw ⊢;omega,?_,by unfold shLen;simp only[ZI];omega⟩;obtain⟨d,wv⟩:∃ d,d=l.drop (x.base+x.kept.length+1-n0):=⟨_,rfl⟩;rw[←wv] at hz hd eK ⊢;have ce:d.length-1<d.length:=ZO;have hl:=hd _ _ (ZX ce);obtain⟨h1,h2⟩:=eK _ (List.mem_append_right x.kept (List.getElem_mem ce));have h3:=h1.num;rw[h2] at h3;unfold shLen;simp only[ZI];omega
end
theorem ZiL{sh:List Sh}{r:Nat}{c:Clk}:∀ {k:Nat} {e:Ev},e∈Zak sh r c k↔∃ i s,i<k/\i≠r/\sh[i]? = some s/\e∈s.kept/\c.get i<e.n
 | 0,e=>by simp[Zak]
 | k+1,e=>by
  have ih:=ZiL (sh:=sh) (r:=r) (c:=c) (k:=k) (e:=e);unfold Zak;rw[List.mem_append,ih];constructor
  ·rintro(⟨i,s,h1,h2⟩ | h)
   ·exact⟨i,s,ZO,h2⟩
   ·split at h
    ·rename_i s hs;split at h
     ·simp at h
     ·rename_i hk;simp only[ZaW,List.mem_filter,decide_eq_true_eq] at h;exact⟨k,s,ZO,hk,hs,h.1,h.2⟩
    ·simp at h
  ·rintro⟨i,s,h1,h2,h3,h4,h5⟩;by_cases hi:i<k
   ·exact .inl ⟨i,s,hi,h2,h3,h4,h5⟩
   ·have:i=k:=ZO;subst this;refine .inr ?_;rw[h3];simp only[if_neg h2,ZaW,List.mem_filter,decide_eq_true_eq];exact⟨h4,h5⟩
end
section
structure PH where
 s:HubSt
 rs:List Frm
def repl(c:Cfg)(rs:List Frm):PostSt:=ZbH c.w (initSt c) rs
theorem ZlJ(c:Cfg)(rs:List Frm)(f:Frm):repl c (rs++[f])=ZbO c.w (repl c rs) f:=by simp[repl,ZbH]
theorem ReplayOk.snoc{N most:Nat}:∀ {rs:List Frm} {st:PostSt} {f:Frm},ReplayOk N most st rs->NextOk (ZbH most st rs) f->PostOk N most (ZbO most (ZbH most st rs) f)->ReplayOk N most st (rs++[f])
 | [],_,_,h,h1,h2=>⟨h,h1,h2⟩
 | _::rs,_,_,h,h1,h2=>⟨h.1,h.2.1,ReplayOk.snoc (rs:=rs) h.2.2 h1 h2⟩
structure HubInv(c:Cfg)(B:Bd)(x:PH):Prop where
 rows:Rows x.s.d.bytes x.rs
 ok:∀ f∈x.rs,RecOk f
 rep:ReplayOk c.n c.w (initSt c) x.rs
 inv:PostInv c B (repl c x.rs)
 len:x.rs.length<=(lensOf (repl c x.rs).1).sum+((repl c x.rs).2.map clkSum).sum
 hub:∀ i,B.hub i=hubLen (repl c x.rs).1 i
 up:x.s.up=true->x.s.d.down=false/\x.s.d.bytes=recsBytes x.rs/\repl c x.rs=(x.s.sh,x.s.told)
structure HubFrm(c:Cfg)(B:Bd)(f:Frm):Prop where
 ok:f.Ok
 r:f.r<c.n
 kind:f.kind=1∨f.kind=3∨f.kind=5
 evs:f.kind=1->(∀ e∈f.events,EvG c B e)/\∃ n0,From1 n0 f.events/\n0<=B.hub f.r+1
 clk:∀ i,f.clock.get i<=B.made i
structure NodeFrm(c:Cfg)(B:Bd)(to:Nat)(f:Frm):Prop where
 ok:f.Ok
 n:to<c.n
 kind:f.kind=2∨f.kind=4
 upto:f.upto<=B.hub to
 evs:∀ e∈f.events,EvH c to B e
 to:f.r=to
theorem HubFrm.more{c:Cfg}{B B':Bd}{f:Frm}(h:HubFrm c B f)(hB:B.le B'):HubFrm c B' f :=
 ⟨h.ok,h.r,h.kind,λ hk=>⟨λ e he=>((h.evs hk).1 e he).more hB,(h.evs hk).2.elim λ n0 hn=>⟨n0,hn.1,ZT hn.2 (Nat.succ_le_succ (hB.hub _))⟩⟩,λ i=>ZT (h.clk i) (hB.made i)⟩
theorem NodeFrm.more{c:Cfg}{B B':Bd}{to:Nat}{f:Frm}(h:NodeFrm c B to f)(hB:B.le B'):NodeFrm c B' to f :=
 ⟨h.ok,h.n,h.kind,ZT h.upto (hB.hub _),λ e he=>(h.evs e he).more hB,h.to⟩
def Zde(x:PH):PH:=⟨{ x.s with up:=false,d:=x.s.d.aF },x.rs⟩
def Znl(x:PH)(keep:Int):PH:=⟨{ x.s with d:=x.s.d.aQ keep },x.rs⟩
def ZlR(c:Cfg)(x:PH):PH:=⟨⟨true,⟨recsBytes x.rs,false,false,x.s.d.keep⟩,(repl c x.rs).1,(repl c x.rs).2⟩,x.rs⟩
def ZbZ(c:Cfg)(x:PH):PH × Nat:=if x.s.up=true then(x,19) else(ZlR c x,0)
def Zlt(c:Cfg):PH:=⟨⟨true,Dk.new,(initSt c).1,(initSt c).2⟩,[]⟩
def Zfp(c:Cfg)(x:PH)(f:Frm):List Frm :=
 if x.s.up=false then x.rs
 else if f.kind=1 then
  if (Z7 c.w f.r f.events x.s.sh x.s.told).2.1≠0 then x.rs
  else if (Z7 c.w f.r f.events x.s.sh x.s.told).1=(lenOf x.s.sh).get f.r then x.rs
  else ZaY x.s.d x.rs (ZaC f)
 else if f.kind=3 then x.rs
 else if (Z9 x.s.told f).getD f.r ZCz=x.s.told.getD f.r ZCz then x.rs
 else ZaY x.s.d x.rs (Zav f)
def Zr(c:Cfg)(x:PH)(f:Frm):PH × Option (Nat × Frm) × Nat:=(⟨(Zax c x.s f).1,Zfp c x f⟩,(Zax c x.s f).2)
section
variable {c:Cfg}{B B':Bd}{x:PH}
theorem ZiG{f:Sh->Nat}{sh:List Sh}:∀ {k i:Nat},k<=5->k<=sh.length->(ZbQ f sh k).get i=if i<k then((sh.map f).getD i 0) else 0
 | 0,i,_,_=>by simp[ZbQ,ZbW]
 | k+1,i,h5,hk=>by
  have ih:=ZiG (f:=f) (sh:=sh) (k:=k) (i:=i) ZO ZO;unfold ZbQ;by_cases hi:i=k
  ·subst hi;rw[Clk.aD _ ZO,if_pos ZO,List.getD_eq_getElem?_getD,List.getElem?_map,ZX ZO];rfl
  ·rw[Clk.aB _ (λ h=>hi h.symm),ih];by_cases h2:i<k
   ·rw[if_pos h2,if_pos ZO]
   ·rw[if_neg h2,if_neg ZO]
theorem Zo9{sh:List Sh}(h:sh.length<=5)(i:Nat):(lenOf sh).get i=hubLen sh i:=by
 unfold lenOf;rw[ZiG h (ZL _)];split
 ·rfl
 ·unfold hubLen lensOf;rw[List.getD_eq_getElem?_getD,List.getElem?_eq_none ZP];rfl
theorem PostInv.bM{st:PostSt}(h:PostInv c B st)(hc:c.Ok)(hb:tot B.made<=100):(lensOf st.1).sum<=500/\(st.2.map clkSum).sum<=500:=by
 have h5:=hc.n5;constructor
 ·have:=ZlT (l:=lensOf st.1) (K:=100) (λ y hy=>by
   unfold lensOf at hy;obtain⟨s,hs,rfl⟩:=List.mem_map.1 hy;obtain⟨i,hi,rfl⟩:=List.getElem_of_mem hs
   exact ZT (h.sh i _ (ZX hi)).made (ZcY hb (by have:=h.len;omega)))
  have hl:(lensOf st.1).length=c.n:=by unfold lensOf;rw[List.length_map];exact h.len
  rw[hl] at this;omega
 ·have:=ZlT (l:=st.2.map clkSum) (K:=100) (λ y hy=>by
   obtain⟨s,hs,rfl⟩:=List.mem_map.1 hy
   exact ZT (ZoO (h.told s hs)) hb)
  rw[List.length_map,h.len2] at this;omega
theorem HubInv.bi(h:HubInv c B x)(hc:c.Ok)(hb:tot B.made<=100):x.rs.length<=1000:=by
 have h1:=h.len;obtain⟨h2,h3⟩:=h.inv.bM hc hb;omega
theorem HubInv.more(h:HubInv c B x)(hB:B.le B')(hh:B'.hub=B.hub):HubInv c B' x:=⟨h.rows,h.ok,h.rep,h.inv.more hB,h.len,by rw[hh];exact h.hub,h.up⟩
theorem HubInv.new{B:Bd}(hB:∀ i,B.hub i=0):HubInv c B (Zlt c) :=
 ⟨Zgm,by simp[Zlt],ZmW c,PostInv.init c B,by simp[Zlt],λ i=>by
  rw[hB];unfold hubLen lensOf repl Zlt ZbH;simp only[List.foldl_nil,initSt,List.map_replicate,List.getD_eq_getElem?_getD,List.getElem?_replicate]
  split <;> rfl,λ _=>⟨rfl,rfl,rfl⟩⟩
theorem HubInv.aF(h:HubInv c B x):HubInv c B (Zde x):=⟨h.rows,h.ok,h.rep,h.inv,h.len,h.hub,λ hu=>by simp[Zde] at hu⟩
theorem HubInv.cut(h:HubInv c B x)(keep:Int):HubInv c B (Znl x keep):=⟨h.rows,h.ok,h.rep,h.inv,h.len,h.hub,λ hu=>h.up hu⟩
theorem HubInv.started(h:HubInv c B x)(hc:c.Ok)(hb:tot B.made<=100):HubInv c B (ZlR c x) :=
 ⟨Rows.whole h.ok (h.bi hc hb),h.ok,h.rep,h.inv,h.len,h.hub,λ _=>⟨rfl,rfl,rfl⟩⟩
theorem HubInv.start(h:HubInv c B x)(hc:c.Ok)(hb:tot B.made<=100):HubInv c B (ZbZ c x).1:=by
 unfold ZbZ;split
 ·exact h
 ·exact h.started hc hb
theorem HubInv.wrote(h:HubInv c B x)(hu:x.s.up=true)(hc:c.Ok)(hb:tot B.made<=100)(hB:B.le B')(hm:B'.made=B.made){f:Frm}(hf:RecOk f){st:PostSt}(ed:st=ZbO c.w (x.s.sh,x.s.told) f)(hn:NextOk (x.s.sh,x.s.told) f)(hi:PostInv c B' st)(hh:∀ i,B'.hub i=hubLen st.1 i)
  (hs:(lensOf x.s.sh).sum+(x.s.told.map clkSum).sum+1<=(lensOf st.1).sum+(st.2.map clkSum).sum) {up:Bool} (dJ:up=true->(x.s.d.write (recBytes f)).2=0) :
  ∃ GZ,B.le GZ/\GZ.made=B.made/\HubInv c GZ ⟨⟨up,(x.s.d.write (recBytes f)).1,st.1,st.2⟩,ZaY x.s.d x.rs f⟩/\(up=true->GZ=B'):=by
 obtain⟨g1,g2,g3⟩:=h.up hu;have hl:=h.len;rw[g3] at hl;have fm:repl c (x.rs++[f])=st:=by rw[ZlJ,g3,ed]
 have eO:∀ y∈x.rs++[f],RecOk y:=λ y hy=>by
  rcases List.mem_append.1 hy with hy | hy
  ·exact h.ok y hy
  ·simp at hy;subst hy;exact hf
 have j9:tot B'.made<=100:=by rw[hm];exact hb
 have hlen:(x.rs++[f]).length<=(lensOf st.1).sum+(st.2.map clkSum).sum:=by rw[ZI,List.length_singleton];simp only at hl;omega
 have h3:(x.rs++[f]).length<=1000:=by
  obtain⟨h2,h3⟩:=hi.bM hc j9;omega
 have wV:ReplayOk c.n c.w (initSt c) (x.rs++[f]):=h.rep.snoc (by show NextOk (repl c x.rs) f;rw[g3];exact hn) (by show PostOk c.n c.w (ZbO c.w (repl c x.rs) f);rw[g3,←ed];exact hi.ok hc j9);have gh:∀ (s:HubSt),s.d.bytes=recsBytes (x.rs++[f])->(s.up=true->s.d.down=false/\(s.sh,s.told)=st)->HubInv c B' ⟨s,x.rs++[f]⟩:=λ s jF jk =>
  ⟨by simp only;rw[jF];exact Rows.whole eO h3,eO,wV,by simp only;rw[fm];exact hi,by simp only;rw[fm];exact hlen,by simp only;rw[fm];exact hh,λ hu=>⟨(jk hu).1,jF,by simp only;rw[fm,(jk hu).2]⟩⟩
 unfold Dk.write ZaY at *;simp only[g1,Bool.false_eq_true,if_false] at dJ ⊢
 cases fB:x.s.d.cut with
 | false =>
  simp only[Bool.false_eq_true,if_false];exact⟨B',hB,hm,gh _ (by simp[g2,Zgl]) (λ _=>⟨rfl,rfl⟩),λ _=>rfl⟩
 | true =>
  simp only[fB,if_true] at dJ ⊢;have MB:up=false:=by
   cases up with
   | false=>rfl
   | true=>exact absurd (dJ rfl) ZM
  subst MB;by_cases hk:(recBytes f).length<=x.s.d.keep.toNat
  ·rw[if_pos hk];exact⟨B',hB,hm,gh _ (by simp[g2,Zgl,ZU hk]) (λ hu=>by cases hu),λ hu=>by cases hu⟩
  ·rw[if_neg hk];refine⟨B,Bd.le.refl B,rfl,⟨?_,h.ok,h.rep,h.inv,h.len,h.hub,λ hu=>by cases hu⟩,λ hu=>by cases hu⟩;simp only[g2];exact Rows.of h.ok (h.bi hc hb) hf ZO
structure HubTook(c:Cfg)(B:Bd)(o:PH × Option (Nat × Frm) × Nat)(B':Bd):Prop where
 le:B.le B'
 made:B'.made=B.made
 inv:HubInv c B' o.1
 reply:∀ to g,o.2.1=some (to,g)->NodeFrm c B' to g/\o.2.2=0
theorem HubInv.bj(h:HubInv c B x)(hu:x.s.up=true){f:Frm}(hf:HubFrm c B f)(hk:f.kind=1):NextOk (x.s.sh,x.s.told) ⟨5,f.r,0,ZCz,f.events⟩:=by
 obtain⟨g1,g2,g3⟩:=h.up hu;have hl:=h.inv.len;rw[g3] at hl;obtain⟨n0,fJ,qB⟩:=(hf.evs hk).2;have hr:=hf.r;have ce:f.r<x.s.sh.length:=by simp only at hl;omega
 refine⟨ce,.inl rfl,λ _=>⟨n0,_,ZX ce,fJ,?_,(hf.ok.push hk).2⟩⟩;have h2:=h.hub f.r;rw[g3,Zg1 (ZX ce)] at h2;rw[h2] at qB;exact qB
end
end
end Go.Proofs.YtjkfognelhiepaaGreat
