import Derived.Test.YtjkfognelhiepaaGreatR10
namespace Go.Proofs.YtjkfognelhiepaaGreat
open Go.RowKit _root_.Go.Proofs.Tryz
open Value renaming slice→S_,int→I_,bool→B_,string→T_,pointer→P_
open IntKind renaming i64→J_
open Obj renaming cells→C_
open Ending renaming returned→R_
set_option maxRecDepth 100000
set_option maxHeartbeats 8000000
variable{B:Bd}{c:Cfg}{cs:Array Value}{d:Dk}{f:Frm}{i p r t:Nat}{l:List Ev}{rs:List Frm}{sh:List Sh}{v:Value}{w:World}
structure Rows(l:List Nat)(rs:List Frm):Prop where
 ok:∀f∈rs,RecOk f
 len:rs.length<=1000000
 big:l.length<=100000000
 is_:∃f0 m,RecOk f0/\m<(recBytes f0).length/\l=recsBytes rs++(recBytes f0).take m
theorem ZsR(hr:∀f∈rs,RecOk f)(h:recsBytes rs=[]):rs=[]:=by
 cases rs with
 |nil=>rfl
 |cons f rs =>
  have hl:=Zby (hr f ZM);have:=congrArg List.length h;simp only[recsBytes,List.flatMap_cons,ZI,List.length_nil]at this;omega
theorem Zh7{l:List Nat}{B:Nat}(hv:w.ownsRow B 5 1 v l.length (cells l))(h:Rows l rs):
  Calls prog 82 #[v] w λr w'=>∃v' ps,r=R_ (.tuple #[v',I_ J_ (recsBytes rs).length])/\RecRows w.heap.size w' v' rs ps/\L_ w w':=by
 obtain⟨f0,m,h0,hm,hl⟩:=h.is_;rcases hv.2 with ⟨rfl,Vi⟩|⟨g,cap,cur,rfl,_⟩
 ·have oV:l=[]:=List.length_eq_zero_iff.1 Vi;rw[oV]at hl;have hr:recsBytes rs=[]:=(List.append_eq_nil_iff.1 hl.symm).1;have i7:=ZsR h.ok hr;subst i7;refine(ZsD w).mono ?_;rintro _ w' ⟨rfl,hb⟩;exact⟨_,[],rfl,⟨rfl,⟨rfl,.inl ⟨rfl,rfl⟩⟩,λp hp=>by simp at hp⟩,hb⟩
 ·obtain⟨a',c',h1,hb⟩:=Bytes.ae hv;injection h1 with h1 _ h3;subst h1 h3;exact Zua hb h.big rs h.ok h.len f0 h0 m hm hl
theorem RecRows.keep{base pj:Nat}{w':World}{ps:List (Frm×Value)}(h:RecRows base w v rs ps)(hk:∀g,base<=g->g<w.heap.size->w'.heap[g]? = w.heap[g]?)(hb:pj<=base):RecRows pj w' v rs ps :=
 ⟨h.is_,Zj (Zi h.row λg hg hl=>hk g (Zb h.row hg).1 hl) hb,λp hp=>Zj (Zi (h.evs p hp) λg hg hl=>hk g (Zb (h.evs p hp) hg).1 hl) hb⟩
theorem ZlU(hb:Blk w p 124 cs)(hc:cs[1]? = some (P_ none)):
  Calls prog 86 #[P_ (some ⟨p,0,none⟩)] w λr w'=>∃w1,r=R_ (P_ (some ⟨w.heap.size,0,none⟩))/\Blk w1 w.heap.size 233 (diskArr (S_ none 0 0) false false 0)/\L_ w w1/\w'=w1.setCell ⟨p,1,none⟩ (P_ (some ⟨w.heap.size,0,none⟩)):=by
 have c1:=hb.cell 1;rw[hc]at c1;have cI:=hb.lt;obtain⟨HB,HC⟩:=ZH2 hb hc;clear hb hc;go_enter func86,ntmps86;go_wp2_with fail;refine(Zmw w).mono ?_;rintro _ w1 ⟨rfl,nz,cz⟩;have dm:=HB.out.ob cz;have c1:=dm.cell 1;have f1:=dm.frozen 1;rw[HC.out]at c1;have jE:=dm.lt;have jG:∀v,(w1.setCell ⟨p,1,none⟩ v).cell? ⟨p,1,none⟩=some v:=λv=>World.cell?_setCell_same _ _ _ c1
 obtain⟨rW,dj⟩:=ZH2 nz cz;clear dm nz cz;go_wp2
 go_ret;exact⟨w1,rfl,rW.out,dj.out,rfl⟩
theorem ZlT{own:Own}{td:Nat}(hb:Blk w p 124 cs)(hm:own p=t)(hf:Fresh own w)(hd:(∃dp,cs[1]? = some (P_ (some ⟨dp,0,none⟩))/\DiskAt own td w dp d)∨(cs[1]? = some (P_ none)/\d=Dk.new)):
  Calls prog 86 #[P_ (some ⟨p,0,none⟩)] w λr w'=>∃own' dp,r=R_ (P_ (some ⟨dp,0,none⟩))/\Blk w' p 124 (cs.setIfInBounds 1 (P_ (some ⟨dp,0,none⟩)))/\DiskAt own' td w' dp d/\Upd (λm=>m=t∨m=td) own own' w w':=by
 rcases hd with ⟨dp,hc,hd⟩|⟨hc,rfl⟩
 ·have c1:=hb.cell 1;rw[hc]at c1;refine((Zf7 c1)).mono ?_;rintro _ w' ⟨rfl,cW⟩;have hu:Upd (λ_=>False) own own w w':=ZUb cW hf;have fG:cs.setIfInBounds 1 (P_ (some ⟨dp,0,none⟩))=cs:=by
   apply Array.ext_getElem?;intro j;rw[Array.getElem?_setIfInBounds];split
   ·rename_i h;subst h;rw[hc];split
    ·rfl
    ·rename_i h;rw[Array.getElem?_eq_none ZO]at hc
     cases hc
   ·rfl
  exact⟨own,dp,rfl,by rw[fG];exact hb.ob cW,hd.upd hu (λh=>h),hu.mono (λ_ h=>h.elim)⟩
 ·refine(ZlU hb hc).mono ?_;rintro _ w' ⟨w1,rfl,nz,cz,rfl⟩;have gx:=hb.lt;have hu:Upd (λm=>m=t∨m=td) own own w (w1.setCell ⟨p,1,none⟩ (P_ (some ⟨w.heap.size,0,none⟩))):=(ZUb cz hf).setCell (p:=⟨p,1,none⟩) (λ_ => .inl hm) _;have dR:w.heap.size≠p:=ZO;have jM:=nz.far (p:=⟨p,1,none⟩) dR (P_ (some ⟨w.heap.size,0,none⟩));refine⟨own.at_ w.heap.size td,w.heap.size,rfl,(hb.ob cz).aj 1 _,⟨by simp[Own.at_],_,jM,RowB.nil _ _ _⟩,hu.az (ZL _) jM.lt td⟩
theorem ZkC(hb:Blk w p 133 cs)(hc:cs[8]? = some (P_ none)):
  Calls prog 79 #[P_ (some ⟨p,0,none⟩)] w λr w'=>∃w1,r=R_ (P_ (some ⟨w.heap.size,0,none⟩))/\Blk w1 w.heap.size 233 (diskArr (S_ none 0 0) false false 0)/\L_ w w1/\w'=w1.setCell ⟨p,8,none⟩ (P_ (some ⟨w.heap.size,0,none⟩)):=by
 have c1:=hb.cell 8;rw[hc]at c1;have cI:=hb.lt;obtain⟨HB,HC⟩:=ZH2 hb hc;clear hb hc;go_enter func79,ntmps79;go_wp2_with fail;refine(Zmw w).mono ?_;rintro _ w1 ⟨rfl,nz,cz⟩;have dm:=HB.out.ob cz;have c1:=dm.cell 8;have f1:=dm.frozen 8;rw[HC.out]at c1;have jE:=dm.lt;have jG:∀v,(w1.setCell ⟨p,8,none⟩ v).cell? ⟨p,8,none⟩=some v:=λv=>World.cell?_setCell_same _ _ _ c1
 obtain⟨rW,dj⟩:=ZH2 nz cz;clear dm nz cz;go_wp2
 go_ret;exact⟨w1,rfl,rW.out,dj.out,rfl⟩
theorem ZkB{own:Own}{td:Nat}(hb:Blk w p 133 cs)(hm:own p=t)(hf:Fresh own w)(hd:(∃dp,cs[8]? = some (P_ (some ⟨dp,0,none⟩))/\DiskAt own td w dp d)∨(cs[8]? = some (P_ none)/\d=Dk.new)):
  Calls prog 79 #[P_ (some ⟨p,0,none⟩)] w λr w'=>∃own' dp,r=R_ (P_ (some ⟨dp,0,none⟩))/\Blk w' p 133 (cs.setIfInBounds 8 (P_ (some ⟨dp,0,none⟩)))/\DiskAt own' td w' dp d/\Upd (λm=>m=t∨m=td) own own' w w':=by
 rcases hd with ⟨dp,hc,hd⟩|⟨hc,rfl⟩
 ·have c1:=hb.cell 8;rw[hc]at c1;refine((Zfl c1)).mono ?_;rintro _ w' ⟨rfl,cW⟩;have hu:Upd (λ_=>False) own own w w':=ZUb cW hf;have fG:cs.setIfInBounds 8 (P_ (some ⟨dp,0,none⟩))=cs:=by
   apply Array.ext_getElem?;intro j;rw[Array.getElem?_setIfInBounds];split
   ·rename_i h;subst h;rw[hc];split
    ·rfl
    ·rename_i h;rw[Array.getElem?_eq_none ZO]at hc
     cases hc
   ·rfl
  exact⟨own,dp,rfl,by rw[fG];exact hb.ob cW,hd.upd hu (λh=>h),hu.mono (λ_ h=>h.elim)⟩
 ·refine(ZkC hb hc).mono ?_;rintro _ w' ⟨w1,rfl,nz,cz,rfl⟩;have gx:=hb.lt;have hu:Upd (λm=>m=t∨m=td) own own w (w1.setCell ⟨p,8,none⟩ (P_ (some ⟨w.heap.size,0,none⟩))):=(ZUb cz hf).setCell (p:=⟨p,8,none⟩) (λ_ => .inl hm) _;have dR:w.heap.size≠p:=ZO;have jM:=nz.far (p:=⟨p,8,none⟩) dR (P_ (some ⟨w.heap.size,0,none⟩));refine⟨own.at_ w.heap.size td,w.heap.size,rfl,(hb.ob cz).aj 8 _,⟨by simp[Own.at_],_,jM,RowB.nil _ _ _⟩,hu.az (ZL _) jM.lt td⟩
theorem ZmS{own:Own}{td:Nat}(hb:Blk w p 124 cs)(hm:own p=t)(hf:Fresh own w)(hd:(∃dp,cs[1]? = some (P_ (some ⟨dp,0,none⟩))/\DiskAt own td w dp d)∨(cs[1]? = some (P_ none)/\d=Dk.new))(hr:Rows d.bytes rs)(ht:td≠0)(vH:t≠td):
  Calls prog 88 #[P_ (some ⟨p,0,none⟩)] w λr w'=>∃own' v ps dp,r=R_ v/\RecRows w.heap.size w' v rs ps/\Blk w' p 124 (cs.setIfInBounds 1 (P_ (some ⟨dp,0,none⟩)))/\DiskAt own' td w' dp ⟨recsBytes rs,false,false,d.keep⟩/\Upd (λm=>m=t∨m=td) own own' w w'/\(∀g,v.ownBlock=some g->own' g=0)/\(∀x∈ps,∀g,x.2.ownBlock=some g->own' g=0):=by
 have MG:=ZH (ZlT hb hm hf hd);have gx:=hb.lt;obtain⟨HR,HM⟩:=ZH2 hr hm;clear hb hm hf hd hr;go_enter func88,ntmps88;go_wp2_with fail;refine MG.out.mono ?_;rintro _ w1 ⟨cZ,dp,rfl,cz,nz,cN⟩;have lZ:Hid (cZ p=t):=ZH ((cN.old p gx).trans HM.out);obtain⟨gc,dA,dj⟩:=ZH3 (ZjH nz cN.fresh) cN cz;clear cN nz cz;go_wp2_with fail;refine gc.out.mono ?_;rintro _ w2 ⟨rfl,jM,cM⟩;have BT:=ZjG jM (by have:=HR.out.big;simp only[Dk.start];omega);have oE:¬cZ p=td:=by rw[lZ.out];exact vH
 obtain⟨df,dC,rj,KR⟩:=ZH4 (dj.out.upd cM oE) (dA.out.trans (cM.mono (T':=λm=>m=t∨m=td) (λ_ h => .inr h))) jM BT;clear jM cM BT oE;go_wp2_with fail;refine KR.out.mono ?_;rintro _ w3 ⟨v3,rfl,fd,cG⟩;obtain⟨AB,ew,jx,dN⟩:=ZH4 (Zh7 fd HR.out) (dC.out.kept cG) (rj.out.upd (ZUb (T:=λ_=>False) cG dC.out.fresh) (λh=>h)) (df.out.ob cG);obtain⟨a3,c3,rfl⟩:=Zl fd;clear fd cG;go_wp2_with fail;refine AB.out.mono ?_;rintro _ w4 ⟨v4,ps,rfl,mO,cS⟩;have ei:=ew.out.kept cS;have m7:=jx.out.upd (ZUb (T:=λ_=>False) cS ew.out.fresh) (λh=>h);have eE:(recsBytes rs).length<=d.start.bytes.length:=by
  obtain⟨f0,m,_,_,hl⟩:=HR.out.is_;simp only[Dk.start];rw[hl,ZI];omega
 have pV:=Zk0 m7 ei.fresh eE (by have:=HR.out.big;simp only[Dk.start];omega);have gy:=ZH (dN.out.ob cS);obtain⟨a4,c4,rfl⟩:=Zl mO.row;obtain⟨gj,pg,xr,pi,rk⟩:=ZH5 ei pV mO ew.out.size m7;clear mO cS ei m7 pV eE;go_wp2_with fail;refine pg.out.mono ?_;rintro _ w5 ⟨rfl,kg,iD⟩;have xZ:d.start.trim (recsBytes rs).length=⟨recsBytes rs,false,false,d.keep⟩:=by
  obtain⟨f0,m,_,_,hl⟩:=HR.out.is_;simp only[Dk.start,Dk.trim,hl,List.take_left]
 rw[xZ]at kg
 have sS:RecRows w.heap.size w5 (S_ a4 rs.length c4) rs ps:=xr.out.keep (λg h1 h2=>iD.same g h2 (λh=>by
  rw[ew.out.fresh g h1]at h
  exact ht h.symm)) pi.out
 have dH:=gy.out.upd iD (by rw[lZ.out];exact vH);go_wp2
 go_ret;exact⟨cZ,_,ps,dp,rfl,sS,dH,kg,gj.out.trans (iD.mono (λ_ h => .inr h)),λg hg=>ew.out.fresh g (Zb xr.out.row hg).1,λx hx g hg=>ew.out.fresh g (Zb (xr.out.evs x hx) hg).1⟩
structure HubRun(own:Own)(t:Nat)(w0:World)(own0:Own)(p dp pp:Nat)(c:Cfg)(d:Dk)(st:PostSt)(v:Value)(rs:List Frm)(ps:List (Frm×Value))(w:World):Prop where
 blk:Blk w p 124 (hubStArr false (P_ (some ⟨dp,0,none⟩)) c (P_ (some ⟨pp,0,none⟩)))
 disk:DiskAt own (t+1) w dp d
 post:PostAt own (t+10) w pp c.w st.1 st.2
 recs:RecLoose own w v rs ps
 upd:Upd (HubT t) own0 own w0 w
 mine:own p=t
section
variable {own own' own0:Own}{t p dp pp:Nat}{w0 w w':World}{c:Cfg}{d:Dk}{st:PostSt}{v:Value}{rs:List Frm}{ps:List (Frm×Value)}
theorem HubRun.kept(h:HubRun own t w0 own0 p dp pp c d st v rs ps w)(hb:L_ w w'):HubRun own t w0 own0 p dp pp c d st v rs ps w':=by
 have hu:Upd (λ_=>False) own own w w':=ZUb hb h.upd.fresh;exact⟨h.blk.ob hb,h.disk.upd hu (λh=>h),h.post.upd hu (λ_ _ h=>h),h.recs.upd hu (λh=>h),h.upd.kept hb,h.mine⟩
theorem HubRun.aN(h:HubRun own t w0 own0 p dp pp c d st v rs ps w){st':PostSt}{T:Nat->Prop}(hu:Upd T own own' w w')(hT:∀n,T n->t+10<=n/\n<t+50)(hp:PostAt own' (t+10) w' pp c.w st'.1 st'.2)(ht:0<t):HubRun own' t w0 own0 p dp pp c d st' v rs ps w' :=
 ⟨h.blk.upd hu (λhh=>by have:=hT _ hh;rw[h.mine]at this;omega),h.disk.upd hu (λhh=>by have:=hT _ hh;omega),hp,h.recs.upd hu (λhh=>by have:=hT _ hh;omega),h.upd.trans (hu.mono (λn hn=>by have:=hT n hn;exact⟨ZO,ZO⟩)),by rw[hu.old p h.blk.lt];exact h.mine⟩
end
theorem Zk7{own:Own}{dv pv:Value}(ht:0<t)(hm:own p=t)(hb:Blk w p 124 (hubStArr false dv c pv))(hf:Fresh own w)(hd:(∃dp,dv=P_ (some ⟨dp,0,none⟩)/\DiskAt own (t+1) w dp d)∨(dv=P_ none/\d=Dk.new))(hc:c.Ok)(hr:Rows d.bytes rs)(fT:ReplayOk c.n c.w (initSt c) rs):
  Calls prog 47 #[P_ (some ⟨p,0,none⟩)] w λr w'=>r=R_ (I_ J_ 0)/\∃own',HubAt own' t w' p c true ⟨recsBytes rs,false,false,d.keep⟩ (ZbN c.w (initSt c) rs).1 (ZbN c.w (initSt c) rs).2/\Upd (HubT t) own own' w w':=by
 obtain⟨c0,c1,c2,c3,c4,c5,c6,c7,c8⟩:=hb.am;have cI:=hb.lt;obtain⟨Uz,HB,HF,HD,HR,lJ,HM,HC⟩:=ZH8 (Zsx (t:=t+10) c hc hf) hb hf hd hr fT hm hc;clear hb hf hd hr fT hm hc;go_enter func47,ntmps47;go_wp2_with fail;refine Uz.out.mono ?_;rintro _ w1 ⟨pp,cZ,rfl,iu,kS,cN⟩;have oC:cZ p=t:=(cN.old p cI).trans HM.out;have cz:=HB.out.upd cN (by rw[HM.out];omega);have nz:(∃dp,dv=P_ (some ⟨dp,0,none⟩)/\DiskAt cZ (t+1) w1 dp d)∨(dv=P_ none/\d=Dk.new):=by
  rcases HD.out with ⟨dp,h1,h2⟩|h
  ·exact .inl ⟨dp,h1,h2.upd cN ZO⟩
  ·exact .inr h
 have e8:=cz.cell 8;have f8:=cz.frozen 8;have jE:=cz.lt;simp only[ZD,ZE,ZG]at e8;have cM:Upd (· = t) cZ cZ w1 (w1.setCell ⟨p,8,none⟩ (P_ (some ⟨pp,0,none⟩))):=(Upd.refl (· = t) cZ w1 cN.fresh).setCell (p:=⟨p,8,none⟩) (λ_=>oC) _;have cD:Blk (w1.setCell ⟨p,8,none⟩ (P_ (some ⟨pp,0,none⟩))) p 124 (hubStArr false dv c (P_ (some ⟨pp,0,none⟩))):=cz.aj 8 _;have oE:=kS.upd cM (λi _=>ZO);have jM:(∃dp,dv=P_ (some ⟨dp,0,none⟩)/\DiskAt cZ (t+1) (w1.setCell ⟨p,8,none⟩ (P_ (some ⟨pp,0,none⟩))) dp d)∨(dv=P_ none/\d=Dk.new):=by
  rcases nz with ⟨dp,h1,h2⟩|h
  ·exact .inl ⟨dp,h1,h2.upd cM ZO⟩
  ·exact .inr h
 have Sb:=ZmS (t:=t) (td:=t+1) cD oC cM.fresh (by
  rcases jM with ⟨dp,h1,h2⟩|⟨h1,h2⟩
  ·exact .inl ⟨dp,by rw[h1];rfl,h2⟩
  ·exact .inr ⟨by rw[h1];rfl,h2⟩) HR.out ZO ZO
 have dC:Hid (Upd (HubT t) own cZ w (w1.setCell ⟨p,8,none⟩ (P_ (some ⟨pp,0,none⟩)))):=ZH ((cN.mono (λn h=>⟨ZO,ZO⟩)).trans (cM.mono (λn h=>⟨ZO,ZO⟩)));obtain⟨tf,Uo,rq⟩:=ZH3 oE Sb oC;clear kS cN cz nz cM cD oE jM Sb oC iu c0 c1 c2 c3 c4 c5 c6 c7 c8;go_wp2_with fail;refine Uo.out.mono ?_;rintro _ w3 ⟨eL,v3,ps,dp,rfl,mO,cG,iM,de,vM,tu⟩;have sK:eL p=t:=(de.old p (by simpa [World.setCell] using jE)).trans rq.out;have gO:=tf.out.upd de (λi _=>ZO);have kT:RecLoose eL w3 v3 rs ps:=⟨⟨mO.is_,Zj mO.row (Nat.zero_le _),λx hx=>Zj (mO.evs x hx) (Nat.zero_le _)⟩,vM,tu⟩;have kI:Hid (HubRun eL t w own p dp pp c ⟨recsBytes rs,false,false,d.keep⟩ (initSt c) v3 rs ps w3):=ZH (⟨cG,iM,gO,kT,dC.out.trans (de.mono (λn h=>⟨ZO,ZO⟩)),sK⟩);obtain⟨a3,dK,rfl⟩:=Zl mO.row;have Pc:=HR.out.len;clear mO cG iM de vM tu sK gO kT e8 f8 jE;go_wp2_with fail;go_loopw [23] (λi wr=>∃(q:Nat) (dY:Own),q<=rs.length/\i=I_ J_ q/\Hid (HubRun dY t w own p dp pp c ⟨recsBytes rs,false,false,d.keep⟩ (ZbN c.w (initSt c) (rs.take q)) (S_ a3 rs.length dK) rs ps wr)) (λi _=>rs.length-(intOf i).toNat)
 case atStart=>exact⟨0,eL,Nat.zero_le _,rfl,kI⟩
 case round =>
  skip
  obtain⟨q,dY,hq,rfl,HH⟩:=hrel;by_cases du:q<rs.length
  ·obtain⟨f,wq⟩:∃f,rs[q]? = some f:=⟨_,ZX du⟩;obtain⟨b,ea,en,cv,sn,C9,cW,eW,kj,cB⟩:=HH.out.recs.at_ wq;injection C9 with C9 _ Kw;subst C9 Kw;have k0:=cB 0 ZO;have k1:=cB 1 ZO;have k2:=cB 2 ZO;have k3:=cB 3 ZO;have k4:=cB 4 ZO;have k5:=cB 5 ZO;have k6:=cB 6 ZO;have k7:=cB 7 ZO;have k8:=cB 8 ZO;simp only[ZD,ZE,ZG,Nat.add_zero]at k0 k1 k2 k3 k4 k5 k6 k7 k8;obtain⟨yr,na⟩:=lJ.out.at_ q f wq;obtain⟨xw,E7⟩:=ZH2 (Zna c.w (initSt c) wq) (HR.out.ok f (ZY wq));have fW:=(ZW wr.heap.size wr).alloc (ZL _) (C_ (Za f (S_ ea en sn)) 150);obtain⟨HX,iH,jV,ng,nK,wZ⟩:=ZH6 (ZBn wr 150 (Za f (S_ ea en sn))) (HH.out.kept fW) (eW.below fW) yr na kj;clear cB wq yr na fW eW kj;obtain⟨x0,x1,x2,x3,x4,x5,x6,x7,x8⟩:=HX.out.am;obtain⟨st,eP⟩:∃st,st=ZbN c.w (initSt c) (rs.take q):=⟨_,rfl⟩;rw[←eP]at ng nK xw iH;clear eP x0 x1 x2 x3 x4 x5 x6 x7 x8;rcases nK.out.kind with hk|hk
   focus
    have eM:((f.kind:Int)==5)=true:=by simp[hk]
    have fN:=ZH hk;clear hk;go_wp2_with fail;generalize VE:(wr.alloc (C_ (Za f (S_ ea en sn)) 150))=W at *;refine ZSi [(0,3),(1,0),(2,3),(3,0),(4,3),(5,0),(6,3),(7,0),(8,2)] λcu=>?_
    repeat((first|refine ZSa ?_|refine ZSb ?_|(refine Zf rfl (by rfl) (λw' cL=>by(obtain⟨c0,c1,c2,c3,c4,c5,c6,c7,c8⟩:=(iH.out.blk.ob cL.below).am);(obtain⟨x0,x1,x2,x3,x4,x5,x6,x7,x8⟩:=(HX.out.ob cL.below).am);go_simp;with_reducible rfl) ?_));simp only[Act.put,Q_])
    refine ZSe λK hK=>?_
    go_simp;have fu:=iH.out.kept ((ZW W.heap.size W).drew);obtain⟨n0,x,hx,gM,gi,zG⟩:=nK.out.push fN.out;have Df:=ng.out.kept x (ZY hx);have mW:=HC.out.w4;refine(Zlr fu.post fu.upd.fresh (by rw[ng.out.len];exact HC.out.n5) f.r hx Df.1 ZO (jV.out.below ((ZW W.heap.size W).drew)) (by have:=wZ.out;have:=E7.out.len;omega) n0 gM gi zG).mono ?_;rintro _ w6 ⟨rfl,el,oX,ib⟩;have nE:=nK.out.r;have dz:=fu.aN (st':=ZbG c.w st f) ib (λn hn=>by have:=ng.out.len;have:=HC.out.n5;omega) (by simp only[ZbG,fN.out,if_true];exact oX) ht;have rZ:=ZH dz;refine hK.out _ _ ?_;clear hK K fu hx gM gi zG Df mW oX ib dz nE
   rotate_left
   focus
    have eM:((f.kind:Int)==5)=false:=by simp[hk]
    have tp:((f.kind:Int)==6)=true:=by simp[hk]
    have nd:=ZH hk;clear hk;go_wp2_with fail;generalize VE:(wr.alloc (C_ (Za f (S_ ea en sn)) 150))=W at *;refine ZSi [(0,3),(1,0),(2,3),(3,0),(4,3),(5,0),(6,3),(7,0),(8,2)] λcu=>?_
    repeat((first|refine ZSa ?_|refine ZSb ?_|(refine Zf rfl (by rfl) (λw' cL=>by(obtain⟨c0,c1,c2,c3,c4,c5,c6,c7,c8⟩:=(iH.out.blk.ob cL.below).am);(obtain⟨x0,x1,x2,x3,x4,x5,x6,x7,x8⟩:=(HX.out.ob cL.below).am);go_simp;with_reducible rfl) ?_));simp only[Act.put,Q_])
    refine ZSe λK hK=>?_
    go_simp;have fu:=iH.out.kept ((ZW W.heap.size W).drew);have nE:=nK.out.r;have Iu:f.r<st.2.length:=by rw[ng.out.len2,←ng.out.len];exact nE
    obtain⟨tr,pV⟩:∃tr,st.2[f.r]? = some tr:=⟨_,ZX Iu⟩;have gH:=ng.out.told tr (ZY pV);refine(ZmZ fu.post fu.upd.fresh (by rw[ng.out.len];exact HC.out.n5) f.r nE f.clock (λi=>by have:=E7.out.clock i;omega) pV (λi=>by have:=gH i;omega) (λs hs=>by have:=ng.out.kept s hs;have:=HC.out.w4;omega)).mono ?_;rintro _ w6 ⟨rfl,el,oX,ib⟩;have rD:st.2.getD f.r ZCz=tr:=by simp[List.getD,pV]
    have dz:=fu.aN (st':=ZbG c.w st f) ib (λn hn=>by have:=ng.out.len;have:=HC.out.n5;omega) (by simp only[ZbG,nd.out,rD];exact oX) ht;have rZ:=ZH dz;refine hK.out _ _ ?_;clear hK K fu pV gH rD oX ib dz nE Iu
   rotate_left
   all_goals
    refine ZSf ?_;go_wp2
    go_roundw
    case rel=>exact⟨q+1,el,ZO,ZN,by rw[xw.out];exact rZ⟩
    case measure=>simp[intOf];omega
  ·obtain rfl:q=rs.length:=ZO;rw[List.take_length]at HH;obtain⟨c0,c1,c2,c3,c4,c5,c6,c7,c8⟩:=HH.out.blk.am;have f0:=HH.out.blk.frozen 0;have jD:=HH.out.blk.lt;have yr:=lJ.out.end_;go_wp2
   go_ret;have dE:Upd (· = t) dY dY wr (wr.setCell ⟨p,0,none⟩ (B_ true)):=(Upd.refl (· = t) dY wr HH.out.upd.fresh).setCell (p:=⟨p,0,none⟩) (λ_=>HH.out.mine) _;exact⟨rfl,dY,⟨HH.out.mine,yr.len,dp,pp,HH.out.blk.aj 0 _,HH.out.disk.upd dE ZO,HH.out.post.upd dE (λi _=>ZO)⟩,HH.out.upd.trans (dE.mono (λn h=>⟨ZO,ZO⟩))⟩
theorem Zos(c:Cfg):PostOk c.n c.w (initSt c):=by
 refine⟨by simp[initSt],by simp[initSt],λs hs=>?_,λx hx i=>?_⟩
 ·simp only[initSt]at hs;rw[List.eq_of_mem_replicate hs];simp
 ·simp only[initSt]at hx;rw[List.eq_of_mem_replicate hx]
  match i with
  | 0=>simp[ZCz,Clk.get]
  | 1=>simp[ZCz,Clk.get]
  | 2=>simp[ZCz,Clk.get]
  | 3=>simp[ZCz,Clk.get]
  | 4=>simp[ZCz,Clk.get]
  |n+5=>rw[Clk.aC _ ZO];omega
theorem Zhe:Rows [] []:=⟨λf h=>by simp at h,ZM,ZM,⟨3,0,0,ZCz,[]⟩,0,ZdV,by have:=(Zby ZdV).2;omega,rfl⟩
theorem ZtW{own:Own}(ht:0<t)(hf:Fresh own w)(hc:c.Ok):
  Calls prog 28 #[Zd1 c] w λr w'=>∃p own',r=R_ (.tuple #[P_ (some ⟨p,0,none⟩),I_ J_ 0])/\w.heap.size<=p/\HubAt own' t w' p c true Dk.new (initSt c).1 (initSt c).2/\Upd (HubT t) own own' w w':=by
 obtain⟨HB,ed,tQ,HF,HC⟩:=ZH5 (ZBn w 23 (cfgArr c)) ((ZKr w).alloc (C_ (cfgArr c) 23)) (Zmx c hc (w.alloc (C_ (cfgArr c) 23))) hf hc;clear hf hc;have eC:=N_
 go_enter func28,ntmps28;go_wp2_with fail;refine tQ.out.mono ?_;rintro _ w1 ⟨rfl,cz⟩;have dm:=HB.out.ob cz;obtain⟨c0,c1,c2,c3,c4,c5⟩:=dm.aR;have jE:=dm.lt;have dI:=ed.out.step cz;have cN:Upd (λ_=>False) own own w w1:=ZUb dI.below HF.out;have cD:Blk (w1.alloc (C_ (hubStArr false (P_ none) c (P_ none)) 124)) w1.heap.size 124 (hubStArr false (P_ none) c (P_ none)):=ZBn _ _ _;have cM:Upd (λ_=>False) own own w (w1.alloc (C_ (hubStArr false (P_ none) c (P_ none)) 124)):=cN.kept ((ZW _ _).alloc (ZL _) _);have de:=cM.az (g:=w1.heap.size) cN.size ZM t;have gc:=ZH (Zk7 (own:=own.at_ w1.heap.size t) ht (by simp[Own.at_]) cD de.fresh (.inr ⟨rfl,rfl⟩) HC.out Zhe (Zos c));have dS:=cN.size;have ew:=ZH de;clear dm cz dI cN cD cM de;go_wp2_with fail;refine gc.out.mono ?_;rintro _ w4 ⟨rfl,dX,hh,ei⟩;go_wp2_with fail;go_ret2
 exact⟨w1.heap.size,dX,rfl,dS,hh,(ew.out.mono (λn h=>h.elim)).trans ei⟩
theorem Zhc(rs:List Frm)(f:Frm):recsBytes (rs++[f])=recsBytes rs++recBytes f:=by simp[recsBytes]
theorem Zb4(rs:List Frm)(f:Frm):nodeRecs (rs++[f])=Zap (nodeRecs rs) f:=by simp[nodeRecs]
theorem Zm9:∀{rs:List Frm},(∀f∈rs,RecOk f)->(recsBytes rs).length<=rs.length*60200
 | [],_=>by simp[recsBytes]
 |f::rs,h=>by
  have ih:=Zm9 (rs:=rs) λx hx=>h x (List.mem_cons_of_mem _ hx)
  have h1:=(Zby (h f ZM)).1;simp only[recsBytes,List.flatMap_cons,ZI,List.length_cons]at ih ⊢;omega
theorem Zub(h:RecOk f):0<(recBytes f).length:=by
 have:=(Zby h).2;omega
theorem Rows.of(h:∀f∈rs,RecOk f)(hl:rs.length<=1000)(hf:RecOk f){m:Nat}(hm:m<(recBytes f).length):Rows (recsBytes rs++(recBytes f).take m) rs:=by
 have h1:=Zm9 h;have h2:=(Zby hf).1;refine⟨h,ZO,?_,f,m,hf,hm,rfl⟩;rw[ZI,ZV];omega
theorem Rows.whole(h:∀f∈rs,RecOk f)(hl:rs.length<=1000):Rows (recsBytes rs) rs:=by
 have h1:RecOk ⟨3,0,0,ZCz,[]⟩:=ZdV;have:=Rows.of h hl h1 (m:=0) (Zub h1);simpa using this
def ZaL(d:Dk)(rs:List Frm)(f:Frm):List Frm :=
 if d.down=true then rs else if d.cut=true then(if (recBytes f).length<=d.keep.toNat then rs++[f] else rs) else rs++[f]
structure DiskInv(c:Cfg)(r:Nat)(B:Bd)(b:Nat)(d:Dk)(rs:List Frm):Prop where
 rows:Rows d.bytes rs
 ok:∀f∈rs,RecOk f
 inv:∀q,LogInv c r B (nodeRecs (rs.take q)).1 (nodeRecs (rs.take q)).2
 len:rs.length<=b+(nodeRecs rs).2+(nodeRecs rs).1.length
section
variable {c:Cfg}{r b b':Nat}{B B':Bd}{d:Dk}{rs:List Frm}
theorem DiskInv.last(h:DiskInv c r B b d rs):LogInv c r B (nodeRecs rs).1 (nodeRecs rs).2:=by
 have:=h.inv rs.length;rwa [List.take_length]at this
theorem DiskInv.more(h:DiskInv c r B b d rs)(hB:B.le B')(hb:b<=b'):DiskInv c r B' b' d rs :=
 ⟨h.rows,h.ok,λq=>(h.inv q).more hB,by have:=h.len;omega⟩
theorem DiskInv.bH(h:DiskInv c r B b d rs)(hr:r<5):rs.length<=b+2*tot B.made:=by
 have h1:=h.len;have h2:=h.last.len;have h3:=h.last.sent;have h4:=h.last.aD r;have h5:=Zde (B:=B.made) hr;omega
theorem DiskInv.same(h:DiskInv c r B b d rs){d':Dk}(hd:d'.bytes=d.bytes):DiskInv c r B b d' rs:=⟨by rw[hd];exact h.rows,h.ok,h.inv,h.len⟩
theorem DiskInv.new(c:Cfg)(r:Nat)(B:Bd)(b:Nat):DiskInv c r B b Dk.new [] :=
 ⟨Zhe,ZM,λq=>by simpa [nodeRecs] using LogInv.nil c r B,ZM⟩
theorem DiskInv.trimmed(h:DiskInv c r B b d rs)(hr:r<5)(hb:b+2*tot B.made<=1000){d':Dk}(hd:d'.bytes=recsBytes rs):DiskInv c r B b d' rs :=
 ⟨by rw[hd];exact Rows.whole h.ok (by have:=h.bH hr;omega),h.ok,h.inv,h.len⟩
theorem DiskInv.snoc(h:DiskInv c r B b d rs)(hr:r<5)(hB:B.le B')(hf:RecOk f)(hl:LogInv c r B' (Zap (nodeRecs rs) f).1 (Zap (nodeRecs rs) f).2)(hn:b+(nodeRecs rs).2+(nodeRecs rs).1.length+1<=b'+(Zap (nodeRecs rs) f).2+(Zap (nodeRecs rs) f).1.length)(hs:b'+2*tot B'.made<=1000){d':Dk}(hd:d'.bytes=recsBytes rs++recBytes f):
  DiskInv c r B' b' d' (rs++[f]):=by
 have hlen:(rs++[f]).length<=b'+(nodeRecs (rs++[f])).2+(nodeRecs (rs++[f])).1.length:=by
  rw[Zb4,ZI];have:=h.len;simp only[List.length_cons,List.length_nil];omega
 have em:∀x∈rs++[f],RecOk x:=λx hx=>by
  rcases List.mem_append.1 hx with hx|hx
  ·exact h.ok x hx
  ·simp at hx;subst hx;exact hf
 have h3:(rs++[f]).length<=1000:=by
  have h2:=hl.len;have h4:=hl.sent;have h5:=hl.aD r;have h6:=Zde (B:=B'.made) hr;rw[Zb4]at hlen;omega
 refine⟨by rw[hd,←Zhc];exact Rows.whole em h3,em,λq=>?_,hlen⟩;by_cases hq:q<=rs.length
 ·rw[List.take_append_of_le_length hq];exact(h.inv q).more hB
 ·rw[ZU ZP,Zb4];exact hl
theorem DiskInv.wrote(h:DiskInv c r B b d rs)(hr:r<5)(hd:d.bytes=recsBytes rs)(hu:d.down=false)(hB:B.le B')(hb:b<=b')(hf:RecOk f)(hl:LogInv c r B' (Zap (nodeRecs rs) f).1 (Zap (nodeRecs rs) f).2)(hn:b+(nodeRecs rs).2+(nodeRecs rs).1.length+1<=b'+(Zap (nodeRecs rs) f).2+(Zap (nodeRecs rs) f).1.length)(hs:b'+2*tot B'.made<=1000):
  DiskInv c r B' b' (d.write (recBytes f)).1 (ZaL d rs f)/\(d.cut=false->(d.write (recBytes f)).2=0/\ZaL d rs f=rs++[f]/\(d.write (recBytes f)).1.bytes=recsBytes (rs++[f])/\(d.write (recBytes f)).1.down=false/\(d.write (recBytes f)).1.cut=false)/\(d.cut=true->(d.write (recBytes f)).2=18):=by
 cases hc:d.cut with
 |false =>
  have e1:d.write (recBytes f)=(⟨d.bytes++recBytes f,false,false,d.keep⟩,0):=by unfold Dk.write;simp[hu,hc]
  have e2:ZaL d rs f=rs++[f]:=by unfold ZaL;simp[hu,hc]
  rw[e1,e2];exact⟨h.snoc hr hB hf hl hn hs (by simp[hd]),λ_=>⟨rfl,rfl,by simp[hd,Zhc],rfl,rfl⟩,λh=>by cases h⟩
 |true =>
  have e1:d.write (recBytes f)=(⟨d.bytes++(recBytes f).take d.keep.toNat,true,false,d.keep⟩,18):=by unfold Dk.write;simp[hu,hc]
  have e2:ZaL d rs f=if (recBytes f).length<=d.keep.toNat then rs++[f] else rs:=by unfold ZaL;simp[hu,hc]
  rw[e1,e2];refine⟨?_,λh=>(by cases h),λ_=>rfl⟩;by_cases hk:(recBytes f).length<=d.keep.toNat
  ·rw[ZPp hk];exact h.snoc hr hB hf hl hn hs (by simp[hd,ZU hk])
  ·rw[ZPn hk];have h':=h.more hB hb;have h3:=h'.bH hr;exact⟨by simp only[hd];exact Rows.of h'.ok ZO hf ZO,h'.ok,h'.inv,h'.len⟩
end
structure PN where
 s:NodeSt
 rs:List Frm
structure UpInv(c:Cfg)(r:Nat)(B:Bd)(s:NodeSt)(rs:List Frm):Prop where
 down:s.d.down=false
 bytes:s.d.bytes=recsBytes rs
 recs:nodeRecs rs=(s.log,s.sent)
 clk:s.clk=clkOf s.log
 wait:s.wait=waitN r s.sent s.log
 book:s.book=s.log.foldl applyN []
 held:∀e∈s.held,EvH c r B e
 hlen:s.held.length<=20
structure NodeInv(c:Cfg)(r:Nat)(B:Bd)(b:Nat)(x:PN):Prop where
 disk:DiskInv c r B b x.s.d x.rs
 up:x.s.up=true->UpInv c r B x.s x.rs
theorem ZhR{K:Nat}:∀(l:List Nat) (a:Nat),a<=K->(∀x∈l,x<=K)->l.foldl max a<=K
 | [],_,h,_=>h
 |x::l,a,h,hl=>ZhR l (max a x) (by have:=hl x ZM;omega) λy hy=>hl y (List.mem_cons_of_mem _ hy)
theorem Zov{c:Clk}{K:Nat}(h:∀e∈l,e.height<=K):maxH c l<=K:=by
 refine ZhR _ 0 (Nat.zero_le _) λx hx=>?_
 obtain⟨e,he,rfl⟩:=List.mem_map.1 hx;exact h e (List.mem_filter.1 he).1
theorem Clk.bu(c:Clk):c.le c=true:=Clk.le_iff.2 λ_ _=>ZL _
theorem ZiG{c:Clk}{e:Ev}(hr:e.r<5)(hn:e.n=c.get e.r+1)(hc:e.ctx.le c=true):drained c [e]=([e],[],c.set e.r (c.get e.r+1)):=by
 have h1:Zak c [e]=[e]:=by
  simp only[Zak,List.foldl_cons,List.foldl_nil,ZcG,ZbR,List.find?_nil,Option.isNone_none,Bool.true_and,List.nil_append];rw[ZPp];simp[Clk.has];omega
 have h2:Zbq c [e]=some e:=by
  refine ZmU hr (λj hj=>?_) ?_
  ·unfold Zcm ZbR;rw[List.find?_cons_of_neg ZP];rfl
  ·unfold Zcm ZbR;rw[List.find?_cons_of_pos (by simp[hn])];simp[hc]
 have h3:ZbY e.r e.n [e]=[]:=by simp[ZbY]
 have h4:∀k,Zbq k []=none:=λk=>ZjU λj _=>rfl
 unfold drained;rw[h1];simp only[List.length_cons,List.length_nil];unfold ZaS;rw[h2];simp only[h3];rw[Zgo (h4 _)];rfl
theorem Zpi{c:Clk}{e:Ev}(h:e∈ZcI c l):e∈l:=by
 unfold ZcI Zcp at h;rcases ZeQ c l [] e (List.mem_filter.1 h).1 with h|h
 ·cases h
 ·exact h
def ZcF(x:PN):PN:=⟨{ x.s with up:=false,d:=x.s.d.aH },x.rs⟩
def ZoT(x:PN)(keep:Int):PN:=⟨{ x.s with d:=x.s.d.aV keep },x.rs⟩
def ZeI(r:Nat)(x:PN):PN:=⟨⟨true,⟨recsBytes x.rs,false,false,x.s.d.keep⟩,(nodeRecs x.rs).1,(nodeRecs x.rs).2,(nodeRecs x.rs).1.foldl applyN [],clkOf (nodeRecs x.rs).1,[],waitN r (nodeRecs x.rs).2 (nodeRecs x.rs).1⟩,x.rs⟩
def ZbI(r:Nat)(x:PN):PN×Nat:=if x.s.up=true then(x,19) else(ZeI r x,0)
def ZcU(r:Nat)(x:PN):PN×Nat:=(⟨(ZfY r x.s).1,if x.s.up=true then ZaL x.s.d x.rs (Zca r x.s) else x.rs⟩,(ZfY r x.s).2)
def Bd.aS(B:Bd)(r:Nat):Bd:=⟨λi=>if i=r then B.made i+1 else B.made i,B.hub⟩
theorem Ziq(B:Bd)(r:Nat):B.le (B.aS r):=⟨λi=>by unfold Bd.aS;simp only;split <;> omega,λ_=>ZL _⟩
theorem Zs7(h:r<5):tot (B.aS r).made=tot B.made+1:=by
 unfold tot Bd.aS;rcases(by omega:r=0∨r=1∨r=2∨r=3∨r=4) with rfl|rfl|rfl|rfl|rfl <;> simp <;> omega
def ownN(r:Nat)(x:PN):Nat:=cnt r (nodeRecs x.rs).1
theorem Zhr(h:cnt r (Zap (nodeRecs rs) f).1=cnt r (nodeRecs rs).1):cnt r (nodeRecs (ZaL d rs f)).1=cnt r (nodeRecs rs).1:=by
 unfold ZaL;split
 ·rfl
 ·split
  ·split
   ·rw[Zb4,h]
   ·rfl
  ·rw[Zb4,h]
section
variable {c:Cfg}{r b b':Nat}{B B':Bd}{x:PN}{s1:NodeSt}
theorem NodeInv.log(h:NodeInv c r B b x)(hu:x.s.up=true):LogInv c r B x.s.log x.s.sent:=by
 have:=h.disk.last;rw[(h.up hu).recs]at this;exact this
theorem NodeInv.more(h:NodeInv c r B b x)(hB:B.le B')(hb:b<=b'):NodeInv c r B' b' x :=
 ⟨h.disk.more hB hb,λhu=>by
  have g:=h.up hu
  exact⟨g.down,g.bytes,g.recs,g.clk,g.wait,g.book,λe he=>(g.held e he).more hB,g.hlen⟩⟩
theorem NodeInv.aH(h:NodeInv c r B b x):NodeInv c r B b (ZcF x):=⟨h.disk.same rfl,λhu=>by simp[ZcF]at hu⟩
theorem NodeInv.cut(h:NodeInv c r B b x)(keep:Int):NodeInv c r B b (ZoT x keep) :=
 ⟨h.disk.same rfl,λhu=>by
  have g:=h.up hu
  exact⟨g.down,g.bytes,g.recs,g.clk,g.wait,g.book,g.held,g.hlen⟩⟩
theorem NodeInv.started(h:NodeInv c r B b x)(hr:r<5)(hb:b+2*tot B.made<=1000):NodeInv c r B b (ZeI r x) :=
 ⟨h.disk.trimmed hr hb rfl,λ_=>⟨rfl,rfl,rfl,rfl,rfl,rfl,by simp[ZeI],by simp[ZeI]⟩⟩
theorem NodeInv.start(h:NodeInv c r B b x)(hr:r<5)(hb:b+2*tot B.made<=1000):NodeInv c r B b (ZbI r x).1:=by
 unfold ZbI;split
 ·exact h
 ·exact h.started hr hb
theorem NodeInv.wrote(h:NodeInv c r B b x)(hu:x.s.up=true)(hd:s1.d=x.s.d)(hr:r<5)(hB:B.le B')(hb:b<=b'){f:Frm}(hf:RecOk f){log:List Ev}{sent:Nat}(he:Zap (x.s.log,x.s.sent) f=(log,sent))(hl:LogInv c r B' log sent)(hn:b+x.s.sent+x.s.log.length+1<=b'+sent+log.length)(hs:b'+2*tot B'.made<=1000):
  DiskInv c r B' b' (Zy s1 f).1.d (ZaL x.s.d x.rs f)/\((Zy s1 f).2=0->nodeRecs (ZaL x.s.d x.rs f)=(log,sent)/\(Zy s1 f).1.d.bytes=recsBytes (ZaL x.s.d x.rs f)/\(Zy s1 f).1.d.down=false)/\((Zy s1 f).2≠0->(Zy s1 f).1.up=false):=by
 have g:=h.up hu;obtain⟨k1,k2,k3⟩:=h.disk.wrote hr g.bytes g.down hB hb hf (by rw[g.recs,he];exact hl) (by rw[g.recs,he];exact hn) hs;unfold Zy;rw[hd]
 cases hc:x.s.d.cut with
 |false =>
  obtain⟨m1,m2,m3,m4,m5⟩:=k2 hc;rw[ZPp m1];refine⟨k1,λ_=>⟨?_,?_,m4⟩,λh=>absurd rfl h⟩
  ·rw[m2,Zb4,g.recs,he]
  ·rw[m2];exact m3
 |true =>
  have m1:=k3 hc;rw[ZPn ZO];exact⟨k1,λh=>by simp at h,λ_=>rfl⟩
theorem NodeInv.state(h:NodeInv c r B b x)(hr:r<5)(hs:b+1+2*tot B.made<=1000):NodeInv c r B (b+1) (ZcU r x).1:=by
 unfold ZcU ZfY;by_cases hu:x.s.up=true
 ·simp only[ZPp hu];have g:=h.up hu;have hl:=h.log hu;have hlen:=hl.len;have vC:=hl.sent;have jZ:=hl.aD r;have pU:=Zde (B:=B.made) hr;obtain⟨k1,k2,k3⟩:=h.wrote (s1:=x.s) hu rfl hr (B':=B) (Bd.le.refl B) (Nat.le_succ b) (Zng (r:=r) (s:=x.s) hr ZO hl.ok ZO) (log:=x.s.log) (sent:=x.s.sent) (by simp[Zap,Zca]) hl ZO hs;refine⟨k1,λkG=>?_⟩;by_cases h0:(Zy x.s (Zca r x.s)).2=0
  ·obtain⟨m1,m2,m3⟩:=k2 h0;obtain⟨e1,e2,e3,e4,e5,e6⟩:=ZbD x.s (Zca r x.s);exact⟨m3,m2,by rw[m1,e1,e2],by rw[e4,e1];exact g.clk,by rw[e6,e2,e1];exact g.wait,by rw[e3,e1];exact g.book,by rw[e5];exact g.held,by rw[e5];exact g.hlen⟩
  ·have:=k3 h0;rw[this]at kG
   cases kG
 ·simp only[ZPn hu];exact h.more (Bd.le.refl B) (Nat.le_succ b)
theorem NodeInv.cd(h:NodeInv c r B b x)(hu:x.s.up=true):ownN r x=cnt r x.s.log:=by unfold ownN;rw[(h.up hu).recs]
theorem NodeInv.bE(h:NodeInv c r B b x):ownN r (ZcU r x).1=ownN r x:=by
 unfold ownN ZcU;by_cases hu:x.s.up=true
 ·simp only[ZPp hu];refine Zhr ?_;rw[(h.up hu).recs];simp[Zap,Zca]
 ·simp only[ZPn hu]
end
def Zbb(c:Cfg)(r:Nat)(x:PN)(kind:Nat)(key:ByteArray)(label:Nat)(value:ByteArray):PN×Nat :=
 (⟨(ZdD c r x.s kind key label value).1,if x.s.up=true/\Zb2 c.l c.p (listN x.s.book) kind key label value=0/\x.s.wait.length<c.q then ZaL x.s.d x.rs (Z7 r (madeEv r x.s kind key label value)) else x.rs⟩,(ZdD c r x.s kind key label value).2)
def ZfC(r:Nat)(x:PN)(upto:Nat):PN×Nat :=
 (⟨(Zdf r x.s upto).1,if ZaP r x.s upto=x.s.sent then x.rs else ZaL x.s.d x.rs (Zay r (ZaP r x.s upto))⟩,(Zdf r x.s upto).2)
def ZfB(c:Cfg)(r:Nat)(x:PN)(l:List Ev):PN×Nat :=
 (⟨(Zdb c r x.s l).1,if c.h<(ZcI x.s.clk (x.s.held++l)).length∨(drained x.s.clk (x.s.held++l)).1=[] then x.rs else ZaL x.s.d x.rs (ZaG r (drained x.s.clk (x.s.held++l)).1)⟩,(Zdb c r x.s l).2)
def Zaa(c:Cfg)(r:Nat)(x:PN)(f:Frm):PN×Nat :=
 if x.s.up=true then(if f.kind=2 then ZfC r x f.upto else ZfB c r x f.events) else(x,18)
theorem ZnP(c:Cfg)(r:Nat)(x:PN)(f:Frm):((Zaa c r x f).1.s,(Zaa c r x f).2)=ZcA c r x.s f:=by
 unfold Zaa ZcA;split
 ·split <;> rfl
 ·rfl
structure Edited(c:Cfg)(r:Nat)(B:Bd)(b:Nat)(x x':PN)(B':Bd):Prop where
 le:B.le B'
 hub:B'.hub=B.hub
 same:∀i,i≠r->B'.made i=B.made i
 tot:tot B'.made<=tot B.made+1
 inv:NodeInv c r B' b x'
 own:B.made r=ownN r x->B'.made r=ownN r x'
section
variable {c:Cfg}{r b:Nat}{B:Bd}{x:PN}{kind label:Nat}{key value:ByteArray}
theorem Edited.no(h:NodeInv c r B b x):Edited c r B b x x B:=⟨Bd.le.refl B,rfl,λ_ _=>rfl,Nat.le_succ _,h,λh=>h⟩
theorem NodeInv.clk(h:NodeInv c r B b x)(hu:x.s.up=true)(i:Nat):x.s.clk.get i=cnt i x.s.log:=by rw[(h.up hu).clk];exact ZeZ (h.log hu).r5 i
theorem NodeInv.aK(h:NodeInv c r B b x)(hu:x.s.up=true):x.s.wait.length=cnt r x.s.log-x.s.sent:=by rw[(h.up hu).wait];exact(h.log hu).be
theorem ZtA(h:∀e∈l,e.r<5)(hi:¬i<5):cnt i l=0:=by
 unfold cnt byR;rw[List.length_eq_zero_iff,List.filter_eq_nil_iff];intro e he;have:=h e he;simp;omega
theorem NodeInv.made(h:NodeInv c r B b x)(hu:x.s.up=true)(hr:r<5)(hb:tot B.made<=100)(he:EditOk kind key label value):(madeEv r x.s kind key label value).Ok:=by
 have hl:=h.log hu;have h1:=hl.aD;have h2:Zeh x.s.log x.s.clk<=tot B.made+1:=Nat.succ_le_succ (Zov λe he=>(hl.all e he).high);have h3:x.s.clk.get r<=100:=by rw[h.clk hu];exact ZT (h1 r) (ZT (Zde hr) hb)
 refine⟨hr,by simp[madeEv],by simp[madeEv];omega,by simp[madeEv,Zeh],by simp[madeEv];omega,λi=>?_,rfl,he⟩;simp only[madeEv];rw[h.clk hu];by_cases hi:i<5
 ·have:=h1 i;have:=Zde (B:=B.made) hi;omega
 ·have:=ZtA hl.r5 hi;omega
theorem NodeInv.edit(h:NodeInv c r B b x)(hr:r<c.n)(hc:c.n<=5)(hb:tot B.made<=100)(hs:b<=700)(he:EditOk kind key label value):∃B',Edited c r B b x (Zbb c r x kind key label value).1 B':=by
 have eO:r<5:=ZO;unfold Zbb ZdD;by_cases hu:x.s.up=true
 ·by_cases hk:Zb2 c.l c.p (listN x.s.book) kind key label value=0
  ·by_cases hw:x.s.wait.length<c.q
   ·simp only[hu,hk,hw,and_self,if_true];have g:=h.up hu;have hl:=h.log hu;have em:=h.made hu eO hb he;obtain⟨e,mE⟩:∃e,e=madeEv r x.s kind key label value:=⟨_,rfl⟩;rw[←mE]at em ⊢;have e1:e.r=r:=by rw[mE];rfl
    have e2:e.n=cnt r x.s.log+1:=by rw[mE,←h.clk hu];rfl
    have e3:e.ctx.le x.s.clk=true:=by rw[mE];exact Clk.bu _
    have e4:e.height<=tot B.made+1:=by rw[mE];exact Nat.succ_le_succ (Zov λe he=>(hl.all e he).high)
    have e5:e.n=x.s.clk.get e.r+1:=by rw[mE];rfl
    have e6:∀j,j≠r->e.ctx.get j<=B.hub j:=λj hj=>by
     have:e.ctx.get j=x.s.clk.get j:=by rw[mE];rfl
     rw[this,h.clk hu];exact hl.bt hj
    have jZ:=hl.aD r;have vC:=hl.sent;have vO:=h.aK hu;have gH:=Zs7 (B:=B) eO;have hg:EvG c (B.aS r) e:=⟨em,ZO,by rw[e1,e2];unfold Bd.aS;simp only[if_true];omega,ZO,λj hj=>e6 j (by rw[←e1];exact hj)⟩;have qV:LogInv c r (B.aS r) (x.s.log++[e]) x.s.sent:=hl.own (Ziq B r) hg e1 e2 ZO;obtain⟨k1,k2,k3⟩:=h.wrote (s1:=x.s) hu rfl eO (Ziq B r) (ZL b) (f:=Z7 r e) (ZjK eO em) (log:=x.s.log++[e]) (sent:=x.s.sent) (by simp[Zap,Z7]) qV ZP ZO;have eU:NodeInv c r (B.aS r) b ⟨(if (Zy x.s (Z7 r e)).2=0 then(Ze0 (Zy x.s (Z7 r e)).1 e,0) else Zy x.s (Z7 r e)).1,ZaL x.s.d x.rs (Z7 r e)⟩:=by
     refine⟨?_,λkG=>?_⟩
     ·simp only;split
      ·exact k1
      ·exact k1
     ·by_cases h0:(Zy x.s (Z7 r e)).2=0
      ·obtain⟨m1,m2,m3⟩:=k2 h0;obtain⟨q1,q2,q3,q4,q5,q6⟩:=ZbD x.s (Z7 r e);simp only[ZPp h0,Ze0,Zbv];rw[q1,q2,q3,q4,q5,q6,ZiG em.r e5 e3];refine⟨m3,m2,m1,?_,?_,?_,λy hy=>(g.held y hy).more (Ziq B r),g.hlen⟩
       ·simp only[ZgM];rw[g.clk]
       ·simp only;rw[Zfu,ZPp (by simp[e1,e2];omega),←g.wait]
       ·simp only[List.foldl_append,List.foldl_cons,List.foldl_nil];rw[g.book]
      ·simp only[ZPn h0]at kG;rw[k3 h0]at kG
       cases kG
    by_cases i7:ZaL x.s.d x.rs (Z7 r e)=x.rs
    ·
     refine⟨B,Bd.le.refl B,rfl,λ_ _=>rfl,Nat.le_succ _,?_,λho=>by unfold ownN at ho ⊢;simp only;rw[i7];exact ho⟩;have dR:(Zy x.s (Z7 r e)).2≠0:=λh0=>by
      obtain⟨m1,_,_⟩:=k2 h0;rw[i7,g.recs]at m1;injection m1 with m1;have:=congrArg List.length m1;simp at this
     refine⟨?_,λkG=>?_⟩
     ·simp only[ZPn dR];rw[i7];have hd:=eU.disk;simp only[ZPn dR]at hd;rw[i7]at hd;exact⟨hd.rows,h.disk.ok,h.disk.inv,h.disk.len⟩
     ·simp only[ZPn dR]at kG;rw[k3 dR]at kG
      cases kG
    ·refine⟨B.aS r,Ziq B r,rfl,λi hi=>by unfold Bd.aS;simp[hi],ZO,eU,λho=>?_⟩;have hw:ZaL x.s.d x.rs (Z7 r e)=x.rs++[Z7 r e]:=by
      unfold ZaL at i7 ⊢;rw[ZPn (by rw[g.down];simp)]at i7 ⊢;split
      ·split
       ·rfl
       ·rename_i h1 h2;rw[ZPp h1,ZPn h2]at i7;exact absurd rfl i7
      ·rfl
     unfold ownN at ho ⊢;have eG:Zap (x.s.log,x.s.sent) (Z7 r e)=(x.s.log++[e],x.s.sent):=by simp[Zap,Z7]
     simp only;rw[hw,Zb4,g.recs,eG];rw[g.recs]at ho;simp only at ho;simp only[Bd.aS,if_true];rw[ho,ZgO,ZPp e1]
   ·simp only[hu,hk,hw,and_false,if_true,if_false];exact⟨B,Edited.no h⟩
  ·simp only[hu,hk,false_and,and_false,if_true,if_false];exact⟨B,Edited.no h⟩
 ·simp only[hu];exact⟨B,Edited.no h⟩
theorem NodeInv.aM(h:NodeInv c r B b x)(hu:x.s.up=true)(hr:r<5)(hb:tot B.made<=100)(hs:b<=700){u:Nat}(huh:u<=B.hub r):NodeInv c r B b (ZfC r x u).1/\ownN r (ZfC r x u).1=ownN r x:=by
 unfold ZfC Zdf;by_cases hq:ZaP r x.s u=x.s.sent
 ·simp only[ZPp hq];exact⟨h,trivial⟩
 ·simp only[ZPn hq];have g:=h.up hu;have hl:=h.log hu;have fg:=h.clk hu r;obtain⟨v,hv⟩:∃v,v=ZaP r x.s u:=⟨_,rfl⟩;rw[←hv]at hq ⊢;have jZ:=hl.aD r;have vC:=hl.sent;have pU:=Zde (B:=B.made) hr;have im:=hl.sentH;have h1:x.s.sent<=v:=by rw[hv];unfold ZaP;omega
  have h2:v<=cnt r x.s.log:=by rw[hv];unfold ZaP;omega
  have h3:v<=B.hub r:=by rw[hv];unfold ZaP;omega
  have qV:=hl.told h1 h2 h3;obtain⟨k1,k2,k3⟩:=h.wrote (s1:=x.s) hu rfl hr (B':=B) (Bd.le.refl B) (ZL _) (f:=Zay r v) (ZoB hr ZO) (log:=x.s.log) (sent:=v) (by simp[Zap,Zay]) qV ZO ZO;refine⟨⟨?_,λkG=>?_⟩,?_⟩
  ·simp only;split
   ·exact k1
   ·exact k1
  ·by_cases h0:(Zy x.s (Zay r v)).2=0
   ·obtain⟨m1,m2,m3⟩:=k2 h0;obtain⟨q1,q2,q3,q4,q5,q6⟩:=ZbD x.s (Zay r v);simp only[ZPp h0];refine⟨m3,m2,by rw[m1];simp only[q1],by simp only[q4,q1];exact g.clk,?_,by simp only[q3,q1];exact g.book,by simp only[q5];exact g.held,by simp only[q5];exact g.hlen⟩;simp only[q1];rw[qV.wait,g.wait,hl.wait,List.drop_drop];congr 1;omega
   ·simp only[ZPn h0]at kG;rw[k3 h0]at kG
    cases kG
  ·unfold ownN;refine Zhr ?_;simp[Zap,Zay]
theorem NodeInv.events(h:NodeInv c r B b x)(hu:x.s.up=true)(hr:r<5)(hc:c.h<=20)(hb:tot B.made<=100)(hs:b<=700)(hl:∀e∈l,EvH c r B e):NodeInv c r B b (ZfB c r x l).1/\ownN r (ZfB c r x l).1=ownN r x:=by
 have g:=h.up hu;have nC:=h.log hu;have eR:∀e∈x.s.held++l,EvH c r B e:=λe he=>by
  rcases List.mem_append.1 he with he|he
  ·exact g.held e he
  ·exact hl e he
 obtain⟨DV,jv⟩:=Zht x.s.clk (x.s.held++l);have pL:∀e∈ZcI x.s.clk (x.s.held++l),EvH c r B e:=λe he=>eR e (Zpi he)
 unfold ZfB Zdb;by_cases ho:c.h<(ZcI x.s.clk (x.s.held++l)).length
 ·simp only[ho,true_or,if_true];exact⟨h,trivial⟩
 ·by_cases hn:(drained x.s.clk (x.s.held++l)).1=[]
  ·simp only[ho,hn,or_true,if_true];rw[hn]at DV;have fg:(drained x.s.clk (x.s.held++l)).2.2=x.s.clk:=DV;exact⟨⟨h.disk,λ_=>⟨g.down,g.bytes,g.recs,by simp only[Zcb];rw[fg];exact g.clk,g.wait,g.book,pL,ZT (Nat.not_lt.1 ho) hc⟩⟩,rfl⟩
  ·simp only[ho,hn,or_self,if_false];obtain⟨m,hm⟩:∃m,m=(drained x.s.clk (x.s.held++l)).1:=⟨_,rfl⟩;rw[←hm]at hn DV jv ⊢;rw[g.clk]at DV;have qV:=Chain.log nC DV λe he=>eR e (jv e he)
   have eN:0<m.length:=List.length_pos_iff.2 hn;have oV:=qV.len;rw[ZI]at oV;have gF:byR r m=[]:=by
    unfold byR;rw[List.filter_eq_nil_iff];intro e he;have:=(eR e (jv e he)).ne;simpa using this
   obtain⟨k1,k2,k3⟩:=h.wrote (s1:=Zcb x.s l) hu rfl hr (B':=B) (Bd.le.refl B) (ZL _) (f:=ZaG r m) (ZoD hr (λe he=>(eR e (jv e he)).good.ok) ZO) (log:=x.s.log++m) (sent:=x.s.sent) (by simp[Zap,ZaG]) qV (by rw[ZI];omega) ZO;refine⟨⟨?_,λkG=>?_⟩,?_⟩
   ·simp only;split
    ·exact k1
    ·exact k1
   ·by_cases h0:(Zy (Zcb x.s l) (ZaG r m)).2=0
    ·obtain⟨m1,m2,m3⟩:=k2 h0;obtain⟨q1,q2,q3,q4,q5,q6⟩:=ZbD (Zcb x.s l) (ZaG r m);simp only[ZPp h0,Zbv];refine⟨m3,m2,by rw[m1];simp only[q1,q2];rfl,?_,?_,?_,by simp only[q5];exact pL,by simp only[q5];exact ZT (Nat.not_lt.1 ho) hc⟩
     ·simp only[q4,q1];simp only[Zcb];rw[Zml,DV.clk,g.clk]
     ·simp only[q6,q2,q1];simp only[Zcb];rw[qV.wait,g.wait,nC.wait,Zem,gF,List.append_nil]
     ·simp only[q3,q1];simp only[Zcb];rw[g.book,List.foldl_append]
    ·simp only[ZPn h0]at kG;rw[k3 h0]at kG
     cases kG
   ·unfold ownN;refine Zhr ?_;rw[g.recs];simp only[Zap,ZaG,cnt];simp[Zem,gF]
end
def shLen(x:Sh):Nat:=x.base+x.kept.length
def lensOf(sh:List Sh):List Nat:=sh.map shLen
def hubLen(sh:List Sh)(i:Nat):Nat:=(lensOf sh).getD i 0
theorem Zdl{x:Sh}(h:sh[i]? = some x):hubLen sh i=shLen x:=by
 unfold hubLen lensOf;rw[List.getD_eq_getElem?_getD,List.getElem?_map,h];rfl
theorem ZfS(told:List Clk)(sh:List Sh):∀k,lensOf (Zav sh told k)=lensOf sh
 | 0=>rfl
 |k+1=>by
  unfold Zav;split
  ·rename_i x hx;unfold lensOf;rw[List.map_set];have h1:=(ZdG told k x).1;have h2:shLen (cutSh told k x)=shLen x:=h1;rw[h2];have h3:(List.map shLen (Zav sh told k))[k]? = some (shLen x):=by rw[List.getElem?_map,hx];rfl
   rw[Zhf h3];exact ZfS told sh k
  ·exact ZfS told sh k
theorem Zed{told:List Clk}{sh:List Sh}:∀{k i:Nat} {x:Sh},i<k->sh[i]? = some x->(Zav sh told k)[i]? = some (cutSh told i x)
 | 0,i,x,h,_=>ZO
 |k+1,i,x,h,hx=>by
  have hk:=ZgJ sh told k k (ZL _);unfold Zav;by_cases hi:i=k
  ·subst hi;rw[hk,hx];simp only[];rw[List.getElem?_set_self (by rw[Zcy];exact(ZZ.1 hx).1)]
  ·have ih:=Zed (told:=told) (k:=k) (i:=i) ZO hx;split
   ·rw[List.getElem?_set_ne ZO];exact ih
   ·exact ih
theorem ZkW(told:List Clk)(s:Nat)(x:Sh):cutSh told s (cutSh told s x)=cutSh told s x:=by
 obtain⟨h2,h3⟩:=ZdG told s x;have e:Za5 (cutSh told s x).base (cutSh told s x).kept.length (ZaV told s)=(cutSh told s x).base:=by
  show max (cutSh told s x).base (min (ZaV told s) ((cutSh told s x).base+(cutSh told s x).kept.length))=_
  rw[h2];show max (max x.base (min (ZaV told s) (x.base+x.kept.length))) (min (ZaV told s) (x.base+x.kept.length))=max x.base (min (ZaV told s) (x.base+x.kept.length))
  omega
 show(⟨Za5 (cutSh told s x).base (cutSh told s x).kept.length (ZaV told s),(cutSh told s x).kept.drop (Za5 (cutSh told s x).base (cutSh told s x).kept.length (ZaV told s)-(cutSh told s x).base)⟩:Sh)=_
 rw[e,Nat.sub_self,List.drop_zero]
theorem ZoK{told:List Clk}(h:∀i x,sh[i]? = some x->cutSh told i x=x):Zav sh told sh.length=sh:=by
 apply List.ext_getElem?;intro i
 cases hx:sh[i]? with
 |none=>rw[List.getElem?_eq_none_iff]at hx ⊢;rw[Zcy];exact hx
 |some x=>rw[Zed (ZZ.1 hx).1 hx,h i x hx]
theorem Znh{K:Nat}:∀{l:List Nat},(∀x∈l,x<=K)->l.sum<=l.length*K
 | [],_=>ZM
 |x::l,h=>by
  have ih:=Znh (l:=l) λy hy=>h y (List.mem_cons_of_mem _ hy)
  have h1:=h x ZM;simp only[List.sum_cons,List.length_cons,Nat.add_mul,Nat.one_mul];omega
theorem ZkP:∀{l:List Nat} {i a:Nat} (b:Nat),l[i]? = some a->(l.set i b).sum+a=l.sum+b
 | [],i,a,b,h=>by simp at h
 |x::l,0,a,b,h=>by
  simp at h;subst h;simp only[ZB,List.sum_cons];omega
 |x::l,i+1,a,b,h=>by
  have ih:=ZkP (l:=l) (i:=i) b (by simpa using h);simp only[ZC,List.sum_cons];omega
def clkSum(c:Clk):Nat:=c.c0+c.c1+c.c2+c.c3+c.c4
theorem Zqm{c:Clk}{B:Nat->Nat}(h:∀i,c.get i<=B i):clkSum c<=tot B:=by
 have h0:=h 0;have h1:=h 1;have h2:=h 2;have h3:=h 3;have h4:=h 4;simp only[Clk.get]at h0 h1 h2 h3 h4;unfold clkSum tot;omega
theorem Zdq(a b:Clk)(i:Nat):(a.join b).get i=max (a.get i) (b.get i):=by
 by_cases h:i<5
 ·exact Zsf a b h
 ·rw[Clk.aC _ ZO,Clk.aC _ ZO,Clk.aC _ ZO];rfl
theorem Znt{a b:Clk}(h:a.join b≠a):clkSum a<clkSum (a.join b):=by
 have h0:=Zdq a b 0;have h1:=Zdq a b 1;have h2:=Zdq a b 2;have h3:=Zdq a b 3;have h4:=Zdq a b 4;obtain⟨j,hj⟩:∃j,j=a.join b:=⟨_,rfl⟩;rw[←hj]at h h0 h1 h2 h3 h4 ⊢;obtain⟨a0,a1,a2,a3,a4⟩:=a;obtain⟨b0,b1,b2,b3,b4⟩:=b;obtain⟨j0,j1,j2,j3,j4⟩:=j;simp only[Clk.get]at h0 h1 h2 h3 h4;have:¬(j0=a0/\j1=a1/\j2=a2/\j3=a3/\j4=a4):=λ⟨k0,k1,k2,k3,k4⟩=>h (by rw[k0,k1,k2,k3,k4])
 unfold clkSum;simp only;omega
structure ShG(c:Cfg)(i:Nat)(B:Bd)(x:Sh):Prop where
 all:∀e∈x.kept,EvG c B e/\e.r=i
 row:From1 (x.base+1) x.kept
 len:x.kept.length<=c.w
 hub:shLen x<=B.hub i
 made:shLen x<=B.made i
section
variable {c:Cfg}{i:Nat}{B B':Bd}{x:Sh}
theorem ShG.more(h:ShG c i B x)(hB:B.le B'):ShG c i B' x:=⟨λe he=>⟨(h.all e he).1.more hB,(h.all e he).2⟩,h.row,h.len,ZT h.hub (hB.hub i),ZT h.made (hB.made i)⟩
theorem ShG.cut(h:ShG c i B x)(told:List Clk)(s:Nat):ShG c i B (cutSh told s x):=by
 have h1:x.base<=Za5 x.base x.kept.length (ZaV told s):=Nat.le_max_left _ _;obtain⟨h2,h3⟩:=ZdG told s x;refine⟨λe he=>h.all e (List.mem_of_mem_drop he),?_,ZT h3 h.len,ZT (Nat.le_of_eq h2) h.hub,ZT (Nat.le_of_eq h2) h.made⟩;have:=h.row.drop (Za5 x.base x.kept.length (ZaV told s)-x.base);unfold cutSh;simp only;rwa [show x.base+1+(Za5 x.base x.kept.length (ZaV told s)-x.base)=Za5 x.base x.kept.length (ZaV told s)+1 by omega]at this
theorem ShG.num(h:ShG c i B x){e:Ev}(he:e∈x.kept):e.n<=shLen x:=by
 have:=h.row.mem he;unfold shLen;omega
end
structure PostInv(c:Cfg)(B:Bd)(st:PostSt):Prop where
 len:st.1.length=c.n
 len2:st.2.length=c.n
 sh:∀i x,st.1[i]? = some x->ShG c i B x
 told:∀y∈st.2,∀i,y.get i<=B.made i
 cut:∀i x,st.1[i]? = some x->cutSh st.2 i x=x
section
variable {c:Cfg}{B B':Bd}{st:PostSt}
theorem PostInv.more(h:PostInv c B st)(hB:B.le B'):PostInv c B' st:=⟨h.len,h.len2,λi x hx=>(h.sh i x hx).more hB,λy hy i=>ZT (h.told y hy i) (hB.made i),h.cut⟩
theorem Zdr{B:Bd}(hb:tot B.made<=100)(hi:i<5):B.made i<=100:=ZT (Zde hi) hb
theorem PostInv.ok(h:PostInv c B st)(hc:c.Ok)(hb:tot B.made<=100):PostOk c.n c.w st:=by
 refine⟨h.len,h.len2,λs hs=>?_,λy hy i=>?_⟩
 ·obtain⟨i,hi,rfl⟩:=List.getElem_of_mem hs;have g:=h.sh i _ (ZX hi);have h1:=g.made;have h2:=Zdr hb (i:=i) (by have:=h.len;have:=hc.n5;omega);unfold shLen at h1;exact⟨g.len,ZO⟩
 ·by_cases hi:i<5
  ·have:=h.told y hy i;have:=Zdr hb hi;omega
  ·rw[Clk.aC _ ZO];omega
theorem PostInv.init(c:Cfg)(B:Bd):PostInv c B (initSt c):=by
 refine⟨by simp[initSt],by simp[initSt],λi x hx=>?_,λy hy i=>?_,λi x hx=>?_⟩
 ·have hm:=ZY hx;simp[initSt]at hm;rw[hm.2];exact⟨ZM,λi e h=>by simp at h,ZM,by simp[shLen],by simp[shLen]⟩
 ·simp[initSt]at hy;rw[hy.2,ZbS];omega
 ·have hm:=ZY hx;simp[initSt]at hm;rw[hm.2];simp[cutSh,Za5]
theorem PostInv.put{x:Sh}(h:PostInv c B st)(hx:st.1[r]? = some x)(he:∀e∈l,EvG c B e/\e.r=r){n0:Nat}(hf:From1 n0 l)(hn:n0<=shLen x+1):
  ((Z0 c.w x.base x.kept l).1=0->∃y,y=(⟨x.base,(Z0 c.w x.base x.kept l).2⟩:Sh)/\(∀e∈y.kept,EvG c B e/\e.r=r)/\From1 (y.base+1) y.kept/\y.kept.length<=c.w/\shLen y<=B.made r/\shLen x<=shLen y):=by
 have g:=h.sh r x hx;intro _;refine⟨_,rfl,?_⟩;unfold Z0;simp only[];have e1:=Zeq hf (x.base+x.kept.length);unfold shLen at hn;split
 ·exact⟨g.all,g.row,g.len,g.made,ZL _⟩
 ·split
  ·exact⟨g.all,g.row,g.len,g.made,ZL _⟩
  ·rename_i hz hw;rw[e1]at hz hw ⊢;have hd:=hf.drop (x.base+x.kept.length+1-n0);rw[show n0+(x.base+x.kept.length+1-n0)=x.base+1+x.kept.length by omega]at hd;have cT:From1 (x.base+1) (x.kept++l.drop (x.base+x.kept.length+1-n0)):=by
    intro i e hi;rw[List.getElem?_append]at hi;split at hi
    ·exact g.row i e hi
    ·have:=hd _ e hi;omega
   have eR:∀e∈x.kept++l.drop (x.base+x.kept.length+1-n0),EvG c B e/\e.r=r:=λe hi=>by
    rcases List.mem_append.1 hi with hi|hi
    ·exact g.all e hi
    ·exact he e (List.mem_of_mem_drop hi)
   refine⟨eR,cT,by simp only[ZI]at hw ⊢;omega,?_,by unfold shLen;simp only[ZI];omega⟩;obtain⟨d,oQ⟩:∃d,d=l.drop (x.base+x.kept.length+1-n0):=⟨_,rfl⟩;rw[←oQ]at hz hd eR ⊢;have cI:d.length-1<d.length:=ZO;have hl:=hd _ _ (ZX cI);obtain⟨h1,h2⟩:=eR _ (List.mem_append_right x.kept (List.getElem_mem cI));have h3:=h1.num;rw[h2]at h3;unfold shLen;simp only[ZI];omega
end
theorem Zfh{sh:List Sh}{r:Nat}{c:Clk}:∀{k:Nat} {e:Ev},e∈Zad sh r c k↔∃i s,i<k/\i≠r/\sh[i]? = some s/\e∈s.kept/\c.get i<e.n
 | 0,e=>by simp[Zad]
 |k+1,e=>by
  have ih:=Zfh (sh:=sh) (r:=r) (c:=c) (k:=k) (e:=e);unfold Zad;rw[List.mem_append,ih];constructor
  ·rintro(⟨i,s,h1,h2⟩|h)
   ·exact⟨i,s,ZO,h2⟩
   ·split at h
    ·rename_i s hs;split at h
     ·simp at h
     ·rename_i hk;simp only[Zbd,List.mem_filter,decide_eq_true_eq]at h;exact⟨k,s,ZO,hk,hs,h.1,h.2⟩
    ·simp at h
  ·rintro⟨i,s,h1,h2,h3,h4,h5⟩;by_cases hi:i<k
   ·exact .inl ⟨i,s,hi,h2,h3,h4,h5⟩
   ·have:i=k:=ZO;subst this;refine .inr ?_;rw[h3];simp only[ZPn h2,Zbd,List.mem_filter,decide_eq_true_eq];exact⟨h4,h5⟩
structure PH where
 s:HubSt
 rs:List Frm
def repl(c:Cfg)(rs:List Frm):PostSt:=ZbN c.w (initSt c) rs
theorem Zhd(c:Cfg)(rs:List Frm)(f:Frm):repl c (rs++[f])=ZbG c.w (repl c rs) f:=by simp[repl,ZbN]
theorem ReplayOk.snoc{N most:Nat}:∀{rs:List Frm} {st:PostSt} {f:Frm},ReplayOk N most st rs->NextOk (ZbN most st rs) f->PostOk N most (ZbG most (ZbN most st rs) f)->ReplayOk N most st (rs++[f])
 | [],_,_,h,h1,h2=>⟨h,h1,h2⟩
 |_::rs,_,_,h,h1,h2=>⟨h.1,h.2.1,ReplayOk.snoc (rs:=rs) h.2.2 h1 h2⟩
structure HubInv(c:Cfg)(B:Bd)(x:PH):Prop where
 rows:Rows x.s.d.bytes x.rs
 ok:∀f∈x.rs,RecOk f
 rep:ReplayOk c.n c.w (initSt c) x.rs
 inv:PostInv c B (repl c x.rs)
 len:x.rs.length<=(lensOf (repl c x.rs).1).sum+((repl c x.rs).2.map clkSum).sum
 hub:∀i,B.hub i=hubLen (repl c x.rs).1 i
 up:x.s.up=true->x.s.d.down=false/\x.s.d.bytes=recsBytes x.rs/\repl c x.rs=(x.s.sh,x.s.told)
structure HubFrm(c:Cfg)(B:Bd)(f:Frm):Prop where
 ok:f.Ok
 r:f.r<c.n
 kind:f.kind=1∨f.kind=3∨f.kind=5
 evs:f.kind=1->(∀e∈f.events,EvG c B e)/\∃n0,From1 n0 f.events/\n0<=B.hub f.r+1
 clk:∀i,f.clock.get i<=B.made i
structure NodeFrm(c:Cfg)(B:Bd)(to:Nat)(f:Frm):Prop where
 ok:f.Ok
 n:to<c.n
 kind:f.kind=2∨f.kind=4
 upto:f.upto<=B.hub to
 evs:∀e∈f.events,EvH c to B e
 to:f.r=to
theorem HubFrm.more{c:Cfg}{B B':Bd}{f:Frm}(h:HubFrm c B f)(hB:B.le B'):HubFrm c B' f :=
 ⟨h.ok,h.r,h.kind,λhk=>⟨λe he=>((h.evs hk).1 e he).more hB,(h.evs hk).2.elim λn0 hn=>⟨n0,hn.1,ZT hn.2 (Nat.succ_le_succ (hB.hub _))⟩⟩,λi=>ZT (h.clk i) (hB.made i)⟩
theorem NodeFrm.more{c:Cfg}{B B':Bd}{to:Nat}{f:Frm}(h:NodeFrm c B to f)(hB:B.le B'):NodeFrm c B' to f :=
 ⟨h.ok,h.n,h.kind,ZT h.upto (hB.hub _),λe he=>(h.evs e he).more hB,h.to⟩
def ZcR(x:PH):PH:=⟨{ x.s with up:=false,d:=x.s.d.aH },x.rs⟩
def ZoS(x:PH)(keep:Int):PH:=⟨{ x.s with d:=x.s.d.aV keep },x.rs⟩
def Zjs(c:Cfg)(x:PH):PH:=⟨⟨true,⟨recsBytes x.rs,false,false,x.s.d.keep⟩,(repl c x.rs).1,(repl c x.rs).2⟩,x.rs⟩
def ZbX(c:Cfg)(x:PH):PH×Nat:=if x.s.up=true then(x,19) else(Zjs c x,0)
def Zji(c:Cfg):PH:=⟨⟨true,Dk.new,(initSt c).1,(initSt c).2⟩,[]⟩
def ZdQ(c:Cfg)(x:PH)(f:Frm):List Frm :=
 if x.s.up=false then x.rs
 else if f.kind=1 then
  if (Zs c.w f.r f.events x.s.sh x.s.told).2.1≠0 then x.rs
  else if (Zs c.w f.r f.events x.s.sh x.s.told).1=(lenOf x.s.sh).get f.r then x.rs
  else ZaL x.s.d x.rs (Zax f)
 else if f.kind=3 then x.rs
 else if (Z8 x.s.told f).getD f.r ZCz=x.s.told.getD f.r ZCz then x.rs
 else ZaL x.s.d x.rs (Zau f)
def Zh(c:Cfg)(x:PH)(f:Frm):PH×Option (Nat×Frm)×Nat:=(⟨(Zaq c x.s f).1,ZdQ c x f⟩,(Zaq c x.s f).2)
section
variable {c:Cfg}{B B':Bd}{x:PH}
theorem ZgQ{f:Sh->Nat}{sh:List Sh}:∀{k i:Nat},k<=5->k<=sh.length->(Zcl f sh k).get i=if i<k then((sh.map f).getD i 0) else 0
 | 0,i,_,_=>by simp[Zcl,ZbS]
 |k+1,i,h5,hk=>by
  have ih:=ZgQ (f:=f) (sh:=sh) (k:=k) (i:=i) ZO ZO;unfold Zcl;by_cases hi:i=k
  ·subst hi;rw[Clk.aq _ ZO,ZPp ZO,List.getD_eq_getElem?_getD,List.getElem?_map,ZX ZO];rfl
  ·rw[Clk.ao _ (λh=>hi h.symm),ih];by_cases h2:i<k
   ·rw[ZPp h2,ZPp ZO]
   ·rw[ZPn h2,ZPn ZO]
theorem Ze4(h:sh.length<=5)(i:Nat):(lenOf sh).get i=hubLen sh i:=by
 unfold lenOf;rw[ZgQ h (ZL _)];split
 ·rfl
 ·unfold hubLen lensOf;rw[List.getD_eq_getElem?_getD,List.getElem?_eq_none ZP];rfl
theorem PostInv.ci{st:PostSt}(h:PostInv c B st)(hc:c.Ok)(hb:tot B.made<=100):(lensOf st.1).sum<=500/\(st.2.map clkSum).sum<=500:=by
 have h5:=hc.n5;constructor
 ·have:=Znh (l:=lensOf st.1) (K:=100) (λy hy=>by
   unfold lensOf at hy;obtain⟨s,hs,rfl⟩:=List.mem_map.1 hy;obtain⟨i,hi,rfl⟩:=List.getElem_of_mem hs
   exact ZT (h.sh i _ (ZX hi)).made (Zdr hb (by have:=h.len;omega)))
  have hl:(lensOf st.1).length=c.n:=by unfold lensOf;rw[List.length_map];exact h.len
  rw[hl]at this;omega
 ·have:=Znh (l:=st.2.map clkSum) (K:=100) (λy hy=>by
   obtain⟨s,hs,rfl⟩:=List.mem_map.1 hy
   exact ZT (Zqm (h.told s hs)) hb)
  rw[List.length_map,h.len2]at this;omega
theorem HubInv.bH(h:HubInv c B x)(hc:c.Ok)(hb:tot B.made<=100):x.rs.length<=1000:=by
 have h1:=h.len;obtain⟨h2,h3⟩:=h.inv.ci hc hb;omega
theorem HubInv.bG(h:HubInv c B x)(i:Nat):B.hub i<=B.made i:=by
 rw[h.hub]
 cases hx:(repl c x.rs).1[i]? with
 |none =>
  unfold hubLen lensOf;rw[List.getD_eq_getElem?_getD,List.getElem?_map,hx];exact Nat.zero_le _
 |some s=>rw[Zdl hx];exact(h.inv.sh i s hx).made
theorem HubInv.more(h:HubInv c B x)(hB:B.le B')(hh:B'.hub=B.hub):HubInv c B' x:=⟨h.rows,h.ok,h.rep,h.inv.more hB,h.len,by rw[hh];exact h.hub,h.up⟩
theorem HubInv.new{B:Bd}(hB:∀i,B.hub i=0):HubInv c B (Zji c) :=
 ⟨Zhe,by simp[Zji],Zos c,PostInv.init c B,by simp[Zji],λi=>by
  rw[hB];unfold hubLen lensOf repl Zji ZbN;simp only[List.foldl_nil,initSt,List.map_replicate,List.getD_eq_getElem?_getD,List.getElem?_replicate]
  split <;> rfl,λ_=>⟨rfl,rfl,rfl⟩⟩
theorem HubInv.aH(h:HubInv c B x):HubInv c B (ZcR x):=⟨h.rows,h.ok,h.rep,h.inv,h.len,h.hub,λhu=>by simp[ZcR]at hu⟩
theorem HubInv.cut(h:HubInv c B x)(keep:Int):HubInv c B (ZoS x keep):=⟨h.rows,h.ok,h.rep,h.inv,h.len,h.hub,λhu=>h.up hu⟩
theorem HubInv.started(h:HubInv c B x)(hc:c.Ok)(hb:tot B.made<=100):HubInv c B (Zjs c x) :=
 ⟨Rows.whole h.ok (h.bH hc hb),h.ok,h.rep,h.inv,h.len,h.hub,λ_=>⟨rfl,rfl,rfl⟩⟩
theorem HubInv.start(h:HubInv c B x)(hc:c.Ok)(hb:tot B.made<=100):HubInv c B (ZbX c x).1:=by
 unfold ZbX;split
 ·exact h
 ·exact h.started hc hb
theorem HubInv.wrote(h:HubInv c B x)(hu:x.s.up=true)(hc:c.Ok)(hb:tot B.made<=100)(hB:B.le B')(hm:B'.made=B.made)(hf:RecOk f){st:PostSt}(eP:st=ZbG c.w (x.s.sh,x.s.told) f)(hn:NextOk (x.s.sh,x.s.told) f)(hi:PostInv c B' st)(hh:∀i,B'.hub i=hubLen st.1 i)
  (hs:(lensOf x.s.sh).sum+(x.s.told.map clkSum).sum+1<=(lensOf st.1).sum+(st.2.map clkSum).sum) {up:Bool} (dJ:up=true->(x.s.d.write (recBytes f)).2=0) :
  ∃JG,B.le JG/\JG.made=B.made/\HubInv c JG ⟨⟨up,(x.s.d.write (recBytes f)).1,st.1,st.2⟩,ZaL x.s.d x.rs f⟩/\(up=true->JG=B'):=by
 obtain⟨g1,g2,g3⟩:=h.up hu;have hl:=h.len;rw[g3]at hl;have fT:repl c (x.rs++[f])=st:=by rw[Zhd,g3,eP]
 have em:∀y∈x.rs++[f],RecOk y:=λy hy=>by
  rcases List.mem_append.1 hy with hy|hy
  ·exact h.ok y hy
  ·simp at hy;subst hy;exact hf
 have jX:tot B'.made<=100:=by rw[hm];exact hb
 have hlen:(x.rs++[f]).length<=(lensOf st.1).sum+(st.2.map clkSum).sum:=by rw[ZI,List.length_singleton];simp only at hl;omega
 have h3:(x.rs++[f]).length<=1000:=by
  obtain⟨h2,h3⟩:=hi.ci hc jX;omega
 have yy:ReplayOk c.n c.w (initSt c) (x.rs++[f]):=h.rep.snoc (by show NextOk (repl c x.rs) f;rw[g3];exact hn) (by show PostOk c.n c.w (ZbG c.w (repl c x.rs) f);rw[g3,←eP];exact hi.ok hc jX);have gN:∀(s:HubSt),s.d.bytes=recsBytes (x.rs++[f])->(s.up=true->s.d.down=false/\(s.sh,s.told)=st)->HubInv c B' ⟨s,x.rs++[f]⟩:=λs jG ju =>
  ⟨by simp only;rw[jG];exact Rows.whole em h3,em,yy,by simp only;rw[fT];exact hi,by simp only;rw[fT];exact hlen,by simp only;rw[fT];exact hh,λhu=>⟨(ju hu).1,jG,by simp only;rw[fT,(ju hu).2]⟩⟩
 unfold Dk.write ZaL at *;simp only[g1,Bool.false_eq_true,if_false]at dJ ⊢
 cases eT:x.s.d.cut with
 |false =>
  simp only[Bool.false_eq_true,if_false];exact⟨B',hB,hm,gN _ (by simp[g2,Zhc]) (λ_=>⟨rfl,rfl⟩),λ_=>rfl⟩
 |true =>
  simp only[eT,if_true]at dJ ⊢;have Pp:up=false:=by
   cases up with
   |false=>rfl
   |true=>exact absurd (dJ rfl) ZM
  subst Pp;by_cases hk:(recBytes f).length<=x.s.d.keep.toNat
  ·rw[ZPp hk];exact⟨B',hB,hm,gN _ (by simp[g2,Zhc,ZU hk]) (λhu=>by cases hu),λhu=>by cases hu⟩
  ·rw[ZPn hk];refine⟨B,Bd.le.refl B,rfl,⟨?_,h.ok,h.rep,h.inv,h.len,h.hub,λhu=>by cases hu⟩,λhu=>by cases hu⟩;simp only[g2];exact Rows.of h.ok (h.bH hc hb) hf ZO
structure HubTook(c:Cfg)(B:Bd)(o:PH×Option (Nat×Frm)×Nat)(B':Bd):Prop where
 le:B.le B'
 made:B'.made=B.made
 inv:HubInv c B' o.1
 reply:∀to g,o.2.1=some (to,g)->NodeFrm c B' to g/\o.2.2=0
theorem HubInv.bI(h:HubInv c B x)(hu:x.s.up=true)(hf:HubFrm c B f)(hk:f.kind=1):NextOk (x.s.sh,x.s.told) ⟨5,f.r,0,ZCz,f.events⟩:=by
 obtain⟨g1,g2,g3⟩:=h.up hu;have hl:=h.inv.len;rw[g3]at hl;obtain⟨n0,gi,qi⟩:=(hf.evs hk).2;have hr:=hf.r;have cI:f.r<x.s.sh.length:=by simp only at hl;omega
 refine⟨cI,.inl rfl,λ_=>⟨n0,_,ZX cI,gi,?_,(hf.ok.push hk).2⟩⟩;have h2:=h.hub f.r;rw[g3,Zdl (ZX cI)]at h2;rw[h2]at qi;exact qi
end
section
variable {c:Cfg}{B B':Bd}{x:PH}
theorem ZmN(z:Sh):lensOf (sh.set r z)=(lensOf sh).set r (shLen z):=by unfold lensOf;rw[List.map_set]
theorem ZdP{z:Sh}(hr:r<sh.length):hubLen (sh.set r z) i=if i=r then shLen z else hubLen sh i:=by
 unfold hubLen;rw[ZmN,List.getD_eq_getElem?_getD,List.getD_eq_getElem?_getD];split
 ·rename_i h;rw[h,List.getElem?_set_self (by unfold lensOf;rw[List.length_map];exact hr)];rfl
 ·rename_i h;rw[List.getElem?_set_ne (λh'=>h h'.symm)]
theorem ZlZ{most base:Nat}{kept:List Ev}(hl:(Z0 most base kept l).2.length=kept.length):(Z0 most base kept l).2=kept:=by
 unfold Z0 at hl ⊢;simp only[]at hl ⊢;split at hl
 ·rename_i h1;rw[ZPp h1]
 ·rename_i h1;rw[ZPn h1];split at hl
  ·rename_i h2;rw[ZPp h2]
  ·rename_i h2;rw[ZI]at hl;omega
def Bd.aB(B:Bd)(r n:Nat):Bd:=⟨B.made,λi=>if i=r then n else B.hub i⟩
theorem HubInv.push(h:HubInv c B x)(hu:x.s.up=true)(hc:c.Ok)(hb:tot B.made<=100){f:Frm}(hf:HubFrm c B f)(hk:f.kind=1):∃B',HubTook c B (Zh c x f) B':=by
 obtain⟨g1,g2,g3⟩:=h.up hu;have na:=h.bI hu hf hk;have eU:=h.inv;rw[g3]at eU;obtain⟨⟨up,d,sh,told⟩,rs⟩:=x;simp only at hu g1 g2 g3 na eU;subst hu;have cI:=na.r;simp only at cI;obtain⟨x0,jS⟩:∃x0,sh[f.r]? = some x0:=⟨_,ZX cI⟩;obtain⟨n0,gi,qi⟩:=(hf.evs hk).2;have RP:B.hub f.r=shLen x0:=by rw[h.hub,g3,Zdl jS]
 have lV:=eU.put jS (l:=f.events) (λe he=>⟨(hf.evs hk).1 e he,(hf.ok.push hk).2 e he⟩) gi ZO;have h5:sh.length<=5:=by have h1:sh.length=c.n:=eU.len;have:=hc.n5;omega
 have oW:(lenOf sh).get f.r=shLen x0:=by rw[Ze4 h5,Zdl jS]
 have iu:Zs c.w f.r f.events sh told=if (Z0 c.w x0.base x0.kept f.events).1=0 then
   ((cutSh told f.r ⟨x0.base,(Z0 c.w x0.base x0.kept f.events).2⟩).base+(cutSh told f.r ⟨x0.base,(Z0 c.w x0.base x0.kept f.events).2⟩).kept.length,0,sh.set f.r (cutSh told f.r ⟨x0.base,(Z0 c.w x0.base x0.kept f.events).2⟩))
  else(0,(Z0 c.w x0.base x0.kept f.events).1,sh):=by
  unfold Zs;rw[jS]
 by_cases hp:(Z0 c.w x0.base x0.kept f.events).1=0
 ·rw[ZPp hp]at iu;obtain⟨y,hy,y1,y2,y3,y4,y5⟩:=lV hp;rw[←hy]at iu;obtain⟨z,hz⟩:∃z,z=cutSh told f.r y:=⟨_,rfl⟩;rw[←hz]at iu;have Wp:shLen z=shLen y:=by rw[hz];exact(ZdG told f.r y).1
  have e1:(Zs c.w f.r f.events sh told).2.1=0:=by rw[iu]
  have e2:(Zs c.w f.r f.events sh told).1=shLen z:=by rw[iu];rfl
  have e3:(Zs c.w f.r f.events sh told).2.2=sh.set f.r z:=by rw[iu]
  by_cases il:shLen z=shLen x0
  ·
   have Wl:y=x0:=by
    have hl:y.kept.length=x0.kept.length:=by
     have:y.base=x0.base:=by rw[hy]
     rw[Wp]at il;unfold shLen at il;omega
    rw[hy]at hl;have:=ZlZ hl;rw[hy,this]
   have dd:z=x0:=by rw[hz,Wl];exact eU.cut _ _ jS
   have fG:sh.set f.r z=sh:=by rw[dd];exact Zhf jS
   have ho:Zh c ⟨⟨true,d,sh,told⟩,rs⟩ f=(⟨⟨true,d,sh,told⟩,rs⟩,some (f.r,ZaE f.r (shLen x0)),0):=by
    unfold Zh Zaq ZdQ;simp only[Bool.true_eq_false,if_false,hk,if_true,e1,e2,e3,oW,il,fG,ne_eq,not_true]
   refine⟨B,Bd.le.refl B,rfl,?_,λto g hg=>?_⟩
   ·rw[ho];exact⟨h.rows,h.ok,h.rep,h.inv,h.len,h.hub,λ_=>⟨g1,g2,g3⟩⟩
   ·rw[ho]at hg;simp only[Option.some.injEq,Prod.mk.injEq]at hg;obtain⟨rfl,rfl⟩:=hg;have yj:=(eU.sh _ _ jS).made;have:=Zdr hb hf.ok.r;exact⟨⟨Zf8 hf.ok.r ZO,hf.r,.inl rfl,by simp[ZaE,RP],by simp[ZaE],rfl⟩,by rw[ho]⟩
  ·obtain⟨B1,dm⟩:∃B1,B1=B.aB f.r (shLen z):=⟨_,rfl⟩;have eE:B.le B1:=by
    rw[dm];refine⟨λ_=>ZL _,λi=>?_⟩;unfold Bd.aB;simp only;split
    ·rename_i hi;rw[hi,RP];omega
    ·exact ZL _
   have kR:B1.made=B.made:=by rw[dm];rfl
   have lm:ShG c f.r B1 y:=⟨λe he=>⟨(y1 e he).1.more eE,(y1 e he).2⟩,y2,y3,by rw[dm];unfold Bd.aB;simp only[if_true];omega,by rw[kR];exact y4⟩;have oG:(sh.set f.r z,told)=ZbG c.w (sh,told) (Zax f):=by
    unfold ZbG Zax;simp only[if_true];rw[e3]
   have OW:PostInv c B1 (sh.set f.r z,told):=by
    have zX:=eU.more eE;refine⟨by simp only[List.length_set];exact eU.len,eU.len2,λi w hw=>?_,zX.told,λi w hw=>?_⟩
    ·simp only[List.getElem?_set]at hw;split at hw
     ·rename_i hi;subst hi;injection hw with hw;rw[←hw,hz];exact lm.cut told _
     ·exact zX.sh i w hw
    ·simp only[List.getElem?_set]at hw;split at hw
     ·rename_i hi;subst hi;injection hw with hw;rw[←hw,hz];exact ZkW told _ _
     ·exact eU.cut i w hw
   have eA:∀i,B1.hub i=hubLen (sh.set f.r z,told).1 i:=λi=>by
    simp only;rw[ZdP cI,dm];unfold Bd.aB;simp only;split
    ·rfl
    ·rw[h.hub,g3]
   have sV:(lensOf sh).sum+(told.map clkSum).sum+1<=(lensOf (sh.set f.r z)).sum+(told.map clkSum).sum:=by
    have jD:(lensOf sh)[f.r]? = some (shLen x0):=by unfold lensOf;rw[List.getElem?_map,jS];rfl
    have:=ZkP (shLen z) jD;rw[ZmN];omega
   obtain⟨B2,k1,k2,k3,k4⟩:=h.wrote rfl hc hb eE kR (Zj8 hf.ok) oG na OW eA sV (up:=decide ((d.write (recBytes (Zax f))).2=0)) ZM;have ho:Zh c ⟨⟨true,d,sh,told⟩,rs⟩ f=(⟨⟨decide ((d.write (recBytes (Zax f))).2=0),(d.write (recBytes (Zax f))).1,sh.set f.r z,told⟩,ZaL d rs (Zax f)⟩,if (d.write (recBytes (Zax f))).2=0 then some (f.r,ZaE f.r (shLen z)) else none,if (d.write (recBytes (Zax f))).2=0 then 0 else 18):=by
    unfold Zh Zaq ZdQ;simp only[Bool.true_eq_false,if_false,hk,if_true,e1,e2,e3,oW,il,ne_eq,not_true];split
    ·rename_i hw;simp[hw]
    ·rename_i hw;simp[hw]
   refine⟨B2,k1,k2,by rw[ho];exact k3,λto g hg=>?_⟩;rw[ho]at hg;simp only at hg;split at hg
   ·rename_i hw;simp only[Option.some.injEq,Prod.mk.injEq]at hg;obtain⟨rfl,rfl⟩:=hg;have e4:=k4 (by simp[hw]);have:=Zdr hb hf.ok.r;exact⟨⟨Zf8 hf.ok.r ZO,hf.r,.inl rfl,by rw[e4,dm];simp[ZaE,Bd.aB],by simp[ZaE],rfl⟩,by rw[ho];simp[hw]⟩
   ·cases hg
 ·rw[ZPn hp]at iu;have ho:Zh c ⟨⟨true,d,sh,told⟩,rs⟩ f=(⟨⟨true,d,sh,told⟩,rs⟩,none,(Z0 c.w x0.base x0.kept f.events).1):=by
   unfold Zh Zaq ZdQ;simp only[Bool.true_eq_false,if_false,hk,if_true,iu,ne_eq,hp,not_false_eq_true]
  refine⟨B,Bd.le.refl B,rfl,?_,λto g hg=>?_⟩
  ·rw[ho];exact⟨h.rows,h.ok,h.rep,h.inv,h.len,h.hub,λ_=>⟨g1,g2,g3⟩⟩
  ·rw[ho]at hg
   cases hg
theorem HubInv.bF(h:HubInv c B x)(hu:x.s.up=true)(hc:c.Ok)(hf:HubFrm c B f)(hk:f.kind=3):HubTook c B (Zh c x f) B:=by
 obtain⟨g1,g2,g3⟩:=h.up hu;have eU:=h.inv;rw[g3]at eU;have ho:Zh c x f=(x,some (f.r,Zbc f.r (Zad x.s.sh f.r f.clock x.s.sh.length)),0):=by
  have n1:(x.s.up=false)=False:=by simp[hu]
  have n2:(f.kind=1)=False:=by simp[hk]
  have n3:(f.kind=3)=True:=by simp[hk]
  simp only[Zh,Zaq,ZdQ,n1,n2,n3,if_false,if_true]
 rw[ho];refine⟨Bd.le.refl B,rfl,h,λto g hg=>?_⟩;simp only[Option.some.injEq,Prod.mk.injEq]at hg;obtain⟨rfl,rfl⟩:=hg;have hl:=eU.len;simp only at hl;have eR:∀e∈Zad x.s.sh f.r f.clock x.s.sh.length,EvH c f.r B e:=λe he=>by
  obtain⟨i,s,h1,h2,h3,h4,h5⟩:=Zfh.1 he;have g:=eU.sh i s h3;obtain⟨a1,a2⟩:=g.all e h4;exact⟨a1,by rw[a2];exact h2,by rw[a2];exact ZT (g.num h4) g.hub⟩
 have hlen:(Zad x.s.sh f.r f.clock x.s.sh.length).length<=20:=by
  have:=ZfM (sh:=x.s.sh) (r:=f.r) (c:=f.clock) (m:=4) (λs hs=>by
   obtain⟨i,hi,rfl⟩:=List.getElem_of_mem hs;have:=(eU.sh i _ (ZX hi)).len;have:=hc.w4
   omega) x.s.sh.length
  have h1:x.s.sh.length=c.n:=hl;have:=hc.n5;omega
 exact⟨⟨Zk2 hf.ok.r hlen (λe he=>(eR e he).good.ok),hf.r,.inr rfl,by simp[Zbc],eR,rfl⟩,rfl⟩
theorem HubInv.bV(h:HubInv c B x)(hu:x.s.up=true)(hc:c.Ok)(hb:tot B.made<=100)(hf:HubFrm c B f)(hk:f.kind=5):HubTook c B (Zh c x f) B:=by
 obtain⟨g1,g2,g3⟩:=h.up hu;have eU:=h.inv;rw[g3]at eU;have hl:=eU.len;have jc:=eU.len2;have gM:=hf.r;simp only at hl jc;have n1:(x.s.up=false)=False:=by simp[hu]
 have n2:(f.kind=1)=False:=by simp[hk]
 have n3:(f.kind=3)=False:=by simp[hk]
 have pU:x.s.told[f.r]? = some (x.s.told.getD f.r ZCz):=by rw[List.getD_eq_getElem?_getD,ZX ZO];rfl
 have uV:(Z8 x.s.told f).getD f.r ZCz=(x.s.told.getD f.r ZCz).join f.clock:=by
  unfold Z8;rw[List.getD_eq_getElem?_getD,List.getElem?_set_self ZO];rfl
 by_cases hs:(x.s.told.getD f.r ZCz).join f.clock=x.s.told.getD f.r ZCz
 ·have ht:Z8 x.s.told f=x.s.told:=by
   unfold Z8;rw[hs];exact Zhf pU
  have N1:Zav x.s.sh (Z8 x.s.told f) x.s.sh.length=x.s.sh:=by rw[ht];exact ZoK eU.cut
  have ho:Zh c x f=(⟨⟨true,x.s.d,x.s.sh,x.s.told⟩,x.rs⟩,none,0):=by
   simp only[Zh,Zaq,ZdQ,n1,n2,n3,if_false,uV,hs,if_true,N1];rw[ht]
  rw[ho];exact⟨Bd.le.refl B,rfl,⟨h.rows,h.ok,h.rep,h.inv,h.len,h.hub,λ_=>⟨g1,g2,g3⟩⟩,λto g hg=>by cases hg⟩
 ·obtain⟨jg,ht⟩:∃t,t=Z8 x.s.told f:=⟨_,rfl⟩;obtain⟨Au,im⟩:∃t,t=Zav x.s.sh jg x.s.sh.length:=⟨_,rfl⟩;have eP:(Au,jg)=ZbG c.w (x.s.sh,x.s.told) (Zau f):=by
   unfold ZbG Zau;simp only;rw[ZPn ZO,ZPp trivial,im,ht];rfl
  have hlen:Au.length=c.n:=by rw[im,Zcy];exact hl
  have zH:∀i y,Au[i]? = some y->∃z,x.s.sh[i]? = some z/\y=cutSh jg i z:=λi y hy=>by
   have hi:i<x.s.sh.length:=by
    have:=(ZZ.1 hy).1;omega
   have:=Zed (told:=jg) hi (ZX hi);rw[←im,hy]at this;injection this with this;exact⟨_,ZX hi,this⟩
  have OW:PostInv c B (Au,jg):=by
   refine⟨hlen,by simp only;rw[ht];unfold Z8;rw[List.length_set];exact jc,λi y hy=>?_,λy hy i=>?_,λi y hy=>?_⟩
   ·obtain⟨z,h1,rfl⟩:=zH i y hy;exact(eU.sh i z h1).cut jg i
   ·simp only at hy;rw[ht]at hy;unfold Z8 at hy;rcases List.mem_or_eq_of_mem_set hy with hy|rfl
    ·exact eU.told y hy i
    ·rw[Zdq];exact Nat.max_le.2 ⟨eU.told _ (ZY pU) i,hf.clk i⟩
   ·obtain⟨z,h1,rfl⟩:=zH i y hy;exact ZkW jg i z
  have zP:lensOf Au=lensOf x.s.sh:=by rw[im];exact ZfS ..
  have eA:∀i,B.hub i=hubLen (Au,jg).1 i:=λi=>by
   simp only;unfold hubLen;rw[zP];have:=h.hub i;rw[g3]at this;exact this
  have sV:(lensOf x.s.sh).sum+(x.s.told.map clkSum).sum+1<=(lensOf Au).sum+(jg.map clkSum).sum:=by
   have h1:(x.s.told.map clkSum)[f.r]? = some (clkSum (x.s.told.getD f.r ZCz)):=by rw[List.getElem?_map,pU];rfl
   have h2:=ZkP (clkSum ((x.s.told.getD f.r ZCz).join f.clock)) h1;have h3:=Znt hs;have h4:jg.map clkSum=(x.s.told.map clkSum).set f.r (clkSum ((x.s.told.getD f.r ZCz).join f.clock)):=by rw[ht];unfold Z8;rw[List.map_set]
   rw[zP,h4];omega
  have na:NextOk (x.s.sh,x.s.told) (Zau f):=⟨by simp only[Zau];omega,.inr rfl,λh=>by simp[Zau]at h⟩;obtain⟨B2,k1,k2,k3,k4⟩:=h.wrote hu hc hb (Bd.le.refl B) rfl (ZkT hf.ok) eP na OW eA sV (up:=decide ((x.s.d.write (recBytes (Zau f))).2=0)) ZM;have dx:B2=B:=by
   have h1:∀i,B2.hub i=B.hub i:=λi=>by
    have h2:=k3.hub i;have h3:∀KB,(KB=x.rs∨KB=x.rs++[Zau f])->hubLen (repl c KB).1 i=B.hub i:=λKB hr=>by
     rcases hr with rfl|rfl
     ·exact(h.hub i).symm
     ·rw[Zhd,g3,←eP];exact(eA i).symm
    rw[h2];refine h3 _ ?_;unfold ZaL;simp only;split
    ·exact .inl rfl
    ·split
     ·split
      ·exact .inr rfl
      ·exact .inl rfl
     ·exact .inr rfl
   obtain⟨m2,u2⟩:=B2;obtain⟨m1,u1⟩:=B;simp only at k2 h1;rw[k2,funext h1]
  rw[dx]at k3;have ho:Zh c x f=(⟨⟨decide ((x.s.d.write (recBytes (Zau f))).2=0),(x.s.d.write (recBytes (Zau f))).1,Au,jg⟩,ZaL x.s.d x.rs (Zau f)⟩,none,if (x.s.d.write (recBytes (Zau f))).2=0 then 0 else 18):=by
   simp only[Zh,Zaq,ZdQ,n1,n2,n3,if_false,uV,hs];rw[←ht,←im];split
   ·rename_i hw;simp[hw]
   ·rename_i hw;simp[hw]
  rw[ho];exact⟨Bd.le.refl B,rfl,k3,λto g hg=>by cases hg⟩
theorem HubInv.take(h:HubInv c B x)(hc:c.Ok)(hb:tot B.made<=100)(hf:HubFrm c B f):∃B',HubTook c B (Zh c x f) B':=by
 by_cases hu:x.s.up=true
 ·rcases hf.kind with hk|hk|hk
  ·exact h.push hu hc hb hf hk
  ·exact⟨B,h.bF hu hc hf hk⟩
  ·exact⟨B,h.bV hu hc hb hf hk⟩
 ·have ho:Zh c x f=(x,none,18):=by
   unfold Zh Zaq ZdQ;rw[ZPp (by simpa using hu),ZPp (by simpa using hu)]
  rw[ho];exact⟨B,Bd.le.refl B,rfl,h,λto g hg=>by cases hg⟩
end
theorem RecLoose.co{own:Own}{ps:List (Frm×Value)}(h:RecLoose own w v rs ps){q:Nat}(hf:rs[q]? = some f):∃b a n c av,v=S_ (some ⟨b,0,none⟩) rs.length c/\b<w.heap.size/\Loose own w a n av f.events/\n=f.events.length /\
  (∀j,j<9->w.cell? ⟨b,q*9+j,none⟩=(Za f (S_ a n av))[j]?):=by
 have hq:=(ZZ.1 hf).1;obtain⟨a0,c0,rfl⟩:=Zl h.rows.row;obtain⟨g,hg,ez,cB⟩:=Zbm h.rows.row ZO;have gx:ps.length=rs.length:=by rw[←h.rows.is_];simp
 obtain⟨p,hp⟩:∃p,ps[q]? = some p:=⟨_,ZX ZO⟩;have Ac:p.1=f:=by
  have:=h.rows.is_;have h2:(ps.map (·.1))[q]? = some p.1:=by rw[List.getElem?_map,hp];rfl
  rw[this,hf]at h2;injection h2 with h2;exact h2.symm
 have mE:=h.rows.evs p (ZY hp);have rM:=h.o2 p (ZY hp);obtain⟨av,cv,hv,eW⟩:=EvSl.ae mE;rw[hv]at mE rM;rw[Ac]at hv eW;refine⟨g,av,_,c0,cv,by rw[hg],ez,⟨eW,λad e=>?_⟩,rfl,λj hj=>?_⟩
 ·subst e;exact⟨rM _ rfl,(Zb mE rfl).2⟩
 ·rw[cB _ (by rw[Zh6];omega),ZfV ps q j p hp hj,Ac,hv]
theorem StartRun.append{own0 own:Own}{w0 w7:World}{dp:Nat}{al:Option Addr}{cl:Nat}{bv iv ov v7:Value}{log:List Ev}{sent:Nat}{ps:List (Frm×Value)}(h:StartRun own0 own t w0 p dp (S_ al log.length cl) bv iv ov c r d log sent v rs ps w)(ht:0<t){n:Nat}(hn:n=l.length)
  (dk:w7.ownsRow 0 89 12 v7 (log.length+n) (evCells log++evCells l)) (hg:w.grownBy w7 (Value.slice al log.length cl).ownBlock) (iy:v7.ownBlock=(Value.slice al log.length cl).ownBlock∨v7.ownBlock=some w.heap.size) :
  w7.cell? ⟨p,9,none⟩=some (S_ al log.length cl)/\w7.frozen? ⟨p,9,none⟩=false/\p<w7.heap.size/\∃ef,StartRun own0 ef t w0 p dp v7 bv iv ov c r d (log++l) sent v rs ps (w7.setCell ⟨p,9,none⟩ v7)/\Upd (λm=>m=t∨m=t+2) own ef w (w7.setCell ⟨p,9,none⟩ v7):=by
 obtain⟨jw,it⟩:=Upd.grow (T:=(· = t+2)) (Upd.refl (· = t+2) own w h.upd.fresh) rfl (λg hg=>h.row.own g hg) (λg hg=>(Zb dk hg).2) hg iy;have hb:=h.blk.upd jw (by rw[h.mine];omega);have cT:RowAt (own.put v7 (t+2)) (t+2) w7 v7 (log++l):=⟨by rw[ZI,←hn,ZbE];exact dk,λg hg=>by unfold Own.put;rw[ZPp hg]⟩;have hs:=h.put ht jw cT rfl;refine⟨hb.cell 9,hb.frozen 9,hb.lt,_,hs,?_⟩;have hm:own.put v7 (t+2) p=t:=hs.mine;have fG:Upd (· = t) (own.put v7 (t+2)) (own.put v7 (t+2)) w7 (w7.setCell ⟨p,9,none⟩ v7):=(Upd.refl (· = t) _ w7 jw.fresh).setCell (p:=⟨p,9,none⟩) (λ_=>hm) _;exact(jw.mono (λm hm => .inr hm)).trans (fG.mono (λm hm => .inl hm))
section
variable {own:Own}{t p r:Nat}{w:World}{c:Cfg}{s:NodeSt}
theorem ZlX(h:NodeAt own t w p c r s)(hu:s.up=true):
  Calls prog 45 #[ptrV p] w λe w'=>e=R_ (I_ J_ 19)/\L_ w w':=by
 obtain⟨h1,dp,bp,ip,op,lv,h3,h4,h5,h6,h7,h8⟩:=h;obtain⟨c6,c7,c8,c9,dg,dh,eH,eI⟩:=h3.ai;have cI:=h3.lt;clear h3 h4 h5 h6 h7 h8;obtain⟨up,d,log,sent,book,clk,held,wait⟩:=s;simp only at hu;subst hu;go_enter func45,ntmps45;go_wp2_with fail;go_step3
 go_wp2_with fail;rw[Exit.noGoto_ret];go_ret;exact⟨rfl,ZW _ _⟩
theorem Zj1{dv SC bv iv ov:Value}{rS:Nat}(ht:0<t)(hm:own p=t)(hb:Blk w p 133 (nodeArr c r false dv SC rS bv iv ov))(hf:Fresh own w)(hd:(∃dp,dv=ptrV dp/\DiskAt own (t+1) w dp d)∨(dv=P_ none/\d=Dk.new))(hr:Rows d.bytes rs)(hlen:∀q,(nodeRecs (rs.take q)).1.length<=1000)(em:LogOk c.q r (nodeRecs rs).2 (nodeRecs rs).1):
  Calls prog 45 #[ptrV p] w λe w'=>e=R_ (I_ J_ 0)/\∃own',NodeAt own' t w' p c r ⟨true,⟨recsBytes rs,false,false,d.keep⟩,(nodeRecs rs).1,(nodeRecs rs).2,(nodeRecs rs).1.foldl applyN [],clkOf (nodeRecs rs).1,[],waitN r (nodeRecs rs).2 (nodeRecs rs).1⟩/\Upd (NodeT t) own own' w w':=by
 have Sq:=ZkB (td:=t+1) hb hm hf (by
  rcases hd with ⟨dp,h1,h2⟩|⟨h1,h2⟩
  ·exact .inl ⟨dp,by rw[h1];rfl,h2⟩
  ·exact .inr ⟨by rw[h1];rfl,h2⟩)
 obtain⟨c6,c7,c8,c9,dg,dh,eH,eI⟩:=hb.ai;have gx:=hb.lt;obtain⟨i0,hi,dd,cV,dc⟩:=info_parts ZbV;obtain⟨MG,HR,HM,gR,dU⟩:=ZH5 Sq hr hm hlen em;clear Sq hb hm hf hd hr hlen em;go_enter func45,ntmps45;go_wp2_with fail;go_step3
 go_wp2_with fail;refine MG.out.mono ?_;rintro _ w1 ⟨cZ,dp,rfl,cz,nz,cN⟩;have lZ:Hid (cZ p=t):=ZH ((cN.old p gx).trans HM.out);have Gl:Blk w1 p 133 (nodeArr c r false (ptrV dp) SC rS bv iv ov):=cz;obtain⟨gc,dA,dj⟩:=ZH3 (ZjH nz cN.fresh) (cN.mono (T':=NodeT t) (λm hm=>by rcases hm with h|h <;> exact⟨ZO,ZO⟩)) Gl;clear cN nz cz Gl;go_wp2_with fail;refine gc.out.mono ?_;rintro _ w2 ⟨rfl,jM,cM⟩;have BT:=ZjG jM (by have:=HR.out.big;simp only[Dk.start];omega);have oE:¬cZ p=t+1:=by rw[lZ.out];omega
 obtain⟨df,dC,rj,KR⟩:=ZH4 (dj.out.upd cM oE) (dA.out.trans (cM.mono (T':=NodeT t) (λ_ h=>⟨ZO,ZO⟩))) jM BT;clear jM cM BT oE;go_wp2_with fail;refine KR.out.mono ?_;rintro _ w3 ⟨v3,rfl,fd,cG⟩;obtain⟨AB,ew,jx,dN⟩:=ZH4 (Zh7 fd HR.out) (dC.out.kept cG) (rj.out.upd (ZUb (T:=λ_=>False) cG dC.out.fresh) (λh=>h)) (df.out.ob cG);obtain⟨a3,c3,rfl⟩:=Zl fd;clear fd cG;go_wp2_with fail;refine AB.out.mono ?_;rintro _ w4 ⟨v4,ps,rfl,mO,cS⟩;have ei:=ew.out.kept cS;have m7:=jx.out.upd (ZUb (T:=λ_=>False) cS ew.out.fresh) (λh=>h);have eE:(recsBytes rs).length<=d.start.bytes.length:=by
  obtain⟨f0,m,_,_,hl⟩:=HR.out.is_;simp only[Dk.start];rw[hl,ZI];omega
 have pV:=Zk0 m7 ei.fresh eE (by have:=HR.out.big;simp only[Dk.start];omega);have gy:=ZH (dN.out.ob cS);obtain⟨a4,c4,rfl⟩:=Zl mO.row;obtain⟨gj,pg,xr,pi⟩:=ZH4 ei pV mO ew.out.size;clear mO cS ei m7 pV eE;go_wp2_with fail;refine pg.out.mono ?_;rintro _ w5 ⟨rfl,kg,iD⟩;have xZ:d.start.trim (recsBytes rs).length=⟨recsBytes rs,false,false,d.keep⟩:=by
  obtain⟨f0,m,_,_,hl⟩:=HR.out.is_;simp only[Dk.start,Dk.trim,hl,List.take_left]
 rw[xZ]at kg
 have sS:RecRows w.heap.size w5 (S_ a4 rs.length c4) rs ps:=xr.out.keep (λg h1 h2=>iD.same g h2 (λh=>by
  rw[ew.out.fresh g h1]at h
  omega)) pi.out
 have dH:=gy.out.upd iD (by rw[lZ.out];omega);have C7:=gj.out.trans (iD.mono (T':=NodeT t) (λ_ h=>⟨ZO,ZO⟩));have kT:RecLoose cZ w5 (S_ a4 rs.length c4) rs ps:=⟨⟨sS.is_,Zj sS.row (Nat.zero_le _),λx hx=>Zj (sS.evs x hx) (Nat.zero_le _)⟩,λg hg=>ew.out.fresh g (Zb xr.out.row hg).1,λx hx g hg=>ew.out.fresh g (Zb (xr.out.evs x hx) hg).1⟩;have Ks:Upd (· = t) cZ cZ w5 (w5.setCell ⟨p,9,none⟩ (S_ none 0 0)):=(Upd.refl (· = t) cZ w5 C7.fresh).setCell (p:=⟨p,9,none⟩) (λ_=>lZ.out) _;have eK:Blk (w5.setCell ⟨p,9,none⟩ (S_ none 0 0)) p 133 (nodeArr c r false (ptrV dp) (S_ none 0 0) rS bv iv ov):=dH.aj 9 _;have Ai:StartRun own cZ t w p dp (S_ none 0 0) bv iv ov c r ⟨recsBytes rs,false,false,d.keep⟩ [] rS (S_ a4 rs.length c4) rs ps (w5.setCell ⟨p,9,none⟩ (S_ none 0 0)) :=
  ⟨lZ.out,eK,kg.upd Ks ZO,RowAt.none_ _ _ _,kT.upd Ks ZO,C7.trans (Ks.mono (λm hm=>⟨ZO,ZO⟩))⟩
 have E8:=ZH (Ai.tell ht (sent':=0) (x := I_ J_ 0) rfl);have e9:=dH.cell 9;have g9:=dH.frozen 9;have jj:=eK.cell 10;have DK:=eK.frozen 10;have qh:=dH.lt;have Ct:=eK.lt;simp only[ZD,ZE,ZG]at e9 jj;clear kg iD xZ sS dH C7 kT Ks eK Ai c6 c7 c8 c9 dg dh eH eI;have Pc:=HR.out.len;go_wp2_with fail;go_step3
 generalize ((w5.setCell ⟨p,9,none⟩ (S_ none 0 0)).setCell ⟨p,10,none⟩ (I_ J_ 0))=W at *;clear e9 g9 jj DK qh Ct;go_wp2_with fail;go_loopw [33] (λi wr=>∃(q:Nat) (dY:Own) (lv:Value),q<=rs.length/\i=I_ J_ q/\Hid (StartRun own dY t w p dp lv bv iv ov c r ⟨recsBytes rs,false,false,d.keep⟩ (nodeRecs (rs.take q)).1 (nodeRecs (rs.take q)).2 (S_ a4 rs.length c4) rs ps wr)) (λi _=>rs.length-(intOf i).toNat)
 case atStart=>exact⟨0,cZ,S_ none 0 0,Nat.zero_le _,rfl,E8⟩
 case round =>
  skip
  obtain⟨q,dY,lv,hq,rfl,HH⟩:=hrel;by_cases du:q<rs.length
  ·obtain⟨f,wq⟩:∃f,rs[q]? = some f:=⟨_,ZX du⟩;obtain⟨b,ea,en,cv,sn,C9,cW,eW,kj,cB⟩:=HH.out.recs.co wq;injection C9 with C9 _ Kw;subst C9 Kw;have k0:=cB 0 ZO;have k1:=cB 1 ZO;have k2:=cB 2 ZO;have k3:=cB 3 ZO;have k4:=cB 4 ZO;have k5:=cB 5 ZO;have k6:=cB 6 ZO;have k7:=cB 7 ZO;have k8:=cB 8 ZO;simp only[ZD,ZE,ZG,Nat.add_zero]at k0 k1 k2 k3 k4 k5 k6 k7 k8;obtain⟨xw,Ui⟩:=ZH2 (ZlV wq) (gR.out q);have yy:=HR.out.ok f (ZY wq);have fW:=(ZW wr.heap.size wr).alloc (ZL _) (C_ (Za f (S_ ea en sn)) 150);have hX:=ZBn wr 150 (Za f (S_ ea en sn));have nT:=HH.out.kept fW;have jV:=ZH (eW.upd (T:=λ_=>False) (ZUb fW HH.out.upd.fresh) (λh=>h));have sg:Hid (dY wr.heap.size=0):=ZH (HH.out.upd.fresh _ (ZL _));have fX:f.events.length<=1000:=yy.len;obtain⟨HX,iH,wZ,P8⟩:=ZH4 hX nT kj fX;obtain⟨x0,x1,x2,x3,x4,x5,x6,x7,x8⟩:=hX.am;obtain⟨c6,c7,c8,c9,dg,dh,eH,eI⟩:=nT.blk.ai;have f9:=nT.blk.frozen 9;have f10:=nT.blk.frozen 10;have hlw:=nT.blk.lt;clear cB wq yy fW hX nT eW kj fX;by_cases dr:f.kind=3
   ·have qk:((f.kind:Int)==3)=true:=by simp[dr]
    have cU:=ZH dr;clear dr;go_wp2
    go_roundw
    case rel =>
     refine⟨q+1,dY,lv,ZO,ZN,?_⟩;rw[xw.out];unfold Zap;rw[ZPp cU.out];exact ZH (iH.out.tell ht rfl)
    case measure=>simp[intOf];omega
   ·by_cases dM:f.kind=4
    ·have qk:((f.kind:Int)==3)=false:=ZP;have vS:((f.kind:Int)==4)=true:=by simp[dM]
     obtain⟨dw,cU⟩:=ZH2 dM dr;clear dr dM;go_wp2_with fail;obtain⟨W2,Gc⟩:∃W2,W2=(wr.alloc (C_ (Za f (S_ ea en sn)) 150)):=⟨_,rfl⟩;simp only[←Gc]at *;clear Gc c6 c7 c8 c9 dg dh eH eI x0 x1 x2 x3 x4 x5 x6 x7 x8;refine ZSg (λw'=>Blk w' wr.heap.size 150 (Za f (S_ ea en sn))) [(0,3),(1,3),(2,3),(3,0),(4,0),(5,3),(6,1),(7,0),(8,3),(9,2)] (HX.out.ob (ZW W2.heap.size W2).drew) λcu=>?_
     repeat((first|refine ZSa ?_|refine ZSb ?_|(refine Zf rfl (by rfl) (λw' cL=>by(obtain⟨x0,x1,x2,x3,x4,x5,x6,x7,x8⟩:=Blk.am cL);go_simp;with_reducible rfl) ?_));simp only[Act.put,Q_])
     refine ZSd λK hK=>?_
     have fu:=iH.out.kept ((ZW W2.heap.size W2).drew);have e9:=fu.blk.cell 9;have g9:=fu.blk.frozen 9;have Km:=fu.blk.lt;simp only[ZD,ZE,ZG]at e9;go_simp;have iK:∀(a:Addr) (v:Value) (w:World),w.drew.setCell a v=(w.setCell a v).drew:=λ_ _ _=>rfl
     have iO:=fu.put (lv' := S_ none 0 0) (log':=[]) (x := S_ none 0 0) ht (Upd.refl _ _ _ fu.upd.fresh) (RowAt.none_ _ _ _) rfl;have fG:Upd (· = t) dY dY W2.drew (W2.drew.setCell ⟨p,9,none⟩ (S_ none 0 0)):=(Upd.refl (· = t) dY _ fu.upd.fresh).setCell (p:=⟨p,9,none⟩) (λ_=>fu.mine) _;have jj:=iO.blk.cell 10;have DK:=iO.blk.frozen 10;have yh:=iO.blk.lt;rw[iK]at jj DK yh;simp only[ZD,ZE,ZG]at jj;have dE:Upd (λ_=>False) dY dY W2 W2.drew:=ZUb (ZW W2.heap.size W2).drew iH.out.upd.fresh;obtain⟨jA,MM,gS⟩:=ZH3 ((HX.out.ob (ZW W2.heap.size W2).drew).upd fG (by rw[sg.out];omega)) ((jV.out.upd dE (λh=>h)).upd fG ZO) iO;refine hK.out (λw'=>Blk w' wr.heap.size 150 (Za f (S_ ea en sn))) _ _ (λ_ h=>h) jA.out (λxI=>?_);clear hK K fu iO fG dE cu xI e9 g9 Km;repeat((first|refine ZSa ?_|refine ZSb ?_|(refine Zf rfl (by rfl) (λw' cL=>by(obtain⟨x0,x1,x2,x3,x4,x5,x6,x7,x8⟩:=Blk.am cL);go_simp;with_reducible rfl) ?_));simp only[Act.put,Q_])
     refine ZSe λK hK=>?_
     go_simp;refine hK.out _ _ ?_;clear hK K jj DK;refine ZSf ?_;have eO:=gS.out.tell ht (sent':=f.upto) (x := I_ J_ f.upto) rfl;have rO:Upd (· = t) dY dY (W2.drew.setCell ⟨p,9,none⟩ (S_ none 0 0)) ((W2.drew.setCell ⟨p,9,none⟩ (S_ none 0 0)).setCell ⟨p,10,none⟩ (I_ J_ f.upto)):=(Upd.refl (· = t) dY _ gS.out.upd.fresh).setCell (p:=⟨p,10,none⟩) (λ_=>gS.out.mine) _;rw[iK,iK]at eO rO;obtain⟨qb,MN,io⟩:=ZH3 (jA.out.upd rO (by rw[sg.out];omega)) (MM.out.upd rO ZO) eO;generalize ((W2.setCell ⟨p,9,none⟩ (S_ none 0 0)).setCell ⟨p,10,none⟩ (I_ J_ f.upto)).drew=W5 at *;clear eO rO yh;go_wp2_with fail;have VU:([]:List Ev).length<=1000:=ZM;refine ZSi [(0,3),(1,3),(2,0),(3,3),(4,0),(5,3),(6,0),(7,2),(8,3),(9,3),(10,2)] λcu=>?_
     repeat((first|refine ZSa ?_|refine ZSb ?_|(refine Zf rfl (by rfl) (λw' cL=>by(obtain⟨c6,c7,c8,c9,dg,dh,eH,eI⟩:=(io.out.blk.ob cL.below).ai);(obtain⟨x0,x1,x2,x3,x4,x5,x6,x7,x8⟩:=(qb.out.ob cL.below).am);go_simp;with_reducible rfl) ?_));simp only[Act.put,Q_])
     refine ZSe λK hK=>?_
     have fu:=io.out.kept ((ZW W5.heap.size W5).drew);have kj:=wZ.out;have fX:=P8.out;refine Za9 _ (.tmp 60) (.tmp 62) _ rfl 0 89 i0 _ 12 112 underlying128 hi dd cV dc rfl ZO (S_ none 0 0) 0 (evCells ([]:List Ev)) rfl fu.row.row W5.heap.size ea en sn (evCells f.events) rfl (MN.out.sl.below (ZW W5.heap.size W5).drew).reads (ZbC _) ZF ZO (Nat.zero_le _) ?_;intro v7 w7 cF db ey;obtain⟨a7,k7,rfl⟩:=Zl cF;obtain⟨d9,g9,OC,ef,yz,_⟩:=fu.append ht kj cF db ey;rw[Nat.zero_add,List.nil_append]at yz;have Dz:=ZH yz;refine hK.out _ _ ?_;clear hK K fu cF db ey yz cu kj fX;repeat((first|refine ZSa ?_|refine ZSb ?_|refine ZSc ?_);simp only[Act.put,Q_])
     refine ZSe λK hK=>?_
     go_simp;refine hK.out _ _ ?_;clear hK K d9 g9;refine ZSf ?_;go_wp2
     go_roundw
     case rel =>
      refine⟨q+1,ef,?lv1,Nat.succ_le_of_lt du,?num1,?fin1⟩
      case fin1=>rw[xw.out];unfold Zap;rw[ZPn cU.out,ZPp dw.out];exact Dz
      case num1=>go_num
     case measure=>simp[intOf];omega
    ·have qk:((f.kind:Int)==3)=false:=ZP;have vS:((f.kind:Int)==4)=false:=ZP;obtain⟨dw,cU⟩:=ZH2 dM dr;clear dr dM;go_wp2_with fail;obtain⟨W2,Gc⟩:∃W2,W2=(wr.alloc (C_ (Za f (S_ ea en sn)) 150)):=⟨_,rfl⟩;simp only[←Gc]at *;clear Gc c6 c7 c8 c9 dg dh eH eI x0 x1 x2 x3 x4 x5 x6 x7 x8;have Ph:=(EvSl.ae iH.out.row.row);obtain⟨al,cl,vg,_⟩:=Ph;subst vg;have VU:(nodeRecs (rs.take q)).1.length<=1000:=Ui.out;refine ZSi [(0,3),(1,3),(2,0),(3,3),(4,0),(5,3),(6,0),(7,2),(8,3),(9,3),(10,2)] λcu=>?_
     repeat((first|refine ZSa ?_|refine ZSb ?_|(refine Zf rfl (by rfl) (λw' cL=>by(obtain⟨c6,c7,c8,c9,dg,dh,eH,eI⟩:=(iH.out.blk.ob cL.below).ai);(obtain⟨x0,x1,x2,x3,x4,x5,x6,x7,x8⟩:=(HX.out.ob cL.below).am);go_simp;with_reducible rfl) ?_));simp only[Act.put,Q_])
     refine ZSe λK hK=>?_
     have fu:=iH.out.kept ((ZW W2.heap.size W2).drew);have kj:=wZ.out;have fX:=P8.out;refine Za9 _ (.tmp 60) (.tmp 62) _ rfl 0 89 i0 _ 12 112 underlying128 hi dd cV dc rfl ZO (S_ al (nodeRecs (rs.take q)).1.length cl) (nodeRecs (rs.take q)).1.length (evCells (nodeRecs (rs.take q)).1) rfl fu.row.row W2.heap.size ea en sn (evCells f.events) rfl (jV.out.sl.below (ZW W2.heap.size W2).drew).reads (ZbC _) ZF ZO (Nat.zero_le _) ?_;intro v7 w7 cF db ey;obtain⟨a7,k7,rfl⟩:=Zl cF;obtain⟨d9,g9,OC,ef,yz,_⟩:=fu.append ht kj cF db ey;have Dz:=ZH yz;refine hK.out _ _ ?_;clear hK K fu cF db ey yz cu kj fX;repeat((first|refine ZSa ?_|refine ZSb ?_|refine ZSc ?_);simp only[Act.put,Q_])
     refine ZSe λK hK=>?_
     go_simp;refine hK.out _ _ ?_;clear hK K d9 g9;refine ZSf ?_;go_wp2
     go_roundw
     case rel =>
      refine⟨q+1,ef,?lv2,Nat.succ_le_of_lt du,?num2,?fin2⟩
      case fin2=>rw[xw.out];unfold Zap;rw[ZPn cU.out,ZPn dw.out];exact Dz
      case num2=>go_num
     case measure=>simp[intOf];omega
  ·obtain rfl:q=rs.length:=ZO;rw[List.take_length]at HH;obtain⟨Dq,HU⟩:=ZH2 (Zpp ht HH.out.upd.fresh HH.out.mine HH.out.blk HH.out.disk HH.out.row dU.out) HH.out.upd;go_wp2_with fail;refine Dq.out.mono ?_;rintro _ w8 ⟨rfl,re,tq,lE⟩;obtain⟨h1,U6,UX,Ws,Wy,Wu,h3,h4,h5,h6,h7,h8⟩:=tq;have c7:=h3.cell 7;have f7:=h3.frozen 7;have R5:=h3.lt;simp only[ZD,ZE,ZG]at c7;have CK:Upd (· = t) re re w8 (w8.setCell ⟨p,7,none⟩ (B_ true)):=(Upd.refl (· = t) re w8 lE.fresh).setCell (p:=⟨p,7,none⟩) (λ_=>h1) _;have dz:NodeAt re t (w8.setCell ⟨p,7,none⟩ (B_ true)) p c r ⟨true,⟨recsBytes rs,false,false,d.keep⟩,(nodeRecs rs).1,(nodeRecs rs).2,(nodeRecs rs).1.foldl applyN [],clkOf (nodeRecs rs).1,[],waitN r (nodeRecs rs).2 (nodeRecs rs).1⟩ :=
    ⟨h1,U6,UX,Ws,Wy,Wu,h3.aj 7 _,h4.upd CK ZO,h5.upd CK ZO,h6.upd CK ZO,h7.upd CK ZO,h8.upd CK ZO⟩
   obtain⟨uc,rZ⟩:=ZH2 ((HU.out.trans lE).trans (CK.mono (T':=NodeT t) (λm hm=>⟨ZO,ZO⟩))) dz;clear h3 h4 h5 h6 h7 h8 lE CK dz;go_wp2_with fail;rw[Exit.noGoto_ret];go_ret;exact⟨rfl,re,rZ.out,uc.out⟩
end
theorem Zpl(q r:Nat):LogOk q r (nodeRecs []).2 (nodeRecs []).1:=⟨by simp[nodeRecs],by simp[nodeRecs],λi e h=>by simp[nodeRecs,waitN]at h,by simp[nodeRecs,waitN],by simp[nodeRecs]⟩
def NodeSt.new:NodeSt:=⟨true,Dk.new,[],0,[],ZCz,[],[]⟩
theorem Zst{own:Own}(ht:0<t)(hf:Fresh own w)(hc:c.Ok)(hr:r<c.n):
  Calls prog 30 #[Zd1 c,I_ J_ r] w λe w'=>∃p own',e=R_ (.tuple #[ptrV p,I_ J_ 0])/\w.heap.size<=p/\NodeAt own' t w' p c r NodeSt.new/\Upd (NodeT t) own own' w w':=by
 obtain⟨HB,ed,tQ,HF,HC⟩:=ZH5 (ZBn w 23 (cfgArr c)) ((ZKr w).alloc (C_ (cfgArr c) 23)) (Zmx c hc (w.alloc (C_ (cfgArr c) 23))) hf hc;clear hf hc;have eC:=N_
 have cV:decide ((r:Int)<0)=false:=ZM;have dc:decide ((r:Int)>=(c.n:Int))=false:=ZP;have qk:¬(c.n:Int)<=(r:Int):=ZO;have vS:¬(r:Int)<0:=ZO;go_enter func30,ntmps30;go_wp2_with fail;refine tQ.out.mono ?_;rintro _ w1 ⟨rfl,cz⟩;have dm:=HB.out.ob cz;obtain⟨c0,c1,c2,c3,c4,c5⟩:=dm.aR;have jE:=dm.lt;have dI:=ed.out.step cz;have cN:Upd (λ_=>False) own own w w1:=ZUb dI.below HF.out;have cD:Blk (w1.alloc (C_ (nodeArr c r false (P_ none) (S_ none 0 0) 0 (P_ none) (P_ none) (P_ none)) 133)) w1.heap.size 133 (nodeArr c r false (P_ none) (S_ none 0 0) 0 (P_ none) (P_ none) (P_ none)):=ZBn _ _ _;have cM:Upd (λ_=>False) own own w (w1.alloc (C_ (nodeArr c r false (P_ none) (S_ none 0 0) 0 (P_ none) (P_ none) (P_ none)) 133)):=cN.kept ((ZW _ _).alloc (ZL _) _);have de:=cM.az (g:=w1.heap.size) cN.size ZM t;have gc:=ZH (Zj1 (own:=own.at_ w1.heap.size t) (rs:=[]) ht (by simp[Own.at_]) cD de.fresh (.inr ⟨rfl,rfl⟩) Zhe (λq=>by simp[nodeRecs]) (Zpl c.q r));have dS:=cN.size;have ew:=ZH de;clear dm cz dI cN cD cM de;go_wp2_with fail;refine gc.out.mono ?_;rintro _ w4 ⟨rfl,dX,hh,ei⟩;go_wp2_with fail;go_ret2
 exact⟨w1.heap.size,dX,rfl,dS,hh,(ew.out.mono (λn h=>h.elim)).trans ei⟩
structure WS where
 nodes:Nat->PN
 hub:PH
 link:List (Nat×Frm)
structure St where
 kind:Nat
 r:Nat
 ek:Nat
 key:ByteArray
 label:Nat
 value:ByteArray
 at_:Int
 bit:Int
 mask:Nat
 keep:Int
 turned:Bool
def Zbn(f:Nat->PN)(r:Nat)(x:PN):Nat->PN:=λi=>if i=r then x else f i
theorem ZbA(f:Nat->PN)(r:Nat)(x:PN):Zbn f r x r=x:=by simp[Zbn]
theorem Za7{f:Nat->PN}{x:PN}(h:i≠r):Zbn f r x i=f i:=by simp[Zbn,h]
def Zpo:PN:=⟨NodeSt.new,[]⟩
def ZdZ(c:Cfg):WS:=⟨λ_=>Zpo,Zji c,[]⟩
def Zga(x:WS)(o:Option Frm×Nat):WS×Nat:=match o.1 with|some g=>(⟨x.nodes,x.hub,x.link++[(5,g)]⟩,0)|none=>(x,o.2)
def Za8(c:Cfg)(r:Nat)(s:NodeSt)(kind:Nat):Option Frm×Nat:=if kind=1 then Zfo c r s else if kind=2 then ZcV 3 r s else ZcV 5 r s
def Zcg(c:Cfg)(x:WS)(to:Nat)(f:Frm):WS×Nat :=
 if to<c.n then(⟨Zbn x.nodes to (Zaa c to (x.nodes to) f).1,x.hub,x.link⟩,(Zaa c to (x.nodes to) f).2)
 else(⟨x.nodes,(Zh c x.hub f).1,x.link++(match (Zh c x.hub f).2.1 with|some p=>[p] | none=>[])⟩,(Zh c x.hub f).2.2)
def ZfG(c:Cfg)(x:WS)(to:Nat):Nat:=if to<c.n then(if (x.nodes to).s.up=true then 4 else 18) else(if x.hub.s.up=true then 4 else 18)
def ZdT(x:WS)(s:St)(_p:Nat×Frm):List (Nat×Frm):=if s.kind=5 then x.link else x.link.eraseIdx s.at_.toNat
def ZcN(c:Cfg)(x:WS)(s:St):WS×Nat :=
 if s.at_<0 then(x,24) else
 match x.link[s.at_.toNat]? with
 |none=>(x,24)
 |some p =>
  if s.kind=6 then(⟨x.nodes,x.hub,ZdT x s p⟩,0)
  else if s.kind=7/\s.turned=true then(⟨x.nodes,x.hub,ZdT x s p⟩,ZfG c x p.1)
  else Zcg c ⟨x.nodes,x.hub,ZdT x s p⟩ p.1 p.2
def Zb5(c:Cfg)(x:WS)(s:St):WS×Nat :=
 if s.r<c.n then
  (if s.kind=8 then(⟨Zbn x.nodes s.r (ZcF (x.nodes s.r)),x.hub,x.link⟩,0)
  else if s.kind=9 then(⟨Zbn x.nodes s.r (ZbI s.r (x.nodes s.r)).1,x.hub,x.link⟩,(ZbI s.r (x.nodes s.r)).2)
  else(⟨Zbn x.nodes s.r (ZoT (x.nodes s.r) s.keep),x.hub,x.link⟩,0))
 else if s.r=5 then
  (if s.kind=8 then(⟨x.nodes,ZcR x.hub,x.link⟩,0)
  else if s.kind=9 then(⟨x.nodes,(ZbX c x.hub).1,x.link⟩,(ZbX c x.hub).2)
  else(⟨x.nodes,ZoS x.hub s.keep,x.link⟩,0))
 else(x,1)
def Z4(c:Cfg)(x:WS)(s:St):WS×Nat :=
 if 4<=s.kind/\s.kind<=7 then ZcN c x s
 else if 8<=s.kind/\s.kind<=10 then Zb5 c x s
 else if ¬s.r<c.n then(x,1)
 else if s.kind=0 then(⟨Zbn x.nodes s.r (Zbb c s.r (x.nodes s.r) s.ek s.key s.label s.value).1,x.hub,x.link⟩,(Zbb c s.r (x.nodes s.r) s.ek s.key s.label s.value).2)
 else if s.kind=11 then(⟨Zbn x.nodes s.r (ZcU s.r (x.nodes s.r)).1,x.hub,x.link⟩,(ZcU s.r (x.nodes s.r)).2)
 else Zga x (Za8 c s.r (x.nodes s.r).s s.kind)
structure StOk(c:Cfg)(s:St):Prop where
 kind:s.kind<=11
 r:s.r<c.n∨s.r=5
 edit:EditOk s.ek s.key s.label s.value
 mask:s.mask<4294967296
def FlG(c:Cfg)(B:Bd)(p:Nat×Frm):Prop:=(p.1<c.n/\NodeFrm c B p.1 p.2)∨(p.1=5/\HubFrm c B p.2)
structure WInv(c:Cfg)(B:Bd)(m b:Nat)(x:WS):Prop where
 nodes:∀r,r<c.n->NodeInv c r B b (x.nodes r)
 own:∀r,r<c.n->B.made r=ownN r (x.nodes r)
 hub:∃H:Nat->Nat,(∀i,B.hub i<=H i)/\HubInv c ⟨B.made,H⟩ x.hub/\(x.hub.s.up=true->B.hub=H)
 link:∀p∈x.link,FlG c B p
 len:x.link.length<=b
 sum:tot B.made<=m
section
variable {c:Cfg}{B B':Bd}{m b r:Nat}{x:WS}{s:St}{y:PN}
theorem FlG.more{p:Nat×Frm}(h:FlG c B p)(hB:B.le B'):FlG c B' p:=by
 rcases h with ⟨h1,h2⟩|⟨h1,h2⟩
 ·exact .inl ⟨h1,h2.more hB⟩
 ·exact .inr ⟨h1,h2.more hB⟩
theorem WInv.more(h:WInv c B m b x){m' b':Nat}(hm:m<=m')(hb:b<=b'):WInv c B m' b' x :=
 ⟨λr hr=>(h.nodes r hr).more (Bd.le.refl B) hb,h.own,h.hub,h.link,ZT h.len hb,ZT h.sum hm⟩
theorem WInv.setNode(h:WInv c B m b x)(hy:NodeInv c r B b y)(ho:ownN r y=ownN r (x.nodes r)):WInv c B m b ⟨Zbn x.nodes r y,x.hub,x.link⟩:=by
 refine⟨λi hi=>?_,λi hi=>?_,h.hub,h.link,h.len,h.sum⟩
 ·by_cases e:i=r
  ·subst e;simp only[ZbA];exact hy
  ·simp only[Za7 e];exact h.nodes i hi
 ·by_cases e:i=r
  ·subst e;simp only[ZbA];rw[ho];exact h.own i hi
  ·simp only[Za7 e];exact h.own i hi
theorem WInv.aI(h:WInv c B m b x){l:List (Nat×Frm)}(hl:∀p∈l,FlG c B p)(hn:l.length<=b):WInv c B m b ⟨x.nodes,x.hub,l⟩:=⟨h.nodes,h.own,h.hub,hl,hn,h.sum⟩
theorem WInv.aB(h:WInv c B m b x){y:PH}{H:Nat->Nat}(hH:∀i,B.hub i<=H i)(hy:HubInv c ⟨B.made,H⟩ y)(hu:y.s.up=true->B.hub=H):WInv c B m b ⟨x.nodes,y,x.link⟩:=⟨h.nodes,h.own,⟨H,hH,hy,hu⟩,h.link,h.len,h.sum⟩
theorem Bd.aL{B:Bd}{H:Nat->Nat}(hH:∀i,B.hub i<=H i):B.le ⟨B.made,H⟩:=⟨λ_=>ZL _,hH⟩
theorem WInv.grow(h:WInv c B m b x){H:Nat->Nat}(hH:∀i,B.hub i<=H i){y:PH}(hy:HubInv c ⟨B.made,H⟩ y):WInv c ⟨B.made,H⟩ m b ⟨x.nodes,y,x.link⟩ :=
 ⟨λr hr=>(h.nodes r hr).more (Bd.aL hH) (ZL _),h.own,⟨H,λ_=>ZL _,hy,λ_=>rfl⟩,λp hp=>(h.link p hp).more (Bd.aL hH),h.len,h.sum⟩
theorem ZnJ{x:PH}{p:Nat×Frm}(h:(Zh c x f).2.1=some p):(Zh c x f).1.s.up=true:=by
 unfold Zh Zaq at h ⊢;repeat' split at h
 all_goals first|(cases h;done)|skip
 all_goals simp_all
theorem ZlP{x:PH}(h:x.s.up=false):Zh c x f=(x,none,18):=by
 unfold Zh Zaq ZdQ;rw[ZPp h,ZPp h]
theorem WInv.aO(h:WInv c B m b x)(hc:c.Ok)(hm:m<=100)(hf:HubFrm c B f):∃B',B.le B'/\B'.made=B.made/\WInv c B' m b ⟨x.nodes,(Zh c x.hub f).1,x.link⟩/\((Zh c x.hub f).1.s.up=false->B'=B)/\∀to g,(Zh c x.hub f).2.1=some (to,g)->NodeFrm c B' to g/\(Zh c x.hub f).2.2=0:=by
 obtain⟨H,hH,hi,hu⟩:=h.hub;obtain⟨⟨m1,H1⟩,hk⟩:=hi.take hc (ZT h.sum hm) (hf.more (Bd.aL hH));have e:m1=B.made:=hk.made;subst e;have NJ:∀i,B.hub i<=H1 i:=λi=>ZT (hH i) (hk.le.hub i)
 by_cases dJ:(Zh c x.hub f).1.s.up=true
 ·exact⟨⟨B.made,H1⟩,Bd.aL NJ,rfl,h.grow NJ hk.inv,λhd=>(by rw[dJ]at hd;cases hd),hk.reply⟩
 ·exact⟨B,Bd.le.refl B,rfl,h.aB NJ hk.inv (λkG=>absurd kG dJ),λ_=>rfl,λto g hg=>absurd (ZnJ hg) dJ⟩
theorem NodeInv.new(c:Cfg)(r:Nat)(B:Bd)(b:Nat):NodeInv c r B b Zpo:=⟨DiskInv.new c r B b,λ_=>⟨rfl,rfl,rfl,rfl,rfl,rfl,by simp[Zpo,NodeSt.new],by simp[Zpo,NodeSt.new]⟩⟩
theorem WInv.new(c:Cfg):WInv c ⟨λ_=>0,λ_=>0⟩ 0 0 (ZdZ c) :=
 ⟨λr _=>NodeInv.new c r _ 0,λr _=>rfl,⟨λ_=>0,λ_=>ZL _,HubInv.new λ_=>rfl,λ_=>rfl⟩,by simp[ZdZ],by simp[ZdZ],ZL _⟩
theorem NodeInv.take(h:NodeInv c r B b y)(hr:r<5)(hc:c.h<=20)(hb:tot B.made<=100)(hs:b<=700)(hf:NodeFrm c B r f):NodeInv c r B b (Zaa c r y f).1/\ownN r (Zaa c r y f).1=ownN r y:=by
 unfold Zaa;split
 ·rename_i hu;split
  ·exact h.aM hu hr hb hs hf.upto
  ·exact h.events hu hr hc hb hs hf.evs
 ·exact⟨h,rfl⟩
theorem NodeInv.tell(h:NodeInv c r B b y)(hr:r<c.n)(hc:c.Ok)(hb:tot B.made<=100){kind:Nat}{g:Frm}(hg:(Za8 c r y.s kind).1=some g):HubFrm c B g/\(Za8 c r y.s kind).2=0:=by
 have eO:r<5:=by have:=hc.n5;omega
 have uM:y.s.up=true->∀i,y.s.clk.get i<=B.made i:=λhu i=>by rw[h.clk hu];exact(h.log hu).aD i
 have ht:∀k,(k=3∨k=5)->(ZcV k r y.s).1=some g->HubFrm c B g/\(ZcV k r y.s).2=0:=λk hk hg=>by
  unfold ZcV at hg ⊢;split at hg
  ·rename_i hu;injection hg with hg;subst hg;refine⟨⟨ZoE hk eO λi=>?_,hr,.inr hk,λh1=>?_,uM hu⟩,by rw[ZPp hu]⟩
   ·by_cases hi:i<5
    ·have:=uM hu i;have:=Zdr hb hi;omega
    ·rw[Clk.aC _ ZO];omega
   ·simp only[ZbO]at h1;omega
  ·cases hg
 unfold Za8 at hg ⊢;split at hg
 ·rename_i hk;rw[ZPp hk];unfold Zfo at hg ⊢;split at hg
  ·rename_i hu;rw[ZPp hu];split at hg
   ·cases hg
   ·rename_i hw;rw[ZPn hw];injection hg with hg;subst hg;have hl:=h.log hu;have Ky:y.s.wait=(byR r y.s.log).drop y.s.sent:=by rw[(h.up hu).wait];exact hl.wait
    have eR:∀e∈y.s.wait.take c.w,EvG c B e/\e.r=r:=λe he=>by
     have:=List.mem_of_mem_take he;rw[Ky]at this;obtain⟨h1,h2⟩:=ZeB.1 (List.mem_of_mem_drop this);exact⟨hl.all e h1,h2⟩
    have dD:=hc.w1;have mW:=hc.w4;have hlen:(y.s.wait.take c.w).length<=4/\1<=(y.s.wait.take c.w).length:=by rw[ZV];omega
    refine⟨⟨Zm1 eO ZO hlen.2 (λe he=>⟨(eR e he).1.ok,(eR e he).2⟩),hr,.inl rfl,λ_=>⟨λe he=>(eR e he).1,1+y.s.sent,?_,?_⟩,λi=>by simp only[ZbM];rw[ZbS];omega⟩,rfl⟩
    ·simp only[ZbM];refine From1.take ?_ _;rw[Ky];exact(hl.row r).drop _
    ·simp only[ZbM];have:=hl.sentH;omega
  ·cases hg
 ·rename_i hk;rw[ZPn hk];split at hg
  ·rename_i h2;rw[ZPp h2];exact ht 3 ZO hg
  ·rename_i h2;rw[ZPn h2];exact ht 5 ZO hg
theorem WInv.bg(h:WInv c B m b x)(hc:c.Ok)(hm:m<=100)(hb:b<=700)(hl:x.link.length+1<=b){p:Nat×Frm}(hp:FlG c B p):∃B',B.le B'/\B'.made=B.made/\WInv c B' m b (Zcg c x p.1 p.2).1/\((Zcg c x p.1 p.2).1.hub.s.up=false->B'=B):=by
 have ht:tot B.made<=100:=ZT h.sum hm;unfold Zcg;rcases hp with ⟨hn,hf⟩|⟨h5,hf⟩
 ·rw[ZPp hn];obtain⟨h1,h2⟩:=(h.nodes _ hn).take (by have:=hc.n5;omega) hc.h20 ht hb hf;exact⟨B,Bd.le.refl B,rfl,h.setNode h1 h2,λ_=>rfl⟩
 ·rw[ZPn (by have:=hc.n5;omega)];obtain⟨B',k1,k2,k3,k4,k5⟩:=h.aO hc hm hf;refine⟨B',k1,k2,k3.aI (λq hq=>?_) ?_,k4⟩
  ·rcases List.mem_append.1 hq with hq|hq
   ·exact k3.link q hq
   ·split at hq
    ·rename_i y hy;simp at hq;subst hq;have:=(k5 _ _ hy).1;exact .inl ⟨this.n,this⟩
    ·cases hq
  ·rw[ZI];split <;> simp <;> omega
theorem WInv.pick(h:WInv c B m b x)(s:St)(p:Nat×Frm):WInv c B m b ⟨x.nodes,x.hub,ZdT x s p⟩:=by
 unfold ZdT;refine h.aI (λq hq=>?_) ?_
 ·split at hq
  ·exact h.link q hq
  ·exact h.link q (List.mem_of_mem_eraseIdx hq)
 ·split
  ·exact h.len
  ·exact ZT (List.length_eraseIdx_le _ _) h.len
theorem WInv.bc(h:WInv c B m b x)(hc:c.Ok)(hm:m<=100):∃B',B.le B'/\B'.made=B.made/\WInv c B' m b ⟨x.nodes,(ZbX c x.hub).1,x.link⟩:=by
 obtain⟨H,hH,hi,hu⟩:=h.hub;exact⟨⟨B.made,H⟩,Bd.aL hH,rfl,h.grow hH (hi.start hc (ZT h.sum hm))⟩
theorem ZlB(c:Cfg)(x:PH):(ZbX c x).1.s.up=true:=by
 unfold ZbX;split
 ·assumption
 ·rfl
theorem WInv.step(h:WInv c B m b x)(hc:c.Ok)(hm:m<=99)(hb:b<=699)(hs:StOk c s):∃B',B.le B'/\WInv c B' (m+if s.kind=0 then 1 else 0) (b+1) (Z4 c x s).1/\((Z4 c x s).1.hub.s.up=false->B'.hub=B.hub):=by
 have h5:=hc.n5;have ht:tot B.made<=100:=ZT h.sum ZO;have h':=h.more (ZL m) (Nat.le_succ b);unfold Z4;by_cases hk:4<=s.kind/\s.kind<=7
 ·rw[ZPp hk,ZPn (show ¬s.kind=0 by omega),Nat.add_zero];unfold ZcN;split
  ·exact⟨B,Bd.le.refl B,h',λ_=>rfl⟩
  ·split
   ·exact⟨B,Bd.le.refl B,h',λ_=>rfl⟩
   ·rename_i p hp;have hg:=h.link p (ZY hp);split
    ·exact⟨B,Bd.le.refl B,h'.pick s p,λ_=>rfl⟩
    ·split
     ·exact⟨B,Bd.le.refl B,h'.pick s p,λ_=>rfl⟩
     ·obtain⟨B',h1,h2,h3,h4⟩:=(h'.pick s p).bg hc ZO ZO (by have:=(h.pick s p).len;simp only at this ⊢;omega) hg;exact⟨B',h1,h3,λhd=>by rw[h4 hd]⟩
 ·rw[ZPn hk];by_cases cX:8<=s.kind/\s.kind<=10
  ·rw[ZPp cX,ZPn (show ¬s.kind=0 by omega),Nat.add_zero];unfold Zb5;split
   ·rename_i hr;refine⟨B,Bd.le.refl B,?_,λ_=>rfl⟩;have hn:=h'.nodes _ hr;split
    ·exact h'.setNode hn.aH rfl
    ·split
     ·refine h'.setNode (hn.start ZO ZO) ?_;unfold ZbI;split <;> rfl
     ·exact h'.setNode (hn.cut _) rfl
   ·split
    ·obtain⟨H,hH,hi,hu⟩:=h'.hub;split
     ·exact⟨B,Bd.le.refl B,h'.aB hH hi.aH (λhu=>by simp[ZcR]at hu),λ_=>rfl⟩
     ·split
      ·obtain⟨B',k1,k2,k3⟩:=h'.bc hc ZO;exact⟨B',k1,k3,λhd=>by simp only[ZlB]at hd;cases hd⟩
      ·exact⟨B,Bd.le.refl B,h'.aB hH (hi.cut _) hu,λ_=>rfl⟩
    ·exact⟨B,Bd.le.refl B,h',λ_=>rfl⟩
  ·rw[ZPn cX];by_cases hr:s.r<c.n
   ·rw[ZPn (show ¬¬s.r<c.n by simpa using hr)];by_cases cR:s.kind=0
    ·rw[ZPp cR,ZPp cR];obtain⟨B',he⟩:=(h.nodes _ hr).edit hr h5 ht ZO hs.edit;obtain⟨H,hH,hi,hu⟩:=h.hub;refine⟨B',he.le,⟨λi hi=>?_,λi hi=>?_,⟨H,λi=>by rw[he.hub];exact hH i,hi.more ⟨he.le.made,λ_=>ZL _⟩ rfl,λkG=>by rw[he.hub];exact hu kG⟩,λp hp=>(h.link p hp).more he.le,by have:=h.len;simp only;omega,ZT he.tot (Nat.succ_le_succ h.sum)⟩,λ_=>he.hub⟩
     ·by_cases e:i=s.r
      ·subst e;simp only[ZbA];exact he.inv.more (Bd.le.refl _) (Nat.le_succ b)
      ·simp only[Za7 e];exact(h.nodes i hi).more he.le (Nat.le_succ b)
     ·by_cases e:i=s.r
      ·subst e;simp only[ZbA];exact he.own (h.own _ hr)
      ·simp only[Za7 e];rw[he.same i e];exact h.own i hi
    ·rw[ZPn cR,ZPn cR,Nat.add_zero];refine⟨B,Bd.le.refl B,?_,λ_=>rfl⟩;by_cases pJ:s.kind=11
     ·rw[ZPp pJ];have eP:=(h.nodes _ hr).state ZO ZO;exact h'.setNode eP (h.nodes _ hr).bE
     ·rw[ZPn pJ];unfold Zga;split
      ·rename_i g hg;have:=((h.nodes _ hr).tell hr hc ht hg).1;refine h'.aI (λp hp=>?_) (by rw[ZI];have:=h.len;simp only[List.length_singleton];omega);rcases List.mem_append.1 hp with hp|hp
       ·exact h'.link p hp
       ·simp at hp;subst hp;exact .inr ⟨rfl,this⟩
      ·exact h'
   ·rw[ZPp (show ¬s.r<c.n from hr)];exact⟨B,Bd.le.refl B,h'.more ZO (ZL _),λ_=>rfl⟩
end
structure RawSt where
 kind:Int
 r:Int
 ek:Int
 key:ByteArray
 label:Int
 value:ByteArray
 at_:Int
 bit:Int
 mask:Int
 keep:Int
structure RawOk(s:RawSt):Prop where
 key:s.key.size<=140737488351232
 value:s.value.size<=140737488351232
 mask0:0<=s.mask
 mask:s.mask<4294967296
def ZfN(x k:Int):Int:=(x.tmod k+k).tmod k
theorem ZtK(x k:Int):ZeE x k=1+ZfN x k:=rfl
theorem Zep(x:Int){k:Int}(hk:0<k):0<=ZfN x k/\ZfN x k<k:=by
 have h:=Zcx x hk;rw[ZtK]at h;omega
def Zdc(s:RawSt):Nat:=(ZfN s.kind 12).toNat
def ZgV(n:Nat)(s:RawSt):Nat:=if (ZfN s.r (n+1)).toNat=n then(if Zdc s<8∨Zdc s=11 then 0 else 5) else(ZfN s.r (n+1)).toNat
def ZbZ(n:Nat)(s:RawSt):St:=⟨Zdc s,ZgV n s,kindF s.ek,keyF (ZbB s.key s.key.size),labF (kindF s.ek) s.label,valueF (kindF s.ek) s.value,s.at_,s.bit,s.mask.toNat,s.keep,false⟩
theorem ZgU(s:RawSt):Zdc s<=11:=by
 have h:=Zep s.kind (k:=12) ZO;unfold Zdc;omega
theorem ZtL(hc:c.Ok)(s:RawSt):ZgV c.n s<c.n∨ZgV c.n s=5/\8<=Zdc s/\Zdc s<=10:=by
 have h:=Zep s.r (k:=c.n+1) ZO;have hk:=ZgU s;have h1:=hc.n1;unfold ZgV;split
 ·split
  ·exact .inl ZO
  ·exact .inr ⟨rfl,ZO,ZO⟩
 ·exact .inl ZO
theorem Zr3(hc:c.Ok){s:RawSt}(hs:RawOk s):StOk c (ZbZ c.n s):=by
 refine⟨ZgU s,?_,Zoq _ _ _ _,?_⟩
 ·rcases ZtL hc s with h|h
  ·exact .inl h
  ·exact .inr h.1
 ·show s.mask.toNat<4294967296
  have:=hs.mask0;have:=hs.mask;omega
end Go.Proofs.YtjkfognelhiepaaGreat
