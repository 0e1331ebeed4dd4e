import Derived.Test.YtjkfognelhiepaaGreatR09
namespace Go.Proofs.YtjkfognelhiepaaGreat
open Go.RowKit _root_.Go.Proofs.Tryz
open Value renaming slice→S_,int→I_,bool→B_,string→T_,pointer→P_
open IntKind renaming i64→J_
open Obj renaming cells→C_
open Ending renaming returned→R_
set_option maxRecDepth 100000
set_option maxHeartbeats 8000000
variable{N cap i most n p q r t:Nat}{a:Option Addr}{c:Cfg}{d:Dk}{e:Ev}{f:Frm}{l:List Ev}{sh:List Sh}{w w':World}
structure LogOk(q r sent:Nat)(log:List Ev):Prop where
 ok:∀e∈log,e.Ok
 len:log.length<=1000
 row:From1 (sent+1) (waitN r sent log)
 room:(waitN r sent log).length<=q
 sent:sent<=1048576
theorem Zfu(r sent:Nat)(l:List Ev)(e:Ev):waitN r sent (l++[e])=waitN r sent l++if (decide (e.r=r)&&decide (sent<e.n))=true then [e] else []:=Zd2 _ _ _
theorem ZiT{sent:Nat}(h:From1 (sent+1) l):lastOf sent l=sent+l.length:=by
 unfold lastOf
 cases hl:l.getLast? with
 |none=>rw[List.getLast?_eq_none_iff]at hl;subst hl;rfl
 |some x =>
  rw[List.getLast?_eq_getElem?]at hl;have hx:=h _ _ hl;have dR:l.length≠0:=λh0=>by rw[List.eq_nil_of_length_eq_zero h0]at hl;simp at hl
  simp only;omega
theorem LogOk.next{cq sent:Nat}{log:List Ev}(h:LogOk cq r sent log)(he:log[q]? = some e)(hr:e.r=r)(hn:sent<e.n):(waitN r sent (log.take q)).length<cq/\lastOf sent (waitN r sent (log.take q))<2000000/\e.n=lastOf sent (waitN r sent (log.take q))+1:=by
 have ev:waitN r sent log=waitN r sent (log.take q)++(e::waitN r sent (log.drop (q+1))):=by
  have h1:log=log.take q++(e::log.drop (q+1)):=by
   have hq:=(ZZ.1 he).1;have h2:=(ZZ.1 he).2;rw[←h2,←List.drop_eq_getElem_cons hq,List.take_append_drop]
  conv=>lhs;rw[h1]
  unfold waitN;rw[List.filter_append,List.filter_cons,ZPp (by simp[hr,hn])]
 have DX:From1 (sent+1) (waitN r sent (log.take q)):=λi x hx=>h.row i x (by rw[ev,List.getElem?_append_left (ZZ.1 hx).1];exact hx)
 have kj:=h.row (waitN r sent (log.take q)).length e (by rw[ev,List.getElem?_append_right (ZL _)];simp);have hlen:=h.room;rw[ev,ZI,List.length_cons]at hlen;have fI:=(h.ok e (ZY he)).n2;rw[ZiT DX];omega
section
variable {own:Own}{t p r:Nat}{w:World}{c:Cfg}{up:Bool}{d:Dk}{log:List Ev}{sent:Nat}
theorem Zpp(ht:0<t)(hf:Fresh own w)(hm:own p=t){dp:Nat}{lv bv iv ov:Value}(hb:Blk w p 133 (nodeArr c r up (ptrV dp) lv sent bv iv ov))(hd:DiskAt own (t+1) w dp d)(hl:RowAt own (t+2) w lv log)(em:LogOk c.q r sent log):
  Calls prog 85 #[ptrV p] w λe w'=>e=R_ (.tuple #[])/\∃own',NodeAt own' t w' p c r ⟨up,d,log,sent,log.foldl applyN [],clkOf log,[],waitN r sent log⟩/\Upd (NodeT t) own own' w w':=by
 obtain⟨al,cl,rfl,eW⟩:=EvSl.ae hl.row;clear eW;have oP:=(ZW w.heap.size w).alloc (ZL _) (C_ #[I_ J_ 0,I_ J_ 0,I_ J_ 0,I_ J_ 0,I_ J_ 0] 44);have yH:Upd (λ_=>False) own own w (w.alloc (C_ #[I_ J_ 0,I_ J_ 0,I_ J_ 0,I_ J_ 0,I_ J_ 0] 44)):=ZUb oP hf;have HS:Hid (Blk (w.alloc (C_ #[I_ J_ 0,I_ J_ 0,I_ J_ 0,I_ J_ 0,I_ J_ 0] 44)) w.heap.size 44 (clkArr ZCz)):=ZH (ZBn w 44 (clkArr ZCz));have hB:=hb.ob oP;obtain⟨HB,QB,HD,HL,HM,dU⟩:=ZH6 hB yH (hd.upd yH (λh=>h)) (hl.upd yH (λh=>h)) hm em;have fZ:Hid (own w.heap.size=0):=ZH (hf _ (ZL _));have cI:=hb.lt;have Cz:=hB.lt;clear oP yH hB hf hm hb hd hl em;go_enter func85,ntmps85;go_wp2_with fail;generalize w.alloc (C_ #[I_ J_ 0,I_ J_ 0,I_ J_ 0,I_ J_ 0,I_ J_ 0] 44)=W at *;refine(Zsm W).mono ?_;rintro _ w1 ⟨rfl,rfl⟩;have cz:=(ZW W.heap.size W).alloc (ZL _) (C_ (liveArr 0 0 none 0) 213);have Q8:=ZBn W 213 (liveArr 0 0 none 0);have dA:Hid (Upd (λ_=>False) own (own.at_ W.heap.size (t+3)) W (W.alloc (C_ (liveArr 0 0 none 0) 213))):=ZH ((ZUb cz QB.out.fresh).az (ZL _) ZM (t+3));have vg:LiveAt (own.at_ W.heap.size (t+3)) (t+3) (W.alloc (C_ (liveArr 0 0 none 0) 213)) W.heap.size []:=⟨by simp[Own.at_],0,none,0,[],Q8,rfl,⟨λ_ h=>(by cases h),λi j p q h=>(by simp at h)⟩,.inl ⟨rfl,rfl,rfl⟩⟩;have dm:=HB.out.ob cz;have jI:=dm.cell 11;have Nx:=dm.frozen 11;have jE:=dm.lt;simp only[ZD,ZE,ZG]at jI;obtain⟨dj,Dt,fl⟩:=ZH3 dm vg (HS.out.ob cz);have HPB:Hid (p≠W.heap.size):=ZH ZO;obtain⟨cZ,fF⟩:∃cZ,cZ=own.at_ W.heap.size (t+3):=⟨_,rfl⟩;rw[←fF]at dA Dt;obtain⟨bp,fA⟩:∃bp,bp=W.heap.size:=⟨_,rfl⟩;have HBP:=ZH fA;clear cz Q8 vg dm fF;go_wp2_with fail;have oC:cZ p=t:=(dA.out.old p Cz).trans HM.out;have dx:Blk ((W.alloc (C_ (liveArr 0 0 none 0) 213)).setCell ⟨p,11,none⟩ (ptrV W.heap.size)) p 133 (nodeArr c r up (ptrV dp) (S_ al log.length cl) sent (ptrV bp) iv ov):=by rw[fA];exact dj.out.aj 11 _
 have ju:Upd (· = t) cZ cZ (W.alloc (C_ (liveArr 0 0 none 0) 213)) ((W.alloc (C_ (liveArr 0 0 none 0) 213)).setCell ⟨p,11,none⟩ (ptrV W.heap.size)):=(Upd.refl (· = t) cZ _ dA.out.fresh).setCell (p:=⟨p,11,none⟩) (λ_=>oC) _;have cM:Upd (NodeT t) own cZ w ((W.alloc (C_ (liveArr 0 0 none 0) 213)).setCell ⟨p,11,none⟩ (ptrV W.heap.size)):=((QB.out.trans dA.out).mono (λn h=>h.elim)).trans (ju.mono (λm hm=>⟨ZO,ZO⟩));have lN:Blk ((W.alloc (C_ (liveArr 0 0 none 0) 213)).setCell ⟨p,11,none⟩ (ptrV W.heap.size)) w.heap.size 44 (clkArr ZCz):=fl.out.far (p:=⟨p,11,none⟩) (by show w.heap.size≠p;omega) _;have Fa:Hid (cZ w.heap.size=0):=ZH ((dA.out.old _ HS.out.lt).trans fZ.out);obtain⟨df,dC,fB,rq,rj,AU,AX⟩:=ZH7 dx cM lN oC ((HD.out.upd dA.out (λh=>h)).upd ju ZO) ((HL.out.upd dA.out (λh=>h)).upd ju ZO) (Dt.out.upd ju ZO);rw[←fA]at AX;rw[←fA]at df dC fB rj AU ⊢;rw[World.setCell_alloc_past _ _ _ _ Cz]at df dC fB rj AU AX;generalize ((W.setCell ⟨p,11,none⟩ (ptrV bp)).alloc (C_ (liveArr 0 0 none 0) 213))=W2 at *;clear oC dx ju cM lN fA jI Nx jE;refine ZSi [(0,3),(1,3),(2,0),(3,3),(4,3),(5,0),(6,3),(7,0),(8,3),(9,3),(10,0),(11,3),(12,0),(13,3),(14,0),(15,1),(16,0),(17,3),(18,2)] λcu=>?_
 repeat((first|refine ZSa ?_|refine ZSb ?_|(refine Zf rfl (by rfl) (λw' cL=>by(obtain⟨c0,c1,c2,c3,c4,c5⟩:=(df.out.ob cL.below).node6);(obtain⟨c6,c7,c8,c9,dg,dh,eH,eI⟩:=(df.out.ob cL.below).ai);go_simp;with_reducible rfl) ?_));simp only[Act.put,Q_])
 refine ZSd λK hK=>?_
 go_simp;refine(Zpz c.q c.w sent W2.drew).mono ?_;rintro _ w3 ⟨op,rfl,lU,Rz,cG⟩;have dr:=cu.step cG;obtain⟨JI,A3⟩:=ZH2 Rz lU;refine hK.out (λw'=>Kept w3.heap.size w3 w'/\Kept W2.heap.size W2 w') _ _ (λ_ h=>h.2) ⟨ZKr _,dr⟩ (λpt=>?_);clear hK K cu cG dr Rz lU;repeat((first|refine ZSa ?_|refine ZSb ?_|(refine Zf rfl (by rfl) (λw' cL=>by(obtain⟨c0,c1,c2,c3,c4,c5⟩:=(df.out.ob cL.2.below).node6);(obtain⟨c6,c7,c8,c9,dg,dh,eH,eI⟩:=(df.out.ob cL.2.below).ai);go_simp;with_reducible rfl) ?_));simp only[Act.put,Q_])
 have fK:=df.out.ob pt.2.below;have QN:=fK.cell 13;have Vd:=fK.frozen 13;have qW:=fK.lt;simp only[ZD,ZE,ZG]at QN;have dN:=ZH fK;clear fK;refine ZSe λK hK=>?_
 go_simp;refine hK.out _ _ ?_;clear hK K QN Vd;refine ZSf ?_;have jR:Upd (λ_=>False) cZ cZ W2 w3:=ZUb pt.2.below dC.out.fresh;have i5:Upd (λ_=>False) cZ (cZ.at_ op (t+5)) W2 w3:=jR.az (by have:=A3.out;simpa using this) JI.out.lt (t+5);have q9:p≠op:=by have:=A3.out;have:=df.out.lt;simp at *;omega
 have sK:(cZ.at_ op (t+5)) p=t:=(i5.old p df.out.lt).trans rq.out;have ku:Upd (· = t) (cZ.at_ op (t+5)) (cZ.at_ op (t+5)) w3 (w3.setCell ⟨p,13,none⟩ (ptrV op)):=(Upd.refl (· = t) _ w3 i5.fresh).setCell (p:=⟨p,13,none⟩) (λ_=>sK) _;have Hv:OutboxAt (cZ.at_ op (t+5)) (t+5) w3 op c.q c.w sent []:=⟨by simp[Own.at_],_,JI.out,RowAt.none_ _ _ _⟩;have eV:BuildRun own (cZ.at_ op (t+5)) t w p dp bp op (S_ al log.length cl) iv c r up d log sent w.heap.size 0 (w3.setCell ⟨p,13,none⟩ (ptrV op)) :=
  ⟨sK,dN.out.aj 13 _,(rj.out.upd i5 (λh=>h)).upd ku ZO,(AU.out.upd i5 (λh=>h)).upd ku ZO,(AX.out.upd i5 (λh=>h)).upd ku ZO,Hv.upd ku ZO,
   (fB.out.upd i5 (λh=>h)).upd ku (by rw[i5.old _ fB.out.lt,Fa.out];omega),(i5.old _ fB.out.lt).trans Fa.out,(dC.out.trans (i5.mono (λn h=>h.elim))).trans (ku.mono (λm hm=>⟨ZO,ZO⟩))⟩
 have kI:=ZH eV;have nk:Hid (w.heap.size<(w3.setCell ⟨p,13,none⟩ (ptrV op)).heap.size):=ZH eV.seen.lt;obtain⟨eL,dW⟩:∃eL,eL=cZ.at_ op (t+5):=⟨_,rfl⟩;rw[←dW]at kI;generalize (w3.setCell ⟨p,13,none⟩ (ptrV op))=W3 at *;obtain⟨c6,c7,c8,c9,dg,dh,eH,eI⟩:=kI.out.blk.ai;have qW:=kI.out.blk.lt;clear jR i5 q9 sK ku Hv eV dW pt;go_wp2_with fail;clear c6 c7 c8 c9 dg dh eH eI;go_loopw [32] (λi wr=>∃(q:Nat) (dY:Own),q<=log.length/\i=I_ J_ q/\Hid (BuildRun own dY t w p dp bp op (S_ al log.length cl) iv c r up d log sent w.heap.size q wr)) (λi _=>log.length-(intOf i).toNat)
 case atStart=>exact⟨0,eL,Nat.zero_le _,rfl,kI⟩
 case round =>
  skip
  obtain⟨q,dY,hq,rfl,HR⟩:=hrel;by_cases du:q<log.length
  ·obtain⟨e,he⟩:∃e,log[q]? = some e:=⟨_,ZX du⟩;have ep:=dU.out.ok e (ZY he);have eW:=(EvSl.ae HR.out.row.row |> λ⟨_,_,e,h⟩=>by injection e with e1 e2 e3;subst e1 e3;exact h:EvSl wr al log.length cl log);obtain⟨bk,off,rfl,cW,d0,d1,d2,d3,d4,d5,d6,d7,d8,d9,zl,uo⟩:=eW.at_ he;have eO:=ep.r;have DU:=ZrU (l:=log.take q) (λx hx=>(dU.out.ok x (List.mem_of_mem_take hx)).r) e.r;rw[ZV]at DU;have hlen:=dU.out.len;have sU:=HR.out.seen.cell e.r;rw[Zeo _ eO]at sU;have Kt:=HR.out.seen.frozen e.r;have Pg:=HR.out.seen.lt;obtain⟨gq,Os⟩:∃gq,gq=(clkOf (log.take q)).get e.r:=⟨_,rfl⟩;rw[←Os]at sU DU;obtain⟨Qd,HE,rX⟩:=ZH3 Os he ep;have hx:=ZBn wr 89 (evArr e);obtain⟨x0,x1,x2,x3,x4,x5,x6,x7,x8,x9,fh,fi⟩:=hx.ag;clear Os he ep eW hx;go_wp2_with fail;have IY:(I_ J_ ((gq:Int)+1):Value)=I_ J_ ((gq+1:Nat):Int):=by push_cast;rfl
   have fG:Upd (· = 0) dY dY wr (wr.setCell ⟨w.heap.size,e.r,none⟩ (I_ J_ ((gq:Int)+1))):=(Upd.refl (· = 0) dY wr HR.out.upd.fresh).setCell (p:=⟨w.heap.size,e.r,none⟩) (λ_=>HR.out.sk0) _;have dS:(wr.setCell ⟨w.heap.size,e.r,none⟩ (I_ J_ ((gq:Int)+1))).heap.size=wr.heap.size:=by simp[World.setCell]
   have fW:=(ZW (wr.setCell ⟨w.heap.size,e.r,none⟩ (I_ J_ ((gq:Int)+1))).heap.size _).alloc (ZL _) (C_ (evArr e) 89);have D9:=fG.kept fW;have HU:=ZH ((HR.out.upd.setCell (p:=⟨w.heap.size,e.r,none⟩) (λh=>absurd h (Nat.lt_irrefl _)) (I_ J_ ((gq:Int)+1))).kept fW);have vD:=(HR.out.seen.aj e.r (I_ J_ ((gq:Int)+1))).ob fW;rw[IY,Zfg _ eO,Qd.out,←ZgM,←Zan HE.out,←Qd.out,←IY]at vD;have hX:=ZBn (wr.setCell ⟨w.heap.size,e.r,none⟩ (I_ J_ ((gq:Int)+1))) 89 (evArr e);rw[dS]at hX;have sg:Hid (dY wr.heap.size=0):=ZH (HR.out.upd.fresh _ (ZL _));have lh:BookInv (0+q) ((log.take q).foldl applyN []):=by
    have:=(BookInv.nil 0).fold (l:=log.take q) (λx hx=>dU.out.ok x (List.mem_of_mem_take hx));rw[ZV,Nat.min_eq_left hq]at this;exact this
   obtain⟨HB,HD,yX,Dt,HO,ji,HX,rV,Qo⟩:=ZH9 (HR.out.blk.upd D9 (by rw[HR.out.mine];omega)) (HR.out.disk.upd D9 ZO) (HR.out.row.upd D9 ZO) (HR.out.live.upd D9 ZO) (HR.out.out.upd D9 ZO) vD hX lh HR.out.mine;have sd:=ZH HR.out.sk0;generalize ((wr.setCell ⟨w.heap.size,e.r,none⟩ (I_ J_ ((gq:Int)+1))).alloc (C_ (evArr e) 89))=W at *;clear IY fG dS fW D9 vD hX lh sU Kt Pg DU d0 d1 d2 d3 d4 d5 d6 d7 d8 d9 zl uo x0 x1 x2 x3 x4 x5 x6 x7 x8 x9 fh fi;refine ZSi [(0,3),(1,0),(2,3),(3,0),(4,0),(5,2)] λcu=>?_
   repeat((first|refine ZSa ?_|refine ZSb ?_|(refine Zf rfl (by rfl) (λw' cL=>by(obtain⟨c6,c7,c8,c9,dg,dh,eH,eI⟩:=(HB.out.ob cL.below).ai);(obtain⟨x0,x1,x2,x3,x4,x5,x6,x7,x8,x9,fh,fi⟩:=(HX.out.ob cL.below).ag);go_simp;with_reducible rfl) ?_));simp only[Act.put,Q_])
   refine ZSe λK hK=>?_
   go_simp;have dF:Upd (λ_=>False) dY dY W W.drew:=ZUb (ZW W.heap.size W).drew HU.out.fresh;refine(ZjS (Dt.out.upd dF (λh=>h)) dF.fresh e rX.out (λl hl=>by have:=rV.out.get hl;exact⟨ZO,this.2⟩)).mono ?_;rintro _ w6 ⟨rfl,el,Ct,ib⟩;have mS:=(dF.mono (T':=(· = t+3)) (λn h=>h.elim)).trans ib;obtain⟨EK,iZ,jT,tF,AV,nY,xu,nZ⟩:=ZH8 Ct (HU.out.trans (mS.mono (λm hm=>⟨ZO,ZO⟩))) (HB.out.upd mS (by rw[Qo.out];omega)) (HD.out.upd mS ZO) (yX.out.upd mS ZO) (HO.out.upd mS ZO) (ji.out.upd mS (by rw[sd.out];omega)) (HX.out.upd mS (by rw[sg.out];omega));have xh:Hid (el p=t):=ZH ((mS.old p HB.out.lt).trans Qo.out);have xv:Hid (el w.heap.size=0):=ZH ((mS.old _ ji.out.lt).trans sd.out);have HX60:Hid (el wr.heap.size=0):=ZH ((mS.old _ HX.out.lt).trans sg.out);refine hK.out _ _ ?_;clear hK K cu dF Ct ib mS;refine ZSf ?_;go_wp2_with fail;by_cases hr:e.r=r
   ·have hz:((e.r:Int)==(r:Int))=true:=by simp[hr]
    by_cases hn:sent<e.n
    ·have dc:decide ((sent:Int)<(e.n:Int))=true:=ZP;have qk:(sent:Int)<(e.n:Int):=ZO;obtain⟨BO,oO,Ry⟩:=dU.out.next HE.out hr hn;have Nc:Hid ((decide (e.r=r)&&decide (sent<e.n))=true):=ZH (by simp[hr,hn]);have Do:=ZH Ry;clear hr Ry;refine ZSi [(0,3),(1,0),(2,3),(3,0),(4,3),(5,0),(6,3),(7,3),(8,3),(9,0),(10,3),(11,0),(12,3),(13,0),(14,3),(15,3)] λcu=>?_
     repeat((first|refine ZSa ?_|refine ZSb ?_|(refine Zf rfl (by rfl) (λw' cL=>by(obtain⟨c6,c7,c8,c9,dg,dh,eH,eI⟩:=(jT.out.ob cL.below).ai);(obtain⟨x0,x1,x2,x3,x4,x5,x6,x7,x8,x9,fh,fi⟩:=(nZ.out.ob cL.below).ag);go_simp;with_reducible rfl) ?_));simp only[Act.put,Q_])
     refine ZSf ?_;have iF:=ZH cu;clear cu;go_wp2_with fail;generalize yJ:w6.drew=w7 at *;clear yJ;refine ZSi [(0,3),(1,0),(2,3),(3,0),(4,0),(5,2)] λcu=>?_
     repeat((first|refine ZSa ?_|refine ZSb ?_|(refine Zf (v:=?_) rfl (by rfl) ?_ ?_;rotate_left 1;(intro w' cL;(obtain⟨c6,c7,c8,c9,dg,dh,eH,eI⟩:=((jT.out.ob iF.out.below).ob cL.below).ai);(obtain⟨x0,x1,x2,x3,x4,x5,x6,x7,x8,x9,fh,fi⟩:=((nZ.out.ob iF.out.below).ob cL.below).ag);go_simp;with_reducible rfl)));simp only[Act.put,Q_])
     refine ZSe λK hK=>?_
     go_simp;have dF:Upd (λ_=>False) el el w6 w7.drew:=ZUb (iF.out.below.trans ((ZW w7.heap.size w7).drew.mono iF.out.le)) iZ.out.fresh;refine(Zj4 (nY.out.upd dF (λh=>h)) dF.fresh e BO (ZT (List.length_filter_le _ _) (by rw[ZV];omega)) oO Do.out).mono ?_;rintro _ w8 ⟨rfl,re,Se,lE⟩;obtain⟨kC,Uv⟩:=ZH2 ((dF.mono (T':=(· = t+5)) (λn h=>h.elim)).trans lE) Se;refine hK.out _ _ ?_;clear hK K cu dF Se lE;refine ZSf ?_;go_wp2
     go_roundw
     case rel =>
      refine⟨q+1,re,ZO,ZN,ZH ⟨(kC.out.old p jT.out.lt).trans xh.out,jT.out.upd kC.out (by rw[xh.out];omega),tF.out.upd kC.out ZO,AV.out.upd kC.out ZO,?_,?_,xu.out.upd kC.out (by rw[xv.out];omega),(kC.out.old _ xu.out.lt).trans xv.out,iZ.out.trans (kC.out.mono (λm hm=>⟨ZO,ZO⟩))⟩⟩
      ·rw[Zan HE.out,List.foldl_append];exact EK.out.upd kC.out ZO
      ·rw[Zan HE.out,Zfu,ZPp Nc.out];exact Uv.out
     case measure=>simp[intOf];omega
    ·have dc:decide ((sent:Int)<(e.n:Int))=false:=ZP;have qk:¬(sent:Int)<(e.n:Int):=ZO;have tc:Hid (¬(decide (e.r=r)&&decide (sent<e.n))=true):=ZH (by simp[hn]);clear hr;refine ZSi [(0,3),(1,0),(2,3),(3,0),(4,3),(5,0),(6,3),(7,3),(8,3),(9,0),(10,3),(11,0),(12,3),(13,0),(14,3),(15,3)] λcu=>?_
     repeat((first|refine ZSa ?_|refine ZSb ?_|(refine Zf rfl (by rfl) (λw' cL=>by(obtain⟨c6,c7,c8,c9,dg,dh,eH,eI⟩:=(jT.out.ob cL.below).ai);(obtain⟨x0,x1,x2,x3,x4,x5,x6,x7,x8,x9,fh,fi⟩:=(nZ.out.ob cL.below).ag);go_simp;with_reducible rfl) ?_));simp only[Act.put,Q_])
     refine ZSf ?_;have l7:=cu;clear cu;go_wp2
     go_roundw
     case rel =>
      have dF:Upd (λ_=>False) el el w6 w6.drew:=ZUb l7.below iZ.out.fresh;refine⟨q+1,el,ZO,ZN,ZH ⟨xh.out,jT.out.ob l7.below,tF.out.upd dF (λh=>h),AV.out.upd dF (λh=>h),?_,?_,xu.out.ob l7.below,xv.out,iZ.out.kept l7.below⟩⟩
      ·rw[Zan HE.out,List.foldl_append];exact EK.out.upd dF (λh=>h)
      ·rw[Zan HE.out,Zfu,ZPn tc.out,List.append_nil];exact nY.out.upd dF (λh=>h)
     case measure=>simp[intOf];omega
   ·have hz:((e.r:Int)==(r:Int))=false:=ZP;have tc:Hid (¬(decide (e.r=r)&&decide (sent<e.n))=true):=ZH (by simp[hr]);refine ZSi [(0,3),(1,0),(2,3),(3,0),(4,3),(5,0),(6,3),(7,3),(8,3),(9,0),(10,3),(11,0),(12,3),(13,0),(14,3),(15,3)] λcu=>?_
    repeat((first|refine ZSa ?_|refine ZSb ?_|(refine Zf rfl (by rfl) (λw' cL=>by(obtain⟨c6,c7,c8,c9,dg,dh,eH,eI⟩:=(jT.out.ob cL.below).ai);(obtain⟨x0,x1,x2,x3,x4,x5,x6,x7,x8,x9,fh,fi⟩:=(nZ.out.ob cL.below).ag);go_simp;with_reducible rfl) ?_));simp only[Act.put,Q_])
    refine ZSf ?_;have l7:=cu;clear cu;go_wp2
    go_roundw
    case rel =>
     have dF:Upd (λ_=>False) el el w6 w6.drew:=ZUb l7.below iZ.out.fresh;refine⟨q+1,el,ZO,ZN,ZH ⟨xh.out,jT.out.ob l7.below,tF.out.upd dF (λh=>h),AV.out.upd dF (λh=>h),?_,?_,xu.out.ob l7.below,xv.out,iZ.out.kept l7.below⟩⟩
     ·rw[Zan HE.out,List.foldl_append];exact EK.out.upd dF (λh=>h)
     ·rw[Zan HE.out,Zfu,ZPn tc.out,List.append_nil];exact nY.out.upd dF (λh=>h)
    case measure=>simp[intOf];omega
  ·obtain rfl:q=log.length:=ZO;go_wp2_with fail;refine ZSi [(0,3),(1,3),(2,0),(3,3),(4,3),(5,0),(6,0),(7,1),(8,0),(9,3),(10,2)] λcu=>?_
   repeat((first|refine ZSa ?_|refine ZSb ?_|(refine Zf rfl (by rfl) (λw' cL=>by(obtain⟨c0,c1,c2,c3,c4,c5⟩:=(HR.out.blk.ob cL.below).node6);(obtain⟨z0,z1,z2,z3,z4⟩:=(HR.out.seen.ob cL.below).aG);go_simp;with_reducible rfl) ?_));simp only[Act.put,Q_])
   refine ZSd λK hK=>?_
   go_simp;refine(ZqH c.h (clkOf log) wr.drew).mono ?_;rintro _ w5 ⟨ip,rfl,RX,Kf,dH⟩;have eM:=cu.step dH;obtain⟨P2,T5⟩:=ZH2 Kf RX;refine hK.out (λw'=>Kept w5.heap.size w5 w'/\Kept wr.heap.size wr w') _ _ (λ_ h=>h.2) ⟨ZKr _,eM⟩ (λF2=>?_);clear hK K cu dH eM Kf RX;repeat((first|refine ZSa ?_|refine ZSb ?_|(refine Zf rfl (by rfl) (λw' cL=>by(obtain⟨c0,c1,c2,c3,c4,c5⟩:=(HR.out.blk.ob cL.2.below).node6);go_simp;with_reducible rfl) ?_));simp only[Act.put,Q_])
   have qd:=HR.out.blk.ob F2.2.below;have Nt:=qd.cell 12;have Vc:=qd.frozen 12;have qh:=qd.lt;simp only[ZD,ZE,ZG]at Nt;have lX:=ZH qd;clear qd;refine ZSe λK hK=>?_
   go_simp;refine hK.out _ _ ?_;clear hK K Nt Vc;refine ZSf ?_;go_wp2_with fail;go_end0
   have rK:Upd (λ_=>False) dY dY wr w5:=ZUb F2.2.below HR.out.upd.fresh;have lq:Upd (λ_=>False) dY (dY.at_ ip (t+4)) wr w5:=rK.az (by have:=T5.out;simpa using this) P2.out.lt (t+4);have jD:=HR.out.blk.lt;have Sd:(dY.at_ ip (t+4)) p=t:=(lq.old p jD).trans HR.out.mine;have lB:Upd (· = t) (dY.at_ ip (t+4)) (dY.at_ ip (t+4)) w5 (w5.setCell ⟨p,12,none⟩ (ptrV ip)):=(Upd.refl (· = t) _ w5 lq.fresh).setCell (p:=⟨p,12,none⟩) (λ_=>Sd) _;have j5:InboxAt (dY.at_ ip (t+4)) (t+4) w5 ip c.h (clkOf log) []:=⟨by simp[Own.at_],_,P2.out,RowAt.none_ _ _ _⟩;have vg:=(HR.out.live.upd lq (λh=>h)).upd lB ZO;have Si:=(HR.out.out.upd lq (λh=>h)).upd lB ZO;rw[List.take_length]at vg Si;exact⟨rfl,dY.at_ ip (t+4),⟨Sd,dp,bp,ip,op,_,lX.out.aj 12 _,(HR.out.disk.upd lq (λh=>h)).upd lB ZO,(HR.out.row.upd lq (λh=>h)).upd lB ZO,vg,j5.upd lB ZO,Si⟩,(HR.out.upd.trans (lq.mono (λn h=>h.elim))).trans (lB.mono (λm hm=>⟨ZO,ZO⟩))⟩
end
def Zbv(s:NodeSt)(l:List Ev):NodeSt:={ s with log:=s.log++l,book:=l.foldl applyN s.book }
section
variable {own:Own}{t p r:Nat}{w:World}{c:Cfg}{s:NodeSt}
theorem Zh1(ht:0<t)(h:NodeAt own t w p c r s)(hf:Fresh own w)(jC:BookInv N s.book)(hN:N+n<=100000)(hl:Loose own w a n cap l)(em:∀e∈l,e.Ok)(nC:s.log.length<=100000):
  Calls prog 71 #[ptrV p,S_ a n cap] w λe w'=>e=R_ (.tuple #[])/\∃own',NodeAt own' t w' p c r (Zbv s l)/\Upd (NodeT t) own own' w w':=by
 obtain⟨h1,dp,bp,ip,op,lv,h3,h4,h5,h6,h7,h8⟩:=h;obtain⟨al,cl,rfl,eW⟩:=EvSl.ae h5.row;obtain⟨c6,c7,c8,c9,dg,dh,eH,eI⟩:=h3.ai;have cI:=h3.lt;have Er:=ZH (hl.sl.2.2.1);obtain⟨i0,hi,dd,cV,dc⟩:=info_parts ZbV;obtain⟨HB,HD,yX,HK,HI,HO,HF,HL,dU⟩:=ZH9 h3 h4 h5 h6 h7 h8 hf hl em;obtain⟨rU,HM⟩:=ZH2 jC h1;clear h1 h3 h4 h5 h6 h7 h8 eW hf hl em jC;obtain⟨up,d,log,sent,book,clk,held,wait⟩:=s;have hlog':log.length<=100000:=nC;clear nC;go_enter func71,ntmps71
 go_wp2_with (first
  |(at_builtin
    refine Zc _ rfl (.tmp 10) (.tmp 11) _ rfl 0 89 i0 _ 12 112 underlying128 hi dd cV dc rfl ZO (S_ al log.length cl) log.length (evCells log) rfl yX.out.row w.heap.size a n cap (evCells l) rfl HL.out.sl.reads (ZbC _) ZF ZO (Nat.zero_le _) ?_;intro v7 w7 cF db ey;obtain⟨a7,k7,rfl⟩:=Zl cF;obtain⟨jw,it⟩:=Upd.grow (T:=(· = t+2)) (Upd.refl (· = t+2) own w HF.out) rfl (λg hg=>yX.out.own g hg) (λg hg=>(Zb cF hg).2) db ey;have mn:=HB.out.upd jw (by rw[HM.out];omega);have d6:=mn.cell 6;have d9:=mn.cell 9;have uo:=mn.cell 11;have f9:=mn.frozen 9;have OC:=mn.lt;simp only[ZD,ZE,ZG]at d6 d9 uo;obtain⟨jh,lg,EX,o5⟩:=ZH4 mn jw cF ey
    clear mn jw cF db ey it))
 obtain⟨ef,dk⟩:∃ef,ef=own.put (S_ a7 (log.length+n) k7) (t+2):=⟨_,rfl⟩;rw[←dk]at lg;have it:ef p=t:=(lg.out.old p cI).trans HM.out;have D7:Upd (· = t) ef ef w7 (w7.setCell ⟨p,9,none⟩ (S_ a7 (log.length+n) k7)):=(Upd.refl (· = t) ef w7 lg.out.fresh).setCell (p:=⟨p,9,none⟩) (λ_=>it) _
 have Ag:RowAt ef (t+2) (w7.setCell ⟨p,9,none⟩ (S_ a7 (log.length+n) k7)) (S_ a7 (log.length+n) k7) (log++l):=⟨by
  have h:=ZcO (i:=9) (u := S_ a7 (log.length+n) k7) EX.out jh.out ZJ;rw[←ZbE,←Er.out,←ZI]at h;rw[←Er.out,←ZI]
  exact h,λg hg=>by rw[dk];unfold Own.put;rw[ZPp hg]⟩
 have tq:NodeAt ef t (w7.setCell ⟨p,9,none⟩ (S_ a7 (log.length+n) k7)) p c r { Zbv ⟨up,d,log,sent,book,clk,held,wait⟩ l with book:=(l.take 0).foldl applyN book } :=
  ⟨it,dp,bp,ip,op,_,jh.out.aj 9 _,(HD.out.upd lg.out ZO).upd D7 ZO,Ag,(HK.out.upd lg.out ZO).upd D7 ZO,(HI.out.upd lg.out ZO).upd D7 ZO,(HO.out.upd lg.out ZO).upd D7 ZO⟩
 have kC:Hid (Upd (NodeT t) own ef w (w7.setCell ⟨p,9,none⟩ (S_ a7 (log.length+n) k7))):=ZH ((lg.out.mono (λm hm=>⟨ZO,ZO⟩)).trans (D7.mono (λm hm=>⟨ZO,ZO⟩)));have Ur:=ZH tq;generalize (w7.setCell ⟨p,9,none⟩ (S_ a7 (log.length+n) k7))=W8 at *;clear dk it D7 Ag tq d6 d9 uo f9 OC c6 c7 c8 c9 dg dh eH eI;go_loopw [17] (λi wr=>∃(q:Nat) (dY:Own),q<=n/\i=I_ J_ q/\Hid (NodeAt dY t wr p c r { Zbv ⟨up,d,log,sent,book,clk,held,wait⟩ l with book:=(l.take q).foldl applyN book })/\Hid (Upd (NodeT t) own dY w wr)) (λi _=>n-(intOf i).toNat)
 case atStart=>exact⟨0,ef,Nat.zero_le _,rfl,Ur,kC⟩
 case round =>
  skip
  obtain⟨q,dY,hq,rfl,HN,HU⟩:=hrel;by_cases du:q<n
  ·obtain⟨e,he⟩:∃e,l[q]? = some e:=⟨_,ZX (by rw[Er.out];exact du)⟩;have hs:=(HL.out.upd HU.out (λh=>by obtain⟨h,_⟩:=h;omega)).sl;obtain⟨bk,off,rfl,cW,c0,c1,c2,c3,c4,UZ,c6,c7,c8,c9,dg,dh⟩:=hs.at_ he;obtain⟨h1,dp,bp,ip,op,lv,h3,h4,h5,h6,h7,h8⟩:=HN.out;have hx:=ZBn wr 89 (evArr e);have cP:=(ZW wr.heap.size wr).alloc (ZL _) (C_ (evArr e) 89);obtain⟨HX,HB,eh⟩:=ZH3 hx (h3.ob cP) cP;have lh:BookInv (N+q) ((l.take q).foldl applyN book):=by
    have:=rU.out.fold (l:=l.take q) (λx hx=>dU.out x (List.mem_of_mem_take hx));rw[ZV,Er.out,Nat.min_eq_left hq]at this;exact this
   have ii:(l.take (q+1)).foldl applyN book=applyN ((l.take q).foldl applyN book) e:=by rw[Zan he,List.foldl_append];rfl
   obtain⟨rX,AZ,H3,H4,H5,H7,H8,Dt,rV⟩:=ZH9 (dU.out e (ZY he)) h1 h3 h4 h5 h7 h8 h6 lh;have jq:=ZH ii;obtain⟨x0,x1,x2,x3,x4,x5,x6,x7,x8,x9,fh,fi⟩:=hx.ag;clear hs he h1 h3 h4 h5 h6 h7 h8 hx cP lh ii;go_wp2_with fail;generalize (wr.alloc (C_ (evArr e) 89))=W at *;refine ZSi [(0,3),(1,0),(2,3),(3,0),(4,0),(5,2)] λcu=>?_
   repeat((first|refine ZSa ?_|refine ZSb ?_|(refine Zf rfl (by rfl) (λw' cL=>by(obtain⟨c6,c7,c8,c9,dg,dh,eH,eI⟩:=(HB.out.ob cL.below).ai);(obtain⟨x0,x1,x2,x3,x4,x5,x6,x7,x8,x9,fh,fi⟩:=(HX.out.ob cL.below).ag);go_simp;with_reducible rfl) ?_));simp only[Act.put,Q_])
   refine ZSe λK hK=>?_
   go_simp;have dF:Upd (λ_=>False) dY dY wr W.drew:=ZUb eh.out.drew HU.out.fresh;refine(ZjS (Dt.out.upd dF (λh=>h)) dF.fresh e rX.out (λl hl=>by have:=rV.out.get hl;exact⟨ZO,this.2⟩)).mono ?_;rintro _ w6 ⟨rfl,el,Ct,ib⟩;obtain⟨EK,iZ⟩:=ZH2 Ct ((dF.mono (T':=(· = t+3)) (λn h=>h.elim)).trans ib);refine hK.out _ _ ?_;clear hK K cu dF Ct ib;refine ZSf ?_;go_wp2
   go_roundw
   case rel =>
    refine⟨q+1,el,ZO,ZN,?_,ZH (HU.out.trans (iZ.out.mono (λm hm=>⟨ZO,ZO⟩)))⟩;rw[jq.out];exact ZH ⟨(iZ.out.old p H3.out.lt).trans AZ.out,dp,bp,ip,op,lv,H3.out.upd iZ.out (by rw[AZ.out];omega),H4.out.upd iZ.out ZO,H5.out.upd iZ.out ZO,EK.out,H7.out.upd iZ.out ZO,H8.out.upd iZ.out ZO⟩
   case measure=>simp[intOf];omega
  ·obtain rfl:q=n:=ZO;have Km:=HN.out;rw[ZU (by rw[Er.out];exact ZL _)]at Km;go_wp2_with fail;go_end0
   exact⟨rfl,dY,Km,HU.out⟩
end
def ZkS(own:Own)(td p i dp:Nat)(d:Dk)(b:List Nat)(w:World)(r:Ending)(w':World):Prop :=
 ∃own' w1,Upd (· = td) own own' w w1/\DiskAt own' td w1 dp (d.write b).1/\if (d.write b).2=0 then r=R_ (I_ J_ 0)/\w'=w1 else r=R_ (I_ J_ 18)/\w'=w1.setCell ⟨p,i,none⟩ (B_ false)
theorem Zlj{own:Own}{td dp:Nat}{ub:Bool}(dJ:w.cell? ⟨p,0,none⟩=some (B_ ub))(gM:w.frozen? ⟨p,0,none⟩=false)(GC:w.cell? ⟨p,1,none⟩=some (P_ (some ⟨dp,0,none⟩)))(gx:p<w.heap.size)(Hy:own p≠td)(hd:DiskAt own td w dp d)(hf:Fresh own w)(h:RecOk f)(hs:EvSl w a n cap f.events)(hn:d.bytes.length<=1000000000):
  Calls prog 139 #[P_ (some ⟨p,0,none⟩),Zah f (S_ a n cap)] w (ZkS own td p 0 dp d (recBytes f) w):=by
 have cR:=(ZKr w).alloc (C_ (Za f (S_ a n cap)) 150);have eu:=hs.below cR.below;have tX:=ZH (ZkG h eu);have kT:=(Zby h).1;obtain⟨HU,yR,La,HD,HF,ed,Mo⟩:=ZH7 dJ gM GC hd hf cR Hy;clear dJ gM GC hd hf cR hs eu h Hy;go_enter func139,ntmps139;go_wp2_with fail;refine tX.out.mono ?_;rintro _ w1 ⟨v1,rfl,eG,cz⟩;have dI:=ed.out.step cz;obtain⟨a1,c1,rfl,jG⟩:=Bytes.ae eG;have uP:w1.cell? ⟨p,1,none⟩=some (P_ (some ⟨dp,0,none⟩)):=by rw[dI.cells p _ gx];exact La.out
 obtain⟨da,fl,AM⟩:=ZH3 dI jG uP;clear eG cz jG dI uP;go_wp2_with fail;refine(Zf7 AM.out).mono ?_;rintro _ w2 ⟨rfl,cD⟩;have cM:Upd (· = td) own own w w2:=(ZUb da.out.below HF.out).kept cD;have jM:DiskAt own td w2 dp d:=by
  have hu:Upd (λ_=>False) own own w w2:=(ZUb da.out.below HF.out).kept cD;exact HD.out.upd hu (λh=>h)
 obtain⟨HW,dC⟩:=ZH2 (ZjI jM cM.fresh (fl.out.kept cD (ZL _)) ZO hn) cM;clear cM jM cD;go_wp2_with fail;refine HW.out.mono ?_;rintro _ w3 ⟨rfl,own',iM,de⟩;have hu:=dC.out.trans de;have cY:=hu.same p gx Mo.out;have wm:w3.cell? ⟨p,0,none⟩=some (B_ ub):=(World.cell?_of_block (w:=w) (a:=⟨p,0,none⟩) cY).trans HU.out;have ye:w3.frozen? ⟨p,0,none⟩=false:=by
  have:=yR.out;simp only[World.frozen?,cY]at this ⊢;exact this
 have vx:p<w3.heap.size:=ZR gx hu.size;obtain⟨jx,ew⟩:=ZH2 iM hu;clear iM de hu cY;rcases je:(d.write (recBytes f)).2 with _|m
 ·go_wp2
  go_ret;exact⟨own',w3,ew.out,jx.out,by rw[ZPp je];exact⟨rfl,rfl⟩⟩
 ·have hz:(((m+1:Nat):Int) != 0)=true:=ZP;have dc:(((m+1:Nat):Int)==0)=false:=ZP;go_wp2
  go_ret;exact⟨own',w3,ew.out,jx.out,by rw[ZPn ZO];exact⟨rfl,rfl⟩⟩
theorem Zpu{own:Own}{td dp:Nat}{ub:Bool}(dJ:w.cell? ⟨p,7,none⟩=some (B_ ub))(gM:w.frozen? ⟨p,7,none⟩=false)(GC:w.cell? ⟨p,8,none⟩=some (P_ (some ⟨dp,0,none⟩)))(gx:p<w.heap.size)(Hy:own p≠td)(hd:DiskAt own td w dp d)(hf:Fresh own w)(h:RecOk f)(hs:EvSl w a n cap f.events)(hn:d.bytes.length<=1000000000):
  Calls prog 68 #[P_ (some ⟨p,0,none⟩),Zah f (S_ a n cap)] w (ZkS own td p 7 dp d (recBytes f) w):=by
 have cR:=(ZKr w).alloc (C_ (Za f (S_ a n cap)) 150);have eu:=hs.below cR.below;have tX:=ZH (ZkG h eu);have kT:=(Zby h).1;obtain⟨HU,yR,La,HD,HF,ed,Mo⟩:=ZH7 dJ gM GC hd hf cR Hy;clear dJ gM GC hd hf cR hs eu h Hy;go_enter func68,ntmps68;go_wp2_with fail;refine tX.out.mono ?_;rintro _ w1 ⟨v1,rfl,eG,cz⟩;have dI:=ed.out.step cz;obtain⟨a1,c1,rfl,jG⟩:=Bytes.ae eG;have uP:w1.cell? ⟨p,8,none⟩=some (P_ (some ⟨dp,0,none⟩)):=by rw[dI.cells p _ gx];exact La.out
 obtain⟨da,fl,AM⟩:=ZH3 dI jG uP;clear eG cz jG dI uP;go_wp2_with fail;refine(Zfl AM.out).mono ?_;rintro _ w2 ⟨rfl,cD⟩;have cM:Upd (· = td) own own w w2:=(ZUb da.out.below HF.out).kept cD;have jM:DiskAt own td w2 dp d:=by
  have hu:Upd (λ_=>False) own own w w2:=(ZUb da.out.below HF.out).kept cD;exact HD.out.upd hu (λh=>h)
 obtain⟨HW,dC⟩:=ZH2 (ZjI jM cM.fresh (fl.out.kept cD (ZL _)) ZO hn) cM;clear cM jM cD;go_wp2_with fail;refine HW.out.mono ?_;rintro _ w3 ⟨rfl,own',iM,de⟩;have hu:=dC.out.trans de;have cY:=hu.same p gx Mo.out;have wm:w3.cell? ⟨p,7,none⟩=some (B_ ub):=(World.cell?_of_block (w:=w) (a:=⟨p,7,none⟩) cY).trans HU.out;have ye:w3.frozen? ⟨p,7,none⟩=false:=by
  have:=yR.out;simp only[World.frozen?,cY]at this ⊢;exact this
 have vx:p<w3.heap.size:=ZR gx hu.size;obtain⟨jx,ew⟩:=ZH2 iM hu;clear iM de hu cY;rcases je:(d.write (recBytes f)).2 with _|m
 ·go_wp2
  go_ret;exact⟨own',w3,ew.out,jx.out,by rw[ZPp je];exact⟨rfl,rfl⟩⟩
 ·have hz:(((m+1:Nat):Int) != 0)=true:=ZP;have dc:(((m+1:Nat):Int)==0)=false:=ZP;go_wp2
  go_ret;exact⟨own',w3,ew.out,jx.out,by rw[ZPn ZO];exact⟨rfl,rfl⟩⟩
def Zy(s:NodeSt)(f:Frm):NodeSt×Nat:=if (s.d.write (recBytes f)).2=0 then({ s with d:=(s.d.write (recBytes f)).1 },0) else({ s with d:=(s.d.write (recBytes f)).1,up:=false },18)
section
variable {own:Own}{t p r:Nat}{w:World}{c:Cfg}{s:NodeSt}
theorem Zfm(h:NodeAt own t w p c r s)(hf:Fresh own w)(em:RecOk f)(hs:EvSl w a n cap f.events)(hn:s.d.bytes.length<=1000000000):
  Calls prog 68 #[ptrV p,Zah f (S_ a n cap)] w λe w'=>e=R_ (I_ J_ (Zy s f).2)/\∃own',NodeAt own' t w' p c r (Zy s f).1/\Upd (NodeT t) own own' w w':=by
 obtain⟨h1,dp,bp,ip,op,lv,h3,h4,h5,h6,h7,h8⟩:=h;refine(Zpu (ub:=s.up) (p:=p) (dp:=dp) (td:=t+1) (h3.cell 7) (h3.frozen 7) (h3.cell 8) h3.lt (by rw[h1];omega) h4 hf em hs hn).mono ?_;rintro e w' ⟨own',w1,hu,hd,rE⟩;have ho:own' p=t:=(hu.old p h3.lt).trans h1;have hb:=h3.upd hu (by rw[h1];omega);have An:Upd (NodeT t) own own' w w1:=hu.mono (λm hm=>⟨ZO,ZO⟩);by_cases h0:(s.d.write (recBytes f)).2=0
 ·rw[ZPp h0]at rE;obtain⟨rfl,rfl⟩:=rE;have hw:Zy s f=({ s with d:=(s.d.write (recBytes f)).1 },0):=by unfold Zy;rw[ZPp h0]
  rw[hw];exact⟨rfl,own',⟨ho,dp,bp,ip,op,lv,hb,hd,h5.upd hu ZO,h6.upd hu ZO,h7.upd hu ZO,h8.upd hu ZO⟩,An⟩
 ·rw[ZPn h0]at rE;obtain⟨rfl,rfl⟩:=rE;have hw:Zy s f=({ s with d:=(s.d.write (recBytes f)).1,up:=false },18):=by unfold Zy;rw[ZPn h0]
  rw[hw];have jG:Upd (· = t) own' own' w1 (w1.setCell ⟨p,7,none⟩ (B_ false)):=(Upd.refl (· = t) own' w1 hu.fresh).setCell (p:=⟨p,7,none⟩) (λ_=>ho) _;exact⟨rfl,own',⟨ho,dp,bp,ip,op,lv,hb.aj 7 _,hd.upd jG ZO,(h5.upd hu ZO).upd jG ZO,(h6.upd hu ZO).upd jG ZO,(h7.upd hu ZO).upd jG ZO,(h8.upd hu ZO).upd jG ZO⟩,An.trans (jG.mono (λm hm=>⟨ZO,ZO⟩))⟩
end
def ZbJ(o:Option Frm×Nat)(w:World)(e:Ending)(w':World):Prop :=
 match o.1 with
 |some g=>∃v,e=R_ (.tuple #[v,I_ J_ 0])/\w'.ownsRow w.heap.size 5 1 v (Zn g).length (cells (Zn g))/\L_ w w'
 |none=>e=R_ (.tuple #[S_ none 0 0,I_ J_ o.2])/\L_ w w'
def ZbO(kind r:Nat)(c:Clk):Frm:=⟨kind,r,0,c,[]⟩
def ZcV(kind r:Nat)(s:NodeSt):Option Frm×Nat:=if s.up=true then(some (ZbO kind r s.clk),0) else(none,18)
def ZbM(r:Nat)(l:List Ev):Frm:=⟨1,r,0,ZCz,l⟩
def Zfo(c:Cfg)(r:Nat)(s:NodeSt):Option Frm×Nat:=if s.up=true then(if s.wait.length=0 then(none,24) else(some (ZbM r (s.wait.take c.w)),0)) else(none,18)
theorem ZoE{kind:Nat}{c:Clk}(hk:kind=3∨kind=5)(hr:r<5)(hc:∀i,c.get i<=1048576):(ZbO kind r c).Ok :=
 ⟨by simp[ZbO];omega,by simp[ZbO];omega,hr,by simp[ZbO],by simp[ZbO],hc,by simp[ZbO];omega,by simp[ZbO],by simp[ZbO],by simp[ZbO];omega,by simp[ZbO]⟩
theorem Zm1(hr:r<5)(hl:l.length<=20)(h1:1<=l.length)(he:∀e∈l,e.Ok/\e.r=r):(ZbM r l).Ok :=
 ⟨by simp[ZbM],by simp[ZbM],hr,by simp[ZbM],by simp[ZbM],λi=>by simp[ZbM,ZbS],by simp[ZbM],λe h=>(he e h).1,hl,λ_=>⟨h1,λe h=>(he e h).2⟩,by simp[ZbM]⟩
section
variable {own:Own}{t p r:Nat}{w:World}{c:Cfg}{s:NodeSt}
theorem Zln(h:NodeAt own t w p c r s)(hf:Fresh own w)(kind:Nat)(hk:kind=3∨kind=5)(hr:r<5)(hc:∀i,s.clk.get i<=1048576):
  Calls prog 76 #[ptrV p,I_ J_ kind] w (ZbJ (ZcV kind r s) w):=by
 obtain⟨h1,dp,bp,ip,op,lv,h3,h4,h5,h6,h7,h8⟩:=h;obtain⟨c6,c7,c8,c9,dg,dh,eH,eI⟩:=h3.ai;have cI:=h3.lt;have eC:=N_
 obtain⟨HB,HI,dU,HF⟩:=ZH4 h3 h7 (ZoE hk hr hc) hf;clear h3 h4 h5 h6 h7 h8 hc hf;obtain⟨up,d,log,sent,book,clk,held,wait⟩:=s;rcases up with _|_
 ·go_enter func76,ntmps76;go_wp2_with fail;go_ret2
  exact⟨rfl,ZW _ _⟩
 ·go_enter func76,ntmps76;go_wp2_with fail;refine ZSi [(0,3),(1,3),(2,0),(3,3),(4,0),(5,3),(6,0),(7,3),(8,0),(9,1),(10,3),(11,1),(12,3),(13,3),(14,3),(15,3)] λcu=>?_
  repeat((first|refine ZSa ?_|refine ZSb ?_|(refine Zf rfl (by rfl) (λw' cL=>by(obtain⟨c6,c7,c8,c9,dg,dh,eH,eI⟩:=(HB.out.ob cL.below).ai);go_simp;with_reducible rfl) ?_));simp only[Act.put,Q_])
  refine ZSd λK hK=>?_
  go_simp;have dE:Upd (λ_=>False) own own w w.drew:=ZUb (ZW w.heap.size w).drew HF.out;refine(ZeS (HI.out.upd dE (λh=>h))).mono ?_;rintro _ w2 ⟨rfl,cD⟩;refine hK.out (λw'=>K_ w w') _ _ (λ_ h=>h) (cu.step cD) (λcA=>?_);clear hK K cu cD dE;repeat((first|refine ZSa ?_|refine ZSb ?_|refine ZSc ?_);simp only[Act.put,Q_])
  refine ZSd λK hK=>?_
  go_simp;refine(Zf4 dU.out (EvSl.nil _)).mono ?_;rintro _ w3 ⟨v3,rfl,fd,cG⟩;have fk:=ZH (Zj fd cA.le);have dr:=cA.step cG;refine hK.out (λw'=>K_ w w'/\w'.ownsRow w.heap.size 5 1 v3 (Zn (ZbO kind r clk)).length (cells (Zn (ZbO kind r clk)))) _ _ (λ_ h=>h.1) ⟨dr,fk.out⟩ (λpt=>?_);clear hK K cA fd cG dr;repeat((first|refine ZSa ?_|refine ZSb ?_|refine ZSc ?_);simp only[Act.put,Q_])
  refine ZSf ?_;go_wp2_with fail;go_ret2
  exact⟨v3,rfl,pt.2,pt.1.below⟩
theorem Zpr(h:NodeAt own t w p c r s)(hf:Fresh own w)(hr:r<5)(hc:∀i,s.clk.get i<=1048576):
  Calls prog 38 #[ptrV p] w (ZbJ (ZcV 3 r s) w):=by
 have HT:=ZH (Zln h hf 3 ZO hr hc);clear h hf hc;go_enter func38,ntmps38;go_wp2_with fail;refine HT.out.mono ?_;intro e w2 hP;have HP:=ZH hP;unfold ZbJ at hP;split at hP
 ·obtain⟨v,rfl,_⟩:=hP;go_wp2_with fail;go_ret2
  exact HP.out
 ·obtain⟨rfl,_⟩:=hP;go_wp2_with fail;go_ret2
  exact HP.out
theorem Zsr(h:NodeAt own t w p c r s)(hf:Fresh own w)(hr:r<5)(hc:∀i,s.clk.get i<=1048576):
  Calls prog 39 #[ptrV p] w (ZbJ (ZcV 5 r s) w):=by
 have HT:=ZH (Zln h hf 5 ZO hr hc);clear h hf hc;go_enter func39,ntmps39;go_wp2_with fail;refine HT.out.mono ?_;intro e w2 hP;have HP:=ZH hP;unfold ZbJ at hP;split at hP
 ·obtain⟨v,rfl,_⟩:=hP;go_wp2_with fail;go_ret2
  exact HP.out
 ·obtain⟨rfl,_⟩:=hP;go_wp2_with fail;go_ret2
  exact HP.out
theorem Zq0(h:NodeAt own t w p c r s)(hf:Fresh own w)(hr:r<5)(hw:s.wait.length<=1000000)(RD:c.w<=4)(dD:1<=c.w)(he:∀e∈s.wait,e.Ok/\e.r=r):
  Calls prog 37 #[ptrV p] w (ZbJ (Zfo c r s) w):=by
 obtain⟨h1,dp,bp,ip,op,lv,h3,h4,h5,h6,h7,h8⟩:=h;obtain⟨c6,c7,c8,c9,dg,dh,eH,eI⟩:=h3.ai;have cI:=h3.lt;have eC:=N_
 obtain⟨HB,HO,HF,HE,UQ,TM,gk⟩:=ZH7 h3 h8 hf he hw RD dD;clear h3 h4 h5 h6 h7 h8 hf he hw RD dD;obtain⟨up,d,log,sent,book,clk,held,wait⟩:=s;rcases up with _|_
 ·go_enter func37,ntmps37;go_wp2_with fail;go_ret2
  exact⟨rfl,ZW _ _⟩
 ·go_enter func37,ntmps37;go_wp2_with fail;refine(Zpy HO.out).mono ?_;rintro _ w1 ⟨rfl,cz⟩;have cN:Upd (λ_=>False) own own w w1:=ZUb cz HF.out;obtain⟨dj,rq,dA,rh⟩:=ZH4 (HB.out.ob cz) (HO.out.upd cN (λh=>h)) cN cz;clear cz cN c6 c7 c8 c9 dg dh eH eI;by_cases h0:wait.length=0
  ·have hz:((wait.length:Int)==0)=true:=by simp[h0]
   have H0:=ZH h0;clear h0;go_wp2_with fail;go_ret2
   unfold ZbJ Zfo;rw[ZPp rfl,ZPp H0.out];exact⟨rfl,rh.out⟩
  ·obtain⟨l,eE⟩:∃l,l=wait.take c.w:=⟨_,rfl⟩;have hz:((wait.length:Int)==0)=false:=by simp;intro h;exact h0 (by simp[h])
   have dU:Hid (ZbM r (wait.take c.w)).Ok:=ZH (Zm1 hr (by rw[ZV];have:=TM.out;omega) (by rw[ZV];have:=gk.out;omega) (λe h=>HE.out e (List.mem_of_mem_take h)));rw[←eE]at dU;have JT:=ZH eE;clear eE;have H0:=ZH h0;clear h0;go_wp2_with fail;refine ZSi [(0,3),(1,0),(2,3),(3,0),(4,3),(5,0),(6,3),(7,0),(8,1),(9,3),(10,1),(11,3),(12,3),(13,3),(14,3)] λcu=>?_
   repeat((first|refine ZSa ?_|refine ZSb ?_|(refine Zf rfl (by rfl) (λw' cL=>by(obtain⟨c6,c7,c8,c9,dg,dh,eH,eI⟩:=(dj.out.ob cL.below).ai);go_simp;with_reducible rfl) ?_));simp only[Act.put,Q_])
   refine ZSd λK hK=>?_
   go_simp;have dE:Upd (λ_=>False) own own w1 w1.drew:=ZUb (ZW w1.heap.size w1).drew dA.out.fresh;refine(ZmY (rq.out.upd dE (λh=>h)) UQ.out).mono ?_;rintro _ w2 ⟨v2,rfl,dV,cD⟩;rw[←JT.out]at dV;obtain⟨a2,c2,rfl,ju⟩:=EvSl.ae dV;have jc:=dV;have fB:=ZH ju;have cX:=cu.step cD;refine hK.out (λw'=>K_ w2 w'/\K_ w1 w') _ _ (λ_ h=>h.2) ⟨ZKr _,cX⟩ (λcA=>?_);clear hK K cu cD dE cX ju dV jc;repeat((first|refine ZSa ?_|refine ZSb ?_|refine ZSc ?_);simp only[Act.put,Q_])
   refine ZSd λK hK=>?_
   go_simp;refine(Zf4 dU.out fB.out).mono ?_;rintro _ w3 ⟨v3,rfl,fd,cG⟩;have fk:=ZH (Zj fd cA.2.le);have dr:=cA.2.step cG;have dM:=cA.1.step cG;refine hK.out (λw'=>K_ w2 w'/\K_ w1 w'/\w'.ownsRow w1.heap.size 5 1 v3 (Zn (ZbM r l)).length (cells (Zn (ZbM r l)))) _ _ (λ_ h=>⟨h.1,h.2.1⟩) ⟨dM,dr,fk.out⟩ (λpt=>?_);clear hK K cA fd cG dr dM;repeat((first|refine ZSa ?_|refine ZSb ?_|refine ZSc ?_);simp only[Act.put,Q_])
   refine ZSf ?_;go_wp2_with fail;go_ret2
   unfold ZbJ Zfo;rw[ZPp rfl,ZPn H0.out,←JT.out];exact⟨v3,rfl,Zj pt.2.2 dA.out.size,rh.out.trans (pt.2.1.below.mono dA.out.size)⟩
end
def Zca(r:Nat)(s:NodeSt):Frm:=⟨4,r,s.sent,ZCz,s.log⟩
def ZfY(r:Nat)(s:NodeSt):NodeSt×Nat:=if s.up=true then Zy s (Zca r s) else(s,18)
section
variable {own:Own}{t p r:Nat}{w:World}{c:Cfg}{s:NodeSt}
theorem Zng(hr:r<5)(hs:s.sent<=1048576)(he:∀e∈s.log,e.Ok)(hl:s.log.length<=1000):RecOk (Zca r s) :=
 ⟨by simp[Zca],by simp[Zca],hr,hs,by simp[Zca],λi=>by simp[Zca,ZbS],by simp[Zca],he,hl,by simp[Zca],by simp[Zca]⟩
theorem Zpt(h:NodeAt own t w p c r s)(hf:Fresh own w)(hr:r<5)(hs:s.sent<=1048576)(he:∀e∈s.log,e.Ok)(hl:s.log.length<=1000)(hn:s.d.bytes.length<=1000000000):
  Calls prog 40 #[ptrV p] w λe w'=>e=R_ (I_ J_ (ZfY r s).2)/\∃own',NodeAt own' t w' p c r (ZfY r s).1/\Upd (NodeT t) own own' w w':=by
 obtain⟨sc,HF,HN,lG⟩:=ZH4 (Zng (r:=r) hr hs he hl) hf h hn;obtain⟨h1,dp,bp,ip,op,lv,h3,h4,h5,h6,h7,h8⟩:=h;obtain⟨al,cl,rfl,eW⟩:=EvSl.ae h5.row;obtain⟨c6,c7,c8,c9,dg,dh,eH,eI⟩:=h3.ai;have cI:=h3.lt;have eC:=N_
 have nw:decide ((s.log.length:Int)>4096)=false:=ZP;have hbig2:¬(4096:Int)<(s.log.length:Int):=ZO;obtain⟨HB,jV⟩:=ZH2 h3 eW;clear h1 h3 h4 h5 h6 h7 h8 eW hf he hn;obtain⟨up,d,log,sent,book,clk,held,wait⟩:=s;rcases up with _|_
 ·go_enter func40,ntmps40;go_wp2
  go_ret;exact⟨rfl,own,HN.out,ZUb (ZW _ _) HF.out⟩
 ·go_enter func40,ntmps40;go_wp2_with fail;refine ZSi [(0,3),(1,3),(2,0),(3,3),(4,0),(5,3),(6,0),(7,3),(8,0),(9,3),(10,0),(11,3),(12,0),(13,3),(14,2),(15,3)] λcu=>?_
  repeat((first|refine ZSa ?_|refine ZSb ?_|(refine Zf rfl (by rfl) (λw' cL=>by(obtain⟨c6,c7,c8,c9,dg,dh,eH,eI⟩:=(HB.out.ob cL.below).ai);go_simp;with_reducible rfl) ?_));simp only[Act.put,Q_])
  refine ZSe λK hK=>?_
  go_simp;have dE:Upd (λ_=>False) own own w w.drew:=ZUb (ZW w.heap.size w).drew HF.out;refine(Zfm (HN.out.upd dE (λ_ _ h=>h)) dE.fresh sc.out (jV.out.below (ZW w.heap.size w).drew) lG.out).mono ?_;rintro _ w3 ⟨rfl,eL,jR,de⟩;obtain⟨ta,ew⟩:=ZH2 jR ((dE.mono (T':=NodeT t) (λn h=>h.elim)).trans de);refine hK.out _ _ ?_;clear hK K cu dE jR de;repeat((first|refine ZSa ?_|refine ZSb ?_|refine ZSc ?_);simp only[Act.put,Q_])
  refine ZSf ?_;go_wp2
  go_ret;exact⟨rfl,eL,ta.out,ew.out⟩
end
def Zay(r u:Nat):Frm:=⟨3,r,u,ZCz,[]⟩
def ZaP(r:Nat)(s:NodeSt)(upto:Nat):Nat:=max s.sent (min upto (s.clk.get r))
def Zdf(r:Nat)(s:NodeSt)(upto:Nat):NodeSt×Nat :=
 if ZaP r s upto=s.sent then(s,0) else
  if (Zy s (Zay r (ZaP r s upto))).2=0 then({ (Zy s (Zay r (ZaP r s upto))).1 with sent:=ZaP r s upto,wait:=s.wait.drop (ZaP r s upto-s.sent) },0) else Zy s (Zay r (ZaP r s upto))
theorem ZbD(s:NodeSt)(f:Frm):(Zy s f).1.log=s.log/\(Zy s f).1.sent=s.sent/\(Zy s f).1.book=s.book/\(Zy s f).1.clk=s.clk/\(Zy s f).1.held=s.held/\(Zy s f).1.wait=s.wait:=by
 unfold Zy;split <;> exact⟨rfl,rfl,rfl,rfl,rfl,rfl⟩
theorem ZeY(s:NodeSt)(f:Frm):(Zy s f).2=0∨(Zy s f).2=18:=by
 unfold Zy;split
 ·exact .inl rfl
 ·exact .inr rfl
section
variable {own:Own}{t p r:Nat}{w:World}{c:Cfg}{s:NodeSt}
theorem ZoB{u:Nat}(hr:r<5)(hs:u<=1048576):RecOk (Zay r u) :=
 ⟨by simp[Zay],by simp[Zay],hr,hs,by simp[Zay],λi=>by simp[Zay,ZbS],by simp[Zay],by simp[Zay],by simp[Zay],by simp[Zay],by simp[Zay]⟩
theorem ZnR(h:NodeAt own t w p c r s)(hf:Fresh own w)(hr:r<5)(upto:Nat)(hw:s.clk.get r<=s.sent+s.wait.length)(hc:s.clk.get r<=1000000)(hs:s.sent<=1000000)(hu:upto<=1048576)(vO:s.wait.length<=1000000)(hn:s.d.bytes.length<=1000000000):
  Calls prog 96 #[ptrV p,I_ J_ upto] w λe w'=>e=R_ (I_ J_ (Zdf r s upto).2)/\∃own',NodeAt own' t w' p c r (Zdf r s upto).1/\Upd (NodeT t) own own' w w':=by
 have sR:=ZoB (r:=r) (u:=ZaP r s upto) hr (by unfold ZaP;omega);obtain⟨sc,HF,HN,lG⟩:=ZH4 sR hf h hn;obtain⟨h1,dp,bp,ip,op,lv,h3,h4,h5,h6,h7,h8⟩:=h;obtain⟨al,cl,rfl,eW⟩:=EvSl.ae h5.row;obtain⟨c6,c7,c8,c9,dg,dh,eH,eI⟩:=h3.ai;have cI:=h3.lt;obtain⟨HB,HI⟩:=ZH2 h3 h7;have kF:=Zao s.clk r hr;obtain⟨u,hu⟩:∃u,u=ZaP r s upto:=⟨_,rfl⟩;have D4:max (s.sent:Int) (min (upto:Int) (s.clk.get r:Int))=(u:Int):=by rw[hu];unfold ZaP;omega
 have zg:=ZH hu;have hsu:s.sent<=u:=by rw[hu];unfold ZaP;omega
 have hub:u<=1000000:=by rw[hu];unfold ZaP;omega
 have wF:u≠s.sent->u-s.sent<=s.wait.length:=by rw[hu];unfold ZaP;omega
 clear h1 h3 h4 h5 h6 h7 h8 eW hf hn sR hu;go_enter func96,ntmps96;go_wp2_with fail;refine ZSi [(0,3),(1,0),(2,3),(3,0),(4,3),(5,3),(6,0),(7,3),(8,0),(10,3),(11,0),(12,3),(13,0),(9,1),(14,0),(15,3),(16,3),(17,3)] λcu=>?_
 repeat((first|refine ZSa ?_|refine ZSb ?_|(refine Zf rfl (by rfl) (λw' cL=>by(obtain⟨c6,c7,c8,c9,dg,dh,eH,eI⟩:=(HB.out.ob cL.below).ai);go_simp;with_reducible rfl) ?_));simp only[Act.put,Q_])
 refine ZSd λK hK=>?_
 go_simp;have dE:Upd (λ_=>False) own own w w.drew:=ZUb (ZW w.heap.size w).drew HF.out;refine(ZeS (HI.out.upd dE (λh=>h))).mono ?_;rintro _ w2 ⟨rfl,cD⟩;refine hK.out (λw'=>K_ w w') _ _ (λ_ h=>h) (cu.step cD) (λcA=>?_);clear hK K cu cD dE;repeat((first|refine ZSa ?_|refine ZSb ?_|(refine Zf rfl (by rfl) (λw' cL=>by(obtain⟨c6,c7,c8,c9,dg,dh,eH,eI⟩:=(HB.out.ob cL.below).ai);go_simp;with_reducible rfl) ?_));simp only[Act.put,Q_])
 refine ZSf ?_;clear c6 c7 c8 c9 dg dh eH eI;have cD:=cA.below;have cM:Upd (λ_=>False) own own w w2:=ZUb cD HF.out;obtain⟨xj,dC⟩:=ZH2 (HN.out.upd cM (λ_ _ h=>h)) cM;obtain⟨c6,c7,c8,c9,dg,dh,eH,eI⟩:=(HB.out.ob cD).ai;have jc:=(HB.out.ob cD).lt;clear cD cM cA;by_cases hq:u=s.sent
 ·have hz:((u:Int)==(s.sent:Int))=true:=by simp[hq]
  have hp:Zdf r s upto=(s,0):=by unfold Zdf;rw[ZPp (zg.out▸hq)]
  have HP:=ZH hp;clear hp hq;go_wp2
  go_ret;rw[HP.out];exact⟨rfl,own,xj.out,dC.out.mono (λn h=>h.elim)⟩
 ·have hz:((u:Int)==(s.sent:Int))=false:=ZP;have JT:=ZH (wF hq);have oJ:=Zfm xj.out dC.out.fresh sc.out (EvSl.nil _) lG.out;rw[←zg.out]at oJ;have hp:Zdf r s upto=if (Zy s (Zay r u)).2=0 then({ (Zy s (Zay r u)).1 with sent:=u,wait:=s.wait.drop (u-s.sent) },0) else Zy s (Zay r u):=by unfold Zdf;rw[ZPn (zg.out▸hq),←zg.out]
  obtain⟨HP,Fo⟩:=ZH2 hp oJ;have Pn:s.sent<u:=ZO;clear hp oJ hq wF;go_wp2_with fail;refine Fo.out.mono ?_;rintro _ w3 ⟨rfl,eL,jR,de⟩;obtain⟨k1,k2,k3,k4,k5,k6⟩:=ZbD s (Zay r u);rcases ZeY s (Zay r u) with eo|eo
  ·obtain⟨g1,U5,UW,Wr,Wx,Wt,g3,g4,g5,g6,g7,g8⟩:=jR;rw[k2,k6]at g8;obtain⟨b6,b7,b8,b9,QF,QG,b12,b13⟩:=g3.ai;have qW:=g3.lt;obtain⟨Uy,EE,Lm,TW,xd,qt,ew,oK⟩:=ZH8 (ZnU g8 de.fresh ZO Pn JT.out hs) g3 g4 g5 g6 g7 de eo;have GA:(((Zy s (Zay r u)).2:Int) != 0)=false:=by simp[eo]
   clear g3 g4 g5 g6 g7 g8 de eo k1 k2 k3 k4 k5 k6;go_wp2_with fail;refine Uy.out.mono ?_;rintro _ w4 ⟨rfl,gZ,ei⟩;have cS:=EE.out.upd ei (by rw[g1];omega);have jj:=cS.cell 10;have f10:=cS.frozen 10;have yh:=cS.lt;simp only[ZD,ZE,ZG]at jj;have lB:Upd (· = t) eL eL w4 (w4.setCell ⟨p,10,none⟩ (I_ J_ (u:Int))):=(Upd.refl (· = t) eL w4 ei.fresh).setCell (p:=⟨p,10,none⟩) (λ_=>g1) _;have dz:NodeAt eL t (w4.setCell ⟨p,10,none⟩ (I_ J_ (u:Int))) p c r { (Zy s (Zay r u)).1 with sent:=u,wait:=s.wait.drop (u-s.sent) } :=
    ⟨g1,U5,UW,Wr,Wx,Wt,cS.aj 10 _,(Lm.out.upd ei ZO).upd lB ZO,(TW.out.upd ei ZO).upd lB ZO,(xd.out.upd ei ZO).upd lB ZO,(qt.out.upd ei ZO).upd lB ZO,gZ.upd lB ZO⟩
   have uc:Hid (Upd (NodeT t) own eL w (w4.setCell ⟨p,10,none⟩ (I_ J_ (u:Int)))):=ZH ((((dC.out.mono (T':=NodeT t) (λn h=>h.elim)).trans ew.out).trans (ei.mono (T':=NodeT t) (λm hm=>⟨ZO,ZO⟩))).trans (lB.mono (T':=NodeT t) (λm hm=>⟨ZO,ZO⟩)));have rZ:=ZH dz;clear cS lB dz gZ ei;go_wp2
   go_ret;rw[HP.out,ZPp oK.out];exact⟨rfl,eL,rZ.out,uc.out⟩
  ·have GA:(((Zy s (Zay r u)).2:Int) != 0)=true:=by simp[eo]
   obtain⟨ta,ew,oK⟩:=ZH3 jR de eo;clear jR de eo k1 k2 k3 k4 k5 k6;go_wp2
   go_ret;rw[HP.out,ZPn (by rw[oK.out];omega)];exact⟨rfl,eL,ta.out,(dC.out.mono (T':=NodeT t) (λn h=>h.elim)).trans ew.out⟩
end
def ZaG(r:Nat)(l:List Ev):Frm:=⟨2,r,0,ZCz,l⟩
def Zcb(s:NodeSt)(l:List Ev):NodeSt:={ s with clk:=(drained s.clk (s.held++l)).2.2,held:=ZcI s.clk (s.held++l) }
def Zdb(c:Cfg)(r:Nat)(s:NodeSt)(l:List Ev):NodeSt×Nat :=
 if c.h<(ZcI s.clk (s.held++l)).length then(s,22) else
  if (drained s.clk (s.held++l)).1=[] then(Zcb s l,0) else
   if (Zy (Zcb s l) (ZaG r (drained s.clk (s.held++l)).1)).2=0 then(Zbv (Zy (Zcb s l) (ZaG r (drained s.clk (s.held++l)).1)).1 (drained s.clk (s.held++l)).1,0) else Zy (Zcb s l) (ZaG r (drained s.clk (s.held++l)).1)
section
variable {own:Own}{t p r:Nat}{w:World}{c:Cfg}{s:NodeSt}
theorem ZoD(hr:r<5)(he:∀e∈l,e.Ok)(hl:l.length<=1000):RecOk (ZaG r l) :=
 ⟨by simp[ZaG],by simp[ZaG],hr,by simp[ZaG],by simp[ZaG],λi=>by simp[ZaG,ZbS],by simp[ZaG],he,hl,by simp[ZaG],by simp[ZaG]⟩
theorem ZnQ(ht:0<t)(h:NodeAt own t w p c r s)(hf:Fresh own w)(hr:r<5)(eW:EvSl w a n cap l)(hl:∀e∈s.held++l,e.Ok)(hc:∀i,s.clk.get i+(s.held.length+n)<=1000000)(kE:(drained s.clk (s.held++l)).1.length<=1000)(DW:∀e∈(drained s.clk (s.held++l)).1,e.Ok)(jC:BookInv N s.book)(hN:N<=90000)(nC:s.log.length<=100000)(hn:s.d.bytes.length<=1000000000):
  Calls prog 97 #[ptrV p,S_ a n cap] w λe w'=>e=R_ (I_ J_ (Zdb c r s l).2)/\∃own',NodeAt own' t w' p c r (Zdb c r s l).1/\Upd (NodeT t) own own' w w':=by
 obtain⟨sc,HN,HF,lG⟩:=ZH4 (ZoD (r:=r) hr DW kE) h hf hn;obtain⟨h1,dp,bp,ip,op,lv,h3,h4,h5,h6,h7,h8⟩:=h;obtain⟨c6,c7,c8,c9,dg,dh,eH,eI⟩:=h3.ai;have cI:=h3.lt;have hit:=Zpd h7 hf eW (λe he=>by have:=hl e he;exact⟨this.r,this.n1⟩) hc;obtain⟨HM,HB,HD,yX,HK,HI,HO,LC,rU⟩:=ZH9 h1 h3 h4 h5 h6 h7 h8 hit jC;obtain⟨P5,rm⟩:=ZH2 DW kE;clear h1 h3 h4 h5 h6 h7 h8 eW hf hl hit jC DW kE hn;go_enter func97,ntmps97;go_wp2_with fail;refine LC.out.mono ?_;rintro _ w1 (⟨nw,rfl,cz⟩|⟨cY,v,cZ,rfl,cT,j5,cN⟩)
 ·have hp:Zdb c r s l=(s,22):=by unfold Zdb;rw[ZPp nw]
  have cN:Upd (λ_=>False) own own w w1:=ZUb cz HF.out;obtain⟨HP,dA⟩:=ZH2 hp cN;clear nw cz hp cN;go_wp2
  go_ret;rw[HP.out];exact⟨rfl,own,(HN.out.upd dA.out (λ_ _ h=>h)),dA.out.mono (λn h=>h.elim)⟩
 ·obtain⟨D,hD⟩:∃D,D=(drained s.clk (s.held++l)).1:=⟨_,rfl⟩;have yE:NodeAt cZ t w1 p c r (Zcb s l) :=
   ⟨(cN.old p cI).trans HM.out,dp,bp,ip,op,lv,HB.out.upd cN (by rw[HM.out];omega),HD.out.upd cN ZO,yX.out.upd cN ZO,HK.out.upd cN ZO,j5,HO.out.upd cN ZO⟩
  have hp:Zdb c r s l=if D=[] then(Zcb s l,0) else if (Zy (Zcb s l) (ZaG r D)).2=0 then(Zbv (Zy (Zcb s l) (ZaG r D)).1 D,0) else Zy (Zcb s l) (ZaG r D):=by unfold Zdb;rw[ZPn ZO,hD]
  rw[←hD]at cT;rw[←hD]at sc P5 rm;obtain⟨av,cv,rfl,oW⟩:=cT.loose;have cz:=HB.out.upd cN (by rw[HM.out];omega);obtain⟨d6,d7,d8,d9,zl,uo,d12,d13⟩:=cz.ai;have jE:=cz.lt;obtain⟨HP,QA,dA,Ql⟩:=ZH4 hp yE (cN.mono (T':=NodeT t) (λm hm=>⟨ZO,ZO⟩)) oW;clear hD hp yE cN oW cT j5 cz cY;by_cases hd:D=[]
  ·have hz:((D.length:Int)==0)=true:=by simp[hd]
   have JM:=ZH hd;clear hd;go_wp2
   go_ret;rw[HP.out,ZPp JM.out];exact⟨rfl,cZ,QA.out,dA.out⟩
  ·have eN:D.length≠0:=λh=>hd (List.eq_nil_of_length_eq_zero h)
   have hz:((D.length:Int)==0)=false:=by simp[hd]
   obtain⟨Fo,JM⟩:=ZH2 (Zfm QA.out dA.out.fresh sc.out Ql.out.sl lG.out) hd;clear hd;go_wp2_with fail;refine Fo.out.mono ?_;rintro _ w3 ⟨rfl,eL,jR,de⟩;obtain⟨k1,k2,k3,k4,k5,k6⟩:=ZbD (Zcb s l) (ZaG r D);obtain⟨ta,ew⟩:=ZH2 jR de;rcases ZeY (Zcb s l) (ZaG r D) with eo|eo
   ·have GA:(((Zy (Zcb s l) (ZaG r D)).2:Int) != 0)=false:=by simp[eo]
    have GY:=Ql.out.upd de (λh=>by obtain⟨h,_⟩:=h;omega);have kE:=rm.out;have RH:=Zh1 ht jR de.fresh (N:=N) (by rw[k3];exact rU.out) ZO GY P5.out (by rw[k1];exact nC);obtain⟨Lb,oK⟩:=ZH2 RH eo;clear GY RH eo jR de k1 k2 k3 k4 k5 k6 kE;go_wp2_with fail;refine Lb.out.mono ?_;rintro _ w4 ⟨rfl,dX,rJ,ei⟩;obtain⟨Dx,gj⟩:=ZH2 rJ ei;clear rJ ei;go_wp2
    go_ret;rw[HP.out,ZPn JM.out,ZPp oK.out];exact⟨rfl,dX,Dx.out,(dA.out.trans ew.out).trans gj.out⟩
   ·have GA:(((Zy (Zcb s l) (ZaG r D)).2:Int) != 0)=true:=by simp[eo]
    have oK:=ZH eo;clear eo jR de k1 k2 k3 k4 k5 k6;go_wp2
    go_ret;rw[HP.out,ZPn JM.out,ZPn (by rw[oK.out];omega)];exact⟨rfl,eL,ta.out,dA.out.trans ew.out⟩
end
abbrev PostSt:=List Sh×List Clk
def initSt(c:Cfg):PostSt:=(List.replicate c.n ⟨0,[]⟩,List.replicate c.n ZCz)
def ZbG(most:Nat)(st:PostSt)(f:Frm):PostSt :=
 if f.kind=5 then((Zs most f.r f.events st.1 st.2).2.2,st.2)
 else if f.kind=6 then(Zav st.1 (st.2.set f.r ((st.2.getD f.r ZCz).join f.clock)) st.1.length,st.2.set f.r ((st.2.getD f.r ZCz).join f.clock)) else st
def ZbN(most:Nat)(st:PostSt)(rs:List Frm):PostSt:=rs.foldl (ZbG most) st
structure PostOk(N most:Nat)(st:PostSt):Prop where
 len:st.1.length=N
 len2:st.2.length=N
 kept:∀s∈st.1,s.kept.length<=most/\s.base<=100000
 told:∀x∈st.2,∀i,x.get i<=1048576
structure NextOk(st:PostSt)(f:Frm):Prop where
 r:f.r<st.1.length
 kind:f.kind=5∨f.kind=6
 push:f.kind=5->∃n0 x,st.1[f.r]? = some x/\From1 n0 f.events/\n0<=x.base+x.kept.length+1/\∀e∈f.events,e.r=f.r
def ReplayOk(N most:Nat):PostSt->List Frm->Prop
 |st,[]=>PostOk N most st
 |st,f::rs=>PostOk N most st/\NextOk st f/\ReplayOk N most (ZbG most st f) rs
theorem ReplayOk.at_{N most:Nat}:∀{rs:List Frm} {st:PostSt} (q:Nat) (f:Frm),ReplayOk N most st rs->rs[q]? = some f->PostOk N most (ZbN most st (rs.take q))/\NextOk (ZbN most st (rs.take q)) f
 | [],_,q,f,_,h=>by simp at h
 |g::rs,st,0,f,hr,h=>by
  simp at h;subst h;exact⟨hr.1,hr.2.1⟩
 |g::rs,st,q+1,f,hr,h=>by
  have:=ReplayOk.at_ q f hr.2.2 (by simpa using h);simpa [ZbN] using this
theorem ReplayOk.end_{N most:Nat}:∀{rs:List Frm} {st:PostSt},ReplayOk N most st rs->PostOk N most (ZbN most st rs)
 | [],_,h=>h
 |_::rs,_,h=>ReplayOk.end_ (rs:=rs) h.2.2
theorem Zna(most:Nat)(st:PostSt){rs:List Frm}(h:rs[q]? = some f):ZbN most st (rs.take (q+1))=ZbG most (ZbN most st (rs.take q)) f:=by
 unfold ZbN;rw[List.take_add_one,h];simp
theorem ZfV:∀(ps:List (Frm×Value)) (i j:Nat) (p:Frm×Value),ps[i]? = some p->j<9->(recCells ps)[i*9+j]? = (Za p.1 p.2)[j]?
 | [],i,j,e,h,_=>by simp at h
 |x::ps,0,j,e,h,hj=>by
  simp at h;subst h;simp only[recCells,List.flatMap_cons,Nat.zero_mul,Nat.zero_add];rw[List.getElem?_append_left ZP];simp
 |x::ps,i+1,j,e,h,hj=>by
  have ih:=ZfV ps i j e (by simpa using h) hj;rw[←ih];simp only[recCells,List.flatMap_cons];rw[List.getElem?_append_right ZP];congr 1;simp;omega
theorem Zh6(ps:List (Frm×Value)):(recCells ps).length=ps.length*9:=by
 induction ps with
 |nil=>rfl
 |cons e es ih =>
  simp only[recCells,List.flatMap_cons,ZI]at ih ⊢;rw[ih];simp;omega
structure RecLoose(own:Own)(w:World)(v:Value)(rs:List Frm)(ps:List (Frm×Value)):Prop where
 rows:RecRows 0 w v rs ps
 o1:∀g,v.ownBlock=some g->own g=0
 o2:∀x∈ps,∀g,x.2.ownBlock=some g->own g=0
section
variable {own own':Own}{w w':World}{v:Value}{rs:List Frm}{ps:List (Frm×Value)}{T:Nat->Prop}
theorem RecLoose.upd(h:RecLoose own w v rs ps)(hu:Upd T own own' w w')(h0:¬T 0):RecLoose own' w' v rs ps :=
 ⟨⟨h.rows.is_,Zi h.rows.row (λg hg hl=>hu.same g hl (by rw[h.o1 g hg];exact h0)),λx hx=>Zi (h.rows.evs x hx) (λg hg hl=>hu.same g hl (by rw[h.o2 x hx g hg];exact h0))⟩,
  λg hg=>by rw[hu.old g (Zb h.rows.row hg).2];exact h.o1 g hg,λx hx g hg=>by rw[hu.old g (Zb (h.rows.evs x hx) hg).2];exact h.o2 x hx g hg⟩
theorem RecLoose.at_(h:RecLoose own w v rs ps)(hf:rs[q]? = some f):∃b a n c av,v=S_ (some ⟨b,0,none⟩) rs.length c/\b<w.heap.size/\EvSl w a n av f.events/\n=f.events.length /\
  (∀j,j<9->w.cell? ⟨b,q*9+j,none⟩=(Za f (S_ a n av))[j]?):=by
 have hq:=(ZZ.1 hf).1;obtain⟨a0,c0,rfl⟩:=Zl h.rows.row;obtain⟨g,hg,ez,cB⟩:=Zbm h.rows.row ZO;have gx:ps.length=rs.length:=by rw[←h.rows.is_];simp
 obtain⟨p,hp⟩:∃p,ps[q]? = some p:=⟨_,ZX ZO⟩;have Ac:p.1=f:=by
  have:=h.rows.is_;have h2:(ps.map (·.1))[q]? = some p.1:=by rw[List.getElem?_map,hp];rfl
  rw[this,hf]at h2;injection h2 with h2;exact h2.symm
 obtain⟨av,cv,hv,eW⟩:=EvSl.ae (h.rows.evs p (ZY hp));rw[Ac]at hv eW;refine⟨g,av,_,c0,cv,by rw[hg],ez,eW,rfl,λj hj=>?_⟩;rw[cB _ (by rw[Zh6];omega),ZfV ps q j p hp hj,Ac,hv]
end
theorem ZhQ{α : Type}{l:List α}(h:l.length=5):∃a0 a1 a2 a3 a4,l=[a0,a1,a2,a3,a4]:=by
 match l,h with
 | [a0,a1,a2,a3,a4],_=>exact⟨a0,a1,a2,a3,a4,rfl⟩
theorem ZtN(b l:Clk){acks:List Clk}(h:acks.length=5)(w:World):(Instr.field 56 (Zbw true b l acks) 2).run prog w=.ok (Zbh l) w:=by
 obtain⟨a0,a1,a2,a3,a4,rfl⟩:=ZhQ h;kernel_rfl
theorem ZmB(b l:Clk){acks:List Clk}(h:acks.length=5)(w:World):(Instr.field 56 (Zbw true b l acks) 3).run prog w=.ok (.agg (clkCells acks).toArray) w:=by
 obtain⟨a0,a1,a2,a3,a4,rfl⟩:=ZhQ h;kernel_rfl
theorem ZmI{acks:List Clk}(h:acks.length=5)(hr:r<5)(w:World):(Instr.index 54 (.agg (clkCells acks).toArray) (I_ J_ (r:Int))).run prog w=.ok (Zbh (acks.getD r ZCz)) w:=by
 obtain⟨a0,a1,a2,a3,a4,rfl⟩:=ZhQ h;rcases(by omega:r=0∨r=1∨r=2∨r=3∨r=4) with rfl|rfl|rfl|rfl|rfl <;> kernel_rfl
theorem ZiA{told:List Clk}(hr:r<told.length):(Zbp told).getD r ZCz=told.getD r ZCz:=by
 unfold Zbp;simp only[List.getD];rw[List.getElem?_append_left hr]
def ZaE(r u:Nat):Frm:=⟨2,r,u,ZCz,[]⟩
theorem Zf8{u:Nat}(hr:r<5)(hu:u<=1048576):(ZaE r u).Ok :=
 ⟨by simp[ZaE],by simp[ZaE],hr,hu,by simp[ZaE],λi=>by simp[ZaE,ZbS],by simp[ZaE],by simp[ZaE],by simp[ZaE],by simp[ZaE],by simp[ZaE]⟩
def Zax(f:Frm):Frm:=⟨5,f.r,0,ZCz,f.events⟩
theorem Zj8(h:f.Ok):RecOk (Zax f) :=
 ⟨by simp[Zax],by simp[Zax],h.r,by simp[Zax],by simp[Zax],λi=>by simp[Zax,ZbS],by simp[Zax],h.events,by have:=h.len;simp[Zax];omega,by simp[Zax],by simp[Zax]⟩
def ZoI(own':Own)(to:Nat)(g:Frm)(w:World)(r:Ending)(w':World):Prop :=
 ∃v,r=R_ (.tuple #[I_ J_ to,v,I_ J_ 0])/\w'.ownsRow w.heap.size 5 1 v (Zn g).length (cells (Zn g))/\∀b,v.ownBlock=some b->own' b=0
def Zko(e:Nat)(r:Ending):Prop:=r=R_ (.tuple #[I_ J_ (-1),S_ none 0 0,I_ J_ (e:Int)])
def Zmd(own:Own)(t p:Nat)(c:Cfg)(d:Dk)(sh:List Sh)(told:List Clk)(f:Frm)(w:World)(r:Ending)(w':World):Prop :=
 ∃own',Upd (HubT t) own own' w w' /\
  if (Zs c.w f.r f.events sh told).2.1≠0 then Zko (Zs c.w f.r f.events sh told).2.1 r/\HubAt own' t w' p c true d (Zs c.w f.r f.events sh told).2.2 told
  else if (Zs c.w f.r f.events sh told).1=(lenOf sh).get f.r then ZoI own' f.r (ZaE f.r (Zs c.w f.r f.events sh told).1) w r w'/\HubAt own' t w' p c true d (Zs c.w f.r f.events sh told).2.2 told
  else if (d.write (recBytes (Zax f))).2=0 then ZoI own' f.r (ZaE f.r (Zs c.w f.r f.events sh told).1) w r w'/\HubAt own' t w' p c true (d.write (recBytes (Zax f))).1 (Zs c.w f.r f.events sh told).2.2 told
  else Zko 18 r/\HubAt own' t w' p c false (d.write (recBytes (Zax f))).1 (Zs c.w f.r f.events sh told).2.2 told
theorem ZkF{told:List Clk}(h:∀s∈sh,s.kept.length<=most/\s.base<=100000)(hm:most<=4):(Zs most r l sh told).1<=200000/\(Zs most r l sh told).2.2.length=sh.length:=by
 unfold Zs
 cases hx:sh[r]? with
 |none=>exact⟨ZM,rfl⟩
 |some x =>
  simp only;have hb:=h x (ZY hx);have hp:=ZiZ (base:=x.base) (l:=l) hb.1;split
  ·refine⟨?_,ZM⟩;have hlen:(Z0 most x.base x.kept l).2.length<=4:=by
    rcases hp with ⟨_,h2⟩|⟨_,h2⟩
    ·omega
    ·rw[h2];omega
   simp only[cutSh,List.length_drop];unfold Za5;omega
  ·exact⟨ZM,rfl⟩
theorem Zsa{own:Own}{told:List Clk}(ht:0<t)(h:HubAt own t w p c true d sh told)(hf:Fresh own w)(hc:c.Ok)(q9:PostOk c.n c.w (sh,told))(f:Frm)(em:f.Ok)(dI:f.kind=1)(na:NextOk (sh,told) ⟨5,f.r,0,ZCz,f.events⟩)(hs:Loose own w a n cap f.events)(hd:d.bytes.length<=1000000000):
  Calls prog 93 #[P_ (some ⟨p,0,none⟩),Zah f (S_ a n cap)] w (Zmd own t p c d sh told f w):=by
 obtain⟨h1,h2,dp,pp,h3,h4,h5⟩:=h;have cR:=(ZKr w).alloc (C_ (Za f (S_ a n cap)) 158);obtain⟨HX,HB⟩:=ZH2 (ZBn w 158 (Za f (S_ a n cap))) (h3.alloc (C_ (Za f (S_ a n cap)) 158));have dt:Upd (λ_=>False) own own w (w.alloc (C_ (Za f (S_ a n cap)) 158)):=ZUb cR.below hf;obtain⟨HP,HD,HS,p8,yR,mX,HU,ed,dU⟩:=ZH9 (h5.upd dt (λ_ _ h=>h)) (h4.upd dt (λh=>h)) (hs.upd dt (λh=>h)) dt hf h3.lt dt cR em;obtain⟨gR,lI,nK,HC,HM,da⟩:=ZH6 h2 q9 na hc h1 dI;clear h1 h2 h3 h4 h5 dt hs cR hf em q9 na hc dI;go_enter func93,ntmps93;go_wp2_with fail;generalize w.alloc (C_ (Za f (S_ a n cap)) 158)=W at *;refine ZSi [(0,3),(1,0),(2,3),(3,0),(6,3),(7,0),(4,1),(5,3),(8,0),(9,3)] λcu=>?_
 repeat((first|refine ZSa ?_|refine ZSb ?_|(refine Zf rfl (by rfl) (λw' cL=>by(obtain⟨c0,c1,c2,c3,c4,c5,c6,c7,c8⟩:=(HB.out.ob cL.below).am);(obtain⟨x0,x1,x2,x3,x4,x5,x6,x7,x8⟩:=(HX.out.ob cL.below).am);go_simp;with_reducible rfl) ?_));simp only[Act.put,Q_])
 refine ZSd λK hK=>?_
 go_simp;have dE:Upd (λ_=>False) own own W W.drew:=ZUb (ZW W.heap.size W).drew HU.out.fresh;refine(Ze7 (HP.out.upd dE (λ_ _ h=>h)) dE.fresh (by rw[gR.out];exact HC.out.n5) (λs hs=>by have:=lI.out.kept s hs;have:=HC.out.w4;omega)).mono ?_;rintro _ w2 ⟨rfl,cD⟩;refine hK.out (λw'=>Kept W.heap.size W w') _ _ (λ_ h=>h) (cu.step cD) (λcA=>?_);clear hK K cu cD dE;have sv:(Zbp told).length=5:=Zdm (by rw[lI.out.len2];exact HC.out.n5);have kN:=λw=>ZtN (Zdw sh) (lenOf sh) sv w
 have eO:f.r<5:=dU.out.r;have kF:=λw=>Zao (lenOf sh) f.r eO w
 repeat((first|refine ZSa ?_|refine ZSb ?_|refine ZSc ?_);simp only[Act.put,Q_])
 refine ZSf ?_;have HH:=ZH cA;clear kN kF sv eO cA;have mu:=HX.out.ob HH.out.below;go_wp2_with fail;generalize ee:w2=W2 at *;refine ZSi [(0,3),(1,0),(2,3),(3,0),(4,3),(5,0),(6,3),(7,0),(8,2),(9,3),(10,3),(11,3),(12,3),(13,3)] λcu=>?_
 repeat((first|refine ZSa ?_|refine ZSb ?_|(refine Zf (v:=?_) rfl (by rfl) ?_ ?_;rotate_left 1;(intro w' cL;(obtain⟨c0,c1,c2,c3,c4,c5,c6,c7,c8⟩:=(HB.out.ob (HH.out.trans cL HH.out.le).below).am);(obtain⟨x0,x1,x2,x3,x4,x5,x6,x7,x8⟩:=(HX.out.ob (HH.out.trans cL HH.out.le).below).am);go_simp;with_reducible rfl)));simp only[Act.put,Q_])
 obtain⟨n0,x,hx,gM,gi,zG⟩:=nK.out.push rfl;have Df:=lI.out.kept x (ZY hx);have mW:=HC.out.w4;have rK:=HC.out.n5;have cM:Upd (λ_=>False) own own W W2.drew:=ZUb HH.out.below.drew HU.out.fresh;obtain⟨PP,BM⟩:∃PP,PP=Zs c.w f.r f.events sh told:=⟨_,rfl⟩;have cY:=ZkF (r:=f.r) (l:=f.events) (told:=told) lI.out.kept mW;rw[←BM]at cY;have nR:=Zlr (HP.out.upd cM (λ_ _ h=>h)) cM.fresh (by rw[lI.out.len];exact rK) f.r hx Df.1 ZO ((HS.out.upd cM (λh=>h)).sl) (by have:=(HS.out).sl.2.2.1;have:=dU.out.len;omega) n0 gM gi zG;rw[←BM]at nR;obtain⟨E1,dC,iY,gA⟩:=ZH4 nR cM BM cY;clear hx gM gi zG Df mW rK cM BM cY nR;refine ZSe λK hK=>?_
 go_simp;refine E1.out.mono ?_;rintro _ w6 ⟨rfl,el,oX,ib⟩;have eO:=dU.out.r;have hT:∀n,n=t+10+1+f.r->HubT t n:=λn hn=>⟨ZO,ZO⟩
 have wg:=((HB.out.ob HH.out.below).drew).upd ib (by rw[HM.out];omega);have F1:=(HD.out.upd dC.out (λh=>h)).upd ib ZO;have Rr:=(HS.out.upd dC.out (λh=>h)).upd ib ZO
 have xP:Blk w6 w.heap.size 158 (Za f (S_ a n cap)):=((HX.out.ob HH.out.below).drew).upd ib (by
  have h0:own w.heap.size=0:=yR.out _ (ZL _)
  omega)
 have rc:Upd (HubT t) own el w w6:=((p8.out.trans dC.out).mono (λn h=>h.elim)).trans (ib.mono hT);obtain⟨jT,tF,ze,nZ,iZ,tg⟩:=ZH6 wg F1 Rr xP rc oX
 have MX:Hid (el w.heap.size=own w.heap.size):=ZH (by
  rw[ib.old _ (by have:=(HX.out.ob HH.out.below).lt;exact this)])
 have tR:Hid (el p=t):=ZH ((rc.old p mX.out).trans HM.out);refine hK.out _ _ ?_;clear hK K cu wg F1 Rr xP rc oX ib eO hT;repeat((first|refine ZSa ?_|refine ZSb ?_|refine ZSc ?_);simp only[Act.put,Q_])
 refine ZSf ?_;obtain⟨x0,x1,x2,x3,x4,x5,x6,x7,x8⟩:=nZ.out.am;have ko:=nZ.out.lt;by_cases h0:PP.2.1=0
 ·have hz:((PP.2.1:Int) != 0)=false:=by simp[h0]
  have H0:=ZH h0;clear h0;by_cases hw:PP.1=(lenOf sh).get f.r
  ·have Wo:((PP.1:Int) != (((lenOf sh).get f.r:Nat):Int))=false:=by simp[hw]
   have HW:=ZH hw;clear hw;go_wp2_with fail;refine(ZhV (Zf8 (r:=f.r) (u:=PP.1) dU.out.r (by have:=gA.out.1;omega)) (EvSl.nil _)).mono ?_;rintro _ w8 ⟨v8,rfl,lx,ga⟩;have lE:Upd (λ_=>False) el el w6 w8:=ZUb ga iZ.out.fresh;obtain⟨ni,kC,o6⟩:=ZH3 lx lE ga;clear lx lE ga;go_wp2_with fail;go_ret3
   refine⟨el,iZ.out.trans (kC.out.mono (λn h=>h.elim)),?_⟩;rw[←iY.out,ZPn (by rw[H0.out];simp),ZPp HW.out];refine⟨⟨v8,rfl,Zj ni.out iZ.out.size,λb hb=>iZ.out.fresh b (Zb ni.out hb).1⟩,(kC.out.old p jT.out.lt).trans tR.out,by rw[gA.out.2];exact gR.out,dp,pp,jT.out.ob o6.out,tF.out.upd kC.out (λh=>h),tg.out.upd kC.out (λ_ _ h=>h)⟩
  ·have Wo:((PP.1:Int) != (((lenOf sh).get f.r:Nat):Int))=true:=ZP;have HW:=ZH hw;clear hw;go_wp2_with fail;refine ZSi [(0,3),(1,0),(2,3),(3,3),(4,0),(5,3),(6,0),(7,3),(8,2),(9,3)] λcu=>?_
   repeat((first|refine ZSa ?_|refine ZSb ?_|(refine Zf rfl (by rfl) (λw' cL=>by(obtain⟨c0,c1,c2,c3,c4,c5,c6,c7,c8⟩:=(jT.out.ob cL.below).am);(obtain⟨x0,x1,x2,x3,x4,x5,x6,x7,x8⟩:=(nZ.out.ob cL.below).am);go_simp;with_reducible rfl) ?_));simp only[Act.put,Q_])
   have dE:Upd (λ_=>False) el el w6 w6.drew:=ZUb (ZW w6.heap.size w6).drew iZ.out.fresh;have qI:=jT.out.drew;have CC:=Zlj (td:=t+1) (p:=p) (w:=w6.drew) (f:=Zax f) (qI.cell 0) (qI.frozen 0) (qI.cell 1) qI.lt (by rw[tR.out];omega) (tF.out.upd dE (λh=>h)) dE.fresh (Zj8 dU.out) ((ze.out.upd dE (λh=>h)).sl) hd;obtain⟨LZ,i9⟩:=ZH2 CC dE;clear CC dE qI;refine ZSe λK hK=>?_
   go_simp;refine LZ.out.mono ?_;rintro r7 w7 ⟨ef,KE,jw,uN,rE⟩;have mn:=(jT.out.upd i9.out (λh=>h)).upd jw (by rw[tR.out];omega);have Kc:=(tg.out.upd i9.out (λ_ _ h=>h)).upd jw (λi _=>ZO)
   have NY:=(nZ.out.upd i9.out (λh=>h)).upd jw (by
    have h0:el w.heap.size=0:=(MX.out).trans (yR.out _ (ZL _))
    omega)
   have zU:ef p=t:=(jw.old p jT.out.lt).trans tR.out;have vJ:Upd (HubT t) own ef w KE:=(iZ.out.trans (i9.out.mono (λn h=>h.elim))).trans (jw.mono (λn h=>⟨ZO,ZO⟩));by_cases je:(d.write (recBytes (Zax f))).2=0
   ·rw[ZPp je]at rE;obtain⟨rfl,rfl⟩:=rE;obtain⟨jh,Dy,DG,LV,lg,rl,nj⟩:=ZH7 mn Kc NY zU vJ uN je;refine hK.out _ _ ?_;clear hK K cu mn Kc NY zU vJ uN jw je;repeat((first|refine ZSa ?_|refine ZSb ?_|refine ZSc ?_);simp only[Act.put,Q_])
    refine ZSf ?_;obtain⟨x0,x1,x2,x3,x4,x5,x6,x7,x8⟩:=DG.out.am;have ko:=DG.out.lt;go_wp2_with fail;refine(ZhV (Zf8 (r:=f.r) (u:=PP.1) dU.out.r (by have:=gA.out.1;omega)) (EvSl.nil _)).mono ?_;rintro _ w8 ⟨v8,rfl,lx,ga⟩;have lE:Upd (λ_=>False) ef ef w7 w8:=ZUb ga lg.out.fresh;obtain⟨ni,kC,o6⟩:=ZH3 lx lE ga;clear lx lE ga;go_wp2_with fail;go_ret3
    refine⟨ef,lg.out.trans (kC.out.mono (λn h=>h.elim)),?_⟩;rw[←iY.out,ZPn (by rw[H0.out];simp),ZPn HW.out,ZPp nj.out];refine⟨⟨v8,rfl,Zj ni.out lg.out.size,λb hb=>lg.out.fresh b (Zb ni.out hb).1⟩,(kC.out.old p jh.out.lt).trans LV.out,by rw[gA.out.2];exact gR.out,dp,pp,jh.out.ob o6.out,rl.out.upd kC.out (λh=>h),Dy.out.upd kC.out (λ_ _ h=>h)⟩
   ·rw[ZPn je]at rE;obtain⟨rfl,rfl⟩:=rE;have kV:Upd (· = t) ef ef KE (KE.setCell ⟨p,0,none⟩ (B_ false)):=(Upd.refl (· = t) ef KE vJ.fresh).setCell (p:=⟨p,0,none⟩) (λ_=>zU) _;obtain⟨jh,Dy,LV,lg,rl,nj⟩:=ZH6 (mn.aj 0 (B_ false)) (Kc.upd kV (λi _=>ZO)) zU (vJ.trans (kV.mono (T':=HubT t) (λn h=>⟨ZO,ZO⟩))) (uN.upd kV ZO) je;refine hK.out _ _ ?_;clear hK K cu mn Kc NY zU vJ uN jw je kV;repeat((first|refine ZSa ?_|refine ZSb ?_|refine ZSc ?_);simp only[Act.put,Q_])
    refine ZSf ?_;go_wp2_with fail;go_ret3
    exact⟨ef,lg.out,by rw[←iY.out,ZPn (by rw[H0.out];simp),ZPn HW.out,ZPn nj.out];exact⟨rfl,LV.out,by rw[gA.out.2];exact gR.out,dp,pp,jh.out,rl.out,Dy.out⟩⟩
 ·have hz:((PP.2.1:Int) != 0)=true:=ZP;have H0:=ZH h0;clear h0;go_wp2_with fail;go_ret3
  exact⟨el,iZ.out,by rw[←iY.out,ZPp H0.out];exact⟨rfl,tR.out,by rw[gA.out.2];exact gR.out,dp,pp,jT.out,tF.out,tg.out⟩⟩
def Zau(f:Frm):Frm:=⟨6,f.r,0,f.clock,[]⟩
theorem ZkT(h:f.Ok):RecOk (Zau f) :=
 ⟨by simp[Zau],by simp[Zau],h.r,by simp[Zau],by simp[Zau],h.clock,by simp[Zau],by simp[Zau],by simp[Zau],by simp[Zau],by simp[Zau]⟩
def Z8(told:List Clk)(f:Frm):List Clk:=told.set f.r ((told.getD f.r ZCz).join f.clock)
def Zoa(own:Own)(t p:Nat)(c:Cfg)(d:Dk)(sh:List Sh)(told:List Clk)(f:Frm)(w:World)(r:Ending)(w':World):Prop :=
 ∃own',Upd (HubT t) own own' w w' /\
  if (Z8 told f).getD f.r ZCz=told.getD f.r ZCz then r=R_ (I_ J_ 0)/\HubAt own' t w' p c true d (Zav sh (Z8 told f) sh.length) (Z8 told f)
  else if (d.write (recBytes (Zau f))).2=0 then r=R_ (I_ J_ 0)/\HubAt own' t w' p c true (d.write (recBytes (Zau f))).1 (Zav sh (Z8 told f) sh.length) (Z8 told f)
  else r=R_ (I_ J_ 18)/\HubAt own' t w' p c false (d.write (recBytes (Zau f))).1 (Zav sh (Z8 told f) sh.length) (Z8 told f)
theorem Znx{told:List Clk}{s:Nat}{x:Sh}(h:x.kept.length<=most/\x.base+x.kept.length<=100004):(cutSh told s x).kept.length<=most/\(cutSh told s x).base+(cutSh told s x).kept.length<=100004:=by
 simp only[cutSh,List.length_drop];unfold Za5;omega
theorem Zel{told:List Clk}{most:Nat}{sh:List Sh}(h:∀s∈sh,s.kept.length<=most/\s.base+s.kept.length<=100004):∀k,∀s∈Zav sh told k,s.kept.length<=most/\s.base+s.kept.length<=100004
 | 0=>h
 |k+1=>by
  intro s hs;unfold Zav at hs;split at hs
  ·rename_i x hx;rcases List.mem_or_eq_of_mem_set hs with h1|h1
   ·exact Zel h k s h1
   ·rw[h1];exact Znx (Zel h k x (ZY hx))
  ·exact Zel h k s hs
theorem Znq{told:List Clk}{k:Nat}(h:∀s∈sh,s.kept.length<=most/\s.base<=100000)(hm:most<=4):∀s∈Zav sh told k,s.kept.length<=1000000/\s.base<=1000000:=by
 intro s hs;have:=Zel (told:=told) (most:=most) (sh:=sh) (λx hx=>by have:=h x hx;omega) k s hs;omega
theorem ZtU{own:Own}{told:List Clk}(ht:0<t)(h:HubAt own t w p c true d sh told)(hf:Fresh own w)(hc:c.Ok)(q9:PostOk c.n c.w (sh,told))(f:Frm)(em:f.Ok)(hr:f.r<c.n)(hd:d.bytes.length<=1000000000):
  Calls prog 95 #[P_ (some ⟨p,0,none⟩),Zah f (S_ a n cap)] w (Zoa own t p c d sh told f w):=by
 obtain⟨h1,h2,dp,pp,h3,h4,h5⟩:=h;have cR:=(ZKr w).alloc (C_ (Za f (S_ a n cap)) 158);obtain⟨HX,HB⟩:=ZH2 (ZBn w 158 (Za f (S_ a n cap))) (h3.alloc (C_ (Za f (S_ a n cap)) 158));have dt:Upd (λ_=>False) own own w (w.alloc (C_ (Za f (S_ a n cap)) 158)):=ZUb cR.below hf;obtain⟨HP,HD⟩:=ZH2 (h5.upd dt (λ_ _ h=>h)) (h4.upd dt (λh=>h));have i7:f.r<sh.length:=by rw[h2];exact hr
 have Pd:f.r<told.length:=by rw[q9.len2];exact hr
 obtain⟨tr,pV⟩:∃tr,told[f.r]? = some tr:=⟨_,ZX Pd⟩;have JP:Hid (told.getD f.r ZCz=tr):=ZH (by simp[List.getD,pV]);obtain⟨HU,ed,dU,gR,lI,HC,HM,yR,mX⟩:=ZH9 dt cR em h2 q9 hc h1 hf h3.lt;obtain⟨gI,pg,Qx,HR⟩:=ZH4 i7 pV Pd hr;clear h1 h2 h3 h4 h5 dt cR hf em q9 hc i7 pV Pd hr;have sv:(Zbp told).length=5:=Zdm (by rw[lI.out.len2];exact HC.out.n5);have kN:=λw=>ZmB (Zdw sh) (lenOf sh) sv w
 have eO:f.r<5:=dU.out.r;have kF:=λw=>ZmI (acks:=Zbp told) sv eO w
 have Gk:(Zbp told).getD f.r ZCz=tr:=by rw[ZiA Qx.out];exact JP.out
 rw[Gk]at kF;obtain⟨JO,JR⟩:=ZH2 kN kF;clear kN kF Gk sv;go_enter func95,ntmps95;go_wp2_with fail;generalize w.alloc (C_ (Za f (S_ a n cap)) 158)=W at *;refine wp_region_noPanic (Zdj (λw'=>Kept W.heap.size W w') [(0,3),(1,0),(2,3),(3,0),(6,3),(7,0)] 4 [(5,3),(8,0),(9,1),(10,2)] 9 [(4,1),(5,3),(8,0),(10,2)] ZK ZK (λ_ _ _ _ _ h=>h) (Kept.drew ⟨ZW _ _,ZL _⟩) (λcu=>?_));repeat((first|refine ZSa ?_|refine ZSb ?_|(refine Zf rfl (by rfl) (λw' cL=>by(obtain⟨c0,c1,c2,c3,c4,c5,c6,c7,c8⟩:=(HB.out.ob cL.below).am);(obtain⟨x0,x1,x2,x3,x4,x5,x6,x7,x8⟩:=(HX.out.ob cL.below).am);go_simp;with_reducible rfl) ?_));simp only[Act.put,Q_])
 refine ZfP (λcu=>?_) (λcu=>?_);focus
  refine ZSd λK hK=>?_
  go_simp;have dE:Upd (λ_=>False) own own W W.drew:=ZUb (ZW W.heap.size W).drew HU.out.fresh;refine(Ze7 (HP.out.upd dE (λ_ _ h=>h)) dE.fresh (by rw[gR.out];exact HC.out.n5) (λs hs=>by have:=lI.out.kept s hs;have:=HC.out.w4;omega)).mono ?_;rintro _ w2 ⟨rfl,cD⟩;refine hK.out (λw'=>Kept W.heap.size W w') _ _ (λ_ h=>h) (cu.step cD) (λcA=>?_);clear hK K cu cD dE;have kN:=JO.out;have kF:=JR.out;repeat((first|refine ZSa ?_|refine ZSb ?_|refine ZSc ?_);simp only[Act.put,Q_])
  refine ZSd λK hK=>?_
  go_simp;refine hK.out (λw'=>Kept W.heap.size W w') _ _ (λ_ h=>h) (cA.alloc _) (λfD=>?_);clear hK K fD;refine ZSe λK hK=>?_
  go_simp;have lh:=cA.below.alloc cA.le (C_ (clkArr tr) 44);obtain⟨Bs,dN,iI⟩:=ZH3 (ZBn w2 44 (clkArr tr)) (HB.out.ob lh) (HX.out.ob lh);have vq:Upd (λ_=>False) own own W (w2.alloc (C_ (clkArr tr) 44)):=ZUb lh HU.out.fresh;obtain⟨ew,ic,jx⟩:=ZH3 (HU.out.trans vq) (HP.out.upd vq (λ_ _ h=>h)) (HD.out.upd vq (λh=>h));have th:Hid (own w2.heap.size=0):=ZH (HU.out.fresh _ cA.le);refine hK.out _ _ ?_;clear hK K cA lh vq kN kF;refine ZSf ?_;obtain⟨wb,Ea⟩:∃wb,wb=w2.heap.size:=⟨_,rfl⟩;rw[←Ea]at Bs th ⊢;clear Ea;generalize w2.alloc (C_ (clkArr tr) 44)=W3 at *
 rotate_left
 focus
  refine ZSd λK hK=>?_
  go_simp;refine hK.out (λw'=>Kept W.heap.size W w') _ _ (λ_ h=>h) (cu.alloc (C_ (clkArr ZCz) 44)) (λfD=>?_);clear hK K;have vY:Hid (Blk (W.drew.alloc (C_ (clkArr ZCz) 44)) W.heap.size 44 (clkArr ZCz)):=ZH (ZBn W.drew 44 (clkArr ZCz));have zx:=(ZW W.drew.heap.size W.drew).alloc (ZL _) (C_ (clkArr ZCz) 44);have dE:Upd (λ_=>False) own own W (W.drew.alloc (C_ (clkArr ZCz) 44)):=ZUb ((ZW W.heap.size W).drew.trans zx) HU.out.fresh;have i9:=ZH dE;clear zx dE;repeat((first|refine ZSa ?_|refine ZSb ?_|refine ZSc ?_);simp only[Act.put,Q_])
  refine ZSd λK hK=>?_
  go_simp;refine(Ze7 (HP.out.upd i9.out (λ_ _ h=>h)) i9.out.fresh (by rw[gR.out];exact HC.out.n5) (λs hs=>by have:=lI.out.kept s hs;have:=HC.out.w4;omega)).mono ?_;rintro _ w2 ⟨rfl,cD⟩;obtain⟨wT,UL⟩:=ZH2 (vY.out.ob cD) (i9.out.kept cD);refine hK.out (λw'=>Kept W.heap.size W w') _ _ (λ_ h=>h) (fD.step cD) (λcA=>?_);clear hK K cu cD fD;have kN:=JO.out;have kF:=JR.out;repeat((first|refine ZSa ?_|refine ZSb ?_|refine ZSc ?_);simp only[Act.put,Q_])
  obtain⟨z0,z1,z2,z3,z4⟩:=wT.out.aG;have zf:=wT.out.frozen;have JB:=zf 0;have JC:=zf 1;have JD:=zf 2;have JE:=zf 3;have JF:=zf 4;have m9:=wT.out.lt;clear zf;refine ZSe λK hK=>?_
  go_simp;have tj:Blk (setAll w2 W.heap.size 0 (clkArr tr).toList) W.heap.size 44 (clkArr tr):=Zal wT.out rfl;have vq:Upd (λ_=>False) own own W (setAll w2 W.heap.size 0 (clkArr tr).toList):=UL.out.setAll (λh=>absurd h ZO) 0 _;obtain⟨Bs,dN,iI,ew,ic,jx⟩:=ZH6 tj (HB.out.upd vq (λh=>h)) (HX.out.upd vq (λh=>h)) (HU.out.trans vq) (HP.out.upd vq (λ_ _ h=>h)) (HD.out.upd vq (λh=>h));have th:Hid (own W.heap.size=0):=ZH (HU.out.fresh _ (ZL _));refine hK.out _ _ ?_;clear hK K cA tj vq kN kF z0 z1 z2 z3 z4 JB JC JD JE JF m9;refine ZSf ?_;obtain⟨W3,oc⟩:∃W3,W3=setAll w2 W.heap.size 0 (clkArr tr).toList:=⟨_,rfl⟩;rw[←oc]at Bs dN iI ew ic jx;change Exit.then _ _ _ _ (setAll w2 W.heap.size 0 (clkArr tr).toList);rw[←oc];clear oc;obtain⟨wb,Ea⟩:∃wb,wb=W.heap.size:=⟨_,rfl⟩;rw[←Ea]at Bs th ⊢;clear Ea
 rotate_left
 all_goals
  go_wp2_with fail;refine ZSi [(0,3),(1,0),(2,3),(3,0),(4,3),(5,0),(6,3),(7,0),(8,2),(9,3)] λcu=>?_
  repeat((first|refine ZSa ?_|refine ZSb ?_|(refine Zf rfl (by rfl) (λw' cL=>by(obtain⟨c0,c1,c2,c3,c4,c5,c6,c7,c8⟩:=(dN.out.ob cL.below).am);(obtain⟨x0,x1,x2,x3,x4,x5,x6,x7,x8⟩:=(iI.out.ob cL.below).am);go_simp;with_reducible rfl) ?_));simp only[Act.put,Q_])
  refine ZSe λK hK=>?_
  go_simp;have dE:Upd (λ_=>False) own own W3 W3.drew:=ZUb (ZW W3.heap.size W3).drew ew.out.fresh;refine(ZmZ (ic.out.upd dE (λ_ _ h=>h)) dE.fresh (by rw[gR.out];exact HC.out.n5) f.r gI.out f.clock (λi=>by have:=dU.out.clock i;omega) pg.out (λi=>by have:=lI.out.told tr (ZY pg.out) i;omega) (λs hs=>by have:=lI.out.kept s hs;have:=HC.out.w4;omega)).mono ?_;rintro _ w6 ⟨rfl,el,oX,ib⟩;have rK:=HC.out.n5;have oV:=gR.out;have hT:∀n,t+10<=n/\n<=t+10+sh.length->HubT t n:=λn hn=>⟨ZO,ZO⟩
  have na:=dE;have wg:=(dN.out.upd dE (λh=>h)).upd ib (by rw[HM.out];omega);have F1:=(jx.out.upd dE (λh=>h)).upd ib ZO
  have xP:=(iI.out.upd dE (λh=>h)).upd ib (by
   have h0:own w.heap.size=0:=yR.out _ (ZL _)
   omega)
  have wj:=(Bs.out.upd dE (λh=>h)).upd ib (by have:=th.out;omega);have rc:Upd (HubT t) own el w w6:=((ew.out.trans dE).mono (λn h=>h.elim)).trans (ib.mono hT);have Al:told.set f.r (tr.join f.clock)=Z8 told f:=by unfold Z8;rw[JP.out]
  rw[Al]at oX;have Sx:el w.heap.size=own w.heap.size:=by rw[ib.old _ (by have:=iI.out.lt;exact this)]
  obtain⟨jT,tF,nZ,iZ,tg,Bo,HX6o⟩:=ZH7 wg F1 xP rc oX wj Sx;have tR:Hid (el p=t):=ZH ((rc.old p mX.out).trans HM.out);refine hK.out _ _ ?_;clear hK K cu wg F1 xP rc oX ib hT wj Al dE na rK oV Sx;repeat((first|refine ZSa ?_|refine ZSb ?_|refine ZSc ?_);simp only[Act.put,Q_])
  refine ZSf ?_;go_wp2_with fail;have qh:(Z8 told f).length<=5:=by
   unfold Z8;rw[List.length_set,lI.out.len2];exact HC.out.n5
  have N0:(Zbp (Z8 told f)).length=5:=Zdm qh;have kN:=λw=>ZmB (Zdw (Zav sh (Z8 told f) sh.length)) (lenOf (Zav sh (Z8 told f) sh.length)) N0 w
  have kF:=λw=>ZmI (acks:=Zbp (Z8 told f)) N0 eO w
  have Gk:(Zbp (Z8 told f)).getD f.r ZCz=(Z8 told f).getD f.r ZCz:=ZiA (by unfold Z8;rw[List.length_set];exact Qx.out);rw[Gk]at kF;obtain⟨yM,C3⟩:∃yM,yM=(Z8 told f).getD f.r ZCz:=⟨_,rfl⟩;rw[←C3]at kF;obtain⟨Fe,Li,LD⟩:=ZH3 C3 kN kF;clear kN kF Gk N0 qh C3;refine ZSi [(0,3),(1,0),(2,3),(3,0),(6,3),(7,0),(9,0),(4,1),(5,3),(8,0),(10,3)] λcu=>?_
  repeat((first|refine ZSa ?_|refine ZSb ?_|(refine Zf rfl (by rfl) (λw' cL=>by(obtain⟨c0,c1,c2,c3,c4,c5,c6,c7,c8⟩:=(jT.out.ob cL.below).am);(obtain⟨x0,x1,x2,x3,x4,x5,x6,x7,x8⟩:=(nZ.out.ob cL.below).am);(obtain⟨z0,z1,z2,z3,z4⟩:=(Bo.out.ob cL.below).aG);go_simp;with_reducible rfl) ?_));simp only[Act.put,Q_])
  refine ZSd λK hK=>?_
  go_simp;have dE:Upd (λ_=>False) el el w6 w6.drew:=ZUb (ZW w6.heap.size w6).drew iZ.out.fresh;refine(Ze7 (tg.out.upd dE (λ_ _ h=>h)) dE.fresh (by rw[Zcy,gR.out];exact HC.out.n5) (λs hs=>Znq lI.out.kept HC.out.w4 s hs)).mono ?_;rintro _ w7 ⟨rfl,jY⟩;refine hK.out (λw'=>Kept w6.heap.size w6 w') _ _ (λ_ h=>h) (cu.step jY) (λcA=>?_);clear hK K cu jY dE;have kN:=Li.out;have kF:=LD.out;have lh:∃bq,bq=decide (yM=tr):=⟨_,rfl⟩;obtain⟨bq,lh⟩:=lh;have uQ:∀w,(Op.equalIn 10000 44 (.agg #[I_ J_ (yM.c0:Int),I_ J_ (yM.c1:Int),I_ J_ (yM.c2:Int),I_ J_ (yM.c3:Int),I_ J_ (yM.c4:Int)]) (.agg #[I_ J_ (tr.c0:Int),I_ J_ (tr.c1:Int),I_ J_ (tr.c2:Int),I_ J_ (tr.c3:Int),I_ J_ (tr.c4:Int)])).run prog w=.ok bq w:=λw=>by rw[lh];exact ZaN yM tr 9998 w
  have rV:=ZH lh;clear lh;repeat((first|refine ZSa ?_|refine ZSb ?_|(refine Zf rfl (by rfl) (λw' cL=>by(obtain⟨z0,z1,z2,z3,z4⟩:=(Bo.out.ob cL.below).aG);go_simp;with_reducible rfl) ?_));simp only[Act.put,Q_])
  refine ZSf ?_;have HH:=ZH cA;have yG:Upd (λ_=>False) el el w6 w7:=ZUb cA.below iZ.out.fresh;obtain⟨jh,DG,rl,Dy,lg⟩:=ZH5 (jT.out.ob cA.below) (nZ.out.ob cA.below) (tF.out.upd yG (λh=>h)) (tg.out.upd yG (λ_ _ h=>h)) (iZ.out.trans (yG.mono (λn h=>h.elim)));have HMP7:=tR;clear kN kF uQ cA yG;have gb:Hid ((Zav sh (Z8 told f) sh.length).length=c.n):=ZH (by rw[Zcy];exact gR.out)
  cases bq with
  |true =>
   go_wp2
   go_ret;refine⟨el,lg.out,?_⟩;rw[ZPp (by rw[←Fe.out,JP.out];exact of_decide_eq_true rV.out.symm)];exact⟨rfl,tR.out,gb.out,dp,pp,jh.out,rl.out,Dy.out⟩
  |false =>
   have xl:Hid (¬(Z8 told f).getD f.r ZCz=told.getD f.r ZCz):=ZH (by rw[←Fe.out,JP.out];exact of_decide_eq_false rV.out.symm);go_wp2_with fail;refine ZSi [(0,3),(1,0),(2,3),(3,3),(4,0),(5,3),(6,0),(7,3),(8,2),(9,3)] λcu=>?_
   repeat((first|refine ZSa ?_|refine ZSb ?_|(refine Zf rfl (by rfl) (λw' cL=>by(obtain⟨c0,c1,c2,c3,c4,c5,c6,c7,c8⟩:=(jh.out.ob cL.below).am);(obtain⟨x0,x1,x2,x3,x4,x5,x6,x7,x8⟩:=(DG.out.ob cL.below).am);go_simp;with_reducible rfl) ?_));simp only[Act.put,Q_])
   have dE:Upd (λ_=>False) el el w7 w7.drew:=ZUb (ZW w7.heap.size w7).drew lg.out.fresh;have qI:=jh.out.drew;have CC:=Zlj (td:=t+1) (p:=p) (w:=w7.drew) (f:=Zau f) (qI.cell 0) (qI.frozen 0) (qI.cell 1) qI.lt (by rw[tR.out];omega) (rl.out.upd dE (λh=>h)) dE.fresh (ZkT dU.out) (EvSl.nil _) hd;obtain⟨LZ,i9⟩:=ZH2 CC dE;clear CC dE qI;refine ZSe λK hK=>?_
   go_simp;refine LZ.out.mono ?_;rintro r8 w8 ⟨ef,KF,lE,uO,rE⟩;have xF:=(jh.out.upd i9.out (λh=>h)).upd lE (by rw[tR.out];omega);have Kd:=(Dy.out.upd i9.out (λ_ _ h=>h)).upd lE (λi _=>ZO);have Hf:ef p=t:=(lE.old p jh.out.lt).trans tR.out;have vK:Upd (HubT t) own ef w KF:=(lg.out.trans (i9.out.mono (λn h=>h.elim))).trans (lE.mono (λn h=>⟨ZO,ZO⟩));by_cases je:(d.write (recBytes (Zau f))).2=0
   ·rw[ZPp je]at rE;obtain⟨rfl,rfl⟩:=rE;obtain⟨o6,A6,LW,kC,Es,nj⟩:=ZH6 xF Kd Hf vK uO je;refine hK.out _ _ ?_;clear hK K cu xF Kd Hf vK uO lE je;repeat((first|refine ZSa ?_|refine ZSb ?_|refine ZSc ?_);simp only[Act.put,Q_])
    refine ZSf ?_;go_wp2
    go_ret;refine⟨ef,kC.out,?_⟩;rw[ZPn xl.out,ZPp nj.out];exact⟨rfl,LW.out,gb.out,dp,pp,o6.out,Es.out,A6.out⟩
   ·rw[ZPn je]at rE;obtain⟨rfl,rfl⟩:=rE;have kV:Upd (· = t) ef ef KF (KF.setCell ⟨p,0,none⟩ (B_ false)):=(Upd.refl (· = t) ef KF vK.fresh).setCell (p:=⟨p,0,none⟩) (λ_=>Hf) _;obtain⟨o6,A6,LW,kC,Es,nj⟩:=ZH6 (xF.aj 0 (B_ false)) (Kd.upd kV (λi _=>ZO)) Hf (vK.trans (kV.mono (T':=HubT t) (λn h=>⟨ZO,ZO⟩))) (uO.upd kV ZO) je;refine hK.out _ _ ?_;clear hK K cu xF Kd Hf vK uO lE je kV;repeat((first|refine ZSa ?_|refine ZSb ?_|refine ZSc ?_);simp only[Act.put,Q_])
    refine ZSf ?_;go_wp2
    go_ret;exact⟨ef,kC.out,by rw[ZPn xl.out,ZPn nj.out];exact⟨rfl,LW.out,gb.out,dp,pp,o6.out,Es.out,A6.out⟩⟩
structure HubSt where
 up:Bool
 d:Dk
 sh:List Sh
 told:List Clk
def Zaq(c:Cfg)(s:HubSt)(f:Frm):HubSt×Option (Nat×Frm)×Nat :=
 if s.up=false then(s,none,18)
 else if f.kind=1 then
  if (Zs c.w f.r f.events s.sh s.told).2.1≠0 then(⟨true,s.d,(Zs c.w f.r f.events s.sh s.told).2.2,s.told⟩,none,(Zs c.w f.r f.events s.sh s.told).2.1)
  else if (Zs c.w f.r f.events s.sh s.told).1=(lenOf s.sh).get f.r then(⟨true,s.d,(Zs c.w f.r f.events s.sh s.told).2.2,s.told⟩,some (f.r,ZaE f.r (Zs c.w f.r f.events s.sh s.told).1),0)
  else if (s.d.write (recBytes (Zax f))).2=0 then(⟨true,(s.d.write (recBytes (Zax f))).1,(Zs c.w f.r f.events s.sh s.told).2.2,s.told⟩,some (f.r,ZaE f.r (Zs c.w f.r f.events s.sh s.told).1),0)
  else(⟨false,(s.d.write (recBytes (Zax f))).1,(Zs c.w f.r f.events s.sh s.told).2.2,s.told⟩,none,18)
 else if f.kind=3 then(s,some (f.r,Zbc f.r (Zad s.sh f.r f.clock s.sh.length)),0)
 else if (Z8 s.told f).getD f.r ZCz=s.told.getD f.r ZCz then(⟨true,s.d,Zav s.sh (Z8 s.told f) s.sh.length,Z8 s.told f⟩,none,0)
 else if (s.d.write (recBytes (Zau f))).2=0 then(⟨true,(s.d.write (recBytes (Zau f))).1,Zav s.sh (Z8 s.told f) s.sh.length,Z8 s.told f⟩,none,0)
 else(⟨false,(s.d.write (recBytes (Zau f))).1,Zav s.sh (Z8 s.told f) s.sh.length,Z8 s.told f⟩,none,18)
def HubIs(own:Own)(t:Nat)(w:World)(p:Nat)(c:Cfg)(s:HubSt):Prop:=HubAt own t w p c s.up s.d s.sh s.told
def HTakePost(own:Own)(t p:Nat)(c:Cfg)(w:World)(o:HubSt×Option (Nat×Frm)×Nat)(r:Ending)(w':World):Prop :=
 ∃own',Upd (HubT t) own own' w w'/\HubIs own' t w' p c o.1/\match o.2.1 with|some x=>ZoI own' x.1 x.2 w r w'|none=>Zko o.2.2 r
theorem HTakePost.mono{own:Own}{t p:Nat}{c:Cfg}{w w1:World}{o:HubSt×Option (Nat×Frm)×Nat}{r:Ending}{w':World}(h:HTakePost own t p c w1 o r w')(hb:Upd (λ_=>False) own own w w1):HTakePost own t p c w o r w':=by
 obtain⟨own',hu,ha,hr⟩:=h;refine⟨own',(hb.mono (λn h=>h.elim)).trans hu,ha,?_⟩;split at hr
 ·obtain⟨v,h1,h2,h3⟩:=hr;exact⟨v,h1,Zj h2 hb.size,h3⟩
 ·exact hr
theorem HTakePost.shape{own:Own}{o:HubSt×Option (Nat×Frm)×Nat}{r:Ending}(h:HTakePost own t p c w o r w'):∃x y z,r=R_ (.tuple #[x,y,z]):=by
 obtain⟨own',hu,ha,hr⟩:=h;split at hr
 ·obtain⟨v,h1,h2,h3⟩:=hr;exact⟨_,_,_,h1⟩
 ·exact⟨_,_,_,hr⟩
theorem ZrA{own:Own}{s:HubSt}{r:Ending}(hu:s.up=true)(hk:f.kind=1)(h:Zmd own t p c s.d s.sh s.told f w r w'):HTakePost own t p c w (Zaq c s f) r w':=by
 obtain⟨own',dJ,hi⟩:=h;refine⟨own',dJ,?_⟩;unfold Zaq;rw[ZPn (by simp[hu]),ZPp hk];split at hi
 ·rename_i h1;rw[ZPp h1];exact⟨hi.2,hi.1⟩
 ·rename_i h1;rw[ZPn h1];split at hi
  ·rename_i h2;rw[ZPp h2];exact⟨hi.2,hi.1⟩
  ·rename_i h2;rw[ZPn h2];split at hi
   ·rename_i h3;rw[ZPp h3];exact⟨hi.2,hi.1⟩
   ·rename_i h3;rw[ZPn h3];exact⟨hi.2,hi.1⟩
theorem Zs5{own:Own}{s:HubSt}{e:Ending}(hu:s.up=true)(dI:f.kind≠1)(dr:f.kind≠3)(h:Zoa own t p c s.d s.sh s.told f w e w'):∃x:Value,e=R_ x/\HTakePost own t p c w (Zaq c s f) (R_ (.tuple #[I_ J_ (-1),S_ none 0 0,x])) w':=by
 obtain⟨own',dJ,hi⟩:=h;have e1:Zaq c s f=if (Z8 s.told f).getD f.r ZCz=s.told.getD f.r ZCz then(⟨true,s.d,Zav s.sh (Z8 s.told f) s.sh.length,Z8 s.told f⟩,none,0)
  else if (s.d.write (recBytes (Zau f))).2=0 then(⟨true,(s.d.write (recBytes (Zau f))).1,Zav s.sh (Z8 s.told f) s.sh.length,Z8 s.told f⟩,none,0)
  else(⟨false,(s.d.write (recBytes (Zau f))).1,Zav s.sh (Z8 s.told f) s.sh.length,Z8 s.told f⟩,none,18):=by
  unfold Zaq;rw[ZPn (by simp[hu]),ZPn dI,ZPn dr]
 rw[e1];split at hi
 ·rename_i h1;rw[ZPp h1];exact⟨_,hi.1,own',dJ,hi.2,rfl⟩
 ·rename_i h1;rw[ZPn h1];split at hi
  ·rename_i h2;rw[ZPp h2];exact⟨_,hi.1,own',dJ,hi.2,rfl⟩
  ·rename_i h2;rw[ZPn h2];exact⟨_,hi.1,own',dJ,hi.2,rfl⟩
abbrev Zc3:Frm:=⟨0,0,0,ZCz,[]⟩
theorem Zsb{own:Own}{s:HubSt}(ht:0<t)(h:HubIs own t w p c s)(hf:Fresh own w)(hc:c.Ok)(q9:PostOk c.n c.w (s.sh,s.told))(Cr:∀x∈s.sh,∀e∈x.kept,e.Ok)(f:Frm)(em:f.Ok)(hr:f.r<c.n)(hk:f.kind=1∨f.kind=3∨f.kind=5)(na:f.kind=1->NextOk (s.sh,s.told) ⟨5,f.r,0,ZCz,f.events⟩)(hb:Bytes w a n cap (Zn f))(hd:s.d.bytes.length<=1000000000):
  Calls prog 50 #[P_ (some ⟨p,0,none⟩),S_ a n cap] w (HTakePost own t p c w (Zaq c s f)):=by
 obtain⟨dp,pp,h3,yc⟩:=h.ex;obtain⟨c0,c1,c2,c3,c4,c5,c6,c7,c8⟩:=h3.am;have eC:=N_
 obtain⟨HB,HH,HF,HC,lI,T8,dU,nK,lG⟩:=ZH9 h3 h hf hc q9 Cr em na hb;obtain⟨HR,HK,HD⟩:=ZH3 hr hk hd;clear h3 yc h hf hc q9 Cr em na hb hr hk hd;obtain⟨up,d,sh,told⟩:=s;rcases up with _|_
 ·go_enter func50,ntmps50;go_wp2_with fail;go_ret3
  refine⟨own,Upd.refl _ _ _ HF.out,?_⟩;unfold Zaq;rw[ZPp rfl];exact⟨HH.out,rfl⟩
 ·go_enter func50,ntmps50;go_wp2_with fail;refine(ZjP dU.out lG.out).mono ?_;rintro _ w2 ⟨v2,rfl,cT,cD⟩;have cM:Upd (λ_=>False) own own w w2:=ZUb cD HF.out;obtain⟨a2,dy,rfl,jc⟩:=RowAt.loose (own:=own) ⟨Zj cT (Nat.zero_le _),λg hg=>HF.out g (Zb cT hg).1⟩;have hz:=ZBn w2 158 (Za Zc3 (S_ none 0 0));have cG:=(ZW w2.heap.size w2).alloc (ZL _) (C_ (Za Zc3 (S_ none 0 0)) 158);have de:Upd (λ_=>False) own own w (w2.alloc (C_ (Za Zc3 (S_ none 0 0)) 158)):=cM.trans (ZUb cG cM.fresh);have pS:=hz.row (Za f (S_ a2 f.events.length dy));have ei:Upd (λ_=>False) own own w ((w2.alloc (C_ (Za Zc3 (S_ none 0 0)) 158)).setRow w2.heap.size (Za f (S_ a2 f.events.length dy))):=de.setRow (λh=>absurd h (by have:=cM.size;omega)) _;obtain⟨HL,HZ,HX,HU,HZL⟩:=ZH5 (jc.upd ((ZUb (T:=λ_=>False) cG cM.fresh).setRow (g:=w2.heap.size) (λh=>absurd h (Nat.lt_irrefl _)) (Za f (S_ a2 f.events.length dy))) (λh=>h)) hz pS ei hz.lt;clear hz pS ei jc cT cM de cD cG c0 c1 c2 c3 c4 c5 c6 c7 c8
  go_wp2_with (first
   |(refine ZS rfl 158 rfl (Za Zc3 (S_ none 0 0)) ZK ?_)
   |(refine wpList_store_row rfl 158 (.tmp 7) (.tmp 18) rfl w2.heap.size (Za f (S_ a2 f.events.length dy)) rfl rfl 158 (Za Zc3 (S_ none 0 0)) HZ.out (Zaz _ _) rfl (Zbt _ _ _ _) ?_))
  generalize ((w2.alloc (C_ (Za Zc3 (S_ none 0 0)) 158)).setRow w2.heap.size (Za f (S_ a2 f.events.length dy)))=W4 at *;have gy:=ZH (HB.out.upd HU.out (λh=>h));have hrN:¬((c.n:Int)<=(f.r:Int)):=by have:=HR.out;omega
  have hrN2:¬(c.n<=f.r):=by have:=HR.out;omega
  refine ZSi [(0,3),(1,0),(2,3),(3,0),(4,3),(5,3),(6,0),(7,3)] λcu=>?_
  repeat((first|refine ZSa ?_|refine ZSb ?_|(refine Zf rfl (by rfl) (λw' cL=>by(obtain⟨c0,c1,c2,c3,c4,c5,c6,c7,c8⟩:=(gy.out.ob cL.below).am);(obtain⟨x0,x1,x2,x3,x4,x5,x6,x7,x8⟩:=(HX.out.ob cL.below).am);go_simp;with_reducible rfl) ?_));simp only[Act.put,Q_])
  refine ZSf ?_;generalize Ao:(W4.drew:World)=w5 at *;obtain⟨x0,x1,x2,x3,x4,x5,x6,x7,x8⟩:=(HX.out.ob cu.below).am;have qb:=ZH (HX.out.ob cu.below);have C6:Upd (λ_=>False) own own W4 w5:=ZUb cu.below HU.out.fresh;obtain⟨ka,JS⟩:=ZH2 (HU.out.trans C6) (HL.out.upd C6 (λh=>h));have JQ:=ZH (HH.out.upd ka.out (λ_ _ h=>h) (by rw[HH.out.len];exact HC.out.n5));have ko:=qb.out.lt;clear cu C6;rcases HK.out with hk|hk|hk
  focus
   have k1:((f.kind:Int)==1)=true:=by simp[hk]
   have ft:=(Zsa ht JQ.out ka.out.fresh HC.out lI.out f dU.out hk (nK.out hk) JS.out HD.out).mono (λr w' h=>(ZrA (s:=⟨true,d,sh,told⟩) rfl hk h).mono ka.out);obtain⟨eY,kH⟩:=ZH2 ft hk;clear ft hk;go_wp2_with (first|(refine wpList_load_row rfl 158 (.tmp 7) rfl w2.heap.size rfl 158 (Za f (S_ a2 f.events.length dy)) (0,0) _ qb.out underlying158 rfl (Zaz _ _) ?_))
   refine eY.out.mono ?_;intro r6 w6 hP;obtain⟨x,y,z,rfl⟩:=hP.shape;have HP:=ZH hP
  rotate_left
  focus
   have k1:((f.kind:Int)==1)=false:=by simp[hk]
   have k3:((f.kind:Int)==3)=true:=by simp[hk]
   have ft:Calls prog 94 #[P_ (some ⟨p,0,none⟩),Zah f (S_ a2 f.events.length dy)] w5 (HTakePost own t p c w (Zaq c ⟨true,d,sh,told⟩ f)) :=
    (ZqF JQ.out ka.out.fresh (by rw[HH.out.len];exact HC.out.n5) (λs hs=>⟨by have:=lI.out.kept s hs;have:=HC.out.w4;omega,T8.out s hs⟩) f (by rw[HH.out.len];exact HR.out)).mono (λr w' h=>by
    obtain⟨v,rfl,h2,h3⟩:=h;have ib:Upd (λ_=>False) own own w5 w':=ZUb h3 ka.out.fresh;refine⟨own,(ka.out.trans ib).mono (λn h=>h.elim),?_⟩;unfold Zaq;rw[ZPn ZM,ZPn ZO,ZPp hk]
    exact⟨JQ.out.upd ib (λ_ _ h=>h) (by rw[HH.out.len];exact HC.out.n5),v,rfl,Zj h2 ka.out.size,λb hb=>HF.out b (ZT ka.out.size (Zb h2 hb).1)⟩)
   obtain⟨eY,kH⟩:=ZH2 ft hk;clear ft hk;go_wp2_with (first|(refine wpList_load_row rfl 158 (.tmp 7) rfl w2.heap.size rfl 158 (Za f (S_ a2 f.events.length dy)) (0,0) _ qb.out underlying158 rfl (Zaz _ _) ?_))
   refine eY.out.mono ?_;intro r6 w6 hP;obtain⟨x,y,z,rfl⟩:=hP.shape;have HP:=ZH hP
  rotate_left
  focus
   have k1:((f.kind:Int)==1)=false:=by simp[hk]
   have k3:((f.kind:Int)==3)=false:=by simp[hk]
   have k5:((f.kind:Int)==5)=true:=by simp[hk]
   have ft:=(ZtU ht JQ.out ka.out.fresh HC.out lI.out f dU.out HR.out (a:=a2) (n:=f.events.length) (cap:=dy) HD.out).mono (λr w' h=>Zs5 (s:=⟨true,d,sh,told⟩) rfl ZO ZO h);obtain⟨eY,kH⟩:=ZH2 ft hk;clear ft hk;go_wp2_with (first|(refine wpList_load_row rfl 158 (.tmp 7) rfl w2.heap.size rfl 158 (Za f (S_ a2 f.events.length dy)) (0,0) _ qb.out underlying158 rfl (Zaz _ _) ?_))
   refine eY.out.mono ?_;rintro _ w6 ⟨x,rfl,hP⟩;have HP:=ZH (hP.mono ka.out)
  rotate_left
  all_goals
   clear hP;go_wp2_with fail;go_ret3
   exact HP.out
def ZcA(c:Cfg)(r:Nat)(s:NodeSt)(f:Frm):NodeSt×Nat :=
 if s.up=true then(if f.kind=2 then Zdf r s f.upto else Zdb c r s f.events) else(s,18)
structure MayTake(c:Cfg)(r:Nat)(s:NodeSt)(f:Frm):Prop where
 ok:f.Ok
 r5:r<5
 to:f.r=r
 kind:f.kind=2∨f.kind=4
 others:∀e∈f.events,e.r≠r/\e.r<c.n
 own:s.clk.get r<=s.sent+s.wait.length
 clk:∀i,s.clk.get i+(s.held.length+f.events.length)<=1000000
 sent:s.sent<=1000000
 wait:s.wait.length<=1000000
 bytes:s.d.bytes.length<=1000000000
 evs:∀e∈s.held++f.events,e.Ok
 less:(drained s.clk (s.held++f.events)).1.length<=1000
 done:∀e∈(drained s.clk (s.held++f.events)).1,e.Ok
 book:BookInv 90000 s.book
 log:s.log.length<=100000
section
variable {own:Own}{t p r:Nat}{w:World}{c:Cfg}{s:NodeSt}
theorem Zq2(ht:0<t)(h:NodeAt own t w p c r s)(hf:Fresh own w)(hm:MayTake c r s f)(hb:Bytes w a n cap (Zn f)):
  Calls prog 51 #[ptrV p,S_ a n cap] w λe w'=>e=R_ (I_ J_ (ZcA c r s f).2)/\∃own',NodeAt own' t w' p c r (ZcA c r s f).1/\Upd (NodeT t) own own' w w':=by
 obtain⟨HF,HN,HM,TU⟩:=ZH4 hf h hm (ZjP hm.ok hb);obtain⟨h1,dp,bp,ip,op,lv,h3,h4,h5,h6,h7,h8⟩:=h;obtain⟨c6,c7,c8,c9,dg,dh,eH,eI⟩:=h3.ai;have cI:=h3.lt;have eC:=N_
 have HB:=ZH h3;clear h1 h3 h4 h5 h6 h7 h8 hf hm hb;obtain⟨up,d,log,sent,book,clk,held,wait⟩:=s;rcases up with _|_
 ·go_enter func51,ntmps51;go_wp2
  go_ret;exact⟨rfl,own,HN.out,ZUb (ZW _ _) HF.out⟩
 ·go_enter func51,ntmps51;go_wp2_with fail;refine TU.out.mono ?_;rintro _ w2 ⟨v,rfl,cT,cD⟩;obtain⟨av,cv,rfl,eW⟩:=EvSl.ae cT;have cM:Upd (λ_=>False) own own w w2:=ZUb cD HF.out
  have oW:Loose own w2 av f.events.length cv f.events:=⟨eW,λad e=>by
   subst e
   exact⟨HF.out _ (Zb cT rfl).1,(Zb cT rfl).2⟩⟩
  have fW:=(ZW w2.heap.size w2).alloc (ZL _) (C_ (Za f (S_ av f.events.length cv)) 158);have de:=cM.kept fW;obtain⟨HX,LQ,dN,ew,ta⟩:=ZH5 (ZBn w2 158 (Za f (S_ av f.events.length cv))) (oW.upd (T:=λ_=>False) (ZUb fW cM.fresh) (λh=>h)) (HB.out.upd de (λh=>h)) de (HN.out.upd de (λ_ _ h=>h));clear cT cD eW cM oW fW de c6 c7 c8 c9 dg dh eH eI;go_wp2_with fail;obtain⟨W,hW⟩:∃W,W=(w2.alloc (C_ (Za f (S_ av f.events.length cv)) 158)):=⟨_,rfl⟩;simp only[←hW]at *;clear hW;have Eb:((f.r:Int) != (r:Int))=false:=by have:=HM.out.to;simp[this]
  refine ZSi [(0,3),(1,0),(2,3),(3,0),(4,3),(5,0),(6,3)] λcu=>?_
  repeat((first|refine ZSa ?_|refine ZSb ?_|(refine Zf rfl (by rfl) (λw' cL=>by(obtain⟨c6,c7,c8,c9,dg,dh,eH,eI⟩:=(dN.out.ob cL.below).ai);(obtain⟨x0,x1,x2,x3,x4,x5,x6,x7,x8⟩:=(HX.out.ob cL.below).nine);go_simp;with_reducible rfl) ?_));simp only[Act.put,Q_])
  refine ZSf ?_;clear cu;have cS:L_ W W.drew:=(ZW W.heap.size W).drew;obtain⟨jA,gj,LR,gy,Dx⟩:=ZH5 (HX.out.ob cS) (ew.out.kept cS) (LQ.out.upd (T:=λ_=>False) (ZUb cS ew.out.fresh) (λh=>h)) (dN.out.ob cS) (ta.out.upd (T:=λ_=>False) (ZUb cS ew.out.fresh) (λ_ _ h=>h));have fV:w2.heap.size<W.drew.heap.size:=jA.out.lt;generalize W.drew=V at *;obtain⟨x0,x1,x2,x3,x4,x5,x6,x7,x8⟩:=jA.out.nine;clear cS;go_wp2_with fail;go_loopw [32] (λi wr=>∃(q:Nat),q<=f.events.length/\i=I_ J_ q/\Hid (L_ V wr)) (λi _=>f.events.length-(intOf i).toNat)
  case atStart=>exact⟨0,Nat.zero_le _,rfl,ZH (ZW _ _)⟩
  case round =>
   obtain⟨q,hq,rfl,rh⟩:=hrel;have Pr:Upd (λ_=>False) own own V wr:=ZUb rh.out gj.out.fresh;obtain⟨JJ,Fq,DE,Qm⟩:=ZH4 (gy.out.ob rh.out) (jA.out.ob rh.out) Pr (LR.out.upd (T:=λ_=>False) Pr (λh=>h));clear Pr x0 x1 x2 x3 x4 x5 x6 x7 x8;by_cases du:q<f.events.length
   ·obtain⟨e,he⟩:∃e,f.events[q]? = some e:=⟨_,ZX du⟩;obtain⟨bk,off,rfl,cW,d0,d1,d2,d3,d4,d5,d6,d7,d8,d9,zl,uo⟩:=Qm.out.sl.at_ he;have fX:f.events.length<=20:=HM.out.ok.len;have yo:=HM.out.others e (ZY he);have cV:((e.r:Int)==(r:Int))=false:=by have:=yo.1;simp;omega
    have dc:decide ((e.r:Int)>=(c.n:Int))=false:=by have:=yo.2;simp;omega
    have qk:¬(c.n:Int)<=(e.r:Int):=by have:=yo.2;omega
    have HE:=ZH (ZBn wr 89 (evArr e));have fW:=(ZW wr.heap.size wr).alloc (ZL _) (C_ (evArr e) 89);obtain⟨lX,lc⟩:=ZH2 (JJ.out.ob fW) fW;clear fW he yo;go_wp2_with fail;obtain⟨W,hW⟩:∃W,W=(wr.alloc (C_ (evArr e) 89)):=⟨_,rfl⟩;simp only[←hW]at *;clear hW d0 d1 d2 d3 d4 d5 d6 d7 d8 d9 zl uo;refine ZSi [(0,3),(1,0),(2,3),(3,0),(4,3),(5,0),(6,3),(7,3),(8,3),(9,0),(10,3),(11,0),(12,3),(13,3),(14,0),(15,3),(16,3)] λcu=>?_
    repeat((first|refine ZSa ?_|refine ZSb ?_|(refine Zf rfl (by rfl) (λw' cL=>by(obtain⟨c0,c1,c2,c3,c4,c5⟩:=(lX.out.ob cL.below).node6);(obtain⟨c6,c7,c8,c9,dg,dh,eH,eI⟩:=(lX.out.ob cL.below).ai);(obtain⟨x0,x1,x2,x3,x4,x5,x6,x7,x8,x9,fh,fi⟩:=(HE.out.ob cL.below).ag);go_simp;with_reducible rfl) ?_));simp only[Act.put,Q_])
    refine ZSf ?_;have kH:=ZH cu;clear cu;go_wp2
    go_roundw
    case rel=>exact⟨q+1,Nat.succ_le_of_lt du,ZN,ZH ((rh.out.trans (lc.out.mono rh.out.size)).trans (kH.out.below.mono (ZT rh.out.size lc.out.size)))⟩
    case measure=>simp[intOf];omega
   ·obtain rfl:q=f.events.length:=ZO;obtain⟨x0,x1,x2,x3,x4,x5,x6,x7,x8⟩:=Fq.out.nine;have fV:=Fq.out.lt;have CF:=Dx.out.upd DE.out (λ_ _ h=>h);rcases HM.out.kind with hk|hk
    focus
     have cX:((f.kind:Int)==2)=true:=by simp[hk]
     have wB:=ZnR CF DE.out.fresh HM.out.r5 f.upto HM.out.own (by have:=HM.out.clk r;simp only at this ⊢;omega) HM.out.sent HM.out.ok.upto HM.out.wait HM.out.bytes;obtain⟨UA,HK⟩:=ZH2 wB hk;clear hk wB CF;go_wp2_with fail;refine UA.out.mono ?_;rintro _ w9 ⟨rfl,Jg,dF,dE⟩;obtain⟨A0,i9⟩:=ZH2 dF dE;clear dF dE;go_wp2
     go_ret;unfold ZcA;rw[ZPp rfl,ZPp HK.out]
    rotate_left
    focus
     have cX:((f.kind:Int)==2)=false:=by simp[hk]
     have dM:((f.kind:Int)==4)=true:=by simp[hk]
     obtain⟨TT,HK⟩:=ZH2 (ZnQ ht CF DE.out.fresh HM.out.r5 Qm.out.sl HM.out.evs HM.out.clk HM.out.less HM.out.done HM.out.book ZO HM.out.log HM.out.bytes) hk;clear hk CF;go_wp2_with fail;refine TT.out.mono ?_;rintro _ w9 ⟨rfl,Jg,dF,dE⟩;obtain⟨A0,i9⟩:=ZH2 dF dE;clear dF dE;go_wp2
     go_ret;unfold ZcA;rw[ZPp rfl,ZPn (by rw[HK.out];omega)]
    rotate_left
    all_goals
     exact⟨rfl,Jg,A0.out,((gj.out.trans DE.out).mono (λn h=>h.elim)).trans i9.out⟩
end
def byR(i:Nat)(l:List Ev):List Ev:=l.filter λe=>decide (e.r=i)
def cnt(i:Nat)(l:List Ev):Nat:=(byR i l).length
theorem Zje(i:Nat)(l:List Ev)(e:Ev):byR i (l++[e])=byR i l++if e.r=i then [e] else []:=by
 unfold byR;rw[List.filter_append];by_cases h:e.r=i <;> simp[h]
theorem Zem(i:Nat)(l m:List Ev):byR i (l++m)=byR i l++byR i m:=List.filter_append ..
theorem ZeB:e∈byR i l↔e∈l/\e.r=i:=by simp[byR]
theorem ZgO(i:Nat)(l:List Ev)(e:Ev):cnt i (l++[e])=cnt i l+if e.r=i then 1 else 0:=by
 unfold cnt;rw[Zje];by_cases h:e.r=i <;> simp[h]
theorem ZrW(i:Nat)(e:Ev)(l:List Ev):cnt i (e::l)=cnt i l+if e.r=i then 1 else 0:=by
 unfold cnt byR;by_cases h:e.r=i <;> simp[h]
def tot(B:Nat->Nat):Nat:=B 0+B 1+B 2+B 3+B 4
theorem Zkv:∀{l:List Ev},(∀e∈l,e.r<5)->l.length=tot λi=>cnt i l
 | [],_=>rfl
 |e::l,h=>by
  have ih:=Zkv (l:=l) λx hx=>h x (List.mem_cons_of_mem _ hx)
  have hr:=h e ZM;unfold tot at ih ⊢;simp only[List.length_cons,ZrW,ih];rcases(by omega:e.r=0∨e.r=1∨e.r=2∨e.r=3∨e.r=4) with h|h|h|h|h <;> rw[h] <;> simp <;> omega
theorem ZrC{A B:Nat->Nat}(h:∀i,A i<=B i):tot A<=tot B:=by
 have:=h 0;have:=h 1;have:=h 2;have:=h 3;have:=h 4;unfold tot;omega
theorem Zde{B:Nat->Nat}(h:i<5):B i<=tot B:=by
 unfold tot;rcases(by omega:i=0∨i=1∨i=2∨i=3∨i=4) with rfl|rfl|rfl|rfl|rfl <;> omega
theorem ZeZ(h:∀e∈l,e.r<5)(i:Nat):(clkOf l).get i=cnt i l:=ZkV h i
theorem From1.snoc(h:From1 n l)(he:e.n=n+l.length):From1 n (l++[e]):=by
 intro i x hx;rw[List.getElem?_append]at hx;split at hx
 ·exact h i x hx
 ·rename_i hl
  cases hk:i-l.length with
  |zero =>
   rw[hk]at hx;simp at hx;subst hx;omega
  |succ k=>rw[hk]at hx;simp at hx
theorem From1.mem(h:From1 n l)(he:e∈l):n<=e.n/\e.n<n+l.length:=by
 obtain⟨i,hi,rfl⟩:=List.getElem_of_mem he;have:=h i _ (ZX hi);omega
theorem From1.drop{n:Nat}{l:List Ev}(h:From1 n l)(k:Nat):From1 (n+k) (l.drop k):=by
 intro i e he;rw[List.getElem?_drop]at he;have:=h _ _ he;omega
theorem From1.take{n:Nat}{l:List Ev}(h:From1 n l)(k:Nat):From1 n (l.take k):=by
 intro i e he;rw[List.getElem?_take]at he;split at he
 ·exact h i e he
 ·cases he
theorem From1.tail(h:From1 n (e::l)):From1 (n+1) l:=h.drop 1
theorem From1.bT:∀{l:List Ev} {n k:Nat},From1 n l->(l.filter λe=>decide (n+k<=e.n))=l.drop k
 | [],n,k,_=>ZM
 |e::l,n,0,h=>by
  simp only[Nat.add_zero,List.drop_zero];rw[List.filter_eq_self];intro x hx;simpa using(h.mem hx).1
 |e::l,n,k+1,h=>by
  have he:e.n=n:=h 0 e rfl;have ih:=From1.bT (k:=k) h.tail;rw[List.filter_cons_of_neg ZP,List.drop_succ_cons,←ih];congr 1;funext x;congr 1;apply propext;omega
theorem Zs8(r sent:Nat)(l:List Ev):waitN r sent l=(byR r l).filter λe=>decide (sent<e.n):=by
 unfold waitN byR;rw[List.filter_filter];congr 1;funext e;rw[Bool.and_comm]
theorem Zp2{sent:Nat}(h:From1 1 (byR r l)):waitN r sent l=(byR r l).drop sent:=by
 rw[Zs8,←From1.bT h];congr 1;funext x;congr 1;apply propext;omega
structure Bd where
 made:Nat->Nat
 hub:Nat->Nat
structure Bd.le(B B':Bd):Prop where
 made:∀i,B.made i<=B'.made i
 hub:∀i,B.hub i<=B'.hub i
theorem Bd.le.refl(B:Bd):B.le B:=⟨λ_=>ZL _,λ_=>ZL _⟩
theorem Bd.le.trans{A B C:Bd}(h:A.le B)(g:B.le C):A.le C:=⟨λi=>ZT (h.made i) (g.made i),λi=>ZT (h.hub i) (g.hub i)⟩
structure EvG(c:Cfg)(B:Bd)(e:Ev):Prop where
 ok:e.Ok
 rn:e.r<c.n
 num:e.n<=B.made e.r
 high:e.height<=tot B.made
 ctx:∀j,j≠e.r->e.ctx.get j<=B.hub j
theorem EvG.more{B B':Bd}(h:EvG c B e)(hB:B.le B'):EvG c B' e :=
 ⟨h.ok,h.rn,ZT h.num (hB.made _),ZT h.high (ZrC hB.made),λj hj=>ZT (h.ctx j hj) (hB.hub j)⟩
structure EvH(c:Cfg)(r:Nat)(B:Bd)(e:Ev):Prop where
 good:EvG c B e
 ne:e.r≠r
 hub:e.n<=B.hub e.r
theorem EvH.more{c:Cfg}{r:Nat}{B B':Bd}{e:Ev}(h:EvH c r B e)(hB:B.le B'):EvH c r B' e:=⟨h.good.more hB,h.ne,ZT h.hub (hB.hub _)⟩
structure LogInv(c:Cfg)(r:Nat)(B:Bd)(log:List Ev)(sent:Nat):Prop where
 all:∀e∈log,EvG c B e
 oth:∀e∈log,e.r≠r->e.n<=B.hub e.r
 row:∀i,From1 1 (byR i log)
 sentH:sent<=B.hub r
 room:cnt r log<=sent+c.q
 sent:sent<=cnt r log
theorem Zf2{m:Nat}(hr:From1 1 (byR i l))(h:∀e∈l,e.r=i->e.n<=m):cnt i l<=m:=by
 cases hc:cnt i l with
 |zero=>omega
 |succ k =>
  have hl:k<(byR i l).length:=by unfold cnt at hc;omega
  have hm:=List.getElem_mem hl;have hn:=hr k _ (ZX hl);obtain⟨h1,h2⟩:=ZeB.1 hm;have:=h _ h1 h2;omega
section
variable {c:Cfg}{r:Nat}{B B':Bd}{log:List Ev}{sent:Nat}
theorem LogInv.nil(c:Cfg)(r:Nat)(B:Bd):LogInv c r B [] 0:=⟨ZM,ZM,λi k e h=>by simp[byR]at h,ZM,by simp[cnt,byR],ZM⟩
theorem LogInv.ok(h:LogInv c r B log sent):∀e∈log,e.Ok:=λe he=>(h.all e he).ok
theorem LogInv.r5(h:LogInv c r B log sent):∀e∈log,e.r<5:=λe he=>(h.ok e he).r
theorem LogInv.more(h:LogInv c r B log sent)(hB:B.le B'):LogInv c r B' log sent :=
 ⟨λe he=>(h.all e he).more hB,λe he hr=>ZT (h.oth e he hr) (hB.hub _),h.row,ZT h.sentH (hB.hub _),h.room,h.sent⟩
theorem LogInv.aD(h:LogInv c r B log sent)(i:Nat):cnt i log<=B.made i:=Zf2 (h.row i) λe he hi=>hi▸(h.all e he).num
theorem LogInv.bt(h:LogInv c r B log sent)(hi:i≠r):cnt i log<=B.hub i:=Zf2 (h.row i) λe he hr=>hr▸h.oth e he (by rw[hr];exact hi)
theorem LogInv.len(h:LogInv c r B log sent):log.length<=tot B.made:=by
 rw[Zkv h.r5];exact ZrC h.aD
theorem LogInv.wait(h:LogInv c r B log sent):waitN r sent log=(byR r log).drop sent:=Zp2 (h.row r)
theorem LogInv.be(h:LogInv c r B log sent):(waitN r sent log).length=cnt r log-sent:=by
 rw[h.wait,List.length_drop];rfl
theorem LogInv.bZ(h:LogInv c r B log sent)(hr:r<5)(hb:tot B.made<=1000):LogOk c.q r sent log:=by
 have:=h.len;have:=h.aD r;have:=Zde (B:=B.made) hr;have:=h.sent;have:=h.room;have:=h.be;refine⟨h.ok,ZO,?_,ZO,ZO⟩;rw[h.wait,Nat.add_comm];exact(h.row r).drop sent
theorem ZgK{P:Ev->Prop}(h:∀x∈l,P x)(he:P e):∀x∈l++[e],P x:=λx hx=>by
 rcases List.mem_append.1 hx with hx|hx
 ·exact h x hx
 ·simp at hx;subst hx;exact he
theorem LogInv.other(h:LogInv c r B log sent)(he:EvH c r B e)(hc:e.n=cnt e.r log+1):LogInv c r B (log++[e]) sent:=by
 have jn:cnt r (log++[e])=cnt r log:=by rw[ZgO,ZPn he.ne];rfl
 refine⟨ZgK h.all he.good,ZgK h.oth λ_=>he.hub,λi=>?_,h.sentH,by rw[jn];exact h.room,by rw[jn];exact h.sent⟩;rw[Zje];split
 ·rename_i hi;subst hi;exact(h.row _).snoc (by unfold cnt at hc;omega)
 ·simpa using h.row i
theorem LogInv.own(h:LogInv c r B log sent)(hB:B.le B')(he:EvG c B' e)(hr:e.r=r)(hc:e.n=cnt r log+1)(hq:cnt r log<sent+c.q):LogInv c r B' (log++[e]) sent:=by
 have jn:cnt r (log++[e])=cnt r log+1:=by rw[ZgO,ZPp hr]
 have h':=h.more hB;refine⟨ZgK h'.all he,ZgK h'.oth λhn=>absurd hr hn,λi=>?_,h'.sentH,by rw[jn];omega,by rw[jn];have:=h.sent;omega⟩;rw[Zje];split
 ·rename_i hi;rw[←hi,hr];exact(h.row _).snoc (by unfold cnt at hc;omega)
 ·simpa using h.row i
theorem LogInv.told(h:LogInv c r B log sent){u:Nat}(h1:sent<=u)(h2:u<=cnt r log)(h3:u<=B.hub r):LogInv c r B log u :=
 ⟨h.all,h.oth,h.row,h3,by have:=h.room;omega,h2⟩
end
def Chain:Clk->List Ev->Clk->Prop
 |c,[],c'=>c'=c
 |c,e::l,c'=>e.r<5/\e.n=c.get e.r+1/\e.ctx.le c=true/\Chain (c.set e.r (c.get e.r+1)) l c'
theorem Zlm{c:Clk}(h:Zbq c l=some e):e∈l/\e.r<5/\e.n=c.get e.r+1/\e.ctx.le c=true:=by
 unfold Zbq at h;obtain⟨r,hr,h1⟩:=List.exists_of_findSome?_eq_some h;unfold Zcm at h1;split at h1
 ·rename_i e' hf;split at h1
  ·rename_i eE;injection h1 with h1;subst h1;obtain⟨m1,m2,m3⟩:=ZgS hf;exact⟨m1,by rw[m2];simpa using hr,by rw[m2];exact m3,eE⟩
  ·cases h1
 ·cases h1
theorem Zf3:∀(f:Nat) (c:Clk) (w d:List Ev),∃m,(ZaS f c w d).1=d++m/\Chain c m (ZaS f c w d).2.2/\∀e∈m,e∈w
 | 0,c,w,d=>⟨[],by simp[ZaS],rfl,ZM⟩
 |f+1,c,w,d=>by
  unfold ZaS
  cases hn:Zbq c w with
  |none=>exact⟨[],ZM,rfl,ZM⟩
  |some e =>
   obtain⟨h1,h2,h3,h4⟩:=Zlm hn;obtain⟨m,m1,m2,m3⟩:=Zf3 f (c.set e.r (c.get e.r+1)) (ZbY e.r e.n w) (d++[e]);refine⟨e::m,by simp only[m1,List.append_assoc,List.singleton_append],⟨h2,h3,h4,m2⟩,?_⟩;intro x hx;rcases List.mem_cons.1 hx with rfl|hx
   ·exact h1
   ·exact List.mem_of_mem_eraseP (m3 x hx)
theorem Zht(c:Clk)(l:List Ev):Chain c (drained c l).1 (drained c l).2.2/\∀e∈(drained c l).1,e∈l:=by
 obtain⟨m,h1,h2,h3⟩:=Zf3 (Zak c l).length c (Zak c l) [];rw[List.nil_append]at h1;unfold drained;rw[h1];refine⟨h2,λe he=>?_⟩;rcases ZeQ c l [] e (h3 e he) with h|h
 ·cases h
 ·exact h
theorem Zml(l m:List Ev):clkOf (l++m)=m.foldl (λc e=>c.set e.r (c.get e.r+1)) (clkOf l):=List.foldl_append ..
theorem Chain.clk:∀{l:List Ev} {c c':Clk},Chain c l c'->l.foldl (λc e=>c.set e.r (c.get e.r+1)) c=c'
 | [],_,_,h=>h.symm
 |_::_,_,_,h=>h.2.2.2.clk
theorem Chain.log{c:Cfg}{r:Nat}{B:Bd}:∀{l:List Ev} {log:List Ev} {sent:Nat} {k:Clk},LogInv c r B log sent->Chain (clkOf log) l k->(∀e∈l,EvH c r B e)->LogInv c r B (log++l) sent
 | [],log,sent,k,h,_,_=>by simpa using h
 |e::l,log,sent,k,h,hc,hl=>by
  obtain⟨h1,h2,h3,h4⟩:=hc;have hn:=h.other (hl e ZM) (by rw[h2,ZeZ h.r5]);rw[←ZgM]at h4;have:=Chain.log hn h4 (λx hx=>hl x (List.mem_cons_of_mem _ hx));simpa using this
abbrev ev0:Ev:=⟨0,0,ZCz,0,0,⟨#[]⟩,0,⟨#[]⟩⟩
def madeEv(r:Nat)(s:NodeSt)(kind:Nat)(key:ByteArray)(label:Nat)(value:ByteArray):Ev:=⟨r,s.clk.get r+1,s.clk,Zeh s.log s.clk,kind,key,label,value⟩
def Z7(r:Nat)(e:Ev):Frm:=⟨1,r,0,ZCz,[e]⟩
def Ze0(s:NodeSt)(e:Ev):NodeSt:=Zbv { s with clk:=(drained s.clk [e]).2.2,wait:=s.wait++[e] } [e]
def ZdD(c:Cfg)(r:Nat)(s:NodeSt)(kind:Nat)(key:ByteArray)(label:Nat)(value:ByteArray):NodeSt×Nat :=
 if s.up=true then
  (if Zb2 c.l c.p (listN s.book) kind key label value=0 then
   (if s.wait.length<c.q then
    (if (Zy s (Z7 r (madeEv r s kind key label value))).2=0 then(Ze0 (Zy s (Z7 r (madeEv r s kind key label value))).1 (madeEv r s kind key label value),0) else Zy s (Z7 r (madeEv r s kind key label value)))
   else(s,17))
  else(s,Zb2 c.l c.p (listN s.book) kind key label value))
 else(s,18)
theorem ZjK(hr:r<5)(he:e.Ok):RecOk (Z7 r e) :=
 ⟨by simp[Z7],by simp[Z7],hr,by simp[Z7],by simp[Z7],λi=>by simp[Z7,ZbS],by simp[Z7],λx hx=>by simp[Z7]at hx;subst hx;exact he,by simp[Z7],by simp[Z7],by simp[Z7]⟩
structure MayEdit(c:Cfg)(r:Nat)(s:NodeSt)(kind:Nat)(key:ByteArray)(label:Nat)(value:ByteArray):Prop where
 ok:EditOk kind key label value
 r5:r<5
 keys:s.book.length<=1000
 sets:∀x∈s.book,x.1.size<=1000000/\x.2.length<=100/\∀e∈x.2,e.r<5
 list:(listN s.book).length<=1000000
 cons:∀x∈listN s.book,x.s0.length<=1000000/\x.s1.length<=1000000
 evok:(madeEv r s kind key label value).Ok
 clk:∀i,s.clk.get i+1<=1000000
 own:(drained s.clk [madeEv r s kind key label value]).1≠[]
 last:s.clk.get r=lastOf s.sent s.wait
 wait:s.wait.length<=1000000
 log:s.log.length<=100000
 logok:∀e∈s.log,e.Ok
 bytes:s.d.bytes.length<=1000000000
 book:BookInv 90000 s.book
def Zap(st:List Ev×Nat)(f:Frm):List Ev×Nat :=
 if f.kind=3 then(st.1,f.upto) else if f.kind=4 then(f.events,f.upto) else(st.1++f.events,st.2)
def nodeRecs(rs:List Frm):List Ev×Nat:=rs.foldl Zap ([],0)
theorem ZlV{rs:List Frm}(h:rs[q]? = some f):nodeRecs (rs.take (q+1))=Zap (nodeRecs (rs.take q)) f:=by
 unfold nodeRecs;rw[List.take_add_one,h];simp
structure StartRun(own0 own:Own)(t:Nat)(w0:World)(p dp:Nat)(lv bv iv ov:Value)(c:Cfg)(r:Nat)(d:Dk)(log:List Ev)(sent:Nat)(v:Value)(rs:List Frm)(ps:List (Frm×Value))(w:World):Prop where
 mine:own p=t
 blk:Blk w p 133 (nodeArr c r false (ptrV dp) lv sent bv iv ov)
 disk:DiskAt own (t+1) w dp d
 row:RowAt own (t+2) w lv log
 recs:RecLoose own w v rs ps
 upd:Upd (NodeT t) own0 own w0 w
section
variable {own0 own own':Own}{t:Nat}{w0 w w':World}{p dp:Nat}{lv lv' bv iv ov:Value}{c:Cfg}{r:Nat}{d:Dk}{log log':List Ev}{sent sent':Nat}{v:Value}{rs:List Frm}{ps:List (Frm×Value)}
theorem StartRun.kept(h:StartRun own0 own t w0 p dp lv bv iv ov c r d log sent v rs ps w)(hb:L_ w w'):StartRun own0 own t w0 p dp lv bv iv ov c r d log sent v rs ps w':=by
 have hu:Upd (λ_=>False) own own w w':=ZUb hb h.upd.fresh;exact⟨h.mine,h.blk.ob hb,h.disk.upd hu (λh=>h),h.row.upd hu (λh=>h),h.recs.upd hu (λh=>h),h.upd.kept hb⟩
theorem StartRun.put(h:StartRun own0 own t w0 p dp lv bv iv ov c r d log sent v rs ps w)(ht:0<t)(hu:Upd (· = t+2) own own' w w')(hr:RowAt own' (t+2) w' lv' log'){x:Value}(hx:x=lv'):
  StartRun own0 own' t w0 p dp lv' bv iv ov c r d log' sent v rs ps (w'.setCell ⟨p,9,none⟩ x):=by
 subst hx;have ho:own' p=t:=(hu.old p h.blk.lt).trans h.mine;have hb:Blk w' p 133 (nodeArr c r false (ptrV dp) lv sent bv iv ov):=h.blk.upd hu (by rw[h.mine];omega);have hs:Upd (· = t) own' own' w' (w'.setCell ⟨p,9,none⟩ x):=(Upd.refl (· = t) own' w' hu.fresh).setCell (p:=⟨p,9,none⟩) (λ_=>ho) _;exact⟨ho,hb.aj 9 _,(h.disk.upd hu ZO).upd hs ZO,hr.upd hs ZO,(h.recs.upd hu ZO).upd hs ZO,(h.upd.trans (hu.mono (λm hm=>⟨ZO,ZO⟩))).trans (hs.mono (λm hm=>⟨ZO,ZO⟩))⟩
theorem StartRun.tell(h:StartRun own0 own t w0 p dp lv bv iv ov c r d log sent v rs ps w)(ht:0<t){x:Value}(hx:x=I_ J_ sent'):
  StartRun own0 own t w0 p dp lv bv iv ov c r d log sent' v rs ps (w.setCell ⟨p,10,none⟩ x):=by
 subst hx;have hs:Upd (· = t) own own w (w.setCell ⟨p,10,none⟩ (I_ J_ (sent':Int))):=(Upd.refl (· = t) own w h.upd.fresh).setCell (p:=⟨p,10,none⟩) (λ_=>h.mine) _;exact⟨h.mine,h.blk.aj 10 _,h.disk.upd hs ZO,h.row.upd hs ZO,h.recs.upd hs ZO,h.upd.trans (hs.mono (λm hm=>⟨ZO,ZO⟩))⟩
end
theorem ZdV:RecOk ⟨3,0,0,ZCz,[]⟩:=by
 refine⟨ZM,ZM,ZM,ZM,ZM,λi=>?_,ZM,ZM,ZM,ZM,ZM⟩;show ZCz.get i<=1048576
 unfold Clk.get;split <;> simp[ZCz]
theorem ZsD(w:World):Calls prog 82 #[S_ none 0 0] w (Zx (.tuple #[S_ none 0 0,I_ J_ 0]) w):=by
 have hb:Bytes w none 0 0 ((recBytes ⟨3,0,0,ZCz,[]⟩).take 0):=⟨ZL _,by unfold maxLen;omega,.inl ⟨rfl,rfl⟩⟩;have hn:=Zm8 ZdV (m:=0) (by have:=Zby ZdV;omega) hb (Zdg ZdV);have HN:=ZH hn;clear hn hb;go_enter func82,ntmps82;go_wp2_with fail;go_step3
 go_wp2_with fail;go_step3
 go_wp2_with fail;refine HN.out.mono ?_;rintro _ w3 ⟨rfl,cG⟩
 go_wp2_with (first
  |(refine ZS rfl 150 rfl (Za ⟨0,0,0,ZCz,[]⟩ (S_ none 0 0)) ZK ?_)
  |(refine wpList_store_row rfl 150 (.tmp 6) (.tmp 14) rfl w3.heap.size (Za ⟨0,0,0,ZCz,[]⟩ (S_ none 0 0)) rfl rfl 150 (Za ⟨0,0,0,ZCz,[]⟩ (S_ none 0 0)) (ZBn _ _ _) (ZaD _ _) rfl (Zbt _ _ _ _) ?_
    have lX:Hid (L_ w ((w3.alloc (C_ (Za ⟨0,0,0,ZCz,[]⟩ (S_ none 0 0)) 150)).setRow w3.heap.size (Za ⟨0,0,0,ZCz,[]⟩ (S_ none 0 0)))):=ZH (((Kept.start cG).alloc _ |>.row cG.size _).below)
    generalize (w3.alloc (C_ (Za ⟨0,0,0,ZCz,[]⟩ (S_ none 0 0)) 150)).setRow w3.heap.size (Za ⟨0,0,0,ZCz,[]⟩ (S_ none 0 0))=W5 at *))
 rw[Exit.noGoto_ret];go_ret2
 exact⟨rfl,lX.out⟩
end Go.Proofs.YtjkfognelhiepaaGreat
