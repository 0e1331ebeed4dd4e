import Derived.Test.YtjkfognelhiepaaGreatC18
namespace Go.Proofs.YtjkfognelhiepaaGreat
open Go.RowKit _root_.Go.Proofs.Tryz
set_option maxRecDepth 100000
set_option maxHeartbeats 8000000
section
def ZcR(s:NodeSt)(l:List Ev):NodeSt:={ s with log:=s.log++l,book:=l.foldl applyN s.book }
section
variable {own:Own}{t p r:Nat}{w:World}{c:Cfg}{s:NodeSt}
theorem Zg6(ht:0<t)(h:NodeAt own t w p c r s)(hf:Fresh own w){N:Nat}(i4:BookInv N s.book){l:List Ev}{a:Option Addr}{n cap:Nat}(hN:N+n<=100000)(hl:Loose own w a n cap l)(eO:∀ e∈l,e.Ok)(pQ:s.log.length<=100000):
  Calls prog 71 #[ptrV p,.slice a n cap] w λ e w'=>e = .returned (.tuple #[])/\∃ own',NodeAt own' t w' p c r (ZcR s l)/\Upd (NodeT t) own own' w w':=by
 obtain⟨h1,dp,bp,ip,op,lv,h3,h4,h5,h6,h7,h8⟩:=h;obtain⟨al,cl,rfl,eD⟩:=EvSl.ab h5.row;obtain⟨c6,c7,c8,c9,cP,cR,dX,dY⟩:=h3.ag;have ce:=h3.lt;have CE:=ZH (hl.sl.2.2.1);obtain⟨i0,hi,cM,cG,cK⟩:=info_parts Zbv;obtain⟨HB,HD,sF,HK,HI,HO,HF,HL,gN⟩:=ZH9 h3 h4 h5 h6 h7 h8 hf hl eO;obtain⟨qM,HM⟩:=ZH2 i4 h1;clear h1 h3 h4 h5 h6 h7 h8 eD hf hl eO i4;obtain⟨up,d,log,sent,book,clk,held,wait⟩:=s;have hlog':log.length<=100000:=pQ;clear pQ;go_enter func71,ntmps71
 go_wp2_with (first
  |(at_builtin
    refine Zc _ rfl (.tmp 10) (.tmp 11) _ rfl 0 89 i0 _ 12 112 underlying128 hi cM cG cK rfl ZO (.slice al log.length cl) log.length (evCells log) rfl sF.out.row w.heap.size a n cap (evCells l) rfl HL.out.sl.reads (Zbi _) ZF ZO (Nat.zero_le _) ?_;intro v7 w7 bX cN dP;obtain⟨a7,k7,rfl⟩:=Zs bX;obtain⟨jW,gM⟩:=Upd.grow (T:=(· = t+2)) (Upd.refl (· = t+2) own w HF.out) rfl (λ g hg=>sF.out.own g hg) (λ g hg=>(Zb bX hg).2) cN dP;have lh:=HB.out.upd jW (by rw[HM.out];omega);have d6:=lh.cell 6;have d9:=lh.cell 9;have sZ:=lh.cell 11;have f9:=lh.frozen 9;have LO:=lh.lt;simp only[ZD,ZE,ZG] at d6 d9 sZ;obtain⟨iu,ju,xJ,mQ⟩:=ZH4 lh jW bX dP
    clear lh jW bX cN dP gM))
 obtain⟨dH,cT⟩:∃ dH,dH=own.put (.slice a7 (log.length+n) k7) (t+2):=⟨_,rfl⟩;rw[←cT] at ju;have gM:dH p=t:=(ju.out.old p ce).trans HM.out;have Ch:Upd (· = t) dH dH w7 (w7.setCell ⟨p,9,none⟩ (.slice a7 (log.length+n) k7)):=(Upd.refl (· = t) dH w7 ju.out.fresh).setCell (p:=⟨p,9,none⟩) (λ _=>gM) _
 have yP:RowAt dH (t+2) (w7.setCell ⟨p,9,none⟩ (.slice a7 (log.length+n) k7)) (.slice a7 (log.length+n) k7) (log++l):=⟨by
  have h:=Zcm (i:=9) (u := .slice a7 (log.length+n) k7) xJ.out iu.out ZJ;rw[←Zbj,←CE.out,←ZI] at h;rw[←CE.out,←ZI]
  exact h,λ g hg=>by rw[cT];unfold Own.put;rw[if_pos hg]⟩
 have se:NodeAt dH t (w7.setCell ⟨p,9,none⟩ (.slice a7 (log.length+n) k7)) p c r { ZcR ⟨up,d,log,sent,book,clk,held,wait⟩ l with book:=(l.take 0).foldl applyN book } :=
  ⟨gM,dp,bp,ip,op,_,iu.out.ai 9 _,(HD.out.upd ju.out ZO).upd Ch ZO,yP,(HK.out.upd ju.out ZO).upd Ch ZO,(HI.out.upd ju.out ZO).upd Ch ZO,(HO.out.upd ju.out ZO).upd Ch ZO⟩
 have jo:Hid (Upd (NodeT t) own dH w (w7.setCell ⟨p,9,none⟩ (.slice a7 (log.length+n) k7))):=ZH ((ju.out.mono (λ m hm=>⟨ZO,ZO⟩)).trans (Ch.mono (λ m hm=>⟨ZO,ZO⟩)));have NE:=ZH se;generalize (w7.setCell ⟨p,9,none⟩ (.slice a7 (log.length+n) k7))=W8 at *;clear cT gM Ch yP se ju iu xJ mQ HD HK HI HO HB sF d6 d9 sZ f9 LO c6 c7 c8 c9 cP cR dX dY;go_loopw [17] (λ i wr=>∃ (q:Nat) (dD:Own),q<=n/\i = .int .i64 q/\Hid (NodeAt dD t wr p c r { ZcR ⟨up,d,log,sent,book,clk,held,wait⟩ l with book:=(l.take q).foldl applyN book })/\Hid (Upd (NodeT t) own dD w wr)) (λ i _=>n-(intOf i).toNat)
 case atStart=>exact⟨0,dH,Nat.zero_le _,rfl,NE,jo⟩
 case round =>
  clear NE jo;obtain⟨q,dD,hq,rfl,HN,HU⟩:=hrel;by_cases dy:q<n
  ·obtain⟨e,he⟩:∃ e,l[q]? = some e:=⟨_,ZX (by rw[CE.out];exact dy)⟩;have hs:=(HL.out.upd HU.out (λ h=>by obtain⟨h,_⟩:=h;omega)).sl;obtain⟨bk,off,rfl,cQ,c0,c1,c2,c3,c4,RQ,c6,c7,c8,c9,cP,cR⟩:=hs.at_ he;obtain⟨h1,dp,bp,ip,op,lv,h3,h4,h5,h6,h7,h8⟩:=HN.out;have hx:=ZBn wr 89 (evArr e);have cD:=(ZW wr.heap.size wr).alloc (ZL _) (.cells (evArr e) 89);obtain⟨HX,HB,di⟩:=ZH3 hx (h3.ob cD) cD;have ka:BookInv (N+q) ((l.take q).foldl applyN book):=by
    have:=qM.out.fold (l:=l.take q) (λ x hx=>gN.out x (List.mem_of_mem_take hx));rw[ZV,CE.out,Nat.min_eq_left hq] at this;exact this
   have js:(l.take (q+1)).foldl applyN book=applyN ((l.take q).foldl applyN book) e:=by rw[Zag he,List.foldl_append];rfl
   obtain⟨qS,C2,H3,H4,H5,H7,H8,xD,qN⟩:=ZH9 (gN.out e (ZY he)) h1 h3 h4 h5 h7 h8 h6 ka;have gE:=ZH js;obtain⟨x0,x1,x2,x3,x4,x5,x6,x7,x8,x9,eE,eG⟩:=hx.ae;clear hs he h1 h3 h4 h5 h6 h7 h8 hx cD ka js;go_wp2_with fail;generalize (wr.alloc (.cells (evArr e) 89))=W at *;refine ZSi [(0,3),(1,0),(2,3),(3,0),(4,0),(5,2)] λ bR=>?_
   repeat((first | refine ZSa ?_ | refine ZSb ?_ | (refine Zf rfl (by rfl) (λ w' ci=>by(obtain⟨c6,c7,c8,c9,cP,cR,dX,dY⟩:=(HB.out.ob ci.below).ag);(obtain⟨x0,x1,x2,x3,x4,x5,x6,x7,x8,x9,eE,eG⟩:=(HX.out.ob ci.below).ae);go_simp;with_reducible rfl) ?_));simp only[Act.put,ZA,ZB,ZC])
   refine ZSe λ K hK=>?_
   go_simp;have dk:Upd (λ _=>False) dD dD wr W.drew:=ZUb di.out.drew HU.out.fresh;refine(ZiQ (xD.out.upd dk (λ h=>h)) dk.fresh e qS.out (λ l hl=>by have:=qN.out.get hl;exact⟨ZO,this.2⟩)).mono ?_;rintro _ w6 ⟨rfl,dU,AZ,gT⟩;obtain⟨CY,gY⟩:=ZH2 AZ ((dk.mono (T':=(· = t+3)) (λ n h=>h.elim)).trans gT);refine hK.out _ _ ?_;clear hK K bR dk AZ gT;refine ZSf ?_;go_wp2
   go_roundw
   case rel =>
    refine⟨q+1,dU,ZO,ZN,?_,ZH (HU.out.trans (gY.out.mono (λ m hm=>⟨ZO,ZO⟩)))⟩;rw[gE.out];exact ZH ⟨(gY.out.old p H3.out.lt).trans C2.out,dp,bp,ip,op,lv,H3.out.upd gY.out (by rw[C2.out];omega),H4.out.upd gY.out ZO,H5.out.upd gY.out ZO,CY.out,H7.out.upd gY.out ZO,H8.out.upd gY.out ZO⟩
   case measure=>simp[intOf];omega
  ·obtain rfl:q=n:=ZO;have IG:=HN.out;rw[ZU (by rw[CE.out];exact ZL _)] at IG;go_wp2_with fail;go_end0
   exact⟨rfl,dD,IG,HU.out⟩
end
end
def ZjN(own:Own)(td p i dp:Nat)(d:Dk)(b:List Nat)(w:World)(r:Ending)(w':World):Prop :=
 ∃ own' w1,Upd (· = td) own own' w w1/\DiskAt own' td w1 dp (d.write b).1/\if (d.write b).2=0 then r = .returned (.int .i64 0)/\w'=w1 else r = .returned (.int .i64 18)/\w'=w1.setCell ⟨p,i,none⟩ (.bool false)
theorem Zkb{own:Own}{td p dp:Nat}{w:World}{d:Dk}{ub:Bool}(dJ:w.cell? ⟨p,0,none⟩=some (.bool ub))(gA:w.frozen? ⟨p,0,none⟩=false)(EQ:w.cell? ⟨p,1,none⟩=some (.pointer (some ⟨dp,0,none⟩)))(fQ:p<w.heap.size)(FB:own p≠td)(hd:DiskAt own td w dp d)(hf:Fresh own w){f:Frm}(h:RecOk f){a:Option Addr}{n cap:Nat}(hs:EvSl w a n cap f.events)(hn:d.bytes.length<=1000000000):
  Calls prog 139 #[.pointer (some ⟨p,0,none⟩),Z8 f (.slice a n cap)] w (ZjN own td p 0 dp d (recBytes f) w):=by
 have cA:=(ZKr w).alloc (.cells (Za f (.slice a n cap)) 150);have fx:=hs.below cA.below;have sM:=ZH (ZjB h fx);have kX:=(Zbh h).1;obtain⟨HU,xx,Jb,HD,HF,df,JZ⟩:=ZH7 dJ gA EQ hd hf cA FB;clear dJ gA EQ hd hf cA hs fx h FB;go_enter func139,ntmps139;go_wp2_with fail;refine sM.out.mono ?_;rintro _ w1 ⟨v1,rfl,eh,bS⟩;have dE:=df.out.step bS;obtain⟨a1,c1,rfl,jF⟩:=Bytes.ab eh;have tB:w1.cell? ⟨p,1,none⟩=some (.pointer (some ⟨dp,0,none⟩)):=by rw[dE.cells p _ fQ];exact Jb.out
 obtain⟨cE,dV,zv⟩:=ZH3 dE jF tB;clear eh bS jF dE tB;go_wp2_with fail;refine(Zfq zv.out).mono ?_;rintro _ w2 ⟨rfl,bW⟩;have cm:Upd (· = td) own own w w2:=(ZUb cE.out.below HF.out).kept bW;have je:DiskAt own td w2 dp d:=by
  have hu:Upd (λ _=>False) own own w w2:=(ZUb cE.out.below HF.out).kept bW;exact HD.out.upd hu (λ h=>h)
 obtain⟨HW,dc⟩:=ZH2 (ZiF je cm.fresh (dV.out.kept bW (ZL _)) ZO hn) cm;clear cm je bW;go_wp2_with fail;refine HW.out.mono ?_;rintro _ w3 ⟨rfl,own',iO,cO⟩;have hu:=dc.out.trans cO;have cI:=hu.same p fQ JZ.out;have uB:w3.cell? ⟨p,0,none⟩=some (.bool ub):=(World.cell?_of_block (w:=w) (a:=⟨p,0,none⟩) cI).trans HU.out;have wB:w3.frozen? ⟨p,0,none⟩=false:=by
  have:=xx.out;simp only[World.frozen?,cI] at this ⊢;exact this
 have tU:p<w3.heap.size:=ZR fQ hu.size;obtain⟨ii,dI⟩:=ZH2 iO hu;clear iO cO hu cI;rcases iD:(d.write (recBytes f)).2 with _ | m
 ·go_wp2
  go_ret;exact⟨own',w3,dI.out,ii.out,by rw[if_pos iD];exact⟨rfl,rfl⟩⟩
 ·have hz:(((m+1:Nat):Int) != 0)=true:=ZP;have cK:(((m+1:Nat):Int)==0)=false:=ZP;go_wp2
  go_ret;exact⟨own',w3,dI.out,ii.out,by rw[if_neg ZO];exact⟨rfl,rfl⟩⟩
theorem ZnW{own:Own}{td p dp:Nat}{w:World}{d:Dk}{ub:Bool}(dJ:w.cell? ⟨p,7,none⟩=some (.bool ub))(gA:w.frozen? ⟨p,7,none⟩=false)(EQ:w.cell? ⟨p,8,none⟩=some (.pointer (some ⟨dp,0,none⟩)))(fQ:p<w.heap.size)(FB:own p≠td)(hd:DiskAt own td w dp d)(hf:Fresh own w){f:Frm}(h:RecOk f){a:Option Addr}{n cap:Nat}(hs:EvSl w a n cap f.events)(hn:d.bytes.length<=1000000000):
  Calls prog 68 #[.pointer (some ⟨p,0,none⟩),Z8 f (.slice a n cap)] w (ZjN own td p 7 dp d (recBytes f) w):=by
 have cA:=(ZKr w).alloc (.cells (Za f (.slice a n cap)) 150);have fx:=hs.below cA.below;have sM:=ZH (ZjB h fx);have kX:=(Zbh h).1;obtain⟨HU,xx,Jb,HD,HF,df,JZ⟩:=ZH7 dJ gA EQ hd hf cA FB;clear dJ gA EQ hd hf cA hs fx h FB;go_enter func68,ntmps68;go_wp2_with fail;refine sM.out.mono ?_;rintro _ w1 ⟨v1,rfl,eh,bS⟩;have dE:=df.out.step bS;obtain⟨a1,c1,rfl,jF⟩:=Bytes.ab eh;have tB:w1.cell? ⟨p,8,none⟩=some (.pointer (some ⟨dp,0,none⟩)):=by rw[dE.cells p _ fQ];exact Jb.out
 obtain⟨cE,dV,zv⟩:=ZH3 dE jF tB;clear eh bS jF dE tB;go_wp2_with fail;refine(ZeO zv.out).mono ?_;rintro _ w2 ⟨rfl,bW⟩;have cm:Upd (· = td) own own w w2:=(ZUb cE.out.below HF.out).kept bW;have je:DiskAt own td w2 dp d:=by
  have hu:Upd (λ _=>False) own own w w2:=(ZUb cE.out.below HF.out).kept bW;exact HD.out.upd hu (λ h=>h)
 obtain⟨HW,dc⟩:=ZH2 (ZiF je cm.fresh (dV.out.kept bW (ZL _)) ZO hn) cm;clear cm je bW;go_wp2_with fail;refine HW.out.mono ?_;rintro _ w3 ⟨rfl,own',iO,cO⟩;have hu:=dc.out.trans cO;have cI:=hu.same p fQ JZ.out;have uB:w3.cell? ⟨p,7,none⟩=some (.bool ub):=(World.cell?_of_block (w:=w) (a:=⟨p,7,none⟩) cI).trans HU.out;have wB:w3.frozen? ⟨p,7,none⟩=false:=by
  have:=xx.out;simp only[World.frozen?,cI] at this ⊢;exact this
 have tU:p<w3.heap.size:=ZR fQ hu.size;obtain⟨ii,dI⟩:=ZH2 iO hu;clear iO cO hu cI;rcases iD:(d.write (recBytes f)).2 with _ | m
 ·go_wp2
  go_ret;exact⟨own',w3,dI.out,ii.out,by rw[if_pos iD];exact⟨rfl,rfl⟩⟩
 ·have hz:(((m+1:Nat):Int) != 0)=true:=ZP;have cK:(((m+1:Nat):Int)==0)=false:=ZP;go_wp2
  go_ret;exact⟨own',w3,dI.out,ii.out,by rw[if_neg ZO];exact⟨rfl,rfl⟩⟩
section
def ZS(s:NodeSt)(f:Frm):NodeSt × Nat:=if (s.d.write (recBytes f)).2=0 then({ s with d:=(s.d.write (recBytes f)).1 },0) else({ s with d:=(s.d.write (recBytes f)).1,up:=false },18)
section
variable {own:Own}{t p r:Nat}{w:World}{c:Cfg}{s:NodeSt}
theorem ZeP(h:NodeAt own t w p c r s)(hf:Fresh own w){f:Frm}(eO:RecOk f){a:Option Addr}{n cap:Nat}(hs:EvSl w a n cap f.events)(hn:s.d.bytes.length<=1000000000):
  Calls prog 68 #[ptrV p,Z8 f (.slice a n cap)] w λ e w'=>e = .returned (.int .i64 (ZS s f).2)/\∃ own',NodeAt own' t w' p c r (ZS s f).1/\Upd (NodeT t) own own' w w':=by
 obtain⟨h1,dp,bp,ip,op,lv,h3,h4,h5,h6,h7,h8⟩:=h;refine(ZnW (ub:=s.up) (p:=p) (dp:=dp) (td:=t+1) (h3.cell 7) (h3.frozen 7) (h3.cell 8) h3.lt (by rw[h1];omega) h4 hf eO hs hn).mono ?_;rintro e w' ⟨own',w1,hu,hd,qw⟩;have ho:own' p=t:=(hu.old p h3.lt).trans h1;have hb:=h3.upd hu (by rw[h1];omega);have yV:Upd (NodeT t) own own' w w1:=hu.mono (λ m hm=>⟨ZO,ZO⟩);by_cases h0:(s.d.write (recBytes f)).2=0
 ·rw[if_pos h0] at qw;obtain⟨rfl,rfl⟩:=qw;have hw:ZS s f=({ s with d:=(s.d.write (recBytes f)).1 },0):=by unfold ZS;rw[if_pos h0]
  rw[hw];exact⟨rfl,own',⟨ho,dp,bp,ip,op,lv,hb,hd,h5.upd hu ZO,h6.upd hu ZO,h7.upd hu ZO,h8.upd hu ZO⟩,yV⟩
 ·rw[if_neg h0] at qw;obtain⟨rfl,rfl⟩:=qw;have hw:ZS s f=({ s with d:=(s.d.write (recBytes f)).1,up:=false },18):=by unfold ZS;rw[if_neg h0]
  rw[hw];have jF:Upd (· = t) own' own' w1 (w1.setCell ⟨p,7,none⟩ (.bool false)):=(Upd.refl (· = t) own' w1 hu.fresh).setCell (p:=⟨p,7,none⟩) (λ _=>ho) _;exact⟨rfl,own',⟨ho,dp,bp,ip,op,lv,hb.ai 7 _,hd.upd jF ZO,(h5.upd hu ZO).upd jF ZO,(h6.upd hu ZO).upd jF ZO,(h7.upd hu ZO).upd jF ZO,(h8.upd hu ZO).upd jF ZO⟩,yV.trans (jF.mono (λ m hm=>⟨ZO,ZO⟩))⟩
end
end
section
def Zbl(o:Option Frm × Nat)(w:World)(e:Ending)(w':World):Prop :=
 match o.1 with
 | some g=>∃ v,e = .returned (.tuple #[v,.int .i64 0])/\w'.ownsRow w.heap.size 5 1 v (Zk g).length (cells (Zk g))/\Below w.heap.size w w'
 | none=>e = .returned (.tuple #[.slice none 0 0,.int .i64 o.2])/\Below w.heap.size w w'
def ZbU(kind r:Nat)(c:Clk):Frm:=⟨kind,r,0,c,[]⟩
def Zdw(kind r:Nat)(s:NodeSt):Option Frm × Nat:=if s.up=true then(some (ZbU kind r s.clk),0) else(none,18)
def ZbM(r:Nat)(l:List Ev):Frm:=⟨1,r,0,ZCz,l⟩
def Zgj(c:Cfg)(r:Nat)(s:NodeSt):Option Frm × Nat:=if s.up=true then(if s.wait.length=0 then(none,24) else(some (ZbM r (s.wait.take c.w)),0)) else(none,18)
theorem Zm7{kind r:Nat}{c:Clk}(hk:kind=3∨kind=5)(hr:r<5)(hc:∀ i,c.get i<=1048576):(ZbU kind r c).Ok :=
 ⟨by simp[ZbU];omega,by simp[ZbU];omega,hr,by simp[ZbU],by simp[ZbU],hc,by simp[ZbU];omega,by simp[ZbU],by simp[ZbU],by simp[ZbU];omega,by simp[ZbU]⟩
theorem ZlA{r:Nat}{l:List Ev}(hr:r<5)(hl:l.length<=20)(h1:1<=l.length)(he:∀ e∈l,e.Ok/\e.r=r):(ZbM r l).Ok :=
 ⟨by simp[ZbM],by simp[ZbM],hr,by simp[ZbM],by simp[ZbM],λ i=>by simp[ZbM,ZbW],by simp[ZbM],λ e h=>(he e h).1,hl,λ _=>⟨h1,λ e h=>(he e h).2⟩,by simp[ZbM]⟩
section
variable {own:Own}{t p r:Nat}{w:World}{c:Cfg}{s:NodeSt}
theorem Zke(h:NodeAt own t w p c r s)(hf:Fresh own w)(kind:Nat)(hk:kind=3∨kind=5)(hr:r<5)(hc:∀ i,s.clk.get i<=1048576):
  Calls prog 76 #[ptrV p,.int .i64 kind] w (Zbl (Zdw kind r s) w):=by
 obtain⟨h1,dp,bp,ip,op,lv,h3,h4,h5,h6,h7,h8⟩:=h;obtain⟨c6,c7,c8,c9,cP,cR,dX,dY⟩:=h3.ag;have ce:=h3.lt;have dR:∀ (x:Bool) (w:World),(Op.unary .not (.bool x)).run prog w = .ok (.bool (!x)) w:=λ _ _=>rfl
 obtain⟨HB,HI,gN,HF⟩:=ZH4 h3 h7 (Zm7 hk hr hc) hf;clear h3 h4 h5 h6 h7 h8 hc hf;obtain⟨up,d,log,sent,book,clk,held,wait⟩:=s;rcases up with _ | _
 ·go_enter func76,ntmps76;go_wp2_with fail;go_ret2
  exact⟨rfl,ZW _ _⟩
 ·go_enter func76,ntmps76;go_wp2_with fail;refine ZSi [(0,3),(1,3),(2,0),(3,3),(4,0),(5,3),(6,0),(7,3),(8,0),(9,1),(10,3),(11,1),(12,3),(13,3),(14,3),(15,3)] λ bR=>?_
  repeat((first | refine ZSa ?_ | refine ZSb ?_ | (refine Zf rfl (by rfl) (λ w' ci=>by(obtain⟨c6,c7,c8,c9,cP,cR,dX,dY⟩:=(HB.out.ob ci.below).ag);go_simp;with_reducible rfl) ?_));simp only[Act.put,ZA,ZB,ZC])
  refine ZSd λ K hK=>?_
  go_simp;have dh:Upd (λ _=>False) own own w w.drew:=ZUb (ZW w.heap.size w).drew HF.out;refine(Zet (HI.out.upd dh (λ h=>h))).mono ?_;rintro _ w2 ⟨rfl,bW⟩;refine hK.out (λ w'=>Kept w.heap.size w w') _ _ (λ _ h=>h) (bR.step bW) (λ bT=>?_);clear hK K bR bW dh;repeat((first | refine ZSa ?_ | refine ZSb ?_ | refine ZSc ?_);simp only[Act.put,ZA,ZB,ZC])
  refine ZSd λ K hK=>?_
  go_simp;refine(Zfo gN.out (EvSl.nil _)).mono ?_;rintro _ w3 ⟨v3,rfl,ew,bZ⟩;have ep:=ZH (Zi ew bT.le);have cY:=bT.step bZ;refine hK.out (λ w'=>Kept w.heap.size w w'/\w'.ownsRow w.heap.size 5 1 v3 (Zk (ZbU kind r clk)).length (cells (Zk (ZbU kind r clk)))) _ _ (λ _ h=>h.1) ⟨cY,ep.out⟩ (λ oq=>?_);clear hK K bT ew bZ cY ep;repeat((first | refine ZSa ?_ | refine ZSb ?_ | refine ZSc ?_);simp only[Act.put,ZA,ZB,ZC])
  refine ZSf ?_;go_wp2_with fail;go_ret2
  exact⟨v3,rfl,oq.2,oq.1.below⟩
theorem ZnT(h:NodeAt own t w p c r s)(hf:Fresh own w)(hr:r<5)(hc:∀ i,s.clk.get i<=1048576):
  Calls prog 38 #[ptrV p] w (Zbl (Zdw 3 r s) w):=by
 have HT:=ZH (Zke h hf 3 ZO hr hc);clear h hf hc;go_enter func38,ntmps38;go_wp2_with fail;refine HT.out.mono ?_;intro e w2 hP;have HP:=ZH hP;unfold Zbl at hP;split at hP
 ·obtain⟨v,rfl,_⟩:=hP;go_wp2_with fail;go_ret2
  exact HP.out
 ·obtain⟨rfl,_⟩:=hP;go_wp2_with fail;go_ret2
  exact HP.out
theorem ZqA(h:NodeAt own t w p c r s)(hf:Fresh own w)(hr:r<5)(hc:∀ i,s.clk.get i<=1048576):
  Calls prog 39 #[ptrV p] w (Zbl (Zdw 5 r s) w):=by
 have HT:=ZH (Zke h hf 5 ZO hr hc);clear h hf hc;go_enter func39,ntmps39;go_wp2_with fail;refine HT.out.mono ?_;intro e w2 hP;have HP:=ZH hP;unfold Zbl at hP;split at hP
 ·obtain⟨v,rfl,_⟩:=hP;go_wp2_with fail;go_ret2
  exact HP.out
 ·obtain⟨rfl,_⟩:=hP;go_wp2_with fail;go_ret2
  exact HP.out
theorem Zpj(h:NodeAt own t w p c r s)(hf:Fresh own w)(hr:r<5)(hw:s.wait.length<=1000000)(OS:c.w<=4)(dl:1<=c.w)(he:∀ e∈s.wait,e.Ok/\e.r=r):
  Calls prog 37 #[ptrV p] w (Zbl (Zgj c r s) w):=by
 obtain⟨h1,dp,bp,ip,op,lv,h3,h4,h5,h6,h7,h8⟩:=h;obtain⟨c6,c7,c8,c9,cP,cR,dX,dY⟩:=h3.ag;have ce:=h3.lt;have dR:∀ (x:Bool) (w:World),(Op.unary .not (.bool x)).run prog w = .ok (.bool (!x)) w:=λ _ _=>rfl
 obtain⟨HB,HO,HF,HE,RJ,QR,ft⟩:=ZH7 h3 h8 hf he hw OS dl;clear h3 h4 h5 h6 h7 h8 hf he hw OS dl;obtain⟨up,d,log,sent,book,clk,held,wait⟩:=s;rcases up with _ | _
 ·go_enter func37,ntmps37;go_wp2_with fail;go_ret2
  exact⟨rfl,ZW _ _⟩
 ·go_enter func37,ntmps37;go_wp2_with fail;refine(Zn0 HO.out).mono ?_;rintro _ w1 ⟨rfl,bS⟩;have co:Upd (λ _=>False) own own w w1:=ZUb bS HF.out;obtain⟨cL,nZ,da,p9⟩:=ZH4 (HB.out.ob bS) (HO.out.upd co (λ h=>h)) co bS;clear bS co c6 c7 c8 c9 cP cR dX dY;by_cases h0:wait.length=0
  ·have hz:((wait.length:Int)==0)=true:=by simp[h0]
   have H0:=ZH h0;clear h0;go_wp2_with fail;go_ret2
   unfold Zbl Zgj;rw[if_pos rfl,if_pos H0.out];exact⟨rfl,p9.out⟩
  ·obtain⟨l,fc⟩:∃ l,l=wait.take c.w:=⟨_,rfl⟩;have hz:((wait.length:Int)==0)=false:=by simp;intro h;exact h0 (by simp[h])
   have gN:Hid (ZbM r (wait.take c.w)).Ok:=ZH (ZlA hr (by rw[ZV];have:=QR.out;omega) (by rw[ZV];have:=ft.out;omega) (λ e h=>HE.out e (List.mem_of_mem_take h)));rw[←fc] at gN;have Ho:=ZH fc;clear fc;have H0:=ZH h0;clear h0;go_wp2_with fail;refine ZSi [(0,3),(1,0),(2,3),(3,0),(4,3),(5,0),(6,3),(7,0),(8,1),(9,3),(10,1),(11,3),(12,3),(13,3),(14,3)] λ bR=>?_
   repeat((first | refine ZSa ?_ | refine ZSb ?_ | (refine Zf rfl (by rfl) (λ w' ci=>by(obtain⟨c6,c7,c8,c9,cP,cR,dX,dY⟩:=(cL.out.ob ci.below).ag);go_simp;with_reducible rfl) ?_));simp only[Act.put,ZA,ZB,ZC])
   refine ZSd λ K hK=>?_
   go_simp;have dh:Upd (λ _=>False) own own w1 w1.drew:=ZUb (ZW w1.heap.size w1).drew da.out.fresh;refine(Zlx (nZ.out.upd dh (λ h=>h)) RJ.out).mono ?_;rintro _ w2 ⟨v2,rfl,dC,bW⟩;rw[←Ho.out] at dC;obtain⟨a2,c2,rfl,jk⟩:=EvSl.ab dC;have mM:=dC;have eP:=ZH jk;have cJ:=bR.step bW;refine hK.out (λ w'=>Kept w2.heap.size w2 w'/\Kept w1.heap.size w1 w') _ _ (λ _ h=>h.2) ⟨ZKr _,cJ⟩ (λ bT=>?_);clear hK K bR bW dh cJ jk dC mM;repeat((first | refine ZSa ?_ | refine ZSb ?_ | refine ZSc ?_);simp only[Act.put,ZA,ZB,ZC])
   refine ZSd λ K hK=>?_
   go_simp;refine(Zfo gN.out eP.out).mono ?_;rintro _ w3 ⟨v3,rfl,ew,bZ⟩;have ep:=ZH (Zi ew bT.2.le);have cY:=bT.2.step bZ;have dr:=bT.1.step bZ;refine hK.out (λ w'=>Kept w2.heap.size w2 w'/\Kept w1.heap.size w1 w'/\w'.ownsRow w1.heap.size 5 1 v3 (Zk (ZbM r l)).length (cells (Zk (ZbM r l)))) _ _ (λ _ h=>⟨h.1,h.2.1⟩) ⟨dr,cY,ep.out⟩ (λ oq=>?_);clear hK K bT ew bZ cY dr ep;repeat((first | refine ZSa ?_ | refine ZSb ?_ | refine ZSc ?_);simp only[Act.put,ZA,ZB,ZC])
   refine ZSf ?_;go_wp2_with fail;go_ret2
   unfold Zbl Zgj;rw[if_pos rfl,if_neg H0.out,←Ho.out];exact⟨v3,rfl,Zi oq.2.2 da.out.size,p9.out.trans (oq.2.1.below.mono da.out.size)⟩
end
end
section
def ZbG(r:Nat)(s:NodeSt):Frm:=⟨4,r,s.sent,ZCz,s.log⟩
def Zfj(r:Nat)(s:NodeSt):NodeSt × Nat:=if s.up=true then ZS s (ZbG r s) else(s,18)
section
variable {own:Own}{t p r:Nat}{w:World}{c:Cfg}{s:NodeSt}
theorem ZlS(hr:r<5)(hs:s.sent<=1048576)(he:∀ e∈s.log,e.Ok)(hl:s.log.length<=1000):RecOk (ZbG r s) :=
 ⟨by simp[ZbG],by simp[ZbG],hr,hs,by simp[ZbG],λ i=>by simp[ZbG,ZbW],by simp[ZbG],he,hl,by simp[ZbG],by simp[ZbG]⟩
theorem ZnV(h:NodeAt own t w p c r s)(hf:Fresh own w)(hr:r<5)(hs:s.sent<=1048576)(he:∀ e∈s.log,e.Ok)(hl:s.log.length<=1000)(hn:s.d.bytes.length<=1000000000):
  Calls prog 40 #[ptrV p] w λ e w'=>e = .returned (.int .i64 (Zfj r s).2)/\∃ own',NodeAt own' t w' p c r (Zfj r s).1/\Upd (NodeT t) own own' w w':=by
 obtain⟨ra,HF,HN,j6⟩:=ZH4 (ZlS (r:=r) hr hs he hl) hf h hn;obtain⟨h1,dp,bp,ip,op,lv,h3,h4,h5,h6,h7,h8⟩:=h;obtain⟨al,cl,rfl,eD⟩:=EvSl.ab h5.row;obtain⟨c6,c7,c8,c9,cP,cR,dX,dY⟩:=h3.ag;have ce:=h3.lt;have dR:∀ (x:Bool) (w:World),(Op.unary .not (.bool x)).run prog w = .ok (.bool (!x)) w:=λ _ _=>rfl
 have pI:decide ((s.log.length:Int)>4096)=false:=ZP;have hbig2:¬ (4096:Int)<(s.log.length:Int):=ZO;obtain⟨HB,iZ⟩:=ZH2 h3 eD;clear h1 h3 h4 h5 h6 h7 h8 eD hf he hn;obtain⟨up,d,log,sent,book,clk,held,wait⟩:=s;rcases up with _ | _
 ·go_enter func40,ntmps40;go_wp2
  go_ret;exact⟨rfl,own,HN.out,ZUb (ZW _ _) HF.out⟩
 ·go_enter func40,ntmps40;go_wp2_with fail;refine ZSi [(0,3),(1,3),(2,0),(3,3),(4,0),(5,3),(6,0),(7,3),(8,0),(9,3),(10,0),(11,3),(12,0),(13,3),(14,2),(15,3)] λ bR=>?_
  repeat((first | refine ZSa ?_ | refine ZSb ?_ | (refine Zf rfl (by rfl) (λ w' ci=>by(obtain⟨c6,c7,c8,c9,cP,cR,dX,dY⟩:=(HB.out.ob ci.below).ag);go_simp;with_reducible rfl) ?_));simp only[Act.put,ZA,ZB,ZC])
  refine ZSe λ K hK=>?_
  go_simp;have dh:Upd (λ _=>False) own own w w.drew:=ZUb (ZW w.heap.size w).drew HF.out;refine(ZeP (HN.out.upd dh (λ _ _ h=>h)) dh.fresh ra.out (iZ.out.below (ZW w.heap.size w).drew) j6.out).mono ?_;rintro _ w3 ⟨rfl,ey,jj,cO⟩;obtain⟨qg,dI⟩:=ZH2 jj ((dh.mono (T':=NodeT t) (λ n h=>h.elim)).trans cO);refine hK.out _ _ ?_;clear hK K bR dh jj cO;repeat((first | refine ZSa ?_ | refine ZSb ?_ | refine ZSc ?_);simp only[Act.put,ZA,ZB,ZC])
  refine ZSf ?_;go_wp2
  go_ret;exact⟨rfl,ey,qg.out,dI.out⟩
end
end
section
def ZaD(r u:Nat):Frm:=⟨3,r,u,ZCz,[]⟩
def ZaU(r:Nat)(s:NodeSt)(upto:Nat):Nat:=max s.sent (min upto (s.clk.get r))
def Zc9(r:Nat)(s:NodeSt)(upto:Nat):NodeSt × Nat :=
 if ZaU r s upto=s.sent then(s,0) else
  if (ZS s (ZaD r (ZaU r s upto))).2=0 then({ (ZS s (ZaD r (ZaU r s upto))).1 with sent:=ZaU r s upto,wait:=s.wait.drop (ZaU r s upto-s.sent) },0) else ZS s (ZaD r (ZaU r s upto))
theorem ZcF(s:NodeSt)(f:Frm):(ZS s f).1.log=s.log/\(ZS s f).1.sent=s.sent/\(ZS s f).1.book=s.book/\(ZS s f).1.clk=s.clk/\(ZS s f).1.held=s.held/\(ZS s f).1.wait=s.wait:=by
 unfold ZS;split <;> exact⟨rfl,rfl,rfl,rfl,rfl,rfl⟩
theorem ZfC(s:NodeSt)(f:Frm):(ZS s f).2=0∨(ZS s f).2=18:=by
 unfold ZS;split
 ·exact .inl rfl
 ·exact .inr rfl
section
variable {own:Own}{t p r:Nat}{w:World}{c:Cfg}{s:NodeSt}
theorem Zm4{u:Nat}(hr:r<5)(hs:u<=1048576):RecOk (ZaD r u) :=
 ⟨by simp[ZaD],by simp[ZaD],hr,hs,by simp[ZaD],λ i=>by simp[ZaD,ZbW],by simp[ZaD],by simp[ZaD],by simp[ZaD],by simp[ZaD],by simp[ZaD]⟩
theorem Zmr(h:NodeAt own t w p c r s)(hf:Fresh own w)(hr:r<5)(upto:Nat)(hw:s.clk.get r<=s.sent+s.wait.length)(hc:s.clk.get r<=1000000)(hs:s.sent<=1000000)(hu:upto<=1048576)(xj:s.wait.length<=1000000)(hn:s.d.bytes.length<=1000000000):
  Calls prog 96 #[ptrV p,.int .i64 upto] w λ e w'=>e = .returned (.int .i64 (Zc9 r s upto).2)/\∃ own',NodeAt own' t w' p c r (Zc9 r s upto).1/\Upd (NodeT t) own own' w w':=by
 have FV:=Zm4 (r:=r) (u:=ZaU r s upto) hr (by unfold ZaU;omega);obtain⟨ra,HF,HN,j6⟩:=ZH4 FV hf h hn;obtain⟨h1,dp,bp,ip,op,lv,h3,h4,h5,h6,h7,h8⟩:=h;obtain⟨al,cl,rfl,eD⟩:=EvSl.ab h5.row;obtain⟨c6,c7,c8,c9,cP,cR,dX,dY⟩:=h3.ag;have ce:=h3.lt;obtain⟨HB,HI⟩:=ZH2 h3 h7;have jK:=Zah s.clk r hr;obtain⟨u,hu⟩:∃ u,u=ZaU r s upto:=⟨_,rfl⟩;have Cd:max (s.sent:Int) (min (upto:Int) (s.clk.get r:Int))=(u:Int):=by rw[hu];unfold ZaU;omega
 have xQ:=ZH hu;have hsu:s.sent<=u:=by rw[hu];unfold ZaU;omega
 have hub:u<=1000000:=by rw[hu];unfold ZaU;omega
 have uN:u≠s.sent->u-s.sent<=s.wait.length:=by rw[hu];unfold ZaU;omega
 clear h1 h3 h4 h5 h6 h7 h8 eD hf hn FV hu;go_enter func96,ntmps96;go_wp2_with fail;refine ZSi [(0,3),(1,0),(2,3),(3,0),(4,3),(5,3),(6,0),(7,3),(8,0),(10,3),(11,0),(12,3),(13,0),(9,1),(14,0),(15,3),(16,3),(17,3)] λ bR=>?_
 repeat((first | refine ZSa ?_ | refine ZSb ?_ | (refine Zf rfl (by rfl) (λ w' ci=>by(obtain⟨c6,c7,c8,c9,cP,cR,dX,dY⟩:=(HB.out.ob ci.below).ag);go_simp;with_reducible rfl) ?_));simp only[Act.put,ZA,ZB,ZC])
 refine ZSd λ K hK=>?_
 go_simp;have dh:Upd (λ _=>False) own own w w.drew:=ZUb (ZW w.heap.size w).drew HF.out;refine(Zet (HI.out.upd dh (λ h=>h))).mono ?_;rintro _ w2 ⟨rfl,bW⟩;refine hK.out (λ w'=>Kept w.heap.size w w') _ _ (λ _ h=>h) (bR.step bW) (λ bT=>?_);clear hK K bR bW dh;repeat((first | refine ZSa ?_ | refine ZSb ?_ | (refine Zf rfl (by rfl) (λ w' ci=>by(obtain⟨c6,c7,c8,c9,cP,cR,dX,dY⟩:=(HB.out.ob ci.below).ag);go_simp;with_reducible rfl) ?_));simp only[Act.put,ZA,ZB,ZC])
 refine ZSf ?_;clear c6 c7 c8 c9 cP cR dX dY;have bW:=bT.below;have cm:Upd (λ _=>False) own own w w2:=ZUb bW HF.out;obtain⟨us,dc⟩:=ZH2 (HN.out.upd cm (λ _ _ h=>h)) cm;obtain⟨c6,c7,c8,c9,cP,cR,dX,dY⟩:=(HB.out.ob bW).ag;have mM:=(HB.out.ob bW).lt;clear bW cm bT;by_cases hq:u=s.sent
 ·have hz:((u:Int)==(s.sent:Int))=true:=by simp[hq]
  have hp:Zc9 r s upto=(s,0):=by unfold Zc9;rw[if_pos (xQ.out▸hq)]
  have HP:=ZH hp;clear hp hq;go_wp2
  go_ret;rw[HP.out];exact⟨rfl,own,us.out,dc.out.mono (λ n h=>h.elim)⟩
 ·have hz:((u:Int)==(s.sent:Int))=false:=ZP;have Ho:=ZH (uN hq);have nD:=ZeP us.out dc.out.fresh ra.out (EvSl.nil _) j6.out;rw[←xQ.out] at nD;have hp:Zc9 r s upto=if (ZS s (ZaD r u)).2=0 then({ (ZS s (ZaD r u)).1 with sent:=u,wait:=s.wait.drop (u-s.sent) },0) else ZS s (ZaD r u):=by unfold Zc9;rw[if_neg (xQ.out▸hq),←xQ.out]
  obtain⟨HP,BS⟩:=ZH2 hp nD;have Mz:s.sent<u:=ZO;clear hp nD hq uN;go_wp2_with fail;refine BS.out.mono ?_;rintro _ w3 ⟨rfl,ey,jj,cO⟩;obtain⟨k1,k2,k3,k4,k5,k6⟩:=ZcF s (ZaD r u);rcases ZfC s (ZaD r u) with dW | dW
  ·obtain⟨g1,RX,RN,Ti,To,Tk,g3,g4,g5,g6,g7,g8⟩:=jj;rw[k2,k6] at g8;obtain⟨b6,b7,b8,b9,NV,NW,b12,b13⟩:=g3.ag;have wH:=g3.lt;obtain⟨NI,BN,Hi,Nk,ur,qf,dI,mc⟩:=ZH8 (Zmu g8 cO.fresh ZO Mz Ho.out hs) g3 g4 g5 g6 g7 cO dW;have EO:(((ZS s (ZaD r u)).2:Int) != 0)=false:=by simp[dW]
   clear g3 g4 g5 g6 g7 g8 cO dW k1 k2 k3 k4 k5 k6;go_wp2_with fail;refine NI.out.mono ?_;rintro _ w4 ⟨rfl,gL,dS⟩;have cz:=BN.out.upd dS (by rw[g1];omega);have iJ:=cz.cell 10;have f10:=cz.frozen 10;have wI:=cz.lt;simp only[ZD,ZE,ZG] at iJ;have ny:Upd (· = t) ey ey w4 (w4.setCell ⟨p,10,none⟩ (.int .i64 (u:Int))):=(Upd.refl (· = t) ey w4 dS.fresh).setCell (p:=⟨p,10,none⟩) (λ _=>g1) _;have dx:NodeAt ey t (w4.setCell ⟨p,10,none⟩ (.int .i64 (u:Int))) p c r { (ZS s (ZaD r u)).1 with sent:=u,wait:=s.wait.drop (u-s.sent) } :=
    ⟨g1,RX,RN,Ti,To,Tk,cz.ai 10 _,(Hi.out.upd dS ZO).upd ny ZO,(Nk.out.upd dS ZO).upd ny ZO,(ur.out.upd dS ZO).upd ny ZO,(qf.out.upd dS ZO).upd ny ZO,gL.upd ny ZO⟩
   have sQ:Hid (Upd (NodeT t) own ey w (w4.setCell ⟨p,10,none⟩ (.int .i64 (u:Int)))):=ZH ((((dc.out.mono (T':=NodeT t) (λ n h=>h.elim)).trans dI.out).trans (dS.mono (T':=NodeT t) (λ m hm=>⟨ZO,ZO⟩))).trans (ny.mono (T':=NodeT t) (λ m hm=>⟨ZO,ZO⟩)));have qT:=ZH dx;clear cz ny dx gL dS BN Hi Nk ur qf NI;go_wp2
   go_ret;rw[HP.out,if_pos mc.out];exact⟨rfl,ey,qT.out,sQ.out⟩
  ·have EO:(((ZS s (ZaD r u)).2:Int) != 0)=true:=by simp[dW]
   obtain⟨qg,dI,mc⟩:=ZH3 jj cO dW;clear jj cO dW k1 k2 k3 k4 k5 k6;go_wp2
   go_ret;rw[HP.out,if_neg (by rw[mc.out];omega)];exact⟨rfl,ey,qg.out,(dc.out.mono (T':=NodeT t) (λ n h=>h.elim)).trans dI.out⟩
end
end
section
def ZaN(r:Nat)(l:List Ev):Frm:=⟨2,r,0,ZCz,l⟩
def ZcM(s:NodeSt)(l:List Ev):NodeSt:={ s with clk:=(drained s.clk (s.held++l)).2.2,held:=Zdg s.clk (s.held++l) }
def Zc8(c:Cfg)(r:Nat)(s:NodeSt)(l:List Ev):NodeSt × Nat :=
 if c.h<(Zdg s.clk (s.held++l)).length then(s,22) else
  if (drained s.clk (s.held++l)).1=[] then(ZcM s l,0) else
   if (ZS (ZcM s l) (ZaN r (drained s.clk (s.held++l)).1)).2=0 then(ZcR (ZS (ZcM s l) (ZaN r (drained s.clk (s.held++l)).1)).1 (drained s.clk (s.held++l)).1,0) else ZS (ZcM s l) (ZaN r (drained s.clk (s.held++l)).1)
section
variable {own:Own}{t p r:Nat}{w:World}{c:Cfg}{s:NodeSt}
theorem Zm6{l:List Ev}(hr:r<5)(he:∀ e∈l,e.Ok)(hl:l.length<=1000):RecOk (ZaN r l) :=
 ⟨by simp[ZaN],by simp[ZaN],hr,by simp[ZaN],by simp[ZaN],λ i=>by simp[ZaN,ZbW],by simp[ZaN],he,hl,by simp[ZaN],by simp[ZaN]⟩
theorem Zmq(ht:0<t)(h:NodeAt own t w p c r s)(hf:Fresh own w)(hr:r<5){l:List Ev}{a:Option Addr}{n cap:Nat}(eD:EvSl w a n cap l)(hl:∀ e∈s.held++l,e.Ok)(hc:∀ i,s.clk.get i+(s.held.length+n)<=1000000)(jJ:(drained s.clk (s.held++l)).1.length<=1000)(Lp:∀ e∈(drained s.clk (s.held++l)).1,e.Ok){N:Nat}(i4:BookInv N s.book)(hN:N<=90000)(pQ:s.log.length<=100000)(hn:s.d.bytes.length<=1000000000):
  Calls prog 97 #[ptrV p,.slice a n cap] w λ e w'=>e = .returned (.int .i64 (Zc8 c r s l).2)/\∃ own',NodeAt own' t w' p c r (Zc8 c r s l).1/\Upd (NodeT t) own own' w w':=by
 obtain⟨ra,HN,HF,j6⟩:=ZH4 (Zm6 (r:=r) hr Lp jJ) h hf hn;obtain⟨h1,dp,bp,ip,op,lv,h3,h4,h5,h6,h7,h8⟩:=h;obtain⟨c6,c7,c8,c9,cP,cR,dX,dY⟩:=h3.ag;have ce:=h3.lt;have hit:=ZnH h7 hf eD (λ e he=>by have:=hl e he;exact⟨this.r,this.n1⟩) hc;obtain⟨HM,HB,HD,sF,HK,HI,HO,Hm,qM⟩:=ZH9 h1 h3 h4 h5 h6 h7 h8 hit i4;obtain⟨Ng,nY⟩:=ZH2 Lp jJ;clear h1 h3 h4 h5 h6 h7 h8 eD hf hl hit i4 Lp jJ hn;go_enter func97,ntmps97;go_wp2_with fail;refine Hm.out.mono ?_;rintro _ w1 (⟨pI,rfl,bS⟩|⟨cI,v,cF,rfl,cB,uG,co⟩)
 ·have hp:Zc8 c r s l=(s,22):=by unfold Zc8;rw[if_pos pI]
  have co:Upd (λ _=>False) own own w w1:=ZUb bS HF.out;obtain⟨HP,da⟩:=ZH2 hp co;clear pI bS hp co;go_wp2
  go_ret;rw[HP.out];exact⟨rfl,own,(HN.out.upd da.out (λ _ _ h=>h)),da.out.mono (λ n h=>h.elim)⟩
 ·obtain⟨D,hD⟩:∃ D,D=(drained s.clk (s.held++l)).1:=⟨_,rfl⟩;have xd:NodeAt cF t w1 p c r (ZcM s l) :=
   ⟨(co.old p ce).trans HM.out,dp,bp,ip,op,lv,HB.out.upd co (by rw[HM.out];omega),HD.out.upd co ZO,sF.out.upd co ZO,HK.out.upd co ZO,uG,HO.out.upd co ZO⟩
  have hp:Zc8 c r s l=if D=[] then(ZcM s l,0) else if (ZS (ZcM s l) (ZaN r D)).2=0 then(ZcR (ZS (ZcM s l) (ZaN r D)).1 D,0) else ZS (ZcM s l) (ZaN r D):=by unfold Zc8;rw[if_neg ZO,hD]
  rw[←hD] at cB;rw[←hD] at ra Ng nY;obtain⟨av,cv,rfl,nS⟩:=cB.loose;have bS:=HB.out.upd co (by rw[HM.out];omega);obtain⟨d6,d7,d8,d9,xV,sZ,d12,d13⟩:=bS.ag;have mL:=bS.lt;obtain⟨HP,NQ,da,Nz⟩:=ZH4 hp xd (co.mono (T':=NodeT t) (λ m hm=>⟨ZO,ZO⟩)) nS;clear hD hp xd co nS cB uG bS cI HB HD sF HK HI HO;by_cases hd:D=[]
  ·have hz:((D.length:Int)==0)=true:=by simp[hd]
   have He:=ZH hd;clear hd;go_wp2
   go_ret;rw[HP.out,if_pos He.out];exact⟨rfl,cF,NQ.out,da.out⟩
  ·have eL:D.length≠0:=λ h=>hd (List.eq_nil_of_length_eq_zero h)
   have hz:((D.length:Int)==0)=false:=by simp[hd]
   obtain⟨BS,He⟩:=ZH2 (ZeP NQ.out da.out.fresh ra.out Nz.out.sl j6.out) hd;clear hd;go_wp2_with fail;refine BS.out.mono ?_;rintro _ w3 ⟨rfl,ey,jj,cO⟩;obtain⟨k1,k2,k3,k4,k5,k6⟩:=ZcF (ZcM s l) (ZaN r D);obtain⟨qg,dI⟩:=ZH2 jj cO;rcases ZfC (ZcM s l) (ZaN r D) with dW | dW
   ·have EO:(((ZS (ZcM s l) (ZaN r D)).2:Int) != 0)=false:=by simp[dW]
    have E9:=Nz.out.upd cO (λ h=>by obtain⟨h,_⟩:=h;omega);have jJ:=nY.out;have OV:=Zg6 ht jj cO.fresh (N:=N) (by rw[k3];exact qM.out) ZO E9 Ng.out (by rw[k1];exact pQ);obtain⟨Hf,mc⟩:=ZH2 OV dW;clear E9 OV dW jj cO k1 k2 k3 k4 k5 k6 jJ;go_wp2_with fail;refine Hf.out.mono ?_;rintro _ w4 ⟨rfl,dG,qC,dS⟩;obtain⟨zI,fF⟩:=ZH2 qC dS;clear qC dS;go_wp2
    go_ret;rw[HP.out,if_neg He.out,if_pos mc.out];exact⟨rfl,dG,zI.out,(da.out.trans dI.out).trans fF.out⟩
   ·have EO:(((ZS (ZcM s l) (ZaN r D)).2:Int) != 0)=true:=by simp[dW]
    have mc:=ZH dW;clear dW jj cO k1 k2 k3 k4 k5 k6;go_wp2
    go_ret;rw[HP.out,if_neg He.out,if_neg (by rw[mc.out];omega)];exact⟨rfl,ey,qg.out,da.out.trans dI.out⟩
end
end
section
abbrev PostSt:=List Sh × List Clk
def initSt(c:Cfg):PostSt:=(List.replicate c.n ⟨0,[]⟩,List.replicate c.n ZCz)
def ZbO(most:Nat)(st:PostSt)(f:Frm):PostSt :=
 if f.kind=5 then((Z7 most f.r f.events st.1 st.2).2.2,st.2)
 else if f.kind=6 then(ZaE st.1 (st.2.set f.r ((st.2.getD f.r ZCz).join f.clock)) st.1.length,st.2.set f.r ((st.2.getD f.r ZCz).join f.clock)) else st
def ZbH(most:Nat)(st:PostSt)(rs:List Frm):PostSt:=rs.foldl (ZbO most) st
structure PostOk(N most:Nat)(st:PostSt):Prop where
 len:st.1.length=N
 len2:st.2.length=N
 kept:∀ s∈st.1,s.kept.length<=most/\s.base<=100000
 told:∀ x∈st.2,∀ i,x.get i<=1048576
structure NextOk(st:PostSt)(f:Frm):Prop where
 r:f.r<st.1.length
 kind:f.kind=5∨f.kind=6
 push:f.kind=5->∃ n0 x,st.1[f.r]? = some x/\From1 n0 f.events/\n0<=x.base+x.kept.length+1/\∀ e∈f.events,e.r=f.r
def ReplayOk(N most:Nat):PostSt->List Frm->Prop
 | st,[]=>PostOk N most st
 | st,f::rs=>PostOk N most st/\NextOk st f/\ReplayOk N most (ZbO most st f) rs
theorem ReplayOk.at_{N most:Nat}:∀ {rs:List Frm} {st:PostSt} (q:Nat) (f:Frm),ReplayOk N most st rs->rs[q]? = some f->PostOk N most (ZbH most st (rs.take q))/\NextOk (ZbH most st (rs.take q)) f
 | [],_,q,f,_,h=>by simp at h
 | g::rs,st,0,f,hr,h=>by
  simp at h;subst h;exact⟨hr.1,hr.2.1⟩
 | g::rs,st,q+1,f,hr,h=>by
  have:=ReplayOk.at_ q f hr.2.2 (by simpa using h);simpa [ZbH] using this
theorem ReplayOk.end_{N most:Nat}:∀ {rs:List Frm} {st:PostSt},ReplayOk N most st rs->PostOk N most (ZbH most st rs)
 | [],_,h=>h
 | _::rs,_,h=>ReplayOk.end_ (rs:=rs) h.2.2
theorem ZlK(most:Nat)(st:PostSt){rs:List Frm}{q:Nat}{f:Frm}(h:rs[q]? = some f):ZbH most st (rs.take (q+1))=ZbO most (ZbH most st (rs.take q)) f:=by
 unfold ZbH;rw[List.take_add_one,h];simp
theorem Zfh:∀ (ps:List (Frm × Value)) (i j:Nat) (p:Frm × Value),ps[i]? = some p->j<9->(recCells ps)[i*9+j]? = (Za p.1 p.2)[j]?
 | [],i,j,e,h,_=>by simp at h
 | x::ps,0,j,e,h,hj=>by
  simp at h;subst h;simp only[recCells,List.flatMap_cons,Nat.zero_mul,Nat.zero_add];rw[List.getElem?_append_left ZP];simp
 | x::ps,i+1,j,e,h,hj=>by
  have ih:=Zfh ps i j e (by simpa using h) hj;rw[←ih];simp only[recCells,List.flatMap_cons];rw[List.getElem?_append_right ZP];congr 1;simp;omega
theorem Zhb(ps:List (Frm × Value)):(recCells ps).length=ps.length*9:=by
 induction ps with
 | nil=>rfl
 | cons e es ih =>
  simp only[recCells,List.flatMap_cons,ZI] at ih ⊢;rw[ih];simp;omega
structure RecLoose(own:Own)(w:World)(v:Value)(rs:List Frm)(ps:List (Frm × Value)):Prop where
 rows:RecRows 0 w v rs ps
 o1:∀ g,v.ownBlock=some g->own g=0
 o2:∀ x∈ps,∀ g,x.2.ownBlock=some g->own g=0
section
variable {own own':Own}{w w':World}{v:Value}{rs:List Frm}{ps:List (Frm × Value)}{T:Nat->Prop}
theorem RecLoose.upd(h:RecLoose own w v rs ps)(hu:Upd T own own' w w')(h0:¬ T 0):RecLoose own' w' v rs ps :=
 ⟨⟨h.rows.is_,Zh h.rows.row (λ g hg hl=>hu.same g hl (by rw[h.o1 g hg];exact h0)),λ x hx=>Zh (h.rows.evs x hx) (λ g hg hl=>hu.same g hl (by rw[h.o2 x hx g hg];exact h0))⟩,
  λ g hg=>by rw[hu.old g (Zb h.rows.row hg).2];exact h.o1 g hg,λ x hx g hg=>by rw[hu.old g (Zb (h.rows.evs x hx) hg).2];exact h.o2 x hx g hg⟩
theorem RecLoose.at_(h:RecLoose own w v rs ps){q:Nat}{f:Frm}(hf:rs[q]? = some f):∃ b a n c av,v = .slice (some ⟨b,0,none⟩) rs.length c/\b<w.heap.size/\EvSl w a n av f.events/\n=f.events.length /\
  (∀ j,j<9->w.cell? ⟨b,q*9+j,none⟩=(Za f (.slice a n av))[j]?):=by
 have hq:=(ZZ.1 hf).1;obtain⟨a0,c0,rfl⟩:=Zs h.rows.row;obtain⟨g,hg,eB,bU⟩:=Zby h.rows.row ZO;have fQ:ps.length=rs.length:=by rw[←h.rows.is_];simp
 obtain⟨p,hp⟩:∃ p,ps[q]? = some p:=⟨_,ZX ZO⟩;have yK:p.1=f:=by
  have:=h.rows.is_;have h2:(ps.map (·.1))[q]? = some p.1:=by rw[List.getElem?_map,hp];rfl
  rw[this,hf] at h2;injection h2 with h2;exact h2.symm
 obtain⟨av,cv,hv,eD⟩:=EvSl.ab (h.rows.evs p (ZY hp));rw[yK] at hv eD;refine⟨g,av,_,c0,cv,by rw[hg],eB,eD,rfl,λ j hj=>?_⟩;rw[bU _ (by rw[Zhb];omega),Zfh ps q j p hp hj,yK,hv]
end
end
theorem ZgX{α : Type}{l:List α}(h:l.length=5):∃ a0 a1 a2 a3 a4,l=[a0,a1,a2,a3,a4]:=by
 match l,h with
 | [a0,a1,a2,a3,a4],_=>exact⟨a0,a1,a2,a3,a4,rfl⟩
theorem ZrN(b l:Clk){acks:List Clk}(h:acks.length=5)(w:World):(Instr.field 56 (Zc4 true b l acks) 2).run prog w = .ok (Za2 l) w:=by
 obtain⟨a0,a1,a2,a3,a4,rfl⟩:=ZgX h;kernel_rfl
theorem Zlf(b l:Clk){acks:List Clk}(h:acks.length=5)(w:World):(Instr.field 56 (Zc4 true b l acks) 3).run prog w = .ok (.agg (clkCells acks).toArray) w:=by
 obtain⟨a0,a1,a2,a3,a4,rfl⟩:=ZgX h;kernel_rfl
theorem Zlk{acks:List Clk}(h:acks.length=5){r:Nat}(hr:r<5)(w:World):(Instr.index 54 (.agg (clkCells acks).toArray) (.int .i64 (r:Int))).run prog w = .ok (Za2 (acks.getD r ZCz)) w:=by
 obtain⟨a0,a1,a2,a3,a4,rfl⟩:=ZgX h;rcases(by omega:r=0∨r=1∨r=2∨r=3∨r=4) with rfl | rfl | rfl | rfl | rfl <;> kernel_rfl
theorem ZhD{told:List Clk}{r:Nat}(hr:r<told.length):(Za9 told).getD r ZCz=told.getD r ZCz:=by
 unfold Za9;simp only[List.getD];rw[List.getElem?_append_left hr]
def ZaL(r u:Nat):Frm:=⟨2,r,u,ZCz,[]⟩
theorem Zfr{r u:Nat}(hr:r<5)(hu:u<=1048576):(ZaL r u).Ok :=
 ⟨by simp[ZaL],by simp[ZaL],hr,hu,by simp[ZaL],λ i=>by simp[ZaL,ZbW],by simp[ZaL],by simp[ZaL],by simp[ZaL],by simp[ZaL],by simp[ZaL]⟩
def ZaC(f:Frm):Frm:=⟨5,f.r,0,ZCz,f.events⟩
theorem Zi2{f:Frm}(h:f.Ok):RecOk (ZaC f) :=
 ⟨by simp[ZaC],by simp[ZaC],h.r,by simp[ZaC],by simp[ZaC],λ i=>by simp[ZaC,ZbW],by simp[ZaC],h.events,by have:=h.len;simp[ZaC];omega,by simp[ZaC],by simp[ZaC]⟩
def Znb(own':Own)(to:Nat)(g:Frm)(w:World)(r:Ending)(w':World):Prop :=
 ∃ v,r = .returned (.tuple #[.int .i64 to,v,.int .i64 0])/\w'.ownsRow w.heap.size 5 1 v (Zk g).length (cells (Zk g))/\∀ b,v.ownBlock=some b->own' b=0
def Zjj(e:Nat)(r:Ending):Prop:=r = .returned (.tuple #[.int .i64 (-1),.slice none 0 0,.int .i64 (e:Int)])
def ZkS(own:Own)(t p:Nat)(c:Cfg)(d:Dk)(sh:List Sh)(told:List Clk)(f:Frm)(w:World)(r:Ending)(w':World):Prop :=
 ∃ own',Upd (HubT t) own own' w w' /\
  if (Z7 c.w f.r f.events sh told).2.1≠0 then Zjj (Z7 c.w f.r f.events sh told).2.1 r/\HubAt own' t w' p c true d (Z7 c.w f.r f.events sh told).2.2 told
  else if (Z7 c.w f.r f.events sh told).1=(lenOf sh).get f.r then Znb own' f.r (ZaL f.r (Z7 c.w f.r f.events sh told).1) w r w'/\HubAt own' t w' p c true d (Z7 c.w f.r f.events sh told).2.2 told
  else if (d.write (recBytes (ZaC f))).2=0 then Znb own' f.r (ZaL f.r (Z7 c.w f.r f.events sh told).1) w r w'/\HubAt own' t w' p c true (d.write (recBytes (ZaC f))).1 (Z7 c.w f.r f.events sh told).2.2 told
  else Zjj 18 r/\HubAt own' t w' p c false (d.write (recBytes (ZaC f))).1 (Z7 c.w f.r f.events sh told).2.2 told
theorem ZjA{most r:Nat}{l:List Ev}{sh:List Sh}{told:List Clk}(h:∀ s∈sh,s.kept.length<=most/\s.base<=100000)(hm:most<=4):(Z7 most r l sh told).1<=200000/\(Z7 most r l sh told).2.2.length=sh.length:=by
 unfold Z7
 cases hx:sh[r]? with
 | none=>exact⟨ZM,rfl⟩
 | some x =>
  simp only;have hb:=h x (ZY hx);have hp:=ZhZ (base:=x.base) (l:=l) hb.1;split
  ·refine⟨?_,ZM⟩;have hlen:(Z1 most x.base x.kept l).2.length<=4:=by
    rcases hp with ⟨_,h2⟩|⟨_,h2⟩
    ·omega
    ·rw[h2];omega
   simp only[cutSh,List.length_drop];unfold Zbo;omega
  ·exact⟨ZM,rfl⟩
theorem Zqk{own:Own}{t p:Nat}{w:World}{c:Cfg}{d:Dk}{sh:List Sh}{told:List Clk}(ht:0<t)(h:HubAt own t w p c true d sh told)(hf:Fresh own w)(hc:c.Ok)(pV:PostOk c.n c.w (sh,told))(f:Frm)(eO:f.Ok)(dE:f.kind=1)(l8:NextOk (sh,told) ⟨5,f.r,0,ZCz,f.events⟩){a:Option Addr}{n cap:Nat}(hs:Loose own w a n cap f.events)(hd:d.bytes.length<=1000000000):
  Calls prog 93 #[.pointer (some ⟨p,0,none⟩),Z8 f (.slice a n cap)] w (ZkS own t p c d sh told f w):=by
 obtain⟨h1,h2,dp,pp,h3,h4,h5⟩:=h;have cA:=(ZKr w).alloc (.cells (Za f (.slice a n cap)) 158);obtain⟨HX,HB⟩:=ZH2 (ZBn w 158 (Za f (.slice a n cap))) (h3.alloc (.cells (Za f (.slice a n cap)) 158));have cX:Upd (λ _=>False) own own w (w.alloc (.cells (Za f (.slice a n cap)) 158)):=ZUb cA.below hf;obtain⟨HP,HD,HS,mW,xx,kS,HU,df,gN⟩:=ZH9 (h5.upd cX (λ _ _ h=>h)) (h4.upd cX (λ h=>h)) (hs.upd cX (λ h=>h)) cX hf h3.lt cX cA eO;obtain⟨iy,kD,mE,HC,HM,cE⟩:=ZH6 h2 pV l8 hc h1 dE;clear h1 h2 h3 h4 h5 cX hs cA hf eO pV l8 hc dE;go_enter func93,ntmps93;go_wp2_with fail;generalize w.alloc (.cells (Za f (.slice a n cap)) 158)=W at *;refine ZSi [(0,3),(1,0),(2,3),(3,0),(6,3),(7,0),(4,1),(5,3),(8,0),(9,3)] λ bR=>?_
 repeat((first | refine ZSa ?_ | refine ZSb ?_ | (refine Zf rfl (by rfl) (λ w' ci=>by(obtain⟨c0,c1,c2,c3,c4,c5,c6,c7,c8⟩:=(HB.out.ob ci.below).aj);(obtain⟨x0,x1,x2,x3,x4,x5,x6,x7,x8⟩:=(HX.out.ob ci.below).aj);go_simp;with_reducible rfl) ?_));simp only[Act.put,ZA,ZB,ZC])
 refine ZSd λ K hK=>?_
 go_simp;have dh:Upd (λ _=>False) own own W W.drew:=ZUb (ZW W.heap.size W).drew HU.out.fresh;refine(ZeC (HP.out.upd dh (λ _ _ h=>h)) dh.fresh (by rw[iy.out];exact HC.out.n5) (λ s hs=>by have:=kD.out.kept s hs;have:=HC.out.w4;omega)).mono ?_;rintro _ w2 ⟨rfl,bW⟩;refine hK.out (λ w'=>Kept W.heap.size W w') _ _ (λ _ h=>h) (bR.step bW) (λ bT=>?_);clear hK K bR bW dh;have rp:(Za9 told).length=5:=ZcT (by rw[kD.out.len2];exact HC.out.n5);have jQ:=λ w=>ZrN (Zew sh) (lenOf sh) rp w
 have eC:f.r<5:=gN.out.r;have jK:=λ w=>Zah (lenOf sh) f.r eC w
 repeat((first | refine ZSa ?_ | refine ZSb ?_ | refine ZSc ?_);simp only[Act.put,ZA,ZB,ZC])
 refine ZSf ?_;have HH:=ZH bT;clear jQ jK rp eC bT;have lm:=HX.out.ob HH.out.below;go_wp2_with fail;generalize dK:w2=W2 at *;refine ZSi [(0,3),(1,0),(2,3),(3,0),(4,3),(5,0),(6,3),(7,0),(8,2),(9,3),(10,3),(11,3),(12,3),(13,3)] λ bR=>?_
 repeat((first | refine ZSa ?_ | refine ZSb ?_ | (refine Zf (v:=?_) rfl (by rfl) ?_ ?_;rotate_left 1;(intro w' ci;(obtain⟨c0,c1,c2,c3,c4,c5,c6,c7,c8⟩:=(HB.out.ob (HH.out.trans ci HH.out.le).below).aj);(obtain⟨x0,x1,x2,x3,x4,x5,x6,x7,x8⟩:=(HX.out.ob (HH.out.trans ci HH.out.le).below).aj);go_simp;with_reducible rfl)));simp only[Act.put,ZA,ZB,ZC])
 obtain⟨n0,x,hx,gA,fJ,yn⟩:=mE.out.push rfl;have BG:=kD.out.kept x (ZY hx);have lX:=HC.out.w4;have tN:=HC.out.n5;have cm:Upd (λ _=>False) own own W W2.drew:=ZUb HH.out.below.drew HU.out.fresh;obtain⟨PP,At⟩:∃ PP,PP=Z7 c.w f.r f.events sh told:=⟨_,rfl⟩;have cI:=ZjA (r:=f.r) (l:=f.events) (told:=told) kD.out.kept lX;rw[←At] at cI;have mN:=Zki (HP.out.upd cm (λ _ _ h=>h)) cm.fresh (by rw[kD.out.len];exact tN) f.r hx BG.1 ZO ((HS.out.upd cm (λ h=>h)).sl) (by have:=(HS.out).sl.2.2.1;have:=gN.out.len;omega) n0 gA fJ yn;rw[←At] at mN;obtain⟨Dq,dc,gX,gx⟩:=ZH4 mN cm At cI;clear hx gA fJ yn BG lX tN cm At cI mN;refine ZSe λ K hK=>?_
 go_simp;refine Dq.out.mono ?_;rintro _ w6 ⟨rfl,dU,nT,gT⟩;have eC:=gN.out.r;have hT:∀ n,n=t+10+1+f.r->HubT t n:=λ n hn=>⟨ZO,ZO⟩
 have uw:=((HB.out.ob HH.out.below).drew).upd gT (by rw[HM.out];omega);have Eh:=(HD.out.upd dc.out (λ h=>h)).upd gT ZO;have OI:=(HS.out.upd dc.out (λ h=>h)).upd gT ZO
 have wg:Blk w6 w.heap.size 158 (Za f (.slice a n cap)):=((HX.out.ob HH.out.below).drew).upd gT (by
  have h0:own w.heap.size=0:=xx.out _ (ZL _)
  omega)
 have pZ:Upd (HubT t) own dU w w6:=((mW.out.trans dc.out).mono (λ n h=>h.elim)).trans (gT.mono hT);obtain⟨i7,rS,vy,nK,gY,rV⟩:=ZH6 uw Eh OI wg pZ nT
 have Kn:Hid (dU w.heap.size=own w.heap.size):=ZH (by
  rw[gT.old _ (by have:=(HX.out.ob HH.out.below).lt;exact this)])
 have sH:Hid (dU p=t):=ZH ((pZ.old p kS.out).trans HM.out);refine hK.out _ _ ?_;clear hK K bR uw Eh OI wg pZ nT gT eC hT;repeat((first | refine ZSa ?_ | refine ZSb ?_ | refine ZSc ?_);simp only[Act.put,ZA,ZB,ZC])
 refine ZSf ?_;obtain⟨x0,x1,x2,x3,x4,x5,x6,x7,x8⟩:=nK.out.aj;have kJ:=nK.out.lt;by_cases h0:PP.2.1=0
 ·have hz:((PP.2.1:Int) != 0)=false:=by simp[h0]
  have H0:=ZH h0;clear h0;by_cases hw:PP.1=(lenOf sh).get f.r
  ·have Tf:((PP.1:Int) != (((lenOf sh).get f.r:Nat):Int))=false:=by simp[hw]
   have HW:=ZH hw;clear hw;go_wp2_with fail;refine(Zg2 (Zfr (r:=f.r) (u:=PP.1) gN.out.r (by have:=gx.out.1;omega)) (EvSl.nil _)).mono ?_;rintro _ w8 ⟨v8,rfl,ko,fS⟩;have kz:Upd (λ _=>False) dU dU w6 w8:=ZUb fS gY.out.fresh;obtain⟨mj,jo,qL⟩:=ZH3 ko kz fS;clear ko kz fS;go_wp2_with fail;go_ret3
   refine⟨dU,gY.out.trans (jo.out.mono (λ n h=>h.elim)),?_⟩;rw[←gX.out,if_neg (by rw[H0.out];simp),if_pos HW.out];refine⟨⟨v8,rfl,Zi mj.out gY.out.size,λ b hb=>gY.out.fresh b (Zb mj.out hb).1⟩,(jo.out.old p i7.out.lt).trans sH.out,by rw[gx.out.2];exact iy.out,dp,pp,i7.out.ob qL.out,rS.out.upd jo.out (λ h=>h),rV.out.upd jo.out (λ _ _ h=>h)⟩
  ·have Tf:((PP.1:Int) != (((lenOf sh).get f.r:Nat):Int))=true:=ZP;have HW:=ZH hw;clear hw;go_wp2_with fail;refine ZSi [(0,3),(1,0),(2,3),(3,3),(4,0),(5,3),(6,0),(7,3),(8,2),(9,3)] λ bR=>?_
   repeat((first | refine ZSa ?_ | refine ZSb ?_ | (refine Zf rfl (by rfl) (λ w' ci=>by(obtain⟨c0,c1,c2,c3,c4,c5,c6,c7,c8⟩:=(i7.out.ob ci.below).aj);(obtain⟨x0,x1,x2,x3,x4,x5,x6,x7,x8⟩:=(nK.out.ob ci.below).aj);go_simp;with_reducible rfl) ?_));simp only[Act.put,ZA,ZB,ZC])
   have dh:Upd (λ _=>False) dU dU w6 w6.drew:=ZUb (ZW w6.heap.size w6).drew gY.out.fresh;have pE:=i7.out.drew;have Ba:=Zkb (td:=t+1) (p:=p) (w:=w6.drew) (f:=ZaC f) (pE.cell 0) (pE.frozen 0) (pE.cell 1) pE.lt (by rw[sH.out];omega) (rS.out.upd dh (λ h=>h)) dh.fresh (Zi2 gN.out) ((vy.out.upd dh (λ h=>h)).sl) hd;obtain⟨JM,gZ⟩:=ZH2 Ba dh;clear Ba dh pE;refine ZSe λ K hK=>?_
   go_simp;refine JM.out.mono ?_;rintro r7 w7 ⟨dH,IW,jW,tz,qw⟩;have lh:=(i7.out.upd gZ.out (λ h=>h)).upd jW (by rw[sH.out];omega);have It:=(rV.out.upd gZ.out (λ _ _ h=>h)).upd jW (λ i _=>ZO)
   have La:=(nK.out.upd gZ.out (λ h=>h)).upd jW (by
    have h0:dU w.heap.size=0:=(Kn.out).trans (xx.out _ (ZL _))
    omega)
   have yC:dH p=t:=(jW.old p i7.out.lt).trans sH.out;have uc:Upd (HubT t) own dH w IW:=(gY.out.trans (gZ.out.mono (λ n h=>h.elim))).trans (jW.mono (λ n h=>⟨ZO,ZO⟩));by_cases iD:(d.write (recBytes (ZaC f))).2=0
   ·rw[if_pos iD] at qw;obtain⟨rfl,rfl⟩:=qw;obtain⟨iu,BP,Ic,JH,ju,qR,mm⟩:=ZH7 lh It La yC uc tz iD;refine hK.out _ _ ?_;clear hK K bR lh It La yC uc tz jW iD;repeat((first | refine ZSa ?_ | refine ZSb ?_ | refine ZSc ?_);simp only[Act.put,ZA,ZB,ZC])
    refine ZSf ?_;obtain⟨x0,x1,x2,x3,x4,x5,x6,x7,x8⟩:=Ic.out.aj;have kJ:=Ic.out.lt;go_wp2_with fail;refine(Zg2 (Zfr (r:=f.r) (u:=PP.1) gN.out.r (by have:=gx.out.1;omega)) (EvSl.nil _)).mono ?_;rintro _ w8 ⟨v8,rfl,ko,fS⟩;have kz:Upd (λ _=>False) dH dH w7 w8:=ZUb fS ju.out.fresh;obtain⟨mj,jo,qL⟩:=ZH3 ko kz fS;clear ko kz fS;go_wp2_with fail;go_ret3
    refine⟨dH,ju.out.trans (jo.out.mono (λ n h=>h.elim)),?_⟩;rw[←gX.out,if_neg (by rw[H0.out];simp),if_neg HW.out,if_pos mm.out];refine⟨⟨v8,rfl,Zi mj.out ju.out.size,λ b hb=>ju.out.fresh b (Zb mj.out hb).1⟩,(jo.out.old p iu.out.lt).trans JH.out,by rw[gx.out.2];exact iy.out,dp,pp,iu.out.ob qL.out,qR.out.upd jo.out (λ h=>h),BP.out.upd jo.out (λ _ _ h=>h)⟩
   ·rw[if_neg iD] at qw;obtain⟨rfl,rfl⟩:=qw;have jV:Upd (· = t) dH dH IW (IW.setCell ⟨p,0,none⟩ (.bool false)):=(Upd.refl (· = t) dH IW uc.fresh).setCell (p:=⟨p,0,none⟩) (λ _=>yC) _;obtain⟨iu,BP,JH,ju,qR,mm⟩:=ZH6 (lh.ai 0 (.bool false)) (It.upd jV (λ i _=>ZO)) yC (uc.trans (jV.mono (T':=HubT t) (λ n h=>⟨ZO,ZO⟩))) (tz.upd jV ZO) iD;refine hK.out _ _ ?_;clear hK K bR lh It La yC uc tz jW iD jV;repeat((first | refine ZSa ?_ | refine ZSb ?_ | refine ZSc ?_);simp only[Act.put,ZA,ZB,ZC])
    refine ZSf ?_;go_wp2_with fail;go_ret3
    exact⟨dH,ju.out,by rw[←gX.out,if_neg (by rw[H0.out];simp),if_neg HW.out,if_neg mm.out];exact⟨rfl,JH.out,by rw[gx.out.2];exact iy.out,dp,pp,iu.out,qR.out,BP.out⟩⟩
 ·have hz:((PP.2.1:Int) != 0)=true:=ZP;have H0:=ZH h0;clear h0;go_wp2_with fail;go_ret3
  exact⟨dU,gY.out,by rw[←gX.out,if_pos H0.out];exact⟨rfl,sH.out,by rw[gx.out.2];exact iy.out,dp,pp,i7.out,rS.out,rV.out⟩⟩
end Go.Proofs.YtjkfognelhiepaaGreat
