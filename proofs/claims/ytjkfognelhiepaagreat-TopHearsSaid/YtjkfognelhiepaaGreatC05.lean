import Derived.Test.YtjkfognelhiepaaGreatC04
import Derived.ArgAppend
namespace Go.Proofs.YtjkfognelhiepaaGreat
open Go.RowKit _root_.Go.Proofs.Tryz
set_option maxRecDepth 100000
set_option maxHeartbeats 8000000
abbrev inArr(most:Nat)(c:Clk)(vh:Value):Array Value:=#[.int .i64 most,.int .i64 c.c0,.int .i64 c.c1,.int .i64 c.c2,.int .i64 c.c3,.int .i64 c.c4,vh]
structure InboxAt(own:Own)(t:Nat)(w:World)(p:Nat)(most:Nat)(c:Clk)(held:List Ev):Prop where
 mine:own p=t
 ex:∃ vh,Blk w p 218 (inArr most c vh)/\RowAt own t w vh held
theorem InboxAt.upd{T:Nat->Prop}{own own':Own}{w w':World}{t p most:Nat}{c:Clk}{held:List Ev}(h:InboxAt own t w p most c held)(hu:Upd T own own' w w')(ht:¬ T t):InboxAt own' t w' p most c held:=by
 obtain⟨h1,vh,h2,h3⟩:=h;exact⟨by rw[hu.old p h2.lt];exact h1,vh,h2.upd hu (by rw[h1];exact ht),h3.upd hu ht⟩
theorem Blk.seven{w:World}{g:Nat}{t:TypeId}{v0 v1 v2 v3 v4 v5 v6:Value}(h:Blk w g t #[v0,v1,v2,v3,v4,v5,v6]):w.cell? ⟨g,0,none⟩=some v0/\w.cell? ⟨g,1,none⟩=some v1/\w.cell? ⟨g,2,none⟩=some v2/\w.cell? ⟨g,3,none⟩=some v3/\w.cell? ⟨g,4,none⟩=some v4/\w.cell? ⟨g,5,none⟩=some v5/\w.cell? ⟨g,6,none⟩=some v6 :=
 ⟨h.cell 0,h.cell 1,h.cell 2,h.cell 3,h.cell 4,h.cell 5,h.cell 6⟩
theorem Zo1(most:Nat)(c:Clk)(w:World):Calls prog 129 #[.int .i64 most,Za2 c] w λ r w'=>∃ p,r = .returned (.pointer (some ⟨p,0,none⟩))/\w.heap.size<=p/\Blk w' p 218 (inArr most c (.slice none 0 0))/\Below w.heap.size w w':=by
 go_enter func129,ntmps129;go_wp2
 go_ret;exact⟨w.heap.size+1,rfl,ZO,Z6 w _ _ _,Zbu _ _ _⟩
theorem Zet{own:Own}{t p most:Nat}{c:Clk}{held:List Ev}{w:World}(h:InboxAt own t w p most c held):Calls prog 65 #[.pointer (some ⟨p,0,none⟩)] w (Zv (Za2 c) w):=by
 obtain⟨_,vh,hb,_⟩:=h;obtain⟨c0,c1,c2,c3,c4,c5,c6⟩:=hb.seven;have ce:=hb.lt;clear hb;go_enter func65,ntmps65;go_wp2_with fail;refine bodyPost_end (Zac rfl rfl (run_loadVar_row _ _ _ _ _ _ _ (ZBn _ _ _) underlying44 rfl ZK)) rfl ?_;exact⟨rfl,(ZW _ _).alloc (ZL _) _⟩
theorem ZnG{own:Own}{t p most:Nat}{c:Clk}{held:List Ev}{w:World}(h:InboxAt own t w p most c held)(hn:held.length<=1000000):Calls prog 78 #[.pointer (some ⟨p,0,none⟩)] w (Zel held w):=by
 obtain⟨_,vh,hb,hr⟩:=h;obtain⟨c0,c1,c2,c3,c4,c5,c6⟩:=hb.seven;have ce:=hb.lt;obtain⟨ah,Am,rfl,hs⟩:=EvSl.ab hr.row;have HS:=ZH hs;clear hb hr hs;go_enter func78,ntmps78;go_wp2_with fail;refine(Zk0 HS.out hn).mono ?_;rintro r w1 ⟨v1,rfl,eZ,bS⟩;obtain⟨HO,HB⟩:=ZH2 eZ bS;clear eZ bS;go_wp2
 go_ret;exact⟨v1,rfl,HO.out,HB.out⟩
theorem Zn3{w:World}{B g:Nat}{v:Value}{es:List Ev}(h:w.ownsRow B 89 12 v es.length (evCells es))(hg:g<B)(i:Nat)(vs:List Value):(setAll w g i vs).ownsRow B 89 12 v es.length (evCells es) :=
 Zh h (λ k h1 _=>Zaj (by have:=(Zb h h1).1;omega) vs i w)
def ZjM(c:Clk)(l:List Ev)(w:World)(r:Ending)(w':World):Prop:=∃ v1 v2,r = .returned (.tuple #[v1,v2,Za2 (drained c l).2.2]) /\
 w'.ownsRow w.heap.size 89 12 v1 (drained c l).1.length (evCells (drained c l).1)/\w'.ownsRow w.heap.size 89 12 v2 (Zb3 (Zaf c l) (drained c l).2.1).length (evCells (Zb3 (Zaf c l) (drained c l).2.1))/\Apart v2 v1/\Below w.heap.size w w'
theorem ZhS{p most:Nat}{c:Clk}{vh:Value}{w:World}(hb:Blk w p 218 (inArr most c vh)){l:List Ev}{a:Option Addr}{n cap:Nat}(hs:EvSl w a n cap l)(hl:∀ e∈l,e.r<5/\1<=e.n)(hc:∀ i,c.get i+n<=1000000):
  Calls prog 117 #[.pointer (some ⟨p,0,none⟩),.slice a n cap] w (ZjM c l w):=by
 obtain⟨c0,c1,c2,c3,c4,c5,c6⟩:=hb.seven;have ce:=hb.lt;obtain⟨HS,HL,HC,vm⟩:=ZH4 (hs.below ((ZW w.heap.size w).alloc (ZL _) (.cells #[.int .i64 0,.int .i64 0,.int .i64 0,.int .i64 0,.int .i64 0] 44))) hl hc (ZBn w 44 #[.int .i64 0,.int .i64 0,.int .i64 0,.int .i64 0,.int .i64 0]);clear hb hs hl hc;go_enter func117,ntmps117;go_wp2_with fail;refine(ZoS c l _ _ _ _ HS.out HL.out HC.out).mono ?_;rintro r w1 ⟨v1,v2,rfl,eh,dC,m9,bS⟩;have mP:=ZH m9;have oJ:=vm.out.ob bS;have A5:=oJ.lt;have fo:=oJ.frozen;have f0:=fo 0;have f1:=fo 1;have f2:=fo 2;have f3:=fo 3;have f4:=fo 4;obtain⟨k0,k1,k2,k3,k4⟩:=oJ.aE;obtain⟨nZ,ez,eU,cL⟩:=ZH4 oJ eh dC bS;clear oJ eh dC bS fo c0 c1 c2 c3 c4 c5 c6 HS;obtain⟨D,hD⟩:∃ D,D=drained c l:=⟨_,rfl⟩;have HD:=ZH hD;rw[←hD] at ez eU ⊢;clear hD;go_wp2_with fail;have dx:=Zaw (vs:=clkArr D.2.2) nZ.out rfl;have cB:=λ(v:Value) (es:List Ev) (h:w1.ownsRow (w.alloc (.cells #[.int .i64 0,.int .i64 0,.int .i64 0,.int .i64 0,.int .i64 0] 44)).heap.size 89 12 v es.length (evCells es))=>Zn3 h (g:=w.heap.size) ZM 0 (clkArr D.2.2).toList
 have rB:=ZaB ((ZKr w).alloc _ |>.step cL.out) (g:=w.heap.size) (ZL _) 0 (clkArr D.2.2).toList;refine bodyPost_end (w:=setAll w1 w.heap.size 0 (clkArr D.2.2).toList) (Zfs rfl rfl rfl rfl (run_loadVar_row _ _ _ _ _ _ _ dx underlying44 rfl ZK)) rfl ?_;unfold ZjM;rw[←HD.out];exact⟨v1,v2,rfl,Zi (cB _ _ ez.out) ZM,Zi (cB _ _ eU.out) ZM,mP.out,rB.below⟩
theorem EvSl.one{W:World}{g:Nat}{e:Ev}(h:Blk W g 89 (evArr e)):EvSl W (some ⟨g,0,none⟩) 1 1 [e]:=by
 refine⟨ZL _,by unfold maxLen;omega,rfl,.inr ⟨g,0,rfl,h.lt,λ i x hx j hj=>?_⟩⟩;have hi:i=0:=by
  have:=(ZZ.1 hx).1;simpa using this
 subst hi;have:x=e:=by simpa using hx.symm
 subst this;rw[h.cell];simp
theorem Zj3{W:World}{p most:Nat}{c c':Clk}{vh:Value}(h:Blk W p 218 (inArr most c vh)):Blk (setAll W p 1 (clkArr c').toList) p 218 (inArr most c' vh) :=
 Zba (clkArr c').toList 1 W [.int .i64 most,.int .i64 c.c0,.int .i64 c.c1,.int .i64 c.c2,.int .i64 c.c3,.int .i64 c.c4,vh] h ZM
theorem Zo2{own:Own}{t p most:Nat}{c:Clk}{held:List Ev}{w:World}(h:InboxAt own t w p most c held)(hf:Fresh own w)(e:Ev)(he:e.r<5/\1<=e.n)(hc:∀ i,c.get i+1<=1000000)(hd:(drained c [e]).1≠[]):
  Calls prog 69 #[.pointer (some ⟨p,0,none⟩),Zaa e] w λ r w'=>r = .returned (.int .i64 0)/\InboxAt own t w' p most (drained c [e]).2.2 held/\Upd (· = t) own own w w':=by
 obtain⟨hm,vh,hb,hr⟩:=h;have ce:=hb.lt;have bW:=(hb.alloc (.cells (evArr e) 89)).alloc (.cells (evArr e) 89);have eD:=EvSl.one (Z6 w (.cells (evArr e) 89) 89 (evArr e));have hK:=((ZKr w).alloc (.cells (evArr e) 89)).alloc (.cells (evArr e) 89);obtain⟨D,hD⟩:∃ D,D=drained c [e]:=⟨_,rfl⟩;rw[←hD] at hd ⊢;have eL:((D.1.length:Int)==0)=false:=by
  have:0<D.1.length:=List.length_pos_iff.2 hd;simp;omega
 obtain⟨I5,cH,iZ,HK,HD,HC,HM,HR,HF⟩:=ZH9 hb bW eD hK hD hc hm hr hf;clear hb bW eD hK hd hD hc hm hr hf;go_enter func69,ntmps69;go_wp2_with fail;refine(ZhS cH.out iZ.out (by intro x hx;obtain rfl:x=e:=(by simpa using hx);exact he) HC.out).mono ?_;rintro r w3 ⟨v1,v2,rfl,eh,_,_,bZ⟩;rw[←HD.out] at eh ⊢;obtain⟨a1,DT,rfl,_⟩:=EvSl.ab eh;have i4:=cH.out.ob bZ;have cC:=ZH (HK.out.step bZ);have Ff:=i4.lt;have fo:=i4.frozen;have f1:=fo 1;have f2:=fo 2;have f3:=fo 3;have f4:=fo 4;have f5:=fo 5;obtain⟨c0,c1,c2,c3,c4,c5,c6⟩:=i4.seven;have qM:=ZH i4;clear eh bZ i4 fo iZ cH;go_wp2_with fail;have cX:Upd (· = t) own own w w3:=ZUb cC.out.below HF.out;have co:Upd (· = t) own own w (setAll w3 p 1 (clkArr D.2.2).toList):=cX.setAll (λ _=>HM.out) 1 _;have cm:Upd (· = t) own own w ((setAll w3 p 1 (clkArr D.2.2).toList).alloc (.cells (clkArr D.2.2) 44)):=co.kept ((ZW _ _).alloc (ZL _) _);have bS:=(Zj3 (c':=D.2.2) qM.out).alloc (.cells (clkArr D.2.2) 44);have dC:RowAt own t ((setAll w3 p 1 (clkArr D.2.2).toList).alloc (.cells (clkArr D.2.2) 44)) vh held :=
  ⟨Zh HR.out.row (λ g h1 h2=>(Below.heap_alloc _ _ _ (by rw[ZaR];exact ZR h2 cC.out.below.size)).trans ((Zaj (λ e=>Zo HR.out.row I5.out ZJ (by rw[h1,e])) _ _ _).trans (cC.out.below.block g h2))),HR.out.own⟩
 go_ret;exact⟨rfl,⟨HM.out,vh,bS,dC⟩,cm⟩
def Zdg(c:Clk)(l:List Ev):List Ev:=Zb3 (Zaf c l) (drained c l).2.1
theorem ZnF{W:World}{p most:Nat}{c c':Clk}{vh vh':Value}(h:Blk W p 218 (inArr most c vh)):Blk ((setAll W p 1 (clkArr c').toList).setCell ⟨p,6,none⟩ vh') p 218 (inArr most c' vh'):=by
 have h1:=(Zj3 (c':=c') h).ai 6 vh';simpa using h1
theorem ZnH{own:Own}{t p most:Nat}{c:Clk}{held l:List Ev}{a:Option Addr}{n cap:Nat}{w:World}(h:InboxAt own t w p most c held)(hf:Fresh own w)(hs:EvSl w a n cap l)(hl:∀ e∈held++l,e.r<5/\1<=e.n)(hc:∀ i,c.get i+(held.length+n)<=1000000):
  Calls prog 143 #[.pointer (some ⟨p,0,none⟩),.slice a n cap] w λ r w' =>
   (most<(Zdg c (held++l)).length/\r = .returned (.tuple #[.slice none 0 0,.int .i64 22])/\Below w.heap.size w w') ∨
   ((Zdg c (held++l)).length<=most/\∃ v own',r = .returned (.tuple #[v,.int .i64 0])/\RowAt own' 0 w' v (drained c (held++l)).1/\InboxAt own' t w' p most (drained c (held++l)).2.2 (Zdg c (held++l))/\Upd (· = t) own own' w w'):=by
 obtain⟨hm,vh,hb,hr⟩:=h;have ce:=hb.lt;obtain⟨c0,c1,c2,c3,c4,c5,c6⟩:=hb.seven;have IH:=hc 0;have fE:=ZH (hs.2.2.1);obtain⟨ah,Am,rfl,i6⟩:=EvSl.ab hr.row;have hg:=ZBn w 128 #[.slice ah held.length Am,.slice a n cap];have cD:=(ZW w.heap.size w).alloc (ZL _) (.cells #[.slice ah held.length Am,.slice a n cap] 128);obtain⟨ei,Ke⟩:=ZH2 (hs.below cD) (i6.below cD);have bW:=hb.ob cD;obtain⟨DD,BX⟩:∃ DD,DD=drained c (held++l):=⟨_,rfl⟩;obtain⟨LF,KW⟩:∃ LF,LF=Zdg c (held++l):=⟨_,rfl⟩;rw[←BX,←KW];obtain⟨vd,Hp⟩:=ZH2 BX.symm KW.symm;clear BX KW;obtain⟨HG,cH,HL,HC,HM,HF,di⟩:=ZH7 hg bW hl hc hm hf cD;clear hg bW hl hc hm hf cD hs i6 hr hb;go_enter func143,ntmps143;go_wp2_with fail;refine(ZoP HG.out Ke.out ei.out ZO).mono ?_;rintro r w2 ⟨v2,rfl,dC,bW⟩;obtain⟨a2,dg,rfl,jk⟩:=EvSl.ab dC;obtain⟨dj,cr,eP⟩:=ZH3 (cH.out.ob bW) ((Kept.start di.out).step bW) jk;clear dC jk bW c0 c1 c2 c3 c4 c5 c6;have xC:Hid ((held++l).length=held.length+n):=ZH (by rw[ZI,fE.out]);generalize (held++l).length=N at *;go_wp2_with fail;refine(ZhS dj.out eP.out HL.out (by rw[xC.out];exact HC.out)).mono ?_;rintro r w4 ⟨v1,v3,rfl,eh,ew,m9,cz⟩;have i4:=dj.out.ob cz;have cZ:=ZH (cr.out.step cz);have Lj:=i4.alloc (.cells (clkArr DD.2.2) 44);have Ff:=i4.lt;have fo:=i4.frozen;have f1:=fo 1;have f2:=fo 2;have f3:=fo 3;have f4:=fo 4;have f5:=fo 5;have f6:=fo 6;obtain⟨c0,c1,c2,c3,c4,c5,c6⟩:=i4.seven;rw[vd.out] at eh ⊢;have wK:Zb3 (Zaf c (held++l)) (drained c (held++l)).2.1=LF:=Hp.out;rw[wK] at ew;obtain⟨a3,dm,rfl,_⟩:=EvSl.ab ew;obtain⟨qM,ez,ep,mP,zT⟩:=ZH5 i4 eh ew m9 cr.out.below.size;clear i4 Lj fo eh ew m9 cz wK dj eP;rcases Nat.lt_or_ge most LF.length with pI | AO
 ·have hd:decide (most<LF.length)=true:=ZP;go_wp2_with fail;go_ret2
  exact .inl ⟨pI,rfl,(cZ.out.alloc _).below⟩
 ·have hd:decide (most<LF.length)=false:=ZP;go_wp2_with fail;have dL:=zT.out;have e1:((setAll w4 p 1 (clkArr DD.2.2).toList).setCell ⟨p,6,none⟩ (.slice a3 LF.length dm)).heap.size=w4.heap.size:=by simp only[World.setCell,Array.size_modify];exact ZaR _ _ _
  have e2:w4.heap.size<=(((setAll w4 p 1 (clkArr DD.2.2).toList).setCell ⟨p,6,none⟩ (.slice a3 LF.length dm)).alloc (.cells (clkArr DD.2.2) 44)).heap.size:=by
   have h:=((ZW _ ((setAll w4 p 1 (clkArr DD.2.2).toList).setCell ⟨p,6,none⟩ (.slice a3 LF.length dm))).alloc (ZL _) (.cells (clkArr DD.2.2) 44)).size;rw[e1] at h;exact h
  have far:∀ g,g<w4.heap.size->g≠p->(((setAll w4 p 1 (clkArr DD.2.2).toList).setCell ⟨p,6,none⟩ (.slice a3 LF.length dm)).alloc (.cells (clkArr DD.2.2) 44)).heap[g]? = w4.heap[g]? := λ g hg dz =>
   (Below.heap_alloc _ _ _ (by rw[e1];exact hg)).trans ((Below.heap_setCell _ _ _ _ dz).trans (Zaj dz _ _ _))
  have hu:Upd (· = t) own own w (((setAll w4 p 1 (clkArr DD.2.2).toList).setCell ⟨p,6,none⟩ (.slice a3 LF.length dm)).alloc (.cells (clkArr DD.2.2) 44)) :=
   (((ZUb cZ.out.below HF.out).setAll (λ _=>HM.out) 1 (clkArr DD.2.2).toList).setCell (p:=⟨p,6,none⟩) (λ _=>HM.out) (.slice a3 LF.length dm)).kept ((ZW _ _).alloc (ZL _) _)
  have r1:∀ g,v1.ownBlock=some g->w.heap.size<=g/\g<w4.heap.size:=λ g hg=>by have:=Zb ez.out hg;omega
  have r3:∀ g,(Value.slice a3 LF.length dm).ownBlock=some g->w.heap.size<=g/\g<w4.heap.size:=λ g hg=>by have:=Zb ep.out hg;omega
  have dw:=(ZnF (c':=DD.2.2) (vh' := .slice a3 LF.length dm) qM.out).alloc (.cells (clkArr DD.2.2) 44);have cm:=hu.bt (v := .slice a3 LF.length dm) (λ g hg=>⟨(r3 g hg).1,ZR (r3 g hg).2 e2⟩) t;have MN:RowAt (own.put (.slice a3 LF.length dm) t) 0 (((setAll w4 p 1 (clkArr DD.2.2).toList).setCell ⟨p,6,none⟩ (.slice a3 LF.length dm)).alloc (.cells (clkArr DD.2.2) 44)) v1 DD.1 :=
   ⟨Zi (Zh ez.out (λ g h1 h2=>far g h2 (by have:=(r1 g h1).1;omega))) (Nat.zero_le _),λ g hg=>by
    unfold Own.put;rw[if_neg (λ e=>mP.out g e hg)]
    exact HF.out g (r1 g hg).1⟩
  have MO:RowAt (own.put (.slice a3 LF.length dm) t) t (((setAll w4 p 1 (clkArr DD.2.2).toList).setCell ⟨p,6,none⟩ (.slice a3 LF.length dm)).alloc (.cells (clkArr DD.2.2) 44)) (.slice a3 LF.length dm) LF :=
   ⟨Zi (Zh ep.out (λ g h1 h2=>far g h2 (by have:=(r3 g h1).1;omega))) (Nat.zero_le _),λ g hg=>by
    unfold Own.put
    rw[if_pos hg]⟩
  have fD:(own.put (.slice a3 LF.length dm) t) p=t:=by
   unfold Own.put;split
   ·rfl
   ·exact HM.out
  go_ret2
  exact .inr ⟨AO,v1,_,rfl,MN,⟨fD,_,dw,MO⟩,cm⟩
section
section
variable {P:Program}{cu:Array Oper}{Q:Exit->Act->World->Prop}{S:World->Prop}{cut:Nat->Bool}
theorem ZdH{R:World->Prop}{Lv:Bool->Array Bool->Prop}{i:Nat}{oi:Oper}{v:Value}(hi:cu[i]? = some oi)(Bh:Region.noSelect cu=true)
  (hQ:∀ c a w,Q (.panic c) (a.put oi.dst v) w->Q (.panic c) a w) (AF:cut i=false)
  (hR:∀ live bV x,Lv live bV->(live=true->S x)->R x)
  (hL:∀ live bV j oj,Lv live bV->j≠i->j∈Region.ready .any cu bV->cu[j]? = some oj->Lv (live && !cut j) (bV.setIfInBounds j true)) :
  ∀ (n:Nat) (bV:Array Bool) (live:Bool) (a:Act) (w:World),(∀ j oj,cu[j]? = some oj->j≠i->bV.getD j true=false->(∀ e∈oj.after,Region.binds .any e=true->e.on≠i)->oi.apart cu oj=true) ->
   i∈Region.ready .any cu bV->YieldsIf P cu R oi v a->Lv live bV->(live=true->S w) ->
   Zb0 P cu Q cut S n (bV.setIfInBounds i true) live (a.put oi.dst v) w->Zb0 P cu Q cut S (n+1) bV live a w:=by
 have hs:=Region.noSelect_spec Bh;have iE:∀ live:Bool,(live && !cut i)=live:=λ live=>by rw[AF];simp
 intro n
 induction n with
 | zero =>
  intro bV live a w _ hr hy hl hS H;refine⟨λ h=>(by rw[h] at hr;cases hr),λ j hj=>?_⟩;by_cases jS:j=i
  ·subst jS;rw[iE];exact hy.wpOp hi (hR live bV w hl hS) ⟨hS,H⟩
  ·have:=ready_mono hj jS;rw[H.1] at this
   cases this
 | succ n ih =>
  intro bV live a w ke hr hy hl hS H;refine⟨λ h=>(by rw[h] at hr;cases hr),λ j hj=>?_⟩;by_cases jS:j=i
  ·subst jS;rw[iE];exact hy.wpOp hi (hR live bV w hl hS) ⟨hS,H⟩
  ·obtain⟨tI,oj,pU,_⟩:=mem_ready.1 hj;have dR:=ZgD hr hj pU;have h2:=wpOp_putIf pU (ke j oj pU jS tI dR) (λ cs b=>hs i oi cs b hi) (λ cs b=>hs j oj cs b pU) hQ hy (H.2 j (ready_mono hj jS));refine wpOp_mono (λ a' w' h3=>⟨h3.2.1,ih (bV.setIfInBounds j true) _ a' w' (λ k ok hk wF yV gr=>?_) (ready_mono hr (Ne.symm jS)) h3.1 (hL live bV j oj hl jS hj pU) h3.2.1 ?_⟩) h2
   ·refine ke k ok hk wF ?_ gr;by_cases E3:j=k
    ·subst E3;exact tI
    ·rw[getD_set_ne true E3] at yV;exact yV
   ·rw[Array.setIfInBounds_comm _ _ jS];exact h3.2.2
def Zrs(cu:Array Oper)(D:List Nat)(k:Nat):Bool:=match cu[k]? with | some o=>o.after.any λ x=>Region.binds .any x&&D.contains x.on | none=>false
def Zdc(cu:Array Oper):List (Nat × Nat)->List Nat->List Nat
 | [],D=>D
 |(k,_)::r,D=>Zdc cu r (if Zrs cu D k=true then k::D else D)
theorem ZjT{k:Nat}:∀ (τ : List (Nat × Nat)) (D:List Nat),k∈D->k∈Zdc cu τ D
 | [],_,h=>h
 |(j,_)::r,D,h=>by
  unfold Zdc;apply ZjT r;split
  ·exact List.mem_cons_of_mem _ h
  ·exact h
theorem ZiC{k:Nat}{oj:Oper}(ho:cu[k]? = some oj):∀ (τ : List (Nat × Nat)) (D:List Nat),k∈Zdc cu τ D->k∈D∨∃ e∈oj.after,Region.binds .any e=true/\e.on∈Zdc cu τ D
 | [],_,h => .inl h
 |(j,b)::r,D,h=>by
  unfold Zdc at h ⊢;rcases ZiC ho r _ h with h1 | h1
  ·split at h1
   ·rename_i hc;rcases List.mem_cons.1 h1 with h2 | h2
    ·subst h2;refine .inr ?_;unfold Zrs at hc;rw[ho] at hc;simp only[Array.any_eq_true,Bool.and_eq_true] at hc;obtain⟨q,hq,h4,h5⟩:=hc;have h6:(oj.after[q]).on∈D:=by simpa using h5
     refine⟨_,Array.getElem_mem hq,h4,?_⟩;apply ZjT;split
     ·exact List.mem_cons_of_mem _ h6
     ·exact h6
    ·exact .inl h2
   ·exact .inl h1
  ·exact .inr h1
def ZfR(cu:Array Oper)(τ : List (Nat × Nat))(i:Nat)(bV:Array Bool):Bool := τ.all (λ e => !(e.2==2)||(Zdc cu τ [i]).contains e.1)&&(Zdc cu τ [i]).all λ k=>bV.getD k true==false
theorem ZgH{τ : List (Nat × Nat)}{i:Nat}{bV:Array Bool}(h:ZfR cu τ i bV=true):∀ k∈Zdc cu τ [i],bV.getD k true=false:=by
 simp only[ZfR,Bool.and_eq_true,List.all_eq_true] at h;intro k hk;simpa using h.2 k hk
theorem Zh5{τ : List (Nat × Nat)}{i:Nat}{bV l:Array Bool}(h:ZfR cu τ i bV=true){lv:Bool}(h1:lv=true/\∀ k∈Zdc cu τ [i],l.getD k true=false){j:Nat}{oj:Oper}(jS:j≠i)(hj:j∈Region.ready .any cu l)(ho:cu[j]? = some oj):
  (lv && !Zar τ j)=true/\∀ k∈Zdc cu τ [i],(l.setIfInBounds j true).getD k true=false:=by
 have dR:j ∉ Zdc cu τ [i]:=by
  intro hm;rcases ZiC ho τ _ hm with h2 | ⟨e,he,hb,Bc⟩
  ·exact jS (by simpa using h2)
  ·obtain⟨_,Tm,nu,eK⟩:=mem_ready.1 hj;rw[ho] at nu;injection nu with nu;subst nu;have h3:=eK e he hb;have h0:=h1.2 _ Bc;rcases Nat.lt_or_ge e.on l.size with h' | h'
   ·simp[h'] at h0 h3;rw[h0] at h3
    cases h3
   ·simp[Array.getElem?_eq_none h'] at h3
 refine⟨?_,λ k hk=>?_⟩
 ·have hc:Zar τ j=false:=by
   rcases hc:Zar τ j with _ | _
   ·rfl
   ·simp only[Zar,List.any_eq_true,Bool.and_eq_true,beq_iff_eq] at hc;obtain⟨e,he,g1,g2⟩:=hc;simp only[ZfR,Bool.and_eq_true,List.all_eq_true] at h;have h3:=h.1 e he;rw[g1,g2] at h3;exact absurd (by simpa using h3) dR
  rw[h1.1,hc];rfl
 ·rw[getD_set_ne true (λ e=>dR (by rw[e];exact hk))];exact h1.2 k hk
def ZcC(cu:Array Oper)(τ : List (Nat × Nat)):List (Nat × Nat)->Array Bool->Bool->Bool
 | [],bV,_=>(Region.ready .any cu bV).isEmpty
 |(i,k)::r,bV,live =>
  (if k=0 then(Region.ready .any cu bV).contains i&&Region.free .any cu bV i&&live && !Zar τ i&&ZfR cu τ i bV
   else if k=3 then(Region.ready .any cu bV).contains i&&Region.free .any cu bV i && !Zar τ i
   else if k=1 then Region.ready .any cu bV==[i]&&live && !Zar τ i
   else Region.ready .any cu bV==[i]&&Zar τ i)&&ZcC cu τ r (bV.setIfInBounds i true) (live && !Zar τ i)
theorem Zek(hs:Region.noSelect cu=true)(hQ:∀ c a (d:Option Tmp) v w,Q (.panic c) (a.put d v) w->Q (.panic c) a w)(τ : List (Nat × Nat)):
  ∀ (σ : List (Nat × Nat)) (S:World->Prop) (bV:Array Bool) (live:Bool) (a:Act) (w:World),ZcC cu τ σ bV live=true->(live=true->S w)->Z5 P cu Q σ S a w ->
   Zb0 P cu Q (Zar τ) S σ.length bV live a w
 | [],_,bV,_,a,w,hc,_,h=>⟨by simpa [ZcC] using hc,h⟩
 |(i,k)::r,S,bV,live,a,w,hc,hS,h=>by
  obtain⟨o,ho,h⟩:=h;simp only[ZcC,Bool.and_eq_true] at hc;obtain⟨fY,oY⟩:=hc;have ih:=λ S a w=>Zek hs hQ τ r S (bV.setIfInBounds i true) (live && !Zar τ i) a w oY
  show Zb0 P cu Q (Zar τ) S (r.length+1) bV live a w
  by_cases k0:k=0
  ·rw[if_pos k0] at fY;simp only[Bool.and_eq_true,Bool.not_eq_true'] at fY;obtain⟨⟨⟨⟨c1,c2⟩,c3⟩,c4⟩,c5⟩:=fY;have e:(live && !Zar τ i)=live:=by rw[c4];simp
   rw[e] at ih;have F:=λ(v:Value) (hy:YieldsIf P cu S o v a)=>ZdH (Lv:=λ b l=>b=true/\∀ k∈Zdc cu τ [i],l.getD k true=false) ho hs (λ c a w=>hQ c a _ v w) c4 (λ _ _ _ h1 h2=>h2 h1.1) (λ lv l j oj h1 jS hj pU=>Zh5 c5 h1 jS hj pU) r.length bV live a w
    (λ j oj=>Region.free_spec ho c2 j oj) (by simpa using c1) hy ⟨c3,ZgH c5⟩ hS
   by_cases hw:Region.wanted o (yielded cu a.tmps)=true
   ·rw[if_pos hw,if_pos k0] at h;obtain⟨v,hv,h⟩:=h;exact F v (Or.inl ⟨hw,hv⟩) (ih _ _ _ hS h)
   ·rw[if_neg hw] at h;exact F undef (Or.inr ⟨by simpa using hw,rfl⟩) (ih _ _ _ hS h)
  ·rw[if_neg k0] at fY;by_cases k3:k=3
   ·rw[if_pos k3] at fY;simp only[Bool.and_eq_true,Bool.not_eq_true'] at fY;obtain⟨⟨c1,c2⟩,c4⟩:=fY;have e:(live && !Zar τ i)=live:=by rw[c4];simp
    rw[e] at ih;have F:=λ(v:Value) (hy:YieldsIf P cu (λ _=>True) o v a)=>ZdH ho hs (λ c a w=>hQ c a _ v w) c4 (Lv:=λ _ _=>True) (λ _ _ _ _ _=>trivial) (λ _ _ _ _ _ _ _ _=>trivial) r.length bV live a w
     (λ j oj=>Region.free_spec ho c2 j oj) (by simpa using c1) hy trivial hS
    by_cases hw:Region.wanted o (yielded cu a.tmps)=true
    ·rw[if_pos hw,if_neg k0,if_pos k3] at h;obtain⟨v,hv,h⟩:=h;exact F v (Or.inl ⟨hw,λ w' _=>hv w'⟩) (ih _ _ _ hS h)
    ·rw[if_neg hw] at h;exact F undef (Or.inr ⟨by simpa using hw,rfl⟩) (ih _ _ _ hS h)
   ·rw[if_neg k3] at fY;by_cases k1:k=1
    ·rw[if_pos k1] at fY;simp only[Bool.and_eq_true,Bool.not_eq_true',beq_iff_eq] at fY;obtain⟨⟨c1,c3⟩,c4⟩:=fY;refine ZeX c1 ?_;have e:(live && !Zar τ i)=true:=by rw[c4,c3];rfl
     rw[e] at ih ⊢;unfold wpOp;simp only[ho];by_cases hw:Region.wanted o (yielded cu a.tmps)=true
     ·rw[if_pos hw,if_neg k0,if_neg k3,if_pos k1] at h;rw[if_pos hw];exact .inl (Oper.wp_mono (λ a' w' ⟨S',h1,h2,h3⟩=>⟨λ _=>h1 _ h2,Zev h1 _ _ _ _ _ (ih S' _ _ (λ _=>h2) h3)⟩) h)
     ·rw[if_neg hw] at h ⊢;exact⟨λ _=>hS c3,ih _ _ _ (λ _=>hS c3) h⟩
    ·rw[if_neg k1] at fY;simp only[Bool.and_eq_true,beq_iff_eq] at fY;obtain⟨c1,c4⟩:=fY;refine ZeX c1 ?_;have e:(live && !Zar τ i)=false:=by rw[c4];simp
     rw[e] at ih ⊢;unfold wpOp;simp only[ho];by_cases hw:Region.wanted o (yielded cu a.tmps)=true
     ·rw[if_pos hw,if_neg k0,if_neg k3,if_neg k1] at h;rw[if_pos hw];exact .inl (Oper.wp_mono (λ a' w' h3=>⟨λ hf=>(by cases hf),ih S _ _ (λ hf=>(by cases hf)) h3⟩) h)
     ·rw[if_neg hw] at h ⊢;exact⟨λ hf=>(by cases hf),ih _ _ _ (λ hf=>(by cases hf)) h⟩
theorem Zis{id:Nat}{a:Act}{w:World}(S:World->Prop)(σ : List (Nat × Nat))(hm:P.follows .mixedOrders=true)
  (hc:(Region.noSelect cu&&(σ.length==cu.size&&ZcC cu σ σ (Array.replicate cu.size false) true))=true)
  (hQ:∀ c a (d:Option Tmp) v w,Q (.panic c) (a.put d v) w->Q (.panic c) a w) (hS:S w.drew)
  (h:S w.drew->Z5 P cu Q σ S a w.drew):(Code.region id cu true).wp P Q a w:=by
 simp only[Bool.and_eq_true,beq_iff_eq] at hc;obtain⟨h1,h2,h3⟩:=hc;have hw:=Zek h1 hQ σ σ S _ true a _ h3 (λ _=>hS) (h hS);rw[h2] at hw;exact wp_region_any hm (ZeW _ _ _ _ _ hw)
end
theorem ZSg{P:Program}{cu:Array Oper}{Q:Exit->Act->World->Prop}{id:Nat}{a:Act}{w:World}(S:World->Prop)(σ : List (Nat × Nat))(hS:S w.drew)(h:S w.drew->Z5 P cu (NoPanic Q) σ S a w.drew)(hm:P.follows .mixedOrders=true:=by kernel_rfl)
  (hc:(Region.noSelect cu&&(σ.length==cu.size&&ZcC cu σ σ (Array.replicate cu.size false) true))=true:=by kernel_rfl):(Code.region id cu true).wp P Q a w:=wp_region_noPanic (Zis S σ hm hc (λ _ _ _ _ _ h=>h) hS h)
theorem ZSi{P:Program}{cu:Array Oper}{Q:Exit->Act->World->Prop}{id:Nat}{a:Act}{w:World}(σ : List (Nat × Nat))(h:Kept w.heap.size w w.drew->Z5 P cu (NoPanic Q) σ (λ w'=>Kept w.heap.size w w') a w.drew)(hm:P.follows .mixedOrders=true:=by kernel_rfl)
  (hc:(Region.noSelect cu&&(σ.length==cu.size&&ZcC cu σ σ (Array.replicate cu.size false) true))=true:=by kernel_rfl):(Code.region id cu true).wp P Q a w:=ZSg (λ w'=>Kept w.heap.size w w') σ (Kept.drew ⟨ZW _ _,ZL _⟩) h hm hc
end
theorem ZeF(g:Nat):∀ (vs:List Value) (i:Nat) (w:World),w.setCells g i vs=setAll w g i vs
 | [],_,_=>rfl
 | _::vs,i,_=>ZeF g vs (i+1) _
theorem ZfP(w:World)(g i:Nat)(vs:List Value):w.grownBy (setAll w g i vs) (some g):=by
 obtain⟨h1,h2,h3⟩:=Zb6 (g:=g) vs i w;exact⟨h1,h2,h3,by rw[ZaR];exact ZL _,λ k _ hk=>Zaj (λ e=>hk (by rw[e])) vs i w⟩
theorem ZeH{P:Program}(w:World)(t e ty:TypeId)(z:Value)(ht:P.underlying t=some (.slice e))(hv:∀ w,(zeroValue e).run P w = .ok z w)(h1:∀ v∈z.cells.toList,v.oneCell'=true)(b o n c:Nat)(hn:0<n)
  (hc:∀ j,j<n*z.cells.size->(w.cell? ⟨b,o+j,none⟩).isSome=true) (hf:∀ j,j<n*z.cells.size->w.frozen? ⟨b,o+j,none⟩=false) :
  (Builtin.clear_ #[t] ty #[.slice (some ⟨b,o,none⟩) n c]).run P w = .ok (.tuple #[]) (setAll w b o (Builtin.zeroCells z.cells n).toList):=by
 have dL:(Builtin.zeroCells z.cells n).toList.length=n*z.cells.size:=by simpa using size_zeroCells z.cells n
 have ed:=run_storeCells_cells (P:=P) b o (Builtin.zeroCells z.cells n).toList 0 w (by rw[dL];simpa using hc) (by rw[dL];simpa using hf) (by
  intro v IP;simp only[Builtin.zeroCells,Array.toList_map,List.mem_map] at IP;obtain⟨i,hi,rfl⟩:=IP;have SG:i<n*z.cells.size:=by simpa using hi
  have hp:0<z.cells.size:=by
   rcases Nat.eq_zero_or_pos z.cells.size with h | h
   ·rw[h] at SG;omega
   ·exact h
  have hm:i%z.cells.size<z.cells.size:=Nat.mod_lt _ hp;rw[getElem!_pos z.cells _ hm]
  exact h1 _ ZM)
 simp only[Nat.add_zero] at ed;rw[ZeF] at ed;obtain⟨m,rfl⟩:∃ m,n=m+1:=⟨n-1,ZO⟩;simp[Builtin.clear_,run_underlying ht,hv,ed]
theorem Zdv{P:Program}(w:World)(t ty e:TypeId)(i0:TypeInfo)(ht:P.underlying t=some (.slice e))(hi:P.info? e=some i0)(g cap sz i m c:Nat)(hs:i0.size=sz)(a:Addr)(cur:List Value)(news:List Value)
  (hg:Blk w g e cur.toArray) (hl:news.length=m*sz) (hn:∀ j u,news[j]? = some u->w.cell? (a.add j)=some u) (h1:∀ u∈news,u.oneCell'=true) (qF:i+m<=cap) (hc:cur.length=cap*sz) :
  (Builtin.append_ #[t,t] ty #[.slice (some ⟨g,0,none⟩) i cap,.slice (some a) m c]).run P w = .ok (.slice (some ⟨g,0,none⟩) (i+m) cap) (setAll w g (i*sz) news):=by
 subst hs;have L3:(i+m)*i0.size<=cap*i0.size:=Nat.mul_le_mul_right _ qF;rw[Nat.add_mul] at L3
 have hr:=run_append_room_cells (P:=P) w t ty e i0 ht hi g 0 i cap a m c news hl hn h1 qF (λ j hj=>by
  rw[hg.cell,ZD,ZX (by rw[hc];omega)]
  rfl) (λ j _=>hg.frozen _)
 rw[Nat.zero_add,ZeF] at hr;exact hr
theorem Zjz{w:World}{base e sz n cap g i j:Nat}{xs zs:List Value}(h:w.ownsRow base e sz (.slice (some ⟨g,0,none⟩) n cap) n xs)(oD:i<=j)(AX:j<=n)(hz:zs.length=(j-i)*sz):
  (setAll (setAll w g (i*sz) (xs.drop (j*sz))) g ((i+(n-j))*sz) zs).ownsRow base e sz (.slice (some ⟨g,0,none⟩) (i+(n-j)) cap) (i+(n-j)) (xs.take (i*sz)++xs.drop (j*sz)) /\
   w.grownBy (setAll (setAll w g (i*sz) (xs.drop (j*sz))) g ((i+(n-j))*sz) zs) (some g):=by
 obtain⟨h1,h2⟩:=h;rcases h2 with ⟨h2,_⟩|⟨g',cap',cur,he,hb,hh,eH,ic,gz,js⟩
 ·cases h2
 ·injection he with fl oZ mJ
  injection fl with fl
  injection fl with fl
  subst fl mJ;have m1:i*sz<=j*sz:=Nat.mul_le_mul_right _ oD;have m2:j*sz<=n*sz:=Nat.mul_le_mul_right _ AX;have m3:n*sz<=cap*sz:=Nat.mul_le_mul_right _ eH;have m4:(i+(n-j))*sz+(j-i)*sz=n*sz:=by rw[←Nat.add_mul];congr 1;omega
  have m5:(i+(n-j))*sz=i*sz+(n*sz-j*sz):=by rw[Nat.add_mul,Nat.sub_mul]
  have hd:(xs.drop (j*sz)).length=n*sz-j*sz:=by rw[List.length_drop,h1]
  have bY:Blk w g e cur.toList.toArray:=by rw[Array.toArray_toList];exact hh
  have bS:=Zba (xs.drop (j*sz)) (i*sz) w cur.toList bY (by rw[hd,Array.length_toList,gz];omega);have mL:(cur.toList.take (i*sz)++xs.drop (j*sz)++cur.toList.drop (i*sz+(xs.drop (j*sz)).length)).length=cap*sz:=by
   simp only[ZI,ZV,List.length_drop,Array.length_toList,gz,h1];omega
  generalize hL:cur.toList.take (i*sz)++xs.drop (j*sz)++cur.toList.drop (i*sz+(xs.drop (j*sz)).length)=L at bS mL;have bW:=Zba zs ((i+(n-j))*sz) _ L bS (by rw[hz,mL];omega);have hx:cur.toList.take (n*sz)=xs:=js;have ht:cur.toList.take (i*sz)=xs.take (i*sz):=by rw[←hx,List.take_take];congr 1;omega
  have F6:L.take ((i+(n-j))*sz)=xs.take (i*sz)++xs.drop (j*sz):=by
   rw[←hL,ht];have hlen:(xs.take (i*sz)++xs.drop (j*sz)).length=(i+(n-j))*sz:=by
    simp only[ZI,ZV,List.length_drop,h1];omega
   rw[←hlen];exact List.take_left
  refine⟨⟨?_,.inr ⟨g,cap,_,rfl,hb,bW,ZO,ic,?_,?_⟩⟩,ZcB (ZfP w g _ _) (ZfP _ g _ _)⟩
  ·simp only[ZI,ZV,List.length_drop,h1];omega
  ·simp only[List.size_toArray,ZI,ZV,List.length_drop,hz,mL];omega
  ·have e1:(L.take ((i+(n-j))*sz)++zs++L.drop ((i+(n-j))*sz+zs.length)).toArray.toList=L.take ((i+(n-j))*sz)++(zs++L.drop ((i+(n-j))*sz+zs.length)):=ZM;rw[e1,List.take_append_of_le_length (by rw[ZV,mL];omega),List.take_take,Nat.min_self,F6]
theorem ZhK(es:List Ev)(i:Nat):evCells (es.take i)=(evCells es).take (i*12)/\evCells (es.drop i)=(evCells es).drop (i*12):=by
 have h:=Zbj (es.take i) (es.drop i);rw[List.take_append_drop] at h;rcases Nat.lt_or_ge es.length i with hi | hi
 ·rw[List.drop_eq_nil_of_le ZO,List.drop_eq_nil_of_le (by rw[Zao];omega),ZU ZO,ZU (by rw[Zao];omega)];exact⟨rfl,rfl⟩
 ·have hl:(evCells (es.take i)).length=i*12:=by rw[Zao,ZV,Nat.min_eq_left hi]
  rw[h,←hl];exact⟨List.take_left.symm,List.drop_left.symm⟩
theorem Zda(g:Nat):∀ (vs:List Value) (i:Nat) (w:World),setAll w.drew g i vs=(setAll w g i vs).drew
 | [],_,_=>rfl
 | v::vs,i,w=>Zda g vs (i+1) (w.setCell ⟨g,i,none⟩ v)
theorem ZoQ{w:World}{base n cap g i j:Nat}{es:List Ev}(h:w.ownsRow base 89 12 (.slice (some ⟨g,0,none⟩) n cap) n (evCells es))(oD:i<=j)(AX:j<=n)(hn:n<=1000000):
  Calls prog 177 #[.slice (some ⟨g,0,none⟩) n cap,.int .i64 i,.int .i64 j] w λ r w'=>r = .returned (.slice (some ⟨g,0,none⟩) (i+(n-j)) cap)/\w'.ownsRow base 89 12 (.slice (some ⟨g,0,none⟩) (i+(n-j)) cap) (i+(n-j)) (evCells (es.take i++es.drop j))/\w.grownBy w' (some g):=by
 obtain⟨i0,hi,cM,cG,cK⟩:=info_parts Zbv;have hlen:=h.1;have mu:n<=cap/\cap<=maxLen:=by
  rcases h.2 with ⟨h2,_⟩|⟨g',cap',cur,he,_,_,eH,ic,_⟩
  ·cases h2
  ·injection he with _ _ mJ;subst mJ;exact⟨eH,ic⟩
 obtain⟨eH,ic⟩:=mu;unfold maxLen at ic;have s6:evCells (es.take i++es.drop j)=(evCells es).take (i*12)++(evCells es).drop (j*12):=by rw[Zbj,(ZhK es i).1,(ZhK es j).2]
 rw[s6];have H1:=ZH (Zbi es);generalize evCells es=xs at *;rcases Nat.eq_or_lt_of_le oD with rfl | ce
 ·have e1:i+(n-i)=n:=ZO;have e2:xs.take (i*12)++xs.drop (i*12)=xs:=List.take_append_drop _ _;rw[e1,e2];have H:=ZH h;clear h e1 e2 hlen;have SI:((i:Int)==(i:Int))=true:=ZM;rcases Nat.eq_or_lt_of_le AX with rfl | ce
  all_goals
   go_enter func177,ntmps177;go_wp2
   go_ret;exact⟨rfl,H.out,Zgc _ _⟩
 ·have dz:((i:Int)==(j:Int))=false:=ZP;obtain⟨cT,jz⟩:=Zjz (i:=i) (j:=j) (zs:=(Builtin.zeroCells Zj (j-i)).toList) h oD AX (by simp[size_zeroCells]);have uG:i<n:=ZO;have eX:∀ ty,(Builtin.clear_ #[128] ty #[.slice (some ⟨g,(i+(n-j))*12,none⟩) (n-(i+(n-j))) (cap-(i+(n-j)))]).run prog (setAll w.drew g (i*12) (xs.drop (j*12))) = .ok (.tuple #[]) (setAll (setAll w.drew g (i*12) (xs.drop (j*12))) g ((i+(n-j))*12) (Builtin.zeroCells Zj (j-i)).toList):=by
   intro ty;have e1:n-(i+(n-j))=j-i:=ZO;rw[e1];rcases h.2 with ⟨h2,_⟩|⟨g',cap',cur,he,_,hh,_,_,gz,_⟩
   ·cases h2
   ·injection he with fl _ mJ
    injection fl with fl
    injection fl with fl
    subst fl mJ;have bY:Blk w.drew g 89 cur.toList.toArray:=by rw[Array.toArray_toList];exact hh
    have hd:(xs.drop (j*12)).length=(n-j)*12:=by rw[List.length_drop,hlen,Nat.sub_mul]
    have bS:=Zba (xs.drop (j*12)) (i*12) w.drew cur.toList bY (by rw[hd,Array.length_toList,gz];omega);refine ZeH _ 128 89 ty (.agg Zj) underlying128 ZrK (by intro v hv;exact Zbi [⟨0,0,⟨0,0,0,0,0⟩,0,0,⟨#[]⟩,0,⟨#[]⟩⟩] v (by simpa [evCells,evArr,Value.cells,Zj] using hv)) g _ (j-i) _ ZO (λ k hk=>?_) (λ k _=>bS.frozen _)
    rw[bS.cell,ZD,ZX (by
     have jB:k<(j-i)*12:=hk;simp only[ZI,ZV,List.length_drop,Array.length_toList,gz,hlen]
     omega)]
    rfl
  obtain⟨HO,HG,H,sv⟩:=ZH4 cT jz h eX;clear cT jz h hlen eX;go_enter func177,ntmps177;go_wp2_with fail;have SJ:(j:Int)<=(cap:Int):=ZO;have SH:(i:Int)<=(cap:Int):=ZO;have LH:i<=cap:=ZO;have LJ:(j:Int)<=(n:Int):=ZO;have R9:(0:Int)<=(i:Int):=ZO;have Sa:(0:Int)<=(j:Int):=ZO;have km:(n:Int)<=(cap:Int):=ZO;have em:∀ ty,(Builtin.append_ #[128,128] ty #[.slice (some ⟨g,0,none⟩) i cap,.slice (if cap=j then some ⟨g,0,none⟩ else some ⟨g,j*12,none⟩) (n-j) (cap-j)]).run prog w.drew = .ok (.slice (some ⟨g,0,none⟩) (i+(n-j)) cap) (setAll w.drew g (i*12) (xs.drop (j*12))):=by
   intro ty;have hx:=H.out.1;have eX:∀ k u,xs[k]? = some u->w.drew.cell? ((⟨g,0,none⟩:Addr).add k)=some u:=H.out.cells (g:=g) rfl;rcases H.out.2 with ⟨h2,_⟩|⟨g',cap',cur,he,_,hh,_,_,gz,_⟩
   ·cases h2
   ·injection he with fl _ mJ
    injection fl with fl
    injection fl with fl
    subst fl mJ;have bY:Blk w.drew g 89 cur.toList.toArray:=by rw[Array.toArray_toList];exact hh
    have jJ:(xs.drop (j*12)).length=(n-j)*12:=by rw[List.length_drop,hx,Nat.sub_mul]
    by_cases ru:cap=j
    ·rw[if_pos ru];have h0:n-j=0:=ZO
     exact Zdv w.drew _ ty 89 i0 underlying128 hi g cap 12 i (n-j) (cap-j) cG ⟨g,0,none⟩ cur.toList (xs.drop (j*12)) bY jJ (λ k u hk=>by
      rw[List.getElem?_eq_none (by rw[jJ,h0];omega)] at hk
      cases hk) (λ u hu=>H1.out u (List.mem_of_mem_drop hu)) ZO (by rw[Array.length_toList,gz])
    ·rw[if_neg ru]
     exact Zdv w.drew _ ty 89 i0 underlying128 hi g cap 12 i (n-j) (cap-j) cG ⟨g,j*12,none⟩ cur.toList (xs.drop (j*12)) bY jJ (λ k u hk=>by
      have:=eX (j*12+k) u (by rw[←hk,List.getElem?_drop]);have e1:(⟨g,j*12,none⟩:Addr).add k=(⟨g,0,none⟩:Addr).add (j*12+k):=by
       unfold Addr.add;by_cases h1:k=0 <;> by_cases h2:j*12+k=0 <;> simp[h1,h2] <;> omega
      rw[e1]
      exact this) (λ u hu=>H1.out u (List.mem_of_mem_drop hu)) ZO (by rw[Array.length_toList,gz])
  have iS:=ZH em;clear em;refine ZSh (λ w'=>Kept w.heap.size w w') [(0,3),(1,3),(2,3),(3,3),(4,3),(5,3),(6,2),(7,3)] (Kept.drew ⟨ZW _ _,ZL _⟩) λ bR=>?_
  repeat((first | refine ZSa ?_ | refine ZSb ?_ | refine ZSc ?_);simp only[Act.put,ZA,ZB,ZC])
  refine ZSe λ K hK=>?_
  refine Lib.wp_append_run _ (.tmp 22) (.tmp 25) _ _ rfl _ _ rfl rfl _ _ (iS.out _) ?_;refine hK.out _ _ ?_;clear hK K;obtain⟨w3,oR⟩:∃ w3,w3=setAll w.drew g (i*12) (xs.drop (j*12)):=⟨_,rfl⟩;have nJ:=ZH oR;rw[←oR] at sv ⊢;clear oR;repeat((first | refine ZSa ?_ | refine ZSb ?_ | refine ZSc ?_);simp only[Act.put,ZA,ZB,ZC])
  refine ZSf ?_;have eX:=sv.out;go_wp2_with fail
  all_goals(try (have ru:cap=j:=by assumption);try subst ru)
  all_goals
   go_ret;rw[nJ.out,Zda,Zda];exact⟨rfl,Zh HO.out (λ _ _ _=>rfl),ZcB HG.out ⟨rfl,rfl,rfl,ZL _,λ _ _ _=>rfl⟩⟩
abbrev outArr(most batch sent:Nat)(v:Value):Array Value:=#[.int .i64 most,.int .i64 batch,.int .i64 sent,v]
structure OutboxAt(own:Own)(t:Nat)(w:World)(p:Nat)(most batch sent:Nat)(wait:List Ev):Prop where
 mine:own p=t
 ex:∃ v,Blk w p 216 (outArr most batch sent v)/\RowAt own t w v wait
theorem OutboxAt.upd{T:Nat->Prop}{own own':Own}{w w':World}{t p most batch sent:Nat}{wait:List Ev}(h:OutboxAt own t w p most batch sent wait)(hu:Upd T own own' w w')(ht:¬ T t):OutboxAt own' t w' p most batch sent wait:=by
 obtain⟨h1,v,h2,h3⟩:=h;exact⟨by rw[hu.old p h2.lt];exact h1,v,h2.upd hu (by rw[h1];exact ht),h3.upd hu ht⟩
theorem EvSl.cut{w:World}{a:Option Addr}{n cap:Nat}{es:List Ev}(h:EvSl w a n cap es){k cap':Nat}(hk:k<=n)(hc:k<=cap')(hm:cap'<=maxLen):EvSl w a k cap' (es.take k):=by
 refine⟨hc,hm,by rw[ZV,h.2.2.1,Nat.min_eq_left hk],?_⟩;rcases h.2.2.2 with h' | ⟨b,off,h1,h2,h3⟩
 ·exact .inl ZO
 ·refine .inr ⟨b,off,h1,h2,λ i e he j hj=>h3 i e ?_ j hj⟩;rw[List.getElem?_take] at he;split at he
  ·exact he
  ·cases he
theorem Blk.four{w:World}{g:Nat}{t:TypeId}{v0 v1 v2 v3:Value}(h:Blk w g t #[v0,v1,v2,v3]):w.cell? ⟨g,0,none⟩=some v0/\w.cell? ⟨g,1,none⟩=some v1/\w.cell? ⟨g,2,none⟩=some v2/\w.cell? ⟨g,3,none⟩=some v3 :=
 ⟨h.cell 0,h.cell 1,h.cell 2,h.cell 3⟩
theorem Zn1(most batch sent:Nat)(w:World):Calls prog 128 #[.int .i64 most,.int .i64 batch,.int .i64 sent] w λ r w'=>∃ p,r = .returned (.pointer (some ⟨p,0,none⟩))/\w.heap.size<=p/\Blk w' p 216 (outArr most batch sent (.slice none 0 0))/\Below w.heap.size w w':=by
 go_enter func128,ntmps128;go_wp2
 go_ret;exact⟨w.heap.size,rfl,ZL _,ZBn _ _ _,(ZW _ _).alloc (ZL _) _⟩
theorem ZhX{own:Own}{t p most batch sent:Nat}{wait:List Ev}{w:World}(h:OutboxAt own t w p most batch sent wait):Calls prog 64 #[.pointer (some ⟨p,0,none⟩)] w (Zv (.bool (decide (wait.length<most))) w):=by
 obtain⟨_,vh,hb,hr⟩:=h;obtain⟨a,cap,rfl,_⟩:=EvSl.ab hr.row;have HB:=ZH hb;clear hb hr;go_enter func64,ntmps64;go_wp2_with fail;refine ZSh (λ w'=>Blk w' p 216 (outArr most batch sent (.slice a wait.length cap))) [(0,3),(1,0),(2,3),(3,0),(4,3),(5,3),(6,0),(7,3),(8,0),(9,3),(10,3)] (HB.out.drew) λ bR=>?_
 repeat((first | refine ZSa ?_ | refine ZSb ?_ | (refine Zf rfl (by rfl) (λ w' ci=>by obtain⟨c0,c1,c2,c3⟩:=ci.four;go_simp;with_reducible rfl) ?_));simp only[Act.put,ZA,ZB,ZC])
 refine ZSf ?_;go_wp2
 go_ret;exact⟨ZM,(ZW _ _).drew⟩
theorem Zn0{own:Own}{t p most batch sent:Nat}{wait:List Ev}{w:World}(h:OutboxAt own t w p most batch sent wait):Calls prog 73 #[.pointer (some ⟨p,0,none⟩)] w (Zv (.int .i64 wait.length) w):=by
 obtain⟨_,vh,hb,hr⟩:=h;obtain⟨a,cap,rfl,_⟩:=EvSl.ab hr.row;obtain⟨c0,c1,c2,c3⟩:=hb.four;have ce:=hb.lt;clear hb hr;go_enter func73,ntmps73;go_wp2
 go_ret;exact⟨rfl,ZW _ _⟩
theorem Zlx{own:Own}{t p most batch sent:Nat}{wait:List Ev}{w:World}(h:OutboxAt own t w p most batch sent wait)(hn:wait.length<=1000000):Calls prog 75 #[.pointer (some ⟨p,0,none⟩)] w (Zel (wait.take batch) w):=by
 obtain⟨_,vh,hb,hr⟩:=h;obtain⟨a,cap,rfl,hs⟩:=EvSl.ab hr.row;have qo:wait.length<=cap:=hs.1
 have H0:∃ k,k=min batch wait.length/\k<=wait.length/\wait.take k=wait.take batch:=⟨_,rfl,Nat.min_le_right _ _,by
  rcases Nat.le_total batch wait.length with h | h
  ·rw[Nat.min_eq_left h]
  ·rw[Nat.min_eq_right h,ZU (ZL _),ZU h]⟩
 obtain⟨k,hk,kj,js⟩:=H0;have fB:=hs.cut (k:=k) (cap':=k) kj (ZL _) (by unfold maxLen;omega);rw[js] at fB;obtain⟨HC,HB⟩:=ZH2 (fB.below ((ZW _ w).drew)) hb;have wD:(k:Int)<=(cap:Int):=ZO;have cA:(0:Int)<=(k:Int):=ZO;have jh:∀ w ts t,(Builtin.min_ ts t #[.int .i64 (if (0:Int)>(batch:Int) then(0:Int) else(batch:Int)),.int .i64 ((wait.length:Nat):Int)]).run prog w = .ok (.int .i64 (k:Int)) w:=by
  intro w ts t;rw[run_min_int2];congr 2;split <;> split <;> omega
 have LZ:min (batch:Int) (wait.length:Int)=(k:Int):=ZO;have L0:max (0:Int) (batch:Int)=(batch:Int):=ZO;have wM:max (batch:Int) (0:Int)=(batch:Int):=ZO;clear hb hr fB hs hk js;go_enter func75,ntmps75;go_wp2_with fail;refine ZSh (λ w'=>Blk w' p 216 (outArr most batch sent (.slice a wait.length cap))) [(0,3),(1,0),(2,3),(3,0),(4,3),(5,3),(6,0),(7,3),(8,0),(9,3),(10,3),(11,3)] (HB.out.drew) λ bR=>?_
 repeat((first | refine ZSa ?_ | refine ZSb ?_ | (refine Zf rfl (by rfl) (λ w' ci=>by obtain⟨c0,c1,c2,c3⟩:=ci.four;go_simp;with_reducible rfl) ?_));simp only[Act.put,ZA,ZB,ZC])
 refine ZSf ?_;have bW:=HB.out.drew;obtain⟨c0,c1,c2,c3⟩:=bW.four;have ce:=bW.lt;clear bW;go_wp2_with fail;refine(Zk0 HC.out ZO).mono ?_;rintro r w1 ⟨v1,rfl,eZ,bS⟩;obtain⟨HO,cL⟩:=ZH2 eZ bS;clear eZ bS;go_wp2
 go_ret;exact⟨v1,rfl,HO.out,(ZW _ _).drew.trans cL.out⟩
theorem Upd.grow{T:Nat->Prop}{t:Nat}{own cF:Own}{w w1 w2:World}{v v':Value}(hu:Upd T own cF w w1)(hT:T t)(hv:∀ g,v.ownBlock=some g->cF g=t)(IP:∀ g,v'.ownBlock=some g->g<w2.heap.size)
  (hg:w1.grownBy w2 v.ownBlock) (iL:v'.ownBlock=v.ownBlock∨v'.ownBlock=some w1.heap.size):Upd T own (cF.put v' t) w w2/\∀ b,b<w1.heap.size->cF.put v' t b=cF b:=by
 have iC:∀ b,b<w1.heap.size->cF.put v' t b=cF b:=λ b hb=>by
  unfold Own.put;split
  ·rename_i he;rcases iL with h | h
   ·rw[h] at he;exact(hv b he).symm
   ·rw[h] at he;injection he with he;omega
  ·rfl
 refine⟨⟨hg.os.trans hu.os,hg.tape.trans hu.tape,hg.output.trans hu.output,ZT hu.size hg.size,λ b hb=>(iC b (ZR hb hu.size)).trans (hu.old b hb),λ b hb hn=>?_,λ b hb=>?_⟩,iC⟩
 ·refine(hg.block b (ZR hb hu.size) (λ e=>?_)).trans (hu.same b hb hn);have:=hv b e.symm;rw[hu.old b hb] at this;exact hn (by rw[this];exact hT)
 ·unfold Own.put;rw[if_neg (λ e=>by have:=IP b e;omega)];exact hu.fresh b (ZT hg.size hb)
def lastOf(sent:Nat)(wait:List Ev):Nat:=match wait.getLast? with | some x=>x.n | none=>sent
theorem ZiZ{own:Own}{t p most batch sent:Nat}{wait:List Ev}{w:World}(h:OutboxAt own t w p most batch sent wait)(hf:Fresh own w)(e:Ev)(qF:wait.length<most)(hm:wait.length<=1000000)(hl:lastOf sent wait<2000000)(he:e.n=lastOf sent wait+1):
  Calls prog 70 #[.pointer (some ⟨p,0,none⟩),Zaa e] w λ r w'=>r = .returned (.int .i64 0)/\∃ own',OutboxAt own' t w' p most batch sent (wait++[e])/\Upd (· = t) own own' w w':=by
 have el:=(ZW w.heap.size w).alloc (ZL _) (.cells (evArr e) 89);have HU:Hid (Upd (· = t) own own w (w.alloc (.cells (evArr e) 89))):=ZH (ZUb el hf);obtain⟨fD,v,hb,hr⟩:=h;have H1:Hid (OutboxAt own t (w.alloc (.cells (evArr e) 89)) p most batch sent wait):=ZH (⟨fD,v,hb.ob el,Ze hr.row (el.mono (ZL _)),hr.own⟩);have HX:=ZH (ZBn w 89 (evArr e));have IJ:p<w.heap.size:=hb.lt;obtain⟨i0,hi,cM,cG,cK⟩:=info_parts Zbv;have HM:=ZH fD;have cA:w.heap.size<(w.alloc (.cells (evArr e) 89)).heap.size:=ZM;have HE:=ZH he;clear el hr hb fD he;have kT:decide (wait.length<most)=true:=by simp[qF]
 go_enter func70,ntmps70;go_wp2_with fail;generalize w.alloc (.cells (evArr e) 89)=w0 at *;refine(ZhX H1.out).mono ?_;rintro r w1 ⟨rfl,bS⟩;rw[kT];have h2:OutboxAt own t w1 p most batch sent wait:=H1.out.upd (ZUb (T:=λ n=>n≠t) bS HU.out.fresh) (λ h=>h rfl);have nE:=HX.out.ob bS;have dc:=ZH (HU.out.kept bS);obtain⟨_,v2,bW,dC⟩:=h2;obtain⟨a2,dg,rfl,jk⟩:=EvSl.ab dC.row;have uJ:∀ n m,(Value.slice a2 n dg).ownBlock=(Value.slice a2 m dg).ownBlock:=λ n m=>by rcases a2 with _ | ⟨b,o,_ | k⟩ <;> rfl
 have qZ:=ZH uJ;clear uJ;obtain⟨c0,c1,c2,c3⟩:=bW.four;obtain⟨e0,e1,e2,e3,e4,e5,e6,e7,e8,e9,iJ,ja⟩:=nE.ae;have ce:=bW.lt;have gp:=nE.lt;obtain⟨V,hV⟩:∃ V,V=Value.slice a2 wait.length dg:=⟨_,rfl⟩;have nH:=ZH dC.row;rw[←hV] at bW dC;have HV:=ZH hV;clear hV;obtain⟨HS,cH,eU,pz⟩:=ZH4 jk bW dC nE;clear jk bW dC nE;have jj:((e.n:Int)==((lastOf sent wait:Nat):Int)+1)=true:=by have:=HE.out;simp;omega
 have xC:Hid ((wait++[e]).length=wait.length+1):=ZH (ZM);have hz:evCells (wait++[e])=evCells wait++(evArr e).toList:=by rw[Zbj];simp[evCells]
 have HZ:=ZH hz;clear hz;rcases List.eq_nil_or_concat wait with hw | ⟨wl,x,hw⟩
 focus
  have nS:lastOf sent wait=sent:=by rw[hw];rfl
  have qI:wait.length=0:=by rw[hw];rfl
  rw[nS] at jj hl;clear hw nS;go_wp2_with fail;have fJ:∃ n0,n0=wait.length/\n0=0:=⟨0,qI.symm,rfl⟩
 rotate_left
 focus
  have nS:lastOf sent wait=x.n:=by rw[hw];simp[lastOf]
  have qI:0<wait.length:=by rw[hw];simp
  have iL:=HS.out.at_ (i:=wait.length-1) (e:=x) (by rw[hw];simp);obtain⟨bb,off,rfl,cQ,_,OT,_⟩:=iL;have wC:(0:Int)<(wait.length:Int):=ZO;rw[nS] at jj hl;have lM:((wait.length:Int)-1).toNat=wait.length-1:=ZO;have wL:(0:Int)<=(wait.length:Int)-1:=ZO;have jh:(wait.length:Int)-1<(wait.length:Int):=ZO;clear hw nS;go_wp2_with fail
 rotate_left
 all_goals
  refine ZSi [(0,3),(1,3),(2,0),(3,3),(4,0),(5,0),(6,1),(7,2),(8,3),(9,3),(10,2)] λ bR=>?_
  repeat((first | refine ZSa ?_ | refine ZSb ?_ | refine ZSc ?_);simp only[Act.put,ZA,ZB,ZC])
  refine ZSd λ K hK=>?_
  go_simp;refine hK.out (λ w'=>Kept w1.heap.size w1 w') _ _ (λ _ h=>h) (bR.alloc _) (λ bT=>?_);clear hK K bR;repeat((first | refine ZSa ?_ | refine ZSb ?_ | refine ZSc ?_);simp only[Act.put,ZA,ZB,ZC])
  refine ZSe λ K hK=>?_
  refine ZaT _ (.tmp 39) (.tmp 41) _ rfl 0 89 i0 _ 12 112 underlying128 hi cM cG cK rfl ZO _ _ (evCells wait) rfl (by first | exact Ze nH.out (((ZW w1.heap.size w1).drew.alloc (ZL _) _).mono (ZL _))|(have h:=Ze nH.out (((ZW w1.heap.size w1).drew.alloc (ZL _) (.cells (evArr e) 89)).mono (ZL _));rw[qI] at h;exact h)) (w1.heap.size+1) (some ⟨w1.heap.size,0,none⟩) 1 1 (evArr e).toList rfl (ZbN _ _) (ZaK e) ZF ZO (Nat.zero_le _) ?_;intro v3 w3 dB ir na;have cd:w3.ownsRow 0 89 12 v3 (wait++[e]).length (evCells (wait++[e])):=by
   rw[xC.out,HZ.out];first | exact dB | (rw[qI];exact dB)
  have dn:(w1.drew.alloc (.cells (evArr e) 89)).grownBy w3 V.ownBlock:=by
   rw[HV.out];first | exact ir | (rw[qZ.out wait.length 0];exact ir)
  have jc:(v3.ownBlock=V.ownBlock∨v3.ownBlock=some (w1.drew.alloc (.cells (evArr e) 89)).heap.size):=by
   rw[HV.out];first | exact na | (rw[qZ.out wait.length 0];exact na)
  have fg:=(cH.out.drew.alloc (.cells (evArr e) 89)).grown dn (Ne.symm (Zo eU.out.row cH.out ZJ));have cO:=(dc.out.drew.kept ((ZW _ _).alloc (ZL _) (.cells (evArr e) 89))).grow (t:=t) rfl eU.out.own (λ g hg=>(Zb cd hg).2) dn jc;have pV:(own.put v3 t) p=t:=by
   rw[cO.2 p (by have:=cH.out.lt;simp;omega)];exact HM.out
  obtain⟨a3,dm,rfl,_⟩:=EvSl.ab cd;obtain⟨M,Io⟩:∃ M,M=(wait++[e]).length:=⟨_,rfl⟩;have jl:w3.ownsRow 0 89 12 (.slice a3 M dm) M (evCells (wait++[e])):=by rw[Io];exact cd
  rw[←Io] at cO pV ⊢;obtain⟨oU,jl⟩:=ZH2 Io jl;clear Io;have bU:=fg.cell 3;have gA:=fg.frozen 3;simp only[ZD,ZE,ZG] at bU;have np:=fg.lt;obtain⟨dj,dI,kD⟩:=ZH3 fg cO pV;clear fg cO cd dB ir na dn jc pV;refine hK.out _ _ ?_;clear hK K;repeat((first | refine ZSa ?_ | refine ZSb ?_ | refine ZSc ?_);simp only[Act.put,ZA,ZB,ZC])
  refine ZSe λ K hK=>?_
  go_simp;refine hK.out _ _ ?_;clear hK K;refine ZSf ?_;go_wp2
  go_ret;have hf:=dj.out.ai 3 (.slice a3 M dm);refine⟨rfl,_,⟨kD.out,_,hf,by rw[←oU.out];exact Zh jl.out (λ g hg _=>Below.heap_setCell _ _ _ _ (λ he=>Zo jl.out dj.out ZJ (by rw[hg,he]))),λ g hg=>?_⟩,dI.out.1.setCell (p:=⟨p,3,none⟩) (λ _=>HM.out) _⟩;unfold Own.put;rw[if_pos hg]
theorem Zmu{own:Own}{t p most batch sent upto:Nat}{wait:List Ev}{w:World}(h:OutboxAt own t w p most batch sent wait)(hf:Fresh own w)(hm:wait.length<=1000000)(ce:sent<upto)(fc:upto-sent<=wait.length)(hs:sent<=1000000):
  Calls prog 142 #[.pointer (some ⟨p,0,none⟩),.int .i64 upto] w λ r w'=>r = .returned (.int .i64 upto)/\OutboxAt own t w' p most batch upto (wait.drop (upto-sent))/\Upd (· = t) own own w w':=by
 obtain⟨fD,v,hb,hr⟩:=h;obtain⟨g,cap,hv⟩:∃ g cap,v = .slice (some ⟨g,0,none⟩) wait.length cap:=by
  rcases hr.row.2 with ⟨_,h0⟩|⟨g,cap,cur,h0,_⟩
  ·omega
  ·exact⟨g,cap,h0⟩
 subst hv;obtain⟨n,hn⟩:∃ n,n=wait.length:=⟨_,rfl⟩;obtain⟨k,hk⟩:∃ k,k=upto-sent:=⟨_,rfl⟩;have cB:=hr.row;rw[←hn] at cB hb fc hm;rw[←hk] at fc ⊢;have w1:IntKind.u64.wrap (upto:Int)=(upto:Int):=by rw[IntKind.wrap_u64];omega
 have w2:IntKind.u64.wrap (sent:Int)=(sent:Int):=by rw[IntKind.wrap_u64];omega
 have w3:IntKind.u64.wrap (n:Int)=(n:Int):=by rw[IntKind.wrap_u64];omega
 have w4:IntKind.u64.wrap ((upto:Int)-(sent:Int))=(k:Int):=by rw[IntKind.wrap_u64];omega
 have w5:IntKind.i64.wrap (k:Int)=(k:Int):=by rw[IntKind.wrap_i64];omega
 have wN:(if ((n:Nat):Int)<(k:Int) then((n:Nat):Int) else(k:Int))=(k:Int):=by split <;> omega
 have Fk:min (n:Int) (k:Int)=(k:Int):=ZO;have Fm:min (k:Int) (n:Int)=(k:Int):=ZO;have E6:decide ((upto:Int)<=(sent:Int))=false:=ZP;obtain⟨HR,HB,HO,HF,HM,HN,HK⟩:=ZH7 cB hb hr.own hf fD hn hk;obtain⟨c0,c1,c2,c3⟩:=hb.four;have Fg:=hb.lt;have f2:=hb.frozen 2;have f3:=hb.frozen 3;clear cB hb hr hf fD hn hk;go_enter func142,ntmps142;go_wp2_with fail;refine ZSg (λ w'=>Blk w' p 216 (outArr most batch sent (.slice (some ⟨g,0,none⟩) n cap))) [(0,3),(1,3),(2,3),(3,0),(4,3),(5,0),(6,3),(7,3),(8,3),(9,0),(10,3),(11,0),(12,3),(13,3),(14,3),(15,3),(16,3)] (HB.out.drew) λ bR=>?_
 repeat((first | refine ZSa ?_ | refine ZSb ?_ | (refine Zf rfl (by rfl) (λ w' ci=>by obtain⟨c0,c1,c2,c3⟩:=ci.four;go_simp;with_reducible rfl) ?_));simp only[Act.put,ZA,ZB,ZC])
 refine ZSf ?_;have bW:=HB.out.drew;obtain⟨c0,c1,c2,c3⟩:=bW.four;have ce:=bW.lt;clear bW;go_wp2_with fail;have S0:(sent:Int)+(k:Int)=(upto:Int):=by have:=HK.out;omega
 rw[S0];have nH:Hid ((w.setCell ⟨p,2,none⟩ (.int .i64 upto)).drew.ownsRow 0 89 12 (.slice (some ⟨g,0,none⟩) n cap) n (evCells wait)):=ZH (Zh HR.out (λ g' hg _=>Below.heap_setCell _ _ _ _ (λ he=>Zo HR.out HB.out ZJ (by rw[hg,he]))));have di:Hid (Blk (w.setCell ⟨p,2,none⟩ (.int .i64 upto)).drew p 216 (outArr most batch upto (.slice (some ⟨g,0,none⟩) n cap))):=ZH (HB.out.ai 2 (.int .i64 upto));have mW:Hid (Upd (· = t) own own w (w.setCell ⟨p,2,none⟩ (.int .i64 upto)).drew):=ZH (((Upd.refl _ own w HF.out).setCell (p:=⟨p,2,none⟩) (λ _=>HM.out) _).drew);have rT:Hid (own g=t):=ZH (HO.out g rfl);have B9:g≠p:=λ e=>Zo HR.out HB.out ZJ (by rw[e];rfl)
 have Nn:=ZH B9;clear B9;generalize (w.setCell ⟨p,2,none⟩ (.int .i64 upto)).drew=w1 at *;refine(ZoQ (i:=0) (j:=k) nH.out (Nat.zero_le _) fc hm).mono ?_;rintro r w2 ⟨rfl,dC,eN⟩;have e1:0+(n-k)=n-k:=Nat.zero_add _;have e2:wait.take 0++wait.drop k=wait.drop k:=ZM;rw[e1,e2] at dC;rw[e1];have bW:=di.out.grown eN (λ e=>Nn.out (by injection e with e;exact e.symm));have bU:=bW.cell 3;have oY:=bW.cell 2;have gA:=bW.frozen 3;simp only[ZD,ZE,ZG] at bU oY;have iV:=bW.lt;obtain⟨eU,cH,mT⟩:=ZH3 dC bW eN;clear dC bW eN;go_wp2
 go_ret;have hf:=cH.out.ai 3 (.slice (some ⟨g,0,none⟩) (n-k) cap);have jJ:(wait.drop k).length=n-k:=by rw[List.length_drop,HN.out]
 have cm:Upd (· = t) own own w w2:=⟨mT.out.os.trans mW.out.os,mT.out.tape.trans mW.out.tape,mT.out.output.trans mW.out.output,ZT mW.out.size mT.out.size,λ _ _=>rfl,λ b hb hn=>(mT.out.block b (ZR hb mW.out.size) (λ e=>hn (by injection e with e;rw[e];exact rT.out))).trans (mW.out.same b hb hn),λ b hb=>mW.out.fresh b (ZT mT.out.size hb)⟩;refine⟨rfl,⟨HM.out,_,hf,?_,λ g' hg=>?_⟩,cm.setCell (p:=⟨p,3,none⟩) (λ _=>HM.out) _⟩
 ·rw[jJ];exact Zh eU.out (λ g' hg _=>Below.heap_setCell _ _ _ _ (λ he=>Zo eU.out cH.out ZJ (by rw[hg,he])))
 ·injection hg with hg
  subst hg;exact rT.out
end Go.Proofs.YtjkfognelhiepaaGreat
