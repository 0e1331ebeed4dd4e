import Derived.Test.YtjkfognelhiepaaGreatC07
import Derived.Test.YtjkfognelhiepaaGreatC12
namespace Go.Proofs.YtjkfognelhiepaaGreat
open Go.RowKit _root_.Go.Proofs.Tryz
set_option maxRecDepth 100000
set_option maxHeartbeats 8000000
theorem Zix{a a':Option Addr}{n cap n' cap':Nat}{l:List Nat}{w:World}(h:Bytes w a n cap l)(h':Bytes w a' n' cap' l):
  Calls prog 138 #[.slice a n cap,.slice a' n' cap'] w (Zv (.bool true) w):=by
 have h1:=Zhw (P:=prog) underlying106 underlying5 h 9 underlying9;have h2:=Zhw (P:=prog) underlying106 underlying5 h' 9 underlying9;clear h h';go_enter func138,ntmps138;go_wp2
 go_ret;exact⟨ZM,ZW _ _⟩
theorem ZnB{f:Frm}(h:f.Ok){a:Option Addr}{n cap:Nat}{l:List Nat}{w:World}(hb:Bytes w a n cap l)(hl:l=Zd (Zad f).length++Zad f):
  Calls prog 137 #[.slice a n cap] w λ r w'=>∃ v,r = .returned (.tuple #[Z8 f v,.bool true])/\w'.ownsRow w.heap.size 89 12 v f.events.length (evCells f.events)/\Below w.heap.size w w':=by
 have h1:=h.kind1;have h5:=h.kind5;rcases(by omega:f.kind=1∨f.kind=2∨f.kind=3∨f.kind=4∨f.kind=5) with hk | hk | hk | hk | hk
 ·exact Zme h hk hb hl
 ·exact Zmf h hk hb hl
 ·exact Zmg h hk hb hl
 ·exact Zmh h hk hb hl
 ·exact Zmi h hk hb hl
theorem Zgi(l:List Nat):Zdm (Zau l):=by
 refine⟨by rw[ZbD];omega,?_⟩;rw[ZbD,show l.length+4-4=l.length by omega];unfold Zau;rw[List.drop_left,List.take_left]
theorem ZcI{f:Frm}(h:f.Ok):(Zk f).length<=1400:=by
 have h1:=Zbp h;have h2:=Z3 2 (Zad f).length ZO;unfold Zk;rw[ZbD,ZI];omega
theorem ZfJ{f:Frm}(h:f.Ok):∀ x∈Zk f,x<256:=by
 refine ZeT (λ x hx=>?_);rw[List.mem_append] at hx;rcases hx with hx | hx
 ·exact Zay _ x hx
 ·exact Za4 h x hx
theorem ZiN{f:Frm}(h:f.Ok){a:Option Addr}{n cap:Nat}{w:World}(hb:Bytes w a n cap (Zk f)):
  Calls prog 92 #[.slice a n cap] w λ r w'=>∃ v,r = .returned (.tuple #[Z8 f v,.int .i64 0])/\w'.ownsRow w.heap.size 89 12 v f.events.length (evCells f.events)/\Below w.heap.size w w':=by
 have hlen:=hb.len;have fc:=ZcI h;have cI:=ZfJ h;have hn:n<=1400:=ZO;have fe:¬ ((2048:Int)<(n:Int)):=ZO;have cA:=(ZKr w).alloc (.cells (Za ⟨0,0,0,ZCz,[]⟩ (.slice none 0 0)) 158);obtain⟨nH,di,H,HB,df,gx,fE⟩:=ZH7 (ZBn w 158 (Za ⟨0,0,0,ZCz,[]⟩ (.slice none 0 0))) (hb.kept cA.below (ZL _)) h hb cA cI hlen;clear h hb cA cI fc hlen;go_enter func92,ntmps92;go_wp2_with fail;refine(Zii di.out gx.out ZO).mono ?_;rintro _ w1 hP;rcases hP with ⟨_,v1,rfl,eh,bS⟩|⟨gr,_⟩
 rotate_left 1
 ·exact absurd (Zgi _) gr
 have ow:(Zk f).take ((Zk f).length-4)=Zd (Zad f).length++Zad f:=by
  unfold Zk;rw[ZbD,show ∀ m:Nat,m+4-4=m from λ m=>by omega];unfold Zau;rw[List.take_left]
 rw[ow] at eh;obtain⟨a1,DT,rfl,jT⟩:=Bytes.ab eh;have cE:=ZH (df.out.step bS);have gb:=nH.out.ob bS;obtain⟨j7,ez,sN⟩:=ZH3 jT gb gb.lt;clear eh jT gb bS ow df nH di;go_wp2_with fail;refine(ZnB H.out j7.out rfl).mono ?_;rintro _ w2 ⟨v2,rfl,dC,bW⟩;obtain⟨a2,dg,rfl,jk⟩:=EvSl.ab dC;have cJ:=cE.out.step bW;have gI:=ez.out.ob bW;have wT:=dC;obtain⟨cC,ep,ia,iq,Ko⟩:=ZH5 (cJ.alloc (.cells (Za f (.slice a2 f.events.length dg)) 158)) (gI.alloc (.cells (Za f (.slice a2 f.events.length dg)) 158)) (ZBn w2 158 (Za f (.slice a2 f.events.length dg))) (jk.below ((ZW w2.heap.size w2).alloc (ZL _) (.cells (Za f (.slice a2 f.events.length dg)) 158))) (wT.alloc (.cells (Za f (.slice a2 f.events.length dg)) 158));have Sz:w.heap.size<w2.heap.size:=gI.lt;clear dC jk cJ gI wT bW;go_wp2_with fail;refine(Zfo H.out iq.out).mono ?_;rintro _ w4 ⟨v4,rfl,ie,cz⟩;obtain⟨a4,iB,rfl,rI⟩:=Bytes.ab ie;have dr:=cC.out.step cz;obtain⟨fK,cZ,sL,fU,i9,sR⟩:=ZH6 (HB.out.kept dr.below (ZL _)) dr rI (ep.out.ob cz) (ia.out.ob cz) (Ze Ko.out cz);clear ie rI dr cz;go_wp2_with fail;refine(Zix sL.out fK.out).mono ?_;rintro _ w5 ⟨rfl,dw⟩;obtain⟨fi,gH,qk,sS⟩:=ZH4 (cZ.out.step dw) (fU.out.ob dw) (i9.out.ob dw) (Ze sR.out dw);clear dw
 go_wp2_with (first
  |(refine wpList_load_row rfl 158 (.tmp 6) rfl w2.heap.size rfl 158 (Za f (.slice a2 f.events.length dg)) (0,0) _ qk.out underlying158 rfl (Zap _ _) ?_)
  |(refine wpList_store_row rfl 158 (.tmp 2) (.tmp 43) rfl w.heap.size (Za f (.slice a2 f.events.length dg)) rfl rfl 158 (Za ⟨0,0,0,ZCz,[]⟩ (.slice none 0 0)) gH.out (Zap _ _) rfl (Zbc _ _ _ _) ?_))
 refine bodyPost_ret (Zn rfl rfl rfl (run_loadVar_row _ _ _ _ _ _ _ (gH.out.row _) underlying158 rfl (Zap _ _))) rfl ?_;refine⟨_,rfl,Zi (Zh sS.out (λ g hg _=>setRow_other _ _ _ _ (by have:=Zb sS.out hg;have:=sN.out;omega))) cE.out.le,(fi.out.row (ZL _) _).below⟩
theorem ZjY{a:Option Addr}{n cap:Nat}{l:List Nat}{w:World}(hb:Bytes w a n cap l)(hs:∀ x∈l,x<256)(hn:n<=2048)(gr:¬ Zdm l):
  Calls prog 92 #[.slice a n cap] w (Zv (.tuple #[Z8 ⟨0,0,0,ZCz,[]⟩ (.slice none 0 0),.int .i64 4]) w):=by
 have fe:¬ ((2048:Int)<(n:Int)):=ZO;have cA:=(ZKr w).alloc (.cells (Za ⟨0,0,0,ZCz,[]⟩ (.slice none 0 0)) 158);obtain⟨nH,di,df,HS,rU⟩:=ZH5 (ZBn w 158 (Za ⟨0,0,0,ZCz,[]⟩ (.slice none 0 0))) (hb.kept cA.below (ZL _)) cA hs gr;clear hb cA hs gr;go_enter func92,ntmps92;go_wp2_with fail;refine(Zii di.out HS.out ZO).mono ?_;rintro _ w1 hP;rcases hP with ⟨ho,_⟩|⟨_,rfl,bS⟩
 ·exact absurd ho rU.out
 obtain⟨ez,cE⟩:=ZH2 (nH.out.ob bS) (df.out.step bS);clear bS
 go_wp2_with (first
  |(refine Zan rfl 158 _ rfl (Za ⟨0,0,0,ZCz,[]⟩ (.slice none 0 0)) ZK ?_)
  |(refine wpList_store_row rfl 158 (.tmp 2) (.tmp 20) rfl w.heap.size (Za ⟨0,0,0,ZCz,[]⟩ (.slice none 0 0)) rfl rfl 158 (Za ⟨0,0,0,ZCz,[]⟩ (.slice none 0 0)) ez.out (Zap _ _) rfl (Zbc _ _ _ _) ?_))
 refine bodyPost_ret (Zn rfl rfl rfl (run_loadVar_row _ _ _ _ _ _ _ (ez.out.row _) underlying158 rfl (Zap _ _))) rfl ?_;exact⟨rfl,(cE.out.row (ZL _) _).below⟩
structure RecOk(f:Frm):Prop where
 kind1:1<=f.kind
 kind6:f.kind<=6
 r:f.r<5
 upto:f.upto<=1048576
 upto0:f.kind≠3->f.kind≠4->f.upto=0
 clock:∀ i,f.clock.get i<=1048576
 clock0:f.kind≠6->f.clock=ZCz
 events:∀ e∈f.events,e.Ok
 len:f.events.length<=1000
 one:f.kind=1->f.events.length=1
 events0:f.kind=3∨f.kind=6->f.events=[]
theorem ZlL{fn:Func}{t u v x:Tmp}(h:fn.results=#[.tmp t,.tmp u,.tmp v,.tmp x])(tmps:Array Value)(P:Program)(w:World):
  (results fn tmps).run P w = .ok (.tuple #[tmps.getD t undef,tmps.getD u undef,tmps.getD v undef,tmps.getD x undef]) w:=by
 simp[results,h]
def upK(k:Nat):Bool:=decide (k=3∨k=4)
def evK(k:Nat):Bool:=decide (k=1∨k=2∨k=4∨k=5)
def clK(k:Nat):Bool:=decide (k=6)
theorem ZaJ(k:Nat)(h1:1<=k)(h6:k<=6)(w:World):Calls prog 159 #[.int .i64 k] w (Zv (.tuple #[.bool (upK k),.bool (evK k),.bool (clK k),.bool true]) w):=by
 rcases(by omega:k=1∨k=2∨k=3∨k=4∨k=5∨k=6) with rfl | rfl | rfl | rfl | rfl | rfl
 all_goals
  go_enter func159,ntmps159;go_wp2_with fail;refine bodyPost_ret (ZlL rfl _ _ _) rfl ?_;exact⟨rfl,ZW _ _⟩
theorem ZbI(k:Nat)(h:k<=1048576)(w:World):Calls prog 187 #[.int .i64 k] w (Zv (.bool true) w):=by
 have h0:(0:Int)<=(k:Int):=ZO;have h1:(k:Int)<=1048576:=ZO;go_enter func187,ntmps187;go_wp2
 go_ret;exact⟨ZM,ZW _ _⟩
theorem ZqP{f:Frm}(h:RecOk f)(dF:f.kind=3){a:Option Addr}{n cap:Nat}{w:World}(hs:EvSl w a n cap f.events):Calls prog 158 #[Z8 f (.slice a n cap)] w (Zv (.bool true) w):=by
 have hlen:=h.len;have fw:=hs.2.2.1;have hr:=h.r;have dJ:=h.upto;have dA:=h.one;obtain⟨kind,r,upto,clock,events⟩:=f;simp only[] at dF hlen fw hr dJ hs dA;subst dF;have H:=ZH h;clear h;have dW:clock=ZCz:=H.out.clock0 ZM;have kd:events=[]:=H.out.events0 ZM;subst dW kd;obtain rfl:n=0:=fw.symm;clear dA;have FR:∃ F:Frm,F=⟨3,r,upto,ZCz,[]⟩:=⟨_,rfl⟩;clear FR;have cA:=(ZKr w).alloc (.cells (Za ⟨3,r,upto,ZCz,[]⟩ (.slice a 0 cap)) 150);have cD:=ZBn w 150 (Za ⟨3,r,upto,ZCz,[]⟩ (.slice a 0 cap));have fx:=hs.below cA.below;have r0:(0:Int)<=(r:Int):=ZO;have r5:(r:Int)<5:=ZO;have Cn:¬ ((r:Int)<0):=ZO;have Co:¬ ((5:Int)<=(r:Int)):=ZO;obtain⟨df,di,ei⟩:=ZH3 cA cD fx;clear cA cD fx hs;have kw:=ZaJ 3 ZO ZO;rw[show upK 3=true from rfl,show evK 3=false from rfl,show clK 3=false from rfl] at kw;have rv:=Zcy;have rE:¬ ((4096:Int)<(0:Int)):=ZO;go_enter func158,ntmps158;go_wp2_with fail;refine(kw _).mono ?_;rintro _ w1 ⟨rfl,bS⟩;obtain⟨cE,cL,dV⟩:=ZH3 (df.out.step bS) (di.out.ob bS) (ei.out.below bS);clear bS df di ei kw;obtain⟨c0,c1,c2,c3,c4,c5,c6,c7,c8⟩:=cL.out.nine;have ce:=cL.out.lt;go_wp2_with fail;refine(ZbI upto ZO _).mono ?_;rintro _ w2 ⟨rfl,bW⟩;obtain⟨cr,cH,eP⟩:=ZH3 (cE.out.step bW) (cL.out.ob bW) (dV.out.below bW);clear bW c0 c1 c2 c3 c4 c5 c6 c7 c8 ce;obtain⟨c0,c1,c2,c3,c4,c5,c6,c7,c8⟩:=cH.out.nine;have ce:=cH.out.lt;go_wp2_with fail;go_loopw [8,45] (λ _ i wr=>∃ k:Nat,k<=5/\i = .int .i64 k/\Hid (Kept w2.heap.size w2 wr)) (λ _ i _=>5-(intOf i).toNat)
 case atStart=>exact⟨0,ZO,rfl,ZH (ZKr _)⟩
 case round =>
  obtain⟨k,hk,rfl,db⟩:=hrel;by_cases ef:k<5
  ·have jC:(k:Int)<5:=ZO;have jR:=λ w=>Zah ZCz k ef w
   go_wp2_with fail;refine(ZbI (ZCz.get k) (H.out.clock k) _).mono ?_;rintro _ w3 ⟨rfl,bZ⟩;have cC:=ZH (db.out.step bZ);clear bZ;go_wp2
   go_roundw
   case rel=>exact⟨k+1,ZO,ZN,cC⟩
   case measure=>simp[intOf];omega
  ·obtain rfl:k=5:=ZO;obtain⟨dj,iq,cC⟩:=ZH3 (cH.out.ob db.out.below) (eP.out.below db.out.below) (cr.out.trans db.out cr.out.le);clear db c0 c1 c2 c3 c4 c5 c6 c7 c8 ce;obtain⟨c0,c1,c2,c3,c4,c5,c6,c7,c8⟩:=dj.out.nine;have ce:=dj.out.lt;go_wp2_with fail;go_loopw [82] (λ i j5=>∃ q:Nat,q<=0/\i = .int .i64 q/\Hid (Kept wr.heap.size wr j5)) (λ i _=>0-(intOf i).toNat)
   case atStart=>exact⟨0,ZO,rfl,ZH (ZKr _)⟩
   case round =>
    obtain⟨q,hq,rfl,gC⟩:=hrel;by_cases dy:q<0
    ·omega
    ·obtain rfl:q=0:=ZO;have li:=dj.out.ob gC.out.below;clear c0 c1 c2 c3 c4 c5 c6 c7 c8 ce;obtain⟨c0,c1,c2,c3,c4,c5,c6,c7,c8⟩:=li.nine;have ce:=li.lt;clear li;go_wp2
     go_ret;exact⟨ZM,(cC.out.trans gC.out cC.out.le).below⟩
theorem ZqS{f:Frm}(h:RecOk f)(dF:f.kind=6){a:Option Addr}{n cap:Nat}{w:World}(hs:EvSl w a n cap f.events):Calls prog 158 #[Z8 f (.slice a n cap)] w (Zv (.bool true) w):=by
 have hlen:=h.len;have fw:=hs.2.2.1;have hr:=h.r;have dJ:=h.upto;have dA:=h.one;obtain⟨kind,r,upto,clock,events⟩:=f;simp only[] at dF hlen fw hr dJ hs dA;subst dF;have H:=ZH h;clear h;have cX:upto=0:=H.out.upto0 ZM ZM;have kd:events=[]:=H.out.events0 ZM;subst cX kd;obtain rfl:n=0:=fw.symm;clear dA;have FR:∃ F:Frm,F=⟨6,r,0,clock,[]⟩:=⟨_,rfl⟩;clear FR;have cA:=(ZKr w).alloc (.cells (Za ⟨6,r,0,clock,[]⟩ (.slice a 0 cap)) 150);have cD:=ZBn w 150 (Za ⟨6,r,0,clock,[]⟩ (.slice a 0 cap));have fx:=hs.below cA.below;have r0:(0:Int)<=(r:Int):=ZO;have r5:(r:Int)<5:=ZO;have Cn:¬ ((r:Int)<0):=ZO;have Co:¬ ((5:Int)<=(r:Int)):=ZO;obtain⟨df,di,ei⟩:=ZH3 cA cD fx;clear cA cD fx hs;have kw:=ZaJ 6 ZO ZO;rw[show upK 6=false from rfl,show evK 6=false from rfl,show clK 6=true from rfl] at kw;have rv:=Zcy;have rE:¬ ((4096:Int)<(0:Int)):=ZO;go_enter func158,ntmps158;go_wp2_with fail;refine(kw _).mono ?_;rintro _ w1 ⟨rfl,bS⟩;obtain⟨cE,cL,dV⟩:=ZH3 (df.out.step bS) (di.out.ob bS) (ei.out.below bS);clear bS df di ei kw;obtain⟨c0,c1,c2,c3,c4,c5,c6,c7,c8⟩:=cL.out.nine;have ce:=cL.out.lt;go_wp2_with fail;refine(ZbI 0 ZO _).mono ?_;rintro _ w2 ⟨rfl,bW⟩;obtain⟨cr,cH,eP⟩:=ZH3 (cE.out.step bW) (cL.out.ob bW) (dV.out.below bW);clear bW c0 c1 c2 c3 c4 c5 c6 c7 c8 ce;obtain⟨c0,c1,c2,c3,c4,c5,c6,c7,c8⟩:=cH.out.nine;have ce:=cH.out.lt;go_wp2_with fail;go_loopw [8,45] (λ _ i wr=>∃ k:Nat,k<=5/\i = .int .i64 k/\Hid (Kept w2.heap.size w2 wr)) (λ _ i _=>5-(intOf i).toNat)
 case atStart=>exact⟨0,ZO,rfl,ZH (ZKr _)⟩
 case round =>
  obtain⟨k,hk,rfl,db⟩:=hrel;by_cases ef:k<5
  ·have jC:(k:Int)<5:=ZO;have jR:=λ w=>Zah clock k ef w
   go_wp2_with fail;refine(ZbI (clock.get k) (H.out.clock k) _).mono ?_;rintro _ w3 ⟨rfl,bZ⟩;have cC:=ZH (db.out.step bZ);clear bZ;go_wp2
   go_roundw
   case rel=>exact⟨k+1,ZO,ZN,cC⟩
   case measure=>simp[intOf];omega
  ·obtain rfl:k=5:=ZO;obtain⟨dj,iq,cC⟩:=ZH3 (cH.out.ob db.out.below) (eP.out.below db.out.below) (cr.out.trans db.out cr.out.le);clear db c0 c1 c2 c3 c4 c5 c6 c7 c8 ce;obtain⟨c0,c1,c2,c3,c4,c5,c6,c7,c8⟩:=dj.out.nine;have ce:=dj.out.lt;go_wp2_with fail;go_loopw [82] (λ i j5=>∃ q:Nat,q<=0/\i = .int .i64 q/\Hid (Kept wr.heap.size wr j5)) (λ i _=>0-(intOf i).toNat)
   case atStart=>exact⟨0,ZO,rfl,ZH (ZKr _)⟩
   case round =>
    obtain⟨q,hq,rfl,gC⟩:=hrel;by_cases dy:q<0
    ·omega
    ·obtain rfl:q=0:=ZO;have li:=dj.out.ob gC.out.below;clear c0 c1 c2 c3 c4 c5 c6 c7 c8 ce;obtain⟨c0,c1,c2,c3,c4,c5,c6,c7,c8⟩:=li.nine;have ce:=li.lt;clear li;go_wp2
     go_ret;exact⟨ZM,(cC.out.trans gC.out cC.out.le).below⟩
theorem ZqQ{f:Frm}(h:RecOk f)(dF:f.kind=4){a:Option Addr}{n cap:Nat}{w:World}(hs:EvSl w a n cap f.events):Calls prog 158 #[Z8 f (.slice a n cap)] w (Zv (.bool true) w):=by
 have hlen:=h.len;have fw:=hs.2.2.1;have hr:=h.r;have dJ:=h.upto;have dA:=h.one;obtain⟨kind,r,upto,clock,events⟩:=f;simp only[] at dF hlen fw hr dJ hs dA;subst dF;have H:=ZH h;clear h;have dW:clock=ZCz:=H.out.clock0 ZM;subst dW;clear dA;have FR:∃ F:Frm,F=⟨4,r,upto,ZCz,events⟩:=⟨_,rfl⟩;clear FR;have cA:=(ZKr w).alloc (.cells (Za ⟨4,r,upto,ZCz,events⟩ (.slice a n cap)) 150);have cD:=ZBn w 150 (Za ⟨4,r,upto,ZCz,events⟩ (.slice a n cap));have fx:=hs.below cA.below;have r0:(0:Int)<=(r:Int):=ZO;have r5:(r:Int)<5:=ZO;have Cn:¬ ((r:Int)<0):=ZO;have Co:¬ ((5:Int)<=(r:Int)):=ZO;obtain⟨df,di,ei⟩:=ZH3 cA cD fx;clear cA cD fx hs;have kw:=ZaJ 4 ZO ZO;rw[show upK 4=true from rfl,show evK 4=true from rfl,show clK 4=false from rfl] at kw;have rv:=Zcy;have rE:¬ ((4096:Int)<(n:Int)):=ZO;go_enter func158,ntmps158;go_wp2_with fail;refine(kw _).mono ?_;rintro _ w1 ⟨rfl,bS⟩;obtain⟨cE,cL,dV⟩:=ZH3 (df.out.step bS) (di.out.ob bS) (ei.out.below bS);clear bS df di ei kw;obtain⟨c0,c1,c2,c3,c4,c5,c6,c7,c8⟩:=cL.out.nine;have ce:=cL.out.lt;go_wp2_with fail;refine(ZbI upto ZO _).mono ?_;rintro _ w2 ⟨rfl,bW⟩;obtain⟨cr,cH,eP⟩:=ZH3 (cE.out.step bW) (cL.out.ob bW) (dV.out.below bW);clear bW c0 c1 c2 c3 c4 c5 c6 c7 c8 ce;obtain⟨c0,c1,c2,c3,c4,c5,c6,c7,c8⟩:=cH.out.nine;have ce:=cH.out.lt;go_wp2_with fail;go_loopw [8,45] (λ _ i wr=>∃ k:Nat,k<=5/\i = .int .i64 k/\Hid (Kept w2.heap.size w2 wr)) (λ _ i _=>5-(intOf i).toNat)
 case atStart=>exact⟨0,ZO,rfl,ZH (ZKr _)⟩
 case round =>
  obtain⟨k,hk,rfl,db⟩:=hrel;by_cases ef:k<5
  ·have jC:(k:Int)<5:=ZO;have jR:=λ w=>Zah ZCz k ef w
   go_wp2_with fail;refine(ZbI (ZCz.get k) (H.out.clock k) _).mono ?_;rintro _ w3 ⟨rfl,bZ⟩;have cC:=ZH (db.out.step bZ);clear bZ;go_wp2
   go_roundw
   case rel=>exact⟨k+1,ZO,ZN,cC⟩
   case measure=>simp[intOf];omega
  ·obtain rfl:k=5:=ZO;obtain⟨dj,iq,cC⟩:=ZH3 (cH.out.ob db.out.below) (eP.out.below db.out.below) (cr.out.trans db.out cr.out.le);clear db c0 c1 c2 c3 c4 c5 c6 c7 c8 ce;obtain⟨c0,c1,c2,c3,c4,c5,c6,c7,c8⟩:=dj.out.nine;have ce:=dj.out.lt;go_wp2_with fail;go_loopw [82] (λ i j5=>∃ q:Nat,q<=n/\i = .int .i64 q/\Hid (Kept wr.heap.size wr j5)) (λ i _=>n-(intOf i).toNat)
   case atStart=>exact⟨0,ZO,rfl,ZH (ZKr _)⟩
   case round =>
    obtain⟨q,hq,rfl,gC⟩:=hrel;by_cases dy:q<n
    ·obtain⟨e,he⟩:∃ e,events[q]? = some e:=⟨_,ZX (by rw[fw];exact dy)⟩;have mv:=ZY he;have dM:=ZH (H.out.events e mv);have ig:=iq.out.below gC.out.below;obtain⟨bk,off,rfl,cQ,e0,e1,e2,e3,e4,e5,e6,e7,e8,e9,iJ,ja⟩:=ig.at_ he;have hx:=ZBn wr 89 (evArr e);obtain⟨x0,x1,x2,x3,x4,x5,x6,x7,x8,x9,eE,eG⟩:=hx.ae;have gU:=ZH (gC.out.alloc (.cells (evArr e) 89));clear ig he mv hx;go_wp2_with fail;refine(ZeA e _ dM.out).mono ?_;rintro _ w5 ⟨rfl,dw⟩;have fi:=ZH (gU.out.step dw);clear dw x0 x1 x2 x3 x4 x5 x6 x7 x8 x9 eE eG;go_wp2
     go_roundw
     case rel=>exact⟨q+1,ZO,ZN,fi⟩
     case measure=>simp[intOf];omega
    ·obtain rfl:q=n:=ZO;have li:=dj.out.ob gC.out.below;clear c0 c1 c2 c3 c4 c5 c6 c7 c8 ce;obtain⟨c0,c1,c2,c3,c4,c5,c6,c7,c8⟩:=li.nine;have ce:=li.lt;clear li;go_wp2
     go_ret;exact⟨ZM,(cC.out.trans gC.out cC.out.le).below⟩
theorem ZqR{f:Frm}(h:RecOk f)(dF:f.kind=5){a:Option Addr}{n cap:Nat}{w:World}(hs:EvSl w a n cap f.events):Calls prog 158 #[Z8 f (.slice a n cap)] w (Zv (.bool true) w):=by
 have hlen:=h.len;have fw:=hs.2.2.1;have hr:=h.r;have dJ:=h.upto;have dA:=h.one;obtain⟨kind,r,upto,clock,events⟩:=f;simp only[] at dF hlen fw hr dJ hs dA;subst dF;have H:=ZH h;clear h;have dW:clock=ZCz:=H.out.clock0 ZM;have cX:upto=0:=H.out.upto0 ZM ZM;subst dW cX;clear dA;have FR:∃ F:Frm,F=⟨5,r,0,ZCz,events⟩:=⟨_,rfl⟩;clear FR;have cA:=(ZKr w).alloc (.cells (Za ⟨5,r,0,ZCz,events⟩ (.slice a n cap)) 150);have cD:=ZBn w 150 (Za ⟨5,r,0,ZCz,events⟩ (.slice a n cap));have fx:=hs.below cA.below;have r0:(0:Int)<=(r:Int):=ZO;have r5:(r:Int)<5:=ZO;have Cn:¬ ((r:Int)<0):=ZO;have Co:¬ ((5:Int)<=(r:Int)):=ZO;obtain⟨df,di,ei⟩:=ZH3 cA cD fx;clear cA cD fx hs;have kw:=ZaJ 5 ZO ZO;rw[show upK 5=false from rfl,show evK 5=true from rfl,show clK 5=false from rfl] at kw;have rv:=Zcy;have rE:¬ ((4096:Int)<(n:Int)):=ZO;go_enter func158,ntmps158;go_wp2_with fail;refine(kw _).mono ?_;rintro _ w1 ⟨rfl,bS⟩;obtain⟨cE,cL,dV⟩:=ZH3 (df.out.step bS) (di.out.ob bS) (ei.out.below bS);clear bS df di ei kw;obtain⟨c0,c1,c2,c3,c4,c5,c6,c7,c8⟩:=cL.out.nine;have ce:=cL.out.lt;go_wp2_with fail;refine(ZbI 0 ZO _).mono ?_;rintro _ w2 ⟨rfl,bW⟩;obtain⟨cr,cH,eP⟩:=ZH3 (cE.out.step bW) (cL.out.ob bW) (dV.out.below bW);clear bW c0 c1 c2 c3 c4 c5 c6 c7 c8 ce;obtain⟨c0,c1,c2,c3,c4,c5,c6,c7,c8⟩:=cH.out.nine;have ce:=cH.out.lt;go_wp2_with fail;go_loopw [8,45] (λ _ i wr=>∃ k:Nat,k<=5/\i = .int .i64 k/\Hid (Kept w2.heap.size w2 wr)) (λ _ i _=>5-(intOf i).toNat)
 case atStart=>exact⟨0,ZO,rfl,ZH (ZKr _)⟩
 case round =>
  obtain⟨k,hk,rfl,db⟩:=hrel;by_cases ef:k<5
  ·have jC:(k:Int)<5:=ZO;have jR:=λ w=>Zah ZCz k ef w
   go_wp2_with fail;refine(ZbI (ZCz.get k) (H.out.clock k) _).mono ?_;rintro _ w3 ⟨rfl,bZ⟩;have cC:=ZH (db.out.step bZ);clear bZ;go_wp2
   go_roundw
   case rel=>exact⟨k+1,ZO,ZN,cC⟩
   case measure=>simp[intOf];omega
  ·obtain rfl:k=5:=ZO;obtain⟨dj,iq,cC⟩:=ZH3 (cH.out.ob db.out.below) (eP.out.below db.out.below) (cr.out.trans db.out cr.out.le);clear db c0 c1 c2 c3 c4 c5 c6 c7 c8 ce;obtain⟨c0,c1,c2,c3,c4,c5,c6,c7,c8⟩:=dj.out.nine;have ce:=dj.out.lt;go_wp2_with fail;go_loopw [82] (λ i j5=>∃ q:Nat,q<=n/\i = .int .i64 q/\Hid (Kept wr.heap.size wr j5)) (λ i _=>n-(intOf i).toNat)
   case atStart=>exact⟨0,ZO,rfl,ZH (ZKr _)⟩
   case round =>
    obtain⟨q,hq,rfl,gC⟩:=hrel;by_cases dy:q<n
    ·obtain⟨e,he⟩:∃ e,events[q]? = some e:=⟨_,ZX (by rw[fw];exact dy)⟩;have mv:=ZY he;have dM:=ZH (H.out.events e mv);have ig:=iq.out.below gC.out.below;obtain⟨bk,off,rfl,cQ,e0,e1,e2,e3,e4,e5,e6,e7,e8,e9,iJ,ja⟩:=ig.at_ he;have hx:=ZBn wr 89 (evArr e);obtain⟨x0,x1,x2,x3,x4,x5,x6,x7,x8,x9,eE,eG⟩:=hx.ae;have gU:=ZH (gC.out.alloc (.cells (evArr e) 89));clear ig he mv hx;go_wp2_with fail;refine(ZeA e _ dM.out).mono ?_;rintro _ w5 ⟨rfl,dw⟩;have fi:=ZH (gU.out.step dw);clear dw x0 x1 x2 x3 x4 x5 x6 x7 x8 x9 eE eG;go_wp2
     go_roundw
     case rel=>exact⟨q+1,ZO,ZN,fi⟩
     case measure=>simp[intOf];omega
    ·obtain rfl:q=n:=ZO;have li:=dj.out.ob gC.out.below;clear c0 c1 c2 c3 c4 c5 c6 c7 c8 ce;obtain⟨c0,c1,c2,c3,c4,c5,c6,c7,c8⟩:=li.nine;have ce:=li.lt;clear li;go_wp2
     go_ret;exact⟨ZM,(cC.out.trans gC.out cC.out.le).below⟩
theorem ZqN{f:Frm}(h:RecOk f)(dF:f.kind=1){a:Option Addr}{n cap:Nat}{w:World}(hs:EvSl w a n cap f.events):Calls prog 158 #[Z8 f (.slice a n cap)] w (Zv (.bool true) w):=by
 have hlen:=h.len;have fw:=hs.2.2.1;have hr:=h.r;have dJ:=h.upto;have dA:=h.one;obtain⟨kind,r,upto,clock,events⟩:=f;simp only[] at dF hlen fw hr dJ hs dA;subst dF;have H:=ZH h;clear h;have dW:clock=ZCz:=H.out.clock0 ZM;have cX:upto=0:=H.out.upto0 ZM ZM;subst dW cX;have hn1I:((n:Int)==1)=true:=by
  have:=dA rfl;simp;omega
 clear dA;have FR:∃ F:Frm,F=⟨1,r,0,ZCz,events⟩:=⟨_,rfl⟩;clear FR;have cA:=(ZKr w).alloc (.cells (Za ⟨1,r,0,ZCz,events⟩ (.slice a n cap)) 150);have cD:=ZBn w 150 (Za ⟨1,r,0,ZCz,events⟩ (.slice a n cap));have fx:=hs.below cA.below;have r0:(0:Int)<=(r:Int):=ZO;have r5:(r:Int)<5:=ZO;have Cn:¬ ((r:Int)<0):=ZO;have Co:¬ ((5:Int)<=(r:Int)):=ZO;obtain⟨df,di,ei⟩:=ZH3 cA cD fx;clear cA cD fx hs;have kw:=ZaJ 1 ZO ZO;rw[show upK 1=false from rfl,show evK 1=true from rfl,show clK 1=false from rfl] at kw;have rv:=Zcy;have rE:¬ ((4096:Int)<(n:Int)):=ZO;go_enter func158,ntmps158;go_wp2_with fail;refine(kw _).mono ?_;rintro _ w1 ⟨rfl,bS⟩;obtain⟨cE,cL,dV⟩:=ZH3 (df.out.step bS) (di.out.ob bS) (ei.out.below bS);clear bS df di ei kw;obtain⟨c0,c1,c2,c3,c4,c5,c6,c7,c8⟩:=cL.out.nine;have ce:=cL.out.lt;go_wp2_with fail;refine(ZbI 0 ZO _).mono ?_;rintro _ w2 ⟨rfl,bW⟩;obtain⟨cr,cH,eP⟩:=ZH3 (cE.out.step bW) (cL.out.ob bW) (dV.out.below bW);clear bW c0 c1 c2 c3 c4 c5 c6 c7 c8 ce;obtain⟨c0,c1,c2,c3,c4,c5,c6,c7,c8⟩:=cH.out.nine;have ce:=cH.out.lt;go_wp2_with fail;go_loopw [8,45] (λ _ i wr=>∃ k:Nat,k<=5/\i = .int .i64 k/\Hid (Kept w2.heap.size w2 wr)) (λ _ i _=>5-(intOf i).toNat)
 case atStart=>exact⟨0,ZO,rfl,ZH (ZKr _)⟩
 case round =>
  obtain⟨k,hk,rfl,db⟩:=hrel;by_cases ef:k<5
  ·have jC:(k:Int)<5:=ZO;have jR:=λ w=>Zah ZCz k ef w
   go_wp2_with fail;refine(ZbI (ZCz.get k) (H.out.clock k) _).mono ?_;rintro _ w3 ⟨rfl,bZ⟩;have cC:=ZH (db.out.step bZ);clear bZ;go_wp2
   go_roundw
   case rel=>exact⟨k+1,ZO,ZN,cC⟩
   case measure=>simp[intOf];omega
  ·obtain rfl:k=5:=ZO;obtain⟨dj,iq,cC⟩:=ZH3 (cH.out.ob db.out.below) (eP.out.below db.out.below) (cr.out.trans db.out cr.out.le);clear db c0 c1 c2 c3 c4 c5 c6 c7 c8 ce;obtain⟨c0,c1,c2,c3,c4,c5,c6,c7,c8⟩:=dj.out.nine;have ce:=dj.out.lt;go_wp2_with fail;go_loopw [82] (λ i j5=>∃ q:Nat,q<=n/\i = .int .i64 q/\Hid (Kept wr.heap.size wr j5)) (λ i _=>n-(intOf i).toNat)
   case atStart=>exact⟨0,ZO,rfl,ZH (ZKr _)⟩
   case round =>
    obtain⟨q,hq,rfl,gC⟩:=hrel;by_cases dy:q<n
    ·obtain⟨e,he⟩:∃ e,events[q]? = some e:=⟨_,ZX (by rw[fw];exact dy)⟩;have mv:=ZY he;have dM:=ZH (H.out.events e mv);have ig:=iq.out.below gC.out.below;obtain⟨bk,off,rfl,cQ,e0,e1,e2,e3,e4,e5,e6,e7,e8,e9,iJ,ja⟩:=ig.at_ he;have hx:=ZBn wr 89 (evArr e);obtain⟨x0,x1,x2,x3,x4,x5,x6,x7,x8,x9,eE,eG⟩:=hx.ae;have gU:=ZH (gC.out.alloc (.cells (evArr e) 89));clear ig he mv hx;go_wp2_with fail;refine(ZeA e _ dM.out).mono ?_;rintro _ w5 ⟨rfl,dw⟩;have fi:=ZH (gU.out.step dw);clear dw x0 x1 x2 x3 x4 x5 x6 x7 x8 x9 eE eG;go_wp2
     go_roundw
     case rel=>exact⟨q+1,ZO,ZN,fi⟩
     case measure=>simp[intOf];omega
    ·obtain rfl:q=n:=ZO;have li:=dj.out.ob gC.out.below;clear c0 c1 c2 c3 c4 c5 c6 c7 c8 ce;obtain⟨c0,c1,c2,c3,c4,c5,c6,c7,c8⟩:=li.nine;have ce:=li.lt;clear li;go_wp2
     go_ret;exact⟨ZM,(cC.out.trans gC.out cC.out.le).below⟩
theorem ZqO{f:Frm}(h:RecOk f)(dF:f.kind=2){a:Option Addr}{n cap:Nat}{w:World}(hs:EvSl w a n cap f.events):Calls prog 158 #[Z8 f (.slice a n cap)] w (Zv (.bool true) w):=by
 have hlen:=h.len;have fw:=hs.2.2.1;have hr:=h.r;have dJ:=h.upto;have dA:=h.one;obtain⟨kind,r,upto,clock,events⟩:=f;simp only[] at dF hlen fw hr dJ hs dA;subst dF;have H:=ZH h;clear h;have dW:clock=ZCz:=H.out.clock0 ZM;have cX:upto=0:=H.out.upto0 ZM ZM;subst dW cX;clear dA;have FR:∃ F:Frm,F=⟨2,r,0,ZCz,events⟩:=⟨_,rfl⟩;clear FR;have cA:=(ZKr w).alloc (.cells (Za ⟨2,r,0,ZCz,events⟩ (.slice a n cap)) 150);have cD:=ZBn w 150 (Za ⟨2,r,0,ZCz,events⟩ (.slice a n cap));have fx:=hs.below cA.below;have r0:(0:Int)<=(r:Int):=ZO;have r5:(r:Int)<5:=ZO;have Cn:¬ ((r:Int)<0):=ZO;have Co:¬ ((5:Int)<=(r:Int)):=ZO;obtain⟨df,di,ei⟩:=ZH3 cA cD fx;clear cA cD fx hs;have kw:=ZaJ 2 ZO ZO;rw[show upK 2=false from rfl,show evK 2=true from rfl,show clK 2=false from rfl] at kw;have rv:=Zcy;have rE:¬ ((4096:Int)<(n:Int)):=ZO;go_enter func158,ntmps158;go_wp2_with fail;refine(kw _).mono ?_;rintro _ w1 ⟨rfl,bS⟩;obtain⟨cE,cL,dV⟩:=ZH3 (df.out.step bS) (di.out.ob bS) (ei.out.below bS);clear bS df di ei kw;obtain⟨c0,c1,c2,c3,c4,c5,c6,c7,c8⟩:=cL.out.nine;have ce:=cL.out.lt;go_wp2_with fail;refine(ZbI 0 ZO _).mono ?_;rintro _ w2 ⟨rfl,bW⟩;obtain⟨cr,cH,eP⟩:=ZH3 (cE.out.step bW) (cL.out.ob bW) (dV.out.below bW);clear bW c0 c1 c2 c3 c4 c5 c6 c7 c8 ce;obtain⟨c0,c1,c2,c3,c4,c5,c6,c7,c8⟩:=cH.out.nine;have ce:=cH.out.lt;go_wp2_with fail;go_loopw [8,45] (λ _ i wr=>∃ k:Nat,k<=5/\i = .int .i64 k/\Hid (Kept w2.heap.size w2 wr)) (λ _ i _=>5-(intOf i).toNat)
 case atStart=>exact⟨0,ZO,rfl,ZH (ZKr _)⟩
 case round =>
  obtain⟨k,hk,rfl,db⟩:=hrel;by_cases ef:k<5
  ·have jC:(k:Int)<5:=ZO;have jR:=λ w=>Zah ZCz k ef w
   go_wp2_with fail;refine(ZbI (ZCz.get k) (H.out.clock k) _).mono ?_;rintro _ w3 ⟨rfl,bZ⟩;have cC:=ZH (db.out.step bZ);clear bZ;go_wp2
   go_roundw
   case rel=>exact⟨k+1,ZO,ZN,cC⟩
   case measure=>simp[intOf];omega
  ·obtain rfl:k=5:=ZO;obtain⟨dj,iq,cC⟩:=ZH3 (cH.out.ob db.out.below) (eP.out.below db.out.below) (cr.out.trans db.out cr.out.le);clear db c0 c1 c2 c3 c4 c5 c6 c7 c8 ce;obtain⟨c0,c1,c2,c3,c4,c5,c6,c7,c8⟩:=dj.out.nine;have ce:=dj.out.lt;go_wp2_with fail;go_loopw [82] (λ i j5=>∃ q:Nat,q<=n/\i = .int .i64 q/\Hid (Kept wr.heap.size wr j5)) (λ i _=>n-(intOf i).toNat)
   case atStart=>exact⟨0,ZO,rfl,ZH (ZKr _)⟩
   case round =>
    obtain⟨q,hq,rfl,gC⟩:=hrel;by_cases dy:q<n
    ·obtain⟨e,he⟩:∃ e,events[q]? = some e:=⟨_,ZX (by rw[fw];exact dy)⟩;have mv:=ZY he;have dM:=ZH (H.out.events e mv);have ig:=iq.out.below gC.out.below;obtain⟨bk,off,rfl,cQ,e0,e1,e2,e3,e4,e5,e6,e7,e8,e9,iJ,ja⟩:=ig.at_ he;have hx:=ZBn wr 89 (evArr e);obtain⟨x0,x1,x2,x3,x4,x5,x6,x7,x8,x9,eE,eG⟩:=hx.ae;have gU:=ZH (gC.out.alloc (.cells (evArr e) 89));clear ig he mv hx;go_wp2_with fail;refine(ZeA e _ dM.out).mono ?_;rintro _ w5 ⟨rfl,dw⟩;have fi:=ZH (gU.out.step dw);clear dw x0 x1 x2 x3 x4 x5 x6 x7 x8 x9 eE eG;go_wp2
     go_roundw
     case rel=>exact⟨q+1,ZO,ZN,fi⟩
     case measure=>simp[intOf];omega
    ·obtain rfl:q=n:=ZO;have li:=dj.out.ob gC.out.below;clear c0 c1 c2 c3 c4 c5 c6 c7 c8 ce;obtain⟨c0,c1,c2,c3,c4,c5,c6,c7,c8⟩:=li.nine;have ce:=li.lt;clear li;go_wp2
     go_ret;exact⟨ZM,(cC.out.trans gC.out cC.out.le).below⟩
theorem Ze1{f:Frm}(h:RecOk f){a:Option Addr}{n cap:Nat}{w:World}(hs:EvSl w a n cap f.events):Calls prog 158 #[Z8 f (.slice a n cap)] w (Zv (.bool true) w):=by
 have h1:=h.kind1;have h6:=h.kind6;rcases(by omega:f.kind=1∨f.kind=2∨f.kind=3∨f.kind=4∨f.kind=5∨f.kind=6) with hk | hk | hk | hk | hk | hk
 ·exact ZqN h hk hs
 ·exact ZqO h hk hs
 ·exact ZqP h hk hs
 ·exact ZqQ h hk hs
 ·exact ZqR h hk hs
 ·exact ZqS h hk hs
def Zz(f:Frm):List Nat:=[f.kind,f.r]++(if upK f.kind=true then Zd f.upto else [])++(if clK f.kind=true then Zw f.clock 5 else [])++(if evK f.kind=true then Zd f.events.length++Zg f.events else [])
def recBytes(f:Frm):List Nat:=Zd (Zau (Zz f)).length++Zau (Zz f)
theorem ZaF{f:Frm}(h:RecOk f):∀ x∈Zz f,x<256:=by
 have h1:=h.kind6;have h2:=h.r;intro x hx;unfold Zz at hx;rw[List.mem_append,List.mem_append,List.mem_append] at hx;rcases hx with ((hx | hx) | hx) | hx
 ·simp at hx;omega
 ·split at hx
  ·exact Zay _ x hx
  ·simp at hx
 ·split at hx
  ·exact Zfu _ _ x hx
  ·simp at hx
 ·split at hx
  ·rw[List.mem_append] at hx;rcases hx with hx | hx
   ·exact Zay _ x hx
   ·exact Zec _ h.events x hx
  ·simp at hx
theorem Za6{f:Frm}(h:RecOk f):(Zz f).length<=60100:=by
 have h1:=ZbC _ h.events;have h2:=Z3 2 f.upto (by have:=h.upto;omega);have h3:=ZdL h.clock 5;have h4:=h.len;have h5:=Z3 2 f.events.length ZO;unfold Zz;rw[ZI,ZI,ZI];have e1:(if upK f.kind=true then Zd f.upto else []).length<=3:=by split <;> first | omega | simp
 have e2:(if clK f.kind=true then Zw f.clock 5 else []).length<=15:=by split <;> first | omega | simp
 have e3:(if evK f.kind=true then Zd f.events.length++Zg f.events else []).length<=60003:=by split <;> first|(rw[ZI];omega) | simp
 simp only[List.length_cons,List.length_nil];omega
theorem ZqW{f:Frm}(h:RecOk f)(dF:f.kind=4){a:Option Addr}{n cap:Nat}{w:World}(hs:EvSl w a n cap f.events):Calls prog 115 #[Z8 f (.slice a n cap)] w λ r w'=>∃ v,r = .returned (.tuple #[v,.int .i64 0])/\w'.ownsRow w.heap.size 5 1 v (recBytes f).length (cells (recBytes f))/\Below w.heap.size w w':=by
 have cI:=ZaF h;have cQ:=Za6 h;have hlen:=h.len;have fw:=hs.2.2.1;have hr:=h.r;have dJ:=h.upto;have eb:=h.clock;obtain⟨kind,r,upto,clock,events⟩:=f;simp only[] at dF hlen fw hr dJ hs eb;subst dF;have H:=ZH h;clear h;have dW:clock=ZCz:=H.out.clock0 ZM;subst dW;obtain⟨LL,fM⟩:∃ LL,LL=Zz ⟨4,r,upto,ZCz,events⟩:=⟨_,rfl⟩;rw[←fM] at cI cQ;have cA:=(ZKr w).alloc (.cells (Za ⟨4,r,upto,ZCz,events⟩ (.slice a n cap)) 150);have cD:=ZBn w 150 (Za ⟨4,r,upto,ZCz,events⟩ (.slice a n cap));have fx:=hs.below cA.below;have dl:IntKind.u8.wrap (r:Int)=(r:Int):=by rw[IntKind.wrap_u8];omega
 obtain⟨i0,hi,cM,cG,cK⟩:=info_parts ZaA;obtain⟨c0,c1,c2,c3,c4,c5,c6,c7,c8⟩:=cD.nine;have ce:=cD.lt;obtain⟨df,di,ei,md,gx,gv⟩:=ZH6 cA cD fx eb cI fM;clear cA cD fx hs eb cI fM;go_enter func115,ntmps115;go_wp2_with fail;refine(Ze1 H.out ei.out).mono ?_;rintro _ w1 ⟨rfl,bS⟩;have cE:=ZH (df.out.step bS);have cW:=di.out.ob bS;have dV:=ZH (ei.out.below bS);clear c0 c1 c2 c3 c4 c5 c6 c7 c8 ce;obtain⟨c0,c1,c2,c3,c4,c5,c6,c7,c8⟩:=cW.nine;have ce:=cW.lt;have cL:=ZH cW;clear cW bS df di ei;go_wp2_with fail;refine(ZaJ 4 ZO ZO _).mono ?_;rintro _ w2 ⟨rfl,bW⟩;rw[show upK 4=true from rfl,show evK 4=true from rfl,show clK 4=false from rfl];have cr:=ZH (cE.out.step bW);have dd:=cL.out.ob bW;have eP:=ZH (dV.out.below bW);clear c0 c1 c2 c3 c4 c5 c6 c7 c8 ce;obtain⟨c0,c1,c2,c3,c4,c5,c6,c7,c8⟩:=dd.nine;have ce:=dd.lt;obtain⟨jH,gU,cH⟩:=ZH3 (ZcL w2 4 r) ((ZKr w2).alloc (.cells #[.int .u8 (4:Nat),.int .u8 (r:Int)] 5)) dd;clear dd bW cE cL dV;go_wp2_with fail;refine(Za0 upto _ ZO).mono ?_;rintro _ wu ⟨vu,rfl,Bf,AA⟩;obtain⟨au,KE,rfl,uK⟩:=Bytes.ab Bf;obtain⟨Du,sB,J3⟩:=ZH3 (Ze jH.out AA) (gU.out.step AA) uK;have Md:=Z3 2 upto ZO;have Br:=sB.out.le;clear Bf uK AA c0 c1 c2 c3 c4 c5 c6 c7 c8;have pJ:=cH.out.ob sB.out.below;obtain⟨c0,c1,c2,c3,c4,c5,c6,c7,c8⟩:=pJ.nine;have Fh:=pJ.lt;clear pJ
 go_wp2_with (first
  |(at_builtin
    refine Zc _ rfl (.tmp 35) (.tmp 39) _ rfl w2.heap.size 5 i0 _ 1 1 underlying106 hi cM cG cK rfl ZO (.slice (some ⟨w2.heap.size,0,none⟩) 2 2) 2 (cells [4,r]) rfl Du.out wu.heap.size au (Zd upto).length KE (cells (Zd upto)) rfl J3.out.reads (Z2 _) ZF ZO Br ?_;intro Tr MX gQ pL _;obtain⟨Lu,vV⟩:∃ Lu,Lu=[4,r]++Zd upto:=⟨_,rfl⟩;have Ej:2+(Zd upto).length=Lu.length:=by rw[vV,ZI];try rfl
    rw[←Zq,←vV,Ej] at gQ;have sD:Hid (Kept w2.heap.size w2 MX):=ZH ⟨sB.out.below.grown pL sB.out.le (λ g hg=>(Zb Du.out hg).1),ZT sB.out.le pL.size⟩;obtain⟨NU,N0,rfl,_⟩:=Bytes.ab gQ;have LQ:Lu.length<=10:=ZO;obtain⟨vq,JF⟩:=ZH2 gQ vV;clear gQ vV Ej pL c0 c1 c2 c3 c4 c5 c6 c7 c8;have ly:=cH.out.ob sD.out.below;obtain⟨c0,c1,c2,c3,c4,c5,c6,c7,c8⟩:=ly.nine;have A8:=ly.lt
    clear ly))
 refine(Za0 n _ ZO).mono ?_;rintro _ wn ⟨vn,rfl,nw,gy⟩;obtain⟨an,An,rfl,oM⟩:=Bytes.ab nw;obtain⟨sO,kY,mV⟩:=ZH3 (Ze vq.out gy) (sD.out.step gy) oM;have Be:=Z3 2 n ZO;have pX:=kY.out.le;clear nw oM gy c0 c1 c2 c3 c4 c5 c6 c7 c8;have jd:=cH.out.ob kY.out.below;obtain⟨c0,c1,c2,c3,c4,c5,c6,c7,c8⟩:=jd.nine;have tL:=jd.lt;clear jd
 go_wp2_with (first
  |(at_builtin
    refine Zc _ rfl (.tmp 54) (.tmp 59) _ rfl w2.heap.size 5 i0 _ 1 1 underlying106 hi cM cG cK rfl ZO (.slice NU Lu.length N0) Lu.length (cells Lu) rfl sO.out wn.heap.size an (Zd n).length An (cells (Zd n)) rfl mV.out.reads (Z2 _) ZF ZO pX ?_;intro MV BK dN jg _;obtain⟨Ln,mZ⟩:∃ Ln,Ln=Lu++Zd n:=⟨_,rfl⟩;have tj:Lu.length+(Zd n).length=Ln.length:=by rw[mZ,ZI];try rfl
    rw[←Zq,←mZ,tj] at dN;have la:Hid (Kept w2.heap.size w2 BK):=ZH ⟨kY.out.below.grown jg kY.out.le (λ g hg=>(Zb sO.out hg).1),ZT kY.out.le jg.size⟩;obtain⟨Kx,KF,rfl,_⟩:=Bytes.ab dN;have A2:Ln.length<=20:=ZO;obtain⟨po,zE⟩:=ZH2 dN mZ;clear dN mZ tj jg c0 c1 c2 c3 c4 c5 c6 c7 c8;have fN:=cH.out.ob la.out.below;obtain⟨c0,c1,c2,c3,c4,c5,c6,c7,c8⟩:=fN.nine;have pT:=fN.lt
    clear fN))
 clear c0 c1 c2 c3 c4 c5 c6 c7 c8;go_loopw [8,13,14,64] (λ v _ _ i wr=>∃ q:Nat,q<=n/\i = .int .i64 q/\Hid (wr.ownsRow w2.heap.size 5 1 v (Ln++Zg (events.take q)).length (cells (Ln++Zg (events.take q))))/\Hid (Kept w2.heap.size w2 wr)) (λ _ _ _ i _=>n-(intOf i).toNat)
 case atStart=>exact⟨0,ZO,rfl,ZH (by simpa [Zg] using po.out),la⟩
 case round =>
  obtain⟨q,hq,rfl,HR,db⟩:=hrel;obtain⟨av,cv,rfl,_⟩:=Bytes.ab HR.out;have fC:(Zg (events.take q)).length<=60*1000:=by
   have h1:=ZbC (events.take q) (λ e he=>H.out.events e (List.mem_of_mem_take he));have h2:(events.take q).length<=1000:=by rw[ZV];omega
   omega
  obtain⟨M,hM⟩:∃ M,M=(Ln++Zg (events.take q)).length:=⟨_,rfl⟩;have ti:M<=70000:=by rw[hM,ZI];omega
  by_cases dy:q<n
  ·rw[←hM] at HR ⊢;have HM:=ZH hM;clear hM fC;obtain⟨e,he⟩:∃ e,events[q]? = some e:=⟨_,ZX (by rw[fw];exact dy)⟩;have dM:=ZH (H.out.events e (ZY he));have ig:=eP.out.below db.out.below;obtain⟨bk,off,rfl,cQ,e0,e1,e2,e3,e4,e5,e6,e7,e8,e9,iJ,ja⟩:=ig.at_ he;have hx:=ZBn wr 89 (evArr e);obtain⟨x0,x1,x2,x3,x4,x5,x6,x7,x8,x9,eE,eG⟩:=hx.ae;obtain⟨fq,sP,sC⟩:=ZH3 (Zcj he) (HR.out.alloc (.cells (evArr e) 89)) (db.out.alloc (.cells (evArr e) 89));have tD:=Zcz dM.out;clear ig he hx;go_wp2_with fail;refine(ZdN e _ dM.out).mono ?_;rintro _ w3 ⟨v3,rfl,ew,bZ⟩;obtain⟨a3,mX,rfl,gi⟩:=Bytes.ab ew;have ep:=ZH (Ze sP.out bZ);have cY:=sC.out.step bZ;have gR:=cY.le;obtain⟨cC,gw⟩:=ZH2 cY gi;clear ew gi cY bZ e0 e1 e2 e3 e4 e5 e6 e7 e8 e9 iJ ja x0 x1 x2 x3 x4 x5 x6 x7 x8 x9 eE eG
   go_wp2_with (first
    |(at_builtin
      refine Zc _ rfl (.tmp 75) (.tmp 76) _ rfl w2.heap.size 5 i0 _ 1 1 underlying106 hi cM cG cK rfl ZO (.slice av M cv) M (cells (Ln++Zg (events.take q))) rfl ep.out w3.heap.size a3 (evBytes e).length mX (cells (evBytes e)) rfl gw.out.reads (Z2 _) ZF ZO gR ?_;intro v4 w4 cd dn _;rw[←Zq,HM.out,←ZI,List.append_assoc,←fq.out] at cd;have cZ:Hid (Kept w2.heap.size w2 w4):=ZH (⟨cC.out.below.grown dn cC.out.le (λ g hg=>(Zb ep.out hg).1),ZT cC.out.le dn.size⟩);have dt:=ZH cd
      clear cd dn))
   go_roundw
   case rel=>exact⟨q+1,ZO,ZN,dt,cZ⟩
   case measure=>simp[intOf];omega
  ·obtain rfl:q=n:=ZO;rw[ZU ZO,show Ln++Zg events=LL by
    rw[gv.out,zE.out,JF.out];simp[Zz,upK,clK,evK,fw]] at HR ⊢
   have HO:=HR;have HK:=db;clear hM fC;go_wp2_with fail;obtain⟨af,cf,tk,iN⟩:=Bytes.ab HO.out;injection tk with lq tm lr;subst lq lr;refine(Zcg iN gx.out ZO).mono ?_;rintro _ ws ⟨vs,rfl,iQ,jr⟩;obtain⟨oW,cs,rfl,gj⟩:=Bytes.ab iQ;obtain⟨kZ,ij⟩:=ZH2 (HK.out.step jr) gj;obtain⟨SL,gO⟩:∃ SL,SL=Zau LL:=⟨_,rfl⟩;have t7:SL.length<=60104:=by rw[gO,ZbD];omega
   rw[←gO] at ij ⊢;have iZ:=ZH gO;clear iQ gj jr iN gO;go_wp2_with fail;refine(Za0 SL.length ws ZO).mono ?_;rintro _ wp ⟨vp,rfl,gu,eT⟩;obtain⟨ap,cp,rfl,_⟩:=Bytes.ab gu;obtain⟨iY,gk,gX⟩:=ZH3 gu (kZ.out.step eT) (ij.out.kept eT (ZL _));have tV:=Z3 2 SL.length ZO;have lU:=eT.size;clear gu eT;go_wp2_with (at_builtin;refine Zc _ rfl (.tmp 84) (.tmp 85) _ rfl ws.heap.size 5 i0 _ 1 1 underlying106 hi cM cG cK rfl ZO (.slice ap (Zd SL.length).length cp) (Zd SL.length).length (cells (Zd SL.length)) rfl iY.out wp.heap.size oW SL.length cs (cells SL) rfl gX.out.reads (Z2 _) ZF ZO lU ?_;intro v7 w7 bX cN _)
   rw[←Zq] at bX;have ik:Kept w2.heap.size w2 w7:=⟨gk.out.below.grown cN gk.out.le (λ g hg=>ZT kZ.out.le (Zb iY.out hg).1),ZT gk.out.le cN.size⟩;go_ret2
   refine⟨v7,rfl,?_,(cr.out.trans ik cr.out.le).below⟩;have kI:recBytes ⟨4,r,upto,ZCz,events⟩=Zd SL.length++SL:=by
    unfold recBytes;rw[←gv.out,←iZ.out]
   rw[kI,ZI];exact Zi bX (ZT cr.out.le kZ.out.le)
theorem ZqX{f:Frm}(h:RecOk f)(dF:f.kind=5){a:Option Addr}{n cap:Nat}{w:World}(hs:EvSl w a n cap f.events):Calls prog 115 #[Z8 f (.slice a n cap)] w λ r w'=>∃ v,r = .returned (.tuple #[v,.int .i64 0])/\w'.ownsRow w.heap.size 5 1 v (recBytes f).length (cells (recBytes f))/\Below w.heap.size w w':=by
 have cI:=ZaF h;have cQ:=Za6 h;have hlen:=h.len;have fw:=hs.2.2.1;have hr:=h.r;have dJ:=h.upto;have eb:=h.clock;obtain⟨kind,r,upto,clock,events⟩:=f;simp only[] at dF hlen fw hr dJ hs eb;subst dF;have H:=ZH h;clear h;have dW:clock=ZCz:=H.out.clock0 ZM;have cX:upto=0:=H.out.upto0 ZM ZM;subst dW cX;obtain⟨LL,fM⟩:∃ LL,LL=Zz ⟨5,r,0,ZCz,events⟩:=⟨_,rfl⟩;rw[←fM] at cI cQ;have cA:=(ZKr w).alloc (.cells (Za ⟨5,r,0,ZCz,events⟩ (.slice a n cap)) 150);have cD:=ZBn w 150 (Za ⟨5,r,0,ZCz,events⟩ (.slice a n cap));have fx:=hs.below cA.below;have dl:IntKind.u8.wrap (r:Int)=(r:Int):=by rw[IntKind.wrap_u8];omega
 obtain⟨i0,hi,cM,cG,cK⟩:=info_parts ZaA;obtain⟨c0,c1,c2,c3,c4,c5,c6,c7,c8⟩:=cD.nine;have ce:=cD.lt;obtain⟨df,di,ei,md,gx,gv⟩:=ZH6 cA cD fx eb cI fM;clear cA cD fx hs eb cI fM;go_enter func115,ntmps115;go_wp2_with fail;refine(Ze1 H.out ei.out).mono ?_;rintro _ w1 ⟨rfl,bS⟩;have cE:=ZH (df.out.step bS);have cW:=di.out.ob bS;have dV:=ZH (ei.out.below bS);clear c0 c1 c2 c3 c4 c5 c6 c7 c8 ce;obtain⟨c0,c1,c2,c3,c4,c5,c6,c7,c8⟩:=cW.nine;have ce:=cW.lt;have cL:=ZH cW;clear cW bS df di ei;go_wp2_with fail;refine(ZaJ 5 ZO ZO _).mono ?_;rintro _ w2 ⟨rfl,bW⟩;rw[show upK 5=false from rfl,show evK 5=true from rfl,show clK 5=false from rfl];have cr:=ZH (cE.out.step bW);have dd:=cL.out.ob bW;have eP:=ZH (dV.out.below bW);clear c0 c1 c2 c3 c4 c5 c6 c7 c8 ce;obtain⟨c0,c1,c2,c3,c4,c5,c6,c7,c8⟩:=dd.nine;have ce:=dd.lt;obtain⟨jH,gU,cH⟩:=ZH3 (ZcL w2 5 r) ((ZKr w2).alloc (.cells #[.int .u8 (5:Nat),.int .u8 (r:Int)] 5)) dd;clear dd bW cE cL dV;go_wp2_with fail;refine(Za0 n _ ZO).mono ?_;rintro _ wn ⟨vn,rfl,nw,gy⟩;obtain⟨an,An,rfl,oM⟩:=Bytes.ab nw;obtain⟨sO,kY,mV⟩:=ZH3 (Ze jH.out gy) (gU.out.step gy) oM;have Be:=Z3 2 n ZO;have pX:=kY.out.le;clear nw oM gy c0 c1 c2 c3 c4 c5 c6 c7 c8;have jd:=cH.out.ob kY.out.below;obtain⟨c0,c1,c2,c3,c4,c5,c6,c7,c8⟩:=jd.nine;have tL:=jd.lt;clear jd
 go_wp2_with (first
  |(at_builtin
    refine Zc _ rfl (.tmp 54) (.tmp 59) _ rfl w2.heap.size 5 i0 _ 1 1 underlying106 hi cM cG cK rfl ZO (.slice (some ⟨w2.heap.size,0,none⟩) 2 2) 2 (cells [5,r]) rfl sO.out wn.heap.size an (Zd n).length An (cells (Zd n)) rfl mV.out.reads (Z2 _) ZF ZO pX ?_;intro MV BK dN jg _;obtain⟨Ln,mZ⟩:∃ Ln,Ln=[5,r]++Zd n:=⟨_,rfl⟩;have tj:2+(Zd n).length=Ln.length:=by rw[mZ,ZI];try rfl
    rw[←Zq,←mZ,tj] at dN;have la:Hid (Kept w2.heap.size w2 BK):=ZH ⟨kY.out.below.grown jg kY.out.le (λ g hg=>(Zb sO.out hg).1),ZT kY.out.le jg.size⟩;obtain⟨Kx,KF,rfl,_⟩:=Bytes.ab dN;have A2:Ln.length<=20:=ZO;obtain⟨po,zE⟩:=ZH2 dN mZ;clear dN mZ tj jg c0 c1 c2 c3 c4 c5 c6 c7 c8;have fN:=cH.out.ob la.out.below;obtain⟨c0,c1,c2,c3,c4,c5,c6,c7,c8⟩:=fN.nine;have pT:=fN.lt
    clear fN))
 clear c0 c1 c2 c3 c4 c5 c6 c7 c8;go_loopw [8,13,14,64] (λ v _ _ i wr=>∃ q:Nat,q<=n/\i = .int .i64 q/\Hid (wr.ownsRow w2.heap.size 5 1 v (Ln++Zg (events.take q)).length (cells (Ln++Zg (events.take q))))/\Hid (Kept w2.heap.size w2 wr)) (λ _ _ _ i _=>n-(intOf i).toNat)
 case atStart=>exact⟨0,ZO,rfl,ZH (by simpa [Zg] using po.out),la⟩
 case round =>
  obtain⟨q,hq,rfl,HR,db⟩:=hrel;obtain⟨av,cv,rfl,_⟩:=Bytes.ab HR.out;have fC:(Zg (events.take q)).length<=60*1000:=by
   have h1:=ZbC (events.take q) (λ e he=>H.out.events e (List.mem_of_mem_take he));have h2:(events.take q).length<=1000:=by rw[ZV];omega
   omega
  obtain⟨M,hM⟩:∃ M,M=(Ln++Zg (events.take q)).length:=⟨_,rfl⟩;have ti:M<=70000:=by rw[hM,ZI];omega
  by_cases dy:q<n
  ·rw[←hM] at HR ⊢;have HM:=ZH hM;clear hM fC;obtain⟨e,he⟩:∃ e,events[q]? = some e:=⟨_,ZX (by rw[fw];exact dy)⟩;have dM:=ZH (H.out.events e (ZY he));have ig:=eP.out.below db.out.below;obtain⟨bk,off,rfl,cQ,e0,e1,e2,e3,e4,e5,e6,e7,e8,e9,iJ,ja⟩:=ig.at_ he;have hx:=ZBn wr 89 (evArr e);obtain⟨x0,x1,x2,x3,x4,x5,x6,x7,x8,x9,eE,eG⟩:=hx.ae;obtain⟨fq,sP,sC⟩:=ZH3 (Zcj he) (HR.out.alloc (.cells (evArr e) 89)) (db.out.alloc (.cells (evArr e) 89));have tD:=Zcz dM.out;clear ig he hx;go_wp2_with fail;refine(ZdN e _ dM.out).mono ?_;rintro _ w3 ⟨v3,rfl,ew,bZ⟩;obtain⟨a3,mX,rfl,gi⟩:=Bytes.ab ew;have ep:=ZH (Ze sP.out bZ);have cY:=sC.out.step bZ;have gR:=cY.le;obtain⟨cC,gw⟩:=ZH2 cY gi;clear ew gi cY bZ e0 e1 e2 e3 e4 e5 e6 e7 e8 e9 iJ ja x0 x1 x2 x3 x4 x5 x6 x7 x8 x9 eE eG
   go_wp2_with (first
    |(at_builtin
      refine Zc _ rfl (.tmp 75) (.tmp 76) _ rfl w2.heap.size 5 i0 _ 1 1 underlying106 hi cM cG cK rfl ZO (.slice av M cv) M (cells (Ln++Zg (events.take q))) rfl ep.out w3.heap.size a3 (evBytes e).length mX (cells (evBytes e)) rfl gw.out.reads (Z2 _) ZF ZO gR ?_;intro v4 w4 cd dn _;rw[←Zq,HM.out,←ZI,List.append_assoc,←fq.out] at cd;have cZ:Hid (Kept w2.heap.size w2 w4):=ZH (⟨cC.out.below.grown dn cC.out.le (λ g hg=>(Zb ep.out hg).1),ZT cC.out.le dn.size⟩);have dt:=ZH cd
      clear cd dn))
   go_roundw
   case rel=>exact⟨q+1,ZO,ZN,dt,cZ⟩
   case measure=>simp[intOf];omega
  ·obtain rfl:q=n:=ZO;rw[ZU ZO,show Ln++Zg events=LL by
    rw[gv.out,zE.out];simp[Zz,upK,clK,evK,fw]] at HR ⊢
   have HO:=HR;have HK:=db;clear hM fC;go_wp2_with fail;obtain⟨af,cf,tk,iN⟩:=Bytes.ab HO.out;injection tk with lq tm lr;subst lq lr;refine(Zcg iN gx.out ZO).mono ?_;rintro _ ws ⟨vs,rfl,iQ,jr⟩;obtain⟨oW,cs,rfl,gj⟩:=Bytes.ab iQ;obtain⟨kZ,ij⟩:=ZH2 (HK.out.step jr) gj;obtain⟨SL,gO⟩:∃ SL,SL=Zau LL:=⟨_,rfl⟩;have t7:SL.length<=60104:=by rw[gO,ZbD];omega
   rw[←gO] at ij ⊢;have iZ:=ZH gO;clear iQ gj jr iN gO;go_wp2_with fail;refine(Za0 SL.length ws ZO).mono ?_;rintro _ wp ⟨vp,rfl,gu,eT⟩;obtain⟨ap,cp,rfl,_⟩:=Bytes.ab gu;obtain⟨iY,gk,gX⟩:=ZH3 gu (kZ.out.step eT) (ij.out.kept eT (ZL _));have tV:=Z3 2 SL.length ZO;have lU:=eT.size;clear gu eT;go_wp2_with (at_builtin;refine Zc _ rfl (.tmp 84) (.tmp 85) _ rfl ws.heap.size 5 i0 _ 1 1 underlying106 hi cM cG cK rfl ZO (.slice ap (Zd SL.length).length cp) (Zd SL.length).length (cells (Zd SL.length)) rfl iY.out wp.heap.size oW SL.length cs (cells SL) rfl gX.out.reads (Z2 _) ZF ZO lU ?_;intro v7 w7 bX cN _)
   rw[←Zq] at bX;have ik:Kept w2.heap.size w2 w7:=⟨gk.out.below.grown cN gk.out.le (λ g hg=>ZT kZ.out.le (Zb iY.out hg).1),ZT gk.out.le cN.size⟩;go_ret2
   refine⟨v7,rfl,?_,(cr.out.trans ik cr.out.le).below⟩;have kI:recBytes ⟨5,r,0,ZCz,events⟩=Zd SL.length++SL:=by
    unfold recBytes;rw[←gv.out,←iZ.out]
   rw[kI,ZI];exact Zi bX (ZT cr.out.le kZ.out.le)
end Go.Proofs.YtjkfognelhiepaaGreat
