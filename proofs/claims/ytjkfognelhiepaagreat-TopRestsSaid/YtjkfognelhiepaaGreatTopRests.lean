/- TopRests: for every input the law returns true and leaves its arguments as they were. No condition. -/
import Derived.Test.YtjkfognelhiepaaGreatR15
import Derived.Test.YtjkfognelhiepaaGreatChecked
namespace Go.Proofs.YtjkfognelhiepaaGreat
open Go.RowKit _root_.Go.Proofs.Tryz
open Value renaming slice→S_,int→I_,bool→B_,string→T_,pointer→P_
open IntKind renaming i64→J_
open Obj renaming cells→C_
open Ending renaming returned→R_
set_option maxRecDepth 100000
set_option maxHeartbeats 8000000
theorem ZuZ{w:World}{a:Option Addr}{n cap:Nat}{ss:List RawSt}(x0 x1 x2 x3 x4 x5:Int)(s2:RawSt)(Hu:RawOk s2)(hr:Reads w w.heap.size 10 a n (ss.flatMap Zci))(hn:n=ss.length)(em:∀s∈ss,RawOk s)(nw:n<9223372036854775807):
  Calls prog 4 #[.agg #[I_ J_ x0,I_ J_ x1,I_ J_ x2,I_ J_ x3,I_ J_ x4,I_ J_ x5],S_ a n cap,.agg (Zci s2).toArray] w λe w'=>e=R_ (B_ true)/\Below w.heap.size w w':=by
 have cR:=((ZKr w).alloc (C_ #[I_ J_ x0,I_ J_ x1,I_ J_ x2,I_ J_ x3,I_ J_ x4,I_ J_ x5] 23)).alloc (C_ (Zci s2).toArray 36);have eh:=ZH ((ZBn w 23 #[I_ J_ x0,I_ J_ x1,I_ J_ x2,I_ J_ x3,I_ J_ x4,I_ J_ x5]).alloc (C_ (Zci s2).toArray 36));have jS:=ZBn (w.alloc (C_ #[I_ J_ x0,I_ J_ x1,I_ J_ x2,I_ J_ x3,I_ J_ x4,I_ J_ x5] 23)) 36 (Zci s2).toArray;rw[World.size_alloc]at jS;obtain⟨HR,HN,Qw,ed,sg,iX⟩:=ZH6 hr hn em cR jS Hu;clear hr hn em cR jS Hu;go_enter func4,ntmps4;go_wp2_with fail;refine(Zru _).mono ?_;rintro _ w1 ⟨rfl,cz⟩;obtain⟨da,fJ⟩:=ZH2 (ed.out.step cz) (sg.out.ob cz);have dm:=eh.out.ob cz;obtain⟨c0,c1,c2,c3,c4,c5⟩:=dm.aR;have jE:=dm.lt;clear cz dm;go_wp2_with fail;refine(ZuO x0 x1 x2 x3 x4 x5 w1).mono ?_;rintro _ w2 ⟨rfl,cD⟩;have em:=Zs9 (Zop x0 x1 x2 x3 x4 x5);obtain⟨c,hc⟩:∃c,c=Zfv (Zjg x0 x1 x2 x3 x4 x5):=⟨_,rfl⟩;rw[←hc]at em ⊢;obtain⟨dU,cO⟩:=ZH2 em (da.out.step cD);have xT:Blk ((w2.alloc (C_ Zmk 23)).setRow w2.heap.size (cfgArr c)) w2.heap.size 23 (cfgArr c):=(ZBn w2 23 Zmk).row _;have zN:=((ZKr w2).alloc (C_ Zmk 23)).row (ZL _) (cfgArr c);have qa:=ZH ((fJ.out.ob cD).ob zN.below);clear cD hc em c0 c1 c2 c3 c4 c5 jE;obtain⟨c0,c1,c2,c3,c4,c5⟩:=xT.aR;have Kn:=xT.lt;obtain⟨JJ,xg⟩:=ZH2 xT (cO.out.trans zN cO.out.le);clear xT zN
 go_wp2_with (first
  |(refine ZS rfl 23 rfl Zmk ZK ?_)
  |(refine wpList_store_row rfl 23 (.tmp 8) (.tmp 22) rfl w2.heap.size (cfgArr c) rfl rfl 23 Zmk (ZBn w2 23 _) (ZrS c) rfl (Zty c) ?_))
 refine(ZlJ (own:=own0) (t:=1) ZO (λ_ _=>rfl) dU.out).mono ?_;rintro _ w3 ⟨p,eL,rfl,mV,de⟩;have uG:Blk w3 w2.heap.size 23 (cfgArr c):=JJ.out.upd de (show ¬Zu 1 (own0 w2.heap.size) from nw0);have CG:eL w2.heap.size=0:=de.old _ JJ.out.lt;have sZ:Mine0 eL w3 (w.heap.size+1) 36 (Zci s2).toArray:=Mine0.upd ⟨qa.out,rfl⟩ de nw0;obtain⟨b6,eK⟩:∃b6,b6=w2.heap.size:=⟨_,rfl⟩;rw[←eK]at uG CG ⊢;obtain⟨tJ,jy⟩:=ZH2 (In.new ZO xg.out mV de) (de.fresh);have qW:=uG.lt;obtain⟨KP,Mk,iI⟩:=ZH3 uG CG sZ;clear mV de eK CG sZ c0 c1 c2 c3 c4 c5 Kn;obtain⟨c0,c1,c2,c3,c4,c5⟩:=uG.aR;clear uG;go_wp2_with fail;have Ir:=(HR.out.below tJ.out.all).more (B':=w3.heap.size) tJ.out.all.size;refine(ZtJ Ir HN.out Qw.out dU.out.n1 dU.out.n5 nw).mono ?_;rintro _ w4 ⟨v,rfl,cT,cS⟩;have CS:=ZtI dU.out Qw.out;have Pe:=ZtH c.n ss;obtain⟨l0,jD⟩:∃l0,l0=Zfb c.n ss:=⟨_,rfl⟩;rw[←jD]at cT CS Pe;have Cw:=Loc.make KP.out Mk.out jy.out cT cS;have sD:=tJ.out.below dU.out cS;obtain⟨av,cv,rfl⟩:=Cw.slice;obtain⟨sa,yT,MO,HX⟩:=ZH4 Cw sD CS (iI.out.below cS);obtain⟨b5,dH⟩:∃b5,b5=w.heap.size+1:=⟨_,rfl⟩;rw[←dH]at HX ⊢;have JX:=ZH (PastInv.new c);clear cT cS jD Cw sD CS Ir dH c0 c1 c2 c3 c4 c5 qW;go_wp2_with fail;go_loopw [12] (λi wr=>∃(q:Nat) (own:Own) (B:Bd) (x:WS),q<=l0.length/\i=I_ J_ q/\Hid (In own 1 w wr p c q B x)/\Hid (PastInv c x)/\Hid (Loc own wr b6 c 0 (S_ av l0.length cv) l0)/\Hid (Mine0 own wr b5 36 (Zci s2).toArray)) (λi _=>l0.length-(intOf i).toNat)
 case atStart=>exact⟨0,eL,_,_,ZO,rfl,yT,JX,sa,HX⟩
 case round =>
  skip
  obtain⟨q,own,B,x,hq,rfl,yT,JX,sa,HX⟩:=hrel;by_cases du:q<l0.length
  ·obtain⟨s,eu⟩:∃s,l0[q]? = some s:=⟨_,ZX du⟩;have xx:=ZH (MO.out s (ZY eu));obtain⟨g,dy,hv,ez,hc⟩:=sa.out.step eu;obtain rfl:av=some ⟨g,0,none⟩:=by injection hv
   have d0:=hc 0 _ rfl;have d1:=hc 1 _ rfl;have d2:=hc 2 _ rfl;have d3:=hc 3 _ rfl;have d4:=hc 4 _ rfl;have d5:=hc 5 _ rfl;have d6:=hc 6 _ rfl;have d7:=hc 7 _ rfl;have d8:=hc 8 _ rfl;have d9:=hc 9 _ rfl;simp only[Nat.add_zero]at d0;clear eu hv hc;go_wp2_with fail;refine(yT.out.aX ZO dU.out ZO xx.out).mono ?_;intro e6 w6 hp;obtain⟨tb,el,B6,gH,rfl,GQ,ib,_,_⟩:=yT.out.step ZO dU.out ZO xx.out hp;obtain⟨LA,Mp,EM,nZ⟩:=ZH4 GQ (JX.out.step yT.out.inv dU.out ZO (s:=Zw s tb)) (sa.out.upd ib nw0 nw0) (HX.out.upd ib nw0);clear hp gH GQ ib d0 d1 d2 d3 d4 d5 d6 d7 d8 d9 ez;go_wp2
   go_roundw
   case rel=>exact⟨q+1,el,B6,_,ZO,ZN,LA,Mp,EM,nZ⟩
   case measure=>simp[intOf];omega
  ·have Ih:q<=60:=ZO;have HC:Hid (Mine0 own wr b6 23 (cfgArr c)):=ZH ⟨sa.out.blk,sa.out.mine⟩;have V7:q=l0.length:=ZO;subst V7;obtain⟨q,O6⟩:∃q,q=l0.length:=⟨_,rfl⟩;rw[←O6]at yT Ih;go_wp2_with fail;have fu:=yT.out.rounds dU.out ZO 0 ZO;refine fu.mono ?_;clear fu;rintro _ w1 ⟨rfl,cZ,cN,Cp⟩;obtain⟨M,hM⟩:∃M,M=B.made:=⟨_,rfl⟩;have yw:RI c M q q (ZaW c 0 x):=by rw[hM];exact Zob yT.out.inv JX.out dU.out ZO ZO
   obtain⟨x1,j8⟩:∃x1,x1=ZaW c 0 x:=⟨_,rfl⟩;rw[←j8]at Cp yw;obtain⟨B1,_,dD⟩:=yw.w;obtain⟨xe,A8,vU,fJ⟩:=ZH4 (Cp B1 dD) yw (HC.out.upd cN ZeU) (HX.out.upd cN ZeU);clear cN Cp hM yw j8 dD;have jZ:=vU.out.1.cell 0;simp only[ZD,ZE]at jZ;have cW:=vU.out.1.lt;go_wp2_with fail;refine(Zex xe.out.at_ xe.out.fresh xe.out.inv dU.out ZO).mono ?_;rintro _ w2 ⟨v1,Sz,rfl,IE,CP,cD⟩;have kR:Sz.map (·.1)=Zbe c x1:=CP;have jE:Sz.length=c.n:=by
    have:=congrArg List.length CP;simpa using this
   have rK:=dU.out.n5;have qi:=dU.out.n1;have CQ:=A8.out.small dU.out ZO;have sF:=Zsi IE ZO (by rw[kR];exact λS hS=>⟨λi=>ZT ((CQ S hS).1 i) ZO,ZT (CQ S hS).2 ZO⟩);rw[kR,jE]at sF;obtain⟨EL,Lz,wU,qa⟩:=ZH4 sF (xe.out.below dU.out cD) (vU.out.below cD) (fJ.out.below cD);clear IE CP cD kR jE CQ sF jZ cW;go_wp2_with fail;refine EL.out.mono ?_;rintro _ w3 ⟨rfl,cG⟩;have Am:=A8.out.bO dU.out ZO;have oF:=A8.out.cg dU.out ZO ZO;obtain⟨u,hu⟩:∃u,u=Zcu (Zbe c x1) c.n:=⟨_,rfl⟩;rw[←hu]at Am oF ⊢;obtain⟨tJ,tB,iI,MA⟩:=ZH4 (Lz.out.below dU.out cG) (wU.out.below cG) (qa.out.below cG) oF;clear cG oF hu;go_wp2_with fail;have fu:=tJ.out.rounds dU.out ZO (3*u+2) ZO;rw[show((3*u+2:Nat):Int)=3*(u:Int)+2 by omega]at fu;refine fu.mono ?_;clear fu;rintro _ w4 ⟨rfl,dX,ei,sD⟩;have oF:=MA.out;obtain⟨x2,kw⟩:∃x2,x2=ZaW c (3*u+2) x1:=⟨_,rfl⟩;rw[←kw]at sD oF;obtain⟨B2,_,ee⟩:=oF.1.w;obtain⟨tK,MB,rk,Eo,jA⟩:=ZH5 (sD B2 ee) oF.1 oF.2 (tB.out.upd ei ZeU) (iI.out.upd ei ZeU);clear ei sD oF kw ee Am;have jZ:=Eo.out.1.cell 0;simp only[ZD,ZE]at jZ;have cW:=Eo.out.1.lt;go_wp2_with fail;refine(Zex tK.out.at_ tK.out.fresh tK.out.inv dU.out ZO).mono ?_;rintro _ w5 ⟨v2,Jc,rfl,IF,IA,dH⟩;have qw:Hid (Jc.map (·.1)=Zbe c x2):=ZH IA;obtain⟨Fk,qu,Ep,qb⟩:=ZH4 (Sites0.make IF tK.out.fresh) (tK.out.below dU.out dH) (Eo.out.below dH) (jA.out.below dH);clear IF IA dH jZ cW;go_wp2_with fail;refine(Zij qu.out.at_ qu.out.fresh qu.out.inv dU.out ZO).mono ?_;rintro _ w6 ⟨rfl,eK⟩;obtain⟨u6,kb,ln,ac,pw,qh⟩:=qu.out.inv.aT dU.out;obtain⟨HA,DO⟩:∃HA,HA=Zt u6 kb ln ac:=⟨_,rfl⟩;obtain⟨HZ,NK⟩:∃HZ,HZ=Zu1:=⟨_,rfl⟩;obtain⟨KN,JS⟩:=ZH2 pw qh;rw[pw,show Zbw u6 kb ln ac=.agg HA by rw[DO];rfl];have km:=(((ZKr w5).step eK).alloc (C_ HZ 56)).row ((ZKr w5).step eK).le HA;have ga:Blk ((w6.alloc (C_ HZ 56)).setRow w6.heap.size HA) w6.heap.size 56 HA:=(ZBn w6 56 HZ).row _;have p7:Hid (dX w6.heap.size=0):=ZH (qu.out.fresh _ eK.size);have jb:(prog.info? 56).map (λi=>i.size)=some HA.size:=by rw[DO];exact ZbU _ _ _ qh
   have dS:HA.size=HZ.size:=by rw[DO,NK];simp only[Zcs,qh,List.length_replicate]
   have dP:HA.all (·.oneCell')=true:=by rw[DO];exact Zdy _ _ _ _
   have pX:(prog.info? 56).map (λi=>i.zero)=some (some (.agg HZ)):=by rw[NK];kernel_rfl
   obtain⟨EG,vV,DH,zk,o6,AQ,LB,ua,gn⟩:=ZH9 (qu.out.below dU.out km.below) (Ep.out.below km.below) (qb.out.below km.below) (Fk.out.below qu.out.fresh km.below) ga DO jb dS dP;have UU:=ZH pX;clear eK pw km ga qh DO NK jb dS dP pX
   go_wp2_with (first
    |(refine ZS rfl 56 rfl HZ UU.out ?_)
    |(refine wpList_store_row rfl 56 (.tmp 15) (.tmp 73) rfl w6.heap.size HA rfl rfl 56 HZ (ZBn w6 56 HZ) LB.out ua.out.symm gn.out ?_))
   obtain⟨hb,RU⟩:∃hb,hb=w6.heap.size:=⟨_,rfl⟩;obtain⟨W8,DR⟩:∃W8,W8=(w6.alloc (C_ HZ 56)).setRow w6.heap.size HA:=⟨_,rfl⟩;rw[←DR]at EG vV DH zk o6 ⊢;rw[←RU]at o6 p7 ⊢;have HB:Hid (Mine0 dX W8 hb 56 (Zt u6 kb ln ac)):=ZH ⟨by rw[←AQ.out];exact o6.out,p7.out⟩;clear DR RU;have fu:=EG.out.rounds dU.out ZO 2 ZO;refine fu.mono ?_;clear fu;rintro _ w7 ⟨rfl,ef,jw,Cq⟩;obtain⟨yx,iM,CN,Cn⟩:=MB.out.still rk.out dU.out ZO ZO 2;obtain⟨x3,sZ⟩:∃x3,x3=ZaW c 2 x2:=⟨_,rfl⟩;rw[←sZ]at Cq yx iM CN Cn;obtain⟨B3,_,mV⟩:=yx.w;obtain⟨xf,E6,rl,s7,DG,jh,zj⟩:=ZH7 (Cq B3 mV) yx iM (vV.out.upd jw ZeU) (DH.out.upd jw ZeU) (HB.out.upd jw ZeU) (zk.out.upd jw ZeU);have T0:Hid (ZbL x3.hub.s.up x3.hub.s.sh x3.hub.s.told=Zbw u6 kb ln ac):=ZH (Cn.trans KN.out);have ML:=ZH CN;clear jw Cq yx iM CN Cn sZ mV;go_wp2_with fail;refine ZSi [(0,3),(2,0),(1,1),(3,3),(4,3),(5,3),(6,3),(7,0),(9,3),(8,1),(10,1),(11,3),(12,3)] λcu=>?_
   refine Zfr (v:=ptrV p) rfl (by rfl) (λw'=>by go_simp) ?_;simp only[Act.put,Q_];refine Zf (v:=Zbw u6 kb ln ac) rfl (by rfl) (λw' cL=>ZlL rfl rfl (jh.out.1.ob cL.below) JS.out) ?_;simp only[Act.put,Q_];refine ZSd λK hK=>?_
   go_simp;have qv:=xf.out.below dU.out cu.below;refine(Zij qv.at_ qv.fresh qv.inv dU.out ZO).mono ?_;rintro _ w8 ⟨rfl,ga⟩;rw[T0.out];refine hK.out (λw'=>Kept w7.heap.size w7 w') _ _ (λ_ h=>h) (cu.step ga) (λmq=>?_);clear hK K cu ga;refine Zfr (v := B_ false) rfl (by rfl) (λw'=>Znz rfl rfl rfl JS.out) ?_;simp only[Act.put,Q_];repeat((first|refine ZSa ?_|refine ZSb ?_|(refine Zf rfl (by rfl) (λw' cL=>by(have jZ:=(s7.out.1.ob cL.below).cell 0;simp only[ZD,ZE]at jZ);(have cW:=(s7.out.1.ob cL.below).lt);go_simp;with_reducible rfl) ?_));simp only[Act.put,Q_])
   refine ZSd λK hK=>?_
   go_simp;have qv:=xf.out.below dU.out mq.below;refine(Zex qv.at_ qv.fresh qv.inv dU.out ZO).mono ?_;rintro _ w9 ⟨v3,SA,rfl,IG,IB,iU⟩;have He:SA.map (·.1)=Jc.map (·.1):=(show SA.map (·.1)=Zbe c x3 from IB).trans (ML.out.trans qw.out.symm);refine hK.out (λw'=>Kept w7.heap.size w7 w') _ _ (λ_ h=>h) (mq.step iU) (λqK=>?_);have t7:=ZH (Zlv IG (zj.out.rows.below qK.below) He);clear hK K mq iU IG IB He;refine ZSd λK hK=>?_
   go_simp;refine t7.out.mono ?_;rintro _ iE ⟨rfl,px⟩;refine hK.out (λw'=>Kept w7.heap.size w7 w') _ _ (λ_ h=>h) (qK.step px) (λmr=>?_);clear hK K qK px;repeat((first|refine ZSa ?_|refine ZSb ?_|refine ZSc ?_);simp only[Act.put,Q_])
   refine ZSf ?_;obtain⟨EH,wV,vY,Fm⟩:=ZH4 (xf.out.below dU.out mr.below) (s7.out.below mr.below) (DG.out.below mr.below) (zj.out.below xf.out.fresh mr.below);clear mr;have jZ:=wV.out.1.cell 0;simp only[ZD,ZE]at jZ;have cW:=wV.out.1.lt;have fW:=vY.out.1.lt;have d1:iE.cell? ⟨b5,1,none⟩=some (I_ J_ s2.r):=vY.out.1.cell 1;have d2:iE.cell? ⟨b5,2,none⟩=some (I_ J_ s2.ek):=vY.out.1.cell 2;have d3:iE.cell? ⟨b5,3,none⟩=some (T_ s2.key):=vY.out.1.cell 3;have d4:iE.cell? ⟨b5,4,none⟩=some (I_ J_ s2.label):=vY.out.1.cell 4;have d5:iE.cell? ⟨b5,5,none⟩=some (T_ s2.value):=vY.out.1.cell 5;have qi:=dU.out.n1;have rK:=dU.out.n5;have hR:(wrap64 (s2.r.tmod (c.n:Int)+(c.n:Int))).tmod (c.n:Int)=((ZfN s2.r c.n).toNat:Int):=ZmA s2.r ZO ZO;obtain⟨R,uD⟩:∃R,R=(ZfN s2.r c.n).toNat:=⟨_,rfl⟩;have F9:R<c.n:=by
    have:=Zep s2.r (k:=(c.n:Int)) ZO;omega
   rw[←uD]at hR;have fO:=ZH hR;clear uD hR;go_wp2_with fail;go_quiet (fail)
   rw[fO.out];go_wp2_with fail;refine(Ztk s2.ek s2.key s2.label s2.value _ iX.out.key iX.out.value).mono ?_;rintro _ tw ⟨rfl,jr⟩;have pJ:Kept iE.heap.size iE tw:=((ZKr iE).drewN _).step jr;obtain⟨yU,KZ,Bp⟩:=ZH3 (EH.out.below dU.out pJ.below) (wV.out.below pJ.below) (Fm.out.below EH.out.fresh pJ.below);have RJ:=Zoq s2.ek s2.key s2.label s2.value;generalize kindF s2.ek=ek at *;generalize keyF (ZbB s2.key s2.key.size)=key at *;generalize labF ek s2.label=l9 at *;generalize valueF ek s2.value=val at *;obtain⟨s5,lB⟩:∃s5:St,s5=⟨0,R,ek,key,l9,val,0,0,0,0,false⟩:=⟨_,rfl⟩;have CR:StOk c s5:=by rw[lB];exact⟨Nat.zero_le _,.inl F9,RJ,by show(0:Nat)<4294967296;decide⟩
   have cR:s5.kind=0:=by rw[lB]
   have E2:Hid (s5.r=R):=ZH (by rw[lB]);have qP:=yU.out.aX ZO dU.out ZO CR;rw[lB]at qP;obtain⟨AK,t8,LE,Fb,JY⟩:=ZH5 qP CR cR lB F9;clear pJ jr RJ lB CR cR qP d1 d2 d3 d4 d5 jZ cW fW;go_wp2_with fail;refine AK.out.mono ?_;intro Nt Dl hp;rw[←Fb.out]at hp;obtain⟨tb,kz,B12,gH,rfl,uY,kW,_,_⟩:=yU.out.step ZO dU.out ZO t8.out hp;obtain⟨ya,ou⟩:=E6.out.edit rl.out dU.out ZO ZO (s:=Zw s5 tb) ⟨t8.out.kind,t8.out.r,t8.out.edit,t8.out.mask⟩ LE.out (by show s5.r<c.n;rw[E2.out];exact JY.out);have eO:(Zw s5 tb).r=R:=E2.out;rw[eO]at ou;obtain⟨x4,Ap⟩:∃x4,x4=(Z4 c x3 (Zw s5 tb)).1:=⟨_,rfl⟩;obtain⟨fH,iL⟩:∃fH,fH=(Z4 c x3 (Zw s5 tb)).2:=⟨_,rfl⟩;rw[←Ap]at uY ya ou;rw[←iL]at ya ou ⊢;obtain⟨nJ,AI,uj,Lc,Ld⟩:=ZH5 uY (KZ.out.upd kW nw0) (Bp.out.upd kW nw0) ya ou;clear hp gH uY kW eO Ap iL ya ou;have jZ:=AI.out.1.cell 0;simp only[ZD,ZE]at jZ;have cW:=AI.out.1.lt;by_cases h0:fH=0
   ·subst h0;go_wp2_with fail;have fu:=nJ.out.rounds dU.out ZO 2 ZO;refine fu.mono ?_;clear fu;rintro _ wI ⟨rfl,own13,sW,uZ⟩;obtain⟨Ty,_,_,Dc⟩:=nJ.out.inv.rounds dU.out ZO ZO 2;obtain⟨x5,wH⟩:∃x5,x5=ZaW c 2 x4:=⟨_,rfl⟩;have ou:=Ld.out ZM;rw[←wH]at uZ Dc ou;obtain⟨mc,AJ,Bq,vW⟩:=ZH4 (uZ Ty Dc) (AI.out.upd sW ZeU) (uj.out.upd sW ZeU) ou;clear sW uZ Dc ou wH jZ cW;have jZ:=AJ.out.1.cell 0;simp only[ZD,ZE]at jZ;have cW:=AJ.out.1.lt;go_wp2_with fail;refine(Zex mc.out.at_ mc.out.fresh mc.out.inv dU.out ZO).mono ?_;rintro _ rT ⟨v5,PB,rfl,II,ID,qM⟩;have Du:Hid (PB.map (·.1)=Zbe c x5):=ZH ID;obtain⟨Ma,tI,En,Br,LG,gA⟩:=ZH6 II (mc.out.below dU.out qM) (AJ.out.below qM) (Bq.out.below mc.out.fresh qM) (ZKr rT) (E6.out.small dU.out ZO);clear II ID qM jZ cW;go_wp2_with fail;go_loopw [19] (λi WD=>∃k:Nat,k<=c.n/\i=I_ J_ k/\Hid (Kept rT.heap.size rT WD)) (λi _=>c.n-(intOf i).toNat)
    case atStart=>exact⟨0,ZO,rfl,LG⟩
    case round =>
     skip
     obtain⟨k,hk,rfl,HK⟩:=hrel;have jZ:=(En.out.1.ob HK.out.below).cell 0;simp only[ZD,ZE]at jZ;have cW:=(En.out.1.ob HK.out.below).lt;by_cases gh:k<c.n
     ·have iN:(PB.map (·.1))[k]? = some (siteN (x5.nodes k).s):=by rw[Du.out];exact Zhg gh
      have j7:(Jc.map (·.1))[k]? = some (siteN (x3.nodes k).s):=by rw[qw.out,←ML.out];exact Zhg gh
      obtain⟨g1,BE,al1,kl1,rfl,lm,QD,_,al,VW⟩:=(Ma.out.below HK.out.below).look iN;obtain⟨g2,dy,al2,kl2,rfl,eQ,QH,_,bl,hmZ⟩:=(Br.out.rows.below HK.out.below).look j7;have eG:k<PB.length:=by have:=(ZZ.1 iN).1;simpa using this
      have dV:k<Jc.length:=by have:=(ZZ.1 j7).1;simpa using this
      obtain⟨e1,e2⟩:=vW.out k gh;have cY:=(gA.out _ (ZY (Zhg gh))).1 R;have F9:=JY.out;generalize siteN (x5.nodes k).s=N at *;generalize siteN (x3.nodes k).s=A at *;have a1:=QD R ZO;have b1:=QH R ZO;rw[e1]at a1;rw[e2]at al VW;have r0:(0:Int)<=(R:Int):=ZO;have r5:(R:Int)<5:=ZO;clear QD QH e1 e2 iN j7;go_wp2_with fail;go_quiet (fail)
      go_wp2
      go_roundw
      case rel=>exact⟨k+1,ZO,ZN,HK.out.drewN _⟩
      case measure=>simp[intOf];omega
     ·obtain rfl:k=c.n:=ZO;go_wp2
      go_ret;exact⟨rfl,(tI.out.below dU.out HK.out.below).all⟩
   ·have cz:((fH:Int)==0)=false:=ZP;have cD:¬(fH:Int)=0:=ZO;have zd:=ZH (Lc.out h0);go_wp2_with fail;refine(Zex nJ.out.at_ nJ.out.fresh nJ.out.inv dU.out ZO).mono ?_;rintro _ wI ⟨v4,SB,rfl,IH,IC,BR⟩;have D2:SB.map (·.1)=Jc.map (·.1):=(show SB.map (·.1)=Zbe c x4 from IC).trans (zd.out.trans (ML.out.trans qw.out.symm));obtain⟨t7,mc⟩:=ZH2 (Zlv IH (uj.out.rows.below BR) D2) (nJ.out.below dU.out BR);clear IH IC BR D2 jZ cW;go_wp2_with fail;refine t7.out.mono ?_;rintro _ rT ⟨rfl,qM⟩;have tI:=ZH (mc.out.below dU.out qM);clear qM;go_wp2
    go_ret;exact⟨rfl,tI.out.all⟩
end Go.Proofs.YtjkfognelhiepaaGreat
namespace Go.Proofs.YtjkfognelhiepaaGreat.topRests
open Value renaming slice→S_,int→I_,bool→B_,string→T_,pointer→P_
open IntKind renaming i64→J_
open Obj renaming cells→C_
open Ending renaming returned→R_
open Go.RowKit _root_.Go.Proofs.Tryz
set_option maxRecDepth 100000
set_option maxHeartbeats 8000000
open Go.ChangeShapes Go.WideShapes Go.ChangeAt Go.RowKit
open Go.ChangeMaps (open_string shut_string)
theorem own_:ownKnob prog.godebug=none:=ZK
theorem laid_:laidOutB prog=true:=ZK
theorem lifted(os:Os)(started:os.Started)(H:Type)(enc:TypeId×Value->H):
  ReturnsInHanded {} checked os 4 .any (Rows.topRestsSpec.pre6 enc prog f4 Rows.topRestsRow.domain false) (Rows.topRestsSpec.post enc prog f4 false true false false):=by
 refine returnsInHanded_of_change_sized (C:=checked) own_ started ZK func4
  (ChangeSpec.witness6 (enc:=enc) (C:=checked) false ⟨#[],#[.agg #[I_ J_ 0,I_ J_ 0,I_ J_ 0,I_ J_ 0,I_ J_ 0,I_ J_ 0],S_ none 0 0,.agg #[I_ J_ 0,I_ J_ 0,I_ J_ 0,T_ ⟨#[]⟩,I_ J_ 0,T_ ⟨#[]⟩,I_ J_ 0,I_ J_ 0,.int .u32 0,I_ J_ 0]],[]⟩ 8 ZK ZK ZK ZK) ?_
 intro W base args ds gs before WM hW hcnd dS _;have mT:∀(j:Nat) t v,f4.params[j]? = some t->args[j]? = some v->Value.okWide prog W .any base t v:=WM;have WR:=hW;obtain⟨p,q,NC,hV,rfl,Ci,Hp⟩:=hW;have hA:DataW.TrodAll enc prog W 0 (λ_=>true) true f4.params.toList args.toList ds p:=NC;rw[params4]at hA mT;obtain⟨v0,vs0,d0,ds0,p0,q0,hargs,rfl,rfl,h0,r0⟩:=trodAll_cons hA;obtain⟨v1,vs1,d1,ds1,p1,q1,rfl,rfl,rfl,h1,r1⟩:=trodAll_cons r0;obtain⟨v2,vs2,d2,ds2,p2,q2,rfl,rfl,rfl,h2,r2⟩:=trodAll_cons r1;obtain⟨rfl,rfl,rfl⟩:=trodAll_nil r2;obtain rfl:args=#[v0,v1,v2]:=by cases args;simp_all
 obtain⟨rfl,rfl⟩:=trodVars_none hV;have k0:=h0;have WT:∀x∈p0,x.block<W.heap.size:=by obtain⟨m,hm⟩:=k0;exact DataW.trod_lt m _ _ _ hm
 have k1:=h1;have WU:∀x∈p1,x.block<W.heap.size:=by obtain⟨m,hm⟩:=k1;exact DataW.trod_lt m _ _ _ hm
 have k2:=h2;have WV:∀x∈p2,x.block<W.heap.size:=by obtain⟨m,hm⟩:=k2;exact DataW.trod_lt m _ _ _ hm
 have cV:∀m∈d1.weights prog 24,m<=reachBytes:=λm hm=>of_decide_eq_true (List.all_eq_true.1 dS _ (DataW.weights_mem_each (j:=1) (by rw[params4];rfl) rfl m hm))
 have dc:∀m∈d2.weights prog 36,m<=reachBytes:=λm hm=>of_decide_eq_true (List.all_eq_true.1 dS _ (DataW.weights_mem_each (j:=2) (by rw[params4];rfl) rfl m hm))
 obtain⟨x0,x1,x2,x3,x4,x5,rfl⟩:=ZuP (mT 0 23 _ rfl rfl) h0;obtain⟨a1,n1,c1,ss,rfl,qi,WP,WQ,WN⟩:=ZuX (mT 1 24 _ rfl rfl) h1 cV;obtain⟨s2,rfl,Hu⟩:=ZuW (mT 2 36 _ rfl rfl) h2 dc;clear NC WM;refine(ZuZ x0 x1 x2 x3 x4 x5 s2 Hu WQ qi WP WN).mono λe W' ⟨he,WO⟩=>?_
 subst he;exact⟨_,rfl,_,_,_,[],_,[],WR,trodAll_mk1 (shut_bool underlying4 _),(trodAll_cons_mk (Below.trod laid_ ZK (of_decide_eq_true ZK) k0 WO WT) (trodAll_cons_mk (Below.trod laid_ ZK (of_decide_eq_true ZK) k1 WO WU) (trodAll_cons_mk (Below.trod laid_ ZK (of_decide_eq_true ZK) k2 WO WV) trodAll_mk0))),rfl,WO.frame _,λh=>by cases h⟩
theorem Zu5:Rows.topRestsRow.holds Tryz.pinned (OpenSpec.ofChange Rows.topRestsSpec) :=
 OpenClaim.holds_of_wide 4 f4 rfl rfl rfl rfl rfl rfl rfl ⟨rfl,rfl,rfl,rfl,rfl⟩ rfl rfl rfl rfl rfl ZK func4 ZK
  (of_decide_eq_true ZK) (by unfold Func.isWrapper;first|(rw[ZPp (by decide +kernel)];kernel_rfl)|(rw[ZPn (by decide +kernel)];exact⟨rfl,rfl⟩))
  (λos started H enc _=>lifted os started H enc)
theorem proved:Rows.TopRestsSaid:=Zu5
end Go.Proofs.YtjkfognelhiepaaGreat.topRests
namespace Go.Proofs.YtjkfognelhiepaaGreat
open Value renaming slice→S_,int→I_,bool→B_,string→T_,pointer→P_
open IntKind renaming i64→J_
open Obj renaming cells→C_
open Ending renaming returned→R_
open Go.RowKit _root_.Go.Proofs.Tryz
set_option maxRecDepth 100000
set_option maxHeartbeats 8000000
end Go.Proofs.YtjkfognelhiepaaGreat
