import Derived.Test.YtjkfognelhiepaaGreatR12
import Derived.RangeFuncNested
import Derived.RangeFuncLeaves
import Derived.Shelf.Abstract
import Derived.Shelf.RegionOpen
import Derived.OwnWalkIn
import Derived.TacticsInMore
import Derived.LoopNIn
import Derived.LoopIn
namespace Go.Proofs.YtjkfognelhiepaaGreat
open Go.RowKit _root_.Go.Proofs.Tryz
open Value renaming slice→S_,int→I_,bool→B_,string→T_,pointer→P_
open IntKind renaming i64→J_
open Obj renaming cells→C_
open Ending renaming returned→R_
set_option maxRecDepth 100000
set_option maxHeartbeats 8000000
variable{c:Cfg}{d k r t:Nat}{s:NodeSt}{w:World}{xs ys:Array Value}
theorem ZmP(q:Nat)(w:World):(method 477 83 (ptrV q) "Crash").run prog w=.ok (44,ptrV q) w:=ZK
theorem ZmQ(q:Nat)(w:World):(method 477 83 (ptrV q) "Start").run prog w=.ok (45,ptrV q) w:=ZK
theorem Zpm(q:Nat)(w:World):(method 477 83 (ptrV q) "Cut").run prog w=.ok (277,ptrV q) w:=ZK
theorem ZnL(q:Nat)(w:World):(method 477 75 (ptrV q) "Crash").run prog w=.ok (46,ptrV q) w:=ZK
theorem ZnM(q:Nat)(w:World):(method 477 75 (ptrV q) "Start").run prog w=.ok (47,ptrV q) w:=ZK
theorem ZqR(q:Nat)(w:World):(method 477 75 (ptrV q) "Cut").run prog w=.ok (275,ptrV q) w:=ZK
section
variable {own:Own}{t p m b:Nat}{w:World}{c:Cfg}{B:Bd}{x:WS}{s:St}
theorem Zgj(ht:0<t)(h:WorldAt own t w p c x)(hf:Fresh own w)(hi:WInv c B m b x)(hc:c.Ok)(hm:m<=100)(hb:b<=700)(hs:StOk c s)(hk:8<=s.kind/\s.kind<=10):
  Calls prog 33 #[ptrV p,Zl8 s] w (Zeb own t p c w s (Zb5 c x)):=by
 have h5:=hc.n5;have eX:tot B.made<=100:=ZT hi.sum hm;have cP:=(ZW w.heap.size w).alloc (ZL _) (C_ (ZaI s) 36);have hX:=ZBn w 36 (ZaI s);have dt:Upd (λ_=>False) own own w (w.alloc (C_ (ZaI s) 36)):=ZUb cP hf;have HW:=ZH (h.upd dt (λ_ _ h=>h) (λh=>h) h5);obtain⟨x0,x1,x2,x3,x4,x5,x6,x7,x8,x9⟩:=hX.aQ;have fV:=hX.lt;have Qu:Hid (own w.heap.size=0):=ZH (hf _ (ZL _));obtain⟨HU,HX,HI,HC,HS⟩:=ZH5 dt hX hi hc hs;clear h hf hi cP hX dt hs;obtain⟨kind,sr,ek,key,label,value,at_,bit,mask,keep,turned⟩:=s;simp only at hk;have oT:kind=8∨kind=9∨kind=10:=ZO;by_cases hn:sr<c.n
 ·rcases oT with rfl|rfl|rfl
  ·
   go_enter func33,ntmps33;go_wp2_with fail;generalize (w.alloc (C_ (ZaI ⟨8,sr,ek,key,label,value,at_,bit,mask,keep,turned⟩) 36))=W at *;refine(ZaO HW.out hn).mono ?_;rintro _ w1 ⟨rfl,cz⟩;have cN:Upd (λ_=>False) own own W w1:=ZUb cz HU.out.fresh;have dD:=HW.out.upd cN (λ_ _ h=>h) (λh=>h) h5;obtain⟨g,k,hp,lp,q,cH,ez,cB,dB,fw⟩:=dD.node hn h5;have gi:(0:Int)<=(sr:Int):=ZO;have lw:(sr:Int)<(c.n:Int):=ZO;obtain⟨HB,nW,HN,jU,dA,fJ⟩:=ZH6 cH cB dB fw (HU.out.trans cN) (HX.out.ob cz);clear cz cN dD cH cB dB fw x0 x1 x2 x3 x4 x5 x6 x7 x8 x9 fV;go_wp2_with fail;refine ZSi [(0,3),(1,0),(2,3),(3,0),(4,3),(5,0),(6,3),(7,0),(8,3),(9,3)] λcu=>?_
   repeat((first|refine ZSa ?_|refine ZSb ?_|(refine Zf (v:=?_) rfl (by rfl) ?_ ?_;rotate_left 1;(intro w' cL;(obtain⟨c0,c1,c2⟩:=(HB.out.ob cL.below).three);(obtain⟨x0,x1,x2,x3,x4,x5,x6,x7,x8,x9⟩:=(fJ.out.ob cL.below).aQ);(have iJ:=(cL.below.cell (p:=⟨g,sr,none⟩) ez).trans nW.out);go_simp;with_reducible rfl)));simp only[Act.put,Q_])
   refine ZSf ?_;have cD:=(ZW w1.heap.size w1).drew;obtain⟨x0,x1,x2,x3,x4,x5,x6,x7,x8,x9⟩:=(fJ.out.ob cD).aQ;have fV:=fJ.out.lt;have jp:=ZmP q;have dF:Upd (λ_=>False) own own w1 w1.drew:=ZUb cD dA.out.fresh;clear cD cu;go_wp2_with fail;refine(ZjY (HN.out.upd dF (λ_ _ h=>h)) dF.fresh).mono ?_;rintro _ w2 ⟨rfl,fI,cM⟩;have ee:=jU.out _ _ (ZcF (x.nodes sr)) ((dF.mono (T':=NodeT (t+100+10*sr)) (λn h=>h.elim)).trans cM) fI;have fq:=ZH ee;have dC:Hid (Upd (Zu t) own own w w2):=ZH ((dA.out.mono λn h=>h.elim).trans (((dF.mono (T':=NodeT (t+100+10*sr)) (λn h=>h.elim)).trans cM).mono λn h=>h.world ZO));clear ee fI cM dF x0 x1 x2 x3 x4 x5 x6 x7 x8 x9;go_wp2
   go_ret;refine⟨turned,λ_=>rfl,?_⟩;have e:Zb5 c x (Zw ⟨8,sr,ek,key,label,value,at_,bit,mask,keep,turned⟩ turned)=(⟨Zbn x.nodes sr (ZcF (x.nodes sr)),x.hub,x.link⟩,0):=by simp[Zb5,Zw,hn]
   rw[e];exact⟨rfl,own,fq.out,dC.out⟩
  ·
   go_enter func33,ntmps33;go_wp2_with fail;generalize (w.alloc (C_ (ZaI ⟨9,sr,ek,key,label,value,at_,bit,mask,keep,turned⟩) 36))=W at *;refine(ZaO HW.out hn).mono ?_;rintro _ w1 ⟨rfl,cz⟩;have cN:Upd (λ_=>False) own own W w1:=ZUb cz HU.out.fresh;have dD:=HW.out.upd cN (λ_ _ h=>h) (λh=>h) h5;obtain⟨g,k,hp,lp,q,cH,ez,cB,dB,fw⟩:=dD.node hn h5;have gi:(0:Int)<=(sr:Int):=ZO;have lw:(sr:Int)<(c.n:Int):=ZO;obtain⟨HB,nW,HN,jU,dA,fJ⟩:=ZH6 cH cB dB fw (HU.out.trans cN) (HX.out.ob cz);clear cz cN dD cH cB dB fw x0 x1 x2 x3 x4 x5 x6 x7 x8 x9 fV;go_wp2_with fail;refine ZSi [(0,3),(1,0),(2,3),(3,0),(4,3),(5,0),(6,3),(7,0),(8,3),(9,3)] λcu=>?_
   repeat((first|refine ZSa ?_|refine ZSb ?_|(refine Zf (v:=?_) rfl (by rfl) ?_ ?_;rotate_left 1;(intro w' cL;(obtain⟨c0,c1,c2⟩:=(HB.out.ob cL.below).three);(obtain⟨x0,x1,x2,x3,x4,x5,x6,x7,x8,x9⟩:=(fJ.out.ob cL.below).aQ);(have iJ:=(cL.below.cell (p:=⟨g,sr,none⟩) ez).trans nW.out);go_simp;with_reducible rfl)));simp only[Act.put,Q_])
   refine ZSf ?_;have cD:=(ZW w1.heap.size w1).drew;obtain⟨x0,x1,x2,x3,x4,x5,x6,x7,x8,x9⟩:=(fJ.out.ob cD).aQ;have fV:=fJ.out.lt;have jp:=ZmQ q;have dF:Upd (λ_=>False) own own w1 w1.drew:=ZUb cD dA.out.fresh;clear cD cu;go_wp2_with fail;refine(ZiW ZO (HN.out.upd dF (λ_ _ h=>h)) dF.fresh (HI.out.nodes _ hn) ZO eX hb).mono ?_;rintro _ w2 ⟨rfl,cK,fI,cM⟩;have ee:=jU.out _ _ (ZbI sr (x.nodes sr)).1 ((dF.mono (T':=NodeT (t+100+10*sr)) (λn h=>h.elim)).trans cM) fI;have fq:=ZH ee;have dC:Hid (Upd (Zu t) own cK w w2):=ZH ((dA.out.mono λn h=>h.elim).trans (((dF.mono (T':=NodeT (t+100+10*sr)) (λn h=>h.elim)).trans cM).mono λn h=>h.world ZO));clear ee fI cM dF x0 x1 x2 x3 x4 x5 x6 x7 x8 x9;go_wp2
   go_ret;refine⟨turned,λ_=>rfl,?_⟩;have e:Zb5 c x (Zw ⟨9,sr,ek,key,label,value,at_,bit,mask,keep,turned⟩ turned)=(⟨Zbn x.nodes sr (ZbI sr (x.nodes sr)).1,x.hub,x.link⟩,(ZbI sr (x.nodes sr)).2):=by simp[Zb5,Zw,hn]
   rw[e];exact⟨rfl,cK,fq.out,dC.out⟩
  ·
   go_enter func33,ntmps33;go_wp2_with fail;generalize (w.alloc (C_ (ZaI ⟨10,sr,ek,key,label,value,at_,bit,mask,keep,turned⟩) 36))=W at *;refine(ZaO HW.out hn).mono ?_;rintro _ w1 ⟨rfl,cz⟩;have cN:Upd (λ_=>False) own own W w1:=ZUb cz HU.out.fresh;have dD:=HW.out.upd cN (λ_ _ h=>h) (λh=>h) h5;obtain⟨g,k,hp,lp,q,cH,ez,cB,dB,fw⟩:=dD.node hn h5;have gi:(0:Int)<=(sr:Int):=ZO;have lw:(sr:Int)<(c.n:Int):=ZO;obtain⟨HB,nW,HN,jU,dA,fJ⟩:=ZH6 cH cB dB fw (HU.out.trans cN) (HX.out.ob cz);clear cz cN dD cH cB dB fw x0 x1 x2 x3 x4 x5 x6 x7 x8 x9 fV;go_wp2_with fail;refine ZSi [(0,3),(1,0),(2,3),(3,0),(4,3),(5,0),(6,3),(7,0),(8,3),(9,3)] λcu=>?_
   repeat((first|refine ZSa ?_|refine ZSb ?_|(refine Zf (v:=?_) rfl (by rfl) ?_ ?_;rotate_left 1;(intro w' cL;(obtain⟨c0,c1,c2⟩:=(HB.out.ob cL.below).three);(obtain⟨x0,x1,x2,x3,x4,x5,x6,x7,x8,x9⟩:=(fJ.out.ob cL.below).aQ);(have iJ:=(cL.below.cell (p:=⟨g,sr,none⟩) ez).trans nW.out);go_simp;with_reducible rfl)));simp only[Act.put,Q_])
   refine ZSf ?_;have cD:=(ZW w1.heap.size w1).drew;obtain⟨x0,x1,x2,x3,x4,x5,x6,x7,x8,x9⟩:=(fJ.out.ob cD).aQ;have fV:=fJ.out.lt;have jp:=Zpm q;have dF:Upd (λ_=>False) own own w1 w1.drew:=ZUb cD dA.out.fresh;clear cD cu;go_wp2_with fail;refine(Zss (HN.out.upd dF (λ_ _ h=>h)) dF.fresh keep).mono ?_;rintro _ w2 ⟨rfl,fI,cM⟩;have ee:=jU.out _ _ (ZoT (x.nodes sr) keep) ((dF.mono (T':=NodeT (t+100+10*sr)) (λn h=>h.elim)).trans cM) fI;have fq:=ZH ee;have dC:Hid (Upd (Zu t) own own w w2):=ZH ((dA.out.mono λn h=>h.elim).trans (((dF.mono (T':=NodeT (t+100+10*sr)) (λn h=>h.elim)).trans cM).mono λn h=>h.world ZO));clear ee fI cM dF x0 x1 x2 x3 x4 x5 x6 x7 x8 x9;go_wp2
   go_ret;refine⟨turned,λ_=>rfl,?_⟩;have e:Zb5 c x (Zw ⟨10,sr,ek,key,label,value,at_,bit,mask,keep,turned⟩ turned)=(⟨Zbn x.nodes sr (ZoT (x.nodes sr) keep),x.hub,x.link⟩,0):=by simp[Zb5,Zw,hn]
   rw[e];exact⟨rfl,own,fq.out,dC.out⟩
 ·have lB:sr=5:=(HS.out.r).resolve_left hn;subst lB;rcases oT with rfl|rfl|rfl
  ·
   go_enter func33,ntmps33;go_wp2_with fail;generalize (w.alloc (C_ (ZaI ⟨8,5,ek,key,label,value,at_,bit,mask,keep,turned⟩) 36))=W at *;refine(Zbk HW.out (r:=((5:Nat):Int)) (.inr ZO)).mono ?_;rintro _ w1 ⟨rfl,cz⟩;have cN:Upd (λ_=>False) own own W w1:=ZUb cz HU.out.fresh;have dD:=HW.out.upd cN (λ_ _ h=>h) (λh=>h) h5;obtain⟨vn,hp,lp,cH,eA,fw⟩:=dD.hub;have mu:=HX.out.ob cz;obtain⟨HN,jU,dA,fJ⟩:=ZH4 eA fw (HU.out.trans cN) mu;obtain⟨c0,c1,c2⟩:=cH.three;have cW:=cH.lt;clear x0 x1 x2 x3 x4 x5 x6 x7 x8 x9 fV;obtain⟨x0,x1,x2,x3,x4,x5,x6,x7,x8,x9⟩:=mu.aQ;have fV:=mu.lt;have jp:=ZnL hp;clear cz cN dD cH eA fw mu;go_wp2_with fail;refine(Zk5 HN.out dA.out.fresh).mono ?_;rintro _ w2 ⟨rfl,fI,cM⟩;have ee:=jU.out _ _ (ZcR x.hub) h5 cM fI;have fq:=ZH ee;have dC:Hid (Upd (Zu t) own own w w2):=ZH ((dA.out.mono λn h=>h.elim).trans (cM.mono λn h=>h.world));clear ee fI cM x0 x1 x2 x3 x4 x5 x6 x7 x8 x9;go_wp2
   go_ret;refine⟨turned,λ_=>rfl,?_⟩;have e:Zb5 c x (Zw ⟨8,5,ek,key,label,value,at_,bit,mask,keep,turned⟩ turned)=(⟨x.nodes,ZcR x.hub,x.link⟩,0):=by simp[Zb5,Zw,hn]
   rw[e];exact⟨rfl,own,fq.out,dC.out⟩
  ·
   go_enter func33,ntmps33;go_wp2_with fail;generalize (w.alloc (C_ (ZaI ⟨9,5,ek,key,label,value,at_,bit,mask,keep,turned⟩) 36))=W at *;refine(Zbk HW.out (r:=((5:Nat):Int)) (.inr ZO)).mono ?_;rintro _ w1 ⟨rfl,cz⟩;have cN:Upd (λ_=>False) own own W w1:=ZUb cz HU.out.fresh;have dD:=HW.out.upd cN (λ_ _ h=>h) (λh=>h) h5;obtain⟨vn,hp,lp,cH,eA,fw⟩:=dD.hub;have mu:=HX.out.ob cz;obtain⟨HN,jU,dA,fJ⟩:=ZH4 eA fw (HU.out.trans cN) mu;obtain⟨c0,c1,c2⟩:=cH.three;have cW:=cH.lt;clear x0 x1 x2 x3 x4 x5 x6 x7 x8 x9 fV;obtain⟨x0,x1,x2,x3,x4,x5,x6,x7,x8,x9⟩:=mu.aQ;have fV:=mu.lt;have jp:=ZnM hp;clear cz cN dD cH eA fw mu;go_wp2_with fail;obtain⟨H,hH,qg,_⟩:=HI.out.hub;refine(ZjQ ZO HN.out dA.out.fresh qg HC.out).mono ?_;rintro _ w2 ⟨rfl,cK,fI,cM⟩;have ee:=jU.out _ _ (ZbX c x.hub).1 h5 cM fI;have fq:=ZH ee;have dC:Hid (Upd (Zu t) own cK w w2):=ZH ((dA.out.mono λn h=>h.elim).trans (cM.mono λn h=>h.world));clear ee fI cM x0 x1 x2 x3 x4 x5 x6 x7 x8 x9;go_wp2
   go_ret;refine⟨turned,λ_=>rfl,?_⟩;have e:Zb5 c x (Zw ⟨9,5,ek,key,label,value,at_,bit,mask,keep,turned⟩ turned)=(⟨x.nodes,(ZbX c x.hub).1,x.link⟩,(ZbX c x.hub).2):=by simp[Zb5,Zw,hn]
   rw[e];exact⟨rfl,cK,fq.out,dC.out⟩
  ·
   go_enter func33,ntmps33;go_wp2_with fail;generalize (w.alloc (C_ (ZaI ⟨10,5,ek,key,label,value,at_,bit,mask,keep,turned⟩) 36))=W at *;refine(Zbk HW.out (r:=((5:Nat):Int)) (.inr ZO)).mono ?_;rintro _ w1 ⟨rfl,cz⟩;have cN:Upd (λ_=>False) own own W w1:=ZUb cz HU.out.fresh;have dD:=HW.out.upd cN (λ_ _ h=>h) (λh=>h) h5;obtain⟨vn,hp,lp,cH,eA,fw⟩:=dD.hub;have mu:=HX.out.ob cz;obtain⟨HN,jU,dA,fJ⟩:=ZH4 eA fw (HU.out.trans cN) mu;obtain⟨c0,c1,c2⟩:=cH.three;have cW:=cH.lt;clear x0 x1 x2 x3 x4 x5 x6 x7 x8 x9 fV;obtain⟨x0,x1,x2,x3,x4,x5,x6,x7,x8,x9⟩:=mu.aQ;have fV:=mu.lt;have jp:=ZqR hp;clear cz cN dD cH eA fw mu;go_wp2_with fail;refine(ZtV HN.out dA.out.fresh keep).mono ?_;rintro _ w2 ⟨rfl,fI,cM⟩;have ee:=jU.out _ _ (ZoS x.hub keep) h5 cM fI;have fq:=ZH ee;have dC:Hid (Upd (Zu t) own own w w2):=ZH ((dA.out.mono λn h=>h.elim).trans (cM.mono λn h=>h.world));clear ee fI cM x0 x1 x2 x3 x4 x5 x6 x7 x8 x9;go_wp2
   go_ret;refine⟨turned,λ_=>rfl,?_⟩;have e:Zb5 c x (Zw ⟨10,5,ek,key,label,value,at_,bit,mask,keep,turned⟩ turned)=(⟨x.nodes,ZoS x.hub keep,x.link⟩,0):=by simp[Zb5,Zw,hn]
   rw[e];exact⟨rfl,own,fq.out,dC.out⟩
end
section
variable {own:Own}{t p:Nat}{w:World}{c:Cfg}{x:WS}
theorem Zho(h:WorldAt own t w p c x)(hf:Fresh own w)(hc:c.n<=5){fn:Nat}(rC:fn=37∨fn=38∨fn=39){q:Nat}{o:Option Frm×Nat}(ft:Calls prog fn #[ptrV q] w (ZbJ o w))
  (dS:∀g,o.1=some g->(Zn g).length<=1000000000) (hl:x.link.length<=1000000) (ho:o.1=none->o.2≠0) :
  Calls prog 36 #[ptrV p,.func (.func fn) #[ptrV q] #[]] w λe w'=>e=R_ (I_ J_ (Zga x o).2)/\∃own',WorldAt own' t w' p c (Zga x o).1/\Upd (Zu t) own own' w w':=by
 obtain⟨HF,HW,HC,ua,HL,HO⟩:=ZH6 hf h ft dS hl ho;clear h hf ft dS hl ho;obtain⟨o,fH⟩:=o;rcases rC with rfl|rfl|rfl
 all_goals
  go_enter func36,ntmps36;go_wp2_with fail;refine HC.out.mono ?_;intro e w1 hP;unfold ZbJ at hP
  cases o with
  |none =>
   obtain⟨rfl,cz⟩:=hP;have hz:((fH:Int)==0)=false:=by have:=HO.out rfl;simp at this ⊢;exact this
   have cN:Upd (Zu t) own own w w1:=ZUb cz HF.out;have dD:=HW.out.upd (ZUb (T:=λ_=>False) cz HF.out) (λ_ _ h=>h) (λh=>h) hc;obtain⟨HU,gk⟩:=ZH2 cN dD;clear cz cN dD;go_wp2
   go_ret;exact⟨rfl,own,gk.out,HU.out⟩
  |some g =>
   obtain⟨v,rfl,eG,cz⟩:=hP;have cN:Upd (λ_=>False) own own w w1:=ZUb cz HF.out;have dD:=HW.out.upd cN (λ_ _ h=>h) (λh=>h) hc;obtain⟨vn,hp,lp,cH,kQ,fw⟩:=dD.link;obtain⟨c0,c1,c2⟩:=cH.three;have cI:=cH.lt;obtain⟨a,k,rfl,gF⟩:=Bytes.ae eG;have hS:=Zld kQ cN.fresh (by unfold flsOf;rw[List.length_map];exact HL.out) ZO 5 gF (ua.out g rfl);obtain⟨HS,HU,jU⟩:=ZH3 hS cN fw;clear eG cz cN dD cH kQ fw gF hS c0 c1;go_wp2_with fail;refine HS.out.mono ?_;rintro _ w2 ⟨rfl,cK,jc,cM⟩;have ee:=jU.out _ _ (x.link++[(5,g)]) hc cM (by unfold flsOf at jc ⊢;rw[List.map_append];exact jc);have ew:Hid (Upd (Zu t) own cK w w2):=ZH ((HU.out.mono (λn h=>h.elim)).trans (cM.mono (λn h=>⟨ZO,ZO⟩)));have fq:=ZH ee;clear ee jc cM;go_wp2
   go_ret;exact⟨rfl,cK,fq.out,ew.out⟩
end
theorem ZgR(cs:Array Value)(h:cs.size=12):(prog.info? 89).map (λi=>i.size)=some cs.size:=by rw[h];kernel_rfl
theorem Zup(e:Ev):(evArr e).all (·.oneCell')=true:=by simp[evArr,Value.oneCell']
theorem Zjx:Zk.all (·.oneCell')=true:=by simp[Zk,Value.oneCell']
theorem Zkr{own own0:Own}{p z:Nat}{W:World}(ht:0<t)(HN:NodeAt own t W p c r s)(_HZ:Blk W z 89 Zk)(hz:w.heap.size<=z)(V5:own z=0)(HU:Upd (NodeT t) own0 own w W)(fH:Nat):
  (∃v,Ending.returned (.tuple #[.agg Zk,I_ J_ fH])=R_ (.tuple #[.agg (evArr v),I_ J_ fH]))/\∃own',NodeAt own' t (W.setRow z Zk) p c r s/\Upd (NodeT t) own0 own' w (W.setRow z Zk):=by
 have h1:Upd (· = 0) own own W (W.setRow z Zk):=(Upd.refl (· = 0) own W HU.fresh).setRow (λ_=>V5) Zk;refine⟨⟨ev0,rfl⟩,own,HN.upd h1 (λn hn=>by obtain⟨h2,h3⟩:=hn;omega),?_⟩;exact HU.setRow (λh=>absurd h ZO) Zk
section
variable {own:Own}{t p r:Nat}{w:World}{c:Cfg}{s:NodeSt}{kind label:Nat}{key value:ByteArray}
theorem ZqY(ht:0<t)(h:NodeAt own t w p c r s)(hf:Fresh own w)(hm:MayEdit c r s kind key label value):
  Calls prog 35 #[ptrV p,Zfz kind key label value] w λe w'=>(∃v,e=R_ (.tuple #[.agg (evArr v),I_ J_ (ZdD c r s kind key label value).2]))/\∃own',NodeAt own' t w' p c r (ZdD c r s kind key label value).1/\Upd (NodeT t) own own' w w':=by
 obtain⟨HF,HN,HM⟩:=ZH3 hf h hm;obtain⟨h1,dp,bp,ip,op,lv,h3,h4,h5,h6,h7,h8⟩:=h;obtain⟨al,cl,rfl,eW⟩:=EvSl.ae h5.row;have cI:=h3.lt;have eC:=N_
 have cP:=ZbT w (C_ #[I_ J_ kind,T_ key,I_ J_ label,T_ value] 33) (C_ Zk 89);have HE:=ZH ((ZBn w 33 #[I_ J_ kind,T_ key,I_ J_ label,T_ value]).alloc (C_ Zk 89));have NZ:=Zag w (C_ #[I_ J_ kind,T_ key,I_ J_ label,T_ value] 33) 89 Zk;have dt:Upd (λ_=>False) own own w _:=ZUb cP hf;obtain⟨HZ,HB,HU,HS,HL,HI,HO,Dw⟩:=ZH8 NZ (h3.ob cP) dt (eW.below cP) (h6.upd dt (λh=>h)) (h7.upd dt (λh=>h)) (h8.upd dt (λh=>h)) (HN.out.upd dt (λ_ _ h=>h));have JW:Hid (own (w.heap.size+1)=0):=ZH (hf _ (Nat.le_succ _));have HOE:Hid (own w.heap.size=0):=ZH (hf _ (ZL _));obtain⟨c6,c7,c8,c9,dg,dh,eH,eI⟩:=HB.out.ai;have oU:=HB.out.lt;have hze:=NZ.lt;clear h1 h3 h4 h5 h6 h7 h8 eW hf hm cP NZ dt;obtain⟨up,d,log,sent,book,clk,held,wait⟩:=s;rcases up with _|_
 ·go_enter func35,ntmps35;go_wp2_with fail;refine bodyPost_ret (Zq rfl rfl rfl (run_loadVar_row _ _ _ _ _ _ _ HZ.out underlying89 rfl ZK)) rfl ?_;exact⟨⟨ev0,rfl⟩,own,Dw.out,HU.out.mono (λn h=>h.elim)⟩
 ·go_enter func35,ntmps35;go_wp2_with fail;obtain⟨W,hW⟩:∃W,W=((w.alloc (C_ #[I_ J_ kind,T_ key,I_ J_ label,T_ value] 33)).alloc (C_ Zk 89)):=⟨_,rfl⟩;simp only[←hW]at *;clear hW;clear c6 c7 c8 c9 dg dh eH eI;refine ZSi [(0,3),(1,0),(2,3),(3,0),(4,3),(5,0),(6,3),(7,0),(9,0),(8,1),(10,1),(11,3)] λcu=>?_
  repeat((first|refine ZSa ?_|refine ZSb ?_|(refine Zf rfl (by rfl) (λw' cL=>by(obtain⟨c0,c1,c2,c3,c4,c5⟩:=(HB.out.ob cL.below).node6);(obtain⟨c6,c7,c8,c9,dg,dh,eH,eI⟩:=(HB.out.ob cL.below).ai);(obtain⟨x0,x1,x2,x3⟩:=(HE.out.ob cL.below).four);go_simp;with_reducible rfl) ?_));simp only[Act.put,Q_])
  refine ZSd λK hK=>?_
  go_simp;have dE:Upd (λ_=>False) own own W W.drew:=ZUb (ZW W.heap.size W).drew HU.out.fresh;refine(Zle (HL.out.upd dE (λh=>h)) HM.out.keys HM.out.sets).mono ?_;rintro _ w3 ⟨v3,ps,rfl,gP,lA,cG⟩;obtain⟨a3,k3,rfl,gC⟩:=ConSl.bR lA;rw[gP]at gC;have gx:ps.length=(listN book).length:=by rw[←gP];simp
  obtain⟨yO,mX⟩:=ZH2 gC gx;have dr:=cu.step cG;refine hK.out (λw'=>Kept w3.heap.size w3 w'/\Kept W.heap.size W w') _ _ (λ_ h=>h.2) ⟨ZKr _,dr⟩ (λpt=>?_);clear hK K cu cG dr dE lA gP gC gx;repeat((first|refine ZSa ?_|refine ZSb ?_|(refine Zf rfl (by rfl) (λw' cL=>by(obtain⟨c0,c1,c2,c3,c4,c5⟩:=(HB.out.ob cL.2.below).node6);(obtain⟨c6,c7,c8,c9,dg,dh,eH,eI⟩:=(HB.out.ob cL.2.below).ai);(obtain⟨x0,x1,x2,x3⟩:=(HE.out.ob cL.2.below).four);go_simp;with_reducible rfl) ?_));simp only[Act.put,Q_])
  refine ZSd λK hK=>?_
  go_simp;refine(Zqk c yO.out (by rw[mX.out];exact HM.out.list) HM.out.cons kind key label value HM.out.ok).mono ?_;rintro _ w4 ⟨rfl,cS⟩;refine hK.out (λw'=>Kept w3.heap.size w3 w'/\Kept W.heap.size W w') _ _ (λ_ h=>h) ⟨pt.1.step cS,pt.2.step cS⟩ (λxI=>?_);have cA:=xI.2;clear hK K pt cS;repeat((first|refine ZSa ?_|refine ZSb ?_|refine ZSc ?_);simp only[Act.put,Q_])
  refine ZSf ?_;have dM:=cA;clear cA xI;obtain⟨x,hx⟩:∃x,x=Zb2 c.l c.p (listN book) kind key label value:=⟨_,rfl⟩;simp only[←hx];have HX:=ZH hx;clear hx;have rJ:Upd (λ_=>False) own own W w4:=ZUb dM.below HU.out.fresh;obtain⟨gy,BA,wY,zd,T3,dO,Dx,gj⟩:=ZH8 (HB.out.ob dM.below) (HZ.out.ob dM.below) (HE.out.ob dM.below) (HS.out.below dM.below) (HI.out.upd rJ (λh=>h)) (HO.out.upd rJ (λh=>h)) (Dw.out.upd rJ (λ_ _ h=>h)) (HU.out.kept dM.below);clear rJ dM;obtain⟨c6,c7,c8,c9,dg,dh,eH,eI⟩:=gy.out.ai;have qY:=gy.out.lt;have hlz4:=BA.out.lt;by_cases jS:x=0
  ·have hz:((x:Int) != 0)=false:=by simp[jS]
   go_wp2_with fail;refine(ZiX dO.out).mono ?_;rintro _ w5 ⟨rfl,dH⟩;have fp:Upd (λ_=>False) own own w4 w5:=ZUb dH gj.out.fresh;obtain⟨lX,BC,Ey,Fb,AR,te,JU,ka⟩:=ZH8 (gy.out.ob dH) (BA.out.ob dH) (wY.out.ob dH) (zd.out.below dH) (T3.out.upd fp (λh=>h)) (dO.out.upd fp (λh=>h)) (Dx.out.upd fp (λ_ _ h=>h)) (gj.out.kept dH);clear fp dH c6 c7 c8 c9 dg dh eH eI;obtain⟨c6,c7,c8,c9,dg,dh,eH,eI⟩:=lX.out.ai;have hlt5:=lX.out.lt;have hlz5:=BC.out.lt;by_cases hq:wait.length<c.q
   ·have O6:decide (wait.length<c.q)=true:=decide_eq_true hq;have O7:decide ((wait.length:Int)<(c.q:Int))=true:=decide_eq_true ZO;go_wp2_with fail;refine(ZeS AR.out).mono ?_;rintro _ w6 ⟨rfl,eK⟩;have fp:Upd (λ_=>False) own own w5 w6:=ZUb eK ka.out.fresh;obtain⟨jT,J1,TR,ze,T4,nY,Uq,iZ⟩:=ZH8 (lX.out.ob eK) (BC.out.ob eK) (Ey.out.ob eK) (Fb.out.below eK) (AR.out.upd fp (λh=>h)) (te.out.upd fp (λh=>h)) (JU.out.upd fp (λ_ _ h=>h)) (ka.out.kept eK);clear fp eK c6 c7 c8 c9 dg dh eH eI;obtain⟨c6,c7,c8,c9,dg,dh,eH,eI⟩:=jT.out.ai;have hlt6:=jT.out.lt;have hlz6:=J1.out.lt;go_wp2_with fail;have jY:=(ZW w6.heap.size w6).alloc (ZL _) (C_ (clkArr clk) 44);have s7:=ZH (ZBn w6 44 (clkArr clk));obtain⟨cn,jZ⟩:∃cn,cn=w6.heap.size:=⟨_,rfl⟩;obtain⟨w7,yJ⟩:∃w7,w7=w6.alloc (C_ (clkArr clk) 44):=⟨_,rfl⟩;rw[←yJ]at jY s7;rw[←jZ]at s7;have fp:Upd (λ_=>False) own own w6 w7:=ZUb jY iZ.out.fresh;obtain⟨jh,Ng,P6,Dz,Qi,iG,Qp,lg⟩:=ZH8 (jT.out.ob jY) (J1.out.ob jY) (TR.out.ob jY) (ze.out.below jY) (T4.out.upd fp (λh=>h)) (nY.out.upd fp (λh=>h)) (Uq.out.upd fp (λ_ _ h=>h)) (iZ.out.kept jY);clear fp jY c6 c7 c8 c9 dg dh eH eI;obtain⟨c6,c7,c8,c9,dg,dh,eH,eI⟩:=jh.out.ai;have OI:=jh.out.lt;have hlz7:=Ng.out.lt;rw[←jZ];change Code.wp _ _ _ _ (w6.alloc (C_ (clkArr clk) 44));rw[←yJ];clear yJ jZ;obtain⟨nn,nQ⟩:∃nn,nn=clk.get r+1:=⟨_,rfl⟩;obtain⟨nx,na⟩:∃nx,nx=clk.set r nn:=⟨_,rfl⟩;have eO:r<5:=HM.out.r5;have Us:Hid (nx.get r=nn):=ZH (by rw[na,Clk.aq _ eO]);obtain⟨lH,nK⟩:=ZH2 nQ na;clear nQ na;refine wp_region_noPanic (Zdj (λw'=>Kept w7.heap.size w7 w') [(0,0),(1,3),(2,0),(3,3),(4,0)] 5 [(6,3),(7,3),(8,3),(9,1),(10,2),(11,3)] 9 [(5,1),(6,3),(7,3),(8,3),(10,2),(11,3)] ZK ZK (λ_ _ _ _ _ h=>h) (Kept.drew ⟨ZW _ _,ZL _⟩) (λcu=>?_));repeat((first|refine ZSa ?_|refine ZSb ?_|(refine Zf rfl (by rfl) (λw' cL=>by(obtain⟨c6,c7,c8,c9,dg,dh,eH,eI⟩:=(jh.out.ob cL.below).ai);(obtain⟨z0,z1,z2,z3,z4⟩:=(s7.out.ob cL.below).aG);go_simp;with_reducible rfl) ?_));simp only[Act.put,Q_])
    refine ZfP (λcu=>?_) (λcu=>?_);focus
     refine ZSd λK hK=>?_
     go_simp;refine(ZmV clk r w7.drew eO (by have:=HM.out.clk r;simp only at this;omega)).mono ?_;rintro _ w8 ⟨rfl,ga⟩;rw[←lH.out,←nK.out];refine hK.out (λw'=>Kept w7.heap.size w7 w') _ _ (λ_ h=>h) (cu.step ga) (λcA=>?_);clear hK K cu ga;repeat((first|refine ZSa ?_|refine ZSb ?_|refine ZSc ?_);simp only[Act.put,Q_])
     refine ZSd λK hK=>?_
     go_simp;refine hK.out (λw'=>Kept w7.heap.size w7 w') _ _ (λ_ h=>h) (cA.alloc _) (λfD=>?_);clear hK K fD;refine ZSe λK hK=>?_
     go_simp;have iU:Below w7.heap.size w7 (w8.alloc (C_ (clkArr nx) 44)):=cA.below.alloc cA.le (C_ (clkArr nx) 44);obtain⟨sb,wV⟩:=ZH2 (ZBn w8 44 (clkArr nx)) (s7.out.ob iU);obtain⟨w9,Dd⟩:∃w9,w9=w8.alloc (C_ (clkArr nx) 44):=⟨_,rfl⟩;obtain⟨bn,gW⟩:∃bn,bn=w8.heap.size:=⟨_,rfl⟩;rw[←Dd]at iU sb wV;rw[←gW]at sb;have fp:Upd (λ_=>False) own own w7 w9:=ZUb iU lg.out.fresh;obtain⟨AF,DI,P7,MF,Qj,Qs,A0,i9⟩:=ZH8 (jh.out.ob iU) (Ng.out.ob iU) (P6.out.ob iU) (Dz.out.below iU) (Qi.out.upd fp (λh=>h)) (iG.out.upd fp (λh=>h)) (Qp.out.upd fp (λ_ _ h=>h)) (lg.out.kept iU);clear fp iU c6 c7 c8 c9 dg dh eH eI;obtain⟨c6,c7,c8,c9,dg,dh,eH,eI⟩:=AF.out.ai;have OJ:=AF.out.lt;have ON:=DI.out.lt;refine hK.out _ _ ?_;clear hK K cA;rw[←gW];repeat((first|refine ZSa ?_|refine ZSb ?_|refine ZSc ?_);simp only[Act.put,Q_])
     refine ZSf ?_;change Exit.then _ _ _ _ (w8.alloc (C_ (clkArr nx) 44));rw[←Dd];clear Dd gW
    rotate_left
    focus
     refine ZSd λK hK=>?_
     go_simp;refine hK.out (λw'=>Kept w7.heap.size w7 w') _ _ (λ_ h=>h) (cu.alloc (C_ (clkArr ZCz) 44)) (λfD=>?_);clear hK K;have vY:Hid (Blk (w7.drew.alloc (C_ (clkArr ZCz) 44)) w7.heap.size 44 (clkArr ZCz)):=ZH (ZBn w7.drew 44 (clkArr ZCz));repeat((first|refine ZSa ?_|refine ZSb ?_|refine ZSc ?_);simp only[Act.put,Q_])
     refine ZSd λK hK=>?_
     go_simp;refine(ZmV clk r _ eO (by have:=HM.out.clk r;simp only at this;omega)).mono ?_;rintro _ w8 ⟨rfl,ga⟩;rw[←lH.out,←nK.out];have wT:=ZH (vY.out.ob ga);refine hK.out (λw'=>Kept w7.heap.size w7 w') _ _ (λ_ h=>h) (fD.step ga) (λcA=>?_);clear hK K cu ga fD;repeat((first|refine ZSa ?_|refine ZSb ?_|refine ZSc ?_);simp only[Act.put,Q_])
     obtain⟨z0,z1,z2,z3,z4⟩:=wT.out.aG;have zf:=wT.out.frozen;have JB:=zf 0;have JC:=zf 1;have JD:=zf 2;have JE:=zf 3;have JF:=zf 4;have m9:=wT.out.lt;clear zf;refine ZSe λK hK=>?_
     go_simp;have sb:=ZH (Zal wT.out (show(clkArr nx).toList.length=_ from rfl));have iU:Below w7.heap.size w7 (setAll w8 w7.heap.size 0 (clkArr nx).toList):=by
      obtain⟨q1,q2,q3⟩:=ZcB (g:=w7.heap.size) (clkArr nx).toList 0 w8;exact⟨q1.trans cA.below.os,q2.trans cA.below.tape,q3.trans cA.below.output,by rw[Za3];exact cA.below.size,λk hk=>(Zai ZO _ _ _).trans (cA.below.block k hk)⟩
     have wV:=ZH (s7.out.ob iU);obtain⟨w9,Dd⟩:∃w9,w9=setAll w8 w7.heap.size 0 (clkArr nx).toList:=⟨_,rfl⟩;obtain⟨bn,gW⟩:∃bn,bn=w7.heap.size:=⟨_,rfl⟩;rw[←Dd]at iU sb wV;rw[←gW]at sb;have fp:Upd (λ_=>False) own own w7 w9:=ZUb iU lg.out.fresh;obtain⟨AF,DI,P7,MF,Qj,Qs,A0,i9⟩:=ZH8 (jh.out.ob iU) (Ng.out.ob iU) (P6.out.ob iU) (Dz.out.below iU) (Qi.out.upd fp (λh=>h)) (iG.out.upd fp (λh=>h)) (Qp.out.upd fp (λ_ _ h=>h)) (lg.out.kept iU);clear fp iU c6 c7 c8 c9 dg dh eH eI;obtain⟨c6,c7,c8,c9,dg,dh,eH,eI⟩:=AF.out.ai;have OJ:=AF.out.lt;have ON:=DI.out.lt;refine hK.out _ _ ?_;clear hK K cA z0 z1 z2 z3 z4 JB JC JD JE JF m9;repeat((first|refine ZSa ?_|refine ZSb ?_|refine ZSc ?_);simp only[Act.put,Q_])
     refine ZSf ?_;change Exit.then _ _ _ _ (setAll w8 w7.heap.size 0 (clkArr nx).toList);rw[←Dd,←gW];clear Dd gW
    rotate_left
    all_goals
     have ez:Zeh log clk<=16777216:=HM.out.evok.h2;obtain⟨hg,Ou⟩:∃hg,hg=Zeh log clk:=⟨_,rfl⟩;rw[←Ou]at ez;have rD:decide ((hg:Int)>16777216)=false:=decide_eq_false ZO;have hgd':¬(16777216:Int)<(hg:Int):=ZO;have Qf:=ZH Ou;clear Ou;go_wp2_with fail;refine ZSi [(0,3),(1,0),(2,3),(3,0),(4,0),(5,2),(6,3)] λcu=>?_
     repeat((first|refine ZSa ?_|refine ZSb ?_|(refine Zf rfl (by rfl) (λw' cL=>by(obtain⟨c6,c7,c8,c9,dg,dh,eH,eI⟩:=(AF.out.ob cL.below).ai);(obtain⟨z0,z1,z2,z3,z4⟩:=(wV.out.ob cL.below).aG);go_simp;with_reducible rfl) ?_));simp only[Act.put,Q_])
     refine ZSe λK hK=>?_
     go_simp;refine(Zo9 log clk _ _ _ _ (MF.out.below (ZW w9.heap.size w9).drew) (λe he=>⟨(HM.out.logok e he).r,(HM.out.logok e he).h2⟩)).mono ?_;rintro _ iE ⟨rfl,px⟩;rw[←Qf.out];have kd:Below w9.heap.size w9 iE:=(ZW w9.heap.size w9).drew.trans px;obtain⟨KY,qF⟩:=ZH2 (wV.out.ob kd) (sb.out.ob kd);refine hK.out _ _ ?_;clear hK K cu px;have fp:Upd (λ_=>False) own own w9 iE:=ZUb kd i9.out.fresh;obtain⟨wN,Ft,Ex,Ba,tH,Me,L5,qC⟩:=ZH8 (AF.out.ob kd) (DI.out.ob kd) (P7.out.ob kd) (MF.out.below kd) (Qj.out.upd fp (λh=>h)) (Qs.out.upd fp (λh=>h)) (A0.out.upd fp (λ_ _ h=>h)) (i9.out.kept kd);clear fp kd c6 c7 c8 c9 dg dh eH eI;obtain⟨c6,c7,c8,c9,dg,dh,eH,eI⟩:=wN.out.ai;have GZ:=wN.out.lt;have hlz10:=Ft.out.lt;repeat((first|refine ZSa ?_|refine ZSb ?_|refine ZSc ?_);simp only[Act.put,Q_])
     refine ZSf ?_;go_wp2_with fail;have nb:(0:Int)<=(r:Int):=ZO;have hr5i:(r:Int)<5:=ZO;refine ZSi [(0,3),(1,0),(2,3),(3,0),(4,3),(5,0),(6,3),(7,0),(8,3),(9,0),(10,0),(11,3),(12,3),(13,0),(14,3),(15,0),(16,3),(17,0),(18,3),(19,0),(20,3),(21,1),(22,2)] λcu=>?_
     repeat((first|refine ZSa ?_|refine ZSb ?_|(refine Zf rfl (by rfl) (λw' cL=>by(obtain⟨c6,c7,c8,c9,dg,dh,eH,eI⟩:=(wN.out.ob cL.below).ai);(obtain⟨z0,z1,z2,z3,z4⟩:=(KY.out.ob cL.below).aG);(obtain⟨x0,x1,x2,x3⟩:=(Ex.out.ob cL.below).four);(have fW:=(qF.out.ob cL.below).cell r);(rw[Zeo _ eO,Us.out]at fW);(have ko:=(qF.out.ob cL.below).lt);go_simp;with_reducible rfl) ?_));simp only[Act.put,Q_])
     refine ZSd λK hK=>?_
     go_simp;refine hK.out (λw'=>Kept iE.heap.size iE w') _ _ (λ_ h=>h) (cu.alloc (C_ Zk 89)) (λxK=>?_);clear hK K;refine ZSe λK hK=>?_
     go_simp;obtain⟨e,he⟩:∃e,e=(⟨r,nn,clk,hg,kind,key,label,value⟩:Ev):=⟨_,rfl⟩;have l6:e=madeEv r ⟨true,d,log,sent,book,clk,held,wait⟩ kind key label value:=by rw[he,lH.out,Qf.out];rfl
     have JN:=ZH l6;have jr:Below iE.heap.size iE (iE.alloc (C_ (evArr e) 89)).drew:=((ZW _ iE).alloc (ZL _) _).drew;have ud:=ZH (ZBn iE 89 (evArr e)).drew;have Mm:Hid (own iE.heap.size=0):=ZH (qC.out.fresh _ (ZL _));obtain⟨vn,Pt⟩:∃vn,vn=iE.heap.size:=⟨_,rfl⟩;obtain⟨tw,Db⟩:∃W,W=(iE.alloc (C_ (evArr e) 89)).drew:=⟨_,rfl⟩;rw[←Db]at jr ud;rw[←Pt]at ud Mm;refine hK.out _ _ ?_;clear hK K xK l6;refine ZSf ?_;change Exit.then _ _ _ _ ((iE.alloc (C_ (evArr (⟨r,nn,clk,hg,kind,key,label,value⟩:Ev)) 89)).drew);rw[←he,←Db,←Pt];clear Db;have fp:Upd (λ_=>False) own own iE tw:=ZUb jr qC.out.fresh;obtain⟨AD,By,HE11,HS11,HI11,HO11,L6,Ff⟩:=ZH8 (wN.out.ob jr) (Ft.out.ob jr) (Ex.out.ob jr) (Ba.out.below jr) (tH.out.upd fp (λh=>h)) (Me.out.upd fp (λh=>h)) (L5.out.upd fp (λ_ _ h=>h)) (qC.out.kept jr);clear fp jr c6 c7 c8 c9 dg dh eH eI;obtain⟨c6,c7,c8,c9,dg,dh,eH,eI⟩:=AD.out.ai;have G0:=AD.out.lt;have Hd:=By.out.lt;clear Pt he;go_wp2_with fail;refine ZSi [(0,3),(1,3),(2,0),(3,3),(4,0),(5,0),(6,1),(7,3),(8,2),(9,3)] λcu=>?_
     repeat((first|refine ZSa ?_|refine ZSb ?_|(refine Zf rfl (by rfl) (λw' cL=>by(obtain⟨c6,c7,c8,c9,dg,dh,eH,eI⟩:=(AD.out.ob cL.below).ai);(obtain⟨x0,x1,x2,x3,x4,x5,x6,x7,x8,x9,fh,fi⟩:=(ud.out.ob cL.below).ag);go_simp;with_reducible rfl) ?_));simp only[Act.put,Q_])
     refine ZSd λK hK=>?_
     go_simp;refine hK.out (λw'=>Kept tw.heap.size tw w') _ _ (λ_ h=>h) (cu.alloc (C_ (evArr e) 89)) (λxJ=>?_);clear hK K;have lc:=ZH (ZBn tw 89 (evArr e)).drew;have A2:Hid (Upd (λ_=>False) own own tw (tw.alloc (C_ (evArr e) 89)).drew):=ZH (ZUb (((ZW _ tw).alloc (ZL _) _).drew) Ff.out.fresh);have em:e.Ok:=by rw[JN.out];exact HM.out.evok
     obtain⟨dU,Fo⟩:=ZH2 em (Zfm (L6.out.upd A2.out (λ_ _ h=>h)) A2.out.fresh (f:=Z7 r e) (ZjK eO em) (EvSl.one lc.out) HM.out.bytes);clear em;repeat((first|refine ZSa ?_|refine ZSb ?_|refine ZSc ?_);simp only[Act.put,Q_])
     refine ZSe λK hK=>?_
     go_simp;refine Fo.out.mono ?_;rintro _ Dl ⟨rfl,kz,Hm,kW⟩;have J3:¬NodeT t 0:=λh=>by obtain⟨h1,h2⟩:=h;omega
     obtain⟨Fi,ul⟩:=ZH2 ((ud.out.upd A2.out (λh=>h)).upd kW (by rw[Mm.out];exact J3)) ((By.out.upd A2.out (λh=>h)).upd kW (by rw[JW.out];exact J3));have tU:Hid (kz vn=0):=ZH ((kW.old vn (ud.out.upd A2.out (λh=>h)).lt).trans Mm.out);have rt:Hid (kz (w.heap.size+1)=0):=ZH ((kW.old _ (By.out.upd A2.out (λh=>h)).lt).trans JW.out);have Bi:Hid (Upd (NodeT t) own kz w Dl):=ZH (((Ff.out.trans A2.out).mono (λn h=>h.elim)).trans kW);have xi:=ZH Hm;obtain⟨k1,k2,k3,k4,k5,k6⟩:=ZbD ⟨true,d,log,sent,book,clk,held,wait⟩ (Z7 r e)
     have vW:Hid (ZdD c r ⟨true,d,log,sent,book,clk,held,wait⟩ kind key label value=if (Zy ⟨true,d,log,sent,book,clk,held,wait⟩ (Z7 r e)).2=0 then(Ze0 (Zy ⟨true,d,log,sent,book,clk,held,wait⟩ (Z7 r e)).1 e,0) else Zy ⟨true,d,log,sent,book,clk,held,wait⟩ (Z7 r e)):=ZH (by
      rw[JN.out];unfold ZdD
      rw[ZPp rfl,ZPp (by rw[←HX.out];exact jS),ZPp hq])
     refine hK.out _ _ ?_;clear hK K cu xJ Hm kW c6 c7 c8 c9 dg dh eH eI G0 Hd;obtain⟨wr,oJ⟩:∃wr,wr=Zy ⟨true,d,log,sent,book,clk,held,wait⟩ (Z7 r e):=⟨_,rfl⟩;have Sv:wr.2=0∨wr.2=18:=by rw[oJ];exact ZeY _ _
     rw[←oJ]at vW xi k1 k2 k3 k4 k5 k6;simp only[←oJ];clear oJ;obtain⟨s1,fH⟩:=wr;simp only at Sv k1 k2 k3 k4 k5 k6 xi vW ⊢;obtain⟨da,cO,cU,dw,nd⟩:=ZH5 k1 k2 k3 k4 k6;clear k1 k2 k3 k4 k5 k6;repeat((first|refine ZSa ?_|refine ZSb ?_|refine ZSc ?_);simp only[Act.put,Q_])
     refine ZSf ?_;rcases Sv with h0|h0
     ·have GA:((fH:Int) != 0)=false:=by simp[h0]
      have oK:=ZH h0;clear h0;obtain⟨g1,U4,UV,Wq,Ww,lv',g3,g4,g5,g6,g7,g8⟩:=xi.out;obtain⟨s8,AE,K4,LK,M9,Lw,Mf⟩:=ZH7 g1 g3 g4 g5 g6 g7 g8;clear g1 g3 g4 g5 g6 g7 g8;have G3:=AE.out.lt;go_wp2_with fail;refine ZSi [(0,3),(1,0),(2,3),(3,0),(4,0),(5,2)] λcu=>?_
      repeat((first|refine ZSa ?_|refine ZSb ?_|(refine Zf rfl (by rfl) (λw' cL=>by(obtain⟨c6,c7,c8,c9,dg,dh,eH,eI⟩:=(AE.out.ob cL.below).ai);(obtain⟨x0,x1,x2,x3,x4,x5,x6,x7,x8,x9,fh,fi⟩:=(Fi.out.ob cL.below).ag);go_simp;with_reducible rfl) ?_));simp only[Act.put,Q_])
      have i9:Hid (Upd (λ_=>False) kz kz Dl Dl.drew):=ZH (ZUb (ZW Dl.heap.size Dl).drew Bi.out.fresh);have kA:=ZH (ZqI (Lw.out.upd i9.out (λh=>h)) i9.out.fresh e ⟨dU.out.r,dU.out.n1⟩ (λi=>by rw[dw.out];exact HM.out.clk i) (by rw[dw.out,JN.out];exact HM.out.own));refine ZSe λK hK=>?_
      go_simp;refine kA.out.mono ?_;rintro _ wI ⟨rfl,GP,sW⟩;have jQ:=(i9.out.mono (T':=λm=>m=t+4) (λn h=>h.elim)).trans sW;obtain⟨wO,K5,LM,Na,Mg,Lx,Bk,Fu⟩:=ZH8 (AE.out.upd jQ (by rw[s8.out];omega)) (K4.out.upd jQ ZO) (LK.out.upd jQ ZO) (M9.out.upd jQ ZO) (Mf.out.upd jQ ZO) GP (Fi.out.upd jQ (by rw[tU.out];omega)) (ul.out.upd jQ (by rw[rt.out];omega));have Fg:Hid (Upd (NodeT t) own kz w wI):=ZH (Bi.out.trans (jQ.mono (λn h=>⟨ZO,ZO⟩)));refine hK.out _ _ ?_;clear hK K cu jQ sW GP G3;repeat((first|refine ZSa ?_|refine ZSb ?_|refine ZSc ?_);simp only[Act.put,Q_])
      refine ZSf ?_;have G6:=wO.out.lt;go_wp2_with fail;refine ZSi [(0,3),(1,0),(2,3),(3,0),(4,0),(5,2)] λcu=>?_
      repeat((first|refine ZSa ?_|refine ZSb ?_|(refine Zf rfl (by rfl) (λw' cL=>by(obtain⟨c6,c7,c8,c9,dg,dh,eH,eI⟩:=(wO.out.ob cL.below).ai);(obtain⟨x0,x1,x2,x3,x4,x5,x6,x7,x8,x9,fh,fi⟩:=(Bk.out.ob cL.below).ag);go_simp;with_reducible rfl) ?_));simp only[Act.put,Q_])
      have i9:Hid (Upd (λ_=>False) kz kz wI wI.drew):=ZH (ZUb (ZW wI.heap.size wI).drew Fg.out.fresh);have gv:clk.get r=lastOf sent wait:=HM.out.last;have jn:=HM.out.clk r;have vO:=HM.out.wait;simp only at jn vO;have kA:=ZH (Zj4 (Mg.out.upd i9.out (λh=>h)) i9.out.fresh e (by rw[nd.out];exact hq) (by rw[nd.out];exact vO) (by rw[nd.out,cO.out,←gv];omega) (by rw[nd.out,cO.out,←gv,JN.out];rfl));clear gv jn vO;refine ZSe λK hK=>?_
      go_simp;refine kA.out.mono ?_;rintro _ rT ⟨rfl,lF,Hs,IR⟩;have lQ:=(i9.out.mono (T':=λm=>m=t+5) (λn h=>h.elim)).trans IR;obtain⟨Ek,K6,LN,Nb,Ly,Mh,Bl,Nf⟩:=ZH8 (wO.out.upd lQ (by rw[s8.out];omega)) (K5.out.upd lQ ZO) (LM.out.upd lQ ZO) (Na.out.upd lQ ZO) (Lx.out.upd lQ ZO) Hs (Bk.out.upd lQ (by rw[tU.out];omega)) (Fu.out.upd lQ (by rw[rt.out];omega));have Ll:Hid (lF p=t):=ZH ((lQ.old p wO.out.lt).trans s8.out);have EW:Hid (lF vn=0):=ZH ((lQ.old vn Bk.out.lt).trans tU.out);have za:Hid (lF (w.heap.size+1)=0):=ZH ((lQ.old _ Fu.out.lt).trans rt.out);have Bj:Hid (Upd (NodeT t) own lF w rT):=ZH (Fg.out.trans (lQ.mono (λn h=>⟨ZO,ZO⟩)));refine hK.out _ _ ?_;clear hK K cu lQ IR Hs G6;repeat((first|refine ZSa ?_|refine ZSb ?_|refine ZSc ?_);simp only[Act.put,Q_])
      refine ZSf ?_;have hlt14:=Ek.out.lt;have hlv14:=Bl.out.lt;have sX:Upd (λ_=>False) lF lF rT (rT.alloc (C_ (evArr e) 89)):=ZUb ((ZW _ rT).alloc (ZL _) _) Bj.out.fresh;have oW:Loose lF (rT.alloc (C_ (evArr e) 89)) (some ⟨rT.heap.size,0,none⟩) 1 1 [e]:=⟨EvSl.one (ZBn rT 89 (evArr e)),λad h=>by injection h with h;subst h;exact⟨Bj.out.fresh _ (ZL _),(ZBn rT 89 (evArr e)).lt⟩⟩;have L7:Hid (NodeAt lF t rT p c r { s1 with clk:=(drained s1.clk [e]).2.2,wait:=s1.wait++[e] }):=ZH ⟨Ll.out,U4,UV,Wq,Ww,lv',Ek.out,K6.out,LN.out,Nb.out,Ly.out,Mh.out⟩;obtain⟨Lb,MW,MY,Fv⟩:=ZH4 (Zh1 ht (L7.out.upd sX (λ_ _ h=>h)) sX.fresh (N:=90000) (by simp only;rw[cU.out];exact HM.out.book) ZO oW (by simpa using dU.out) (by simp only;rw[da.out];exact HM.out.log)) (Bj.out.trans (sX.mono (λn h=>h.elim))) (Bl.out.upd sX (λh=>h)) (Nf.out.upd sX (λh=>h));obtain⟨x0,x1,x2,x3,x4,x5,x6,x7,x8,x9,fh,fi⟩:=Bl.out.ag;clear sX oW;go_wp2_with fail;refine Lb.out.mono ?_;rintro _ PQ ⟨rfl,pY,Hn,vL⟩;obtain⟨Fj,Bz⟩:=ZH2 (MY.out.upd vL (by rw[EW.out];exact J3)) (Fv.out.upd vL (by rw[za.out];exact J3));have EY:Hid (pY (w.heap.size+1)=0):=ZH ((vL.old _ Fv.out.lt).trans za.out);obtain⟨L8,Fh⟩:=ZH2 Hn (MW.out.trans vL);clear Hn vL x0 x1 x2 x3 x4 x5 x6 x7 x8 x9 fh fi;obtain⟨x0,x1,x2,x3,x4,x5,x6,x7,x8,x9,fh,fi⟩:=Fj.out.ag;have hlv16:=Fj.out.lt;have hlz16:=Bz.out.lt
      go_wp2_with (first
       |(refine wpList_store_row rfl 89 (.tmp 4) (.tmp 118) rfl (w.heap.size+1) (evArr e) rfl rfl 89 Zk Bz.out (ZgR _ rfl) rfl (Zup e) ?_))
      refine bodyPost_ret (Zq rfl rfl rfl (run_loadVar_row _ _ _ _ _ _ _ (Bz.out.row (evArr e)) underlying89 rfl ZK)) rfl ?_;rw[vW.out,ZPp oK.out];have h1:Upd (· = 0) pY pY PQ (PQ.setRow (w.heap.size+1) (evArr e)):=(Upd.refl (· = 0) pY PQ Fh.out.fresh).setRow (λ_=>EY.out) (evArr e);exact⟨⟨e,rfl⟩,pY,L8.out.upd h1 (λn hn=>by obtain⟨h2,h3⟩:=hn;omega),Fh.out.setRow (λh=>absurd h ZO) (evArr e)⟩
     ·subst h0;have GA:(((18:Nat):Int) != 0)=true:=rfl;have hlz12:=ul.out.lt
      go_wp2_with (first
       |(refine Zat rfl 89 _ rfl Zk ?hf ?_
         case hf=>kernel_rfl)
       |(refine wpList_store_row rfl 89 (.tmp 4) (.tmp 100) rfl (w.heap.size+1) Zk rfl rfl 89 Zk ul.out (ZgR Zk rfl) rfl Zjx ?_))
      refine bodyPost_ret (Zq rfl rfl rfl (run_loadVar_row _ _ _ _ _ _ _ (ul.out.row Zk) underlying89 rfl ZK)) rfl ?_;rw[vW.out,ZPn ZO];exact Zkr ht xi.out ul.out (Nat.le_succ _) rt.out Bi.out _
   ·have O6:decide (wait.length<c.q)=false:=decide_eq_false hq;have O7:decide ((wait.length:Int)<(c.q:Int))=false:=decide_eq_false ZO
    go_wp2_with (first
     |(refine Zat rfl 89 _ rfl Zk ?hf ?_
       case hf=>kernel_rfl)
     |(refine wpList_store_row rfl 89 (.tmp 4) (.tmp 40) rfl (w.heap.size+1) Zk rfl rfl 89 Zk BC.out (ZgR Zk rfl) rfl Zjx ?_))
    refine bodyPost_ret (Zq rfl rfl rfl (run_loadVar_row _ _ _ _ _ _ _ (BC.out.row Zk) underlying89 rfl ZK)) rfl ?_;unfold ZdD;rw[ZPp rfl,ZPp (by rw[←HX.out];exact jS),ZPn hq];exact Zkr ht JU.out BC.out (Nat.le_succ _) JW.out (ka.out.mono λn h=>h.elim) _
  ·have hz:((x:Int) != 0)=true:=ZP
   go_wp2_with (first
    |(refine Zat rfl 89 _ rfl Zk ?hf ?_
      case hf=>kernel_rfl)
    |(refine wpList_store_row rfl 89 (.tmp 4) (.tmp 32) rfl (w.heap.size+1) Zk rfl rfl 89 Zk BA.out (ZgR Zk rfl) rfl Zjx ?_))
   refine bodyPost_ret (Zq rfl rfl rfl (run_loadVar_row _ _ _ _ _ _ _ (BA.out.row Zk) underlying89 rfl ZK)) rfl ?_;unfold ZdD;rw[ZPp rfl,ZPn (by rw[←HX.out];exact jS),←HX.out];exact Zkr ht Dx.out BA.out (Nat.le_succ _) JW.out (gj.out.mono λn h=>h.elim) _
end
section
variable {own:Own}{t p r b:Nat}{w:World}{c:Cfg}{B:Bd}{x:PN}{kind label:Nat}{key value:ByteArray}
theorem Zpq(ht:0<t)(h:NodeAt own t w p c r x.s)(hf:Fresh own w)(hi:NodeInv c r B b x)(hr:r<5)(hb:tot B.made<=100)(hs:b<=700)(he:EditOk kind key label value):
  Calls prog 35 #[ptrV p,Zfz kind key label value] w λe w'=>(∃v,e=R_ (.tuple #[.agg (evArr v),I_ J_ (Zbb c r x kind key label value).2]))/\∃own',NodeAt own' t w' p c r (Zbb c r x kind key label value).1.s/\Upd (NodeT t) own own' w w':=by
 rcases ZeW x.s.up with hu|hu
 ·exact ZqY ht h hf (hi.bP hu hr hb hs he)
 ·refine(Zkx h hu kind label key value).mono ?_;rintro _ w' ⟨rfl,jX⟩;have hN:ZdD c r x.s kind key label value=(x.s,18):=by unfold ZdD;rw[ZPn (by simp[hu])]
  unfold Zbb;simp only[hN];exact⟨⟨ev0,rfl⟩,own,h.upd (ZUb (T:=λ_=>False) jX hf) (λ_ _ h=>h),ZUb jX hf⟩
end
theorem ZdX(h:(Za8 c r s k).1=none):(Za8 c r s k).2≠0:=by
 have ht:∀q,(ZcV q r s).1=none->(ZcV q r s).2≠0:=λq hq=>by
  unfold ZcV at hq ⊢;split at hq
  ·cases hq
  ·rename_i hu;rw[ZPn hu];simp
 unfold Za8 at h ⊢;split at h
 ·rename_i hk;rw[ZPp hk];unfold Zfo at h ⊢;split at h
  ·rename_i hu;rw[ZPp hu];split at h
   ·rename_i hw;rw[ZPp hw];simp
   ·cases h
  ·rename_i hu;rw[ZPn hu];simp
 ·rename_i hk;rw[ZPn hk];split at h
  ·rename_i h2;rw[ZPp h2];exact ht _ h
  ·rename_i h2;rw[ZPn h2];exact ht _ h
section
variable {own:Own}{t p m b:Nat}{w:World}{c:Cfg}{B:Bd}{x:WS}{s:St}
theorem Zkm(ht:0<t)(h:WorldAt own t w p c x)(hf:Fresh own w)(hi:WInv c B m b x)(hc:c.Ok)(hm:m<=100)(hb:b<=700)(hs:StOk c s):
  Calls prog 14 #[ptrV p,Zl8 s] w (Zeb own t p c w s (Z4 c x)):=by
 have h5:=hc.n5;have eX:tot B.made<=100:=ZT hi.sum hm;have cP:=(ZW w.heap.size w).alloc (ZL _) (C_ (ZaI s) 36);have hX:=ZBn w 36 (ZaI s);have dt:Upd (λ_=>False) own own w (w.alloc (C_ (ZaI s) 36)):=ZUb cP hf;have HW:=ZH (h.upd dt (λ_ _ h=>h) (λh=>h) h5);obtain⟨x0,x1,x2,x3,x4,x5,x6,x7,x8,x9⟩:=hX.aQ;have fV:=hX.lt;obtain⟨HU,HX,HI,HC,HS⟩:=ZH5 dt hX hi hc hs;clear h hf hi cP hX dt hs;obtain⟨kind,sr,ek,key,label,value,at_,bit,mask,keep,turned⟩:=s;have pJ:kind<=11:=HS.out.kind;have eC:=N_
 have oT:kind=4∨kind=5∨kind=6∨kind=7∨kind=8∨kind=9∨kind=10∨kind=0∨kind=1∨kind=2∨kind=3∨kind=11:=ZO;rcases oT with rfl|rfl|rfl|rfl|rfl|rfl|rfl|oT
 ·
  have eY:=ZH (Zez ht HW.out HU.out.fresh HI.out HC.out hm hb HS.out ⟨by simp only;omega,by simp only;omega⟩);go_enter func14,ntmps14;go_wp2_with fail;refine eY.out.mono ?_;rintro _ w2 ⟨tb,gH,rfl,cK,ee,cM⟩;obtain⟨qB,fq⟩:=ZH2 gH ee;have dC:Hid (Upd (Zu t) own cK w w2):=ZH ((HU.out.mono λn h=>h.elim).trans cM);clear gH ee cM x0 x1 x2 x3 x4 x5 x6 x7 x8 x9;go_wp2
  go_ret;refine⟨tb,qB.out,?_⟩;have e:Z4 c x (Zw ⟨4,sr,ek,key,label,value,at_,bit,mask,keep,turned⟩ tb)=ZcN c x (Zw ⟨4,sr,ek,key,label,value,at_,bit,mask,keep,turned⟩ tb):=by simp[Z4,Zw]
  rw[e];exact⟨rfl,cK,fq.out,dC.out⟩
 ·
  have eY:=ZH (Zez ht HW.out HU.out.fresh HI.out HC.out hm hb HS.out ⟨by simp only;omega,by simp only;omega⟩);go_enter func14,ntmps14;go_wp2_with fail;refine eY.out.mono ?_;rintro _ w2 ⟨tb,gH,rfl,cK,ee,cM⟩;obtain⟨qB,fq⟩:=ZH2 gH ee;have dC:Hid (Upd (Zu t) own cK w w2):=ZH ((HU.out.mono λn h=>h.elim).trans cM);clear gH ee cM x0 x1 x2 x3 x4 x5 x6 x7 x8 x9;go_wp2
  go_ret;refine⟨tb,qB.out,?_⟩;have e:Z4 c x (Zw ⟨5,sr,ek,key,label,value,at_,bit,mask,keep,turned⟩ tb)=ZcN c x (Zw ⟨5,sr,ek,key,label,value,at_,bit,mask,keep,turned⟩ tb):=by simp[Z4,Zw]
  rw[e];exact⟨rfl,cK,fq.out,dC.out⟩
 ·
  have eY:=ZH (Zez ht HW.out HU.out.fresh HI.out HC.out hm hb HS.out ⟨by simp only;omega,by simp only;omega⟩);go_enter func14,ntmps14;go_wp2_with fail;refine eY.out.mono ?_;rintro _ w2 ⟨tb,gH,rfl,cK,ee,cM⟩;obtain⟨qB,fq⟩:=ZH2 gH ee;have dC:Hid (Upd (Zu t) own cK w w2):=ZH ((HU.out.mono λn h=>h.elim).trans cM);clear gH ee cM x0 x1 x2 x3 x4 x5 x6 x7 x8 x9;go_wp2
  go_ret;refine⟨tb,qB.out,?_⟩;have e:Z4 c x (Zw ⟨6,sr,ek,key,label,value,at_,bit,mask,keep,turned⟩ tb)=ZcN c x (Zw ⟨6,sr,ek,key,label,value,at_,bit,mask,keep,turned⟩ tb):=by simp[Z4,Zw]
  rw[e];exact⟨rfl,cK,fq.out,dC.out⟩
 ·
  have eY:=ZH (Zez ht HW.out HU.out.fresh HI.out HC.out hm hb HS.out ⟨by simp only;omega,by simp only;omega⟩);go_enter func14,ntmps14;go_wp2_with fail;refine eY.out.mono ?_;rintro _ w2 ⟨tb,gH,rfl,cK,ee,cM⟩;obtain⟨qB,fq⟩:=ZH2 gH ee;have dC:Hid (Upd (Zu t) own cK w w2):=ZH ((HU.out.mono λn h=>h.elim).trans cM);clear gH ee cM x0 x1 x2 x3 x4 x5 x6 x7 x8 x9;go_wp2
  go_ret;refine⟨tb,qB.out,?_⟩;have e:Z4 c x (Zw ⟨7,sr,ek,key,label,value,at_,bit,mask,keep,turned⟩ tb)=ZcN c x (Zw ⟨7,sr,ek,key,label,value,at_,bit,mask,keep,turned⟩ tb):=by simp[Z4,Zw]
  rw[e];exact⟨rfl,cK,fq.out,dC.out⟩
 ·
  have eY:=ZH (Zgj ht HW.out HU.out.fresh HI.out HC.out hm hb HS.out ⟨by simp only;omega,by simp only;omega⟩);go_enter func14,ntmps14;go_wp2_with fail;refine eY.out.mono ?_;rintro _ w2 ⟨tb,gH,rfl,cK,ee,cM⟩;obtain⟨qB,fq⟩:=ZH2 gH ee;have dC:Hid (Upd (Zu t) own cK w w2):=ZH ((HU.out.mono λn h=>h.elim).trans cM);clear gH ee cM x0 x1 x2 x3 x4 x5 x6 x7 x8 x9;go_wp2
  go_ret;refine⟨tb,qB.out,?_⟩;have e:Z4 c x (Zw ⟨8,sr,ek,key,label,value,at_,bit,mask,keep,turned⟩ tb)=Zb5 c x (Zw ⟨8,sr,ek,key,label,value,at_,bit,mask,keep,turned⟩ tb):=by simp[Z4,Zw]
  rw[e];exact⟨rfl,cK,fq.out,dC.out⟩
 ·
  have eY:=ZH (Zgj ht HW.out HU.out.fresh HI.out HC.out hm hb HS.out ⟨by simp only;omega,by simp only;omega⟩);go_enter func14,ntmps14;go_wp2_with fail;refine eY.out.mono ?_;rintro _ w2 ⟨tb,gH,rfl,cK,ee,cM⟩;obtain⟨qB,fq⟩:=ZH2 gH ee;have dC:Hid (Upd (Zu t) own cK w w2):=ZH ((HU.out.mono λn h=>h.elim).trans cM);clear gH ee cM x0 x1 x2 x3 x4 x5 x6 x7 x8 x9;go_wp2
  go_ret;refine⟨tb,qB.out,?_⟩;have e:Z4 c x (Zw ⟨9,sr,ek,key,label,value,at_,bit,mask,keep,turned⟩ tb)=Zb5 c x (Zw ⟨9,sr,ek,key,label,value,at_,bit,mask,keep,turned⟩ tb):=by simp[Z4,Zw]
  rw[e];exact⟨rfl,cK,fq.out,dC.out⟩
 ·
  have eY:=ZH (Zgj ht HW.out HU.out.fresh HI.out HC.out hm hb HS.out ⟨by simp only;omega,by simp only;omega⟩);go_enter func14,ntmps14;go_wp2_with fail;refine eY.out.mono ?_;rintro _ w2 ⟨tb,gH,rfl,cK,ee,cM⟩;obtain⟨qB,fq⟩:=ZH2 gH ee;have dC:Hid (Upd (Zu t) own cK w w2):=ZH ((HU.out.mono λn h=>h.elim).trans cM);clear gH ee cM x0 x1 x2 x3 x4 x5 x6 x7 x8 x9;go_wp2
  go_ret;refine⟨tb,qB.out,?_⟩;have e:Z4 c x (Zw ⟨10,sr,ek,key,label,value,at_,bit,mask,keep,turned⟩ tb)=Zb5 c x (Zw ⟨10,sr,ek,key,label,value,at_,bit,mask,keep,turned⟩ tb):=by simp[Z4,Zw]
  rw[e];exact⟨rfl,cK,fq.out,dC.out⟩
 ·by_cases hn:sr<c.n
  ·rcases oT with rfl|rfl|rfl|rfl|rfl
   ·
    go_enter func14,ntmps14;go_wp2_with fail;generalize (w.alloc (C_ (ZaI ⟨0,sr,ek,key,label,value,at_,bit,mask,keep,turned⟩) 36))=W at *;refine(ZaO HW.out hn).mono ?_;rintro _ w1 ⟨rfl,cz⟩;have cN:Upd (λ_=>False) own own W w1:=ZUb cz HU.out.fresh;have dD:=HW.out.upd cN (λ_ _ h=>h) (λh=>h) h5;obtain⟨g,k,hp,lp,q,cH,ez,cB,dB,fw⟩:=dD.node hn h5;have gi:(0:Int)<=(sr:Int):=ZO;have lw:(sr:Int)<(c.n:Int):=ZO;obtain⟨HB,nW,HN,jU,dA,fJ,gk⟩:=ZH7 cH cB dB fw (HU.out.trans cN) (HX.out.ob cz) dD;clear cz cN dD cH cB dB fw x0 x1 x2 x3 x4 x5 x6 x7 x8 x9 fV;go_wp2_with fail;refine ZSi [(0,3),(1,0),(2,3),(3,0),(4,3),(5,0),(6,3),(7,0),(8,3)] λcu=>?_
    repeat((first|refine ZSa ?_|refine ZSb ?_|(refine Zf (v:=?_) rfl (by rfl) ?_ ?_;rotate_left 1;(intro w' cL;(obtain⟨c0,c1,c2⟩:=(HB.out.ob cL.below).three);(obtain⟨x0,x1,x2,x3,x4,x5,x6,x7,x8,x9⟩:=(fJ.out.ob cL.below).aQ);(have iJ:=(cL.below.cell (p:=⟨g,sr,none⟩) ez).trans nW.out);go_simp;with_reducible rfl)));simp only[Act.put,Q_])
    refine ZSf ?_;have cD:=(ZW w1.heap.size w1).drew;obtain⟨x0,x1,x2,x3,x4,x5,x6,x7,x8,x9⟩:=(fJ.out.ob cD).aQ;have fV:=fJ.out.lt;have dF:Upd (λ_=>False) own own w1 w1.drew:=ZUb cD dA.out.fresh;clear cD cu;have vW:=ZH (Zpq ZO (HN.out.upd dF (λ_ _ h=>h)) dF.fresh (HI.out.nodes _ hn) ZO eX hb HS.out.edit);go_wp2_with fail;refine vW.out.mono ?_;rintro _ w2 ⟨⟨v,rfl⟩,cK,fI,cM⟩;have ee:=jU.out _ _ (Zbb c sr (x.nodes sr) ek key label value).1 ((dF.mono (T':=NodeT (t+100+10*sr)) (λn h=>h.elim)).trans cM) fI;have de:Upd (Zu t) own cK w w2:=(dA.out.mono λn h=>h.elim).trans (((dF.mono (T':=NodeT (t+100+10*sr)) (λn h=>h.elim)).trans cM).mono λn h=>h.world ZO);have ei:Upd (λ_=>False) cK cK w2 (w2.alloc (C_ (evArr v) 89)):=ZUb ((ZW _ w2).alloc (ZL _) _) de.fresh;obtain⟨fq,dC⟩:=ZH2 (ee.upd ei (λ_ _ h=>h) (λh=>h) h5) (de.trans (ei.mono λn h=>h.elim));clear ee de ei fI cM dF x0 x1 x2 x3 x4 x5 x6 x7 x8 x9;go_wp2
    go_ret;refine⟨turned,λ_=>rfl,?_⟩;have e:Z4 c x (Zw ⟨0,sr,ek,key,label,value,at_,bit,mask,keep,turned⟩ turned)=(⟨Zbn x.nodes sr (Zbb c sr (x.nodes sr) ek key label value).1,x.hub,x.link⟩,(Zbb c sr (x.nodes sr) ek key label value).2):=by simp[Z4,Zw,hn]
    rw[e];exact⟨rfl,cK,fq.out,dC.out⟩
   ·
    go_enter func14,ntmps14;go_wp2_with fail;generalize (w.alloc (C_ (ZaI ⟨1,sr,ek,key,label,value,at_,bit,mask,keep,turned⟩) 36))=W at *;refine(ZaO HW.out hn).mono ?_;rintro _ w1 ⟨rfl,cz⟩;have cN:Upd (λ_=>False) own own W w1:=ZUb cz HU.out.fresh;have dD:=HW.out.upd cN (λ_ _ h=>h) (λh=>h) h5;obtain⟨g,k,hp,lp,q,cH,ez,cB,dB,fw⟩:=dD.node hn h5;have gi:(0:Int)<=(sr:Int):=ZO;have lw:(sr:Int)<(c.n:Int):=ZO;obtain⟨HB,nW,HN,jU,dA,fJ,gk⟩:=ZH7 cH cB dB fw (HU.out.trans cN) (HX.out.ob cz) dD;clear cz cN dD cH cB dB fw x0 x1 x2 x3 x4 x5 x6 x7 x8 x9 fV;go_wp2_with fail;refine ZSi [(0,3),(1,0),(2,3),(3,0),(4,3),(5,0),(6,3),(7,0),(8,3)] λcu=>?_
    repeat((first|refine ZSa ?_|refine ZSb ?_|(refine Zf (v:=?_) rfl (by rfl) ?_ ?_;rotate_left 1;(intro w' cL;(obtain⟨c0,c1,c2⟩:=(HB.out.ob cL.below).three);(obtain⟨x0,x1,x2,x3,x4,x5,x6,x7,x8,x9⟩:=(fJ.out.ob cL.below).aQ);(have iJ:=(cL.below.cell (p:=⟨g,sr,none⟩) ez).trans nW.out);go_simp;with_reducible rfl)));simp only[Act.put,Q_])
    refine ZSf ?_;have cD:=(ZW w1.heap.size w1).drew;obtain⟨x0,x1,x2,x3,x4,x5,x6,x7,x8,x9⟩:=(fJ.out.ob cD).aQ;have fV:=fJ.out.lt;have dF:Upd (λ_=>False) own own w1 w1.drew:=ZUb cD dA.out.fresh;clear cD cu;have ft:=(ZdR (HN.out.upd dF (λ_ _ h=>h)) dF.fresh (HI.out.nodes _ hn) ZO HC.out eX);obtain⟨o8,i9⟩:=ZH2 (Zho (gk.out.upd dF (λ_ _ h=>h) (λh=>h) h5) dF.fresh h5 (.inl rfl) (ft.1) (λg hg=>by have:=Zdd ((HI.out.nodes _ hn).tell hn HC.out eX hg).1.ok;omega) (by have:=HI.out.len;omega) ZdX) (dA.out.trans dF);clear ft dF;go_wp2_with fail;refine o8.out.mono ?_;rintro _ w2 ⟨rfl,cK,ee,cM⟩;have fq:=ZH ee;have dC:Hid (Upd (Zu t) own cK w w2):=ZH ((i9.out.mono λn h=>h.elim).trans cM);clear ee cM x0 x1 x2 x3 x4 x5 x6 x7 x8 x9;go_wp2
    go_ret;refine⟨turned,λ_=>rfl,?_⟩;have e:Z4 c x (Zw ⟨1,sr,ek,key,label,value,at_,bit,mask,keep,turned⟩ turned)=Zga x (Za8 c sr (x.nodes sr).s 1):=by simp[Z4,Zw,hn]
    rw[e];exact⟨rfl,cK,fq.out,dC.out⟩
   ·
    go_enter func14,ntmps14;go_wp2_with fail;generalize (w.alloc (C_ (ZaI ⟨2,sr,ek,key,label,value,at_,bit,mask,keep,turned⟩) 36))=W at *;refine(ZaO HW.out hn).mono ?_;rintro _ w1 ⟨rfl,cz⟩;have cN:Upd (λ_=>False) own own W w1:=ZUb cz HU.out.fresh;have dD:=HW.out.upd cN (λ_ _ h=>h) (λh=>h) h5;obtain⟨g,k,hp,lp,q,cH,ez,cB,dB,fw⟩:=dD.node hn h5;have gi:(0:Int)<=(sr:Int):=ZO;have lw:(sr:Int)<(c.n:Int):=ZO;obtain⟨HB,nW,HN,jU,dA,fJ,gk⟩:=ZH7 cH cB dB fw (HU.out.trans cN) (HX.out.ob cz) dD;clear cz cN dD cH cB dB fw x0 x1 x2 x3 x4 x5 x6 x7 x8 x9 fV;go_wp2_with fail;refine ZSi [(0,3),(1,0),(2,3),(3,0),(4,3),(5,0),(6,3),(7,0),(8,3)] λcu=>?_
    repeat((first|refine ZSa ?_|refine ZSb ?_|(refine Zf (v:=?_) rfl (by rfl) ?_ ?_;rotate_left 1;(intro w' cL;(obtain⟨c0,c1,c2⟩:=(HB.out.ob cL.below).three);(obtain⟨x0,x1,x2,x3,x4,x5,x6,x7,x8,x9⟩:=(fJ.out.ob cL.below).aQ);(have iJ:=(cL.below.cell (p:=⟨g,sr,none⟩) ez).trans nW.out);go_simp;with_reducible rfl)));simp only[Act.put,Q_])
    refine ZSf ?_;have cD:=(ZW w1.heap.size w1).drew;obtain⟨x0,x1,x2,x3,x4,x5,x6,x7,x8,x9⟩:=(fJ.out.ob cD).aQ;have fV:=fJ.out.lt;have dF:Upd (λ_=>False) own own w1 w1.drew:=ZUb cD dA.out.fresh;clear cD cu;have ft:=(ZdR (HN.out.upd dF (λ_ _ h=>h)) dF.fresh (HI.out.nodes _ hn) ZO HC.out eX);obtain⟨o8,i9⟩:=ZH2 (Zho (gk.out.upd dF (λ_ _ h=>h) (λh=>h) h5) dF.fresh h5 (.inr (.inl rfl)) (ft.2.1) (λg hg=>by have:=Zdd ((HI.out.nodes _ hn).tell hn HC.out eX hg).1.ok;omega) (by have:=HI.out.len;omega) ZdX) (dA.out.trans dF);clear ft dF;go_wp2_with fail;refine o8.out.mono ?_;rintro _ w2 ⟨rfl,cK,ee,cM⟩;have fq:=ZH ee;have dC:Hid (Upd (Zu t) own cK w w2):=ZH ((i9.out.mono λn h=>h.elim).trans cM);clear ee cM x0 x1 x2 x3 x4 x5 x6 x7 x8 x9;go_wp2
    go_ret;refine⟨turned,λ_=>rfl,?_⟩;have e:Z4 c x (Zw ⟨2,sr,ek,key,label,value,at_,bit,mask,keep,turned⟩ turned)=Zga x (Za8 c sr (x.nodes sr).s 2):=by simp[Z4,Zw,hn]
    rw[e];exact⟨rfl,cK,fq.out,dC.out⟩
   ·
    go_enter func14,ntmps14;go_wp2_with fail;generalize (w.alloc (C_ (ZaI ⟨3,sr,ek,key,label,value,at_,bit,mask,keep,turned⟩) 36))=W at *;refine(ZaO HW.out hn).mono ?_;rintro _ w1 ⟨rfl,cz⟩;have cN:Upd (λ_=>False) own own W w1:=ZUb cz HU.out.fresh;have dD:=HW.out.upd cN (λ_ _ h=>h) (λh=>h) h5;obtain⟨g,k,hp,lp,q,cH,ez,cB,dB,fw⟩:=dD.node hn h5;have gi:(0:Int)<=(sr:Int):=ZO;have lw:(sr:Int)<(c.n:Int):=ZO;obtain⟨HB,nW,HN,jU,dA,fJ,gk⟩:=ZH7 cH cB dB fw (HU.out.trans cN) (HX.out.ob cz) dD;clear cz cN dD cH cB dB fw x0 x1 x2 x3 x4 x5 x6 x7 x8 x9 fV;go_wp2_with fail;refine ZSi [(0,3),(1,0),(2,3),(3,0),(4,3),(5,0),(6,3),(7,0),(8,3)] λcu=>?_
    repeat((first|refine ZSa ?_|refine ZSb ?_|(refine Zf (v:=?_) rfl (by rfl) ?_ ?_;rotate_left 1;(intro w' cL;(obtain⟨c0,c1,c2⟩:=(HB.out.ob cL.below).three);(obtain⟨x0,x1,x2,x3,x4,x5,x6,x7,x8,x9⟩:=(fJ.out.ob cL.below).aQ);(have iJ:=(cL.below.cell (p:=⟨g,sr,none⟩) ez).trans nW.out);go_simp;with_reducible rfl)));simp only[Act.put,Q_])
    refine ZSf ?_;have cD:=(ZW w1.heap.size w1).drew;obtain⟨x0,x1,x2,x3,x4,x5,x6,x7,x8,x9⟩:=(fJ.out.ob cD).aQ;have fV:=fJ.out.lt;have dF:Upd (λ_=>False) own own w1 w1.drew:=ZUb cD dA.out.fresh;clear cD cu;have ft:=(ZdR (HN.out.upd dF (λ_ _ h=>h)) dF.fresh (HI.out.nodes _ hn) ZO HC.out eX);obtain⟨o8,i9⟩:=ZH2 (Zho (gk.out.upd dF (λ_ _ h=>h) (λh=>h) h5) dF.fresh h5 (.inr (.inr rfl)) (ft.2.2) (λg hg=>by have:=Zdd ((HI.out.nodes _ hn).tell hn HC.out eX hg).1.ok;omega) (by have:=HI.out.len;omega) ZdX) (dA.out.trans dF);clear ft dF;go_wp2_with fail;refine o8.out.mono ?_;rintro _ w2 ⟨rfl,cK,ee,cM⟩;have fq:=ZH ee;have dC:Hid (Upd (Zu t) own cK w w2):=ZH ((i9.out.mono λn h=>h.elim).trans cM);clear ee cM x0 x1 x2 x3 x4 x5 x6 x7 x8 x9;go_wp2
    go_ret;refine⟨turned,λ_=>rfl,?_⟩;have e:Z4 c x (Zw ⟨3,sr,ek,key,label,value,at_,bit,mask,keep,turned⟩ turned)=Zga x (Za8 c sr (x.nodes sr).s 3):=by simp[Z4,Zw,hn]
    rw[e];exact⟨rfl,cK,fq.out,dC.out⟩
   ·
    go_enter func14,ntmps14;go_wp2_with fail;generalize (w.alloc (C_ (ZaI ⟨11,sr,ek,key,label,value,at_,bit,mask,keep,turned⟩) 36))=W at *;refine(ZaO HW.out hn).mono ?_;rintro _ w1 ⟨rfl,cz⟩;have cN:Upd (λ_=>False) own own W w1:=ZUb cz HU.out.fresh;have dD:=HW.out.upd cN (λ_ _ h=>h) (λh=>h) h5;obtain⟨g,k,hp,lp,q,cH,ez,cB,dB,fw⟩:=dD.node hn h5;have gi:(0:Int)<=(sr:Int):=ZO;have lw:(sr:Int)<(c.n:Int):=ZO;obtain⟨HB,nW,HN,jU,dA,fJ,gk⟩:=ZH7 cH cB dB fw (HU.out.trans cN) (HX.out.ob cz) dD;clear cz cN dD cH cB dB fw x0 x1 x2 x3 x4 x5 x6 x7 x8 x9 fV;go_wp2_with fail;refine ZSi [(0,3),(1,0),(2,3),(3,0),(4,3),(5,0),(6,3),(7,0),(8,3)] λcu=>?_
    repeat((first|refine ZSa ?_|refine ZSb ?_|(refine Zf (v:=?_) rfl (by rfl) ?_ ?_;rotate_left 1;(intro w' cL;(obtain⟨c0,c1,c2⟩:=(HB.out.ob cL.below).three);(obtain⟨x0,x1,x2,x3,x4,x5,x6,x7,x8,x9⟩:=(fJ.out.ob cL.below).aQ);(have iJ:=(cL.below.cell (p:=⟨g,sr,none⟩) ez).trans nW.out);go_simp;with_reducible rfl)));simp only[Act.put,Q_])
    refine ZSf ?_;have cD:=(ZW w1.heap.size w1).drew;obtain⟨x0,x1,x2,x3,x4,x5,x6,x7,x8,x9⟩:=(fJ.out.ob cD).aQ;have fV:=fJ.out.lt;have dF:Upd (λ_=>False) own own w1 w1.drew:=ZUb cD dA.out.fresh;clear cD cu;have vW:=ZH (ZnS (HN.out.upd dF (λ_ _ h=>h)) dF.fresh (HI.out.nodes _ hn) ZO eX hb);go_wp2_with fail;refine vW.out.mono ?_;rintro _ w2 ⟨rfl,cK,fI,cM⟩;have ee:=jU.out _ _ (ZcU sr (x.nodes sr)).1 ((dF.mono (T':=NodeT (t+100+10*sr)) (λn h=>h.elim)).trans cM) fI;have de:Upd (Zu t) own cK w w2:=(dA.out.mono λn h=>h.elim).trans (((dF.mono (T':=NodeT (t+100+10*sr)) (λn h=>h.elim)).trans cM).mono λn h=>h.world ZO);obtain⟨fq,dC⟩:=ZH2 ee de;clear ee de fI cM dF x0 x1 x2 x3 x4 x5 x6 x7 x8 x9;go_wp2
    go_ret;refine⟨turned,λ_=>rfl,?_⟩;have e:Z4 c x (Zw ⟨11,sr,ek,key,label,value,at_,bit,mask,keep,turned⟩ turned)=(⟨Zbn x.nodes sr (ZcU sr (x.nodes sr)).1,x.hub,x.link⟩,(ZcU sr (x.nodes sr)).2):=by simp[Z4,Zw,hn]
    rw[e];exact⟨rfl,cK,fq.out,dC.out⟩
  ·have lB:sr=5:=(HS.out.r).resolve_left hn;subst lB;rcases oT with rfl|rfl|rfl|rfl|rfl
   ·
    go_enter func14,ntmps14;go_wp2_with fail;generalize (w.alloc (C_ (ZaI ⟨0,5,ek,key,label,value,at_,bit,mask,keep,turned⟩) 36))=W at *;refine(Zbk HW.out (r:=((5:Nat):Int)) (.inr ZO)).mono ?_;rintro _ w1 ⟨rfl,cz⟩;have cN:Upd (λ_=>False) own own W w1:=ZUb cz HU.out.fresh;have gk:=ZH (HW.out.upd cN (λ_ _ h=>h) (λh=>h) h5);have dA:Hid (Upd (Zu t) own own w w1):=ZH ((HU.out.trans cN).mono λn h=>h.elim);clear cN cz;go_wp2
    go_ret;refine⟨turned,λ_=>rfl,?_⟩;have e:Z4 c x (Zw ⟨0,5,ek,key,label,value,at_,bit,mask,keep,turned⟩ turned)=(x,1):=by simp[Z4,Zw];omega
    rw[e];exact⟨rfl,own,gk.out,dA.out⟩
   ·
    go_enter func14,ntmps14;go_wp2_with fail;generalize (w.alloc (C_ (ZaI ⟨1,5,ek,key,label,value,at_,bit,mask,keep,turned⟩) 36))=W at *;refine(Zbk HW.out (r:=((5:Nat):Int)) (.inr ZO)).mono ?_;rintro _ w1 ⟨rfl,cz⟩;have cN:Upd (λ_=>False) own own W w1:=ZUb cz HU.out.fresh;have gk:=ZH (HW.out.upd cN (λ_ _ h=>h) (λh=>h) h5);have dA:Hid (Upd (Zu t) own own w w1):=ZH ((HU.out.trans cN).mono λn h=>h.elim);clear cN cz;go_wp2
    go_ret;refine⟨turned,λ_=>rfl,?_⟩;have e:Z4 c x (Zw ⟨1,5,ek,key,label,value,at_,bit,mask,keep,turned⟩ turned)=(x,1):=by simp[Z4,Zw];omega
    rw[e];exact⟨rfl,own,gk.out,dA.out⟩
   ·
    go_enter func14,ntmps14;go_wp2_with fail;generalize (w.alloc (C_ (ZaI ⟨2,5,ek,key,label,value,at_,bit,mask,keep,turned⟩) 36))=W at *;refine(Zbk HW.out (r:=((5:Nat):Int)) (.inr ZO)).mono ?_;rintro _ w1 ⟨rfl,cz⟩;have cN:Upd (λ_=>False) own own W w1:=ZUb cz HU.out.fresh;have gk:=ZH (HW.out.upd cN (λ_ _ h=>h) (λh=>h) h5);have dA:Hid (Upd (Zu t) own own w w1):=ZH ((HU.out.trans cN).mono λn h=>h.elim);clear cN cz;go_wp2
    go_ret;refine⟨turned,λ_=>rfl,?_⟩;have e:Z4 c x (Zw ⟨2,5,ek,key,label,value,at_,bit,mask,keep,turned⟩ turned)=(x,1):=by simp[Z4,Zw];omega
    rw[e];exact⟨rfl,own,gk.out,dA.out⟩
   ·
    go_enter func14,ntmps14;go_wp2_with fail;generalize (w.alloc (C_ (ZaI ⟨3,5,ek,key,label,value,at_,bit,mask,keep,turned⟩) 36))=W at *;refine(Zbk HW.out (r:=((5:Nat):Int)) (.inr ZO)).mono ?_;rintro _ w1 ⟨rfl,cz⟩;have cN:Upd (λ_=>False) own own W w1:=ZUb cz HU.out.fresh;have gk:=ZH (HW.out.upd cN (λ_ _ h=>h) (λh=>h) h5);have dA:Hid (Upd (Zu t) own own w w1):=ZH ((HU.out.trans cN).mono λn h=>h.elim);clear cN cz;go_wp2
    go_ret;refine⟨turned,λ_=>rfl,?_⟩;have e:Z4 c x (Zw ⟨3,5,ek,key,label,value,at_,bit,mask,keep,turned⟩ turned)=(x,1):=by simp[Z4,Zw];omega
    rw[e];exact⟨rfl,own,gk.out,dA.out⟩
   ·
    go_enter func14,ntmps14;go_wp2_with fail;generalize (w.alloc (C_ (ZaI ⟨11,5,ek,key,label,value,at_,bit,mask,keep,turned⟩) 36))=W at *;refine(Zbk HW.out (r:=((5:Nat):Int)) (.inr ZO)).mono ?_;rintro _ w1 ⟨rfl,cz⟩;have cN:Upd (λ_=>False) own own W w1:=ZUb cz HU.out.fresh;have gk:=ZH (HW.out.upd cN (λ_ _ h=>h) (λh=>h) h5);have dA:Hid (Upd (Zu t) own own w w1):=ZH ((HU.out.trans cN).mono λn h=>h.elim);clear cN cz;go_wp2
    go_ret;refine⟨turned,λ_=>rfl,?_⟩;have e:Z4 c x (Zw ⟨11,5,ek,key,label,value,at_,bit,mask,keep,turned⟩ turned)=(x,1):=by simp[Z4,Zw];omega
    rw[e];exact⟨rfl,own,gk.out,dA.out⟩
end
section
open Go.RowKit Go.Shelf
attribute [local go_sem] Oper.semAt_some
theorem Zhk{fH:Nat}{x:WS}(h:Za8 c r (x.nodes r).s k=(none,fH)):Z5 c r x k=x:=by unfold Z5;rw[h]
theorem Zhl{fH:Nat}{x:WS}{g:Frm}(h:Za8 c r (x.nodes r).s k=(some g,fH)):Z5 c r x k=Zbz c x (Zh c x.hub g):=by unfold Z5;rw[h]
def Zjz(own:Own)(t:Nat)(w w':World)(fb p:Nat)(c:Cfg)(m b l:Nat)(R:Loop)(Z:Where)(x:WS)(q:Nat):Prop :=
 ∃o,RoundAt o t w' p c m b l R Z x/\Upd (RoundT t) own o w w'/\Blk w' fb 93 #[.func (.func 37) #[ptrV q] #[],.func (.func 38) #[ptrV q] #[],.func (.func 39) #[ptrV q] #[]]/\o fb=0
section
variable {own:Own}{t p m b l bb:Nat}{w:World}{c:Cfg}{x:WS}{Z:Where}{R:Loop}
theorem ZpH(ht:0<t)(hc:c.Ok)(hm:m<=100)(_hb:b<=700)(h:RoundAt own t w p c m b l R Z x)(tk:Blk w bb 27 #[ptrV p])
  (hY:∀(cZ:Own) (x1:WS) (W1:World) (f:Frm) (a:Option Addr) (n cap:Nat),RoundAt cZ t W1 p c m b l R Z x1->(∃B,WInv c B m b x1/\HubFrm c B f)->Bytes W1 a n cap (Zn f)->Upd (RoundT t) own cZ w W1 ->
   YieldAt Fence.wide 8 prog l #[S_ a n cap] W1 (λe W'=>e=R_ (B_ true)/\∃cK,RoundAt cK t W' p c m b l R Z (Zbz c x1 (Zh c x1.hub f))/\Upd (RoundT t) cZ cK W1 W')) :
  CallsIn Fence.wide 9 prog 91 #[.func (.yield l) #[] #[],P_ (some ⟨bb,0,none⟩)] w (λe w'=>(∃v,e=R_ v)/\∃own',RoundAt own' t w' p c m b l R Z (ZcJ c x)/\Upd (RoundT t) own own' w w'):=by
 have h5:=hc.n5;obtain⟨g,yK,ez,ie,mC⟩:=h.at_.cells hc.n1;have zy:=tk.cell 0;simp only[ZD,ZE]at zy;have fQ:=h.at_.blk;rw[yK]at fQ;obtain⟨c0,c1,c2⟩:=fQ.three;have HR:=ZH h;have HY:Hid _:=ZH hY;have HU:=ZH (Upd.refl (RoundT t) own w h.fresh);clear h hY tk fQ;refine callsIn_of_wp func91 rfl trivial ?_ rfl;simp only[ntmps91,List.size_toArray,List.length_cons,List.length_nil,Nat.reduceAdd,Nat.reduceSub,Array.replicate_succ,Array.replicate_zero,List.push_toArray,List.append_toArray,List.nil_append,List.cons_append];gi_wp2;gi_loopw [14] (λi wr=>∃(k:Nat) (o:Own),k<=c.n/\i=I_ J_ k/\Hid (RoundAt o t wr p c m b l R Z ((List.range k).foldl (ZdY c) x))/\Hid (Upd (RoundT t) own o w wr)) (λi _=>c.n-(intOf i).toNat)
 case atStart=>exact⟨0,own,ZO,rfl,HR,HU⟩
 case round =>
  clear c0 c1 c2 zy mC;obtain⟨k,o,i6,rfl,HR,HU⟩:=hrel;by_cases gh:k<c.n
  ·have kn:(k:Int)<(c.n:Int):=ZO;have cR:(0:Int)<=(k:Int):=ZO;obtain⟨g',lW,GK,GL,gL⟩:=HR.out.at_.cells hc.n1;have GJ:g'=g:=by rw[yK]at lW;simpa using lW.symm
   subst GJ;have hq:=ZX (l:=Z.ps) (i:=k) (by have:=HR.out.at_.len;omega);obtain⟨q,vA⟩:∃q,q=Z.ps[k]'(by have:=HR.out.at_.len;omega):=⟨_,rfl⟩;rw[←vA]at hq;have iJ:=gL k q hq;have HQ:=ZH hq;obtain⟨y,hy⟩:∃y,y=(List.range k).foldl (ZdY c) x:=⟨_,rfl⟩;rw[←hy]at HR;have UR:=ZH hy;clear gL lW vA hq hy;gi_wp2;have kK:=(ZW wr.heap.size wr).alloc (ZL _) (C_ #[.func (.func 37) #[ptrV q] #[],.func (.func 38) #[ptrV q] #[],.func (.func 39) #[ptrV q] #[]] 93);have uD:=HR.out.below kK h5;obtain⟨P9,mi,p8⟩:=ZH3 (ZBn wr 93 #[.func (.func 37) #[ptrV q] #[],.func (.func 38) #[ptrV q] #[],.func (.func 39) #[ptrV q] #[]]) uD.1 (HU.out.trans uD.2);have yZ:Hid (o wr.heap.size=0):=ZH (HR.out.fresh _ (ZL _));clear kK uD iJ;obtain⟨fb,lP⟩:∃fb,fb=wr.heap.size:=⟨_,rfl⟩;rw[←lP]at P9 yZ ⊢;clear lP;gi_loopw [26] (λi w'=>(i=I_ J_ 0/\Zjz own t w w' fb p c m b l R Z y q)∨(i=I_ J_ 1/\Zjz own t w w' fb p c m b l R Z (Z5 c k y 1) q)∨(i=I_ J_ 2/\Zjz own t w w' fb p c m b l R Z (Z5 c k (Z5 c k y 1) 2) q)∨(i=I_ J_ 3/\Zjz own t w w' fb p c m b l R Z (ZdY c y k) q)) (λi _=>3-(intOf i).toNat)
   case atStart=>exact .inl ⟨rfl,o,mi.out,p8.out,P9.out,yZ.out⟩
   case round =>
    skip
    rcases hrel with ⟨rfl,hrel⟩|⟨rfl,hrel⟩|⟨rfl,hrel⟩|⟨rfl,hrel⟩
    ·obtain⟨o,hr,hu,hf,ho⟩:=hrel;have rA:=hf.cell 0;simp only[ZD,ZE]at rA;have kN:=hf.lt;obtain⟨HR,HU,HF,HO⟩:=ZH4 hr hu hf ho;clear hr hu hf ho;gi_wp2;refine⟨trivial,?_⟩;obtain⟨BB,hI⟩:=HR.out.inv;have eX:tot BB.made<=100:=ZT hI.sum hm;have hN:=HR.out.at_.node k q HQ.out;refine(callsIn_wide.2 ((ZdR hN HR.out.fresh (hI.nodes k gh) ZO hc eX).1)).mono ?_;intro e w3 hP;unfold ZbJ at hP;obtain⟨og,fH,hO⟩:∃og fH,Za8 c k ((y).nodes k).s 1=(og,fH):=⟨_,_,rfl⟩;rw[hO]at hP
     cases og with
     |none =>
      obtain⟨rfl,cz⟩:=hP;have hT:Z5 c k (y) 1=y:=Zhk hO;have hz:((fH:Int)==0)=false:=by
       have h1:=ZdX (c:=c) (r:=k) (k:=1) (s:=((y).nodes k).s) (by rw[hO]);rw[hO]at h1;simp at h1 ⊢;exact h1
      have i4:=HR.out.below cz h5;have po:=HF.out.ob cz;obtain⟨fk,ew,jy,sf⟩:=ZH4 i4.1 (HU.out.trans i4.2) po hT;clear cz i4 po hI hN hO hT;gi_wp2;refine⟨λ_ h=>(by cases h),?_⟩;gi_wp2;go_roundw
      case rel=>exact(.inr (.inl ⟨rfl,o,(by rw[sf.out];exact fk.out),ew.out,jy.out,HO.out⟩))
      case measure=>simp[intOf]
     |some g =>
      obtain⟨v,rfl,eG,cz⟩:=hP;obtain⟨a,cap,rfl,gF⟩:=Bytes.ae eG;have hT:Z5 c k (y) 1=Zbz c (y) (Zh c (y).hub g):=Zhl hO;have gM:HubFrm c BB g:=((hI.nodes k gh).tell gh hc eX (by rw[hO])).1;have i4:=HR.out.below cz h5;have po:=HF.out.ob cz;obtain⟨fn,tmps,assign,body,I6,zv⟩:=HY.out o (y) w3 g a _ cap i4.1 ⟨BB,hI,gM⟩ gF (HU.out.trans i4.2);obtain⟨fk,ew,jy,sf⟩:=ZH4 i4.1 (HU.out.trans i4.2) po hT;clear cz i4 po hI hN hO hT eG gF gM;gi_wp2;refine zv.mono ?_;rintro e W' ⟨rfl,o2,dV,cM⟩;obtain⟨gS,gj,nH,dO⟩:=ZH4 dV (ew.out.trans cM) (jy.out.upd cM (by rw[HO.out];rintro(⟨h1,h2⟩|h1) <;> omega)) ((cM.old fb jy.out.lt).trans HO.out);clear dV cM zv I6;gi_wp2;go_roundw
      case rel=>exact(.inr (.inl ⟨rfl,o2,(by rw[sf.out];exact gS.out),gj.out,nH.out,dO.out⟩))
      case measure=>simp[intOf]
    ·obtain⟨o,hr,hu,hf,ho⟩:=hrel;have rA:=hf.cell 1;simp only[ZD,ZE,ZG]at rA;have kN:=hf.lt;obtain⟨HR,HU,HF,HO⟩:=ZH4 hr hu hf ho;clear hr hu hf ho;gi_wp2;refine⟨trivial,?_⟩;obtain⟨BB,hI⟩:=HR.out.inv;have eX:tot BB.made<=100:=ZT hI.sum hm;have hN:=HR.out.at_.node k q HQ.out;refine(callsIn_wide.2 ((ZdR hN HR.out.fresh (hI.nodes k gh) ZO hc eX).2.1)).mono ?_;intro e w3 hP;unfold ZbJ at hP;obtain⟨og,fH,hO⟩:∃og fH,Za8 c k ((Z5 c k y 1).nodes k).s 2=(og,fH):=⟨_,_,rfl⟩;rw[hO]at hP
     cases og with
     |none =>
      obtain⟨rfl,cz⟩:=hP;have hT:Z5 c k (Z5 c k y 1) 2=Z5 c k y 1:=Zhk hO;have hz:((fH:Int)==0)=false:=by
       have h1:=ZdX (c:=c) (r:=k) (k:=2) (s:=((Z5 c k y 1).nodes k).s) (by rw[hO]);rw[hO]at h1;simp at h1 ⊢;exact h1
      have i4:=HR.out.below cz h5;have po:=HF.out.ob cz;obtain⟨fk,ew,jy,sf⟩:=ZH4 i4.1 (HU.out.trans i4.2) po hT;clear cz i4 po hI hN hO hT;gi_wp2;refine⟨λ_ h=>(by cases h),?_⟩;gi_wp2;go_roundw
      case rel=>exact(.inr (.inr (.inl ⟨rfl,o,(by rw[sf.out];exact fk.out),ew.out,jy.out,HO.out⟩)))
      case measure=>simp[intOf]
     |some g =>
      obtain⟨v,rfl,eG,cz⟩:=hP;obtain⟨a,cap,rfl,gF⟩:=Bytes.ae eG;have hT:Z5 c k (Z5 c k y 1) 2=Zbz c (Z5 c k y 1) (Zh c (Z5 c k y 1).hub g):=Zhl hO;have gM:HubFrm c BB g:=((hI.nodes k gh).tell gh hc eX (by rw[hO])).1;have i4:=HR.out.below cz h5;have po:=HF.out.ob cz;obtain⟨fn,tmps,assign,body,I6,zv⟩:=HY.out o (Z5 c k y 1) w3 g a _ cap i4.1 ⟨BB,hI,gM⟩ gF (HU.out.trans i4.2);obtain⟨fk,ew,jy,sf⟩:=ZH4 i4.1 (HU.out.trans i4.2) po hT;clear cz i4 po hI hN hO hT eG gF gM;gi_wp2;refine zv.mono ?_;rintro e W' ⟨rfl,o2,dV,cM⟩;obtain⟨gS,gj,nH,dO⟩:=ZH4 dV (ew.out.trans cM) (jy.out.upd cM (by rw[HO.out];rintro(⟨h1,h2⟩|h1) <;> omega)) ((cM.old fb jy.out.lt).trans HO.out);clear dV cM zv I6;gi_wp2;go_roundw
      case rel=>exact(.inr (.inr (.inl ⟨rfl,o2,(by rw[sf.out];exact gS.out),gj.out,nH.out,dO.out⟩)))
      case measure=>simp[intOf]
    ·obtain⟨o,hr,hu,hf,ho⟩:=hrel;have rA:=hf.cell 2;simp only[ZD,ZE,ZG]at rA;have kN:=hf.lt;obtain⟨HR,HU,HF,HO⟩:=ZH4 hr hu hf ho;clear hr hu hf ho;gi_wp2;refine⟨trivial,?_⟩;obtain⟨BB,hI⟩:=HR.out.inv;have eX:tot BB.made<=100:=ZT hI.sum hm;have hN:=HR.out.at_.node k q HQ.out;refine(callsIn_wide.2 ((ZdR hN HR.out.fresh (hI.nodes k gh) ZO hc eX).2.2)).mono ?_;intro e w3 hP;unfold ZbJ at hP;obtain⟨og,fH,hO⟩:∃og fH,Za8 c k ((Z5 c k (Z5 c k y 1) 2).nodes k).s 3=(og,fH):=⟨_,_,rfl⟩;rw[hO]at hP
     cases og with
     |none =>
      obtain⟨rfl,cz⟩:=hP;have hT:Z5 c k (Z5 c k (Z5 c k y 1) 2) 3=Z5 c k (Z5 c k y 1) 2:=Zhk hO;have hz:((fH:Int)==0)=false:=by
       have h1:=ZdX (c:=c) (r:=k) (k:=3) (s:=((Z5 c k (Z5 c k y 1) 2).nodes k).s) (by rw[hO]);rw[hO]at h1;simp at h1 ⊢;exact h1
      have i4:=HR.out.below cz h5;have po:=HF.out.ob cz;obtain⟨fk,ew,jy,sf⟩:=ZH4 i4.1 (HU.out.trans i4.2) po hT;clear cz i4 po hI hN hO hT;gi_wp2;refine⟨λ_ h=>(by cases h),?_⟩;gi_wp2;go_roundw
      case rel=>exact(.inr (.inr (.inr ⟨rfl,o,(by rw[show ZdY c y k=Z5 c k (Z5 c k (Z5 c k y 1) 2) 3 from rfl,sf.out];exact fk.out),ew.out,jy.out,HO.out⟩)))
      case measure=>simp[intOf]
     |some g =>
      obtain⟨v,rfl,eG,cz⟩:=hP;obtain⟨a,cap,rfl,gF⟩:=Bytes.ae eG;have hT:Z5 c k (Z5 c k (Z5 c k y 1) 2) 3=Zbz c (Z5 c k (Z5 c k y 1) 2) (Zh c (Z5 c k (Z5 c k y 1) 2).hub g):=Zhl hO;have gM:HubFrm c BB g:=((hI.nodes k gh).tell gh hc eX (by rw[hO])).1;have i4:=HR.out.below cz h5;have po:=HF.out.ob cz;obtain⟨fn,tmps,assign,body,I6,zv⟩:=HY.out o (Z5 c k (Z5 c k y 1) 2) w3 g a _ cap i4.1 ⟨BB,hI,gM⟩ gF (HU.out.trans i4.2);obtain⟨fk,ew,jy,sf⟩:=ZH4 i4.1 (HU.out.trans i4.2) po hT;clear cz i4 po hI hN hO hT eG gF gM;gi_wp2;refine zv.mono ?_;rintro e W' ⟨rfl,o2,dV,cM⟩;obtain⟨gS,gj,nH,dO⟩:=ZH4 dV (ew.out.trans cM) (jy.out.upd cM (by rw[HO.out];rintro(⟨h1,h2⟩|h1) <;> omega)) ((cM.old fb jy.out.lt).trans HO.out);clear dV cM zv I6;gi_wp2;go_roundw
      case rel=>exact(.inr (.inr (.inr ⟨rfl,o2,(by rw[show ZdY c y k=Z5 c k (Z5 c k (Z5 c k y 1) 2) 3 from rfl,sf.out];exact gS.out),gj.out,nH.out,dO.out⟩)))
      case measure=>simp[intOf]
    ·obtain⟨o,hr,hu,hf,ho⟩:=hrel;obtain⟨HR,HU⟩:=ZH2 hr hu;clear hr hu hf ho;gi_wp2;go_roundw
     case rel =>
      refine⟨k+1,o,ZO,ZN,?_,HU⟩;rw[List.range_succ,List.foldl_append,←UR.out];exact HR
     case measure=>simp[intOf];omega
  ·obtain rfl:k=c.n:=ZO;gi_wp2;go_end0
   exact⟨⟨_,rfl⟩,o,HR.out,HU.out⟩
end
end
section
variable {α : Type}[Inhabited α][DecidableEq α]
theorem Zf5(d:Array α)(x : α):∀m,x∈Lib.compactUpTo d m↔∃j,j<m/\d[j]! = x
 | 0=>by simp[Lib.compactUpTo]
 |m+1=>by
  have ih:=Zf5 d x m;rw[Lib.compactUpTo_succ,List.mem_append,ih];constructor
  ·rintro(⟨j,h1,h2⟩|h)
   ·exact⟨j,ZO,h2⟩
   ·split at h
    ·simp at h;exact⟨m,ZO,h.symm⟩
    ·simp at h
  ·rintro⟨j,h1,h2⟩;by_cases hj:j<m
   ·exact .inl ⟨j,hj,h2⟩
   ·have RZ:j=m:=ZO;subst RZ;by_cases hk:Lib.keeps d j=true
    ·exact .inr (by simp[hk,h2])
    ·have i6:¬(j=0∨d[j]! ≠ d[j-1]!):=λh=>hk (by unfold Lib.keeps;exact decide_eq_true h)
     have h0:j≠0:=λh=>i6 (.inl h)
     have e:d[j]! = d[j-1]! := Classical.byContradiction λh=>i6 (.inr h)
     exact .inl ⟨j-1,ZO,by rw[←e,h2]⟩
theorem ZnO(zs:List α)(x : α):x∈Lib.compact zs↔x∈zs:=by
 unfold Lib.compact;rw[Zf5];constructor
 ·rintro⟨j,h1,h2⟩;have e:zs.toArray[j]! = zs[j]:=by simp[h1]
  rw[e]at h2;subst h2;exact List.getElem_mem h1
 ·intro h;obtain⟨j,h1,h2⟩:=List.getElem_of_mem h;exact⟨j,h1,by simp[h1,h2]⟩
end
theorem Zf6{s:ByteArray}{ss:List ByteArray}:s∈ZaZ ss↔s∈ss:=by
 unfold ZaZ;simp only[List.mem_map,List.mem_mergeSort];constructor
 ·rintro⟨a,⟨b,hb,rfl⟩,rfl⟩;rwa [Ziw]
 ·intro h;exact⟨_,⟨s,h,rfl⟩,Ziw s⟩
theorem Zh0{s:ByteArray}{ss:List ByteArray}:s∈Za1 ss↔s∈ss:=by
 unfold Za1;simp only[List.mem_map,ZnO];constructor
 ·rintro⟨a,⟨b,hb,rfl⟩,rfl⟩;rwa [Ziw]
 ·intro h;exact⟨_,⟨s,h,rfl⟩,Ziw s⟩
theorem Zli{ws:List Ev}{key v:ByteArray}{l9:Nat}:v∈ZeV ws key l9↔∃e∈ws,e.key=key/\e.label=l9/\e.kind≠3/\e.value=v:=by
 unfold ZeV Z3 Zct;rw[Zh0,Zf6];simp only[List.mem_map,List.mem_filter,Bool.and_eq_true,decide_eq_true_eq,Bool.not_eq_true',decide_eq_false_iff_not];constructor
 ·rintro⟨e,⟨⟨h1,h2,h3⟩,h4⟩,h5⟩;exact⟨e,h1,h2,h3,h4,h5⟩
 ·rintro⟨e,h1,h2,h3,h4,h5⟩;exact⟨e,⟨⟨h1,h2,h3⟩,h4⟩,h5⟩
theorem ZjT{l:List Ev}{C:Con}:C∈ZcQ l↔∃e∈ZaU l,C=Za2 e.key (ZaY l (ZaU l)):=by
 unfold ZcQ ZmK;simp only[List.mem_map,Zh0,Zf6];constructor
 ·rintro⟨k,⟨e,he,rfl⟩,rfl⟩;exact⟨e,he,rfl⟩
 ·rintro⟨e,he,rfl⟩;exact⟨_,⟨e,he,rfl⟩,rfl⟩
section
variable {β : Type}{T:List (ByteArray × β)}{k a:ByteArray}{x y : β}
theorem Zls(a:ByteArray)(y : β)(T:List (ByteArray × β))(k:ByteArray)(x : β):Zc6 ((a,y)::T) k x=if a=k then(k,x)::T else(a,y)::Zc6 T k x:=by
 unfold Zc6 atK;rw[List.findIdx?_cons];by_cases h:a=k
 ·simp[h]
 ·simp only[h,decide_false,Bool.false_eq_true,if_false]
  cases List.findIdx? (λp=>decide (p.1=k)) T <;> simp
theorem ZkX(a:ByteArray)(y : β)(T:List (ByteArray × β))(k:ByteArray):ZcZ ((a,y)::T) k=if a=k then T else(a,y)::ZcZ T k:=by
 unfold ZcZ atK;rw[List.findIdx?_cons];by_cases h:a=k
 ·simp[h]
 ·simp only[h,decide_false,Bool.false_eq_true,if_false]
  cases List.findIdx? (λp=>decide (p.1=k)) T <;> simp
theorem ZqB(a:ByteArray)(y : β)(T:List (ByteArray × β))(k:ByteArray):Zar ((a,y)::T) k=if a=k then some y else Zar T k:=by
 unfold Zar;rw[List.find?_cons];by_cases h:a=k
 ·simp[h]
 ·simp[h]
theorem Zgv{T:List (ByteArray × β)}{k:ByteArray}{x : β}(h:(k,x)∈T):k∈T.map (·.1):=List.mem_map_of_mem (f:=(·.1)) h
theorem Zgu:∀{T:List (ByteArray × β)},(T.map (·.1)).Nodup->(Zar T k=some x↔(k,x)∈T)
 | [],_=>by simp[Zar]
 |(a,y)::T,h=>by
  rw[List.map_cons,List.nodup_cons]at h;rw[ZqB,List.mem_cons];by_cases e:a=k
  ·subst e;rw[ZPp rfl];constructor
   ·intro h';injection h' with h';exact .inl (by rw[h'])
   ·rintro(h'|h')
    ·injection h' with _ h';rw[h']
    ·exact absurd (Zgv h') h.1
  ·rw[ZPn e,Zgu h.2];exact⟨λh' => .inr h',λh'=>h'.elim (λh'=>by injection h' with h' _;exact absurd h'.symm e) id⟩
theorem ZgA{k':ByteArray}{x' : β}:∀{T:List (ByteArray × β)},(T.map (·.1)).Nodup->((k',x')∈Zc6 T k x↔(k'=k/\x'=x)∨(k'≠k/\(k',x')∈T))
 | [],_=>by simp[Zc6,atK]
 |(a,y)::T,h=>by
  rw[List.map_cons,List.nodup_cons]at h;rw[Zls];by_cases e:a=k
  ·subst e;rw[ZPp rfl,List.mem_cons,List.mem_cons];constructor
   ·rintro(h'|h')
    ·injection h' with h1 h2;exact .inl ⟨h1,h2⟩
    ·exact .inr ⟨λe=>h.1 (e▸Zgv h'),.inr h'⟩
   ·rintro(⟨h1,h2⟩|⟨h1,h2⟩)
    ·exact .inl (by rw[h1,h2])
    ·rcases h2 with h2|h2
     ·injection h2 with h2 _;exact absurd h2 h1
     ·exact .inr h2
  ·rw[ZPn e,List.mem_cons,ZgA h.2,List.mem_cons];constructor
   ·rintro(h'|h'|⟨h1,h2⟩)
    ·refine .inr ⟨?_,.inl h'⟩;injection h' with h1 _;rw[h1];exact e
    ·exact .inl h'
    ·exact .inr ⟨h1,.inr h2⟩
   ·rintro(h'|⟨h1,h2|h2⟩)
    ·exact .inr (.inl h')
    ·exact .inl h2
    ·exact .inr (.inr ⟨h1,h2⟩)
theorem Zlt:∀{T:List (ByteArray × β)},(T.map (·.1)).Nodup->((Zc6 T k x).map (·.1)).Nodup
 | [],_=>by simp[Zc6,atK]
 |(a,y)::T,h=>by
  rw[List.map_cons,List.nodup_cons]at h;rw[Zls];by_cases e:a=k
  ·subst e;rw[ZPp rfl,List.map_cons,List.nodup_cons];exact h
  ·rw[ZPn e,List.map_cons,List.nodup_cons];refine⟨λh'=>?_,Zlt h.2⟩;obtain⟨⟨k',x'⟩,h1,h2⟩:=List.mem_map.1 h';simp only at h2;subst h2;rcases(ZgA h.2).1 h1 with ⟨h3,_⟩|⟨_,h3⟩
   ·exact e h3
   ·exact h.1 (Zgv h3)
theorem Zgn{k':ByteArray}{x' : β}:∀{T:List (ByteArray × β)},(T.map (·.1)).Nodup->((k',x')∈ZcZ T k↔k'≠k/\(k',x')∈T)
 | [],_=>by simp[ZcZ,atK]
 |(a,y)::T,h=>by
  rw[List.map_cons,List.nodup_cons]at h;rw[ZkX];by_cases e:a=k
  ·subst e;rw[ZPp rfl,List.mem_cons];constructor
   ·intro h';exact⟨λe=>h.1 (e▸Zgv h'),.inr h'⟩
   ·rintro⟨h1,h2|h2⟩
    ·injection h2 with h2 _;exact absurd h2 h1
    ·exact h2
  ·rw[ZPn e,List.mem_cons,Zgn h.2,List.mem_cons];constructor
   ·rintro(h'|⟨h1,h2⟩)
    ·refine⟨?_,.inl h'⟩;injection h' with h1 _;rw[h1];exact e
    ·exact⟨h1,.inr h2⟩
   ·rintro⟨h1,h2|h2⟩
    ·exact .inl h2
    ·exact .inr ⟨h1,h2⟩
theorem ZkY:∀{T:List (ByteArray × β)},(T.map (·.1)).Nodup->((ZcZ T k).map (·.1)).Nodup
 | [],_=>by simp[ZcZ,atK]
 |(a,y)::T,h=>by
  rw[List.map_cons,List.nodup_cons]at h;rw[ZkX];by_cases e:a=k
  ·rw[ZPp e];exact h.2
  ·rw[ZPn e,List.map_cons,List.nodup_cons];refine⟨λh'=>?_,ZkY h.2⟩;obtain⟨⟨k',x'⟩,h1,h2⟩:=List.mem_map.1 h';simp only at h2;subst h2;exact h.1 (Zgv ((Zgn h.2).1 h1).2)
end
def RowK(k:ByteArray)(l:List Ev):Prop:=∀e∈l,e.key=k/\(e.kind=1∨e.kind=3∨e.kind=4)
structure KInv(K:List (ByteArray×List Ev))(log:List Ev):Prop where
 once:(K.map (·.1)).Nodup
 row:∀p∈K,RowK p.1 p.2/\∀e∈p.2,e∈log
section
variable {K:List (ByteArray×List Ev)}{log l:List Ev}{e:Ev}{k:ByteArray}
theorem RowK.bj(h:RowK k l){x:Ev}:x∈ZaU l↔x∈l/\x.kind=1:=by
 have hn:∀y,(l.any λa=>decide (a.kind=2)&&Zdz a y&&y.below a)=false:=λy=>by
  rw[List.any_eq_false];intro a ha;have:a.kind≠2:=by have:=(h a ha).2;omega
  simp[this]
 simp only[ZaU,List.mem_filter,Zck,hn,Bool.not_false,Bool.and_true,decide_eq_true_eq]
theorem RowK.counts(h:RowK k l){x:Ev}:x∈ZaY l (ZaU l)↔x∈l/\(x.kind=3∨x.kind=4)/\ZbF (ZaU l) x=true:=by
 have hn:∀y,ZeH l y=false:=λy=>by
  unfold ZeH;rw[List.any_eq_false];intro a ha;have:a.kind≠5:=by have:=(h a ha).2;omega
  simp[this]
 simp only[ZaY,List.mem_filter,ZdO,hn,Bool.not_false,Bool.and_true];by_cases h3:x.kind=3
 ·simp[h3]
 ·by_cases h4:x.kind=4
  ·simp[h4]
  ·simp[h3,h4]
theorem RowK.bU(h:RowK e.key l)(he:e.Ok):RowK e.key (Z1 l e):=by
 have h5:=he.edit.kind5;have h1:=he.edit.kind1;intro x hx;unfold Z1 at hx;split at hx
 ·rcases List.mem_append.1 hx with hx|hx
  ·exact h x hx
  ·simp at hx;subst hx;exact⟨rfl,ZO⟩
 ·split at hx
  ·exact h x (Zcn (List.mem_filter.1 hx).1)
  ·split at hx
   ·split at hx
    ·rcases List.mem_append.1 hx with hx|hx
     ·exact h x (Zcn hx)
     ·simp at hx;subst hx;exact⟨rfl,ZO⟩
    ·exact h x hx
   ·split at hx
    ·exact h x (Zcn hx)
    ·split at hx
     ·rcases List.mem_append.1 hx with hx|hx
      ·exact h x (Zcn hx)
      ·simp at hx;subst hx;exact⟨rfl,ZO⟩
     ·exact h x hx
theorem KInv.old(h:KInv K log)(k:ByteArray):RowK k ((Zar K k).getD [])/\∀x∈(Zar K k).getD [],x∈log:=by
 cases hg:Zar K k with
 |none=>exact⟨λx hx=>(by simp at hx),λx hx=>(by simp at hx)⟩
 |some l=>exact h.row _ ((Zgu h.once).1 hg)
theorem KInv.apply(h:KInv K log)(he:e.Ok):KInv (applyN K e) (log++[e]):=by
 obtain⟨h1,h2⟩:=h.old e.key;unfold applyN;split
 ·exact⟨ZkY h.once,λp hp=>⟨(h.row p ((Zgn h.once).1 hp).2).1,λx hx=>List.mem_append_left _ ((h.row p ((Zgn h.once).1 hp).2).2 x hx)⟩⟩
 ·refine⟨Zlt h.once,λp hp=>?_⟩;rcases(ZgA h.once).1 hp with ⟨e1,e2⟩|⟨_,hp⟩
  ·rw[e1,e2];refine⟨h1.bU he,λx hx=>?_⟩;rcases ZlH hx with hx|rfl
   ·exact List.mem_append_left _ (h2 x hx)
   ·simp
  ·exact⟨(h.row p hp).1,λx hx=>List.mem_append_left _ ((h.row p hp).2 x hx)⟩
theorem KInv.fold:∀{l:List Ev} {K:List (ByteArray×List Ev)} {log:List Ev},KInv K log->(∀x∈l,x.Ok)->KInv (l.foldl applyN K) (log++l)
 | [],K,log,h,_=>by simpa using h
 |e::l,K,log,h,he=>by
  have:=KInv.fold (h.apply (he e ZM)) λx hx=>he x (List.mem_cons_of_mem _ hx)
  simpa using this
theorem KInv.of(h:∀x∈l,x.Ok):KInv (l.foldl applyN []) l:=by
 have:=KInv.fold (K:=[]) (log:=[]) ⟨ZM,ZM⟩ h;simpa using this
theorem KInv.mem(h:KInv K log){C:Con}:C∈listN K↔∃p∈K,(∃x∈p.2,x.kind=1)/\C=Za2 p.1 (ZaY p.2 (ZaU p.2)):=by
 unfold listN;rw[List.mem_flatMap];constructor
 ·rintro⟨k,hk,hC⟩;rw[Zf6]at hk;obtain⟨p,hp,rfl⟩:=List.mem_map.1 hk;rw[(Zgu (x:=p.2) h.once).2 hp,Option.getD_some,ZjT]at hC;obtain⟨x,hx,rfl⟩:=hC;have hr:=(h.row p hp).1;obtain⟨h1,h2⟩:=hr.bj.1 hx;exact⟨p,hp,⟨x,h1,h2⟩,by rw[(hr x h1).1]⟩
 ·rintro⟨p,hp,⟨x,h1,h2⟩,rfl⟩;refine⟨p.1,Zf6.2 (List.mem_map_of_mem hp),?_⟩;rw[(Zgu (x:=p.2) h.once).2 hp,Option.getD_some,ZjT];have hr:=(h.row p hp).1;exact⟨x,hr.bj.2 ⟨h1,h2⟩,by rw[(hr x h1).1]⟩
def Ztg(kind:Nat)(key:ByteArray)(label:Nat)(value:ByteArray)(cs:List Con):Prop :=
 (kind≠2->∃C∈cs,C.key=key)/\∀C∈cs,C.key=key->kind≠2/\(kind=3->(if label=0 then C.f0 else C.f1)=value)/\(kind=4->value∈if label=0 then C.s0 else C.s1)/\(kind=5->value ∉ if label=0 then C.s0 else C.s1)
theorem Zdi{kk:Nat}{f:Ev->Bool}{x:Ev}:x∈ZaQ l e kk f↔x∈l/\(x.kind≠kk∨f x=false∨x.below e=false):=by
 unfold ZaQ Zg3;rw[List.mem_filter]
 cases f x <;> cases x.below e <;> simp
theorem Zqx(h:KInv K log)(he:e.Ok)(hb:∀a∈log,a.below e=true){L P:Nat}(hc:Zb2 L P (listN K) e.kind e.key e.label e.value=0):Ztg e.kind e.key e.label e.value (listN (applyN K e)):=by
 have h':=h.apply he;have h5:=he.edit.kind5;have h1:=he.edit.kind1;obtain⟨l0,jD⟩:∃l,l=(Zar K e.key).getD []:=⟨_,rfl⟩;obtain⟨nb,eu⟩:=h.old e.key;rw[←jD]at nb eu;have cW:∀x∈l0,x.below e=true:=λx hx=>hb x (eu x hx)
 have mZ:applyN K e=if (Z1 l0 e).length=0 then ZcZ K e.key else Zc6 K e.key (Z1 l0 e):=by rw[jD];rfl
 have eG:=nb.bU he;have hC:∀C∈listN (applyN K e),C.key=e.key->(∃x∈Z1 l0 e,x.kind=1)/\C=Za2 e.key (ZaY (Z1 l0 e) (ZaU (Z1 l0 e))):=λC hC hk=>by
  obtain⟨p,hp,hx,rfl⟩:=h'.mem.1 hC;have i6:p.1=e.key:=hk;rw[mZ]at hp;split at hp
  ·exact absurd i6 ((Zgn h.once).1 hp).1
  ·rcases(ZgA h.once).1 hp with ⟨e1,e2⟩|⟨h1,_⟩
   ·rw[e2]at hx ⊢;exact⟨hx,by rw[i6]⟩
   ·exact absurd i6 h1
 have hE:(∃x∈Z1 l0 e,x.kind=1)->∃C∈listN (applyN K e),C.key=e.key:=λ⟨x,hx,h1⟩=>by
  refine⟨Za2 e.key (ZaY (Z1 l0 e) (ZaU (Z1 l0 e))),h'.mem.2 ⟨(e.key,Z1 l0 e),?_,⟨x,hx,h1⟩,rfl⟩,rfl⟩;rw[mZ,ZPn (λh0=>by rw[List.length_eq_zero_iff.1 h0]at hx;cases hx)];exact(ZgA h.once).2 (.inl ⟨rfl,rfl⟩)
 have jn:e.kind≠1->∃x∈l0,x.kind=1:=λhk=>by
  unfold Zb2 at hc;split at hc
  ·rw[ZPn hk]at hc;cases hc
  ·rename_i C hf;have hm:=List.mem_of_find?_eq_some hf;have cX:C.key=e.key:=by simpa using List.find?_some hf
   obtain⟨p,hp,hx,rfl⟩:=h.mem.1 hm;have dr:p.1=e.key:=cX;have hg:=(Zgu h.once).2 (show(e.key,p.2)∈K by rw[←dr];exact hp);rw[jD,hg];exact hx
 have pC:(∃x∈l0,x.kind=1)->Zch l0 e=true:=λ⟨x,hx,h1⟩=>by
  unfold Zch;rw[List.any_eq_true];exact⟨x,hx,by simp[h1,cW x hx]⟩
 have oU:∀x∈Z1 l0 e,x.kind=1->x∈l0->ZbF (ZaU (Z1 l0 e)) e=true:=λx hx h1 h2=>by
  unfold ZbF;rw[List.any_eq_true];exact⟨x,eG.bj.2 ⟨hx,h1⟩,by simp[h1,Zdz,(nb x h2).1,cW x h2]⟩
 have Cs:e.kind=1∨e.kind=2∨e.kind=3∨e.kind=4∨e.kind=5:=ZO;rcases Cs with hk|hk|hk|hk|hk
 ·
  have hw:Z1 l0 e=l0++[e]:=by unfold Z1;rw[ZPp hk]
  refine⟨λ_=>hE ⟨e,by rw[hw];simp,hk⟩,λC _ _=>⟨ZO,ZO,ZO,ZO⟩⟩
 ·
  have hw:∀x,x ∉ Z1 l0 e:=λx hx=>by
   unfold Z1 ZfL at hx;rw[ZPn ZO,ZPp hk,List.mem_filter]at hx;have hn:∀y∈ZaQ l0 e 1 (λ_=>true),y.kind≠1:=λy hy=>by
    obtain⟨h1,h2⟩:=Zdi.1 hy;have:=cW y h1;simp[this]at h2;exact h2
   have j8:=hn x hx.1;have kw:=hx.2;simp only[j8,decide_false,Bool.false_or]at kw;unfold Zch at kw;rw[List.any_eq_true]at kw;obtain⟨y,hy,Pz⟩:=kw;simp[hn y hy]at Pz
  refine⟨λh=>absurd hk h,λC h1 h2=>?_⟩;obtain⟨⟨x,hx,_⟩,_⟩:=hC C h1 h2;exact absurd hx (hw x)
 ·
  have hw:Z1 l0 e=ZaQ l0 e 3 (Zdt e)++[e]:=by
   unfold Z1;rw[ZPn ZO,ZPn ZO,ZPp hk,ZPp (pC (jn ZO))]
  obtain⟨x,hx,j8⟩:=jn ZO;have Dg:x∈Z1 l0 e:=by rw[hw];exact List.mem_append_left _ (Zdi.2 ⟨hx,.inl ZO⟩)
  refine⟨λ_=>hE ⟨x,Dg,j8⟩,λC h1 h2=>⟨ZO,λ_=>?_,ZO,ZO⟩⟩;obtain⟨_,rfl⟩:=hC C h1 h2;have gu:=(he.edit.long ZO).1;have fG:Zm (ZaY (Z1 l0 e) (ZaU (Z1 l0 e))) e.key e.label=[e]:=by
   unfold Zm Zct ZaY;obtain⟨P,hP⟩:∃P,P=ZdO (Z1 l0 e) (ZaU (Z1 l0 e)):=⟨_,rfl⟩;have h3:P e=true:=by
    rw[hP];unfold ZdO;rw[ZPp hk];exact oU x Dg j8 hx
   rw[←hP,hw,List.filter_filter,List.filter_filter,List.filter_append];have h0:(ZaQ l0 e 3 (Zdt e)).filter (λa=>decide (a.kind=3)&&(decide (a.key=e.key)&&decide (a.label=e.label))&&P a)=[]:=by
    rw[List.filter_eq_nil_iff];intro a ha;obtain⟨h3,h4⟩:=Zdi.1 ha;have:=cW a h3;simp only[this,Bool.true_eq_false,or_false,Zdt,decide_eq_false_iff_not]at h4;intro hh;simp only[Bool.and_eq_true,decide_eq_true_eq]at hh;rcases h4 with h4|h4
    ·exact h4 hh.1.1
    ·exact h4 hh.1.2.2
   rw[h0];simp[h3,hk]
  have ox:Zco (ZaY (Z1 l0 e) (ZaU (Z1 l0 e))) e.key e.label=e.value:=by
   unfold Zco;rw[fG];have:ZhW (Zdu [e])=0:=by
    unfold ZhW Zdu;simp[Zgb,mx]
   rw[this];rfl
  rcases(by omega:e.label=0∨e.label=1) with hl|hl
  ·rw[ZPp hl];rw[hl]at ox;exact ox
  ·rw[ZPn ZO];rw[hl]at ox;exact ox
 ·
  have hw:Z1 l0 e=ZaQ l0 e 4 (Zb6 e)++[e]:=by
   unfold Z1;rw[ZPn ZO,ZPn ZO,ZPn ZO,ZPn ZO,ZPp (pC (jn ZO))]
  obtain⟨x,hx,j8⟩:=jn ZO;have Dg:x∈Z1 l0 e:=by rw[hw];exact List.mem_append_left _ (Zdi.2 ⟨hx,.inl ZO⟩)
  refine⟨λ_=>hE ⟨x,Dg,j8⟩,λC h1 h2=>⟨ZO,ZO,λ_=>?_,ZO⟩⟩;obtain⟨_,rfl⟩:=hC C h1 h2;have gu:=(he.edit.long ZO).1;have j5:e.value∈ZeV (ZaY (Z1 l0 e) (ZaU (Z1 l0 e))) e.key e.label :=
   Zli.2 ⟨e,eG.counts.2 ⟨by rw[hw];simp,.inr hk,oU x Dg j8 hx⟩,rfl,rfl,ZO,rfl⟩
  rcases(by omega:e.label=0∨e.label=1) with hl|hl
  ·rw[ZPp hl];rw[hl]at j5;exact j5
  ·rw[ZPn ZO];rw[hl]at j5;exact j5
 ·
  have hw:Z1 l0 e=ZaQ l0 e 4 (Zb6 e):=by
   unfold Z1;rw[ZPn ZO,ZPn ZO,ZPn ZO,ZPp hk]
  obtain⟨x,hx,j8⟩:=jn ZO;have Dg:x∈Z1 l0 e:=by rw[hw];exact Zdi.2 ⟨hx,.inl ZO⟩
  refine⟨λ_=>hE ⟨x,Dg,j8⟩,λC h1 h2=>⟨ZO,ZO,ZO,λ_=>?_⟩⟩;obtain⟨_,rfl⟩:=hC C h1 h2;have gu:=(he.edit.long ZO).1;have j5:e.value ∉ ZeV (ZaY (Z1 l0 e) (ZaU (Z1 l0 e))) e.key e.label:=λj5=>by
   obtain⟨y,hy,y1,y2,y3,y4⟩:=Zli.1 j5;obtain⟨z1,z2,z3⟩:=eG.counts.1 hy;rw[hw]at z1;obtain⟨z4,z5⟩:=Zdi.1 z1;have:=cW y z4;simp only[this,Bool.true_eq_false,or_false,Zb6,y2,y4,decide_true,Bool.and_true]at z5;omega
  rcases(by omega:e.label=0∨e.label=1) with hl|hl
  ·rw[ZPp hl];rw[hl]at j5;exact j5
  ·rw[ZPn ZO];rw[hl]at j5;exact j5
end
structure SiteN where
 up:Bool
 clk:Clk
 sent:Nat
 held:List Ev
 log:List Ev
def siteN(s:NodeSt):SiteN:=if s.up=true then⟨true,s.clk,s.sent,s.held,s.log⟩ else⟨false,ZCz,0,[],[]⟩
section
variable {c:Cfg}{B B':Bd}{m b r k:Nat}{x y:WS}{s:St}{a:PN}
theorem ZdJ{s:NodeSt}(h:s.up=true):siteN s=⟨true,s.clk,s.sent,s.held,s.log⟩:=by unfold siteN;rw[ZPp h]
theorem Zkf{s:NodeSt}(h:s.up=false):siteN s=⟨false,ZCz,0,[],[]⟩:=by unfold siteN;rw[ZPn (by simp[h])]
theorem NodeInv.bL(h:NodeInv c r B b a)(hr:r<5)(hb:tot B.made<=100)(hs:EditOk s.ek s.key s.label s.value):
  (∃e:Ev,e.Ok/\a.s.up=true/\(Zbb c r a s.ek s.key s.label s.value).2=0/\(Zbb c r a s.ek s.key s.label s.value).1.s.up=true/\(Zbb c r a s.ek s.key s.label s.value).1.s.log=a.s.log++[e]/\e.r=r /\
   Ztg s.ek s.key s.label s.value (listN (Zbb c r a s.ek s.key s.label s.value).1.s.book)) ∨
  ((Zbb c r a s.ek s.key s.label s.value).2=18/\(Zbb c r a s.ek s.key s.label s.value).1.s.up=false) ∨
  ((Zbb c r a s.ek s.key s.label s.value).2≠0/\(Zbb c r a s.ek s.key s.label s.value).1.s=a.s):=by
 unfold Zbb ZdD;simp only;by_cases hu:a.s.up=true
 ·rw[ZPp hu];by_cases hk:Zb2 c.l c.p (listN a.s.book) s.ek s.key s.label s.value=0
  ·rw[ZPp hk];by_cases hw:a.s.wait.length<c.q
   ·rw[ZPp hw];have em:=h.made hu hr hb hs;have hl:=h.log hu;obtain⟨e,mE⟩:∃e,e=madeEv r a.s s.ek s.key s.label s.value:=⟨_,rfl⟩;rw[←mE]at em ⊢;have eo:=ZbD a.s (Z7 r e);by_cases h0:(Zy a.s (Z7 r e)).2=0
    ·rw[ZPp h0];have dJ:(Zy a.s (Z7 r e)).1.up=true:=by
      unfold Zy at h0 ⊢;split
      ·exact hu
      ·rename_i h1;rw[ZPn h1]at h0;cases h0
     refine .inl ⟨e,em,hu,rfl,dJ,?_,by rw[mE];rfl,?_⟩
     ·unfold Ze0 Zbv;simp only[eo.1]
     ·have hK:=KInv.of hl.ok;rw[←(h.up hu).book]at hK;have cW:∀y∈a.s.log,y.below e=true:=λy hy=>by
       have h1:=(hl.row y.r).mem (ZeB.2 ⟨hy,rfl⟩);have h2:e.ctx=a.s.clk:=by rw[mE];rfl
       unfold Ev.below Clk.has;rw[h2,h.clk hu];unfold cnt;exact decide_eq_true ⟨h1.1,ZO⟩
      have B7:Zb2 c.l c.p (listN a.s.book) e.kind e.key e.label e.value=0:=by rw[mE];exact hk
      have:=Zqx hK em cW B7;have e1:(Ze0 (Zy a.s (Z7 r e)).1 e).book=applyN a.s.book e:=by
       unfold Ze0 Zbv;simp only[eo.2.2.1,List.foldl_cons,List.foldl_nil]
      rw[e1];rw[mE]at this ⊢;exact this
    ·rw[ZPn h0];refine .inr (.inl ⟨(ZeY _ _).resolve_left h0,?_⟩);unfold Zy at h0 ⊢;split
     ·rename_i h1;rw[ZPp h1]at h0;exact absurd rfl h0
     ·rfl
   ·rw[ZPn hw];exact .inr (.inr ⟨ZM,rfl⟩)
  ·rw[ZPn hk];exact .inr (.inr ⟨hk,rfl⟩)
 ·rw[ZPn hu];exact .inr (.inr ⟨ZM,rfl⟩)
end
def Zth(S:SiteN)(w:World)(e:Ending)(w':World):Prop:=∃vh vl,e=R_ (ZfF S.up S.clk S.sent vh vl)/\MarkRow w.heap.size w' vh S.held/\MarkRow w.heap.size w' vl S.log/\L_ w w'
theorem SitePost.all{w':World}{e:Ending}(h:SitePost s w e w'):Zth (siteN s) w e w':=by
 unfold SitePost at h;split at h
 ·rename_i hu;rw[ZdJ hu];exact h
 ·rename_i hu;rw[Zkf (by simpa using hu)];exact⟨_,_,h.1,⟨rfl,.inl ⟨rfl,rfl⟩⟩,⟨rfl,.inl ⟨rfl,rfl⟩⟩,h.2⟩
section
variable {own:Own}{t p m b r:Nat}{w:World}{c:Cfg}{B:Bd}{x:WS}
theorem Zp5(h:WorldAt own t w p c x)(hf:Fresh own w)(hi:WInv c B m b x)(hc:c.Ok)(hm:m<=100)(hr:r<c.n):Calls prog 15 #[ptrV p,I_ J_ r] w (ZdE (x.nodes r).s w):=by
 have h5:=hc.n5;have eX:tot B.made<=100:=ZT hi.sum hm;obtain⟨HW,HF,HI⟩:=ZH3 h hf hi;clear h hf hi;go_enter func15,ntmps15;go_wp2_with fail;refine(ZaO HW.out hr).mono ?_;rintro _ w1 ⟨rfl,cz⟩;have cN:Upd (λ_=>False) own own w w1:=ZUb cz HF.out;have dD:=HW.out.upd cN (λ_ _ h=>h) (λh=>h) h5;obtain⟨g,k,hp,lp,q,cH,ez,cB,dB,fw⟩:=dD.node hr h5;have gi:(0:Int)<=(r:Int):=ZO;have lw:(r:Int)<(c.n:Int):=ZO;obtain⟨c0,c1,c2⟩:=cH.three;have cW:=cH.lt;obtain⟨HN,dj⟩:=ZH2 dB cz;clear cN dD cH dB fw cz;go_wp2_with fail;refine(Zps HN.out (HI.out.nodes _ hr) eX).mono ?_;intro e w2 hP;unfold ZdE at hP;split at hP
 ·rename_i hu;obtain⟨v,rfl,jC⟩:=hP;obtain⟨HP,zg⟩:=ZH2 jC hu;clear jC hu;go_wp2_with fail;go_ret2
  unfold ZdE;rw[ZPp zg.out];obtain⟨v',ps,e1,e2,e3,e4⟩:=HP.out;exact⟨v,rfl,v',ps,e1,e2,e3.mono dj.out.size,dj.out.trans (e4.mono dj.out.size)⟩
 ·rename_i hu;obtain⟨rfl,cD⟩:=hP;obtain⟨HP,zg⟩:=ZH2 cD hu;clear cD hu;go_wp2_with fail;go_ret2
  unfold ZdE;rw[ZPn zg.out];exact⟨rfl,dj.out.trans (HP.out.mono dj.out.size)⟩
theorem Zhp(h:WorldAt own t w p c x)(hf:Fresh own w)(hi:WInv c B m b x)(hc:c.Ok)(hm:m<=100)(hr:r<c.n):Calls prog 18 #[ptrV p,I_ J_ r] w (Zth (siteN (x.nodes r).s) w):=by
 have h5:=hc.n5;have eX:tot B.made<=100:=ZT hi.sum hm;have HZ:=ZH (ZBn w 47 (Zp false ZCz 0 (S_ none 0 0) (S_ none 0 0)));have cP:=(ZW w.heap.size w).alloc (ZL _) (C_ (Zp false ZCz 0 (S_ none 0 0) (S_ none 0 0)) 47);obtain⟨HW,HF,HI⟩:=ZH3 (h.upd (ZUb cP hf) (T:=λ_=>False) (λ_ _ h=>h) (λh=>h) h5) (ZUb (T:=λ_=>False) (own:=own) cP hf) hi;obtain⟨W0,iq⟩:∃W0,W0=w.alloc (C_ (Zp false ZCz 0 (S_ none 0 0) (S_ none 0 0)) 47):=⟨_,rfl⟩;rw[←iq]at HW HF HZ;have nk:=ZH iq;clear h hf hi cP iq;go_enter func18,ntmps18
 go_wp2_with (first
  |(refine ZS rfl 47 rfl (Zp false ZCz 0 (S_ none 0 0) (S_ none 0 0)) ZK ?_
    rw[←nk.out]))
 refine(ZaO HW.out hr).mono ?_;rintro _ w1 ⟨rfl,cz⟩;have cN:Upd (λ_=>False) own own W0 w1:=ZUb cz HF.out.fresh;have dD:=HW.out.upd cN (λ_ _ h=>h) (λh=>h) h5;obtain⟨g,k,hp,lp,q,cH,ez,cB,dB,fw⟩:=dD.node hr h5;have gi:(0:Int)<=(r:Int):=ZO;have lw:(r:Int)<(c.n:Int):=ZO;obtain⟨c0,c1,c2⟩:=cH.three;have cW:=cH.lt;obtain⟨HN,dj,dA,lK⟩:=ZH4 dB cz (HF.out.trans cN) (HZ.out.ob cz);clear cN dD cH dB fw cz;go_wp2_with fail;refine(Zg8 HN.out dA.out.fresh (HI.out.nodes _ hr) eX).mono ?_;intro e w2 hP;obtain⟨vh,vl,rfl,kR,jP,cD⟩:=hP.all;have si:=ZH (lK.out.ob cD)
 have cO:Hid (K_ w w2):=ZH ⟨by
  have h1:Upd (λ_=>False) own own w w2:=dA.out.kept cD
  exact⟨h1.os,h1.tape,h1.output,h1.size,λk hk=>h1.same k hk (λh=>h)⟩,(dA.out.kept cD).size⟩
 obtain⟨AZ,qw⟩:=ZH2 kR jP;obtain⟨ah,mh,kh,rfl⟩:=Zbx kR;obtain⟨al,ml,kl,rfl⟩:=Zbx jP;obtain⟨S,hS⟩:∃S,S=siteN (x.nodes r).s:=⟨_,rfl⟩;rw[←hS]at AZ qw ⊢;have HS:=ZH hS;have m9:=si.out.lt;clear hP kR jP cD hS
 go_wp2_with (first
  |(refine wpList_store_row rfl 47 (.tmp 4) (.tmp 17) rfl w.heap.size (Zp S.up S.clk S.sent (S_ ah mh kh) (S_ al ml kl)) rfl rfl 47 (Zp false ZCz 0 (S_ none 0 0) (S_ none 0 0)) si.out (ZdK _ _ _ _ _) rfl (Zjq _ _ _ _ _ _ _ _ _) ?_))
 refine bodyPost_ret (Z6 rfl rfl (run_loadVar_row _ _ _ _ _ _ _ (si.out.row _) underlying47 rfl (ZdK _ _ _ _ _))) rfl ?_;rw[←HS.out]
 have jN:∀(v:Value) (es:List Ev),MarkRow w1.heap.size w2 v es->MarkRow w.heap.size (w2.setRow w.heap.size (Zp S.up S.clk S.sent (S_ ah mh kh) (S_ al ml kl))) v es:=λv es hr=>Zj (Zi hr (λg hg _=>setRow_other _ _ _ _ (λe=>by
  have h1:=(Zb hr hg).1;have h2:=lK.out.lt
  omega))) dA.out.size
 exact⟨_,_,rfl,jN _ _ AZ.out,jN _ _ qw.out,(cO.out.row (ZL _) _).below⟩
theorem Znm(h:WorldAt own t w p c x):Calls prog 102 #[ptrV p] w (Zx (I_ J_ x.link.length) w):=by
 obtain⟨vn,hp,lp,cH,kQ,fw⟩:=h.link;obtain⟨c0,c1,c2⟩:=cH.three;have cW:=cH.lt;have fm:(flsOf x.link).length=x.link.length:=by unfold flsOf;rw[List.length_map]
 have HL:=ZH (Zsk kQ);rw[fm]at HL;clear cH kQ fw h fm;go_enter func102,ntmps102;go_wp2_with fail;refine HL.out.mono ?_;rintro _ w1 ⟨rfl,cz⟩;have HB:=ZH cz;clear cz;go_wp2
 go_ret;exact⟨rfl,HB.out⟩
theorem WInv.aT(h:WInv c B m b x)(hc:c.Ok):∃u k l ac,ZbL x.hub.s.up x.hub.s.sh x.hub.s.told=Zbw u k l ac/\ac.length=5:=by
 obtain⟨H,hH,hi,_⟩:=h.hub;unfold ZbL
 cases hu:x.hub.s.up with
 |false=>exact⟨_,_,_,_,rfl,ZM⟩
 |true =>
  obtain⟨_,_,g3⟩:=hi.up hu;have hl:=hi.inv.len2;rw[g3]at hl;have h5:=hc.n5;exact⟨_,_,_,_,rfl,Zdm (by simp only at hl;omega)⟩
theorem Zij(h:WorldAt own t w p c x)(hf:Fresh own w)(hi:WInv c B m b x)(hc:c.Ok)(hm:m<=100):Calls prog 23 #[ptrV p] w (Zx (ZbL x.hub.s.up x.hub.s.sh x.hub.s.told) w):=by
 have h5:=hc.n5;have eX:tot B.made<=100:=ZT hi.sum hm;have hz:=ZBn w 56 (Zt false ZCz ZCz (List.replicate 5 ZCz));have cP:=(ZW w.heap.size w).alloc (ZL _) (C_ (Zt false ZCz ZCz (List.replicate 5 ZCz)) 56);have dt:Upd (λ_=>False) own own w _:=ZUb cP hf;obtain⟨vn,hp,lp,cH,eA,fw⟩:=(h.upd dt (λ_ _ h=>h) (λh=>h) h5).hub;obtain⟨H,hH,qg,_⟩:=hi.hub;have hS:=Zk6 eA dt.fresh qg hc eX;obtain⟨u,k,l,ac,pw,qh⟩:=hi.aT hc;rw[pw]at hS ⊢;obtain⟨W0,iq⟩:∃W0,W0=w.alloc (C_ (Zt false ZCz ZCz (List.replicate 5 ZCz)) 56):=⟨_,rfl⟩;rw[←iq]at hS hz cP cH;obtain⟨nk,HS,HZ⟩:=ZH3 iq hS hz;have ed:Hid (K_ w W0):=ZH ⟨cP,cP.size⟩;have H5:=ZH qh;obtain⟨c0,c1,c2⟩:=cH.three;have cW:=cH.lt;clear h hf hi hz cP dt cH eA fw qg hS pw qh iq;go_enter func23,ntmps23
 go_wp2_with (first
  |(refine ZS rfl 56 rfl (Zt false ZCz ZCz (List.replicate 5 ZCz)) ZK ?_
    rw[←nk.out]))
 refine HS.out.mono ?_;rintro _ w1 ⟨rfl,cz⟩;obtain⟨lK,da⟩:=ZH2 (HZ.out.ob cz) (ed.out.step cz);have m9:=lK.out.lt;clear cz
 go_wp2_with (first
  |(refine wpList_store_row rfl 56 (.tmp 2) (.tmp 13) rfl w.heap.size (Zt u k l ac) rfl rfl 56 (Zt false ZCz ZCz (List.replicate 5 ZCz)) lK.out (ZbU _ _ _ H5.out) (by simp only[Zcs,H5.out,List.length_replicate]) (Zdy _ _ _ _) ?_))
 refine bodyPost_ret (Z6 rfl rfl (run_loadVar_row _ _ _ _ _ _ _ (lK.out.row _) underlying56 rfl (ZbU _ _ _ H5.out))) rfl ?_;exact⟨rfl,(da.out.row (ZL _) _).below⟩
end
abbrev nodeC(q:Clk×Nat×Nat×Nat):List Value:=[I_ J_ q.1.c0,I_ J_ q.1.c1,I_ J_ q.1.c2,I_ J_ q.1.c3,I_ J_ q.1.c4,I_ J_ q.2.1,I_ J_ q.2.2.1,I_ J_ q.2.2.2]
def Zo(S:StandN):Array Value:=Zt S.up S.base S.len S.acks++(S.nodes.flatMap nodeC).toArray
theorem Zer{α : Type}{l:List α}(h:l.length=5):∃a b c d e,l=[a,b,c,d,e]:=by
 match l,h with
 | [a,b,c,d,e],_=>exact⟨a,b,c,d,e,rfl⟩
theorem Zip{fs:List Field}(h:(fs.map λf=>(f.name == "_",f.type,f.offset))=[]):(Op.eqFields d xs ys fs).run prog w=.ok (decide True) w:=by
 have:fs=[]:=by simpa using h
 subst this;simp[Op.eqFields]
theorem Zcr{fs:List Field}{o:Nat}{L:List (Bool×TypeId×Nat)}{a b:Value}{p q:Prop}[Decidable p][Decidable q]
  (h:(fs.map λf=>(f.name == "_",f.type,f.offset))=(false,t,o)::L) (p1:(Go.part t xs o).run prog w=.ok a w) (p2:(Go.part t ys o).run prog w=.ok b w) (p3:(Op.equalIn d t a b).run prog w=.ok (decide p) w)
  (hr:∀QP:List Field,(QP.map λf=>(f.name == "_",f.type,f.offset))=L->(Op.eqFields d xs ys QP).run prog w=.ok (decide q) w) :
  (Op.eqFields d xs ys fs).run prog w=.ok (decide (p/\q)) w:=by
 cases fs with
 |nil=>simp at h
 |cons f fs =>
  simp only[List.map_cons,List.cons.injEq,Prod.mk.injEq]at h;obtain⟨⟨h1,h2,h3⟩,h4⟩:=h;have hn:f.name ≠ "_" := by simpa using h1
  subst h2;subst h3;simp only[Op.eqFields,hn,ne_eq,not_false_eq_true,if_true,Sem.run_bind,p1,p2,p3,Result.andThen_ok];by_cases hp:p <;> simp[hp,hr fs h4]
theorem ZbK{e:TypeId}{n:Nat}{off:Nat}(w:World)(ha:(∃m e',prog.underlying e=some (.array m e'))∨(∃fs,prog.underlying e=some (.struct fs)))(hk:prog.cellsOf e=k)(hn:n=off+k)(hx:xs.extract off n=ys):(Go.part e xs off).run prog w=.ok (.agg ys) w:=by
 subst hn;rcases ha with ⟨m,e',hu⟩|⟨fs,hu⟩
 rotate_left
 rotate_left
 all_goals
  obtain⟨i,hi⟩:=info_of_underlying hu;simp[Go.part,isAgg,run_underlying hu,run_sizeOf w hi,hk,hx]
theorem Zoo:(Op.eqItems d t k xs ys []).run prog w=.ok (decide True) w:=by simp[Op.eqItems]
theorem Zc0{i:Nat}{is:List Nat}{a b:Value}{p q:Prop}[Decidable p][Decidable q]
  (p1:(Go.part t xs (i*k)).run prog w=.ok a w) (p2:(Go.part t ys (i*k)).run prog w=.ok b w) (p3:(Op.equalIn d t a b).run prog w=.ok (decide p) w)
  (hr:(Op.eqItems d t k xs ys is).run prog w=.ok (decide q) w) :
  (Op.eqItems d t k xs ys (i::is)).run prog w=.ok (decide (p/\q)) w:=by
 simp only[Op.eqItems,Sem.run_bind,p1,p2,p3,Result.andThen_ok];by_cases hp:p <;> simp[hp,hr]
theorem Zf0:∃m e',prog.underlying 44=some (.array m e'):=⟨_,_,underlying44⟩
theorem Zti:∃m e',prog.underlying 54=some (.array m e'):=⟨_,_,underlying54⟩
theorem Ztj:∃m e',prog.underlying 99=some (.array m e'):=⟨_,_,underlying99⟩
theorem Zl9:prog.underlying 56=some (.struct (prog.fieldsOf 56)):=ZK
theorem Zma:prog.underlying 98=some (.struct (prog.fieldsOf 98)):=ZK
theorem Zki:prog.underlying 101=some (.struct (prog.fieldsOf 101)):=ZK
theorem Zuv:prog.stoodInHeld 56=false:=ZK
theorem Zuw:prog.stoodInHeld 98=false:=ZK
theorem ZtS:prog.stoodInHeld 101=false:=ZK
theorem ZdM:prog.cellsOf 44=5:=ZK
theorem Zoh:prog.cellsOf 54=25:=ZK
theorem Zoi:prog.cellsOf 56=36:=ZK
theorem Zkq:prog.cellsOf 98=8:=ZK
theorem Zoj:prog.cellsOf 99=40:=ZK
theorem Zus:((prog.fieldsOf 56).toList.map λf=>(f.name == "_",f.type,f.offset))=[(false,4,0),(false,44,1),(false,44,6),(false,54,11)]:=ZK
theorem Zut:((prog.fieldsOf 98).toList.map λf=>(f.name == "_",f.type,f.offset))=[(false,44,0),(false,3,5),(false,3,6),(false,3,7)]:=ZK
theorem ZtO:((prog.fieldsOf 101).toList.map λf=>(f.name == "_",f.type,f.offset))=[(false,56,0),(false,99,36)]:=ZK
theorem ZuJ:prog.plainKey 4=true:=ZK
theorem Zqh(a b:Nat):((a:Int)==(b:Int))=decide (a=b):=by
 rw[Bool.eq_iff_iff];simp only[beq_iff_eq,decide_eq_true_eq];omega
theorem ZhO(d a b:Nat)(w:World):(Op.equalIn (d+1) 3 (I_ J_ (a:Int)) (I_ J_ (b:Int))).run prog w=.ok (decide (a=b)) w:=by
 rw[←Zqh];exact run_equalIn_int (P:=prog) w d 3 .i64 .i64 a b underlying3
theorem ZtD(d:Nat)(a b:Bool)(w:World):(Op.equalIn (d+1) 4 (B_ a) (B_ b)).run prog w=.ok (decide (a=b)) w:=by
 rw[run_equalIn_bool w d 4 a b underlying4]
 cases a <;> cases b <;> rfl
theorem Zc5{o:Nat}{v:Value}(w:World)(h:xs[o]? = some v):(Go.part 3 xs o).run prog w=.ok v w:=run_part_plain (P:=prog) (w:=w) Zh4 h
theorem Zlp{o:Nat}{v:Value}(w:World)(h:xs[o]? = some v):(Go.part 4 xs o).run prog w=.ok v w:=run_part_plain (P:=prog) (w:=w) ZuJ h
theorem ZtC(d:Nat)(a0 a1 a2 a3 a4 b0 b1 b2 b3 b4:Clk)(w:World):(Op.equalIn (d+1+1+1) 54 (.agg (clkCells [a0,a1,a2,a3,a4]).toArray) (.agg (clkCells [b0,b1,b2,b3,b4]).toArray)).run prog w=.ok (decide (a0=b0/\a1=b1/\a2=b2/\a3=b3/\a4=b4/\True)) w:=by
 obtain⟨i,hi⟩:=info_of_underlying underlying44;rw[run_equalIn_array w _ _ _ underlying54 hi,ZdM];simp only[List.range,List.range.loop];have pa:∀w i v,(clkCells [a0,a1,a2,a3,a4]).toArray.extract (i*5) (i*5+5)=clkArr v->(Go.part 44 (clkCells [a0,a1,a2,a3,a4]).toArray (i*5)).run prog w=.ok (Zbh v) w:=λw i v h=>ZbK w (.inl Zf0) ZdM rfl h
 have pb:∀w i v,(clkCells [b0,b1,b2,b3,b4]).toArray.extract (i*5) (i*5+5)=clkArr v->(Go.part 44 (clkCells [b0,b1,b2,b3,b4]).toArray (i*5)).run prog w=.ok (Zbh v) w:=λw i v h=>ZbK w (.inl Zf0) ZdM rfl h
 exact Zc0 (pa _ _ a0 rfl) (pb _ _ b0 rfl) (ZaN _ _ _ _) (Zc0 (pa _ _ a1 rfl) (pb _ _ b1 rfl) (ZaN _ _ _ _) (Zc0 (pa _ _ a2 rfl) (pb _ _ b2 rfl) (ZaN _ _ _ _) (Zc0 (pa _ _ a3 rfl) (pb _ _ b3 rfl) (ZaN _ _ _ _) (Zc0 (pa _ _ a4 rfl) (pb _ _ b4 rfl) (ZaN _ _ _ _) Zoo))))
theorem Zqy(d:Nat)(u u':Bool)(b l b' l' a0 a1 a2 a3 a4 b0 b1 b2 b3 b4:Clk)(w:World):(Op.equalIn (d+1+1+1+1) 56 (.agg (Zt u b l [a0,a1,a2,a3,a4])) (.agg (Zt u' b' l' [b0,b1,b2,b3,b4]))).run prog w=.ok (decide (u=u'/\b=b'/\l=l'/\(a0=b0/\a1=b1/\a2=b2/\a3=b3/\a4=b4/\True)/\True)) w:=by
 rw[run_equalIn_struct w _ _ _ _ Zl9 Zuv];refine Zcr Zus (Zlp w (v := B_ u) ZK) (Zlp w (v := B_ u') ZK) (ZtD _ u u' w) λNu h1=>?_
 refine Zcr h1 (ZbK w (.inl Zf0) ZdM rfl (ys:=clkArr b) ZK) (ZbK w (.inl Zf0) ZdM rfl (ys:=clkArr b') ZK) (ZaN b b' (d+1) w) λQQ h2=>?_
 refine Zcr h2 (ZbK w (.inl Zf0) ZdM rfl (ys:=clkArr l) ZK) (ZbK w (.inl Zf0) ZdM rfl (ys:=clkArr l') ZK) (ZaN l l' (d+1) w) λU9 h3=>?_
 refine Zcr h3 (ZbK w (.inl Zti) Zoh rfl (ys:=(clkCells [a0,a1,a2,a3,a4]).toArray) ZK) (ZbK w (.inl Zti) Zoh rfl (ys:=(clkCells [b0,b1,b2,b3,b4]).toArray) ZK) (ZtC d _ _ _ _ _ _ _ _ _ _ w) λQR h4=>Zip h4
theorem Zuo(d:Nat)(p q:Clk×Nat×Nat×Nat)(w:World):(Op.equalIn (d+1+1+1) 98 (.agg (nodeC p).toArray) (.agg (nodeC q).toArray)).run prog w=.ok (decide (p.1=q.1/\p.2.1=q.2.1/\p.2.2.1=q.2.2.1/\p.2.2.2=q.2.2.2/\True)) w:=by
 rw[run_equalIn_struct w _ _ _ _ Zma Zuw];refine Zcr Zut (ZbK w (.inl Zf0) ZdM rfl (ys:=clkArr p.1) ZK) (ZbK w (.inl Zf0) ZdM rfl (ys:=clkArr q.1) ZK) (ZaN p.1 q.1 d w) λNu h1=>?_
 refine Zcr h1 (Zc5 w (v := I_ J_ p.2.1) rfl) (Zc5 w (v := I_ J_ q.2.1) rfl) (ZhO _ _ _ w) λQQ h2=>?_
 refine Zcr h2 (Zc5 w (v := I_ J_ p.2.2.1) rfl) (Zc5 w (v := I_ J_ q.2.2.1) rfl) (ZhO _ _ _ w) λU9 h3=>?_
 refine Zcr h3 (Zc5 w (v := I_ J_ p.2.2.2) rfl) (Zc5 w (v := I_ J_ q.2.2.2) rfl) (ZhO _ _ _ w) λQR h4=>Zip h4
theorem Zgq(d:Nat)(p q:Clk×Nat×Nat×Nat)(w:World):(Op.equalIn (d+1+1+1) 98 (.agg (nodeC p).toArray) (.agg (nodeC q).toArray)).run prog w=.ok (decide (p=q)) w:=by
 rw[Zuo d p q w];congr 1;obtain⟨p1,p2,p3,p4⟩:=p;obtain⟨q1,q2,q3,q4⟩:=q;simp only[Prod.mk.injEq,and_true]
theorem Zr0(d:Nat)(a0 a1 a2 a3 a4 b0 b1 b2 b3 b4:Clk×Nat×Nat×Nat)(w:World):(Op.equalIn (d+1+1+1+1) 99 (.agg ([a0,a1,a2,a3,a4].flatMap nodeC).toArray) (.agg ([b0,b1,b2,b3,b4].flatMap nodeC).toArray)).run prog w=.ok (decide (a0=b0/\a1=b1/\a2=b2/\a3=b3/\a4=b4/\True)) w:=by
 obtain⟨i,hi⟩:=info_of_underlying Zma;rw[run_equalIn_array w _ _ _ underlying99 hi,Zkq];simp only[List.range,List.range.loop];have pa:∀w i v,([a0,a1,a2,a3,a4].flatMap nodeC).toArray.extract (i*8) (i*8+8)=(nodeC v).toArray->(Go.part 98 ([a0,a1,a2,a3,a4].flatMap nodeC).toArray (i*8)).run prog w=.ok (.agg (nodeC v).toArray) w:=λw i v h=>ZbK w (.inr ⟨_,Zma⟩) Zkq rfl h
 have pb:∀w i v,([b0,b1,b2,b3,b4].flatMap nodeC).toArray.extract (i*8) (i*8+8)=(nodeC v).toArray->(Go.part 98 ([b0,b1,b2,b3,b4].flatMap nodeC).toArray (i*8)).run prog w=.ok (.agg (nodeC v).toArray) w:=λw i v h=>ZbK w (.inr ⟨_,Zma⟩) Zkq rfl h
 exact Zc0 (pa _ _ a0 rfl) (pb _ _ b0 rfl) (Zgq _ _ _ _) (Zc0 (pa _ _ a1 rfl) (pb _ _ b1 rfl) (Zgq _ _ _ _) (Zc0 (pa _ _ a2 rfl) (pb _ _ b2 rfl) (Zgq _ _ _ _) (Zc0 (pa _ _ a3 rfl) (pb _ _ b3 rfl) (Zgq _ _ _ _) (Zc0 (pa _ _ a4 rfl) (pb _ _ b4 rfl) (Zgq _ _ _ _) Zoo))))
theorem Zpa(u u':Bool)(b l b' l':Clk){A A':List Clk}(hA:A.length=5)(Vp:A'.length=5)(d:Nat)(w:World):(Op.equalIn (d+1+1+1+1) 56 (.agg (Zt u b l A)) (.agg (Zt u' b' l' A'))).run prog w=.ok (decide (u=u'/\b=b'/\l=l'/\A=A')) w:=by
 obtain⟨a0,a1,a2,a3,a4,rfl⟩:=Zer hA;obtain⟨b0,b1,b2,b3,b4,rfl⟩:=Zer Vp;rw[Zqy];congr 1;simp only[List.cons.injEq,and_true]
theorem ZsZ{S S':StandN}(h1:S.acks.length=5)(h2:S.nodes.length=5)(FG:S'.acks.length=5)(Ny:S'.nodes.length=5)(w:World):(Op.equalIn 10000 101 (.agg (Zo S)) (.agg (Zo S'))).run prog w=.ok (decide (S=S')) w:=by
 obtain⟨u,b,l,A,Q⟩:=S;obtain⟨u',b',l',A',Q'⟩:=S';obtain⟨q0,q1,q2,q3,q4,e2⟩:=Zer h2;obtain⟨r0,r1,r2,r3,r4,QO⟩:=Zer Ny;obtain⟨a0,a1,a2,a3,a4,e1⟩:=Zer h1;obtain⟨b0,b1,b2,b3,b4,QM⟩:=Zer FG;simp only at e1 e2 QM QO;subst e1 e2 QM QO;have h:(Op.equalIn (9994+1+1+1+1+1+1) 101 (.agg (Zo ⟨u,b,l,[a0,a1,a2,a3,a4],[q0,q1,q2,q3,q4]⟩)) (.agg (Zo ⟨u',b',l',[b0,b1,b2,b3,b4],[r0,r1,r2,r3,r4]⟩))).run prog w=.ok (decide ((u=u'/\b=b'/\l=l'/\(a0=b0/\a1=b1/\a2=b2/\a3=b3/\a4=b4/\True)/\True)/\(q0=r0/\q1=r1/\q2=r2/\q3=r3/\q4=r4/\True)/\True)) w:=by
  rw[run_equalIn_struct w _ _ _ _ Zki ZtS];refine Zcr ZtO (ZbK w (.inr ⟨_,Zl9⟩) Zoi rfl (ys:=Zt u b l [a0,a1,a2,a3,a4]) ZK) (ZbK w (.inr ⟨_,Zl9⟩) Zoi rfl (ys:=Zt u' b' l' [b0,b1,b2,b3,b4]) ZK) (Zqy _ _ _ _ _ _ _ _ _ _ _ _ _ _ _ _ _ w) λNu h1=>?_
  refine Zcr h1 (ZbK w (.inl Ztj) Zoj rfl (ys:=([q0,q1,q2,q3,q4].flatMap nodeC).toArray) ZK) (ZbK w (.inl Ztj) Zoj rfl (ys:=([r0,r1,r2,r3,r4].flatMap nodeC).toArray) ZK) (Zr0 _ _ _ _ _ _ _ _ _ _ _ w) λQR h4=>Zip h4
 rw[show(10000:Nat)=9994+1+1+1+1+1+1 from rfl,h];congr 1;simp only[StandN.mk.injEq,List.cons.injEq,and_true,and_assoc]
end Go.Proofs.YtjkfognelhiepaaGreat
