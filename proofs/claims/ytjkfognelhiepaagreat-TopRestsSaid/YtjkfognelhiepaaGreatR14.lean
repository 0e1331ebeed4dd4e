import Derived.Test.YtjkfognelhiepaaGreatR13
import Derived.Deep.MidRow
import Derived.Deep.LoopGhost
namespace Go.Proofs.YtjkfognelhiepaaGreat
open Go.RowKit _root_.Go.Proofs.Tryz
open Value renaming slice→S_,int→I_,bool→B_,string→T_,pointer→P_
open IntKind renaming i64→J_
open Obj renaming cells→C_
open Ending renaming returned→R_
set_option maxRecDepth 100000
set_option maxHeartbeats 8000000
variable{S:StandN}{ac:List Clk}{g n t:Nat}{w:World}
abbrev ZeA:=Clk×Nat×Nat×Nat
def quad0:ZeA:=(ZCz,0,0,0)
def ZaA(f:Nat->ZeA)(k:Nat):List ZeA:=(List.range 5).map λr=>if r<k then f r else quad0
theorem ZpE(f:Nat->ZeA)(k:Nat):(ZaA f k).length=5:=by simp[ZaA]
def Zd5(S:SiteN):ZeA:=(S.clk,S.sent,S.held.length,S.log.length)
theorem Zl5(x:PN):ZfX x=Zd5 (siteN x.s):=by
 unfold ZfX;split
 ·rename_i h;rw[ZdJ h];rfl
 ·rename_i h;rw[Zkf (by simpa using h)];rfl
def ZcS(c:Cfg)(x:WS)(k:Nat):StandN:={ ZaC c x with nodes:=ZaA (λr=>Zd5 (siteN (x.nodes r).s)) k }
theorem ZpW(c:Cfg)(x:WS):ZcS c x c.n=ZaC c x:=by
 have h:ZaA (λr=>Zd5 (siteN (x.nodes r).s)) c.n=(ZaC c x).nodes:=by
  have e:(ZaC c x).nodes=(List.range 5).map λr=>if r<c.n then ZfX (x.nodes r) else(ZCz,0,0,0):=rfl
  rw[e];unfold ZaA quad0;apply List.map_congr_left;intro r _;split
  ·rw[Zl5]
  ·rfl
 unfold ZcS;rw[h]
theorem ZnX(f:Nat->ZeA):ZaA f 0=ZaA (λ_=>quad0) 0:=by
 unfold ZaA;apply List.map_congr_left;intro r _;simp
theorem ZtX(c:Cfg)(x:WS):ZbL x.hub.s.up x.hub.s.sh x.hub.s.told=Zbw (ZaC c x).up (ZaC c x).base (ZaC c x).len (ZaC c x).acks:=by
 unfold ZbL ZaC
 cases x.hub.s.up <;> rfl
def Zb9(S:StandN):Value := .agg (Zo S)
theorem Zhh:(prog.info? 101).map (λi=>i.size)=some 76:=ZK
theorem ZpF(f:Nat->ZeA)(k:Nat):((ZaA f k).flatMap nodeC).length=40:=by
 obtain⟨a,b,d,e,g,h⟩:=Zer (ZpE f k);rw[h];rfl
theorem ZcT(u:Bool)(b l:Clk)(h:ac.length=5)(f:Nat->ZeA)(k:Nat):(Zo ⟨u,b,l,ac,ZaA f k⟩).size=76:=by
 unfold Zo;rw[Array.size_append,Zcs,h];simp only[List.size_toArray,ZpF]
theorem Zq9(f:Nat->ZeA)(k:Nat):∀v∈(ZaA f k).flatMap nodeC,v.oneCell'=true:=by
 intro v hv;rw[List.mem_flatMap]at hv;obtain⟨q,_,hv⟩:=hv;simp[nodeC]at hv;rcases hv with rfl|rfl|rfl|rfl|rfl|rfl|rfl|rfl <;> rfl
theorem ZlA(u:Bool)(b l:Clk)(ac:List Clk)(f:Nat->ZeA)(k:Nat):(Zo ⟨u,b,l,ac,ZaA f k⟩).all (·.oneCell')=true:=by
 rw[Array.all_eq_true_iff_forall_mem];intro v hv;unfold Zo at hv;rw[Array.mem_append]at hv;rcases hv with hv|hv
 ·exact Array.all_eq_true_iff_forall_mem.1 (Zdy u b l ac) v hv
 ·exact Zq9 f k v (by simpa using hv)
def Zbf:StandN:=⟨false,ZCz,ZCz,List.replicate 5 ZCz,ZaA (λ_=>quad0) 0⟩
theorem Znr(u:Bool)(b l:Clk)(h:ac.length=5):prog.built 101 [(0,Zbw u b l ac)]=some (Zo ⟨u,b,l,ac,ZaA (λ_=>quad0) 0⟩):=by
 obtain⟨a0,a1,a2,a3,a4,rfl⟩:=Zer h;kernel_rfl
theorem Zr7(u:Bool)(b l:Clk)(h:ac.length=5):(Zt u b l ac).toList.length=36:=by rw[Array.length_toList,Zcs,h]
theorem Zig(u:Bool)(b l:Clk)(ac:List Clk)(q:List ZeA):(Zo ⟨u,b,l,ac,q⟩).toList=(Zt u b l ac).toList++q.flatMap nodeC:=by
 show(Zt u b l ac++(q.flatMap nodeC).toArray).toList=_
 rw[Array.toList_append]
theorem Zra(f:Nat->ZeA){k:Nat}(hk:k<5):((ZaA f k).flatMap nodeC).take (k*8)++nodeC (f k)++((ZaA f k).flatMap nodeC).drop (k*8+8)=(ZaA f (k+1)).flatMap nodeC:=by
 have eM:k=0∨k=1∨k=2∨k=3∨k=4:=ZO;unfold ZaA;generalize quad0=z;rcases eM with rfl|rfl|rfl|rfl|rfl <;> simp[List.range,List.range.loop]
theorem Zrw{f:Nat->ZeA}{u:Bool}{b l:Clk}(h:ac.length=5){k:Nat}(hk:k<5)(hb:Blk w g 101 (Zo ⟨u,b,l,ac,ZaA f k⟩)):Blk (setAll w g (36+k*8) (nodeC (f k))) g 101 (Zo ⟨u,b,l,ac,ZaA f (k+1)⟩):=by
 have h7:(Zo ⟨u,b,l,ac,ZaA f k⟩).toList.length=76:=by rw[Array.length_toList,ZcT u b l h]
 have h1:=Zbr (nodeC (f k)) (36+k*8) w (Zo ⟨u,b,l,ac,ZaA f k⟩).toList (by simpa using hb) (by rw[h7];show 36+k*8+8<=76;omega);have Vl:=Zr7 u b l h;have e:(Zo ⟨u,b,l,ac,ZaA f k⟩).toList.take (36+k*8)++nodeC (f k)++(Zo ⟨u,b,l,ac,ZaA f k⟩).toList.drop (36+k*8+8)=(Zo ⟨u,b,l,ac,ZaA f (k+1)⟩).toList:=by
  rw[Zig,Zig,←Zra f hk];generalize (Zt u b l ac).toList=H at *;generalize (ZaA f k).flatMap nodeC=F;generalize nodeC (f k)=N;rw[List.take_append,List.drop_append,Vl,ZU ZO,List.drop_of_length_le ZO,show 36+k*8-36=k*8 by omega,show 36+k*8+8-36=k*8+8 by omega];simp
 have hl:(nodeC (f k)).length=8:=rfl;rw[hl,e]at h1;simpa using h1
section
variable {own:Own}{t p m b r:Nat}{w:World}{c:Cfg}{B:Bd}{x:WS}
theorem MarkRow.slice{B:Nat}{w:World}{v:Value}{es:List Ev}(h:MarkRow B w v es):∃a cap,v=S_ a es.length cap:=by
 rcases h.2 with ⟨h1,h2⟩|⟨g2,cap,cur,rfl,_⟩
 ·rw[h1,h2];exact⟨none,0,rfl⟩
 ·exact⟨_,_,rfl⟩
theorem Blk.bo{w:World}{t:TypeId}{X:Array Value}(h:Blk w g t X){i:Nat}(hs:X.size=76)(hi:i<76):∃v,w.cell? ⟨g,i,none⟩=some v :=
 ⟨_,(h.cell i).trans (Array.getElem?_eq_getElem ZO)⟩
theorem Blk.bK{w:World}{t:TypeId}{X:Array Value}(h:Blk w g t X)(hs:X.size=76)(i:Nat)(v:Value):∃Y:Array Value,Y.size=76/\Blk (w.setCell ⟨g,i,none⟩ v) g t Y :=
 ⟨_,by simpa using hs,h.aj i v⟩
theorem Blk.other{w w':World}{t:TypeId}{X:Array Value}(h:Blk w g t X)(e:w'.heap[g]? = w.heap[g]?):Blk w' g t X:=by
 unfold Blk at h ⊢;rw[e];exact h
theorem WInv.aP(h:WInv c B m b x)(hc:c.Ok):(ZaC c x).acks.length=5:=by
 obtain⟨H,hH,hi,_⟩:=h.hub;show(if x.hub.s.up=true then Zbp x.hub.s.told else List.replicate 5 ZCz).length=5
 split
 ·rename_i hu;obtain⟨_,_,g3⟩:=hi.up hu;have hl:=hi.inv.len2;rw[g3]at hl;have h5:=hc.n5;exact Zdm (by simp only at hl;omega)
 ·simp
theorem ZgF(h:WorldAt own t w p c x)(hf:Fresh own w)(hi:WInv c B m b x)(hc:c.Ok)(hm:m<=100):Calls prog 48 #[ptrV p] w (Zx (Zb9 (ZaC c x)) w):=by
 have h5:=hc.n5;have eX:tot B.made<=100:=ZT hi.sum hm;have hz:=ZBn w 101 (Zo Zbf);have cP:=(ZW w.heap.size w).alloc (ZL _) (C_ (Zo Zbf) 101);have dt:Upd (λ_=>False) own own w _:=ZUb cP hf;have rQ:=h.upd dt (λ_ _ h=>h) (λh=>h) h5;obtain⟨vn,hp,lp,cH,eA,fw⟩:=rQ.hub;obtain⟨H,hH,qg,_⟩:=hi.hub;have hS:=Zk6 eA dt.fresh qg hc eX;rw[ZtX c x]at hS;have sv:=hi.aP hc;have eR:=ZpW c x;have dd:ZcS c x 0=⟨(ZaC c x).up,(ZaC c x).base,(ZaC c x).len,(ZaC c x).acks,ZaA (λ_=>quad0) 0⟩:=by
  unfold ZcS;rw[ZnX]
 have hK:∀k,ZcS c x k=⟨(ZaC c x).up,(ZaC c x).base,(ZaC c x).len,(ZaC c x).acks,ZaA (λr=>Zd5 (siteN (x.nodes r).s)) k⟩:=λk=>rfl
 rw[←eR];generalize (ZaC c x).up=u at *;generalize (ZaC c x).base=bs at *;generalize (ZaC c x).len=ln at *;generalize (ZaC c x).acks=ac at *;have JL:=ZH (Znr u bs ln sv);obtain⟨W0,iq⟩:∃W0,W0=w.alloc (C_ (Zo Zbf) 101):=⟨_,rfl⟩;rw[←iq]at hS hz cP cH rQ dt;obtain⟨nk,HS,HZ,HW,p8,HI,H5,HK,Nd⟩:=ZH9 iq hS hz rQ dt hi sv hK dd;have rh:=ZH cH;obtain⟨c0,c1,c2⟩:=cH.three;have cW:=cH.lt;clear h hf hi hz cP dt cH eA fw qg hS iq rQ sv hK dd eR;go_enter func48,ntmps48
 go_wp2_with (first
  |(refine ZS rfl 101 rfl (Zo Zbf) ZK ?_
    rw[←nk.out]))
 refine HS.out.mono ?_;rintro _ w1 ⟨rfl,cz⟩;have cN:Upd (λ_=>False) own own W0 w1:=ZUb cz p8.out.fresh;obtain⟨gk,dA,lK⟩:=ZH3 (HW.out.upd cN (λ_ _ h=>h) (λh=>h) h5) (p8.out.trans cN) (HZ.out.ob cz);clear cN cz
 go_wp2_with (first
  |(refine Zat rfl 101 _ rfl (Zo ⟨u,bs,ln,ac,ZaA (λ_=>quad0) 0⟩) ?hf ?_
    case hf =>
     go_simp
     exact JL.out)
  |(refine ZS rfl 101 rfl (Zo Zbf) ZK ?_)
  |(refine wpList_store_row rfl 101 (.tmp 3) (.tmp 13) rfl w1.heap.size (Zo ⟨u,bs,ln,ac,ZaA (λ_=>quad0) 0⟩) rfl rfl 101 (Zo Zbf) (ZBn w1 101 _) (by rw[ZcT _ _ _ H5.out];exact Zhh) (by rw[ZcT _ _ _ H5.out];exact ZcT _ _ _ rfl _ _) (ZlA _ _ _ _ _ _) ?_
    have Ar:Blk ((w1.alloc (C_ (Zo Zbf) 101)).setRow w1.heap.size (Zo ⟨u,bs,ln,ac,ZaA (λ_=>quad0) 0⟩)) w1.heap.size 101 (Zo ⟨u,bs,ln,ac,ZaA (λ_=>quad0) 0⟩):=(ZBn _ _ _).row _;have dI:Kept w1.heap.size w1 ((w1.alloc (C_ (Zo Zbf) 101)).setRow w1.heap.size (Zo ⟨u,bs,ln,ac,ZaA (λ_=>quad0) 0⟩)):=((ZKr w1).alloc _).row (ZL _) _;have oR:0<w1.heap.size:=by have:=lK.out.lt;omega
    obtain⟨W3,oc⟩:∃W3,W3=(w1.alloc (C_ (Zo Zbf) 101)).setRow w1.heap.size (Zo ⟨u,bs,ln,ac,ZaA (λ_=>quad0) 0⟩):=⟨_,rfl⟩;rw[←oc]at Ar dI ⊢;have cU:=ZH dI;have de:Upd (λ_=>False) own own w1 W3:=ZUb dI.below dA.out.fresh;have ta:=ZH Ar;have ei:=de.az (ZL w1.heap.size) Ar.lt (t+5000);obtain⟨o3,sK⟩:∃o,o=own.at_ w1.heap.size (t+5000):=⟨_,rfl⟩;rw[←sK]at ei;have CH:o3 w1.heap.size=t+5000:=by rw[sK];exact ZPp rfl
    obtain⟨pi,ew,vZ⟩:=ZH3 (gk.out.upd ei (λ_ _ h=>h) (λh=>h) h5) (dA.out.trans ei) (lK.out.ob dI.below);obtain⟨g1,a,kk,yp,lp',ps,g2,g3,g4,g5,g6,g7,g8⟩:=pi.out;obtain⟨d0,d1,d2⟩:=g2.three;have N8:=g2.lt;obtain⟨dN,fk,iR,ic,Mb,s8,Ml⟩:=ZH7 g2 g3 g4 g5 g6 g1 CH
    clear oc Ar dI de ei sK CH g1 g2 g3 g4 g5 g6 g7 g8))
 have yV:Hid (Kept w.heap.size w W3):=ZH ⟨by
  have h1:=ew.out
  exact⟨h1.os,h1.tape,h1.output,h1.size,λk hk=>h1.same k hk (λh=>h)⟩,ew.out.size⟩
 have DE:=ZH (Upd.refl (· = t+5000) o3 W3 ew.out.fresh);have GU:=lK.out.lt;go_loopw [19] (λi wr=>∃(k:Nat),k<=c.n/\i=I_ J_ k/\Hid (Blk wr w1.heap.size 101 (Zo (ZcS c x k)))/\Hid (Blk wr w.heap.size 101 (Zo Zbf))/\Hid (Upd (· = t+5000) o3 o3 W3 wr)/\Hid (Kept w.heap.size w wr)) (λi _=>c.n-(intOf i).toNat)
 case atStart=>exact⟨0,ZO,rfl,by rw[Nd.out];exact ta,vZ,DE,yV⟩
 case round =>
  clear d0 d1 d2 N8;obtain⟨k,i6,rfl,Mc,Nh,DF,LI⟩:=hrel;by_cases gh:k<c.n
  ·have kn:(k:Int)<(c.n:Int):=ZO;have cR:(0:Int)<=(k:Int):=ZO;have eM:(k:Int)<(5:Int):=ZO;have hq:=ZX (l:=ps) (i:=k) (by have:=ic.out;omega);obtain⟨q,vA⟩:∃q,q=ps[k]'(by have:=ic.out;omega):=⟨_,rfl⟩;rw[←vA]at hq;have NV:∀n,Zu t n->¬n=t+5000:=λn hn=>by obtain⟨h1,h2⟩:=hn;omega
   have yY:=ZH ((Mb.out k q hq).upd DF.out λn hn=>NV n (hn.world ZO));have pS:=Zi fk.out (λg hg hl=>DF.out.same g hl (by rw[iR.out g hg];omega));obtain⟨g,rfl,ez,cB⟩:=Zbm pS ZO;have iJ:=cB k (by rw[List.length_map];have:=ic.out;omega);rw[List.getElem?_map,hq]at iJ;have iJ:wr.cell? ⟨g,k,none⟩=some (ptrV q):=iJ;clear pS cB vA hq NV;go_wp2_with fail;refine wp_region_noPanic (Zdj (λw'=>Kept wr.heap.size wr w') [(0,3),(2,3),(3,3),(4,3)] 1 [(5,1),(6,2),(7,3)] 5 [(1,1),(6,2),(7,3)] ZK ZK (λ_ _ _ _ _ h=>h) (Kept.drew ⟨ZW _ _,ZL _⟩) (λcu=>?_));repeat((first|refine ZSa ?_|refine ZSb ?_|refine ZSc ?_);simp only[Act.put,Q_])
   refine ZfP (λcu=>?_) (λcu=>?_);focus
    refine ZSd λK hK=>?_
    go_simp;have dE:Upd (λ_=>False) o3 o3 wr wr.drew:=ZUb (ZW wr.heap.size wr).drew DF.out.fresh;refine(Zg8 (yY.out.upd dE (λ_ _ h=>h)) dE.fresh (HI.out.nodes _ gh) eX).mono ?_;intro e w4 hP;obtain⟨vh,vl,rfl,kR,jP,cS⟩:=hP.all;obtain⟨ah,kh,rfl⟩:=kR.slice;obtain⟨al,kl,rfl⟩:=jP.slice;obtain⟨S,hS⟩:∃S,S=siteN (x.nodes k).s:=⟨_,rfl⟩;rw[←hS];have ji:=ZH hS;refine hK.out (λw'=>Kept wr.heap.size wr w') _ _ (λ_ h=>h) (cu.step cS) (λcA=>?_);clear hK K cu cS dE kR jP hS;repeat((first|refine ZSa ?_|refine ZSb ?_|refine ZSc ?_);simp only[Act.put,Q_])
    refine ZSd λK hK=>?_
    go_simp;refine hK.out (λw'=>Kept wr.heap.size wr w') _ _ (λ_ h=>h) (cA.alloc _) (λfD=>?_);clear hK K fD;refine ZSe λK hK=>?_
    go_simp;have Gp:Blk (w4.alloc (C_ (Zp S.up S.clk S.sent (S_ ah S.held.length kh) (S_ al S.log.length kl)) 47)) w4.heap.size 47 (Zp S.up S.clk S.sent (S_ ah S.held.length kh) (S_ al S.log.length kl)):=ZBn _ _ _;have Kk:Kept wr.heap.size wr (w4.alloc (C_ (Zp S.up S.clk S.sent (S_ ah S.held.length kh) (S_ al S.log.length kl)) 47)):=cA.alloc _;have yi:=cA.le;refine hK.out _ (w4.alloc (C_ (Zp S.up S.clk S.sent (S_ ah S.held.length kh) (S_ al S.log.length kl)) 47)) ?_;clear hK K cA;generalize w4.alloc (C_ (Zp S.up S.clk S.sent (S_ ah S.held.length kh) (S_ al S.log.length kl)) 47)=W5 at *;obtain⟨kb,D0⟩:∃kb,kb=w4.heap.size:=⟨_,rfl⟩;rw[←D0]at Gp yi ⊢
   rotate_left
   focus
    refine ZSd λK hK=>?_
    go_simp;refine hK.out (λw'=>Kept wr.heap.size wr w') _ _ (λ_ h=>h) (cu.alloc _) (λcA=>?_);clear hK K cu;have cP:Blk (wr.drew.alloc (C_ (Zp false ZCz 0 (S_ none 0 0) (S_ none 0 0)) 47)) wr.heap.size 47 (Zp false ZCz 0 (S_ none 0 0) (S_ none 0 0)):=ZBn _ _ _;refine ZSd λK hK=>?_
    go_simp;have dE:Upd (λ_=>False) o3 o3 wr (wr.drew.alloc (C_ (Zp false ZCz 0 (S_ none 0 0) (S_ none 0 0)) 47)):=ZUb cA.below DF.out.fresh;refine(Zg8 (yY.out.upd dE (λ_ _ h=>h)) dE.fresh (HI.out.nodes _ gh) eX).mono ?_;intro e w4 hP;obtain⟨vh,vl,rfl,kR,jP,cS⟩:=hP.all;obtain⟨ah,kh,rfl⟩:=kR.slice;obtain⟨al,kl,rfl⟩:=jP.slice;obtain⟨S,hS⟩:∃S,S=siteN (x.nodes k).s:=⟨_,rfl⟩;rw[←hS];have ji:=ZH hS;refine hK.out (λw'=>Kept wr.heap.size wr w') _ _ (λ_ h=>h) (cA.step cS) (λfD=>?_);have BW:=cP.ob cS;clear hK K cA cS dE kR jP hS cP;repeat((first|refine ZSa ?_|refine ZSb ?_|refine ZSc ?_);simp only[Act.put,Q_])
    have Wn:=λi=>BW.frozen i
    obtain⟨z0,z1,z2,z3,z4,z5,z6,z7,z8⟩:=BW.am;refine ZSe λK hK=>?_
    go_simp;have Gp:Blk (setAll w4 wr.heap.size 0 (Zp S.up S.clk S.sent (S_ ah S.held.length kh) (S_ al S.log.length kl)).toList) wr.heap.size 47 (Zp S.up S.clk S.sent (S_ ah S.held.length kh) (S_ al S.log.length kl)):=Zal BW rfl;have Kk:Kept wr.heap.size wr (setAll w4 wr.heap.size 0 (Zp S.up S.clk S.sent (S_ ah S.held.length kh) (S_ al S.log.length kl)).toList):=Zaf fD (ZL _) 0 _;refine hK.out _ (setAll w4 wr.heap.size 0 (Zp S.up S.clk S.sent (S_ ah S.held.length kh) (S_ al S.log.length kl)).toList) ?_;clear hK K fD BW Wn z0 z1 z2 z3 z4 z5 z6 z7 z8;generalize setAll w4 wr.heap.size 0 (Zp S.up S.clk S.sent (S_ ah S.held.length kh) (S_ al S.log.length kl)).toList=W5 at *;obtain⟨kb,D0⟩:∃kb,kb=wr.heap.size:=⟨_,rfl⟩;have yi:wr.heap.size<=kb:=ZO;rw[←D0]at Gp ⊢
   rotate_left
   all_goals
    clear D0;repeat((first|refine ZSa ?_|refine ZSb ?_|refine ZSc ?_);simp only[Act.put,Q_])
    refine ZSf ?_;obtain⟨JK,EI,Uj,JH⟩:=ZH4 Gp Kk yi (Mc.out.ob Kk.below);clear Gp Kk yi c0 c1 c2 iJ;go_wp2_with fail;refine ZSg (λw'=>Blk w' kb 47 (Zp S.up S.clk S.sent (S_ ah S.held.length kh) (S_ al S.log.length kl))) [(0,3),(1,3),(2,3),(3,3),(4,3),(5,0),(6,3),(7,0),(8,3),(9,0),(10,3),(11,3),(12,0),(13,3),(14,0),(15,3),(16,1),(17,0),(18,3),(19,1),(20,0),(21,3),(22,1),(23,0),(24,3),(25,1)] ((JK.out.ob (ZW _ _).drew)) λcu=>?_
    repeat((first|refine ZSa ?_|refine ZSb ?_|(refine Zf rfl (by rfl) (λw' cL=>by(obtain⟨z0,z1,z2,z3,z4,z5,z6,z7,z8⟩:=cL.am);go_simp;with_reducible rfl) ?_));simp only[Act.put,Q_])
    have yB:=ZcT u bs ln H5.out (λr=>Zd5 (siteN (x.nodes r).s)) k;rw[←HK.out k]at yB;have yg:kb≠w1.heap.size:=by have:=Mc.out.lt;have:=Uj.out;omega
    have kU:W5.drew.there w1.heap.size (36+k*8) 5:=λi hi=>by
     refine⟨?_,JH.out.drew.frozen _⟩;rw[JH.out.drew.cell,Array.getElem?_eq_getElem ZO];rfl
    refine ZSd λK hK=>?_
    refine wp_store_mid 44 (.tmp 44) (.tmp 34) rfl w1.heap.size (36+k*8) (clkArr S.clk) rfl rfl kU ZK ZK ?_;rw[Zfa];have QY:(Zo (ZcS c x k)).toList.length=76:=by rw[Array.length_toList,yB]
    have DP:=Zbr (clkArr S.clk).toList (36+k*8) W5.drew (Zo (ZcS c x k)).toList (by simpa using JH.out.drew) (by rw[QY];show 36+k*8+5<=76;omega);have wg:=(JK.out.ob (ZW _ _).drew).other (w':=setAll W5.drew w1.heap.size (36+k*8) (clkArr S.clk).toList) (Zai yg _ _ _);obtain⟨X6,xP⟩:∃X,X=((Zo (ZcS c x k)).toList.take (36+k*8)++(clkArr S.clk).toList++(Zo (ZcS c x k)).toList.drop (36+k*8+(clkArr S.clk).toList.length)).toArray:=⟨_,rfl⟩;have CW:X6.size=76:=by
     rw[xP];have:(Zo (ZcS c x k)).toList.length=76:=by rw[Array.length_toList,yB]
     have h5:(clkArr S.clk).toList.length=5:=rfl;simp only[List.size_toArray,ZI,ZV,List.length_drop,this,h5];omega
    rw[←xP]at DP;obtain⟨W6,wj⟩:∃W,W=setAll W5.drew w1.heap.size (36+k*8) (clkArr S.clk).toList:=⟨_,rfl⟩;rw[←wj]at DP wg ⊢;have Bo:=ZH wj;refine hK.out (λw'=>Blk w' kb 47 (Zp S.up S.clk S.sent (S_ ah S.held.length kh) (S_ al S.log.length kl))) _ _ (λ_ h=>h) wg (λcu=>?_);clear hK K cu kU wj xP yB QY;repeat((first|refine ZSa ?_|refine ZSb ?_|(refine Zf rfl (by rfl) (λw' cL=>by(obtain⟨z0,z1,z2,z3,z4,z5,z6,z7,z8⟩:=cL.am);go_simp;with_reducible rfl) ?_));simp only[Act.put,Q_])
    have Ci:=DP.frozen (36+k*8+5);obtain⟨v0,y0⟩:=DP.bo (i:=36+k*8+5) CW ZO;refine ZSd λK hK=>?_
    go_simp;obtain⟨X7,CX,F4⟩:=DP.bK CW (36+k*8+5) (I_ J_ S.sent);have mn:=wg.other (w':=W6.setCell ⟨w1.heap.size,36+k*8+5,none⟩ (I_ J_ S.sent)) (Below.heap_setCell _ _ _ _ yg);obtain⟨W7,jk⟩:∃W,W=W6.setCell ⟨w1.heap.size,36+k*8+5,none⟩ (I_ J_ S.sent):=⟨_,rfl⟩;rw[←jk]at F4 mn ⊢;have qE:=ZH jk;refine hK.out (λw'=>Blk w' kb 47 (Zp S.up S.clk S.sent (S_ ah S.held.length kh) (S_ al S.log.length kl))) _ _ (λ_ h=>h) mn (λcu=>?_);clear hK K cu Ci v0 y0 jk DP CW wg;repeat((first|refine ZSa ?_|refine ZSb ?_|(refine Zf rfl (by rfl) (λw' cL=>by(obtain⟨z0,z1,z2,z3,z4,z5,z6,z7,z8⟩:=cL.am);go_simp;with_reducible rfl) ?_));simp only[Act.put,Q_])
    have Ci:=F4.frozen (36+k*8+6);obtain⟨v0,y0⟩:=F4.bo (i:=36+k*8+6) CX ZO;refine ZSd λK hK=>?_
    go_simp;obtain⟨X8,CY,F5⟩:=F4.bK CX (36+k*8+6) (I_ J_ S.held.length);have xF:=mn.other (w':=W7.setCell ⟨w1.heap.size,36+k*8+6,none⟩ (I_ J_ S.held.length)) (Below.heap_setCell _ _ _ _ yg);obtain⟨W8,DR⟩:∃W,W=W7.setCell ⟨w1.heap.size,36+k*8+6,none⟩ (I_ J_ S.held.length):=⟨_,rfl⟩;rw[←DR]at F5 xF ⊢;have UN:=ZH DR;refine hK.out (λw'=>Blk w' kb 47 (Zp S.up S.clk S.sent (S_ ah S.held.length kh) (S_ al S.log.length kl))) _ _ (λ_ h=>h) xF (λcu=>?_);clear hK K cu Ci v0 y0 DR F4 CX mn;repeat((first|refine ZSa ?_|refine ZSb ?_|(refine Zf rfl (by rfl) (λw' cL=>by(obtain⟨z0,z1,z2,z3,z4,z5,z6,z7,z8⟩:=cL.am);go_simp;with_reducible rfl) ?_));simp only[Act.put,Q_])
    have Ci:=F5.frozen (36+k*8+7);obtain⟨v0,y0⟩:=F5.bo (i:=36+k*8+7) CY ZO;refine ZSd λK hK=>?_
    go_simp;obtain⟨X9,yC,J8⟩:=F5.bK CY (36+k*8+7) (I_ J_ S.log.length);have qI:=xF.other (w':=W8.setCell ⟨w1.heap.size,36+k*8+7,none⟩ (I_ J_ S.log.length)) (Below.heap_setCell _ _ _ _ yg);obtain⟨W9,wk⟩:∃W,W=W8.setCell ⟨w1.heap.size,36+k*8+7,none⟩ (I_ J_ S.log.length):=⟨_,rfl⟩;rw[←wk]at J8 qI ⊢;have UO:=ZH wk;refine hK.out (λw'=>Blk w' kb 47 (Zp S.up S.clk S.sent (S_ ah S.held.length kh) (S_ al S.log.length kl))) _ _ (λ_ h=>h) qI (λcu=>?_);clear hK K cu Ci v0 y0 wk F5 CY xF;refine ZSf ?_;have hq:Zd5 S=Zd5 (siteN (x.nodes k).s):=by rw[ji.out]
    have wk:W9=setAll W5.drew w1.heap.size (36+k*8) (nodeC (Zd5 S)):=by
     rw[UO.out,UN.out,qE.out,Bo.out];rfl
    have gW:=JH.out.drew;rw[HK.out k]at gW;have hN:=Zrw H5.out (by omega:k<5) gW;have hU:Upd (· = t+5000) o3 o3 W3 W9:=by
     rw[wk];exact((DF.out.trans (ZUb (EI.out.below) DF.out.fresh)).drew).setAll (λ_=>Ml.out) _ _
    have Q4:Kept w.heap.size w W9:=by
     rw[wk];exact Zaf (LI.out.trans EI.out LI.out.le).drew (by have:=GU;omega) _ _
    have hZ:Blk W9 w.heap.size 101 (Zo Zbf):=by
     rw[wk];exact((Nh.out.ob EI.out.below).drew).other (Zai (by have:=GU;omega) _ _ _)
    rw[hq]at wk;rw[←wk]at hN;obtain⟨A0,i9,T6,DI⟩:=ZH4 hN hU Q4 hZ;clear hq wk gW hN hU Q4 hZ J8 yC qI;go_wp2
    go_roundw
    case rel=>exact⟨k+1,ZO,ZN,by rw[HK.out (k+1)];exact A0,DI,i9,T6⟩
    case measure=>simp[intOf];omega
  ·obtain rfl:k=c.n:=ZO;have pX:=ZcT u bs ln H5.out (λr=>Zd5 (siteN (x.nodes r).s)) c.n;rw[←HK.out c.n]at pX;have eP:=ZlA u bs ln ac (λr=>Zd5 (siteN (x.nodes r).s)) c.n;rw[←HK.out c.n]at eP;have jb:(prog.info? 101).map (λi=>i.size)=some (Zo (ZcS c x c.n)).size:=by rw[pX];exact Zhh
   go_wp2_with (first
    |(refine wpList_load_row rfl 101 (.tmp 3) rfl w1.heap.size rfl 101 (Zo (ZcS c x c.n)) (0,0) _ Mc.out Zki rfl jb ?_)
    |(refine wpList_store_row rfl 101 (.tmp 2) (.tmp 52) rfl w.heap.size (Zo (ZcS c x c.n)) rfl rfl 101 (Zo Zbf) Nh.out jb (by rw[pX];exact ZcT _ _ _ rfl _ _) eP ?_))
   refine bodyPost_ret (Z6 rfl rfl (run_loadVar_row _ _ _ _ _ _ _ (Nh.out.row _) Zki rfl jb)) rfl ?_;exact⟨rfl,(LI.out.row (ZL _) _).below⟩
end
section
open Go.RowKit Go.Shelf
def ZhZ(d:Nat):Deferred:={ target := .collected d,args:=#[] }
section
variable {F:Fence}{n:Nat}{P:Program}
theorem ZnY{g:Operand}{ps:Array Tmp}{assign body:Code}{Q:Exit->Act->World->Prop}{a:Act}(Pb:F.round=none)(h1:1<=n){gf:Nat}{lb:Array Value}(hg:a.eval g=.func (.func gf) #[] lb)(Vt:F.fn gf)(eg:∀args w,(callFunc gf args).run P w=.ok (.enter gf args) w)
  (h:∀(R:Loop) (W1:World),F.fn R.fn->R.state=.ready->R.pending=none->R.tmps=a.tmps->R.params=ps->R.assign=assign->R.body=body->W1=(w.alloc (.deferred (some []))).alloc (.loop R) ->
   CallsIn F (n-1) P gf (#[.func (.yield (w.heap.size+1)) #[] #[]]++lb) W1 (rangePost F n P (w.heap.size+1) Q { a with defers:=ZhZ w.heap.size::a.defers })) :
  (Code.rangeFunc g ps assign body).wpIn F n P Q a w:=by
 refine wpIn_rangeFunc ?_;intro fn rC;rw[Pb];obtain⟨R,hR⟩:∃R:Loop,R={ state := .ready,pending:=none,fn,tmps:=a.tmps,params:=ps,assign,body,defers:=w.heap.size }:=⟨_,rfl⟩;obtain⟨W1,zw⟩:∃W1,W1=(w.alloc (.deferred (some []))).alloc (.loop R):=⟨_,rfl⟩
 refine⟨w.heap.size+1,[ZhZ w.heap.size],W1,{ target := .fn (.func gf) lb,args:=#[.func (.yield (w.heap.size+1)) #[] #[]] },W1,gf,
  #[.func (.yield (w.heap.size+1)) #[] #[]]++lb,W1,?_,?_,?_,?_,λ_=>h1,?_⟩
 ·rw[zw,hR];exact run_enterLoop_outer _ _ _ _ _
 ·simp only[resolve,hg];simp[go_sem]
 ·intro f' RK;simp[Target.leads]at RK;subst RK;exact Vt
 ·simp[invoke,go_sem,eg]
 ·exact h R W1 (by rw[hR];exact rC) (by rw[hR]) (by rw[hR]) (by rw[hR]) (by rw[hR]) (by rw[hR]) (by rw[hR]) zw
theorem Zn9{l m:Nat}{R:Loop}{W:World}{args:Array Value}{um:Ending->World->Prop}(hl:W.heap[l]? = some (.loop R))(hs:args.size=R.params.size)(hF:F.fn R.fn)
  (h:∀K:Act->World->Prop,(∀a₁ w₁,(∃R1:Loop,w₁.heap[l]? = some (.loop R1)/\R1.state=.ready/\R.body.wpIn (F.inRound l) m P (roundPost P l um) a₁ (w₁.putObj l (.loop { R1 with state := .busy })))->K a₁ w₁)->R.assign.wpIn (F.inRound l) m P (Exit.then K (λ_ _ _=>False))
   { tmps:=(R.params.zip args).foldl (λtmps (t,a)=>tmps.setIfInBounds t a) R.tmps,defers:=[] } W):YieldAt F m P l args W um:=by
 refine⟨R.fn,_,R.assign,R.body,run_yield hl hs,roundIn_of_wpIn hF ?_⟩;refine wpIn_mono (h _ λ_ _ h=>h) ?_;intro e a w hq
 cases e with
 |normal =>
  obtain⟨R1,h1,h2,h3⟩:=hq;exact⟨_,run_beginRound h1 h2,h3⟩
 |ret=>exact hq
 |exit id=>exact hq
 |goto t=>exact hq
 |panic ch=>exact hq
 |outgrown=>exact hq
end
theorem Zh9{P:Program}{l:Nat}{R:Loop}(hs:R.state=.ready)(hp:R.pending=none)(hl:w.heap[l]? = some (.loop { R with state := .busy })):(Instr.endRound l none).run P w=.ok (B_ true) (w.putObj l (.loop R)):=by
 rw[run_endRound none hl]
 cases R
 simp only at hs hp;subst hs hp;rfl
theorem Zes(ht:0<t){own:Own}(h:own g=0):¬RoundT t (own g):=by
 rw[h];rintro(⟨h1,_⟩|h1) <;> omega
theorem Bytes.putObj{w:World}{l:Nat}{R:Loop}(hl:w.heap[l]? = some (.loop R)){a:Option Addr}{n cap:Nat}{bs:List Nat}(h:Bytes w a n cap bs)(o:Obj):Bytes (w.putObj l o) a n cap bs:=by
 obtain⟨h1,h2,h3⟩:=h;refine⟨h1,h2,?_⟩;rcases h3 with h3|⟨b,off,rfl,h4,h5,h6⟩
 ·exact .inl h3
 ·refine .inr ⟨b,off,rfl,by rw[World.putObj_size];exact h4,h5,λi hi=>?_⟩;have hc:=h6 i hi;have dR:b≠l:=λe=>by
   subst e;simp[World.cell?,hl]at hc
  rw[←hc];simp only[World.cell?,World.putObj_heap_other dR]
section
variable {own own':Own}{t p m b l:Nat}{w w':World}{c:Cfg}{x y:WS}{Z:Where}{R:Loop}{T:Nat->Prop}
theorem RoundAt.to(h:RoundAt own t w p c m b l R Z x)(hu:Upd T own own' w w')(hT:¬T (t+6001))(hz:WorldIn own' t w' p c y Z)(hi:∃B,WInv c B m b y):RoundAt own' t w' p c m b l R Z y:=by
 have hl:l<w.heap.size:=(Array.getElem?_eq_some_iff.1 h.loop).1;exact⟨hz,hu.fresh,hi,(hu.same l hl (by rw[h.own];exact hT)).trans h.loop,(hu.old l hl).trans h.own⟩
def ZgI(t n:Nat):Prop:=t<=n/\n<t+10000
theorem RoundT.run{t:Nat}(h:RoundT t n):ZgI t n:=by
 rcases h with ⟨h1,h2⟩|h1
 ·exact⟨h1,ZO⟩
 ·exact⟨ZO,ZO⟩
def ZhD(own:Own)(t:Nat)(w0:World)(bw p:Nat)(c:Cfg)(m b:Nat)(Z:Where)(D:List Nat)(o:Own)(y:WS)(w:World):Prop :=
 WorldIn o t w p c y Z/\(∃B,WInv c B m b y)/\Upd (ZgI t) own o w0 w/\Blk w bw 27 #[ptrV p]/\o bw=0/\(∀d∈D,w.heap[d]? = some (.deferred (some []))/\o d=t+6000/\w0.heap.size<=d)/\D.Nodup
theorem ZiU{F:Fence}{n:Nat}{P:Program}{fn:Func}{tmps:Array Value}{um:Ending->World->Prop}(rC:fn.results=#[]):∀(D:List Nat) (w:World),(∀d∈D,w.heap[d]? = some (.deferred (some [])))->D.Nodup ->
  um (R_ (.tuple #[])) (D.foldl (λw d=>w.putObj d (.deferred none)) w)->LeavesInM F n P fn tmps um (D.map ZhZ) .returning w
 | [],w,_,_,h=>⟨_,results_none rC _ _ _,h⟩
 |d::D,w,hd,hn,h=>by
  obtain⟨h1,h2⟩:=List.nodup_cons.1 hn;refine⟨ZM,.inl ⟨d,w.putObj d (.deferred none),rfl,run_takeDeferred (hd d ZM),?_⟩⟩;refine ZiU rC D _ (λd' oQ=>?_) h2 h;have dR:d'≠d:=λe=>h1 (e▸oQ)
  rw[World.putObj_heap_other dR];exact hd d' (List.mem_cons_of_mem _ oQ)
theorem ZlF{o:Own}{t:Nat}:∀(D:List Nat) (w:World),Fresh o w->(∀d∈D,o d=t+6000)->Upd (· = t+6000) o o w (D.foldl (λw d=>w.putObj d (.deferred none)) w)
 | [],w,hf,_=>Upd.refl _ o w hf
 |d::D,w,hf,hd=>by
  have h1:Upd (· = t+6000) o o w (w.putObj d (.deferred none)):=(Upd.refl _ o w hf).putObj (λ_=>hd d ZM) _;exact h1.trans (ZlF D _ h1.fresh λd' oQ=>hd d' (List.mem_cons_of_mem _ oQ))
theorem Zia{w0:World}{bw:Nat}{D:List Nat}{o:Own}{tmps:Array Value}(ht:0<t)(hc:c.n<=5)(h:ZhD own t w0 bw p c m b Z D o y w):
  LeavesInM Fence.wide n prog f20 tmps (λe w'=>e=R_ (.tuple #[])/\∃own',WorldAt own' t w' p c y/\Upd (ZgI t) own own' w0 w') (D.map ZhZ) .returning w:=by
 obtain⟨h1,h2,h3,h4,h5,h6,h7⟩:=h;have hu:=ZlF (t:=t) D w h3.fresh λd hd=>(h6 d hd).2.1
 refine ZiU rfl D w (λd hd=>(h6 d hd).1) h7 ⟨rfl,o,(h1.upd hu (λn hn=>by obtain⟨_,_⟩:=hn;omega) ZO hc).at_,h3.trans (hu.mono λn hn=>⟨ZO,ZO⟩)⟩
end
theorem ZpI(p:Nat)(w:World):Calls prog 49 #[ptrV p] w λe w'=>e=R_ (.func (.func 91) #[] #[P_ (some ⟨w.heap.size,0,none⟩)])/\Blk w' w.heap.size 27 #[ptrV p]/\L_ w w':=by
 go_enter func49,ntmps49;go_wp2
 go_ret;exact⟨rfl,ZBn _ _ _,(ZW _ _).alloc (ZL _) _⟩
theorem Zn3(S S':StandN)(h1:S.acks.length=5)(h2:S.nodes.length=5)(FG:S'.acks.length=5)(Ny:S'.nodes.length=5)(w:World):(binOp .eql 101 (Zb9 S) (Zb9 S')).run prog w=.ok (B_ (decide (S=S'))) w:=by
 unfold Zb9;rw[run_eql_struct,ZsZ h1 h2 FG Ny];rfl
end
section
open Go.RowKit Go.Shelf
attribute [local go_sem] Oper.semAt_some
def ZeL(x:WS)(k:Nat):WS:=⟨λr=>if r<k then(ZbI r (ZcF (x.nodes r))).1 else x.nodes r,x.hub,x.link⟩
theorem ZoN(x:WS):ZeL x 0=x:=by
 unfold ZeL;simp
theorem ZoM(x:WS)(k:Nat):(⟨Zbn (Zbn (ZeL x k).nodes k (ZcF (x.nodes k))) k (ZbI k (ZcF (x.nodes k))).1,x.hub,x.link⟩:WS)=ZeL x (k+1):=by
 unfold ZeL;congr 1;funext r;by_cases e:r=k
 ·subst e;rw[ZbA];simp
 ·rw[Za7 e,Za7 e];show(if r<k then(ZbI r (ZcF (x.nodes r))).1 else x.nodes r)=_
  by_cases h:r<k
  ·rw[ZPp h,ZPp ZO]
  ·rw[ZPn h,ZPn ZO]
theorem Zn4(S:StandN)(h2:S.nodes.length=5):∃f,S=⟨S.up,S.base,S.len,S.acks,ZaA f 5⟩:=by
 obtain⟨a,b,d,e,g,hq⟩:=Zer h2;refine⟨λr=>[a,b,d,e,g].getD r quad0,?_⟩;obtain⟨u,bs,ln,ac,q⟩:=S;simp only at hq;subst hq;rfl
theorem Zif(h1:S.acks.length=5)(h2:S.nodes.length=5):(Zo S).size=76:=by
 obtain⟨f,hf⟩:=Zn4 S h2;rw[hf];exact ZcT _ _ _ h1 _ _
theorem Zlz(h1:S.acks.length=5)(h2:S.nodes.length=5):(prog.info? 101).map (λi=>i.size)=some (Zo S).size:=by
 rw[Zif h1 h2];exact Zhh
theorem Zrv(S:StandN):(Zo S).all (·.oneCell')=true:=by
 rw[Array.all_eq_true_iff_forall_mem];intro v hv;unfold Zo at hv;rw[Array.mem_append]at hv;rcases hv with hv|hv
 ·exact Array.all_eq_true_iff_forall_mem.1 (Zdy S.up S.base S.len S.acks) v hv
 ·rw[List.mem_toArray,List.mem_flatMap]at hv;obtain⟨q,_,hv⟩:=hv;simp[nodeC]at hv;rcases hv with rfl|rfl|rfl|rfl|rfl|rfl|rfl|rfl <;> rfl
theorem ZjN{op:Oper}{a:Act}{y:Operand}(ho:op.op=.load 101 y)(hx:a.eval y=P_ (some ⟨g,0,none⟩))(h:Blk w g 101 (Zo S))(h1:S.acks.length=5)(h2:S.nodes.length=5):(execOp a.eval op).run prog w=.ok (.value (Zb9 S)) w:=by
 unfold execOp;simp only[ho,hx,Instr.loadAt,Instr.sureAddr,Sem.run_bind,Sem.run_pure,Result.andThen_ok,run_loadVar_row w _ _ _ _ _ _ h Zki rfl (Zlz h1 h2)];rfl
theorem Zr5:prog.eqGuardType prog.depth 101=false:=ZK
theorem ZnI(S1 S:StandN)(y z:Operand)(w:World):(eqGuard .eql 101 y z (Zb9 S1) (Zb9 S)).run prog w=.ok () w:=run_eqGuard_agg _ _ _ _ _ _ _ Zr5
theorem Zr1{S1:StandN}{bq:Bool}{op:Oper}{a:Act}{y z:Operand}(ho:op.op=.binOp .eql 101 y z 101)(hy:a.eval y=Zb9 S1)(hz:a.eval z=Zb9 S)(h:∀w,(binOp .eql 101 (Zb9 S1) (Zb9 S)).run prog w=.ok (B_ bq) w):(execOp a.eval op).run prog w=.ok (.value (B_ bq)) w:=by
 unfold execOp;simp only[ho,hy,hz,Sem.run_bind,h,Result.andThen_ok,Sem.run_pure,ZnI]
section
variable {own:Own}{t p m b:Nat}{w:World}{c:Cfg}{B:Bd}{x:WS}
theorem Zik(ht:0<t)(h:WorldAt own t w p c x)(hf:Fresh own w)(hi:WInv c B m b x)(hc:c.Ok)(hm:m<=100)(hb:b<=700)(N:Nat)(hN:N<=1000000):
  Calls prog 20 #[ptrV p,I_ J_ N] w (λe w'=>e=R_ (.tuple #[])/\∃own',WorldAt own' t w' p c (ZaW c N x)/\Upd (ZgI t) own own' w w'):=by
 have h5:=hc.n5;have eX:tot B.made<=100:=ZT hi.sum hm;obtain⟨Z,hz⟩:=h.cr;have cP:=(ZW w.heap.size w).alloc (ZL _) (C_ #[ptrV p] 27);have HU:Hid (Upd (Zu t) own own w _):=ZH (ZUb cP hf);have dd:=hz.upd (ZUb (T:=λ_=>False) cP hf) (λ_ _ h=>h) (λh=>h) h5;have jS:=ZBn w 27 #[ptrV p];obtain⟨g,yK,ez,ie,mC⟩:=dd.cells hc.n1;have fQ:=dd.blk;rw[yK]at fQ;obtain⟨c0,c1,c2⟩:=fQ.three;have kX:=jS.cell 0;simp only[ZD,ZE]at kX;obtain⟨HI,HZ,HX,HF⟩:=ZH4 hi dd jS hf;have xz:Hid (own w.heap.size=0):=ZH (hf _ (ZL _));have fV:=jS.lt;clear h hf hi hz cP dd jS fQ mC;refine(callsIn_wide (n:=10)).1 ?_;refine callsIn_of_wp_marks func20 rfl trivial ?_ rfl;refine wpIn_wide.2 ?_;simp only[ntmps20,List.size_toArray,List.length_cons,List.length_nil,Nat.reduceAdd,Nat.reduceSub,Array.replicate_succ,Array.replicate_zero,List.push_toArray,List.append_toArray,List.nil_append,List.cons_append];go_wp2_with fail;generalize w.alloc (C_ #[ptrV p] 27)=W at *;have Nd:Hid (WorldIn own t W p c (ZeL x 0) Z):=by rw[ZoN];exact HZ
 have hxl2:w.heap.size<W.heap.size:=fV;go_loopw [21] (λi wr=>∃(k:Nat) (o:Own),k<=c.n/\i=I_ J_ k/\Hid (WorldIn o t wr p c (ZeL x k) Z)/\Hid (Upd (Zu t) own o w wr)/\Hid (Blk wr w.heap.size 27 #[ptrV p])/\Hid (o w.heap.size=0)) (λi _=>c.n-(intOf i).toNat)
 case atStart=>exact⟨0,own,ZO,rfl,Nd,HU,HX,xz⟩
 case round =>
  clear c0 c1 c2 kX ez ie;obtain⟨k,o,i6,rfl,HZ,HU,HX,xz⟩:=hrel;by_cases gh:k<c.n
  ·have kn:(k:Int)<(c.n:Int):=ZO;have cR:(0:Int)<=(k:Int):=ZO;obtain⟨g',lW,GK,GL,gL⟩:=HZ.out.cells hc.n1;have GJ:g'=g:=by rw[yK]at lW;simpa using lW.symm
   subst GJ;have hq:=ZX (l:=Z.ps) (i:=k) (by have:=HZ.out.len;omega);obtain⟨q,vA⟩:∃q,q=Z.ps[k]'(by have:=HZ.out.len;omega):=⟨_,rfl⟩;rw[←vA]at hq;have iJ:=gL k q hq;have HQ:=ZH hq;have Sc:(ZeL x k).nodes k=x.nodes k:=by
    show(if k<k then _ else _)=_
    rw[ZPn ZO]
   have hN:=HZ.out.node k q hq;rw[Sc]at hN;have HN:=ZH (ZjY hN HU.out.fresh);clear gL lW vA hq Sc hN;go_wp2_with fail;refine HN.out.mono ?_;rintro _ w2 ⟨rfl,fI,cM⟩;have dc:=HZ.out.setNode h5 HQ.out (y:=ZcF (x.nodes k)) cM fI;have si:=ZH dc;have IS:=cM.mono (T':=Zu t) λn hn=>hn.world ZO
   obtain⟨dC,qa,uk,xj⟩:=ZH4 (HU.out.trans IS) (HX.out.upd cM (by rw[xz.out];rintro⟨h1,h2⟩;omega)) ((cM.old _ HX.out.lt).trans xz.out) (ZiW ZO fI cM.fresh ((HI.out.nodes k gh).aH) ZO eX hb);clear dc IS fI cM iJ;go_wp2_with fail;refine xj.out.mono ?_;rintro _ w3 ⟨rfl,eL,jR,de⟩;have qk:=si.out.setNode h5 HQ.out de jR;have vS:WorldIn eL t w3 p c (ZeL x (k+1)) Z:=by
    rw[←ZoM];exact qk
   obtain⟨vZ,ew,iI,Bv⟩:=ZH4 vS (dC.out.trans (de.mono (T':=Zu t) λn hn=>hn.world ZO)) (qa.out.upd de (by rw[uk.out];rintro⟨h1,h2⟩;omega)) ((de.old _ qa.out.lt).trans uk.out);clear qk vS jR de;go_wp2
   go_roundw
   case rel=>exact⟨k+1,eL,ZO,ZN,vZ,ew,iI,Bv⟩
   case measure=>simp[intOf];omega
  ·obtain rfl:k=c.n:=ZO;have eR:(ZeL x c.n).nodes=(Za4 c x).nodes:=rfl;obtain⟨HH,hH,qg,_⟩:=HI.out.hub;have HC:=ZH (Zk5 HZ.out.hub HU.out.fresh);obtain⟨c0,c1,c2⟩:=HZ.out.blk.three;have kX:=HX.out.cell 0;simp only[ZD,ZE]at kX;have De:=HX.out.lt;have T1:=ZH qg;clear qg;go_wp2_with fail;refine HC.out.mono ?_;rintro _ w2 ⟨rfl,sC,cM⟩;have dc:=HZ.out.aB h5 (y:=ZcR x.hub) cM sC;have kw:=HX.out.upd cM (by rw[xz.out];rintro⟨h1,h2⟩;omega);obtain⟨uk,dC,HS,si,qa⟩:=ZH5 ((cM.old _ HX.out.lt).trans xz.out) (HU.out.trans (cM.mono (T':=Zu t) λn hn=>hn.world)) (ZjQ ZO (x:=ZcR x.hub) sC cM.fresh T1.out.aH hc) dc kw;clear c0 c1 c2 kX De;obtain⟨c0,c1,c2⟩:=dc.blk.three;have kX:=kw.cell 0;simp only[ZD,ZE]at kX;have De:=kw.lt;clear dc kw sC cM;go_wp2_with fail;refine HS.out.mono ?_;rintro _ w3 ⟨rfl,eL,GN,de⟩;have qk:=si.out.aB h5 (y:=(ZbX c (ZcR x.hub)).1) de GN;obtain⟨iI,Bv,ew⟩:=ZH3 (qa.out.upd de (by rw[uk.out];rintro⟨h1,h2⟩;omega)) ((de.old _ qa.out.lt).trans uk.out) (dC.out.trans (de.mono (T':=Zu t) λn hn=>hn.world));have vZ:Hid (WorldIn eL t w3 p c (Za4 c x) Z):=ZH qk;have T2:Hid (∃B',WInv c B' m b (Za4 c x)):=ZH (by obtain⟨B',_,_,h⟩:=HI.out.bf hc hm hb;exact⟨B',h⟩);clear qk GN de c0 c1 c2 kX De;go_wp2_with fail;refine wp_loop_ghost_k (λn a wr=>∃(u3 u4 u5 u6 u7 u8 u9 Jj Jk Jl Jm Jn Jo Jp Jq Jr Js Jt Ju Jv Jw Jx Jy Jz SH SI SJ SK SM u32 SN SO SP SQ SR SS ST SU SW SX SY SZ S0 S3 S4 S5 S6 S7 S8 S9 Ta Tb Tc Td Te Tf Tg Th Ti u64 Tj Tk Tl Tm Tn To Tp Tq Tr Ts Tt Tu Tv Tw:Value) (D:List Nat) (k:Nat) (o:Own) (y:WS),a=({ tmps:=#[ptrV p,I_ J_ N,P_ (some ⟨w.heap.size,0,none⟩),u3,u4,u5,u6,u7,u8,u9,Jj,Jk,Jl,Jm,Jn,Jo,Jp,Jq,Jr,Js,Jt,Ju,Jv,Jw,Jx,Jy,Jz,SH,SI,SJ,SK,SM,u32,SN,SO,SP,SQ,SR,SS,ST,I_ J_ N,I_ J_ k,SU,SW,SX,SY,SZ,S0,S3,S4,S5,S6,S7,S8,S9,Ta,Tb,Tc,Td,Te,Tf,Tg,Th,Ti,u64,Tj,Tk,Tl,Tm,Tn,To,Tp,Tq,Tr,Ts,Tt,Tu,Tv,Tw],defers:=D.map ZhZ }:Act)/\k+n=N/\goW c N (Za4 c x)=goW c n y/\ZhD own t w w.heap.size p c m b Z D o y wr) N ⟨_,_,_,_,_,_,_,_,_,_,_,_,_,_,_,_,_,_,_,_,_,_,_,_,_,_,_,_,_,_,_,_,_,_,_,_,_,_,_,_,_,_,_,_,_,_,_,_,_,_,_,_,_,_,_,_,_,_,_,_,_,_,_,_,_,_,_,_,_,_,_,_,_,_,[],0,eL,Za4 c x,rfl,ZO,rfl,vZ.out,T2.out,ew.out.mono (λn h=>⟨h.1,by have:=h.2;omega⟩),iI.out,Bv.out,λd hd=>by simp at hd,List.nodup_nil⟩ ?_;intro n a w5 hI J K hJ hK;obtain⟨u3,u4,u5,u6,u7,u8,u9,Jj,Jk,Jl,Jm,Jn,Jo,Jp,Jq,Jr,Js,Jt,Ju,Jv,Jw,Jx,Jy,Jz,SH,SI,SJ,SK,SM,u32,SN,SO,SP,SQ,SR,SS,ST,SU,SW,SX,SY,SZ,S0,S3,S4,S5,S6,S7,S8,S9,Ta,Tb,Tc,Td,Te,Tf,Tg,Th,Ti,u64,Tj,Tk,Tl,Tm,Tn,To,Tp,Tq,Tr,Ts,Tt,Tu,Tv,Tw,D,k,o,y,rfl,gh,ie,hz,hi,hu,hx,I4,j6,Hp⟩:=hI;obtain⟨B5,hi⟩:=hi;obtain⟨c0,c1,c2⟩:=hz.blk.three;have kX:=hx.cell 0;simp only[ZD,ZE]at kX;have fV:=hx.lt;obtain⟨HZ,AR,HU,HX,xz,Dv,Qq,s9⟩:=ZH8 hz hi hu hx I4 j6 Hp ie;clear hz hi hu hx I4 j6 Hp ie
   cases n with
   |zero =>
    obtain rfl:k=N:=ZO;go_wp2_with fail;have e:ZaW c k x=y:=s9.out;rw[e];exact Zia ht h5 ⟨HZ.out,⟨B5,AR.out⟩,HU.out,HX.out,xz.out,Dv.out,Qq.out⟩
   |succ n =>
    have kn:(k:Int)<(N:Int):=ZO;have cR:(0:Int)<=(k:Int):=ZO;have gc:=ZH (ZgF HZ.out.at_ HU.out.fresh AR.out hc hm);go_wp2_with fail;refine gc.out.mono ?_;rintro _ w6 ⟨rfl,eK⟩;have Eb:=HZ.out.upd (ZUb (T:=λ_=>False) eK HU.out.fresh) (λ_ _ h=>h) (λh=>h) h5;obtain⟨iZ,nZ⟩:=ZH2 (HU.out.kept eK) (HX.out.ob eK);have LY:Hid (∀d∈D,w6.heap[d]? = some (.deferred (some []))/\o d=t+6000/\w.heap.size<=d):=ZH λd hd=>by
     obtain⟨h1,h2,h3⟩:=Dv.out d hd;exact⟨(eK.block d (Array.getElem?_eq_some_iff.1 h1).1).trans h1,h2,h3⟩
    have J1:=ZH Eb;have oG:=AR.out.aP hc;have mP:(ZaC c y).nodes.length=5:=by simp[ZaC]
    obtain⟨S,hS⟩:∃S,S=ZaC c y:=⟨_,rfl⟩;rw[←hS]at oG mP ⊢;obtain⟨HS,fl,fB⟩:=ZH3 hS oG mP;clear Eb eK hS oG mP c0 c1 c2 kX fV;have kX:=nZ.out.cell 0;simp only[ZD,ZE]at kX;have fV:=nZ.out.lt
    go_wp2_with (first
     |(refine ZS rfl 101 rfl (Zo Zbf) ZK ?_)
     |(refine wpList_store_row rfl 101 (.tmp 6) (.tmp 44) rfl w6.heap.size (Zo S) rfl rfl 101 (Zo Zbf) (ZBn w6 101 _) (Zlz fl.out fB.out) ((Zif rfl rfl).trans (Zif fl.out fB.out).symm) (Zrv S) ?_
       have Ar:Blk ((w6.alloc (C_ (Zo Zbf) 101)).setRow w6.heap.size (Zo S)) w6.heap.size 101 (Zo S):=(ZBn _ _ _).row _;have tp:Kept w6.heap.size w6 ((w6.alloc (C_ (Zo Zbf) 101)).setRow w6.heap.size (Zo S)):=((ZKr w6).alloc _).row (ZL _) _;obtain⟨W7,jk⟩:∃W7,W7=(w6.alloc (C_ (Zo Zbf) 101)).setRow w6.heap.size (Zo S):=⟨_,rfl⟩;rw[←jk]at Ar tp ⊢;obtain⟨UE,fx⟩:=ZH2 Ar tp;have I3:=(nZ.out.ob tp.below).cell 0;simp only[ZD,ZE]at I3
       clear jk Ar tp))
    refine(ZpI p W7).mono ?_;rintro _ w8 ⟨rfl,tk,ga⟩;have km:=fx.out.step ga;obtain⟨US,kC,DH,Bb⟩:=ZH4 (J1.out.upd (ZUb (T:=λ_=>False) km.below iZ.out.fresh) (λ_ _ h=>h) (λh=>h) h5) (iZ.out.kept km.below) (nZ.out.ob km.below) (UE.out.ob ga);have ER:Hid (∀d∈D,w8.heap[d]? = some (.deferred (some []))/\o d=t+6000/\w.heap.size<=d):=ZH λd hd=>by
     obtain⟨h1,h2,h3⟩:=LY.out d hd;exact⟨(km.below.block d (Array.getElem?_eq_some_iff.1 h1).1).trans h1,h2,h3⟩
    have Dp:=ZH tk;have xx:Hid (o w6.heap.size=0):=ZH (iZ.out.fresh _ (ZL _));have JI:Hid (o W7.heap.size=0):=ZH (iZ.out.fresh _ fx.out.le);obtain⟨bs,jm⟩:∃bs,bs=w6.heap.size:=⟨_,rfl⟩;obtain⟨bb,Gq⟩:∃bb,bb=W7.heap.size:=⟨_,rfl⟩;rw[←jm]at Bb xx ⊢;rw[←Gq]at Dp JI ⊢;clear km ga tk jm Gq kX fV I3;have hxl8:=DH.out.lt;go_wp2_with fail;refine(wpIn_wide (n:=10)).1 ?_;refine ZnY rfl ZO (gf:=91) (lb:=#[P_ (some ⟨bb,0,none⟩)]) rfl trivial (enters_of func91 ZK rfl) ?_;intro R W1 _ Rp Ga Vz Ro Vx Vy zw;obtain⟨gI,xq⟩:=ZH2 Rp Ga;clear Rp Ga;have Q6:W1.heap[w8.heap.size]? = some (.deferred (some [])):=by
     rw[zw];exact(Below.heap_alloc _ _ _ ZM).trans (World.alloc_heap_new w8 _)
    have Ra:W1.heap[w8.heap.size+1]? = some (.loop R):=by
     rw[zw];have:=World.alloc_heap_new (w8.alloc (.deferred (some []))) (.loop R);rwa [World.size_alloc]at this
    have kK:Below w8.heap.size w8 W1:=by
     rw[zw];exact((ZW _ w8).alloc (ZL _) _).alloc ZM _
    have dS:W1.heap.size=w8.heap.size+2:=by rw[zw];simp
    have yH:Upd (λ_=>False) o o w8 W1:=ZUb kK kC.out.fresh;have rP:=(yH.az (ZL w8.heap.size) (by omega:w8.heap.size<W1.heap.size) (t+6000)).az (by omega:w8.heap.size<=w8.heap.size+1) ZO (t+6001);obtain⟨o1,oC⟩:∃o1,o1=(o.at_ w8.heap.size (t+6000)).at_ (w8.heap.size+1) (t+6001):=⟨_,rfl⟩;rw[←oC]at rP;have Sf:o1 w8.heap.size=t+6000:=by rw[oC];simp[Own.at_]
    have Sg:o1 (w8.heap.size+1)=t+6001:=by rw[oC];simp[Own.at_]
    have gJ:RoundAt o1 t W1 p c m b (w8.heap.size+1) R Z y:=⟨US.out.upd rP (λ_ _ h=>h) (λh=>h) h5,rP.fresh,⟨B5,AR.out⟩,Ra,Sg⟩;have mu:=DH.out.upd rP (λh=>h);have DQ:=Bb.out.upd rP (λh=>h);have dm:=Dp.out.upd rP (λh=>h);have Rv:o1 w.heap.size=0:=(rP.old _ DH.out.lt).trans xz.out;have Rs:o1 bs=0:=(rP.old _ Bb.out.lt).trans xx.out;have j6:∀d∈w8.heap.size::D,W1.heap[d]? = some (.deferred (some []))/\o1 d=t+6000/\w.heap.size<=d:=λd hd=>by
     rcases List.mem_cons.1 hd with rfl|hd
     ·exact⟨Q6,Sf,kC.out.size⟩
     ·obtain⟨h1,h2,h3⟩:=ER.out d hd;have kE:=(Array.getElem?_eq_some_iff.1 h1).1;exact⟨(kK.block d kE).trans h1,(rP.old d kE).trans h2,h3⟩
    have Hp:(w8.heap.size::D).Nodup:=List.nodup_cons.2 ⟨λhd=>by
     have:=(Array.getElem?_eq_some_iff.1 (ER.out _ hd).1).1
     omega,Qq.out⟩
    obtain⟨fJ,ME,J0,UG,EP,ET,dA⟩:=ZH7 mu DQ Rv Rs j6 Hp (kC.out.trans (rP.mono (T':=ZgI t) λn h=>h.elim));obtain⟨l,hl⟩:∃l,l=w8.heap.size+1:=⟨_,rfl⟩;obtain⟨d8,uO⟩:∃d8,d8=w8.heap.size:=⟨_,rfl⟩;rw[←hl]at gJ ⊢;rw[←uO]at EP ET ⊢;clear Q6 Ra kK dS yH rP oC Sf Sg mu DQ Rv Rs j6 Hp hl uO zw;show CallsIn Fence.wide 9 _ 91 #[.func (.yield l) #[] #[],P_ (some ⟨bb,0,none⟩)] W1 _
    refine(ZpH ht hc hm hb gJ dm ?hy).mono ?_
    case hy =>
     intro cZ x1 W2 f a2 n2 dy hr Vu gF cN;obtain⟨B1,zK,gM⟩:=Vu;have Ku:tot B1.made<=100:=ZT zK.sum hm;refine Zn9 hr.loop (by rw[Ro];rfl) trivial ?_;rw[Vx,Vy,Vz,Ro];intro K1 fe;have da:=ZH fe;clear fe;have kJ:=fJ.out.upd cN (Zes ht J0.out);have BN:=(cN.old _ fJ.out.lt).trans J0.out;obtain⟨dV,cM⟩:=hr.aN ht { R with state := .busy } h5;have BV:=gF.putObj hr.loop (.loop { R with state := .busy });have xO:=kJ.upd cM (Zes ht BN);have Gf:=(cM.old _ kJ.lt).trans BN;gi_wp2;refine da.out _ _ ⟨R,hr.loop,gI.out,?_⟩;obtain⟨W3,oc⟩:∃W3,W3=W2.putObj l (.loop { R with state := .busy }):=⟨_,rfl⟩;rw[←oc]at dV cM BV xO ⊢;obtain⟨HH,hH,qg,_⟩:=zK.hub;obtain⟨HT,jq⟩:=ZH2 (Zk8 ZO dV.at_.hub dV.fresh qg hc Ku (gM.more (Bd.aL hH)) BV) (zK.aO hc hm gM);obtain⟨c0,c1,c2⟩:=dV.at_.blk.three;have cW:=dV.at_.blk.lt;have kX:=xO.cell 0;simp only[ZD,ZE]at kX;have fV:=xO.lt;obtain⟨fP,dC,iI,Fs⟩:=ZH4 dV cM xO Gf;clear zK gM kJ BN xO Gf dV cM BV gF qg oc hr cN gJ dm;gi_wp2;refine⟨trivial,?_⟩;refine(CallsIn.inRound _ (callsIn_wide.2 HT.out)).mono ?_;intro r2 w4 hP;obtain⟨y0,y1,y2,rfl⟩:=hP.shape;obtain⟨cK,de,sC,fT⟩:=hP;obtain⟨B2,k1,k2,k3,k4,k5⟩:=jq.out;have vS:=fP.out.at_.aB h5 (y:=(Zh c x1.hub f).1) de sC;have iO:RoundAt cK t w4 p c m b l { R with state := .busy } Z ⟨x1.nodes,(Zh c x1.hub f).1,x1.link⟩:=fP.out.to de (by rintro⟨h1,h2⟩;omega) vS ⟨B2,k3⟩;have yF:Upd (RoundT t) cZ cK W3 w4:=de.mono λn hn => .inl hn.world
     obtain⟨jA,HXo4,gS,gj,lJ,df,fN⟩:=ZH7 (iI.out.upd yF (Zes ht Fs.out)) ((yF.old _ iI.out.lt).trans Fs.out) iO (dC.out.trans yF) fT k3 k5;clear vS de yF sC fT k1 k2 k3 k4 k5 c0 c1 c2 kX fV cW;have kX:=jA.out.cell 0;simp only[ZD,ZE]at kX;have fV:=jA.out.lt
     cases ho:(Zaq c x1.hub.s f).2.1 with
     |none =>
      have fT:=lJ.out;rw[ho]at fT;have e:Ending.returned (.tuple #[y0,y1,y2])=R_ (.tuple #[I_ J_ (-1),S_ none 0 0,I_ J_ ((Zh c x1.hub f).2.2:Nat)]):=fT;simp only[Ending.returned.injEq,Value.tuple.injEq,Array.mk.injEq,List.cons.injEq,and_true]at e;obtain⟨rfl,rfl,rfl⟩:=e;have mL:(Zh c x1.hub f).2.1=none:=ho;have pS:Zbz c x1 (Zh c x1.hub f)=⟨x1.nodes,(Zh c x1.hub f).1,x1.link⟩:=by unfold Zbz;rw[mL]
      have xt:=ZH pS;obtain⟨kq,Kl⟩:∃kq,kq=(Zh c x1.hub f).2.2:=⟨_,rfl⟩;rw[←Kl];clear fT ho mL pS Kl;by_cases cR:kq=0
      ·subst cR;have pX:(((0:Nat):Int)==0)=true:=rfl;gi_wp2;refine⟨trivial,?_⟩;refine(CallsIn.inRound _ (callsIn_wide.2 (Zbk gS.out.at_.at_ (r := -1) (.inl ZO)))).mono ?_;rintro _ w5 ⟨rfl,dH⟩;obtain⟨eO,iD⟩:=gS.out.below dH h5;obtain⟨io,ka⟩:=ZH2 eO (gj.out.trans iD);clear dH eO iD;gi_wp2;exact⟨_,_,Zh9 gI.out xq.out io.out.loop,rfl,cK,by rw[xt.out];exact(io.out.aN ht R h5).1,ka.out.trans (io.out.aN ht R h5).2⟩
      ·have pX:((kq:Int)==0)=false:=ZP;gi_wp2;refine⟨trivial,?_⟩;gi_wp2;exact⟨_,_,Zh9 gI.out xq.out gS.out.loop,rfl,cK,by rw[xt.out];exact(gS.out.aN ht R h5).1,gj.out.trans (gS.out.aN ht R h5).2⟩
     |some pr =>
      have fT:=lJ.out;rw[ho]at fT;obtain⟨v,e,cT,lj⟩:=fT;simp only[Ending.returned.injEq,Value.tuple.injEq,Array.mk.injEq,List.cons.injEq,and_true]at e;obtain⟨rfl,rfl,rfl⟩:=e;obtain⟨av,kv,rfl,Gu⟩:=Bytes.ae cT;have mL:(Zh c x1.hub f).2.1=some pr:=ho;have vX:=ZH ((fN.out pr.1 pr.2 mL).1);have pS:Zbz c x1 (Zh c x1.hub f)=⟨Zbn x1.nodes pr.1 (Zaa c pr.1 (x1.nodes pr.1) pr.2).1,(Zh c x1.hub f).1,x1.link⟩:=by unfold Zbz;rw[mL]
      have pX:((0:Int)==0)=true:=rfl;have IP:tot B2.made<=100:=ZT df.out.sum hm;obtain⟨xt,tz⟩:=ZH2 pS Gu;clear ho mL pS Gu cT lj;gi_wp2;refine⟨trivial,?_⟩;refine(CallsIn.inRound _ (callsIn_wide.2 (ZaO gS.out.at_.at_ vX.out.n))).mono ?_;rintro _ w5 ⟨rfl,dH⟩;obtain⟨eO,iD⟩:=gS.out.below dH h5;obtain⟨io,ka⟩:=ZH2 eO (gj.out.trans iD);have qL:=jA.out.ob dH;have Gs:=tz.out.kept dH (ZL _);obtain⟨g',lW,GK,GL,gL⟩:=eO.at_.cells hc.n1;have GJ:g'=g:=by rw[yK]at lW;simpa using lW.symm
      subst GJ;have hq:=ZX (l:=Z.ps) (i:=pr.1) (by have:=eO.at_.len;have:=vX.out.n;omega);obtain⟨q,vA⟩:∃q,q=Z.ps[pr.1]'(by have:=eO.at_.len;have:=vX.out.n;omega):=⟨_,rfl⟩;rw[←vA]at hq;have iJ:=gL pr.1 q hq;have xV:=eO.at_.blk;rw[lW]at xV;obtain⟨c0,c1,c2⟩:=xV.three;have cW:=xV.lt;have yq:(0:Int)<=(pr.1:Int):=ZO;have hpI:(pr.1:Int)<(c.n:Int):=by have:=vX.out.n;omega
      obtain⟨Ut,HQ⟩:=ZH2 (Zj3 ZO (eO.at_.node pr.1 q hq) eO.fresh (df.out.nodes pr.1 vX.out.n) (by have:=vX.out.n;omega) IP hb vX.out Gs) hq;clear dH eO iD Gs gL vA xV hq lW kX fV;have kX:=qL.cell 0;simp only[ZD,ZE]at kX;have fV:=qL.lt;clear qL;gi_wp2;refine⟨trivial,?_⟩;refine(CallsIn.inRound _ (callsIn_wide.2 Ut.out)).mono ?_;rintro _ w6 ⟨rfl,eL,Ko,ib⟩;have rK:pr.1<5:=by have:=vX.out.n;omega
      have Eb:=io.out.at_.setNode h5 HQ.out ib Ko;have RW:∃B,WInv c B m b ⟨Zbn x1.nodes pr.1 (Zaa c pr.1 (x1.nodes pr.1) pr.2).1,(Zh c x1.hub f).1,x1.link⟩:=by
       obtain⟨e1,e2⟩:=(df.out.nodes pr.1 vX.out.n).take rK hc.h20 IP hb vX.out;exact⟨B2,df.out.setNode e1 e2⟩
      have sQ:=io.out.to ib (by rintro⟨h1,h2⟩;omega) Eb RW;obtain⟨nL,iZ⟩:=ZH2 sQ (ka.out.trans (ib.mono (T':=RoundT t) λn hn => .inl (hn.world rK)));clear Ko ib Eb RW sQ;gi_wp2;exact⟨_,_,Zh9 gI.out xq.out nL.out.loop,rfl,eL,by rw[xt.out];exact(nL.out.aN ht R h5).1,iZ.out.trans (nL.out.aN ht R h5).2⟩
    ·rintro e w9 ⟨⟨v,rfl⟩,o9,Pa,dE⟩;obtain⟨Rx,Rq⟩:∃Rx:Loop,Rx={ R with state := .exhausted }:=⟨_,rfl⟩;obtain⟨nD,kV⟩:=Pa.aN ht Rx h5;have yb:=run_endLoop (P:=prog) Pa.loop (by rw[gI.out];simp);rw[←Rq,xq.out]at yb;obtain⟨iE,I0⟩:∃iE,iE=w9.putObj l (.loop Rx):=⟨_,rfl⟩;rw[←I0]at yb nD kV;refine⟨none,iE,yb,?_⟩;clear yb Rq;have C8:=dE.trans kV;obtain⟨qC,qF,Fr,Ba⟩:=ZH4 (dA.out.trans (C8.mono (T':=ZgI t) λn hn=>hn.run)) (fJ.out.upd C8 (Zes ht J0.out)) ((C8.old _ fJ.out.lt).trans J0.out) (ME.out.upd C8 (Zes ht UG.out));have EQ:Hid (∀d∈d8::D,iE.heap[d]? = some (.deferred (some []))/\o9 d=t+6000/\w.heap.size<=d):=ZH λd hd=>by
      obtain⟨h1,h2,h3⟩:=EP.out d hd;have kE:=(Array.getElem?_eq_some_iff.1 h1).1;exact⟨(C8.same d kE (by rw[h2];rintro(⟨h1,h2⟩|h1) <;> omega)).trans h1,(C8.old d kE).trans h2,h3⟩
     obtain⟨Tx,GO⟩:=nD.inv;obtain⟨E3,tH⟩:=ZH2 nD GO;have kX:=qF.out.cell 0;simp only[ZD,ZE]at kX;have fV:=qF.out.lt;clear Pa dE nD kV I0 C8 GO;go_wp2_with fail;have oG:=tH.out.aP hc;have mP:(ZaC c (ZcJ c y)).nodes.length=5:=by simp[ZaC]
     obtain⟨S1,DQ⟩:∃S1,S1=ZaC c (ZcJ c y):=⟨_,rfl⟩;have ji:=ZH DQ;rw[←DQ]at oG mP;obtain⟨bq,lh⟩:∃bq,bq=decide (S1=S):=⟨_,rfl⟩;have uQ:∀w,(binOp .eql 101 (Zb9 S1) (Zb9 S)).run prog w=.ok (B_ bq) w:=λw=>by rw[lh];exact Zn3 S1 S oG mP fl.out fB.out w
     obtain⟨rV,TS⟩:=ZH2 lh uQ;clear lh uQ oG mP DQ;refine ZSi [(0,0),(2,0),(1,1),(3,3)] λcu=>?_
     refine Zf (v:=ptrV p) rfl (by rfl) ?_ ?_
     ·intro w' cL;have kX:=(qF.out.ob cL.below).cell 0;simp only[ZD,ZE]at kX;go_simp
     simp only[Act.put,Q_];refine Zf (v:=Zb9 S) rfl (by rfl) (λw' cL=>ZjN rfl rfl (Ba.out.ob cL.below) fl.out fB.out) ?_;simp only[Act.put,Q_];refine Zlw rfl (by rfl) (λK1 fe=>?_);go_simp;have dE:Upd (λ_=>False) o9 o9 iE iE.drew:=ZUb (ZW iE.heap.size iE).drew qC.out.fresh;refine(ZgF (E3.out.at_.upd dE (λ_ _ h=>h) (λh=>h) h5).at_ dE.fresh tH.out hc hm).mono ?_;rintro _ tw ⟨rfl,jr⟩;rw[←ji.out];refine fe.out (λw'=>Kept iE.heap.size iE w') _ _ (λ_ h=>h) (cu.step jr) (λcA=>?_);clear fe K1 cu jr dE kX fV;have uQ:=TS.out;refine Zfr (v := B_ bq) rfl (by rfl) (λw'=>Zr1 rfl rfl rfl uQ) ?_;simp only[Act.put,Q_];refine ZSf ?_;have IQ:Upd (λ_=>False) o9 o9 iE tw:=ZUb cA.below qC.out.fresh
     have hrel:ZhD own t w w.heap.size p c m b Z (d8::D) o9 (ZcJ c y) tw:=⟨E3.out.at_.upd IQ (λ_ _ h=>h) (λh=>h) h5,⟨Tx,tH.out⟩,qC.out.kept cA.below,qF.out.ob cA.below,Fr.out,λd hd=>by
      obtain⟨h1,h2,h3⟩:=EQ.out d hd
      exact⟨(cA.below.block d (Array.getElem?_eq_some_iff.1 h1).1).trans h1,h2,h3⟩,ET.out⟩
     have E5:=ZH hrel;clear hrel IQ cA uQ;have ie:goW c N (Za4 c x)=if S1=S then ZcJ c y else goW c n (ZcJ c y):=by
      rw[s9.out,ji.out,HS.out];rfl
     cases bq with
     |true =>
      have hE:S1=S:=by simpa using rV.out.symm
      rw[ZPp hE]at ie;have HG:=ZH ie;clear ie;go_wp2_with fail;have e:ZaW c N x=ZcJ c y:=HG.out;rw[e];exact Zia (D:=d8::D) ht h5 E5.out
     |false =>
      have hE:¬S1=S:=by simpa using rV.out.symm
      rw[ZPn hE]at ie;have HG:=ZH ie;clear ie;go_wp2_with fail;exact⟨n,ZO,hJ _ _ _ ⟨_,_,_,_,_,_,_,_,_,_,_,_,_,_,_,_,_,_,_,_,_,_,_,_,_,_,_,_,_,_,_,_,_,_,_,_,_,_,_,_,_,_,_,_,_,_,_,_,_,_,_,_,_,_,_,_,_,_,_,_,_,_,_,_,_,_,_,_,_,_,_,_,_,_,d8::D,k+1,o9,ZcJ c y,rfl,ZO,HG.out,E5.out⟩⟩
end
end
theorem ZqM:(prog.info? 83).map (λi=>(i.zero,i.size,i.bytes))=some (some (P_ none),1,8):=ZK
structure NewPart(own:Own)(t:Nat)(w:World)(p hp lp:Nat)(c:Cfg)(k:Nat)(v:Value):Prop where
 mine:own p=t
 blk:Blk w p 82 #[v,ptrV hp,ptrV lp]
 ex:∃ps:List Nat,ps.length=k/\w.ownsRow 0 83 1 v k (ps.map ptrV)/\(∀g,v.ownBlock=some g->own g=t+1)/\∀r q,ps[r]? = some q->NodeAt own (t+100+10*r) w q c r NodeSt.new
 hub:HubAt own (t+200) w hp c true Dk.new (initSt c).1 (initSt c).2
 link:LinkAt own (t+300) w lp []
section
variable {own own':Own}{t p hp lp k:Nat}{w w':World}{c:Cfg}{v:Value}{T:Nat->Prop}
theorem NewPart.upd(h:NewPart own t w p hp lp c k v)(hu:Upd T own own' w w')(h1:¬T t)(h2:¬T (t+1))(hN:∀r n,r<k->NodeT (t+100+10*r) n->¬T n)(hH:∀n,HubT (t+200) n->¬T n)(hL:¬T (t+300))(h0:¬T 0)(hc:c.n<=5):NewPart own' t w' p hp lp c k v:=by
 obtain⟨g1,g2,⟨ps,g3,g4,g5,g6⟩,g7,g8⟩:=h;refine⟨by rw[hu.old p g2.lt];exact g1,g2.upd hu (by rw[g1];exact h1),⟨ps,g3,Zi g4 (λg hg hl=>hu.same g hl (by rw[g5 g hg];exact h2)),λg hg=>by rw[hu.old g (Zb g4 hg).2];exact g5 g hg,λr q hq=>(g6 r q hq).upd hu (hN r · (by have:=(ZZ.1 hq).1;omega))⟩,HubAt.upd g7 hu hH (by rw[g7.len];exact hc),g8.upd hu hL h0⟩
end
theorem ZlJ{own:Own}{c:Cfg}(ht:0<t)(hf:Fresh own w)(hc:c.Ok):
  Calls prog 12 #[Zd1 c] w λe w'=>∃p own',e=R_ (.tuple #[ptrV p,I_ J_ 0])/\WorldAt own' t w' p c (ZdZ c)/\Upd (Zu t) own own' w w':=by
 have h5:=hc.n5;have cP:=ZBn w 23 (cfgArr c);have cR:=(ZW w.heap.size w).alloc (ZL _) (C_ (cfgArr c) 23);have dt:Upd (λ_=>False) own own w (w.alloc (C_ (cfgArr c) 23)):=ZUb cR hf;obtain⟨L9,oK,p8⟩:=ZH3 (ZtW (t:=t+200) ZO dt.fresh hc) cP dt;have Qt:Hid (own w.heap.size=0):=ZH (hf _ (ZL _));have lY:=ZH hc;obtain⟨d0,d1,d2,d3,d4,d5⟩:=cP.aR;clear hf cR dt cP hc;go_enter func12,ntmps12;go_wp2_with fail;refine L9.out.mono ?_;rintro _ w1 ⟨hp,cZ,rfl,hhp,RQ,cN⟩;obtain⟨Qe,dA,vU⟩:=ZH3 RQ ((p8.out.mono λn h=>h.elim).trans cN) (oK.out.upd cN (by rw[Qt.out];rintro⟨h1,h2⟩;omega));have rq:Hid (cZ w.heap.size=0):=ZH ((cN.old _ oK.out.lt).trans Qt.out);have gb:=ZH (Zsl (t:=t+300) cN.fresh);clear RQ cN d0 d1 d2 d3 d4 d5;go_wp2_with fail;refine gb.out.mono ?_;rintro _ w2 ⟨cK,rfl,jc,cM⟩;have sC:=HubAt.upd Qe.out cM (λn hn=>by obtain⟨h1,h2⟩:=hn;omega) (by rw[Qe.out.len];exact h5);have kW:Upd (Zu t) own cK w w2:=(dA.out.mono λn h=>h.world).trans (cM.mono λn h=>⟨ZO,ZO⟩);have BK:=vU.out.upd cM (by rw[rq.out];omega);have rM:cK w.heap.size=0:=(cM.old _ vU.out.lt).trans rq.out;have kK:=(ZW _ w2).alloc (ZL _) (C_ #[S_ none 0 0,ptrV hp,ptrV w1.heap.size] 82);have fK:=ZBn w2 82 #[S_ none 0 0,ptrV hp,ptrV w1.heap.size];have de:Upd (λ_=>False) cK (cK.at_ w2.heap.size t) w2 (w2.alloc (C_ #[S_ none 0 0,ptrV hp,ptrV w1.heap.size] 82)):=(ZUb kK cM.fresh).az (ZL _) fK.lt t;obtain⟨eL,dW⟩:∃o,o=cK.at_ w2.heap.size t:=⟨_,rfl⟩;rw[←dW]at de;have Rg:NewPart eL t _ w2.heap.size hp w1.heap.size c 0 (S_ none 0 0):=⟨by rw[dW];exact ZPp rfl,fK,⟨[],rfl,⟨rfl,.inl ⟨rfl,rfl⟩⟩,λg h=>by(cases h),λi q h=>by simp at h⟩,HubAt.upd sC de (λ_ _ h=>h) (by rw[sC.len];exact h5),jc.upd de (λh=>h) (λh=>h)⟩;obtain⟨JV,tB,ew⟩:=ZH3 Rg (BK.ob kK) (kW.trans (de.mono (T':=Zu t) λn h=>h.elim));have iR:Hid (eL w.heap.size=0):=ZH ((de.old _ BK.lt).trans rM);have hpwc:w2.heap.size≠w.heap.size:=by have:=BK.lt;omega
 clear sC jc cM kW BK rM kK fK de dW Rg;obtain⟨i0,hi,dd,cV,dc⟩:=info_parts ZqM;obtain⟨d0,d1,d2,d3,d4,d5⟩:=tB.out.aR;have OG:=tB.out.lt;go_wp2_with fail;go_loopw [24] (λi wr=>∃(k:Nat) (iW:Own) (v:Value),k<=c.n/\i=I_ J_ k/\Hid (Blk wr w.heap.size 23 (cfgArr c))/\Hid (NewPart iW t wr w2.heap.size hp w1.heap.size c k v)/\Hid (iW w.heap.size=0)/\Hid (Upd (Zu t) own iW w wr)) (λi _=>c.n-(intOf i).toNat)
 case atStart=>exact⟨0,_,_,ZO,rfl,tB,JV,iR,ew⟩
 case round =>
  clear d0 d1 d2 d3 d4 d5 OG;obtain⟨k,iW,v,i6,rfl,HC,JV,HO,HU⟩:=hrel;obtain⟨d0,d1,d2,d3,d4,d5⟩:=HC.out.aR;have CA:=HC.out.lt;by_cases gh:k<c.n
  ·have kn:(k:Int)<(c.n:Int):=ZO;go_wp2_with fail;refine(Zst (t:=t+100+10*k) ZO HU.out.fresh lY.out gh).mono ?_;rintro _ w4 ⟨q,dX,rfl,O4,rJ,ei⟩;have pD:∀n,NodeT (t+100+10*k) n->n≠t/\n≠t+1/\¬HubT (t+200) n/\n≠t+300/\n≠0/\∀r,r<k->¬NodeT (t+100+10*r) n:=λn hn=>by
    obtain⟨h1,h2⟩:=hn;exact⟨ZO,ZO,λh=>by obtain⟨h3,h4⟩:=h;omega,ZO,ZO,λr hr h=>by obtain⟨h3,h4⟩:=h;omega⟩
   have zt:=JV.out.upd ei (λh=>(pD _ h).1 rfl) (λh=>(pD _ h).2.1 rfl) (λr n hr hn h=>(pD _ h).2.2.2.2.2 r hr hn) (λn hn h=>(pD _ h).2.2.1 hn) (λh=>(pD _ h).2.2.2.1 rfl) (λh=>(pD _ h).2.2.2.2.1 rfl) h5;have FY:=HC.out.upd ei (by rw[HO.out];exact λh=>(pD _ h).2.2.2.2.1 rfl);have gZ:dX w.heap.size=0:=(ei.old _ HC.out.lt).trans HO.out;have NW:Upd (Zu t) own dX w w4:=HU.out.trans (ei.mono λn h=>h.world ZO);have kK:=(ZW _ w4).alloc (ZL _) (C_ #[ptrV q] 83);have iD:Upd (λ_=>False) dX dX w4 (w4.alloc (C_ #[ptrV q] 83)):=ZUb kK NW.fresh;have Kb:=zt.upd iD (λh=>h) (λh=>h) (λ_ _ _ _ h=>h) (λ_ _ h=>h) (λh=>h) (λh=>h) h5;have JU:=ZH (rJ.upd iD (λ_ _ h=>h));obtain⟨g1,g2,⟨ps,hl,cT,dk,oB⟩,g7,g8⟩:=Kb;have IZ:∃a cap,v=S_ a k cap:=by
    rcases cT.2 with ⟨h1,h2⟩|⟨g,cap,_,h1,_⟩
    ·subst h2;exact⟨none,0,h1⟩
    ·exact⟨_,cap,h1⟩
   obtain⟨aa,fC,rfl⟩:=IZ;obtain⟨kB,kA,Mb,EN,s8,oM,qt,AN,Ep⟩:=ZH9 cT dk oB hl g1 g2 g7 g8 (FY.ob kK);obtain⟨dO,ka,UM⟩:=ZH3 gZ (NW.trans (iD.mono (T':=Zu t) λn h=>h.elim)) iD;have gW:=ZBn w4 83 #[ptrV q];have iT:Hid (Reads (w4.alloc (C_ #[ptrV q] 83)) (w4.alloc (C_ #[ptrV q] 83)).heap.size 1 (some ⟨w4.heap.size,0,none⟩) 1 [ptrV q]):=ZH (Reads.aA gW rfl)
   have gn:Hid (∀u∈[ptrV q],u.oneCell'=true):=ZH (λu hu=>by
    obtain rfl:u=_:=by simpa using hu
    rfl)
   have jB:=zt.blk;obtain⟨e0,e1,e2⟩:=jB.three;have hlb4:=jB.lt;clear pD zt FY gZ NW kK iD cT dk oB hl g1 g2 g7 g8 rJ ei gW jB
   go_wp2_with (first
    |(at_builtin
      refine Zc _ rfl (.tmp 40) (.tmp 42) _ rfl 0 83 i0 _ 1 8 underlying80 hi dd cV dc rfl ZO (S_ aa k fC) k (ps.map ptrV) rfl kB.out _ (some ⟨w4.heap.size,0,none⟩) 1 1 [ptrV q] rfl iT.out gn.out ZF ZO (Nat.zero_le _) ?_;intro v7 w7 cF db ey;have yJ:Hid (w7.ownsRow 0 83 1 v7 (k+1) (ps.map ptrV++[ptrV q])):=ZH cF;obtain⟨Lo,TH⟩:=ZH2 db ey;have mn:=oM.out.grown db (Ne.symm (Zr kB.out oM.out ZJ));have jh:=ZH mn;obtain⟨a3,dK,rfl⟩:∃a cap,v7=S_ a (k+1) cap:=by
       rcases cF.2 with ⟨h1,h2⟩|⟨g,cap,_,h1,_⟩
       ·omega
       ·exact⟨_,cap,h1⟩
      have B0:=mn.cell 0;have hfr7:=mn.frozen 0;simp only[ZD,ZE]at B0;have OI:=mn.lt
      clear cF db ey mn))
   go_roundw
   case rel =>
    obtain⟨ef,cF⟩:∃o,o=dX.put (S_ a3 (k+1) dK) (t+1):=⟨_,rfl⟩;have db:=(Upd.refl (· = t+1) dX _ UM.out.fresh).grow (t:=t+1) rfl kA.out (λg hg=>(Zb yJ.out hg).2) Lo.out TH.out;rw[←cF]at db;obtain⟨jw,il⟩:=db;have lU:ef w2.heap.size=t:=(jw.old _ oM.out.lt).trans s8.out;have lE:Upd (· = t) ef ef w7 (w7.setCell ⟨w2.heap.size,0,none⟩ (S_ a3 (k+1) dK)):=(Upd.refl (· = t) ef w7 jw.fresh).setCell (p:=⟨w2.heap.size,0,none⟩) (λ_=>lU) _;have Po:=HubAt.upd (HubAt.upd qt.out jw (λn hn=>by obtain⟨h1,h2⟩:=hn;omega) (by rw[qt.out.len];exact h5)) lE (λn hn=>by obtain⟨h1,h2⟩:=hn;omega) (by rw[qt.out.len];exact h5);refine⟨k+1,ef,S_ a3 (k+1) dK,ZO,ZN,ZH ((Ep.out.upd jw (by rw[dO.out];omega)).upd lE (by rw[jw.old _ Ep.out.lt,dO.out];omega)),ZH ⟨lU,jh.out.aj 0 _,⟨ps++[q],by rw[ZI,EN.out];rfl,?_,λg hg=>by rw[cF];exact ZPp hg,λr q' kr=>?_⟩,Po,(AN.out.upd jw ZO ZO).upd lE ZO ZO⟩,ZH ((jw.old _ Ep.out.lt).trans dO.out),ZH ((ka.out.trans (jw.mono λn h=>⟨ZO,ZO⟩)).trans (lE.mono λn h=>⟨ZO,ZO⟩))⟩
    ·rw[List.map_append];exact Zi yJ.out (λg hg _=>Below.heap_setCell _ _ _ _ (λhe=>Zr yJ.out jh.out ZJ (by rw[hg,he])))
    ·rw[List.getElem?_append]at kr;split at kr
     ·exact((Mb.out r q' kr).upd jw (λn hn=>by obtain⟨h1,h2⟩:=hn;omega)).upd lE (λn hn=>by obtain⟨h1,h2⟩:=hn;omega)
     ·have uX:r-ps.length=0:=by
       have:=(ZZ.1 kr).1;simp at this;omega
      rw[uX]at kr;have kr:q=q':=by simpa using kr
      subst kr;have Ox:r=k:=by have:=EN.out;omega
      subst Ox;exact(JU.out.upd jw (λn hn=>by obtain⟨h1,h2⟩:=hn;omega)).upd lE (λn hn=>by obtain⟨h1,h2⟩:=hn;omega)
   case measure=>simp[intOf];omega
  ·obtain rfl:k=c.n:=ZO;go_wp2_with fail;go_ret2
   obtain⟨g1,g2,⟨ps,hl,cT,dk,oB⟩,g7,g8⟩:=JV.out;have IZ:∃a cap,v=S_ a c.n cap:=by
    rcases cT.2 with ⟨h1,h2⟩|⟨g,cap,_,h1,_⟩
    ·have:=lY.out.n1;omega
    ·exact⟨_,cap,h1⟩
   obtain⟨aa,fC,rfl⟩:=IZ;exact⟨w2.heap.size,iW,rfl,⟨g1,aa,fC,hp,w1.heap.size,ps,g2,cT,dk,hl,oB,g7,g8⟩,HU.out⟩
abbrev Zmj:Value := .agg #[I_ J_ 0,I_ J_ 0,I_ J_ 0,I_ J_ 0,I_ J_ 0,I_ J_ 0]
theorem ZrE(w:World):Calls prog 103 #[I_ J_ 0,I_ J_ 5] w (Zx (B_ false) w):=by
 go_enter func103,ntmps103;go_wp2
 go_ret;exact⟨rfl,ZW _ _⟩
theorem Zix{P:Program}{fn:Func}{t1 y1 t2 t3:Nat}(h:fn.results=#[.cell t1 y1,.tmp t2,.tmp t3]){tmps:Array Value}{a1:Addr}{v1 v2 v3:Value}
  (p1:tmps.getD t1 undef=P_ (some a1)) (p2:tmps.getD t2 undef=v2) (p3:tmps.getD t3 undef=v3) (l1:(loadVar y1 a1).run P w=.ok v1 w):(results fn tmps).run P w=.ok (.tuple #[v1,v2,v3]) w:=by
 have q1:tmps[t1]?.getD undef=P_ (some a1):=by simpa using p1
 have q2:tmps[t2]?.getD undef=v2:=by simpa using p2
 have q3:tmps[t3]?.getD undef=v3:=by simpa using p3
 simp[results,h,q1,q2,q3,asAddr,l1]
def Zcv(vt vs:Value)(u:Bool)(b l:Clk)(ac:List Clk)(k:Int):Array Value:=#[vt,vs]++Zt u b l ac++#[I_ J_ k]
def Zba:Array Value:=Zcv (S_ none 0 0) (S_ none 0 0) false ZCz ZCz (List.replicate 5 ZCz) 0
theorem ZuE{α : Type}{l:List α}(h:l.length=5):∃a b c d e,l=[a,b,c,d,e]:=by
 match l,h with
 | [a,b,c,d,e],_=>exact⟨a,b,c,d,e,rfl⟩
theorem Zjn(vt vs:Value)(u:Bool)(b l:Clk)(h:ac.length=5)(k:Int):(prog.info? 69).map (λi=>i.size)=some (Zcv vt vs u b l ac k).size:=by
 obtain⟨a0,a1,a2,a3,a4,rfl⟩:=ZuE h;kernel_rfl
theorem Zh8:(prog.info? 69).map (λi=>i.size)=some Zba.size:=ZK
theorem ZpX:prog.underlying 69=some (.struct (prog.fieldsOf 69)):=ZK
theorem Zsp(w:World):Calls prog 57 #[Zmj] w (Zx (B_ false) w):=by
 have hb:=ZBn w 23 #[I_ J_ 0,I_ J_ 0,I_ J_ 0,I_ J_ 0,I_ J_ 0,I_ J_ 0];have HK:=ZH ((ZKr w).alloc (C_ #[I_ J_ 0,I_ J_ 0,I_ J_ 0,I_ J_ 0,I_ J_ 0,I_ J_ 0] 23));obtain⟨c0,c1,c2,c3,c4,c5⟩:=hb.aR;have hl:=hb.lt;clear hb;go_enter func57,ntmps57;go_wp2_with fail;refine(ZrE _).mono ?_;rintro _ w1 ⟨rfl,cz⟩;have da:=ZH (HK.out.step cz);clear cz;go_wp2
 go_ret;exact⟨rfl,da.out.below⟩
theorem ZmF(w:World):Calls prog 28 #[Zmj] w λe w'=>e=R_ (.tuple #[P_ none,I_ J_ 1])/\L_ w w':=by
 have hb:=ZBn w 23 #[I_ J_ 0,I_ J_ 0,I_ J_ 0,I_ J_ 0,I_ J_ 0,I_ J_ 0];have HK:=ZH ((ZKr w).alloc (C_ #[I_ J_ 0,I_ J_ 0,I_ J_ 0,I_ J_ 0,I_ J_ 0,I_ J_ 0] 23));have eC:=N_
 clear hb;go_enter func28,ntmps28;go_wp2_with fail;refine(Zsp _).mono ?_;rintro _ w1 ⟨rfl,cz⟩;have da:=ZH (HK.out.step cz);clear cz;go_wp2_with fail;go_ret2
 exact⟨rfl,da.out.below⟩
theorem ZkQ(w:World):Calls prog 12 #[Zmj] w λe w'=>e=R_ (.tuple #[P_ none,I_ J_ 1])/\L_ w w':=by
 have HK:=ZH ((ZKr w).alloc (C_ #[I_ J_ 0,I_ J_ 0,I_ J_ 0,I_ J_ 0,I_ J_ 0,I_ J_ 0] 23));go_enter func12,ntmps12;go_wp2_with fail;refine(ZmF _).mono ?_;rintro _ w1 ⟨rfl,cz⟩;have da:=ZH (HK.out.step cz);clear cz;go_wp2_with fail;go_ret2
 exact⟨rfl,da.out.below⟩
theorem ZnW(w:World):Calls prog 53 #[Zmj,S_ none 0 0] w λe w'=>e=R_ (.tuple #[P_ none,S_ none 0 0,I_ J_ 1])/\L_ w w':=by
 have HK:=ZH (((ZKr w).alloc (C_ #[I_ J_ 0,I_ J_ 0,I_ J_ 0,I_ J_ 0,I_ J_ 0,I_ J_ 0] 23)).alloc (C_ #[S_ none 0 0] 24));go_enter func53,ntmps53;go_wp2_with fail;refine(ZkQ _).mono ?_;rintro _ w1 ⟨rfl,cz⟩;have da:=ZH ((HK.out.step cz).alloc (C_ #[P_ none] 27));clear cz;go_wp2_with fail;refine bodyPost_ret (results_tmp3 rfl _ _ _) rfl ?_;exact⟨rfl,da.out.below⟩
theorem ZnZ(w:World):Calls prog 26 #[Zmj,S_ none 0 0] w λe w'=>e=R_ (.tuple #[.agg Zba,I_ J_ 1])/\L_ w w':=by
 have hk:=((ZKr w).alloc (C_ #[I_ J_ 0,I_ J_ 0,I_ J_ 0,I_ J_ 0,I_ J_ 0,I_ J_ 0] 23)).alloc (C_ Zba 69);have hz:=ZBn (w.alloc (C_ #[I_ J_ 0,I_ J_ 0,I_ J_ 0,I_ J_ 0,I_ J_ 0,I_ J_ 0] 23)) 69 Zba;obtain⟨W0,iq⟩:∃W0,W0=(w.alloc (C_ #[I_ J_ 0,I_ J_ 0,I_ J_ 0,I_ J_ 0,I_ J_ 0,I_ J_ 0] 23)).alloc (C_ Zba 69):=⟨_,rfl⟩;have eo:=(ZBn w 23 #[I_ J_ 0,I_ J_ 0,I_ J_ 0,I_ J_ 0,I_ J_ 0,I_ J_ 0]).alloc (C_ Zba 69);rw[←iq]at hk hz eo;obtain⟨c0,c1,c2,c3,c4,c5⟩:=eo.aR;have fg:=eo.lt;rw[World.size_alloc]at hz;obtain⟨HK,HZ,nk⟩:=ZH3 hk hz iq;clear hk hz iq eo;go_enter func26,ntmps26
 go_wp2_with (first
  |(refine ZS rfl 69 rfl Zba ZK ?_
    rw[←nk.out]))
 refine(ZnW _).mono ?_;rintro _ w1 ⟨rfl,cz⟩;obtain⟨da,lK⟩:=ZH2 (HK.out.step cz) (HZ.out.ob cz);clear cz c0 c1 c2 c3 c4 c5 fg
 go_wp2_with (first
  |(refine Zat rfl 69 _ rfl Zba ?hf ?_
    case hf =>
     go_simp
     kernel_rfl)
  |(refine wpList_store_row rfl 69 (.tmp 4) (.tmp 18) rfl (w.heap.size+1) Zba rfl rfl 69 Zba lK.out Zh8 rfl ZK ?_))
 refine bodyPost_ret (Zq rfl rfl rfl (run_loadVar_row _ _ _ _ _ _ _ (lK.out.row Zba) ZpX rfl Zh8)) rfl ?_;exact⟨rfl,(da.out.row ZO _).below⟩
def ZcY:Cfg:=⟨2,2,2,4,2,2⟩
def Zey:St:=⟨0,0,1,⟨#[99,121]⟩,0,⟨#[]⟩,0,0,0,0,false⟩
def ZgE:WS:=ZaW ZcY 2 (Z4 ZcY (ZdZ ZcY) Zey).1
theorem ZsX:(siteN (ZgE.nodes 1).s).clk=⟨1,0,0,0,0⟩:=ZK
theorem Zuf:(ZgE.nodes 1).s.up=true:=ZK
theorem Zrt:(listN (ZgE.nodes 1).s.book).map (λc=>c.key)=[⟨#[99,121]⟩]:=ZK
theorem Zux:(prog.info? 28).map (λi=>(i.zero,i.size,i.bytes))=some (some (I_ J_ 0),1,8):=ZK
theorem Zuz:(prog.info? 38).map (λi=>(i.zero,i.size,i.bytes))=some (some (S_ none 0 0),1,24):=ZK
theorem ZuB:(prog.info? 47).map (λi=>(i.zero,i.size,i.bytes))=some (some (.agg (Zp false ZCz 0 (S_ none 0 0) (S_ none 0 0))),9,104):=ZK
theorem ZuF(w:World):(Instr.makeSlice 182 (I_ J_ 1) (I_ J_ 1)).run prog w=.ok (S_ (some ⟨w.heap.size,0,none⟩) 1 1) (w.alloc (C_ #[I_ J_ 0] 28)):=by
 obtain⟨i0,hi,dd,cV,dc⟩:=info_parts Zux;have h:=run_makeSlice (P:=prog) (w:=w) 182 28 i0 (I_ J_ 0) underlying182 hi dd .i64 .i64 1 1 ZO (Int.le_refl _) (by rw[cV];omega) (by rw[dc];omega) ZO;rw[cV]at h;have e:madeCells (Value.int .i64 0).cells (1*1)=#[I_ J_ 0]:=ZK;rw[h];show Result.ok _ (w.alloc (C_ (madeCells (Value.int .i64 0).cells (1*1)) _))=_
 rw[e];rfl
theorem ZuG(w:World):(Instr.makeSlice 115 (I_ J_ 2) (I_ J_ 2)).run prog w=.ok (S_ (some ⟨w.heap.size,0,none⟩) 2 2) (w.alloc (C_ #[S_ none 0 0,S_ none 0 0] 38)):=by
 obtain⟨i0,hi,dd,cV,dc⟩:=info_parts Zuz;have h:=run_makeSlice (P:=prog) (w:=w) 115 38 i0 (S_ none 0 0) underlying115 hi dd .i64 .i64 2 2 ZO (Int.le_refl _) (by rw[cV];omega) (by rw[dc];omega) ZO;rw[cV]at h;have e:madeCells (Value.slice none 0 0).cells (2*1)=#[S_ none 0 0,S_ none 0 0]:=ZK;rw[h];show Result.ok _ (w.alloc (C_ (madeCells (Value.slice none 0 0).cells (2*1)) _))=_
 rw[e];rfl
abbrev Zl7:List Value:=(Zp false ZCz 0 (S_ none 0 0) (S_ none 0 0)).toList
theorem ZuH(w:World):(Instr.makeSlice 184 (I_ J_ 2) (I_ J_ 2)).run prog w=.ok (S_ (some ⟨w.heap.size,0,none⟩) 2 2) (w.alloc (C_ (Zl7++Zl7).toArray 47)):=by
 obtain⟨i0,hi,dd,cV,dc⟩:=info_parts ZuB;have h:=run_makeSlice (P:=prog) (w:=w) 184 47 i0 _ underlying184 hi dd .i64 .i64 2 2 ZO (Int.le_refl _) (by rw[cV];omega) (by rw[dc];omega) ZO;rw[cV]at h;have e:madeCells (Zp false ZCz 0 (S_ none 0 0) (S_ none 0 0)) (2*9)=(Zl7++Zl7).toArray:=ZK;rw[h];show Result.ok _ (w.alloc (C_ (madeCells (Zp false ZCz 0 (S_ none 0 0) (S_ none 0 0)) (2*9)) _))=_
 rw[e];rfl
section
variable {own:Own}{t p m b:Nat}{w:World}{c:Cfg}{B:Bd}{x:WS}
theorem ZnV{s:St}(ht:0<t)(h:WorldAt own t w p c x)(hf:Fresh own w)(hi:WInv c B m b x)(hc:c.Ok)(hm:m<100)(hb:b+1<=700)(hs:StOk c s){b7 b3:Nat}(h7:Blk w b7 27 #[ptrV p])(h3:Blk w b3 24 #[S_ (some ⟨g,0,none⟩) 1 1])(hg:Blk w g 36 (ZaI s)):
  Calls prog 100 #[I_ J_ 0,ptrV b7,ptrV b3] w (Zeb own t p c w s (Z4 c x)):=by
 have h5:=hc.n5;obtain⟨HW,HF,HI,HC,HS,H7,H3,HG⟩:=ZH8 h hf hi hc hs h7 h3 hg;clear h hf hi hc hs h7 h3 hg;go_enter func100,ntmps100;go_wp2_with fail;refine ZSi [(0,0),(1,0),(2,3),(3,3),(4,0),(5,2),(6,3)] λcu=>?_
 repeat((first|refine ZSa ?_|refine ZSb ?_|(refine Zf rfl (by rfl) (λw' cL=>by(have h7:=(H7.out.ob cL.below).cell 0;simp only[ZD,ZE]at h7);(have h3:=(H3.out.ob cL.below).cell 0;simp only[ZD,ZE]at h3);(obtain⟨x0,x1,x2,x3,x4,x5,x6,x7,x8,x9⟩:=(HG.out.ob cL.below).aQ);go_simp;with_reducible rfl) ?_));simp only[Act.put,Q_])
 refine ZSe λK hK=>?_
 go_simp;have dE:Upd (λ_=>False) own own w w.drew:=ZUb (ZW w.heap.size w).drew HF.out;refine(Zkm ht (HW.out.upd dE (λ_ _ h=>h) (λh=>h) h5) dE.fresh HI.out HC.out ZO ZO HS.out).mono ?_;intro e w2 hP;obtain⟨tb,gH,rfl,own',hw,hu⟩:=hP;have HP:Hid (Zeb own t p c w s (Z4 c x) (R_ (I_ J_ (Z4 c x (Zw s tb)).2)) w2):=ZH ⟨tb,gH,rfl,own',hw,(dE.mono (T':=Zu t) λn h=>h.elim).trans hu⟩;clear gH hw hu dE;obtain⟨kc,ww⟩:∃kc,kc=(Z4 c x (Zw s tb)).2:=⟨_,rfl⟩;rw[←ww]at HP ⊢;refine hK.out _ _ ?_;clear hK K cu ww;repeat((first|refine ZSa ?_|refine ZSb ?_|refine ZSc ?_);simp only[Act.put,Q_])
 refine ZSf ?_;go_wp2
 go_ret;exact HP.out
def Zi9(own:Own)(t p:Nat)(c:Cfg)(w:World)(s:St)(x:WS)(e:Ending)(w':World):Prop :=
 ∃tb a own',(s.kind≠7->tb=s.turned)/\e=R_ (S_ (some a) 1 1)/\WorldAt own' t w' p c (Z4 c x (Zw s tb)).1/\Upd (Zu t) own own' w w'
theorem ZnA{s:St}(ht:0<t)(h:WorldAt own t w p c x)(hf:Fresh own w)(hi:WInv c B m b x)(hc:c.Ok)(hm:m<100)(hb:b+1<=700)(hs:StOk c s){b7 b3:Nat}(h7:Blk w b7 27 #[ptrV p])(h3:Blk w b3 24 #[S_ (some ⟨g,0,none⟩) 1 1])(hg:Blk w g 36 (ZaI s)):
  Calls prog 99 #[I_ J_ 1,.func (.func 100) #[] #[ptrV b7,ptrV b3]] w (Zi9 own t p c w s x):=by
 have h5:=hc.n5;have j6:=ZuF;have hk:=(ZKr w).alloc (C_ #[I_ J_ 0] 28);have hu:Upd (λ_=>False) own own w (w.alloc (C_ #[I_ J_ 0] 28)):=ZUb hk.below hf;have gW:=ZBn w 28 #[I_ J_ 0];have IT:=hu.az (ZL w.heap.size) gW.lt (t+5000);obtain⟨o0,OV⟩:∃o0,o0=own.at_ w.heap.size (t+5000):=⟨_,rfl⟩;rw[←OV]at IT;have p7:Hid (o0 w.heap.size=t+5000):=ZH (by rw[OV];exact ZPp rfl);obtain⟨eY,HB,HU⟩:=ZH3 (ZnV ht (h.upd IT (λ_ _ h=>h) (λh=>h) h5) IT.fresh hi hc hm hb hs (h7.ob hk.below) (h3.ob hk.below) (hg.ob hk.below)) gW IT;obtain⟨W0,iq⟩:∃W0,W0=w.alloc (C_ #[I_ J_ 0] 28):=⟨_,rfl⟩;have nk:=ZH iq;rw[←iq]at HB HU eY;clear h hf hi hs h7 h3 hg hk hu iq IT OV gW;go_enter func99,ntmps99;go_wp2_with fail;rw[←nk.out];go_loopw [11] (λi wr=>(i=I_ J_ 0/\Hid (wr=W0))∨(i=I_ J_ 1/\Hid (Zi9 own t p c w s x (R_ (S_ (some ⟨w.heap.size,0,none⟩) 1 1)) wr))) (λi _=>1-(intOf i).toNat)
 case atStart=>exact .inl ⟨rfl,ZH rfl⟩
 case round =>
  rcases hrel with ⟨rfl,hrel⟩|⟨rfl,hrel⟩
  ·obtain rfl:=hrel.out;go_wp2_with fail;refine eY.out.mono ?_;intro e w2 hP;obtain⟨tb,gH,rfl,own',hw,hu⟩:=hP;obtain⟨kc,ww⟩:∃kc,kc=(Z4 c x (Zw s tb)).2:=⟨_,rfl⟩;rw[←ww];have cD:=HB.out.upd hu (by rw[p7.out];rintro⟨h1,h2⟩;omega);have rM:=(hu.old _ HB.out.lt).trans p7.out;have eo:=cD.cell 0;simp only[ZD,ZE]at eo;have rA:=cD.frozen 0;have cW:=cD.lt;have mV:=hw.upd ((Upd.refl (· = t+5000) own' w2 hu.fresh).setCell (p:=⟨w.heap.size,0,none⟩) (λ_=>rM) (I_ J_ kc)) (λn hn=>by obtain⟨h1,h2⟩:=hn;omega) ZO h5;have de:Upd (Zu t) own own' w (w2.setCell ⟨w.heap.size,0,none⟩ (I_ J_ kc)):=((HU.out.mono (T':=Zu t) λn h=>h.elim).trans hu).setCell (p:=⟨w.heap.size,0,none⟩) (λh=>absurd h (Nat.lt_irrefl _)) _;have HP:Hid (Zi9 own t p c w s x (R_ (S_ (some ⟨w.heap.size,0,none⟩) 1 1)) (w2.setCell ⟨w.heap.size,0,none⟩ (I_ J_ kc))):=ZH ⟨tb,_,own',gH,rfl,mV,de⟩;clear gH hw hu ww cD rM mV de;go_wp2
   go_roundw
   case rel=>exact .inr ⟨rfl,HP⟩
   case measure=>simp[intOf]
  ·go_wp2
   go_ret;exact hrel.out
end
def Zjy(own:Own)(t:Nat)(c:Cfg)(w:World)(s:St)(e:Ending)(w':World):Prop :=
 ∃tb a p own',(s.kind≠7->tb=s.turned)/\e=R_ (.tuple #[ptrV p,S_ (some a) 1 1,I_ J_ 0])/\WorldAt own' t w' p c (Z4 c (ZdZ c) (Zw s tb)).1/\Upd (Zu t) own own' w w'
section
variable {own:Own}{t:Nat}{w:World}{c:Cfg}
theorem ZpJ{s:St}(ht:0<t)(hf:Fresh own w)(hc:c.Ok)(hs:StOk c s)(hg:Blk w g 36 (ZaI s))(ie:own g=0):
  Calls prog 53 #[Zd1 c,S_ (some ⟨g,0,none⟩) 1 1] w (Zjy own t c w s):=by
 have h5:=hc.n5;have hk:=((ZKr w).alloc (C_ (cfgArr c) 23)).alloc (C_ #[S_ (some ⟨g,0,none⟩) 1 1] 24);have hu:Upd (λ_=>False) own own w ((w.alloc (C_ (cfgArr c) 23)).alloc (C_ #[S_ (some ⟨g,0,none⟩) 1 1] 24)):=ZUb hk.below hf;have cD:=(ZBn w 23 (cfgArr c)).alloc (C_ #[S_ (some ⟨g,0,none⟩) 1 1] 24);have cG:=ZBn (w.alloc (C_ (cfgArr c) 23)) 24 #[S_ (some ⟨g,0,none⟩) 1 1];rw[World.size_alloc]at cG;have oR:=hg.ob hk.below;have ik:=ZlJ ht hu.fresh hc;obtain⟨W0,iq⟩:∃W0,W0=(w.alloc (C_ (cfgArr c) 23)).alloc (C_ #[S_ (some ⟨g,0,none⟩) 1 1] 24):=⟨_,rfl⟩;rw[←iq]at hu cD cG oR ik;obtain⟨nk,HU,H2,H3,HG,HN,HS,HC⟩:=ZH8 iq hu cD cG oR ik hs hc;have iR:Hid (own (w.heap.size+1)=0):=ZH (hf _ ZO);have s9:=ZH ie;obtain⟨c0,c1,c2,c3,c4,c5⟩:=cD.aR;have jc:=cD.lt;clear hf hs hg hk hu cD cG oR ik iq ie hc;go_enter func53,ntmps53;go_wp2_with fail;rw[←nk.out];refine HN.out.mono ?_;rintro _ w1 ⟨p,cZ,rfl,dD,cN⟩;obtain⟨KG,s8⟩:=ZH2 (H3.out.upd cN (by rw[iR.out];rintro⟨h1,h2⟩;omega)) (HG.out.upd cN (by rw[s9.out];rintro⟨h1,h2⟩;omega));have wz:=(ZKr w1).alloc (C_ #[ptrV p] 27);have wF:Upd (λ_=>False) cZ cZ w1 (w1.alloc (C_ #[ptrV p] 27)):=ZUb wz.below cN.fresh;have TB:Hid (cZ (w.heap.size+1)=0):=ZH ((cN.old _ H3.out.lt).trans iR.out);have TF:Hid (cZ w1.heap.size=0):=ZH (cN.fresh _ (ZL _));obtain⟨gk,dA,H7,Ax,oM⟩:=ZH5 (dD.upd wF (λ_ _ h=>h) (λh=>h) h5) (((HU.out.mono (T':=Zu t) λn h=>h.elim).trans cN).trans (wF.mono (T':=Zu t) λn h=>h.elim)) (ZBn w1 27 #[ptrV p]) (KG.out.ob wz.below) (s8.out.ob wz.below);clear dD cN wF wz c0 c1 c2 c3 c4 c5 jc;go_wp2_with fail;obtain⟨b7,jY⟩:∃b7,b7=w1.heap.size:=⟨_,rfl⟩;rw[←jY]at H7 ⊢;have TE:Hid (cZ b7=0):=ZH (by rw[jY];exact TF.out);generalize w1.alloc (C_ #[ptrV p] 27)=W1 at *;clear jY;refine ZSg (λw'=>Blk w' b7 27 #[ptrV p]/\Blk w' (w.heap.size+1) 24 #[S_ (some ⟨g,0,none⟩) 1 1]) [(0,0),(1,0),(2,3),(3,1),(4,1),(5,3),(6,3),(7,3)] (⟨H7.out,Ax.out⟩) λcu=>?_
 repeat((first|refine ZSa ?_|refine ZSb ?_|(refine Zf rfl (by rfl) (λw' cL=>by(have h7:=cL.1.cell 0;simp only[ZD,ZE]at h7);(have h3:=cL.2.cell 0;simp only[ZD,ZE]at h3);go_simp;with_reducible rfl) ?_));simp only[Act.put,Q_])
 refine ZSd λK hK=>?_
 go_simp;refine hK.out (λw'=>Blk w' b7 27 #[ptrV p]/\Blk w' (w.heap.size+1) 24 #[S_ (some ⟨g,0,none⟩) 1 1]) _ _ (λ_ h=>h) cu (λcA=>?_);clear hK K cu;repeat((first|refine ZSa ?_|refine ZSb ?_|refine ZSc ?_);simp only[Act.put,Q_])
 refine ZSd λK hK=>?_
 go_simp;have iU:=(ZW W1.heap.size W1).drew;have dE:Upd (λ_=>False) cZ cZ W1 W1.drew:=ZUb iU dA.out.fresh;refine(ZnA ht (gk.out.upd dE (λ_ _ h=>h) (λh=>h) h5) dE.fresh (WInv.new c) HC.out ZO ZO HS.out (H7.out.ob iU) (Ax.out.ob iU) (oM.out.ob iU)).mono ?_;rintro _ w2 ⟨tb,a,cK,gH,rfl,ee,cM⟩;have yz:=(H7.out.ob iU).upd cM (by rw[TE.out];rintro⟨h1,h2⟩;omega);have ku:=(Ax.out.ob iU).upd cM (by rw[TB.out];rintro⟨h1,h2⟩;omega);have HP:Hid (Zjy own t c w s (R_ (.tuple #[ptrV p,S_ (some a) 1 1,I_ J_ 0])) w2):=ZH ⟨tb,a,p,cK,gH,rfl,ee,(dA.out.trans (dE.mono (T':=Zu t) λn h=>h.elim)).trans cM⟩;refine hK.out (λw'=>Blk w' b7 27 #[ptrV p]/\Blk w' (w.heap.size+1) 24 #[S_ (some ⟨g,0,none⟩) 1 1]) _ _ (λ_ h=>h) ⟨yz,ku⟩ (λcu=>?_);clear hK K cA gH ee cM dE iU yz ku;repeat((first|refine ZSa ?_|refine ZSb ?_|refine ZSc ?_);simp only[Act.put,Q_])
 refine ZSf ?_;go_wp2_with fail;go_ret3
 exact HP.out
end
section
variable {own:Own}{t p m b:Nat}{w:World}{c:Cfg}{B:Bd}{x:WS}
theorem Zi2{r bx:Nat}(h:WorldAt own t w p c x)(hf:Fresh own w)(hi:WInv c B m b x)(hc:c.Ok)(hm:m<=100)(hr:r<c.n)(dJ:(x.nodes r).s.up=true)(hb:Blk w bx 27 #[ptrV p]):
  Calls prog 56 #[I_ J_ r,ptrV bx] w (ZgH (listN (x.nodes r).s.book) w):=by
 have HL:=ZH (Zp5 h hf hi hc hm hr);have zy:=hb.cell 0;simp only[ZD,ZE]at zy;have cW:=hb.lt;have UK:=ZH dJ;clear h hf hi hb dJ;go_enter func56,ntmps56;go_wp2_with fail;refine HL.out.mono ?_;intro e w2 hP;unfold ZdE at hP;rw[ZPp UK.out]at hP;obtain⟨v,rfl,jC⟩:=hP;have HB:=ZH jC;clear jC;go_wp2
 go_ret;exact HB.out
def ZhC(cs:List Con)(w:World)(e:Ending)(w':World):Prop:=∃gl v0 v1 ps,e=R_ (S_ (some ⟨gl,0,none⟩) 2 2)/\w.heap.size<=gl/\Blk w' gl 38 #[v0,v1]/\ps.map (·.1)=cs/\ConRows w.heap.size w' v1 ps/\L_ w w'
theorem ZoX{bx:Nat}(h:WorldAt own t w p c x)(hf:Fresh own w)(hi:WInv c B m b x)(hc:c.Ok)(hm:m<=100)(hn:c.n=2)(dt:(x.nodes 0).s.up=true)(cN:(x.nodes 1).s.up=true)(hb:Blk w bx 27 #[ptrV p]):
  Calls prog 55 #[I_ J_ 2,.func (.func 56) #[] #[ptrV bx]] w (ZhC (listN (x.nodes 1).s.book) w):=by
 have h5:=hc.n5;have j6:=ZuG;obtain⟨HK,HG,HW,HF,HI,H0,H1,HB⟩:=ZH8 ((ZKr w).alloc (C_ #[S_ none 0 0,S_ none 0 0] 38)) (ZBn w 38 #[S_ none 0 0,S_ none 0 0]) h hf hi dt cN hb;clear h hf hi dt cN hb;go_enter func55,ntmps55;go_wp2_with fail;go_loopw [11] (λi wr=>(i=I_ J_ 0/\Hid (Blk wr w.heap.size 38 #[S_ none 0 0,S_ none 0 0])/\Hid (K_ w wr))∨(i=I_ J_ 1/\Hid (∃v0,Blk wr w.heap.size 38 #[v0,S_ none 0 0])/\Hid (K_ w wr))∨(i=I_ J_ 2/\Hid (ZhC (listN (x.nodes 1).s.book) w (R_ (S_ (some ⟨w.heap.size,0,none⟩) 2 2)) wr))) (λi _=>2-(intOf i).toNat)
 case atStart=>exact .inl ⟨rfl,HG,HK⟩
 case round =>
  skip
  rcases hrel with ⟨rfl,HG,HK⟩|⟨rfl,HG,HK⟩|⟨rfl,HP⟩
  ·have hu:Upd (λ_=>False) own own w wr:=ZUb HK.out.below HF.out;have HC:=ZH (Zi2 (r:=0) (HW.out.upd hu (λ_ _ h=>h) (λh=>h) h5) hu.fresh HI.out hc hm ZO H0.out (HB.out.ob HK.out.below));clear hu;go_wp2_with fail;refine HC.out.mono ?_;rintro _ w2 ⟨v,ps,rfl,gP,cT,cD⟩;have eQ:=HG.out.ob cD;have cX:=HK.out.step cD;obtain⟨av,nv,cv,rfl⟩:=Zbx cT.1;have eo:=eQ.cell 0;simp only[ZD,ZE]at eo;have rA:=eQ.frozen 0;have cI:=eQ.lt;have EE:Hid (∃v0,Blk (w2.setCell ⟨w.heap.size,0,none⟩ (S_ av nv cv)) w.heap.size 38 #[v0,S_ none 0 0]):=ZH ⟨S_ av nv cv,by have:=eQ.aj 0 (S_ av nv cv);simpa using this⟩;have cU:=ZH (cX.setCell (p:=⟨w.heap.size,0,none⟩) (ZL _) (S_ av nv cv));clear gP cT cD cX eQ;go_wp2
   go_roundw
   case rel=>exact .inr (.inl ⟨rfl,EE,cU⟩)
   case measure=>simp[intOf]
  ·obtain⟨v0,GI⟩:=HG.out;have HG:=ZH GI;have hu:Upd (λ_=>False) own own w wr:=ZUb HK.out.below HF.out;have HC:=ZH (Zi2 (r:=1) (HW.out.upd hu (λ_ _ h=>h) (λh=>h) h5) hu.fresh HI.out hc hm ZO H1.out (HB.out.ob HK.out.below));clear hu GI;go_wp2_with fail;refine HC.out.mono ?_;rintro _ w2 ⟨v,ps,rfl,gP,cT,cD⟩;have eQ:=HG.out.ob cD;have cX:=HK.out.step cD;obtain⟨av,nv,cv,rfl⟩:=Zbx cT.1;have eo:=eQ.cell 1;simp only[ZD,ZE,ZG]at eo;have rA:=eQ.frozen 1;have cI:=eQ.lt;have dR:w.heap.size<wr.heap.size:=HG.out.lt;have jN:∀k,wr.heap.size<=k->(w2.setCell ⟨w.heap.size,1,none⟩ (S_ av nv cv)).heap[k]? = w2.heap[k]? := λk hk=>Below.heap_setCell _ _ _ _ (λe=>by simp only at e;omega)
   have Ae:ConRows wr.heap.size (w2.setCell ⟨w.heap.size,1,none⟩ (S_ av nv cv)) (S_ av nv cv) ps:=⟨Zi cT.1 (λg hg _=>jN g (Zb cT.1 hg).1),λq hq=>Zi (cT.s0 q hq) (λg hg _=>jN g (Zb (cT.s0 q hq) hg).1),λq hq=>Zi (cT.s1 q hq) (λg hg _=>jN g (Zb (cT.s1 q hq) hg).1)⟩;have HP:Hid (ZhC (listN (x.nodes 1).s.book) w (R_ (S_ (some ⟨w.heap.size,0,none⟩) 2 2)) (w2.setCell ⟨w.heap.size,1,none⟩ (S_ av nv cv))):=ZH ⟨w.heap.size,v0,S_ av nv cv,ps,rfl,ZL _,by have:=eQ.aj 1 (S_ av nv cv);simpa using this,gP,Ae.mono HK.out.le,(cX.setCell (p:=⟨w.heap.size,1,none⟩) (ZL _) (S_ av nv cv)).below⟩;clear gP cT cD cX eQ jN Ae dR;go_wp2
   go_roundw
   case rel=>exact .inr (.inr ⟨rfl,HP⟩)
   case measure=>simp[intOf]
  ·go_wp2
   go_ret;exact HP.out
theorem Zq8{A B X:List Value}(hA:A.length=9)(hX:X.length=9):(A++B).take 0++X++(A++B).drop (0+X.length)=X++B:=by
 rw[List.take_zero,List.nil_append,hX,Nat.zero_add,List.drop_append,List.drop_of_length_le ZO,hA,Nat.sub_self,List.drop_zero,List.nil_append]
theorem ZpD{A B X:List Value}(hA:A.length=9)(hB:B.length=9)(hX:X.length=9):(A++B).take 9++X++(A++B).drop (9+X.length)=A++X:=by
 rw[List.take_append,ZU ZO,hA,Nat.sub_self,List.take_zero,List.append_nil,List.drop_of_length_le (by rw[ZI];omega),List.append_nil]
theorem Znf{w:World}{A B:List Value}(X:Array Value)(h:Blk w g 47 (A++B).toArray)(hA:A.length=9)(hB:B.length=9)(hX:X.size=9):Blk (setAll w g 0 X.toList) g 47 (X.toList++B).toArray/\Blk (setAll w g 9 X.toList) g 47 (A++X.toList).toArray/\w.there g 0 9/\w.there g 9 9:=by
 have hl:(A++B).length=18:=by rw[ZI];omega
 have hx:X.toList.length=9:=by rw[Array.length_toList];exact hX
 have h1:=Zbr X.toList 0 w (A++B) h ZO;have h2:=Zbr X.toList 9 w (A++B) h ZO;rw[Zq8 hA hx]at h1;rw[ZpD hA hB hx]at h2;have kU:∀o,o<=9->w.there g o 9:=λo ho i hi=>by
  refine⟨?_,h.frozen _⟩;rw[h.cell,Array.getElem?_eq_getElem (by rw[List.size_toArray];omega)];rfl
 exact⟨h1,h2,kU 0 ZO,kU 9 ZO⟩
def Zb8(up:Bool)(c:Clk)(sent:Nat)(vh vl:Value):Array Value:=Zp up c sent vh vl
def Zew:List Value:=(Zb8 false ZCz 0 (S_ none 0 0) (S_ none 0 0)).toList
theorem Zi3(up:Bool)(c:Clk)(sent:Nat)(vh vl:Value):(Zb8 up c sent vh vl).size=9:=rfl
theorem Zkg(up:Bool)(c:Clk)(sent:Nat)(vh vl:Value):(Zb8 up c sent vh vl).toList.length=9:=rfl
theorem Zie:Zew.length=9:=rfl
theorem Zt5(w:World):(Instr.makeSlice 184 (I_ J_ 2) (I_ J_ 2)).run prog w=.ok (S_ (some ⟨w.heap.size,0,none⟩) 2 2) (w.alloc (C_ (Zew++Zew).toArray 47)):=ZuH w
def ZhE(S:SiteN)(w:World)(e:Ending)(w':World):Prop:=∃gs v0 v1 u0 c0 n0 ql qm,e=R_ (S_ (some ⟨gs,0,none⟩) 2 2)/\w.heap.size<=gs/\v0=Zb8 u0 c0 n0 ql qm/\(∃vh vl,v1=Zb8 S.up S.clk S.sent vh vl)/\Blk w' gs 47 (v0.toList++v1.toList).toArray/\L_ w w'
theorem ZoY(h:WorldAt own t w p c x)(hf:Fresh own w)(hi:WInv c B m b x)(hc:c.Ok)(hm:m<=100)(hn:c.n=2):
  Calls prog 101 #[I_ J_ 2,.func (.func 18) #[ptrV p] #[]] w (ZhE (siteN (x.nodes 1).s) w):=by
 have h5:=hc.n5;have j6:=Zt5;obtain⟨HK,HG,HW,HF,HI⟩:=ZH5 ((ZKr w).alloc (C_ (Zew++Zew).toArray 47)) (ZBn w 47 (Zew++Zew).toArray) h hf hi;clear h hf hi;go_enter func101,ntmps101;go_wp2_with fail;go_loopw [11] (λi wr=>(i=I_ J_ 0/\Hid (Blk wr w.heap.size 47 (Zew++Zew).toArray)/\Hid (Kept w.heap.size w wr))∨(i=I_ J_ 1/\Hid (∃u0 c0 n0 ql qm,Blk wr w.heap.size 47 ((Zb8 u0 c0 n0 ql qm).toList++Zew).toArray)/\Hid (Kept w.heap.size w wr))∨(i=I_ J_ 2/\Hid (ZhE (siteN (x.nodes 1).s) w (R_ (S_ (some ⟨w.heap.size,0,none⟩) 2 2)) wr))) (λi _=>2-(intOf i).toNat)
 case atStart=>exact .inl ⟨rfl,HG,HK⟩
 case round =>
  skip
  rcases hrel with ⟨rfl,HG,HK⟩|⟨rfl,HG,HK⟩|⟨rfl,HP⟩
  ·have hu:Upd (λ_=>False) own own w wr:=ZUb HK.out.below HF.out;have HC:=ZH (Zhp (r:=0) (HW.out.upd hu (λ_ _ h=>h) (λh=>h) h5) hu.fresh HI.out hc hm ZO);clear hu;go_wp2_with fail;refine HC.out.mono ?_;rintro _ w2 ⟨vh,vl,rfl,kR,jP,cD⟩;have eQ:=HG.out.ob cD;have cX:=HK.out.step cD;obtain⟨ah,nh,ch,rfl⟩:=Zbx kR;obtain⟨al,nl,cl,rfl⟩:=Zbx jP;obtain⟨S,hS⟩:∃S,S=siteN (x.nodes 0).s:=⟨_,rfl⟩;rw[←hS];obtain⟨cG,_,kU,_⟩:=Znf (Zb8 S.up S.clk S.sent (S_ ah nh ch) (S_ al nl cl)) eQ Zie Zie (Zi3 _ _ _ _ _);have EE:Hid (∃u0 c0 n0 ql qm,Blk (setAll w2 w.heap.size 0 (Zb8 S.up S.clk S.sent (S_ ah nh ch) (S_ al nl cl)).toList) w.heap.size 47 ((Zb8 u0 c0 n0 ql qm).toList++Zew).toArray):=ZH ⟨S.up,S.clk,S.sent,S_ ah nh ch,S_ al nl cl,cG⟩;have cU:=ZH (Zaf cX (g:=w.heap.size) (ZL _) 0 (Zb8 S.up S.clk S.sent (S_ ah nh ch) (S_ al nl cl)).toList);have Ci:=λi=>eQ.frozen i
   obtain⟨z0,y0⟩:=ZQ.1 (kU 0 ZO).1;obtain⟨z1,y1⟩:=ZQ.1 (kU 1 ZO).1;obtain⟨z2,y2⟩:=ZQ.1 (kU 2 ZO).1;obtain⟨z3,y3⟩:=ZQ.1 (kU 3 ZO).1;obtain⟨z4,y4⟩:=ZQ.1 (kU 4 ZO).1;obtain⟨z5,y5⟩:=ZQ.1 (kU 5 ZO).1;obtain⟨z6,y6⟩:=ZQ.1 (kU 6 ZO).1;obtain⟨z7,y7⟩:=ZQ.1 (kU 7 ZO).1;obtain⟨z8,y8⟩:=ZQ.1 (kU 8 ZO).1;simp only[Nat.zero_add]at y0 y1 y2 y3 y4 y5 y6 y7 y8;have cI:=eQ.lt;clear cG cX eQ kR jP cD hS kU;go_wp2
   go_roundw
   case rel=>exact .inr (.inl ⟨rfl,EE,cU⟩)
   case measure=>simp[intOf]
  ·obtain⟨u0,k0,n0,ql,qm,GI⟩:=HG.out;have HG:=ZH GI;have hu:Upd (λ_=>False) own own w wr:=ZUb HK.out.below HF.out;have HC:=ZH (Zhp (r:=1) (HW.out.upd hu (λ_ _ h=>h) (λh=>h) h5) hu.fresh HI.out hc hm ZO);clear hu GI;go_wp2_with fail;refine HC.out.mono ?_;rintro _ w2 ⟨vh,vl,rfl,kR,jP,cD⟩;have eQ:=HG.out.ob cD;have cX:=HK.out.step cD;obtain⟨ah,nh,ch,rfl⟩:=Zbx kR;obtain⟨al,nl,cl,rfl⟩:=Zbx jP;obtain⟨S,hS⟩:∃S,S=siteN (x.nodes 1).s:=⟨_,rfl⟩;obtain⟨_,cG,_,kU⟩:=Znf (Zb8 S.up S.clk S.sent (S_ ah nh ch) (S_ al nl cl)) eQ (Zkg _ _ _ _ _) Zie (Zi3 _ _ _ _ _);have HP:Hid (ZhE (siteN (x.nodes 1).s) w (R_ (S_ (some ⟨w.heap.size,0,none⟩) 2 2)) (setAll w2 w.heap.size 9 (Zb8 S.up S.clk S.sent (S_ ah nh ch) (S_ al nl cl)).toList)):=by
    rw[←hS];exact ZH ⟨w.heap.size,_,_,u0,k0,n0,ql,qm,rfl,ZL _,rfl,⟨S_ ah nh ch,S_ al nl cl,rfl⟩,cG,(Zaf cX (g:=w.heap.size) (ZL _) 9 (Zb8 S.up S.clk S.sent (S_ ah nh ch) (S_ al nl cl)).toList).below⟩
   rw[←hS];have Ci:=λi=>eQ.frozen i
   obtain⟨z0,y0⟩:=ZQ.1 (kU 0 ZO).1;obtain⟨z1,y1⟩:=ZQ.1 (kU 1 ZO).1;obtain⟨z2,y2⟩:=ZQ.1 (kU 2 ZO).1;obtain⟨z3,y3⟩:=ZQ.1 (kU 3 ZO).1;obtain⟨z4,y4⟩:=ZQ.1 (kU 4 ZO).1;obtain⟨z5,y5⟩:=ZQ.1 (kU 5 ZO).1;obtain⟨z6,y6⟩:=ZQ.1 (kU 6 ZO).1;obtain⟨z7,y7⟩:=ZQ.1 (kU 7 ZO).1;obtain⟨z8,y8⟩:=ZQ.1 (kU 8 ZO).1;simp only[Nat.reduceAdd,Nat.add_zero]at y0 y1 y2 y3 y4 y5 y6 y7 y8;have cI:=eQ.lt;clear cG cX eQ kR jP cD hS kU;go_wp2
   go_roundw
   case rel=>exact .inr (.inr ⟨rfl,HP⟩)
   case measure=>simp[intOf]
  ·go_wp2
   go_ret;exact HP.out
end
theorem Zqe(at_ qc:Option Addr)(nt ct ns cs:Nat)(u:Bool)(b l:Clk)(h:ac.length=5)(k:Int):prog.built 69 [(0,S_ at_ nt ct),(1,S_ qc ns cs),(2,Zbw u b l ac),(3,I_ J_ k)]=some (Zcv (S_ at_ nt ct) (S_ qc ns cs) u b l ac k):=by
 obtain⟨a0,a1,a2,a3,a4,rfl⟩:=Zer h;kernel_rfl
theorem ZkI(at_ qc:Option Addr)(nt ct ns cs:Nat)(u:Bool)(b l:Clk)(ac:List Clk)(k:Int):(Zcv (S_ at_ nt ct) (S_ qc ns cs) u b l ac k).all (·.oneCell')=true:=by
 rw[Array.all_eq_true_iff_forall_mem];intro v hv;unfold Zcv at hv;rw[Array.mem_append,Array.mem_append]at hv;rcases hv with (hv|hv)|hv
 ·simp at hv;rcases hv with rfl|rfl <;> rfl
 ·exact Array.all_eq_true_iff_forall_mem.1 (Zdy u b l ac) v hv
 ·simp at hv;rcases hv with rfl
  rfl
theorem Zjo(vt vs:Value)(u:Bool)(b l:Clk)(h:ac.length=5)(k:Int):(Zcv vt vs u b l ac k).size=39:=by
 obtain⟨a0,a1,a2,a3,a4,rfl⟩:=Zer h;kernel_rfl
def Ztr(S:SiteN)(w:World)(e:Ending)(w':World):Prop:=∃at_ gs nt ct u b l ac k v0 v1 u0 c0 n0 ql qm,e=R_ (.agg (Zcv (S_ at_ nt ct) (S_ (some ⟨gs,0,none⟩) 2 2) u b l ac k))/\ac.length=5/\w.heap.size<=gs/\v0=Zb8 u0 c0 n0 ql qm/\(∃vh vl,v1=Zb8 S.up S.clk S.sent vh vl)/\Blk w' gs 47 (v0.toList++v1.toList).toArray/\L_ w w'
section
variable {own:Own}{t p m b:Nat}{w:World}{c:Cfg}{B:Bd}{x:WS}
theorem ZpK(h:WorldAt own t w p c x)(hf:Fresh own w)(hi:WInv c B m b x)(hc:c.Ok)(hm:m<=100)(hn:c.n=2)(at_:Option Addr)(nt ct:Nat):
  Calls prog 54 #[I_ J_ 2,ptrV p,S_ at_ nt ct] w (Ztr (siteN (x.nodes 1).s) w):=by
 have h5:=hc.n5;have hk:=(ZKr w).alloc (C_ Zba 69);have hz:=ZBn w 69 Zba;obtain⟨W0,iq⟩:∃W0,W0=w.alloc (C_ Zba 69):=⟨_,rfl⟩;rw[←iq]at hk hz;have hu:Upd (λ_=>False) own own w W0:=ZUb hk.below hf;obtain⟨HS,nk,HK,HZ,HW,HF,HI⟩:=ZH7 (ZoY (h.upd hu (λ_ _ h=>h) (λh=>h) h5) hu.fresh hi hc hm hn) iq hk hz h hf hi;clear h hf hi hk hz iq hu;go_enter func54,ntmps54
 go_wp2_with (first
  |(refine ZS rfl 69 rfl Zba ZK ?_
    rw[←nk.out]))
 refine HS.out.mono ?_;rintro _ w1 ⟨gs,v0,v1,u0,c0,n0,ql,qm,rfl,zI,IU,vM,jm,cz⟩;obtain⟨da,lK,dj,zh,zi,Lr⟩:=ZH6 (HK.out.step cz) (HZ.out.ob cz) jm IU vM (ZT HK.out.le zI);have Ls:Hid (w.heap.size<gs):=ZH (ZR HZ.out.lt zI);have cN:Upd (λ_=>False) own own w w1:=ZUb da.out.below HF.out;obtain⟨u,bs,ln,ac,pw,qh⟩:=HI.out.aT hc;have hH:=Zij (HW.out.upd cN (λ_ _ h=>h) (λh=>h) h5) cN.fresh HI.out hc hm;rw[pw]at hH;obtain⟨HH,H5⟩:=ZH2 hH qh;clear zI IU vM jm cz cN pw qh hH;go_wp2_with fail;refine HH.out.mono ?_;rintro _ w2 ⟨rfl,cD⟩;obtain⟨cO,si,df⟩:=ZH3 (da.out.step cD) (lK.out.ob cD) (dj.out.ob cD);have cM:Upd (λ_=>False) own own w w2:=ZUb cO.out.below HF.out;have JO:=ZH (Znm (HW.out.upd cM (λ_ _ h=>h) (λh=>h) h5));clear cD cM;go_wp2_with fail;refine JO.out.mono ?_;rintro _ w3 ⟨rfl,cG⟩;obtain⟨cU,vZ,dN,JL⟩:=ZH4 (cO.out.step cG) (si.out.ob cG) (df.out.ob cG) (Zqe at_ (some ⟨gs,0,none⟩) nt ct 2 2 u bs ln H5.out (x.link.length:Int));have jb:=Zjn (S_ at_ nt ct) (S_ (some ⟨gs,0,none⟩) 2 2) u bs ln H5.out (x.link.length:Int);have dS:=Zjo (S_ at_ nt ct) (S_ (some ⟨gs,0,none⟩) 2 2) u bs ln H5.out (x.link.length:Int);have dP:=ZkI at_ (some ⟨gs,0,none⟩) nt ct 2 2 u bs ln ac (x.link.length:Int);obtain⟨RA,jW⟩:∃RA,RA=Zcv (S_ at_ nt ct) (S_ (some ⟨gs,0,none⟩) 2 2) u bs ln ac (x.link.length:Int):=⟨_,rfl⟩;rw[←jW]at JL jb dS dP;have kB:=ZH jW;clear cG jW
 go_wp2_with (first
  |(refine Zat rfl 69 _ rfl RA ?hf ?_
    case hf =>
     go_simp
     exact JL.out)
  |(refine wpList_store_row rfl 69 (.tmp 6) (.tmp 16) rfl w.heap.size RA rfl rfl 69 Zba vZ.out jb (by rw[dS];rfl) dP ?_))
 refine bodyPost_ret (Z6 rfl rfl (run_loadVar_row _ _ _ _ _ _ _ (vZ.out.row RA) ZpX rfl jb)) rfl ?_;have dR:gs≠w.heap.size:=by have:=Ls.out;omega
 exact⟨at_,gs,nt,ct,u,bs,ln,ac,_,v0,v1,u0,c0,n0,ql,qm,by rw[kB.out],H5.out,Lr.out,zh.out,zi.out,dN.out.aU dR _,(cU.out.row (ZL _) _).below⟩
end
theorem okS:ZcY.Ok:=by constructor <;> decide
theorem ZsY:(ZgE.nodes 0).s.up=true:=ZK
def Znp(own:Own)(w:World)(e:Ending)(w':World):Prop:=∃at_ gs nt ct u b l ac k v0 v1 u0 c0 n0 ql qm gl q0 q1 ps,e=R_ (.tuple #[.agg (Zcv (S_ at_ nt ct) (S_ (some ⟨gs,0,none⟩) 2 2) u b l ac k),S_ (some ⟨gl,0,none⟩) 2 2,I_ J_ 0])/\ac.length=5/\v0=Zb8 u0 c0 n0 ql qm/\(∃un nn vh vl,v1=Zb8 un ⟨1,0,0,0,0⟩ nn vh vl)/\Blk w' gs 47 (v0.toList++v1.toList).toArray/\Blk w' gl 38 #[q0,q1]/\ps.map (·.1.key)=[⟨#[99,121]⟩]/\ConRows 0 w' q1 ps/\∃own',Upd (λn=>n≠0) own own' w w'
theorem stS:StOk ZcY Zey:=by
 refine⟨ZJ,.inl ZJ,?_,ZJ⟩;refine⟨ZJ,ZJ,?_,λ_=>⟨rfl,rfl⟩,λh=>absurd h ZJ⟩;unfold KeyOk;decide
section
variable {own:Own}{t:Nat}{w:World}
theorem ZpL(ht:0<t)(hf:Fresh own w)(hg:Blk w g 36 (ZaI Zey))(ie:own g=0):
  Calls prog 27 #[Zd1 ZcY,S_ (some ⟨g,0,none⟩) 1 1,I_ J_ 2] w (Znp own w):=by
 have h5:=okS.n5;have hk:=((ZKr w).alloc (C_ (cfgArr ZcY) 23)).alloc (C_ Zba 69);have hu:Upd (λ_=>False) own own w ((w.alloc (C_ (cfgArr ZcY) 23)).alloc (C_ Zba 69)):=ZUb hk.below hf;have cG:=(ZBn w 23 (cfgArr ZcY)).alloc (C_ Zba 69);have eK:=ZBn (w.alloc (C_ (cfgArr ZcY) 23)) 69 Zba;rw[World.size_alloc]at eK;obtain⟨W0,iq⟩:∃W0,W0=(w.alloc (C_ (cfgArr ZcY) 23)).alloc (C_ Zba 69):=⟨_,rfl⟩;rw[←iq]at hu cG eK;obtain⟨mX,nk,HU,H3,H6⟩:=ZH5 (ZpJ ht hu.fresh okS stS (hg.ob (iq▸hk.below)) ie) iq hu cG eK;have iR:Hid (own w.heap.size=0):=ZH (hf _ (ZL _));have nY:Hid (own (w.heap.size+1)=0):=ZH (hf _ ZO);obtain⟨c0,c1,c2,c3,c4,c5⟩:=cG.aR;have qW:=cG.lt;clear hf hg ie hk hu cG eK iq;go_enter func27,ntmps27
 go_wp2_with (first
  |(refine ZS rfl 69 rfl Zba ZK ?_
    rw[←nk.out]))
 refine mX.out.mono ?_;rintro _ w1 ⟨tb,a,p,cZ,gH,rfl,dD,cN⟩;have e1:(Z4 ZcY (ZdZ ZcY) (Zw Zey tb)).1=(Z4 ZcY (ZdZ ZcY) Zey).1:=by rw[gH ZJ];rfl
 rw[e1]at dD;obtain⟨B1,_,zK,_⟩:=(WInv.new ZcY).step okS ZO ZO stS;have Co:WInv ZcY B1 1 1 (Z4 ZcY (ZdZ ZcY) Zey).1:=zK;have wz:=(ZKr w1).alloc (C_ #[ptrV p] 27);have wF:Upd (λ_=>False) cZ cZ w1 (w1.alloc (C_ #[ptrV p] 27)):=ZUb wz.below cN.fresh;have eG:=Zik ht (dD.upd wF (λ_ _ h=>h) (λh=>h) h5) wF.fresh Co okS ZO ZO 2 ZO;have QW:=H3.out.upd cN (by rw[iR.out];rintro⟨h1,h2⟩;omega);have QX:=H6.out.upd cN (by rw[nY.out];rintro⟨h1,h2⟩;omega);obtain⟨fO,KG,TC⟩:=ZH3 eG (QW.ob wz.below) (QX.ob wz.below);have Mi:Hid (cZ w.heap.size=0):=ZH ((cN.old _ H3.out.lt).trans iR.out);have Mj:Hid (cZ (w.heap.size+1)=0):=ZH ((cN.old _ H6.out.lt).trans nY.out);have EV:Hid (cZ w1.heap.size=0):=ZH (cN.fresh _ (ZL _));obtain⟨Dn,MQ⟩:=ZH2 (ZBn w1 27 #[ptrV p]) ((((HU.out.mono (λ_ h=>h.elim)).trans (cN.mono (λn h=>show n≠0 by have:=h.1;omega)):Upd (λn=>n≠0) own cZ w w1)).kept wz.below);obtain⟨B2,_,_,Ov⟩:=Co.rounds okS ZO ZO 2;have Qh:Hid (WInv ZcY B2 1 1 ZgE):=ZH Ov;clear gH dD cN e1 zK Co wz wF eG QW QX Ov c0 c1 c2 c3 c4 c5 qW;go_wp2_with fail;obtain⟨b9,iU⟩:∃b9,b9=w1.heap.size:=⟨_,rfl⟩;rw[←iU]at Dn EV ⊢;generalize w1.alloc (C_ #[ptrV p] 27)=W1 at *;clear iU;refine fO.out.mono ?_;rintro _ w2 ⟨rfl,cK,ee,cM⟩;have uD:∀{g:Nat},cZ g=0->¬ZgI t (cZ g):=λh=>by rw[h];rintro⟨h1,h2⟩;omega
 obtain⟨Ax,PV,s6⟩:=ZH3 (KG.out.upd cM (uD Mi.out)) (TC.out.upd cM (uD Mj.out)) (Dn.out.upd cM (uD EV.out));have fq:Hid (WorldAt cK t w2 p ZcY ZgE):=ZH ee;have j9:=ZH cM.fresh;have Bh:Hid (Upd (λn=>n≠0) own cK w w2):=ZH (MQ.out.trans (cM.mono (λn h=>show n≠0 by have:=h.1;omega)));have LO:=ZH (ZoX (bx:=b9) fq.out j9.out Qh.out okS ZO rfl ZsY Zuf s6.out);obtain⟨c0,c1,c2,c3,c4,c5⟩:=Ax.out.aR;have qW:=Ax.out.lt;clear ee cM uD;go_wp2_with fail;refine LO.out.mono ?_;rintro _ w3 ⟨gl,q0,q1,ps,rfl,ez,cW,gP,cT,cG⟩;have de:Upd (λ_=>False) cK cK w2 w3:=ZUb cG j9.out;obtain⟨pi,jy,PU,PW,PZ,TY,jH,iS,MR⟩:=ZH9 (fq.out.upd de (λ_ _ h=>h) (λh=>h) h5) de.fresh (Ax.out.ob cG) (PV.out.ob cG) (s6.out.ob cG) cW cT gP (Bh.out.kept cG);obtain⟨Lq,lJ⟩:=ZH2 ez (ZpK pi.out jy.out Qh.out okS ZO rfl (some a) 1 1);clear c0 c1 c2 c3 c4 c5 qW;obtain⟨c0,c1,c2,c3,c4,c5⟩:=PU.out.aR;have qW:=PU.out.lt;have QZ:=PZ.out.cell 0;simp only[ZD,ZE]at QZ;have Vo:=PZ.out.lt;clear ez cW gP cT cG de;go_wp2_with fail;refine lJ.out.mono ?_;rintro _ w4 ⟨at_,gs,nt,ct,u,bs,ln,ac,k,v0,v1,u0,k0,n0,ql,qm,rfl,pw,zI,IU,⟨vh,vl,vM⟩,jm,cS⟩;have jb:=Zjn (S_ at_ nt ct) (S_ (some ⟨gs,0,none⟩) 2 2) u bs ln pw k;have dS:=Zjo (S_ at_ nt ct) (S_ (some ⟨gs,0,none⟩) 2 2) u bs ln pw k;have dP:=ZkI at_ (some ⟨gs,0,none⟩) nt ct 2 2 u bs ln ac k;have KN:=ZH pw;obtain⟨RA,jW⟩:∃RA,RA=Zcv (S_ at_ nt ct) (S_ (some ⟨gs,0,none⟩) 2 2) u bs ln ac k:=⟨_,rfl⟩;rw[←jW]at jb dS dP ⊢;obtain⟨kB,zh,zi,JK,gy,Lr,PX,Lp,ld⟩:=ZH9 jW IU vM jm cS zI (PW.out.ob cS) (TY.out.ob cS) (jH.out.below cS);clear jW pw zI IU vM jm cS c0 c1 c2 c3 c4 c5 qW QZ Vo
 go_wp2_with (first
  |(refine wpList_store_row rfl 69 (.tmp 6) (.tmp 35) rfl (w.heap.size+1) RA rfl rfl 69 Zba PX.out jb (by rw[dS];rfl) dP ?_))
 refine bodyPost_ret (Zix rfl rfl rfl rfl (run_loadVar_row _ _ _ _ _ _ _ (PX.out.row RA) ZpX rfl jb)) rfl ?_;have h6l:=PW.out.lt;have h6l2:=PV.out.lt;have sJ:gs≠w.heap.size+1:=by have:=Lr.out;omega
 have OT:gl≠w.heap.size+1:=by have:=Lq.out;omega
 have cT:ConRows w2.heap.size (w4.setRow (w.heap.size+1) RA) q1 ps:=by
  have h0:=ld.out;have jN:∀g,w2.heap.size<=g->(w4.setRow (w.heap.size+1) RA).heap[g]? = w4.heap[g]? := λg hg=>setRow_other _ _ _ _ ZO
  exact⟨Zi h0.row (λg hg _=>jN g (Zb h0.row hg).1),λq hq=>Zi (h0.s0 q hq) (λg hg _=>jN g (Zb (h0.s0 q hq) hg).1),λq hq=>Zi (h0.s1 q hq) (λg hg _=>jN g (Zb (h0.s1 q hq) hg).1)⟩
 refine⟨at_,gs,nt,ct,u,bs,ln,ac,k,v0,v1,u0,k0,n0,ql,qm,gl,q0,q1,ps,by rw[kB.out];rfl,KN.out,zh.out,⟨_,_,vh,vl,by rw[zi.out,ZsX]⟩,JK.out.aU sJ _,Lp.out.aU OT _,?_,cT.mono (Nat.zero_le _),?_⟩
 ·have h1:=congrArg (List.map λc:Con=>c.key) iS.out;rw[List.map_map]at h1;exact h1.trans Zrt
 ·exact⟨cK,(MR.out.kept gy.out).setRow (λh=>absurd h ZO) _⟩
end
theorem ZuL{ps:List (Con×Value×Value)}{k:ByteArray}(h:ps.map (λp=>p.1.key)=[k]):∃pr,ps=[pr]/\pr.1.key=k:=by
 cases ps with
 |nil=>simp at h
 |cons p l =>
  cases l with
  |nil=>exact⟨p,rfl,by simpa using h⟩
  |cons p2 l=>simp at h
theorem ZuY{q:Value}{pr:Con×Value×Value}(h:ConRows 0 w q [pr]):∃g cap,q=S_ (some ⟨g,0,none⟩) 1 cap/\g<w.heap.size/\w.cell? ⟨g,0,none⟩=some (T_ pr.1.key):=by
 have hr:=h.row;obtain⟨a,n,cap,rfl⟩:=Zbx hr;rcases hr.2 with ⟨h1,h2⟩|⟨g2,dy,cur,h1,_⟩
 ·simp at h2
 ·simp only[Value.slice.injEq]at h1;obtain⟨rfl,rfl,rfl⟩:=h1;obtain⟨g,hg,ez,hc⟩:=Zbm hr ZM;exact⟨g,cap,by rw[hg];rfl,ez,hc 0 (by simp[conCells])⟩
theorem Ztz(w:World):(Op.equalIn 10000 44 (.agg #[I_ J_ 1,I_ J_ 0,I_ J_ 0,I_ J_ 0,I_ J_ 0]) (.agg #[I_ J_ 1,I_ J_ 0,I_ J_ 0,I_ J_ 0,I_ J_ 0])).run prog w=.ok true w :=
 ZaN ⟨1,0,0,0,0⟩ ⟨1,0,0,0,0⟩ 9998 w
theorem Zqd:prog.built 44 [(0,I_ J_ 1)]=some #[I_ J_ 1,I_ J_ 0,I_ J_ 0,I_ J_ 0,I_ J_ 0]:=ZK
theorem ZpS{A:Array Value}{un:Bool}{nn:Nat}{vh vl:Value}(hA:A.toList.length=9)(h:Blk w g 47 (A.toList++(Zb8 un ⟨1,0,0,0,0⟩ nn vh vl).toList).toArray):w.cell? ⟨g,10,none⟩=some (I_ J_ 1)/\w.cell? ⟨g,11,none⟩=some (I_ J_ 0)/\w.cell? ⟨g,12,none⟩=some (I_ J_ 0)/\w.cell? ⟨g,13,none⟩=some (I_ J_ 0)/\w.cell? ⟨g,14,none⟩=some (I_ J_ 0):=by
 have hc:∀k v,(Zb8 un ⟨1,0,0,0,0⟩ nn vh vl).toList[k]? = some v->w.cell? ⟨g,9+k,none⟩=some v:=λk v hk=>by
  rw[h.cell,ZD,List.getElem?_append_right ZO,hA,show 9+k-9=k by omega];exact hk
 exact⟨hc 1 _ rfl,hc 2 _ rfl,hc 3 _ rfl,hc 4 _ rfl,hc 5 _ rfl⟩
theorem ZsU{vt vs:Value}{u:Bool}{b l:Clk}{k:Int}(h:Blk w g 69 (Zcv vt vs u b l ac k)):w.cell? ⟨g,1,none⟩=some vs:=by
 rw[h.cell];unfold Zcv;rw[Array.append_assoc,Array.getElem?_append_left ZM];rfl
section
variable {own:Own}{w:World}
theorem Zru(w:World):Calls prog 10 #[] w λe w'=>e=R_ (B_ true)/\L_ w w':=by
 go_enter func10,ntmps10;go_wp2_with fail;refine(ZnZ w).mono ?_;rintro _ w1 ⟨rfl,cz⟩;have dj:=ZH cz;clear cz
 go_wp2_with (first
  |(refine ZS rfl 69 rfl Zba ZK ?_)
  |(refine wpList_store_row rfl 69 (.tmp 1) (.tmp 9) rfl w1.heap.size Zba rfl rfl 69 Zba (ZBn w1 69 _) Zh8 rfl ZK ?_))
 have cD:L_ w1 (((w1.alloc (C_ Zba 69)).setRow w1.heap.size Zba).alloc (C_ (ZaI Zey) 36)):=((((ZKr w1).alloc (C_ Zba 69)).row (ZL _) Zba).alloc _).below;have gW:Blk (((w1.alloc (C_ Zba 69)).setRow w1.heap.size Zba).alloc (C_ (ZaI Zey) 36)) (w1.heap.size+1) 36 (ZaI Zey):=by
  have h:=ZBn ((w1.alloc (C_ Zba 69)).setRow w1.heap.size Zba) 36 (ZaI Zey);rw[setRow_size,World.size_alloc]at h;exact h
 have yA:w.heap.size<=(((w1.alloc (C_ Zba 69)).setRow w1.heap.size Zba).alloc (C_ (ZaI Zey) 36)).heap.size:=ZT dj.out.size cD.size;refine(ZpL (own:=λ_=>0) (t:=1) ZO (λ_ _=>rfl) gW rfl).mono ?_;rintro _ w2 ⟨at_,gs,nt,ct,u,b,l,ac,k,v0,v1,u0,c0,n0,ql,qm,gl,q0,q1,ps,rfl,pw,rfl,⟨un,nn,vh,vl,rfl⟩,jm,ez,fc,cT,ownS,dS⟩;have ua:Hid (K_ w w2):=ZH (((Kept.start dj.out).trans ⟨cD,cD.size⟩ dj.out.size).trans ⟨⟨dS.os,dS.tape,dS.output,dS.size,λb h=>dS.same b h (λh=>h rfl)⟩,dS.size⟩ yA);obtain⟨pr,rfl,zO⟩:=ZuL fc;obtain⟨gq,cq,rfl,Ot,sP⟩:=ZuY cT;rw[zO]at sP;obtain⟨s0,s1,s2,s3,s4⟩:=ZpS (Zkg _ _ _ _ _) jm;have eW:=jm.lt;have oR:=ez.cell 1;simp only[ZD,ZE,ZG]at oR;have Oq:=ez.lt;have jb:=Zjn (S_ at_ nt ct) (S_ (some ⟨gs,0,none⟩) 2 2) u b l pw k;have yC:=Zjo (S_ at_ nt ct) (S_ (some ⟨gs,0,none⟩) 2 2) u b l pw k;have dP:=ZkI at_ (some ⟨gs,0,none⟩) nt ct 2 2 u b l ac k;have zN:=((ZKr w2).alloc (C_ Zba 69)).row (ZL _) (Zcv (S_ at_ nt ct) (S_ (some ⟨gs,0,none⟩) 2 2) u b l ac k);have xT:Blk ((w2.alloc (C_ Zba 69)).setRow w2.heap.size (Zcv (S_ at_ nt ct) (S_ (some ⟨gs,0,none⟩) 2 2) u b l ac k)) w2.heap.size 69 (Zcv (S_ at_ nt ct) (S_ (some ⟨gs,0,none⟩) 2 2) u b l ac k):=(ZBn w2 69 Zba).row _;have eG:=ZsU xT;have kT:=xT.lt;obtain⟨RA,jW⟩:∃RA,RA=Zcv (S_ at_ nt ct) (S_ (some ⟨gs,0,none⟩) 2 2) u b l ac k:=⟨_,rfl⟩;rw[←jW]at jb yC dP zN xT eG kT ⊢;have ny:=zN.cells;rw[←ny gq 0 Ot]at sP;rw[←ny gs 10 eW]at s0;rw[←ny gs 11 eW]at s1;rw[←ny gs 12 eW]at s2;rw[←ny gs 13 eW]at s3;rw[←ny gs 14 eW]at s4;rw[←ny gl 1 Oq]at oR;have xg:=ZH (ua.out.trans zN (ZT yA dS.size)).below;have uM:=Ztz;have cz:=Zqd;clear ny zN xT jW jm ez fc zO cT dS yA cD gW
 go_wp2_with (first
  |(refine ZS rfl 69 rfl Zba ZK ?_)
  |(refine wpList_store_row rfl 69 (.tmp 3) (.tmp 17) rfl w2.heap.size RA rfl rfl 69 Zba (ZBn w2 69 _) jb (by rw[yC];rfl) dP ?_))
 go_ret;exact⟨rfl,xg.out⟩
end
def own0:Own:=λ_=>0
structure In(own:Own)(t:Nat)(w0 wr:World)(p:Nat)(c:Cfg)(q:Nat)(B:Bd)(x:WS):Prop where
 at_:WorldAt own t wr p c x
 inv:WInv c B q q x
 upd:Upd (λn=>n≠0) own0 own w0 wr
structure Loc(own:Own)(w:World)(b:Nat)(c:Cfg)(k:Nat)(v:Value)(ss:List St):Prop where
 blk:Blk w b 23 (cfgArr c)
 mine:own b=0
 row:∃B,w.ownsRow B 36 10 v ss.length (ss.flatMap stL)
 loose:∀g,v.ownBlock=some g->own g=k
section
variable {own own':Own}{t p q b k:Nat}{w0 wr w':World}{c:Cfg}{B:Bd}{x:WS}{v:Value}{ss:List St}{s:St}{T:Nat->Prop}
theorem In.fresh(h:In own t w0 wr p c q B x):Fresh own wr:=h.upd.fresh
theorem In.below(h:In own t w0 wr p c q B x)(hc:c.Ok)(hb:L_ wr w'):In own t w0 w' p c q B x :=
 ⟨h.at_.upd (ZUb (T:=λ_=>False) hb h.fresh) (λ_ _ h=>h) (λh=>h) hc.n5,h.inv,h.upd.kept hb⟩
theorem In.all(h:In own t w0 wr p c q B x):L_ w0 wr :=
 ⟨h.upd.os,h.upd.tape,h.upd.output,h.upd.size,λb hb=>h.upd.same b hb (λh=>h rfl)⟩
theorem In.step(ht:0<t)(h:In own t w0 wr p c q B x)(hc:c.Ok)(hq:q<=99)(hs:StOk c s){e:Ending}(hp:Zeb own t p c wr s (Z4 c x) e w'):
  ∃tb own' B',(s.kind≠7->tb=s.turned)/\e=R_ (I_ J_ (Z4 c x (Zw s tb)).2)/\In own' t w0 w' p c (q+1) B' (Z4 c x (Zw s tb)).1/\Upd (Zu t) own own' wr w'/\B.le B' /\
   ((Z4 c x (Zw s tb)).1.hub.s.up=false->B'.hub=B.hub):=by
 obtain⟨tb,gH,rfl,own',hw,hu⟩:=hp;have wC:StOk c (Zw s tb):=⟨hs.kind,hs.r,hs.edit,hs.mask⟩;obtain⟨B',hB,hi,hd⟩:=h.inv.step hc ZO ZO wC;exact⟨tb,own',B',gH,rfl,⟨hw,hi.more (by split <;> omega) (ZL _),h.upd.trans (hu.mono λn hn=>show n≠0 by have:=hn.1;omega)⟩,hu,hB,hd⟩
theorem In.aX(ht:0<t)(h:In own t w0 wr p c q B x)(hc:c.Ok)(hq:q<=99)(hs:StOk c s):Calls prog 14 #[ptrV p,Zl8 s] wr (Zeb own t p c wr s (Z4 c x)) :=
 Zkm ht h.at_ h.fresh h.inv hc ZO ZO hs
theorem Loc.upd(h:Loc own wr b c k v ss)(hu:Upd T own own' wr w')(h0:¬T 0)(hk:¬T k):Loc own' w' b c k v ss:=by
 obtain⟨B,hr⟩:=h.row;refine⟨h.blk.upd hu (by rw[h.mine];exact h0),(hu.old _ h.blk.lt).trans h.mine,⟨B,Zi hr λg hg hl=>hu.same g hl (by rw[h.loose g hg];exact hk)⟩,λg hg=>(hu.old g (Zb hr hg).2).trans (h.loose g hg)⟩
theorem Zur{α : Type}{L : α -> List Value}(hL:∀x,(L x).length=10):∀(ss:List α) (q:Nat) (s : α),ss[q]? = some s->∀j u,(L s)[j]? = some u->(ss.flatMap L)[q*10+j]? = some u:=by
 intro ss
 induction ss with
 |nil=>intro q s h;simp at h
 |cons x ss ih =>
  intro q s h j u hj;have hl:=hL x;rw[List.flatMap_cons]
  cases q with
  |zero =>
   simp at h;subst h;have:j<10:=by rw[←hl];exact(ZZ.1 hj).1
   rw[List.getElem?_append_left (by rw[hl];omega),Nat.zero_mul,Nat.zero_add];exact hj
  |succ q =>
   rw[List.getElem?_append_right (by rw[hl];omega),hl,show(q+1)*10+j-10=q*10+j by omega];exact ih q s (by simpa using h) j u hj
theorem Loc.step(h:Loc own wr b c k v ss)(hq:ss[q]? = some s):∃g cap,v=S_ (some ⟨g,0,none⟩) ss.length cap/\g<wr.heap.size/\∀j u,(stL s)[j]? = some u->wr.cell? ⟨g,q*10+j,none⟩=some u:=by
 have cI:q<ss.length:=(ZZ.1 hq).1;obtain⟨B,hr⟩:=h.row;obtain⟨a,cap,rfl⟩:=Zl hr;obtain⟨g,rfl,ez,hc⟩:=Zbm hr ZO;refine⟨g,cap,rfl,ez,λj u hj=>?_⟩;have h1:=Zur (L:=stL) (λ_=>rfl) ss q s hq j u hj;exact(hc _ (ZZ.1 h1).1).trans h1
theorem Loc.slice(h:Loc own wr b c k v ss):∃a cap,v=S_ a ss.length cap:=by
 obtain⟨B,hr⟩:=h.row;exact Zl hr
theorem nw0:¬Zu 1 0:=λh=>absurd h.1 ZJ
theorem In.new{w1:World}(ht:0<t)(hk:K_ w0 wr)(hw:WorldAt own t w1 p c (ZdZ c))(hu:Upd (Zu t) own0 own wr w1):In own t w0 w1 p c 0 ⟨λ_=>0,λ_=>0⟩ (ZdZ c) :=
 ⟨hw,WInv.new c,((ZUb hk.below (λ_ _=>rfl):Upd (λn=>n≠0) own0 own0 w0 wr)).trans (hu.mono λn hn=>show n≠0 by have:=hn.1;omega)⟩
theorem Loc.make(hb:Blk wr b 23 (cfgArr c))(ho:own b=0)(hf:Fresh own wr)(hr:w'.ownsRow wr.heap.size 36 10 v ss.length (ss.flatMap stL))(cW:L_ wr w'):Loc own w' b c 0 v ss :=
 ⟨hb.ob cW,ho,⟨_,hr⟩,λg hg=>hf g (Zb hr hg).1⟩
theorem ZtH(n:Nat)(ss:List RawSt):(Zfb n ss).length<=60:=by unfold Zfb;rw[List.length_map,ZV];omega
theorem ZtI{ss:List RawSt}(hc:c.Ok)(h:∀s∈ss,RawOk s):∀s∈Zfb c.n ss,StOk c s:=by
 intro s hs;unfold Zfb at hs;obtain⟨r,hr,rfl⟩:=List.mem_map.1 hs;exact Zr3 hc (h r (List.mem_of_mem_take hr))
abbrev Zmk:Array Value:=#[I_ J_ 0,I_ J_ 0,I_ J_ 0,I_ J_ 0,I_ J_ 0,I_ J_ 0]
theorem ZrS(c:Cfg):(prog.info? 23).map (λi=>i.size)=some (cfgArr c).size:=ZK
theorem Zty(c:Cfg):(cfgArr c).all (·.oneCell')=true:=ZK
abbrev Zu1:Array Value:=Zt false ZCz ZCz (List.replicate 5 ZCz)
end
theorem ZuN:prog.underlying 161=some (.struct (prog.fieldsOf 161)):=ZK
theorem ZtT:prog.stoodInHeld 161=false:=ZK
theorem ZtP:((prog.fieldsOf 161).toList.map λf=>(f.name == "_",f.type,f.offset))=[(false,3,0),(false,3,1)]:=ZK
theorem ZtE(d a b a' b':Nat)(w:World):(Op.equalIn (d+1+1) 161 (.agg #[I_ J_ (a:Int),I_ J_ (b:Int)]) (.agg #[I_ J_ (a':Int),I_ J_ (b':Int)])).run prog w=.ok (decide (a=a'/\b=b'/\True)) w:=by
 rw[run_equalIn_struct w _ _ _ _ ZuN ZtT];refine Zcr ZtP (Zc5 w (v := I_ J_ (a:Int)) rfl) (Zc5 w (v := I_ J_ (a':Int)) rfl) (ZhO _ _ _ w) λNu h1=>?_
 refine Zcr h1 (Zc5 w (v := I_ J_ (b:Int)) rfl) (Zc5 w (v := I_ J_ (b':Int)) rfl) (ZhO _ _ _ w) λQQ h2=>Zip h2
theorem ZqT(a b:Nat)(w:World):(Op.equalIn 10000 161 (.agg #[I_ J_ (a:Int),I_ J_ (b:Int)]) (.agg #[I_ J_ (a:Int),I_ J_ (b:Int)])).run prog w=.ok true w:=by
 rw[show 10000=9998+1+1 from rfl,ZtE];simp
theorem Zhv:∀(l:List (Nat×Nat)) (q:Nat) (p:Nat×Nat),l[q]? = some p->(Zcc l)[q*2]? = some (I_ J_ (p.1:Int))/\(Zcc l)[q*2+1]? = some (I_ J_ (p.2:Int))
 | [],q,p,h=>by simp at h
 |x::l,0,p,h=>by
  simp at h;subst h;exact⟨rfl,rfl⟩
 |x::l,q+1,p,h=>by
  have ih:=Zhv l q p (by simpa using h);have e:Zcc (x::l)=I_ J_ (x.1:Int) :: I_ J_ (x.2:Int)::Zcc l:=rfl;rw[e,show(q+1)*2=q*2+1+1 by omega,show q*2+1+1+1=(q*2+1)+1+1 by omega];simpa using ih
theorem Zou{B:Nat}{a:Option Addr}{c:Nat}{es:List Ev}(h:MarkRow B w (S_ a es.length c) es){q:Nat}{p:Nat×Nat}(hq:(Zbu es)[q]? = some p):
  ∃g,a=some ⟨g,0,none⟩/\g<w.heap.size/\w.cell? ⟨g,q*2,none⟩=some (I_ J_ (p.1:Int))/\w.cell? ⟨g,q*2+1,none⟩=some (I_ J_ (p.2:Int)):=by
 have hl:q<es.length:=by
  have:=(ZZ.1 hq).1;simpa [Zbu] using this
 obtain⟨g,hg,ez,hc⟩:=Zbm h ZO;have h2:=Zhv _ _ _ hq;exact⟨g,hg,ez,(hc _ (ZZ.1 h2.1).1).trans h2.1,(hc _ (ZZ.1 h2.2).1).trans h2.2⟩
theorem Zoz{B sz:Nat}{e:TypeId}{v:Value}{xs:List Value}(h:w.ownsRow B e sz v n xs):n<=9223372036854775807:=by
 rcases h.2 with ⟨_,h0⟩|⟨_,c0,_,_,_,_,h1,h2,_⟩
 ·omega
 ·simp only[maxLen]at h2;omega
theorem Zkc{B1 B2:Nat}{a b:Value}{es fs:List Ev}(ha:MarkRow B1 w a es)(hb:MarkRow B2 w b fs)(h:Zbu es=Zbu fs):
  Calls prog 42 #[a,b] w (Zx (B_ true) w):=by
 have hn:=Zoz ha;have hl:fs.length=es.length:=by
  have:=congrArg List.length h;simpa [Zbu] using this.symm
 obtain⟨aa,ca,rfl⟩:=Zl ha;obtain⟨ab,cb,rfl⟩:=Zl hb;obtain⟨HA,HB,HM,HK⟩:=ZH4 ha hb h (ZKr w);obtain⟨n,nQ⟩:∃n,n=es.length:=⟨_,rfl⟩;obtain⟨HN,HL⟩:=ZH2 nQ hl;rw[hl,←nQ];rw[←nQ]at hn;clear ha hb h hl nQ;have dR:=ZqT;go_enter func42,ntmps42;go_wp2_with fail;go_loopw [5] (λi wr=>∃q:Nat,q<=n/\i=I_ J_ q/\Hid (K_ w wr)) (λi _=>n-(intOf i).toNat)
 case atStart=>exact⟨0,ZO,rfl,HK⟩
 case round =>
  skip
  obtain⟨q,hq,rfl,HK⟩:=hrel;by_cases du:q<n
  ·obtain⟨p,hp⟩:∃p,(Zbu es)[q]? = some p:=⟨_,ZX (by simp only[Zbu,List.length_map];rw[←HN.out];exact du)⟩;obtain⟨g1,rfl,lm,a0,a1⟩:=Zou HA.out hp;obtain⟨g2,rfl,eQ,b0,b1⟩:=Zou (by rw[←HL.out]at *;exact HB.out) (show(Zbu fs)[q]? = some p by rw[←HM.out];exact hp);rw[←HK.out.cells g1 _ lm]at a0 a1;rw[←HK.out.cells g2 _ eQ]at b0 b1;have jE:g1<wr.heap.size:=ZR lm HK.out.le;have jc:g2<wr.heap.size:=ZR eQ HK.out.le;clear hp lm eQ;go_wp2_with fail;go_quiet (fail)
   go_wp2
   go_roundw
   case rel=>exact⟨q+1,ZO,ZN,HK.out.drewN _⟩
   case measure=>simp[intOf];omega
  ·obtain rfl:q=n:=ZO;go_wp2
   go_ret;exact⟨rfl,HK.out.below⟩
theorem ZrV(a:Clk)(w:World):(Op.equalIn 10000 44 (.agg #[I_ J_ (a.c0:Int),I_ J_ (a.c1:Int),I_ J_ (a.c2:Int),I_ J_ (a.c3:Int),I_ J_ (a.c4:Int)]) (.agg #[I_ J_ (a.c0:Int),I_ J_ (a.c1:Int),I_ J_ (a.c2:Int),I_ J_ (a.c3:Int),I_ J_ (a.c4:Int)])).run prog w=.ok true w:=by
 rw[show 10000=9998+1+1 from rfl];refine(ZaN a a 9998 w).trans ?_;simp
theorem Zrn{B1 B2 B3 B4:Nat}{vh vl vh' PM:Value}{hs ls wC Ec:List Ev}(u:Bool)(c:Clk)(sent:Nat)
  (h1:MarkRow B1 w vh hs) (h2:MarkRow B2 w vl ls) (h3:MarkRow B3 w vh' wC) (h4:MarkRow B4 w PM Ec) (e1:Zbu hs=Zbu wC) (e2:Zbu ls=Zbu Ec) :
  Calls prog 17 #[ZfF u c sent vh vl,ZfF u c sent vh' PM] w (Zx (B_ true) w):=by
 obtain⟨a1,c1,rfl⟩:=Zl h1;obtain⟨a2,c2,rfl⟩:=Zl h2;obtain⟨a3,c3,rfl⟩:=Zl h3;obtain⟨a4,c4,rfl⟩:=Zl h4;have hk:=((ZKr w).alloc (C_ (Zp u c sent (S_ a1 hs.length c1) (S_ a2 ls.length c2)) 47)).alloc (C_ (Zp u c sent (S_ a3 wC.length c3) (S_ a4 Ec.length c4)) 47);have cz:=(ZBn w 47 (Zp u c sent (S_ a1 hs.length c1) (S_ a2 ls.length c2))).alloc (C_ (Zp u c sent (S_ a3 wC.length c3) (S_ a4 Ec.length c4)) 47);have cD:=ZBn (w.alloc (C_ (Zp u c sent (S_ a1 hs.length c1) (S_ a2 ls.length c2)) 47)) 47 (Zp u c sent (S_ a3 wC.length c3) (S_ a4 Ec.length c4));rw[World.size_alloc]at cD;obtain⟨W,hW⟩:∃W,W=(w.alloc (C_ (Zp u c sent (S_ a1 hs.length c1) (S_ a2 ls.length c2)) 47)).alloc (C_ (Zp u c sent (S_ a3 wC.length c3) (S_ a4 Ec.length c4)) 47):=⟨_,rfl⟩;rw[←hW]at hk cz cD;obtain⟨vU,wU,HW,HK,H1,H2⟩:=ZH6 (λW' (hw:L_ w W')=>Zkc (Ze h1 hw) (Ze h3 hw) e1) (λW' (hw:L_ w W')=>Zkc (Ze h2 hw) (Ze h4 hw) e2) hW hk cz cD;obtain⟨x0,x1,x2,x3,x4,x5,x6,x7,x8⟩:=cz.am;obtain⟨y0,y1,y2,y3,y4,y5,y6,y7,y8⟩:=cD.am;have jE:=cz.lt;have jc:=cD.lt;rw[hW]at x0 x1 x2 x3 x4 x5 x6 x7 x8 y0 y1 y2 y3 y4 y5 y6 y7 y8 jE jc;have gC:=ZrV c;clear h1 h2 h3 h4 e1 e2 hk cz cD hW;go_enter func17,ntmps17;go_wp2_with fail;rw[←HW.out];refine(vU.out _ HK.out.below).mono ?_;rintro _ w1 ⟨rfl,iN⟩;have da:=ZH (HK.out.step iN);have so:=H1.out.ob iN;have zm:=H2.out.ob iN;obtain⟨Tz,TA⟩:=ZH2 so zm;clear x0 x1 x2 x3 x4 x5 x6 x7 x8 y0 y1 y2 y3 y4 y5 y6 y7 y8 jE jc iN;obtain⟨x0,x1,x2,x3,x4,x5,x6,x7,x8⟩:=so.am;obtain⟨y0,y1,y2,y3,y4,y5,y6,y7,y8⟩:=zm.am;have jE:=so.lt;have jc:=zm.lt;clear so zm;go_wp2_with fail;refine(wU.out _ da.out.below).mono ?_;rintro _ w2 ⟨rfl,iN⟩;have cO:=ZH (da.out.step iN);have so:=Tz.out.ob iN;have zm:=TA.out.ob iN;clear x0 x1 x2 x3 x4 x5 x6 x7 x8 y0 y1 y2 y3 y4 y5 y6 y7 y8 jE jc iN;obtain⟨x0,x1,x2,x3,x4,x5,x6,x7,x8⟩:=so.am;obtain⟨y0,y1,y2,y3,y4,y5,y6,y7,y8⟩:=zm.am;have jE:=so.lt;have jc:=zm.lt;clear so zm;go_wp2
 go_ret;refine⟨ZM,cO.out.below⟩
end Go.Proofs.YtjkfognelhiepaaGreat
