import Derived.Test.YtjkfognelhiepaaGreatC25
import Derived.RangeFuncNested
import Derived.RangeFuncLeaves
import Derived.Shelf.Abstract
import Derived.Shelf.RegionOpen
import Derived.OwnWalkIn
import Derived.TacticsInMore
import Derived.LoopNIn
import Derived.LoopIn
import Derived.Deep.MidRow
namespace Go.Proofs.YtjkfognelhiepaaGreat
open Go.RowKit _root_.Go.Proofs.Tryz
set_option maxRecDepth 100000
set_option maxHeartbeats 8000000
section
open Go.RowKit Go.Shelf
attribute [local go_sem] Oper.semAt_some
theorem Zgu{c:Cfg}{r k fV:Nat}{x:WS}(h:Zbt c r (x.nodes r).s k=(none,fV)):Zai c r x k=x:=by unfold Zai;rw[h]
theorem Zgv{c:Cfg}{r k fV:Nat}{x:WS}{g:Frm}(h:Zbt c r (x.nodes r).s k=(some g,fV)):Zai c r x k=Zcf c x (Zr c x.hub g):=by unfold Zai;rw[h]
def Ziv(own:Own)(t:Nat)(w w':World)(fb p:Nat)(c:Cfg)(m b l:Nat)(R:Loop)(Z:Where)(x:WS)(q:Nat):Prop :=
 ∃ o,RoundAt o t w' p c m b l R Z x/\Upd (RoundT t) own o w w'/\Blk w' fb 93 #[.func (.func 37) #[ptrV q] #[],.func (.func 38) #[ptrV q] #[],.func (.func 39) #[ptrV q] #[]]/\o fb=0
section
variable {own:Own}{t p m b l bb:Nat}{w:World}{c:Cfg}{x:WS}{Z:Where}{R:Loop}
theorem Zn9(ht:0<t)(hc:c.Ok)(hm:m<=100)(_hb:b<=700)(h:RoundAt own t w p c m b l R Z x)(r9:Blk w bb 27 #[ptrV p])
  (hY:∀ (cF:Own) (x1:WS) (W1:World) (f:Frm) (a:Option Addr) (n cap:Nat),RoundAt cF t W1 p c m b l R Z x1->(∃ B,WInv c B m b x1/\HubFrm c B f)->Bytes W1 a n cap (Zk f)->Upd (RoundT t) own cF w W1 ->
   YieldAt Fence.wide 8 prog l #[.slice a n cap] W1 (λ e W'=>e = .returned (.bool true)/\∃ cg,RoundAt cg t W' p c m b l R Z (Zcf c x1 (Zr c x1.hub f))/\Upd (RoundT t) cF cg W1 W')) :
  CallsIn Fence.wide 9 prog 91 #[.func (.yield l) #[] #[],.pointer (some ⟨bb,0,none⟩)] w (λ e w'=>(∃ v,e = .returned v)/\∃ own',RoundAt own' t w' p c m b l R Z (Zc6 c x)/\Upd (RoundT t) own own' w w'):=by
 have h5:=hc.n5;obtain⟨g,xl,eB,gB,lB⟩:=h.at_.cells hc.n1;have yf:=r9.cell 0;simp only[ZD,ZE] at yf;have fk:=h.at_.blk;rw[xl] at fk;obtain⟨c0,c1,c2⟩:=fk.three;have HR:=ZH h;have HY:Hid _:=ZH hY;have HU:=ZH (Upd.refl (RoundT t) own w h.fresh);clear h hY r9 fk;refine callsIn_of_wp func91 rfl trivial ?_ rfl;simp only[ntmps91,List.size_toArray,List.length_cons,List.length_nil,Nat.reduceAdd,Nat.reduceSub,Array.replicate_succ,Array.replicate_zero,List.push_toArray,List.append_toArray,List.nil_append,List.cons_append];gi_wp2;gi_loopw [14] (λ i wr=>∃ (k:Nat) (o:Own),k<=c.n/\i = .int .i64 k/\Hid (RoundAt o t wr p c m b l R Z ((List.range k).foldl (Zft c) x))/\Hid (Upd (RoundT t) own o w wr)) (λ i _=>c.n-(intOf i).toNat)
 case atStart=>exact⟨0,own,ZO,rfl,HR,HU⟩
 case round =>
  clear HR HU c0 c1 c2 yf lB;obtain⟨k,o,jB,rfl,HR,HU⟩:=hrel;by_cases il:k<c.n
  ·have jC:(k:Int)<(c.n:Int):=ZO;have cA:(0:Int)<=(k:Int):=ZO;obtain⟨g',kR,EX,EY,gg⟩:=HR.out.at_.cells hc.n1;have EW:g'=g:=by rw[xl] at kR;simpa using kR.symm
   subst EW;have hq:=ZX (l:=Z.ps) (i:=k) (by have:=HR.out.at_.len;omega);obtain⟨q,tX⟩:∃ q,q=Z.ps[k]'(by have:=HR.out.at_.len;omega):=⟨_,rfl⟩;rw[←tX] at hq;have ib:=gg k q hq;have HQ:=ZH hq;obtain⟨y,hy⟩:∃ y,y=(List.range k).foldl (Zft c) x:=⟨_,rfl⟩;rw[←hy] at HR;have RK:=ZH hy;clear gg kR tX hq hy;gi_wp2;have lx:=(ZW wr.heap.size wr).alloc (ZL _) (.cells #[.func (.func 37) #[ptrV q] #[],.func (.func 38) #[ptrV q] #[],.func (.func 39) #[ptrV q] #[]] 93);have ya:=HR.out.below lx h5;obtain⟨Jf,nH,mW⟩:=ZH3 (ZBn wr 93 #[.func (.func 37) #[ptrV q] #[],.func (.func 38) #[ptrV q] #[],.func (.func 39) #[ptrV q] #[]]) ya.1 (HU.out.trans ya.2);have vj:Hid (o wr.heap.size=0):=ZH (HR.out.fresh _ (ZL _));clear lx ya HR HU ib;obtain⟨fb,kI⟩:∃ fb,fb=wr.heap.size:=⟨_,rfl⟩;rw[←kI] at Jf vj ⊢;clear kI;gi_loopw [26] (λ i w'=>(i = .int .i64 0/\Ziv own t w w' fb p c m b l R Z y q)∨(i = .int .i64 1/\Ziv own t w w' fb p c m b l R Z (Zai c k y 1) q)∨(i = .int .i64 2/\Ziv own t w w' fb p c m b l R Z (Zai c k (Zai c k y 1) 2) q)∨(i = .int .i64 3/\Ziv own t w w' fb p c m b l R Z (Zft c y k) q)) (λ i _=>3-(intOf i).toNat)
   case atStart=>exact .inl ⟨rfl,o,nH.out,mW.out,Jf.out,vj.out⟩
   case round =>
    clear nH mW Jf vj;rcases hrel with ⟨rfl,hrel⟩|⟨rfl,hrel⟩|⟨rfl,hrel⟩|⟨rfl,hrel⟩
    ·obtain⟨o,hr,hu,hf,ho⟩:=hrel;have qr:=hf.cell 0;simp only[ZD,ZE] at qr;have jQ:=hf.lt;obtain⟨HR,HU,HF,HO⟩:=ZH4 hr hu hf ho;clear hr hu hf ho;gi_wp2;refine⟨trivial,?_⟩;obtain⟨BB,hI⟩:=HR.out.inv;have eo:tot BB.made<=100:=ZT hI.sum hm;have hN:=HR.out.at_.node k q HQ.out;refine(callsIn_wide.2 ((Zdr hN HR.out.fresh (hI.nodes k il) ZO hc eo).1)).mono ?_;intro e w3 hP;unfold Zbl at hP;obtain⟨og,fV,hO⟩:∃ og fV,Zbt c k ((y).nodes k).s 1=(og,fV):=⟨_,_,rfl⟩;rw[hO] at hP
     cases og with
     | none =>
      obtain⟨rfl,bS⟩:=hP;have hT:Zai c k (y) 1=y:=Zgu hO;have hz:((fV:Int)==0)=false:=by
       have h1:=Zdx (c:=c) (r:=k) (k:=1) (s:=((y).nodes k).s) (by rw[hO]);rw[hO] at h1;simp at h1 ⊢;exact h1
      have iT:=HR.out.below bS h5;have om:=HF.out.ob bS;obtain⟨ep,dI,iR,re⟩:=ZH4 iT.1 (HU.out.trans iT.2) om hT;clear bS iT om hI hN hO hT;gi_wp2;refine⟨λ _ h=>(by cases h),?_⟩;gi_wp2;go_roundw
      case rel=>exact(.inr (.inl ⟨rfl,o,(by rw[re.out];exact ep.out),dI.out,iR.out,HO.out⟩))
      case measure=>simp[intOf]
     | some g =>
      obtain⟨v,rfl,eh,bS⟩:=hP;obtain⟨a,cap,rfl,fX⟩:=Bytes.ab eh;have hT:Zai c k (y) 1=Zcf c (y) (Zr c (y).hub g):=Zgv hO;have gA:HubFrm c BB g:=((hI.nodes k il).tell il hc eo (by rw[hO])).1;have iT:=HR.out.below bS h5;have om:=HF.out.ob bS;obtain⟨fn,tmps,assign,body,Gq,yc⟩:=HY.out o (y) w3 g a _ cap iT.1 ⟨BB,hI,gA⟩ fX (HU.out.trans iT.2);obtain⟨ep,dI,iR,re⟩:=ZH4 iT.1 (HU.out.trans iT.2) om hT;clear bS iT om hI hN hO hT eh fX gA;gi_wp2;refine yc.mono ?_;rintro e W' ⟨rfl,o2,dC,cm⟩;obtain⟨fU,fF,lY,dt⟩:=ZH4 dC (dI.out.trans cm) (iR.out.upd cm (by rw[HO.out];rintro(⟨h1,h2⟩ | h1) <;> omega)) ((cm.old fb iR.out.lt).trans HO.out);clear dC cm yc Gq;gi_wp2;go_roundw
      case rel=>exact(.inr (.inl ⟨rfl,o2,(by rw[re.out];exact fU.out),fF.out,lY.out,dt.out⟩))
      case measure=>simp[intOf]
    ·obtain⟨o,hr,hu,hf,ho⟩:=hrel;have qr:=hf.cell 1;simp only[ZD,ZE,ZG] at qr;have jQ:=hf.lt;obtain⟨HR,HU,HF,HO⟩:=ZH4 hr hu hf ho;clear hr hu hf ho;gi_wp2;refine⟨trivial,?_⟩;obtain⟨BB,hI⟩:=HR.out.inv;have eo:tot BB.made<=100:=ZT hI.sum hm;have hN:=HR.out.at_.node k q HQ.out;refine(callsIn_wide.2 ((Zdr hN HR.out.fresh (hI.nodes k il) ZO hc eo).2.1)).mono ?_;intro e w3 hP;unfold Zbl at hP;obtain⟨og,fV,hO⟩:∃ og fV,Zbt c k ((Zai c k y 1).nodes k).s 2=(og,fV):=⟨_,_,rfl⟩;rw[hO] at hP
     cases og with
     | none =>
      obtain⟨rfl,bS⟩:=hP;have hT:Zai c k (Zai c k y 1) 2=Zai c k y 1:=Zgu hO;have hz:((fV:Int)==0)=false:=by
       have h1:=Zdx (c:=c) (r:=k) (k:=2) (s:=((Zai c k y 1).nodes k).s) (by rw[hO]);rw[hO] at h1;simp at h1 ⊢;exact h1
      have iT:=HR.out.below bS h5;have om:=HF.out.ob bS;obtain⟨ep,dI,iR,re⟩:=ZH4 iT.1 (HU.out.trans iT.2) om hT;clear bS iT om hI hN hO hT;gi_wp2;refine⟨λ _ h=>(by cases h),?_⟩;gi_wp2;go_roundw
      case rel=>exact(.inr (.inr (.inl ⟨rfl,o,(by rw[re.out];exact ep.out),dI.out,iR.out,HO.out⟩)))
      case measure=>simp[intOf]
     | some g =>
      obtain⟨v,rfl,eh,bS⟩:=hP;obtain⟨a,cap,rfl,fX⟩:=Bytes.ab eh;have hT:Zai c k (Zai c k y 1) 2=Zcf c (Zai c k y 1) (Zr c (Zai c k y 1).hub g):=Zgv hO;have gA:HubFrm c BB g:=((hI.nodes k il).tell il hc eo (by rw[hO])).1;have iT:=HR.out.below bS h5;have om:=HF.out.ob bS;obtain⟨fn,tmps,assign,body,Gq,yc⟩:=HY.out o (Zai c k y 1) w3 g a _ cap iT.1 ⟨BB,hI,gA⟩ fX (HU.out.trans iT.2);obtain⟨ep,dI,iR,re⟩:=ZH4 iT.1 (HU.out.trans iT.2) om hT;clear bS iT om hI hN hO hT eh fX gA;gi_wp2;refine yc.mono ?_;rintro e W' ⟨rfl,o2,dC,cm⟩;obtain⟨fU,fF,lY,dt⟩:=ZH4 dC (dI.out.trans cm) (iR.out.upd cm (by rw[HO.out];rintro(⟨h1,h2⟩ | h1) <;> omega)) ((cm.old fb iR.out.lt).trans HO.out);clear dC cm yc Gq;gi_wp2;go_roundw
      case rel=>exact(.inr (.inr (.inl ⟨rfl,o2,(by rw[re.out];exact fU.out),fF.out,lY.out,dt.out⟩)))
      case measure=>simp[intOf]
    ·obtain⟨o,hr,hu,hf,ho⟩:=hrel;have qr:=hf.cell 2;simp only[ZD,ZE,ZG] at qr;have jQ:=hf.lt;obtain⟨HR,HU,HF,HO⟩:=ZH4 hr hu hf ho;clear hr hu hf ho;gi_wp2;refine⟨trivial,?_⟩;obtain⟨BB,hI⟩:=HR.out.inv;have eo:tot BB.made<=100:=ZT hI.sum hm;have hN:=HR.out.at_.node k q HQ.out;refine(callsIn_wide.2 ((Zdr hN HR.out.fresh (hI.nodes k il) ZO hc eo).2.2)).mono ?_;intro e w3 hP;unfold Zbl at hP;obtain⟨og,fV,hO⟩:∃ og fV,Zbt c k ((Zai c k (Zai c k y 1) 2).nodes k).s 3=(og,fV):=⟨_,_,rfl⟩;rw[hO] at hP
     cases og with
     | none =>
      obtain⟨rfl,bS⟩:=hP;have hT:Zai c k (Zai c k (Zai c k y 1) 2) 3=Zai c k (Zai c k y 1) 2:=Zgu hO;have hz:((fV:Int)==0)=false:=by
       have h1:=Zdx (c:=c) (r:=k) (k:=3) (s:=((Zai c k (Zai c k y 1) 2).nodes k).s) (by rw[hO]);rw[hO] at h1;simp at h1 ⊢;exact h1
      have iT:=HR.out.below bS h5;have om:=HF.out.ob bS;obtain⟨ep,dI,iR,re⟩:=ZH4 iT.1 (HU.out.trans iT.2) om hT;clear bS iT om hI hN hO hT;gi_wp2;refine⟨λ _ h=>(by cases h),?_⟩;gi_wp2;go_roundw
      case rel=>exact(.inr (.inr (.inr ⟨rfl,o,(by rw[show Zft c y k=Zai c k (Zai c k (Zai c k y 1) 2) 3 from rfl,re.out];exact ep.out),dI.out,iR.out,HO.out⟩)))
      case measure=>simp[intOf]
     | some g =>
      obtain⟨v,rfl,eh,bS⟩:=hP;obtain⟨a,cap,rfl,fX⟩:=Bytes.ab eh;have hT:Zai c k (Zai c k (Zai c k y 1) 2) 3=Zcf c (Zai c k (Zai c k y 1) 2) (Zr c (Zai c k (Zai c k y 1) 2).hub g):=Zgv hO;have gA:HubFrm c BB g:=((hI.nodes k il).tell il hc eo (by rw[hO])).1;have iT:=HR.out.below bS h5;have om:=HF.out.ob bS;obtain⟨fn,tmps,assign,body,Gq,yc⟩:=HY.out o (Zai c k (Zai c k y 1) 2) w3 g a _ cap iT.1 ⟨BB,hI,gA⟩ fX (HU.out.trans iT.2);obtain⟨ep,dI,iR,re⟩:=ZH4 iT.1 (HU.out.trans iT.2) om hT;clear bS iT om hI hN hO hT eh fX gA;gi_wp2;refine yc.mono ?_;rintro e W' ⟨rfl,o2,dC,cm⟩;obtain⟨fU,fF,lY,dt⟩:=ZH4 dC (dI.out.trans cm) (iR.out.upd cm (by rw[HO.out];rintro(⟨h1,h2⟩ | h1) <;> omega)) ((cm.old fb iR.out.lt).trans HO.out);clear dC cm yc Gq;gi_wp2;go_roundw
      case rel=>exact(.inr (.inr (.inr ⟨rfl,o2,(by rw[show Zft c y k=Zai c k (Zai c k (Zai c k y 1) 2) 3 from rfl,re.out];exact fU.out),fF.out,lY.out,dt.out⟩)))
      case measure=>simp[intOf]
    ·obtain⟨o,hr,hu,hf,ho⟩:=hrel;obtain⟨HR,HU⟩:=ZH2 hr hu;clear hr hu hf ho;gi_wp2;go_roundw
     case rel =>
      refine⟨k+1,o,ZO,ZN,?_,HU⟩;rw[List.range_succ,List.foldl_append,←RK.out];exact HR
     case measure=>simp[intOf];omega
  ·obtain rfl:k=c.n:=ZO;gi_wp2;go_end0
   exact⟨⟨_,rfl⟩,o,HR.out,HU.out⟩
end
end
section
structure SiteN where
 up:Bool
 clk:Clk
 sent:Nat
 held:List Ev
 log:List Ev
def Zbz(s:NodeSt):SiteN:=if s.up=true then⟨true,s.clk,s.sent,s.held,s.log⟩ else⟨false,ZCz,0,[],[]⟩
section
variable {c:Cfg}{B B':Bd}{m b r k:Nat}{x y:WS}{s:St}{a:PN}
theorem ZlP{s:NodeSt}(h:s.up=true):Zbz s=⟨true,s.clk,s.sent,s.held,s.log⟩:=by unfold Zbz;rw[if_pos h]
theorem Zi9{s:NodeSt}(h:s.up=false):Zbz s=⟨false,ZCz,0,[],[]⟩:=by unfold Zbz;rw[if_neg (by simp[h])]
end
end
section
def Zro(S:SiteN)(w:World)(e:Ending)(w':World):Prop:=∃ vh vl,e = .returned (Zhz S.up S.clk S.sent vh vl)/\MarkRow w.heap.size w' vh S.held/\MarkRow w.heap.size w' vl S.log/\Below w.heap.size w w'
theorem SitePost.all{s:NodeSt}{w w':World}{e:Ending}(h:SitePost s w e w'):Zro (Zbz s) w e w':=by
 unfold SitePost at h;split at h
 ·rename_i hu;rw[ZlP hu];exact h
 ·rename_i hu;rw[Zi9 (by simpa using hu)];exact⟨_,_,h.1,⟨rfl,.inl ⟨rfl,rfl⟩⟩,⟨rfl,.inl ⟨rfl,rfl⟩⟩,h.2⟩
section
variable {own:Own}{t p m b r:Nat}{w:World}{c:Cfg}{B:Bd}{x:WS}
theorem Zox(h:WorldAt own t w p c x)(hf:Fresh own w)(hi:WInv c B m b x)(hc:c.Ok)(hm:m<=100)(hr:r<c.n):Calls prog 15 #[ptrV p,.int .i64 r] w (ListPost (x.nodes r).s w):=by
 have h5:=hc.n5;have eo:tot B.made<=100:=ZT hi.sum hm;obtain⟨HW,HF,HI⟩:=ZH3 h hf hi;clear h hf hi;go_enter func15,ntmps15;go_wp2_with fail;refine(ZaG HW.out hr).mono ?_;rintro _ w1 ⟨rfl,bS⟩;have co:Upd (λ _=>False) own own w w1:=ZUb bS HF.out;have dl:=HW.out.upd co (λ _ _ h=>h) (λ h=>h) h5;obtain⟨g,k,hp,lp,q,bY,eB,bU,de,eS⟩:=dl.node hr h5;have fJ:(0:Int)<=(r:Int):=ZO;have km:(r:Int)<(c.n:Int):=ZO;obtain⟨c0,c1,c2⟩:=bY.three;have cQ:=bY.lt;obtain⟨HN,cL⟩:=ZH2 de bS;clear co dl bY de eS bS;go_wp2_with fail;refine(ZnU HN.out (HI.out.nodes _ hr) eo).mono ?_;intro e w2 hP;unfold ListPost at hP;split at hP
 ·rename_i hu;obtain⟨v,rfl,i4⟩:=hP;obtain⟨HP,xQ⟩:=ZH2 i4 hu;clear i4 hu;go_wp2_with fail;go_ret2
  unfold ListPost;rw[if_pos xQ.out];obtain⟨v',ps,e1,e2,e3,e4⟩:=HP.out;exact⟨v,rfl,v',ps,e1,e2,e3.mono cL.out.size,cL.out.trans (e4.mono cL.out.size)⟩
 ·rename_i hu;obtain⟨rfl,bW⟩:=hP;obtain⟨HP,xQ⟩:=ZH2 bW hu;clear bW hu;go_wp2_with fail;go_ret2
  unfold ListPost;rw[if_neg xQ.out];exact⟨rfl,cL.out.trans (HP.out.mono cL.out.size)⟩
theorem Zjg(h:WorldAt own t w p c x)(hf:Fresh own w)(hi:WInv c B m b x)(hc:c.Ok)(hm:m<=100)(hr:r<c.n):Calls prog 18 #[ptrV p,.int .i64 r] w (Zro (Zbz (x.nodes r).s) w):=by
 have h5:=hc.n5;have eo:tot B.made<=100:=ZT hi.sum hm;have HZ:=ZH (ZBn w 47 (Zx false ZCz 0 (.slice none 0 0) (.slice none 0 0)));have cD:=(ZW w.heap.size w).alloc (ZL _) (.cells (Zx false ZCz 0 (.slice none 0 0) (.slice none 0 0)) 47);obtain⟨HW,HF,HI⟩:=ZH3 (h.upd (ZUb cD hf) (T:=λ _=>False) (λ _ _ h=>h) (λ h=>h) h5) (ZUb (T:=λ _=>False) (own:=own) cD hf) hi;obtain⟨W0,gJ⟩:∃ W0,W0=w.alloc (.cells (Zx false ZCz 0 (.slice none 0 0) (.slice none 0 0)) 47):=⟨_,rfl⟩;rw[←gJ] at HW HF HZ;have l5:=ZH gJ;clear h hf hi cD gJ;go_enter func18,ntmps18
 go_wp2_with (first
  |(refine Zy rfl 47 rfl (Zx false ZCz 0 (.slice none 0 0) (.slice none 0 0)) ZK ?_
    rw[←l5.out]))
 refine(ZaG HW.out hr).mono ?_;rintro _ w1 ⟨rfl,bS⟩;have co:Upd (λ _=>False) own own W0 w1:=ZUb bS HF.out.fresh;have dl:=HW.out.upd co (λ _ _ h=>h) (λ h=>h) h5;obtain⟨g,k,hp,lp,q,bY,eB,bU,de,eS⟩:=dl.node hr h5;have fJ:(0:Int)<=(r:Int):=ZO;have km:(r:Int)<(c.n:Int):=ZO;obtain⟨c0,c1,c2⟩:=bY.three;have cQ:=bY.lt;obtain⟨HN,cL,da,mn⟩:=ZH4 de bS (HF.out.trans co) (HZ.out.ob bS);clear co dl bY de eS bS;go_wp2_with fail;refine(Zgg HN.out da.out.fresh (HI.out.nodes _ hr) eo).mono ?_;intro e w2 hP;obtain⟨vh,vl,rfl,lM,jh,bW⟩:=hP.all;have pB:=ZH (mn.out.ob bW)
 have cr:Hid (Kept w.heap.size w w2):=ZH ⟨by
  have h1:Upd (λ _=>False) own own w w2:=da.out.kept bW
  exact⟨h1.os,h1.tape,h1.output,h1.size,λ k hk=>h1.same k hk (λ h=>h)⟩,(da.out.kept bW).size⟩
 obtain⟨C2,vf⟩:=ZH2 lM jh;obtain⟨ah,mh,kh,rfl⟩:=Zbg lM;obtain⟨al,ml,kl,rfl⟩:=Zbg jh;obtain⟨S,hS⟩:∃ S,S=Zbz (x.nodes r).s:=⟨_,rfl⟩;rw[←hS] at C2 vf ⊢;have HS:=ZH hS;have oI:=pB.out.lt;clear hP lM jh bW hS
 go_wp2_with (first
  |(refine wpList_store_row rfl 47 (.tmp 4) (.tmp 17) rfl w.heap.size (Zx S.up S.clk S.sent (.slice ah mh kh) (.slice al ml kl)) rfl rfl 47 (Zx false ZCz 0 (.slice none 0 0) (.slice none 0 0)) pB.out (Zdl _ _ _ _ _) rfl (Zio _ _ _ _ _ _ _ _ _) ?_))
 refine bodyPost_ret (Zac rfl rfl (run_loadVar_row _ _ _ _ _ _ _ (pB.out.row _) underlying47 rfl (Zdl _ _ _ _ _))) rfl ?_;rw[←HS.out]
 have jf:∀ (v:Value) (es:List Ev),MarkRow w1.heap.size w2 v es->MarkRow w.heap.size (w2.setRow w.heap.size (Zx S.up S.clk S.sent (.slice ah mh kh) (.slice al ml kl))) v es:=λ v es hr=>Zi (Zh hr (λ g hg _=>setRow_other _ _ _ _ (λ e=>by
  have h1:=(Zb hr hg).1;have h2:=mn.out.lt
  omega))) da.out.size
 exact⟨_,_,rfl,jf _ _ C2.out,jf _ _ vf.out,(cr.out.row (ZL _) _).below⟩
theorem ZlY(h:WorldAt own t w p c x):Calls prog 102 #[ptrV p] w (Zv (.int .i64 x.link.length) w):=by
 obtain⟨vn,hp,lp,bY,kV,eS⟩:=h.link;obtain⟨c0,c1,c2⟩:=bY.three;have cQ:=bY.lt;have eR:(flsOf x.link).length=x.link.length:=by unfold flsOf;rw[List.length_map]
 have HL:=ZH (Zqt kV);rw[eR] at HL;clear bY kV eS h eR;go_enter func102,ntmps102;go_wp2_with fail;refine HL.out.mono ?_;rintro _ w1 ⟨rfl,bS⟩;have HB:=ZH bS;clear bS;go_wp2
 go_ret;exact⟨rfl,HB.out⟩
theorem WInv.aV(h:WInv c B m b x)(hc:c.Ok):∃ u k l ac,Zcl x.hub.s.up x.hub.s.sh x.hub.s.told=Zc4 u k l ac/\ac.length=5:=by
 obtain⟨H,hH,hi,_⟩:=h.hub;unfold Zcl
 cases hu:x.hub.s.up with
 | false=>exact⟨_,_,_,_,rfl,ZM⟩
 | true =>
  obtain⟨_,_,g3⟩:=hi.up hu;have hl:=hi.inv.len2;rw[g3] at hl;have h5:=hc.n5;exact⟨_,_,_,_,rfl,ZcT (by simp only at hl;omega)⟩
theorem ZpX(h:WorldAt own t w p c x)(hf:Fresh own w)(hi:WInv c B m b x)(hc:c.Ok)(hm:m<=100):Calls prog 23 #[ptrV p] w (Zv (Zcl x.hub.s.up x.hub.s.sh x.hub.s.told) w):=by
 have h5:=hc.n5;have eo:tot B.made<=100:=ZT hi.sum hm;have hz:=ZBn w 56 (Zt false ZCz ZCz (List.replicate 5 ZCz));have cD:=(ZW w.heap.size w).alloc (ZL _) (.cells (Zt false ZCz ZCz (List.replicate 5 ZCz)) 56);have cX:Upd (λ _=>False) own own w _:=ZUb cD hf;obtain⟨vn,hp,lp,bY,fI,eS⟩:=(h.upd cX (λ _ _ h=>h) (λ h=>h) h5).hub;obtain⟨H,hH,o6,_⟩:=hi.hub;have hS:=Zj0 fI cX.fresh o6 hc eo;obtain⟨u,k,l,ac,rq,tJ⟩:=hi.aV hc;rw[rq] at hS ⊢;obtain⟨W0,gJ⟩:∃ W0,W0=w.alloc (.cells (Zt false ZCz ZCz (List.replicate 5 ZCz)) 56):=⟨_,rfl⟩;rw[←gJ] at hS hz cD bY;obtain⟨l5,HS,HZ⟩:=ZH3 gJ hS hz;have df:Hid (Kept w.heap.size w W0):=ZH ⟨cD,cD.size⟩;have H5:=ZH tJ;obtain⟨c0,c1,c2⟩:=bY.three;have cQ:=bY.lt;clear h hf hi hz cD cX bY fI eS o6 hS rq tJ gJ;go_enter func23,ntmps23
 go_wp2_with (first
  |(refine Zy rfl 56 rfl (Zt false ZCz ZCz (List.replicate 5 ZCz)) ZK ?_
    rw[←l5.out]))
 refine HS.out.mono ?_;rintro _ w1 ⟨rfl,bS⟩;obtain⟨mn,cE⟩:=ZH2 (HZ.out.ob bS) (df.out.step bS);have oI:=mn.out.lt;clear bS
 go_wp2_with (first
  |(refine wpList_store_row rfl 56 (.tmp 2) (.tmp 13) rfl w.heap.size (Zt u k l ac) rfl rfl 56 (Zt false ZCz ZCz (List.replicate 5 ZCz)) mn.out (ZbR _ _ _ H5.out) (by simp only[Zcb,H5.out,List.length_replicate]) (Zdq _ _ _ _) ?_))
 refine bodyPost_ret (Zac rfl rfl (run_loadVar_row _ _ _ _ _ _ _ (mn.out.row _) underlying56 rfl (ZbR _ _ _ H5.out))) rfl ?_;exact⟨rfl,(cE.out.row (ZL _) _).below⟩
end
end
abbrev nodeC(q:Clk × Nat × Nat × Nat):List Value:=[.int .i64 q.1.c0,.int .i64 q.1.c1,.int .i64 q.1.c2,.int .i64 q.1.c3,.int .i64 q.1.c4,.int .i64 q.2.1,.int .i64 q.2.2.1,.int .i64 q.2.2.2]
def Zl(S:StandN):Array Value:=Zt S.up S.base S.len S.acks++(S.nodes.flatMap nodeC).toArray
theorem ZeN{α : Type}{l:List α}(h:l.length=5):∃ a b c d e,l=[a,b,c,d,e]:=by
 match l,h with
 | [a,b,c,d,e],_=>exact⟨a,b,c,d,e,rfl⟩
theorem Zjp{d:Nat}{w:World}{xs ys:Array Value}{fs:List Field}(h:(fs.map λ f=>(f.name == "_",f.type,f.offset))=[]):(Op.eqFields d xs ys fs).run prog w = .ok (decide True) w:=by
 have:fs=[]:=by simpa using h
 subst this;simp[Op.eqFields]
theorem Zcw{d:Nat}{w:World}{xs ys:Array Value}{fs:List Field}{t o:Nat}{L:List (Bool × TypeId × Nat)}{a b:Value}{p q:Prop}[Decidable p][Decidable q]
  (h:(fs.map λ f=>(f.name == "_",f.type,f.offset))=(false,t,o)::L) (p1:(Go.part t xs o).run prog w = .ok a w) (p2:(Go.part t ys o).run prog w = .ok b w) (p3:(Op.equalIn d t a b).run prog w = .ok (decide p) w)
  (hr:∀ N6:List Field,(N6.map λ f=>(f.name == "_",f.type,f.offset))=L->(Op.eqFields d xs ys N6).run prog w = .ok (decide q) w) :
  (Op.eqFields d xs ys fs).run prog w = .ok (decide (p/\q)) w:=by
 cases fs with
 | nil=>simp at h
 | cons f fs =>
  simp only[List.map_cons,List.cons.injEq,Prod.mk.injEq] at h;obtain⟨⟨h1,h2,h3⟩,h4⟩:=h;have hn:f.name ≠ "_" := by simpa using h1
  subst h2;subst h3;simp only[Op.eqFields,hn,ne_eq,not_false_eq_true,if_true,Sem.run_bind,p1,p2,p3,Result.andThen_ok];by_cases hp:p <;> simp[hp,hr fs h4]
theorem Zbm{e:TypeId}{k n:Nat}{xs ys:Array Value}{off:Nat}(w:World)(ha:(∃ m e',prog.underlying e=some (.array m e'))∨(∃ fs,prog.underlying e=some (.struct fs)))(hk:prog.cellsOf e=k)(hn:n=off+k)(hx:xs.extract off n=ys):(Go.part e xs off).run prog w = .ok (.agg ys) w:=by
 subst hn;rcases ha with ⟨m,e',hu⟩|⟨fs,hu⟩
 rotate_left
 rotate_left
 all_goals
  obtain⟨i,hi⟩:=info_of_underlying hu;simp[Go.part,isAgg,run_underlying hu,run_sizeOf w hi,hk,hx]
theorem ZmU{d:Nat}{t k:Nat}{w:World}{xs ys:Array Value}:(Op.eqItems d t k xs ys []).run prog w = .ok (decide True) w:=by simp[Op.eqItems]
theorem Zcx{d:Nat}{w:World}{xs ys:Array Value}{t k i:Nat}{is:List Nat}{a b:Value}{p q:Prop}[Decidable p][Decidable q]
  (p1:(Go.part t xs (i*k)).run prog w = .ok a w) (p2:(Go.part t ys (i*k)).run prog w = .ok b w) (p3:(Op.equalIn d t a b).run prog w = .ok (decide p) w)
  (hr:(Op.eqItems d t k xs ys is).run prog w = .ok (decide q) w) :
  (Op.eqItems d t k xs ys (i::is)).run prog w = .ok (decide (p/\q)) w:=by
 simp only[Op.eqItems,Sem.run_bind,p1,p2,p3,Result.andThen_ok];by_cases hp:p <;> simp[hp,hr]
theorem Zfl:∃ m e',prog.underlying 44=some (.array m e'):=⟨_,_,underlying44⟩
theorem Zrp:∃ m e',prog.underlying 54=some (.array m e'):=⟨_,_,underlying54⟩
theorem Zrq:∃ m e',prog.underlying 99=some (.array m e'):=⟨_,_,underlying99⟩
theorem Zoo:prog.underlying 56=some (.struct (prog.fieldsOf 56)):=ZK
theorem ZkQ:prog.underlying 98=some (.struct (prog.fieldsOf 98)):=ZK
theorem Zjc:prog.underlying 101=some (.struct (prog.fieldsOf 101)):=ZK
theorem Zsq:prog.stoodInHeld 56=false:=ZK
theorem Zsr:prog.stoodInHeld 98=false:=ZK
theorem ZrQ:prog.stoodInHeld 101=false:=ZK
theorem Zdn:prog.cellsOf 44=5:=ZK
theorem ZmP:prog.cellsOf 54=25:=ZK
theorem ZmQ:prog.cellsOf 56=36:=ZK
theorem Zjm:prog.cellsOf 98=8:=ZK
theorem ZmR:prog.cellsOf 99=40:=ZK
theorem Zsn:((prog.fieldsOf 56).toList.map λ f=>(f.name == "_",f.type,f.offset))=[(false,4,0),(false,44,1),(false,44,6),(false,54,11)]:=ZK
theorem Zso:((prog.fieldsOf 98).toList.map λ f=>(f.name == "_",f.type,f.offset))=[(false,44,0),(false,3,5),(false,3,6),(false,3,7)]:=ZK
theorem ZrO:((prog.fieldsOf 101).toList.map λ f=>(f.name == "_",f.type,f.offset))=[(false,56,0),(false,99,36)]:=ZK
theorem ZsD:prog.plainKey 4=true:=ZK
theorem ZoJ(a b:Nat):((a:Int)==(b:Int))=decide (a=b):=by
 rw[Bool.eq_iff_iff];simp only[beq_iff_eq,decide_eq_true_eq];omega
theorem Zlc(d a b:Nat)(w:World):(Op.equalIn (d+1) 3 (.int .i64 (a:Int)) (.int .i64 (b:Int))).run prog w = .ok (decide (a=b)) w:=by
 rw[←ZoJ];exact run_equalIn_int (P:=prog) w d 3 .i64 .i64 a b underlying3
theorem ZrI(d:Nat)(a b:Bool)(w:World):(Op.equalIn (d+1) 4 (.bool a) (.bool b)).run prog w = .ok (decide (a=b)) w:=by
 rw[run_equalIn_bool w d 4 a b underlying4]
 cases a <;> cases b <;> rfl
theorem Zeh{xs:Array Value}{o:Nat}{v:Value}(w:World)(h:xs[o]? = some v):(Go.part 3 xs o).run prog w = .ok v w:=run_part_plain (P:=prog) (w:=w) Zg9 h
theorem Zkg{xs:Array Value}{o:Nat}{v:Value}(w:World)(h:xs[o]? = some v):(Go.part 4 xs o).run prog w = .ok v w:=run_part_plain (P:=prog) (w:=w) ZsD h
theorem ZrH(d:Nat)(a0 a1 a2 a3 a4 b0 b1 b2 b3 b4:Clk)(w:World):(Op.equalIn (d+1+1+1) 54 (.agg (clkCells [a0,a1,a2,a3,a4]).toArray) (.agg (clkCells [b0,b1,b2,b3,b4]).toArray)).run prog w = .ok (decide (a0=b0/\a1=b1/\a2=b2/\a3=b3/\a4=b4/\True)) w:=by
 obtain⟨i,hi⟩:=info_of_underlying underlying44;rw[run_equalIn_array w _ _ _ underlying54 hi,Zdn];simp only[List.range,List.range.loop];have pa:∀ w i v,(clkCells [a0,a1,a2,a3,a4]).toArray.extract (i*5) (i*5+5)=clkArr v->(Go.part 44 (clkCells [a0,a1,a2,a3,a4]).toArray (i*5)).run prog w = .ok (Za2 v) w:=λ w i v h=>Zbm w (.inl Zfl) Zdn rfl h
 have pb:∀ w i v,(clkCells [b0,b1,b2,b3,b4]).toArray.extract (i*5) (i*5+5)=clkArr v->(Go.part 44 (clkCells [b0,b1,b2,b3,b4]).toArray (i*5)).run prog w = .ok (Za2 v) w:=λ w i v h=>Zbm w (.inl Zfl) Zdn rfl h
 exact Zcx (pa _ _ a0 rfl) (pb _ _ b0 rfl) (ZaO _ _ _ _) (Zcx (pa _ _ a1 rfl) (pb _ _ b1 rfl) (ZaO _ _ _ _) (Zcx (pa _ _ a2 rfl) (pb _ _ b2 rfl) (ZaO _ _ _ _) (Zcx (pa _ _ a3 rfl) (pb _ _ b3 rfl) (ZaO _ _ _ _) (Zcx (pa _ _ a4 rfl) (pb _ _ b4 rfl) (ZaO _ _ _ _) ZmU))))
theorem Zsj(d:Nat)(u u':Bool)(b l b' l' a0 a1 a2 a3 a4 b0 b1 b2 b3 b4:Clk)(w:World):(Op.equalIn (d+1+1+1+1) 56 (.agg (Zt u b l [a0,a1,a2,a3,a4])) (.agg (Zt u' b' l' [b0,b1,b2,b3,b4]))).run prog w = .ok (decide (u=u'/\b=b'/\l=l'/\(a0=b0/\a1=b1/\a2=b2/\a3=b3/\a4=b4/\True)/\True)) w:=by
 rw[run_equalIn_struct w _ _ _ _ Zoo Zsq];refine Zcw Zsn (Zkg w (v := .bool u) ZK) (Zkg w (v := .bool u') ZK) (ZrI _ u u' w) λ N7 h1=>?_
 refine Zcw h1 (Zbm w (.inl Zfl) Zdn rfl (ys:=clkArr b) ZK) (Zbm w (.inl Zfl) Zdn rfl (ys:=clkArr b') ZK) (ZaO b b' (d+1) w) λ R2 h2=>?_
 refine Zcw h2 (Zbm w (.inl Zfl) Zdn rfl (ys:=clkArr l) ZK) (Zbm w (.inl Zfl) Zdn rfl (ys:=clkArr l') ZK) (ZaO l l' (d+1) w) λ R3 h3=>?_
 refine Zcw h3 (Zbm w (.inl Zrp) ZmP rfl (ys:=(clkCells [a0,a1,a2,a3,a4]).toArray) ZK) (Zbm w (.inl Zrp) ZmP rfl (ys:=(clkCells [b0,b1,b2,b3,b4]).toArray) ZK) (ZrH d _ _ _ _ _ _ _ _ _ _ w) λ N8 h4=>Zjp h4
theorem Zsk(d:Nat)(p q:Clk × Nat × Nat × Nat)(w:World):(Op.equalIn (d+1+1+1) 98 (.agg (nodeC p).toArray) (.agg (nodeC q).toArray)).run prog w = .ok (decide (p.1=q.1/\p.2.1=q.2.1/\p.2.2.1=q.2.2.1/\p.2.2.2=q.2.2.2/\True)) w:=by
 rw[run_equalIn_struct w _ _ _ _ ZkQ Zsr];refine Zcw Zso (Zbm w (.inl Zfl) Zdn rfl (ys:=clkArr p.1) ZK) (Zbm w (.inl Zfl) Zdn rfl (ys:=clkArr q.1) ZK) (ZaO p.1 q.1 d w) λ N7 h1=>?_
 refine Zcw h1 (Zeh w (v := .int .i64 p.2.1) rfl) (Zeh w (v := .int .i64 q.2.1) rfl) (Zlc _ _ _ w) λ R2 h2=>?_
 refine Zcw h2 (Zeh w (v := .int .i64 p.2.2.1) rfl) (Zeh w (v := .int .i64 q.2.2.1) rfl) (Zlc _ _ _ w) λ R3 h3=>?_
 refine Zcw h3 (Zeh w (v := .int .i64 p.2.2.2) rfl) (Zeh w (v := .int .i64 q.2.2.2) rfl) (Zlc _ _ _ w) λ N8 h4=>Zjp h4
theorem ZfG(d:Nat)(p q:Clk × Nat × Nat × Nat)(w:World):(Op.equalIn (d+1+1+1) 98 (.agg (nodeC p).toArray) (.agg (nodeC q).toArray)).run prog w = .ok (decide (p=q)) w:=by
 rw[Zsk d p q w];congr 1;obtain⟨p1,p2,p3,p4⟩:=p;obtain⟨q1,q2,q3,q4⟩:=q;simp only[Prod.mk.injEq,and_true]
theorem Zqb(d:Nat)(a0 a1 a2 a3 a4 b0 b1 b2 b3 b4:Clk × Nat × Nat × Nat)(w:World):(Op.equalIn (d+1+1+1+1) 99 (.agg ([a0,a1,a2,a3,a4].flatMap nodeC).toArray) (.agg ([b0,b1,b2,b3,b4].flatMap nodeC).toArray)).run prog w = .ok (decide (a0=b0/\a1=b1/\a2=b2/\a3=b3/\a4=b4/\True)) w:=by
 obtain⟨i,hi⟩:=info_of_underlying ZkQ;rw[run_equalIn_array w _ _ _ underlying99 hi,Zjm];simp only[List.range,List.range.loop];have pa:∀ w i v,([a0,a1,a2,a3,a4].flatMap nodeC).toArray.extract (i*8) (i*8+8)=(nodeC v).toArray->(Go.part 98 ([a0,a1,a2,a3,a4].flatMap nodeC).toArray (i*8)).run prog w = .ok (.agg (nodeC v).toArray) w:=λ w i v h=>Zbm w (.inr ⟨_,ZkQ⟩) Zjm rfl h
 have pb:∀ w i v,([b0,b1,b2,b3,b4].flatMap nodeC).toArray.extract (i*8) (i*8+8)=(nodeC v).toArray->(Go.part 98 ([b0,b1,b2,b3,b4].flatMap nodeC).toArray (i*8)).run prog w = .ok (.agg (nodeC v).toArray) w:=λ w i v h=>Zbm w (.inr ⟨_,ZkQ⟩) Zjm rfl h
 exact Zcx (pa _ _ a0 rfl) (pb _ _ b0 rfl) (ZfG _ _ _ _) (Zcx (pa _ _ a1 rfl) (pb _ _ b1 rfl) (ZfG _ _ _ _) (Zcx (pa _ _ a2 rfl) (pb _ _ b2 rfl) (ZfG _ _ _ _) (Zcx (pa _ _ a3 rfl) (pb _ _ b3 rfl) (ZfG _ _ _ _) (Zcx (pa _ _ a4 rfl) (pb _ _ b4 rfl) (ZfG _ _ _ _) ZmU))))
theorem Zq8{S S':StandN}(h1:S.acks.length=5)(h2:S.nodes.length=5)(DZ:S'.acks.length=5)(KK:S'.nodes.length=5)(w:World):(Op.equalIn 10000 101 (.agg (Zl S)) (.agg (Zl S'))).run prog w = .ok (decide (S=S')) w:=by
 obtain⟨u,b,l,A,Q⟩:=S;obtain⟨u',b',l',A',Q'⟩:=S';obtain⟨q0,q1,q2,q3,q4,e2⟩:=ZeN h2;obtain⟨r0,r1,r2,r3,r4,N4⟩:=ZeN KK;obtain⟨a0,a1,a2,a3,a4,e1⟩:=ZeN h1;obtain⟨b0,b1,b2,b3,b4,N1⟩:=ZeN DZ;simp only at e1 e2 N1 N4;subst e1 e2 N1 N4;have h:(Op.equalIn (9994+1+1+1+1+1+1) 101 (.agg (Zl ⟨u,b,l,[a0,a1,a2,a3,a4],[q0,q1,q2,q3,q4]⟩)) (.agg (Zl ⟨u',b',l',[b0,b1,b2,b3,b4],[r0,r1,r2,r3,r4]⟩))).run prog w = .ok (decide ((u=u'/\b=b'/\l=l'/\(a0=b0/\a1=b1/\a2=b2/\a3=b3/\a4=b4/\True)/\True)/\(q0=r0/\q1=r1/\q2=r2/\q3=r3/\q4=r4/\True)/\True)) w:=by
  rw[run_equalIn_struct w _ _ _ _ Zjc ZrQ];refine Zcw ZrO (Zbm w (.inr ⟨_,Zoo⟩) ZmQ rfl (ys:=Zt u b l [a0,a1,a2,a3,a4]) ZK) (Zbm w (.inr ⟨_,Zoo⟩) ZmQ rfl (ys:=Zt u' b' l' [b0,b1,b2,b3,b4]) ZK) (Zsj _ _ _ _ _ _ _ _ _ _ _ _ _ _ _ _ _ w) λ N7 h1=>?_
  refine Zcw h1 (Zbm w (.inl Zrq) ZmR rfl (ys:=([q0,q1,q2,q3,q4].flatMap nodeC).toArray) ZK) (Zbm w (.inl Zrq) ZmR rfl (ys:=([r0,r1,r2,r3,r4].flatMap nodeC).toArray) ZK) (Zqb _ _ _ _ _ _ _ _ _ _ _ w) λ N8 h4=>Zjp h4
 rw[show(10000:Nat)=9994+1+1+1+1+1+1 from rfl,h];congr 1;simp only[StandN.mk.injEq,List.cons.injEq,and_true,and_assoc]
section
abbrev Zea:=Clk × Nat × Nat × Nat
def quad0:Zea:=(ZCz,0,0,0)
def Zaq(f:Nat->Zea)(k:Nat):List Zea:=(List.range 5).map λ r=>if r<k then f r else quad0
theorem Zn6(f:Nat->Zea)(k:Nat):(Zaq f k).length=5:=by simp[Zaq]
def ZdB(S:SiteN):Zea:=(S.clk,S.sent,S.held.length,S.log.length)
theorem ZkM(x:PN):Zgp x=ZdB (Zbz x.s):=by
 unfold Zgp;split
 ·rename_i h;rw[ZlP h];rfl
 ·rename_i h;rw[Zi9 (by simpa using h)];rfl
def Zcq(c:Cfg)(x:WS)(k:Nat):StandN:={ ZaI c x with nodes:=Zaq (λ r=>ZdB (Zbz (x.nodes r).s)) k }
theorem Zon(c:Cfg)(x:WS):Zcq c x c.n=ZaI c x:=by
 have h:Zaq (λ r=>ZdB (Zbz (x.nodes r).s)) c.n=(ZaI c x).nodes:=by
  have e:(ZaI c x).nodes=(List.range 5).map λ r=>if r<c.n then Zgp (x.nodes r) else(ZCz,0,0,0):=rfl
  rw[e];unfold Zaq quad0;apply List.map_congr_left;intro r _;split
  ·rw[ZkM]
  ·rfl
 unfold Zcq;rw[h]
theorem Zmx(f:Nat->Zea):Zaq f 0=Zaq (λ _=>quad0) 0:=by
 unfold Zaq;apply List.map_congr_left;intro r _;simp
theorem ZrU(c:Cfg)(x:WS):Zcl x.hub.s.up x.hub.s.sh x.hub.s.told=Zc4 (ZaI c x).up (ZaI c x).base (ZaI c x).len (ZaI c x).acks:=by
 unfold Zcl ZaI
 cases x.hub.s.up <;> rfl
def ZbF(S:StandN):Value := .agg (Zl S)
theorem Zgq:(prog.info? 101).map (λ i=>i.size)=some 76:=ZK
theorem Zn7(f:Nat->Zea)(k:Nat):((Zaq f k).flatMap nodeC).length=40:=by
 obtain⟨a,b,d,e,g,h⟩:=ZeN (Zn6 f k);rw[h];rfl
theorem Zcr(u:Bool)(b l:Clk){ac:List Clk}(h:ac.length=5)(f:Nat->Zea)(k:Nat):(Zl ⟨u,b,l,ac,Zaq f k⟩).size=76:=by
 unfold Zl;rw[Array.size_append,Zcb,h];simp only[List.size_toArray,Zn7]
theorem Zpq(f:Nat->Zea)(k:Nat):∀ v∈(Zaq f k).flatMap nodeC,v.oneCell'=true:=by
 intro v hv;rw[List.mem_flatMap] at hv;obtain⟨q,_,hv⟩:=hv;simp[nodeC] at hv;rcases hv with rfl | rfl | rfl | rfl | rfl | rfl | rfl | rfl <;> rfl
theorem Zko(u:Bool)(b l:Clk)(ac:List Clk)(f:Nat->Zea)(k:Nat):(Zl ⟨u,b,l,ac,Zaq f k⟩).all (·.oneCell')=true:=by
 rw[Array.all_eq_true_iff_forall_mem];intro v hv;unfold Zl at hv;rw[Array.mem_append] at hv;rcases hv with hv | hv
 ·exact Array.all_eq_true_iff_forall_mem.1 (Zdq u b l ac) v hv
 ·exact Zpq f k v (by simpa using hv)
def ZaZ:StandN:=⟨false,ZCz,ZCz,List.replicate 5 ZCz,Zaq (λ _=>quad0) 0⟩
theorem Zl4(u:Bool)(b l:Clk){ac:List Clk}(h:ac.length=5):prog.built 101 [(0,Zc4 u b l ac)]=some (Zl ⟨u,b,l,ac,Zaq (λ _=>quad0) 0⟩):=by
 obtain⟨a0,a1,a2,a3,a4,rfl⟩:=ZeN h;kernel_rfl
theorem Zqh(u:Bool)(b l:Clk){ac:List Clk}(h:ac.length=5):(Zt u b l ac).toList.length=36:=by rw[Array.length_toList,Zcb,h]
theorem Zhl(u:Bool)(b l:Clk)(ac:List Clk)(q:List Zea):(Zl ⟨u,b,l,ac,q⟩).toList=(Zt u b l ac).toList++q.flatMap nodeC:=by
 show(Zt u b l ac++(q.flatMap nodeC).toArray).toList=_
 rw[Array.toList_append]
theorem Zpr(f:Nat->Zea){k:Nat}(hk:k<5):((Zaq f k).flatMap nodeC).take (k*8)++nodeC (f k)++((Zaq f k).flatMap nodeC).drop (k*8+8)=(Zaq f (k+1)).flatMap nodeC:=by
 have ef:k=0∨k=1∨k=2∨k=3∨k=4:=ZO;unfold Zaq;generalize quad0=z;rcases ef with rfl | rfl | rfl | rfl | rfl <;> simp[List.range,List.range.loop]
theorem ZpJ{w:World}{g:Nat}{f:Nat->Zea}{u:Bool}{b l:Clk}{ac:List Clk}(h:ac.length=5){k:Nat}(hk:k<5)(hb:Blk w g 101 (Zl ⟨u,b,l,ac,Zaq f k⟩)):Blk (setAll w g (36+k*8) (nodeC (f k))) g 101 (Zl ⟨u,b,l,ac,Zaq f (k+1)⟩):=by
 have h7:(Zl ⟨u,b,l,ac,Zaq f k⟩).toList.length=76:=by rw[Array.length_toList,Zcr u b l h]
 have h1:=Zba (nodeC (f k)) (36+k*8) w (Zl ⟨u,b,l,ac,Zaq f k⟩).toList (by simpa using hb) (by rw[h7];show 36+k*8+8<=76;omega);have Se:=Zqh u b l h;have e:(Zl ⟨u,b,l,ac,Zaq f k⟩).toList.take (36+k*8)++nodeC (f k)++(Zl ⟨u,b,l,ac,Zaq f k⟩).toList.drop (36+k*8+8)=(Zl ⟨u,b,l,ac,Zaq f (k+1)⟩).toList:=by
  rw[Zhl,Zhl,←Zpr f hk];generalize (Zt u b l ac).toList=H at *;generalize (Zaq f k).flatMap nodeC=F;generalize nodeC (f k)=N;rw[List.take_append,List.drop_append,Se,ZU ZO,List.drop_of_length_le ZO,show 36+k*8-36=k*8 by omega,show 36+k*8+8-36=k*8+8 by omega];simp
 have hl:(nodeC (f k)).length=8:=rfl;rw[hl,e] at h1;simpa using h1
section
variable {own:Own}{t p m b r:Nat}{w:World}{c:Cfg}{B:Bd}{x:WS}
theorem MarkRow.slice{B:Nat}{w:World}{v:Value}{es:List Ev}(h:MarkRow B w v es):∃ a cap,v = .slice a es.length cap:=by
 rcases h.2 with ⟨h1,h2⟩|⟨g2,cap,cur,rfl,_⟩
 ·rw[h1,h2];exact⟨none,0,rfl⟩
 ·exact⟨_,_,rfl⟩
theorem Blk.ba{w:World}{g:Nat}{t:TypeId}{X:Array Value}(h:Blk w g t X){i:Nat}(hs:X.size=76)(hi:i<76):∃ v,w.cell? ⟨g,i,none⟩=some v :=
 ⟨_,(h.cell i).trans (Array.getElem?_eq_getElem ZO)⟩
theorem Blk.bm{w:World}{g:Nat}{t:TypeId}{X:Array Value}(h:Blk w g t X)(hs:X.size=76)(i:Nat)(v:Value):∃ Y:Array Value,Y.size=76/\Blk (w.setCell ⟨g,i,none⟩ v) g t Y :=
 ⟨_,by simpa using hs,h.ai i v⟩
theorem Blk.other{w w':World}{g:Nat}{t:TypeId}{X:Array Value}(h:Blk w g t X)(e:w'.heap[g]? = w.heap[g]?):Blk w' g t X:=by
 unfold Blk at h ⊢;rw[e];exact h
theorem WInv.aK(h:WInv c B m b x)(hc:c.Ok):(ZaI c x).acks.length=5:=by
 obtain⟨H,hH,hi,_⟩:=h.hub;show(if x.hub.s.up=true then Za9 x.hub.s.told else List.replicate 5 ZCz).length=5
 split
 ·rename_i hu;obtain⟨_,_,g3⟩:=hi.up hu;have hl:=hi.inv.len2;rw[g3] at hl;have h5:=hc.n5;exact ZcT (by simp only at hl;omega)
 ·simp
theorem ZfT(h:WorldAt own t w p c x)(hf:Fresh own w)(hi:WInv c B m b x)(hc:c.Ok)(hm:m<=100):Calls prog 48 #[ptrV p] w (Zv (ZbF (ZaI c x)) w):=by
 have h5:=hc.n5;have eo:tot B.made<=100:=ZT hi.sum hm;have hz:=ZBn w 101 (Zl ZaZ);have cD:=(ZW w.heap.size w).alloc (ZL _) (.cells (Zl ZaZ) 101);have cX:Upd (λ _=>False) own own w _:=ZUb cD hf;have qI:=h.upd cX (λ _ _ h=>h) (λ h=>h) h5;obtain⟨vn,hp,lp,bY,fI,eS⟩:=qI.hub;obtain⟨H,hH,o6,_⟩:=hi.hub;have hS:=Zj0 fI cX.fresh o6 hc eo;rw[ZrU c x] at hS;have rp:=hi.aK hc;have eK:=Zon c x;have cM:Zcq c x 0=⟨(ZaI c x).up,(ZaI c x).base,(ZaI c x).len,(ZaI c x).acks,Zaq (λ _=>quad0) 0⟩:=by
  unfold Zcq;rw[Zmx]
 have hK:∀ k,Zcq c x k=⟨(ZaI c x).up,(ZaI c x).base,(ZaI c x).len,(ZaI c x).acks,Zaq (λ r=>ZdB (Zbz (x.nodes r).s)) k⟩:=λ k=>rfl
 rw[←eK];generalize (ZaI c x).up=u at *;generalize (ZaI c x).base=bs at *;generalize (ZaI c x).len=ln at *;generalize (ZaI c x).acks=ac at *;have G7:=ZH (Zl4 u bs ln rp);obtain⟨W0,gJ⟩:∃ W0,W0=w.alloc (.cells (Zl ZaZ) 101):=⟨_,rfl⟩;rw[←gJ] at hS hz cD bY qI cX;obtain⟨l5,HS,HZ,HW,mW,HI,H5,HK,Ih⟩:=ZH9 gJ hS hz qI cX hi rp hK cM;have p9:=ZH bY;obtain⟨c0,c1,c2⟩:=bY.three;have cQ:=bY.lt;clear h hf hi hz cD cX bY fI eS o6 hS gJ qI rp hK cM eK;go_enter func48,ntmps48
 go_wp2_with (first
  |(refine Zy rfl 101 rfl (Zl ZaZ) ZK ?_
    rw[←l5.out]))
 refine HS.out.mono ?_;rintro _ w1 ⟨rfl,bS⟩;have co:Upd (λ _=>False) own own W0 w1:=ZUb bS mW.out.fresh;obtain⟨ft,da,mn⟩:=ZH3 (HW.out.upd co (λ _ _ h=>h) (λ h=>h) h5) (mW.out.trans co) (HZ.out.ob bS);clear co bS HS HW mW HZ l5
 go_wp2_with (first
  |(refine Zan rfl 101 _ rfl (Zl ⟨u,bs,ln,ac,Zaq (λ _=>quad0) 0⟩) ?hf ?_
    case hf =>
     go_simp
     exact G7.out)
  |(refine Zy rfl 101 rfl (Zl ZaZ) ZK ?_)
  |(refine wpList_store_row rfl 101 (.tmp 3) (.tmp 13) rfl w1.heap.size (Zl ⟨u,bs,ln,ac,Zaq (λ _=>quad0) 0⟩) rfl rfl 101 (Zl ZaZ) (ZBn w1 101 _) (by rw[Zcr _ _ _ H5.out];exact Zgq) (by rw[Zcr _ _ _ H5.out];exact Zcr _ _ _ rfl _ _) (Zko _ _ _ _ _ _) ?_
    have za:Blk ((w1.alloc (.cells (Zl ZaZ) 101)).setRow w1.heap.size (Zl ⟨u,bs,ln,ac,Zaq (λ _=>quad0) 0⟩)) w1.heap.size 101 (Zl ⟨u,bs,ln,ac,Zaq (λ _=>quad0) 0⟩):=(ZBn _ _ _).row _;have dE:Kept w1.heap.size w1 ((w1.alloc (.cells (Zl ZaZ) 101)).setRow w1.heap.size (Zl ⟨u,bs,ln,ac,Zaq (λ _=>quad0) 0⟩)):=((ZKr w1).alloc _).row (ZL _) _;have nP:0<w1.heap.size:=by have:=mn.out.lt;omega
    obtain⟨W3,m7⟩:∃ W3,W3=(w1.alloc (.cells (Zl ZaZ) 101)).setRow w1.heap.size (Zl ⟨u,bs,ln,ac,Zaq (λ _=>quad0) 0⟩):=⟨_,rfl⟩;rw[←m7] at za dE ⊢;have cC:=ZH dE;have cO:Upd (λ _=>False) own own w1 W3:=ZUb dE.below da.out.fresh;have qg:=ZH za;have dS:=cO.am (ZL w1.heap.size) za.lt (t+5000);obtain⟨o3,rH⟩:∃ o,o=own.at_ w1.heap.size (t+5000):=⟨_,rfl⟩;rw[←rH] at dS;have Bc:o3 w1.heap.size=t+5000:=by rw[rH];exact if_pos rfl
    obtain⟨nJ,dI,rY⟩:=ZH3 (ft.out.upd dS (λ _ _ h=>h) (λ h=>h) h5) (da.out.trans dS) (mn.out.ob dE.below);obtain⟨g1,a,kk,hp',lp',ps,g2,g3,g4,g5,g6,g7,g8⟩:=nJ.out;obtain⟨d0,d1,d2⟩:=g2.three;have Lk:=g2.lt;obtain⟨dj,ep,gV,gw,JQ,qU,JX⟩:=ZH7 g2 g3 g4 g5 g6 g1 Bc
    clear m7 za dE cO dS rH Bc g1 g2 g3 g4 g5 g6 g7 g8))
 have xA:Hid (Kept w.heap.size w W3):=ZH ⟨by
  have h1:=dI.out
  exact⟨h1.os,h1.tape,h1.output,h1.size,λ k hk=>h1.same k hk (λ h=>h)⟩,dI.out.size⟩
 have zW:=ZH (Upd.refl (· = t+5000) o3 W3 dI.out.fresh);have E5:=mn.out.lt;go_loopw [19] (λ i wr=>∃ (k:Nat),k<=c.n/\i = .int .i64 k/\Hid (Blk wr w1.heap.size 101 (Zl (Zcq c x k)))/\Hid (Blk wr w.heap.size 101 (Zl ZaZ))/\Hid (Upd (· = t+5000) o3 o3 W3 wr)/\Hid (Kept w.heap.size w wr)) (λ i _=>c.n-(intOf i).toNat)
 case atStart=>exact⟨0,ZO,rfl,by rw[Ih.out];exact qg,rY,zW,xA⟩
 case round =>
  clear qg rY zW xA d0 d1 d2 Lk;obtain⟨k,jB,rfl,JR,Kv,BR,JA⟩:=hrel;by_cases il:k<c.n
  ·have jC:(k:Int)<(c.n:Int):=ZO;have cA:(0:Int)<=(k:Int):=ZO;have ef:(k:Int)<(5:Int):=ZO;have hq:=ZX (l:=ps) (i:=k) (by have:=gw.out;omega);obtain⟨q,tX⟩:∃ q,q=ps[k]'(by have:=gw.out;omega):=⟨_,rfl⟩;rw[←tX] at hq;have K6:∀ n,Zp t n->¬ n=t+5000:=λ n hn=>by obtain⟨h1,h2⟩:=hn;omega
   have xH:=ZH ((JQ.out k q hq).upd BR.out λ n hn=>K6 n (hn.world ZO));have oO:=Zh ep.out (λ g hg hl=>BR.out.same g hl (by rw[gV.out g hg];omega));obtain⟨g,rfl,eB,bU⟩:=Zby oO ZO;have ib:=bU k (by rw[List.length_map];have:=gw.out;omega);rw[List.getElem?_map,hq] at ib;have ib:wr.cell? ⟨g,k,none⟩=some (ptrV q):=ib;clear oO bU tX hq K6;go_wp2_with fail;refine wp_region_noPanic (ZcN (λ w'=>Kept wr.heap.size wr w') [(0,3),(2,3),(3,3),(4,3)] 1 [(5,1),(6,2),(7,3)] 5 [(1,1),(6,2),(7,3)] ZK ZK (λ _ _ _ _ _ h=>h) (Kept.drew ⟨ZW _ _,ZL _⟩) (λ bR=>?_));repeat((first | refine ZSa ?_ | refine ZSb ?_ | refine ZSc ?_);simp only[Act.put,ZA,ZB,ZC])
   refine Zfb (λ bR=>?_) (λ bR=>?_);focus
    refine ZSd λ K hK=>?_
    go_simp;have dh:Upd (λ _=>False) o3 o3 wr wr.drew:=ZUb (ZW wr.heap.size wr).drew BR.out.fresh;refine(Zgg (xH.out.upd dh (λ _ _ h=>h)) dh.fresh (HI.out.nodes _ il) eo).mono ?_;intro e w4 hP;obtain⟨vh,vl,rfl,lM,jh,cz⟩:=hP.all;obtain⟨ah,kh,rfl⟩:=lM.slice;obtain⟨al,kl,rfl⟩:=jh.slice;obtain⟨S,hS⟩:∃ S,S=Zbz (x.nodes k).s:=⟨_,rfl⟩;rw[←hS];have iA:=ZH hS;refine hK.out (λ w'=>Kept wr.heap.size wr w') _ _ (λ _ h=>h) (bR.step cz) (λ bT=>?_);clear hK K bR cz dh lM jh hS;repeat((first | refine ZSa ?_ | refine ZSb ?_ | refine ZSc ?_);simp only[Act.put,ZA,ZB,ZC])
    refine ZSd λ K hK=>?_
    go_simp;refine hK.out (λ w'=>Kept wr.heap.size wr w') _ _ (λ _ h=>h) (bT.alloc _) (λ eW=>?_);clear hK K eW;refine ZSe λ K hK=>?_
    go_simp;have EE:Blk (w4.alloc (.cells (Zx S.up S.clk S.sent (.slice ah S.held.length kh) (.slice al S.log.length kl)) 47)) w4.heap.size 47 (Zx S.up S.clk S.sent (.slice ah S.held.length kh) (.slice al S.log.length kl)):=ZBn _ _ _;have ID:Kept wr.heap.size wr (w4.alloc (.cells (Zx S.up S.clk S.sent (.slice ah S.held.length kh) (.slice al S.log.length kl)) 47)):=bT.alloc _;have wJ:=bT.le;refine hK.out _ (w4.alloc (.cells (Zx S.up S.clk S.sent (.slice ah S.held.length kh) (.slice al S.log.length kl)) 47)) ?_;clear hK K bT;generalize w4.alloc (.cells (Zx S.up S.clk S.sent (.slice ah S.held.length kh) (.slice al S.log.length kl)) 47)=W5 at *;obtain⟨kb,Cb⟩:∃ kb,kb=w4.heap.size:=⟨_,rfl⟩;rw[←Cb] at EE wJ ⊢
   rotate_left
   focus
    refine ZSd λ K hK=>?_
    go_simp;refine hK.out (λ w'=>Kept wr.heap.size wr w') _ _ (λ _ h=>h) (bR.alloc _) (λ bT=>?_);clear hK K bR;have cD:Blk (wr.drew.alloc (.cells (Zx false ZCz 0 (.slice none 0 0) (.slice none 0 0)) 47)) wr.heap.size 47 (Zx false ZCz 0 (.slice none 0 0) (.slice none 0 0)):=ZBn _ _ _;refine ZSd λ K hK=>?_
    go_simp;have dh:Upd (λ _=>False) o3 o3 wr (wr.drew.alloc (.cells (Zx false ZCz 0 (.slice none 0 0) (.slice none 0 0)) 47)):=ZUb bT.below BR.out.fresh;refine(Zgg (xH.out.upd dh (λ _ _ h=>h)) dh.fresh (HI.out.nodes _ il) eo).mono ?_;intro e w4 hP;obtain⟨vh,vl,rfl,lM,jh,cz⟩:=hP.all;obtain⟨ah,kh,rfl⟩:=lM.slice;obtain⟨al,kl,rfl⟩:=jh.slice;obtain⟨S,hS⟩:∃ S,S=Zbz (x.nodes k).s:=⟨_,rfl⟩;rw[←hS];have iA:=ZH hS;refine hK.out (λ w'=>Kept wr.heap.size wr w') _ _ (λ _ h=>h) (bT.step cz) (λ eW=>?_);have Iy:=cD.ob cz;clear hK K bT cz dh lM jh hS cD;repeat((first | refine ZSa ?_ | refine ZSb ?_ | refine ZSc ?_);simp only[Act.put,ZA,ZB,ZC])
    have Te:=λ i=>Iy.frozen i
    obtain⟨z0,z1,z2,z3,z4,z5,z6,z7,z8⟩:=Iy.aj;refine ZSe λ K hK=>?_
    go_simp;have EE:Blk (setAll w4 wr.heap.size 0 (Zx S.up S.clk S.sent (.slice ah S.held.length kh) (.slice al S.log.length kl)).toList) wr.heap.size 47 (Zx S.up S.clk S.sent (.slice ah S.held.length kh) (.slice al S.log.length kl)):=Zaw Iy rfl;have ID:Kept wr.heap.size wr (setAll w4 wr.heap.size 0 (Zx S.up S.clk S.sent (.slice ah S.held.length kh) (.slice al S.log.length kl)).toList):=ZaB eW (ZL _) 0 _;refine hK.out _ (setAll w4 wr.heap.size 0 (Zx S.up S.clk S.sent (.slice ah S.held.length kh) (.slice al S.log.length kl)).toList) ?_;clear hK K eW Iy Te z0 z1 z2 z3 z4 z5 z6 z7 z8;generalize setAll w4 wr.heap.size 0 (Zx S.up S.clk S.sent (.slice ah S.held.length kh) (.slice al S.log.length kl)).toList=W5 at *;obtain⟨kb,Cb⟩:∃ kb,kb=wr.heap.size:=⟨_,rfl⟩;have wJ:wr.heap.size<=kb:=ZO;rw[←Cb] at EE ⊢
   rotate_left
   all_goals
    clear Cb;repeat((first | refine ZSa ?_ | refine ZSb ?_ | refine ZSc ?_);simp only[Act.put,ZA,ZB,ZC])
    refine ZSf ?_;obtain⟨G3,CT,Rf,G0⟩:=ZH4 EE ID wJ (JR.out.ob ID.below);clear EE ID wJ c0 c1 c2 ib;go_wp2_with fail;refine ZSg (λ w'=>Blk w' kb 47 (Zx S.up S.clk S.sent (.slice ah S.held.length kh) (.slice al S.log.length kl))) [(0,3),(1,3),(2,3),(3,3),(4,3),(5,0),(6,3),(7,0),(8,3),(9,0),(10,3),(11,3),(12,0),(13,3),(14,0),(15,3),(16,1),(17,0),(18,3),(19,1),(20,0),(21,3),(22,1),(23,0),(24,3),(25,1)] ((G3.out.ob (ZW _ _).drew)) λ bR=>?_
    repeat((first | refine ZSa ?_ | refine ZSb ?_ | (refine Zf rfl (by rfl) (λ w' ci=>by(obtain⟨z0,z1,z2,z3,z4,z5,z6,z7,z8⟩:=ci.aj);go_simp;with_reducible rfl) ?_));simp only[Act.put,ZA,ZB,ZC])
    have wY:=Zcr u bs ln H5.out (λ r=>ZdB (Zbz (x.nodes r).s)) k;rw[←HK.out k] at wY;have wG:kb≠w1.heap.size:=by have:=JR.out.lt;have:=Rf.out;omega
    have jU:W5.drew.there w1.heap.size (36+k*8) 5:=λ i hi=>by
     refine⟨?_,G0.out.drew.frozen _⟩;rw[G0.out.drew.cell,Array.getElem?_eq_getElem ZO];rfl
    refine ZSd λ K hK=>?_
    refine wp_store_mid 44 (.tmp 44) (.tmp 34) rfl w1.heap.size (36+k*8) (clkArr S.clk) rfl rfl jU ZK ZK ?_;rw[ZeF];have Of:(Zl (Zcq c x k)).toList.length=76:=by rw[Array.length_toList,wY]
    have BY:=Zba (clkArr S.clk).toList (36+k*8) W5.drew (Zl (Zcq c x k)).toList (by simpa using G0.out.drew) (by rw[Of];show 36+k*8+5<=76;omega);have uw:=(G3.out.ob (ZW _ _).drew).other (w':=setAll W5.drew w1.heap.size (36+k*8) (clkArr S.clk).toList) (Zaj wG _ _ _);obtain⟨X6,wg⟩:∃ X,X=((Zl (Zcq c x k)).toList.take (36+k*8)++(clkArr S.clk).toList++(Zl (Zcq c x k)).toList.drop (36+k*8+(clkArr S.clk).toList.length)).toArray:=⟨_,rfl⟩;have Bn:X6.size=76:=by
     rw[wg];have:(Zl (Zcq c x k)).toList.length=76:=by rw[Array.length_toList,wY]
     have h5:(clkArr S.clk).toList.length=5:=rfl;simp only[List.size_toArray,ZI,ZV,List.length_drop,this,h5];omega
    rw[←wg] at BY;obtain⟨W6,uz⟩:∃ W,W=setAll W5.drew w1.heap.size (36+k*8) (clkArr S.clk).toList:=⟨_,rfl⟩;rw[←uz] at BY uw ⊢;have Aa:=ZH uz;refine hK.out (λ w'=>Blk w' kb 47 (Zx S.up S.clk S.sent (.slice ah S.held.length kh) (.slice al S.log.length kl))) _ _ (λ _ h=>h) uw (λ bR=>?_);clear hK K bR jU uz wg wY Of;repeat((first | refine ZSa ?_ | refine ZSb ?_ | (refine Zf rfl (by rfl) (λ w' ci=>by(obtain⟨z0,z1,z2,z3,z4,z5,z6,z7,z8⟩:=ci.aj);go_simp;with_reducible rfl) ?_));simp only[Act.put,ZA,ZB,ZC])
    have AQ:=BY.frozen (36+k*8+5);obtain⟨v0,y0⟩:=BY.ba (i:=36+k*8+5) Bn ZO;refine ZSd λ K hK=>?_
    go_simp;obtain⟨X7,Bo,Ek⟩:=BY.bm Bn (36+k*8+5) (.int .i64 S.sent);have lh:=uw.other (w':=W6.setCell ⟨w1.heap.size,36+k*8+5,none⟩ (.int .i64 S.sent)) (Below.heap_setCell _ _ _ _ wG);obtain⟨W7,iK⟩:∃ W,W=W6.setCell ⟨w1.heap.size,36+k*8+5,none⟩ (.int .i64 S.sent):=⟨_,rfl⟩;rw[←iK] at Ek lh ⊢;have ri:=ZH iK;refine hK.out (λ w'=>Blk w' kb 47 (Zx S.up S.clk S.sent (.slice ah S.held.length kh) (.slice al S.log.length kl))) _ _ (λ _ h=>h) lh (λ bR=>?_);clear hK K bR AQ v0 y0 iK BY Bn uw;repeat((first | refine ZSa ?_ | refine ZSb ?_ | (refine Zf rfl (by rfl) (λ w' ci=>by(obtain⟨z0,z1,z2,z3,z4,z5,z6,z7,z8⟩:=ci.aj);go_simp;with_reducible rfl) ?_));simp only[Act.put,ZA,ZB,ZC])
    have AQ:=Ek.frozen (36+k*8+6);obtain⟨v0,y0⟩:=Ek.ba (i:=36+k*8+6) Bo ZO;refine ZSd λ K hK=>?_
    go_simp;obtain⟨X8,Bp,El⟩:=Ek.bm Bo (36+k*8+6) (.int .i64 S.held.length);have vP:=lh.other (w':=W7.setCell ⟨w1.heap.size,36+k*8+6,none⟩ (.int .i64 S.held.length)) (Below.heap_setCell _ _ _ _ wG);obtain⟨W8,K8⟩:∃ W,W=W7.setCell ⟨w1.heap.size,36+k*8+6,none⟩ (.int .i64 S.held.length):=⟨_,rfl⟩;rw[←K8] at El vP ⊢;have RG:=ZH K8;refine hK.out (λ w'=>Blk w' kb 47 (Zx S.up S.clk S.sent (.slice ah S.held.length kh) (.slice al S.log.length kl))) _ _ (λ _ h=>h) vP (λ bR=>?_);clear hK K bR AQ v0 y0 K8 Ek Bo lh;repeat((first | refine ZSa ?_ | refine ZSb ?_ | (refine Zf rfl (by rfl) (λ w' ci=>by(obtain⟨z0,z1,z2,z3,z4,z5,z6,z7,z8⟩:=ci.aj);go_simp;with_reducible rfl) ?_));simp only[Act.put,ZA,ZB,ZC])
    have AQ:=El.frozen (36+k*8+7);obtain⟨v0,y0⟩:=El.ba (i:=36+k*8+7) Bp ZO;refine ZSd λ K hK=>?_
    go_simp;obtain⟨X9,wZ,Ip⟩:=El.bm Bp (36+k*8+7) (.int .i64 S.log.length);have pE:=vP.other (w':=W8.setCell ⟨w1.heap.size,36+k*8+7,none⟩ (.int .i64 S.log.length)) (Below.heap_setCell _ _ _ _ wG);obtain⟨W9,uA⟩:∃ W,W=W8.setCell ⟨w1.heap.size,36+k*8+7,none⟩ (.int .i64 S.log.length):=⟨_,rfl⟩;rw[←uA] at Ip pE ⊢;have RH:=ZH uA;refine hK.out (λ w'=>Blk w' kb 47 (Zx S.up S.clk S.sent (.slice ah S.held.length kh) (.slice al S.log.length kl))) _ _ (λ _ h=>h) pE (λ bR=>?_);clear hK K bR AQ v0 y0 uA El Bp vP;refine ZSf ?_;have hq:ZdB S=ZdB (Zbz (x.nodes k).s):=by rw[iA.out]
    have uA:W9=setAll W5.drew w1.heap.size (36+k*8) (nodeC (ZdB S)):=by
     rw[RH.out,RG.out,ri.out,Aa.out];rfl
    have gy:=G0.out.drew;rw[HK.out k] at gy;have hN:=ZpJ H5.out (by omega:k<5) gy;have hU:Upd (· = t+5000) o3 o3 W3 W9:=by
     rw[uA];exact((BR.out.trans (ZUb (CT.out.below) BR.out.fresh)).drew).setAll (λ _=>JX.out) _ _
    have Om:Kept w.heap.size w W9:=by
     rw[uA];exact ZaB (JA.out.trans CT.out JA.out.le).drew (by have:=E5;omega) _ _
    have hZ:Blk W9 w.heap.size 101 (Zl ZaZ):=by
     rw[uA];exact((Kv.out.ob CT.out.below).drew).other (Zaj (by have:=E5;omega) _ _ _)
    rw[hq] at uA;rw[←uA] at hN;obtain⟨xF,gZ,Q3,Al⟩:=ZH4 hN hU Om hZ;clear hq uA gy hN hU Om hZ Ip wZ pE;go_wp2
    go_roundw
    case rel=>exact⟨k+1,ZO,ZN,by rw[HK.out (k+1)];exact xF,Al,gZ,Q3⟩
    case measure=>simp[intOf];omega
  ·obtain rfl:k=c.n:=ZO;have sg:=Zcr u bs ln H5.out (λ r=>ZdB (Zbz (x.nodes r).s)) c.n;rw[←HK.out c.n] at sg;have ed:=Zko u bs ln ac (λ r=>ZdB (Zbz (x.nodes r).s)) c.n;rw[←HK.out c.n] at ed;have jA:(prog.info? 101).map (λ i=>i.size)=some (Zl (Zcq c x c.n)).size:=by rw[sg];exact Zgq
   go_wp2_with (first
    |(refine wpList_load_row rfl 101 (.tmp 3) rfl w1.heap.size rfl 101 (Zl (Zcq c x c.n)) (0,0) _ JR.out Zjc rfl jA ?_)
    |(refine wpList_store_row rfl 101 (.tmp 2) (.tmp 52) rfl w.heap.size (Zl (Zcq c x c.n)) rfl rfl 101 (Zl ZaZ) Kv.out jA (by rw[sg];exact Zcr _ _ _ rfl _ _) ed ?_))
   refine bodyPost_ret (Zac rfl rfl (run_loadVar_row _ _ _ _ _ _ _ (Kv.out.row _) Zjc rfl jA)) rfl ?_;exact⟨rfl,(JA.out.row (ZL _) _).below⟩
end
end
end Go.Proofs.YtjkfognelhiepaaGreat
